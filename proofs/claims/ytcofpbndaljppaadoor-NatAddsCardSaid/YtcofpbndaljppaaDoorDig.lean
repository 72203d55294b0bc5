/- Digits of eight bits: plain lemmas. -/
import Derived.Test.YtcofpbndaljppaaDoorExp
namespace Go.Proofs.YtcofpbndaljppaaDoor.Num
open Go.RowKit Go.Proofs.YtcofpbndaljppaaDoor.Hp Go.Proofs.YtcofpbndaljppaaDoorW.PrintWords Go.Proofs.YtcofpbndaljppaaDoorW.PrintLast Go.Proofs.YtcofpbndaljppaaDoorW.PrintMore

def G (n : Nat) : List Int := dig 256 n
theorem G2 : 2 ≤ 256 := by decide
theorem G_Dg (n : Nat) : Dg 256 (G n) := dig_Dg G2 n
theorem G_val (n : Nat) : val 256 (G n) = n := dig_val G2 n
theorem G_Nz (n : Nat) : Nz (G n) := dig_Nz G2 n
theorem trimz_G {l : List Int} {n : Nat} (h : Dg 256 l) (hv : val 256 l = n) : trimz l = G n := trimz_dig G2 h hv
theorem G_zero : G 0 = [] := rfl
theorem be_G (n : Nat) : be n = (G n).reverse := rfl
theorem be_len (n : Nat) : (be n).length = (G n).length := List.length_reverse ..
theorem G_lt {n L : Nat} (h : (n : Int) < 256 ^ L) : (G n).length ≤ L := by
  rcases Nat.lt_or_ge L (G n).length with hl | hl
  · have h1 := val_ge (by decide) (G_Dg n) (G_Nz n) (by intro e; rw [e] at hl; simp at hl)
    rw [G_val] at h1
    have h2 : (256 : Int) ^ L ≤ 256 ^ ((G n).length - 1) := pow_mono (by decide) (by omega)
    omega
  · exact hl
theorem G_len_mono {x y : Nat} (h : x ≤ y) : (G x).length ≤ (G y).length := by
  refine G_lt ?_
  have := val_lt (by decide) (G_Dg y)
  rw [G_val] at this
  omega
theorem G_vb_len {l : List Int} (h : Dg 256 l) : (G (vb l)).length ≤ l.length := by
  refine G_lt ?_
  rw [vb_V h]
  exact V_lt h
theorem G_pos {n : Nat} : 0 < n ↔ 0 < (G n).length := by
  constructor
  · intro h
    rcases Nat.lt_or_ge 0 (G n).length with h1 | h1
    · exact h1
    · have := G_val n
      rw [List.eq_nil_of_length_eq_zero (by omega : (G n).length = 0)] at this
      simp [val] at this
      omega
  · intro h
    rcases Nat.eq_zero_or_pos n with h1 | h1
    · subst h1; rw [G_zero] at h; simp at h
    · exact h1
theorem G_mul_len (x y : Nat) : (G (x * y)).length ≤ (G x).length + (G y).length := by
  refine G_lt ?_
  have h1 := val_lt (by decide) (G_Dg x)
  have h2 := val_lt (by decide) (G_Dg y)
  rw [G_val] at h1 h2
  rw [Int.pow_add]
  push_cast
  have h3 : (x : Int) * y ≤ x * 256 ^ (G y).length := Int.mul_le_mul_of_nonneg_left (Int.le_of_lt h2) (Int.natCast_nonneg _)
  exact Int.lt_of_le_of_lt h3 (mlt h1 (pow_pos' (by decide) _))

theorem G_add_len (x y : Nat) : (G (x + y)).length ≤ (G x).length + (G y).length + 1 := by
  refine G_lt ?_
  have h1 := val_lt (by decide) (G_Dg x)
  have h2 := val_lt (by decide) (G_Dg y)
  rw [G_val] at h1 h2
  have h3 : (256 : Int) ^ (G x).length ≤ 256 ^ ((G x).length + (G y).length) := pow_mono (by decide) (by omega)
  have h4 : (256 : Int) ^ (G y).length ≤ 256 ^ ((G x).length + (G y).length) := pow_mono (by decide) (by omega)
  have h5 := pow_pos' (b := 256) (by decide) ((G x).length + (G y).length)
  rw [Int.pow_succ]
  push_cast
  generalize (256 : Int) ^ ((G x).length + (G y).length) = p at *
  omega
theorem G_one : G 1 = [1] := by decide +kernel
theorem G_two : G 2 = [2] := by decide +kernel
end Go.Proofs.YtcofpbndaljppaaDoor.Num
