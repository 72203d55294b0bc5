/- The printed functions of layer 6 that the statements call: what they answer, of bytes. -/
import Derived.Test.YtcofpbndaljppaaDoorQuot
import Derived.Test.YtcofpbndaljppaaDoorHp1
import Derived.Test.YtcofpbndaljppaaDoorHp5
namespace Go.Proofs.YtcofpbndaljppaaDoor.Num
open Go.RowKit Go.Proofs.YtcofpbndaljppaaDoor.Hp Go.Proofs.YtcofpbndaljppaaDoorW.PrintWords Go.Proofs.YtcofpbndaljppaaDoorW.PrintLast Go.Proofs.YtcofpbndaljppaaDoorW.PrintMore

theorem D_pos {n : Nat} : 0 < n ↔ 0 < (D n).length := by
  constructor
  · intro h
    rcases Nat.lt_or_ge 0 (D n).length with h1 | h1
    · exact h1
    · have := D_val n
      rw [List.eq_nil_of_length_eq_zero (by omega : (D n).length = 0)] at this
      simp [val] at this
      omega
  · intro h
    rcases Nat.eq_zero_or_pos n with h1 | h1
    · subst h1; rw [D_zero] at h; simp at h
    · exact h1
theorem D_mul_len (x y : Nat) : (D (x * y)).length ≤ (D x).length + (D y).length := by
  refine D_lt ?_
  have h1 := val_lt (by decide) (D_Dg x)
  have h2 := val_lt (by decide) (D_Dg y)
  rw [D_val] at h1 h2
  rw [Int.pow_add]
  push_cast
  have h3 : (x : Int) * y ≤ x * 4294967296 ^ (D y).length := Int.mul_le_mul_of_nonneg_left (Int.le_of_lt h2) (Int.natCast_nonneg _)
  exact Int.lt_of_le_of_lt h3 (mlt h1 (pow_pos' (by decide) _))
theorem D_add_len (x y : Nat) : (D (x + y)).length ≤ (D x).length + (D y).length + 1 := by
  refine D_lt ?_
  have h1 := val_lt (by decide) (D_Dg x)
  have h2 := val_lt (by decide) (D_Dg y)
  rw [D_val] at h1 h2
  have h3 : (4294967296 : Int) ^ (D x).length ≤ 4294967296 ^ ((D x).length + (D y).length) := pow_mono (by decide) (by omega)
  have h4 : (4294967296 : Int) ^ (D y).length ≤ 4294967296 ^ ((D x).length + (D y).length) := pow_mono (by decide) (by omega)
  have h5 := pow_pos' (b := 4294967296) (by decide) ((D x).length + (D y).length)
  rw [Int.pow_succ]
  push_cast
  generalize (4294967296 : Int) ^ ((D x).length + (D y).length) = p at *
  omega
theorem D_vb_len {l : List Int} (h : Dg 256 l) : (D (vb l)).length ≤ l.length := by
  refine D_lt ?_
  have h1 := V_lt h
  rw [vb_V h]
  have h2 : (256 : Int) ^ l.length ≤ 4294967296 ^ l.length := by
    generalize l.length = n
    induction n with
    | zero => decide
    | succ n ih =>
      rw [Int.pow_succ, Int.pow_succ]
      have := pow_pos' (b := 4294967296) (by decide) n
      exact Int.mul_le_mul ih (by decide) (by decide) (Int.le_of_lt this)
  omega
theorem D_one : D 1 = [1] := by decide +kernel
theorem D_two : D 2 = [2] := by decide +kernel

/-! ### greatest divisors -/
theorem gcd_ev {L : Nat} (hL : L < 1099511627775) : ∀ (y x : Nat), (D x).length ≤ L → (D y).length ≤ L → Ev (fun k => nat_gcd.f k (D x) (D y)) (D (Nat.gcd x y)) := by
  intro y
  induction y using Nat.strongRecOn with
  | ind y ih =>
    intro x hx hy
    refine Ev.step (g := fun k => nat_gcd.l0 k (D x) (D y)) (fun k => by rw [nat_gcd.l0]) ?_
    rcases Nat.eq_zero_or_pos y with h | h
    · subst h
      refine Ev.ifF (by rw [D_zero]; simp) ?_
      rw [Nat.gcd_zero_right]
      exact Ev.now _
    · have := D_pos.1 h
      refine Ev.ifT (by omega) (Ev.bind (div_ev h (by omega) (by omega)) ?_)
      have hm := Nat.mod_lt x h
      have := ih (x % y) hm y hy (Nat.le_trans (D_len_mono (Nat.le_of_lt hm)) hy)
      rw [Nat.gcd_comm y, ← Nat.gcd_rec, Nat.gcd_comm] at this
      exact this

/-! ### powers -/
theorem and_bit {b : Int} {i : Nat} (h0 : 0 ≤ b) (h1 : b < 256) (hi : i < 8) : Go.bits .and .u8 (shr .u8 b (i : Int)) 1 = b / 2 ^ i % 2 := by
  unfold shr
  rw [show min ((i : Int)).toNat IntKind.u8.bits = i from Nat.min_eq_left (by show i ≤ 8; omega)]
  have h2 : 0 ≤ b / 2 ^ i := Int.ediv_nonneg h0 (Int.le_of_lt (pow_pos' (by decide) _))
  have h3 : b / 2 ^ i ≤ b := Int.ediv_le_self _ h0
  have := bits_mask .u8 8 (by decide) wraps_u8 1 (by decide) (b / 2 ^ i) h2 (by omega)
  exact this
theorem exp_in (n X : Nat) (hn : 0 < n) (L : Nat) (hL : L < 1000000) (hnL : (D n).length ≤ L) (b : Nat) (hb : b < 256) (e : List Int) (el ei : Int) {r : List Int × Int} :
    ∀ (d k : Nat), d ≤ 8 → Ev (fun m => nat_Exp.l0 m (D n) (D (X % n)) (D (X ^ (k * 2 ^ d + b % 2 ^ d) % n)) e el (wrap64 (ei + 1))) r →
    Ev (fun m => nat_Exp.l1 m (D n) (D (X % n)) (D (X ^ k % n)) b ((d : Int) - 1) e el ei) r := by
  intro d
  induction d with
  | zero =>
    intro k _ next
    refine Ev.step (fun k => by rw [nat_Exp.l1]) (Ev.ifF (by omega) ?_)
    simpa [Nat.mod_one] using next
  | succ d ih =>
    intro k hd next
    have lo : ∀ z, (D (z % n)).length ≤ L := fun z => Nat.le_trans (D_len_mono (Nat.le_of_lt (Nat.mod_lt z hn))) hnL
    have hmul : ∀ y z, (D ((y % n) * (z % n))).length ≤ 2 * L := fun y z => by
      have := D_mul_len (y % n) (z % n)
      have := lo y
      have := lo z
      omega
    have e0 : ((d + 1 : Nat) : Int) - 1 = (d : Int) := by omega
    have w1 : Is (wrap64 ((d : Int) - 1)) ((d : Int) - 1) := ⟨by rw [w64 (by omega) (by omega)]⟩
    refine Ev.step (fun k => by rw [nat_Exp.l1]) ?_
    have hk := lo (X ^ k)
    have hx1 := lo X
    have h1 := hmul (X ^ k) (X ^ k)
    have hs : k * 2 ^ (d + 1) + b % 2 ^ (d + 1) = (2 * k + b / 2 ^ d % 2) * 2 ^ d + b % 2 ^ d := by
      rw [Nat.pow_succ, Nat.mod_mul]
      grind
    rw [hs] at next
    have sq : (X ^ k % n) * (X ^ k % n) % n = X ^ (2 * k) % n := by rw [← Nat.mul_mod, ← Nat.pow_add]; congr 2; omega
    have hbit := and_bit (b := (b : Int)) (i := d) (by omega) (by omega) (by omega)
    have hbn : (b : Int) / 2 ^ d % 2 = ((b / 2 ^ d % 2 : Nat) : Int) := by push_cast; rfl
    rw [e0, w1.h, hbit, hbn]
    refine Ev.ifT (by omega) (Ev.bind (mul_ev (by omega)) (Ev.bind (div_ev hn (by omega) (by omega)) (Ev.ifT (by omega) ?_)))
    rw [sq]
    rcases Nat.mod_two_eq_zero_or_one (b / 2 ^ d) with h | h
    · rw [h] at next ⊢
      refine Ev.ifF (by decide) ?_
      exact ih (2 * k) (by omega) next
    · rw [h] at next ⊢
      have h2 := hmul (X ^ (2 * k)) X
      have := lo (X ^ (2 * k))
      refine Ev.ifT rfl (Ev.bind (mul_ev (by omega)) (Ev.bind (div_ev hn (by omega) (by omega)) ?_))
      have m1 : (X ^ (2 * k) % n) * (X % n) % n = X ^ (2 * k + 1) % n := by rw [← Nat.mul_mod, ← Nat.pow_succ]
      rw [m1]
      exact ih (2 * k + 1) (by omega) next
theorem vb_snoc {a : List Int} {x : Int} (h : Dg 256 a) (hx : 0 ≤ x) : vb (a ++ [x]) = vb a * 256 + x.toNat := by
  have := V_nonneg h
  unfold vb
  rw [V_snoc]
  omega
theorem take_snoc {l : List Int} {i : Nat} (h : i < l.length) : l.take (i + 1) = l.take i ++ [rd l (i : Int)] := by
  rw [List.take_succ_eq_append_getElem h, rd_nat]; simp [h]
theorem exp_out (n X : Nat) (hn : 0 < n) (L : Nat) (hL : L < 1000000) (hnL : (D n).length ≤ L) (e : List Int) (he : Dg 256 e) (hel : e.length < 1099511627775) :
    ∀ (d i : Nat), i + d = e.length → Ev (fun m => nat_Exp.l0 m (D n) (D (X % n)) (D (X ^ vb (e.take i) % n)) e e.length i) (be (X ^ vb e % n), 0) := by
  intro d
  induction d with
  | zero =>
    intro i hi
    obtain rfl : i = e.length := by omega
    refine Ev.step (fun k => by rw [nat_Exp.l0]) (Ev.ifF (by omega) ?_)
    rw [List.take_length]
    have := D_len_mono (Nat.le_of_lt (Nat.mod_lt (X ^ vb e) hn))
    exact Ev.bind (bytes_D _ (by omega)) (Ev.now _)
  | succ d ih =>
    intro i hi
    refine Ev.step (fun k => by rw [nat_Exp.l0]) ?_
    have f0 : (i : Int) < (e.length : Int) := by omega
    refine Ev.ifT f0 (Ev.ifT (Int.natCast_nonneg _) (Ev.ifT f0 ?_))
    have hr := he.rd (by decide) (i : Int)
    obtain ⟨b, hb⟩ : ∃ b : Nat, rd e (i : Int) = b := ⟨(rd e (i : Int)).toNat, by omega⟩
    have := exp_in n X hn L hL hnL b (by omega) e e.length i (r := (be (X ^ vb e % n), 0)) 8 (vb (e.take i)) (Nat.le_refl _) (by
      have := ih (i + 1) (by omega)
      rw [take_snoc (by omega), vb_snoc (he.take i) hr.1, hb] at this
      rw [i1 (by omega)]
      have e2 : b % 2 ^ 8 = b := Nat.mod_eq_of_lt (by omega)
      rw [e2]
      simpa using this)
    rw [hb]
    exact this

/-! ### what the statements call, of bytes -/
theorem Dg.of_wf {l : List Int} (h : ∀ x ∈ l, (Lit.int .u8 x).wf = true) : Dg 256 l := by
  intro x hx
  have := h x hx
  simp [Lit.wf, IntKind.min, IntKind.max, IntKind.bits, IntKind.signed] at this
  omega
theorem long_no {l : List (List Int)} (h : ∀ x ∈ l, x.length ≤ 1024) : nat_long.f l = some false := by
  unfold nat_long.f
  refine congrArg some ?_
  rw [List.any_eq_false]
  intro x hx
  have := h x hx
  simp
  omega
theorem long_yes {l : List (List Int)} {x : List Int} (hx : x ∈ l) (h : 1024 < x.length) : nat_long.f l = some true := by
  unfold nat_long.f
  refine congrArg some ?_
  rw [List.any_eq_true]
  exact ⟨x, hx, by simp; omega⟩
end Go.Proofs.YtcofpbndaljppaaDoor.Num
