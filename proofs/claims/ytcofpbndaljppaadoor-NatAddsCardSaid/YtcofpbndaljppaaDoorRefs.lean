/- The document's answer for layer 6: powers and greatest divisors, as digits of eight bits; the statements' example. -/
import Derived.Test.YtcofpbndaljppaaDoorRef
import Derived.Test.YtcofpbndaljppaaDoorHp8
import Derived.Test.YtcofpbndaljppaaDoorHp9
import Derived.Test.YtcofpbndaljppaaDoorHp10
namespace Go.Proofs.YtcofpbndaljppaaDoor.Num
open Go.RowKit Go.Proofs.YtcofpbndaljppaaDoor.Hp Go.Proofs.YtcofpbndaljppaaDoorW.PrintWords Go.Proofs.YtcofpbndaljppaaDoorW.PrintLast Go.Proofs.YtcofpbndaljppaaDoorW.PrintMore

theorem rdiv_small {x y L : Nat} (hy : 0 < y) (hL : L < 1000000) (hx : (G x).length ≤ 2 * L) (hyl : (G y).length ≤ L) : Ev (fun k => lanyardref06_Div.f k (G x) (G y)) (G (x / y), G (x % y)) := by
  have := G_mul_len y 256
  have h2 : (G 256).length = 2 := by decide +kernel
  exact rdiv_ev hy (by omega) (by omega)
theorem rexp_in (n X : Nat) (hn : 0 < n) (L : Nat) (hL : L < 1000000) (hnL : (G n).length ≤ L) (e : List Int) (i b : Nat) (hi : i < e.length) (hb : b < 256) (hbe : rd e (i : Int) = b) {r : List Int} :
    ∀ (d k : Nat), d ≤ 8 → Ev (fun m => lanyardref06_Exp.l0 m e (G n) (G (X % n)) (G (X ^ (k * 2 ^ d + b % 2 ^ d) % n)) (wrap64 ((i : Int) - 1))) r →
    Ev (fun m => lanyardref06_Exp.l1 m e (G n) (G (X % n)) (G (X ^ k % n)) i ((2 ^ d / 2 : Nat) : Int)) r := by
  intro d
  induction d with
  | zero =>
    intro k _ next
    refine Ev.step (fun k => by rw [lanyardref06_Exp.l1]) (Ev.ifF (by decide) ?_)
    simpa [Nat.mod_one] using next
  | succ d ih =>
    intro k hd next
    have lo : ∀ z, (G (z % n)).length ≤ L := fun z => Nat.le_trans (G_len_mono (Nat.le_of_lt (Nat.mod_lt z hn))) hnL
    have hmul : ∀ y z, (G ((y % n) * (z % n))).length ≤ 2 * L := fun y z => by
      have := G_mul_len (y % n) (z % n)
      have := lo y
      have := lo z
      omega
    have ep : 2 ^ (d + 1) / 2 = 2 ^ d := by rw [Nat.pow_succ]; omega
    have hP : 2 ^ d ≤ 128 := by
      have : 2 ^ d ≤ 2 ^ 7 := Nat.pow_le_pow_right (by decide) (by omega)
      omega
    have hP0 : 0 < 2 ^ d := Nat.pow_pos (by decide)
    have hk := lo (X ^ k)
    have hx1 := lo X
    have h1 := hmul (X ^ k) (X ^ k)
    have hs : k * 2 ^ (d + 1) + b % 2 ^ (d + 1) = (2 * k + b / 2 ^ d % 2) * 2 ^ d + b % 2 ^ d := by
      rw [Nat.pow_succ, Nat.mod_mul]
      grind
    rw [hs] at next
    have sq : (X ^ k % n) * (X ^ k % n) % n = X ^ (2 * k) % n := by rw [← Nat.mul_mod, ← Nat.pow_add]; congr 2; omega
    have hbits : ∀ P : Nat, 0 < P → P ≤ 128 → Int.tmod (wrap64 (Int.tdiv (b : Int) (P : Int))) 2 = ((b / P % 2 : Nat) : Int) := by
      intro P h0 h
      have h3 : b / P ≤ b := Nat.div_le_self _ _
      rw [Int.tdiv_eq_ediv_of_nonneg (by omega), show (b : Int) / (P : Int) = ((b / P : Nat) : Int) by rw [Int.natCast_ediv]]
      generalize b / P = t at *
      rw [w64 (by omega) (by omega), Int.tmod_eq_emod_of_nonneg (by omega)]
      omega
    have hhalf : ∀ P : Nat, P ≤ 128 → wrap64 (Int.tdiv (P : Int) 2) = ((P / 2 : Nat) : Int) := by
      intro P h
      rw [Int.tdiv_eq_ediv_of_nonneg (by omega), w64 (by omega) (by omega)]
      omega
    have hpos : ∀ P : Nat, 0 < P → (P : Int) ≥ 1 ∧ ¬ (P : Int) = 0 := fun P h => by omega
    refine Ev.step (fun k => by rw [lanyardref06_Exp.l1]) ?_
    rw [ep, hbe, hbits _ hP0 hP, hhalf _ hP]
    refine Ev.ifT (hpos _ hP0).1 (Ev.bind (rmul_ev (by omega)) (Ev.bind (rdiv_small hn hL (by omega) (by omega)) (Ev.ifT (by omega) (Ev.ifT (by omega) (Ev.ifF (hpos _ hP0).2 ?_)))))
    simp only [sq]
    rcases Nat.mod_two_eq_zero_or_one (b / 2 ^ d) with h | h
    · rw [h] at next ⊢
      refine Ev.ifF (by decide) ?_
      exact ih (2 * k) (by omega) next
    · rw [h] at next ⊢
      have h2 := hmul (X ^ (2 * k)) X
      have := lo (X ^ (2 * k))
      have m1 : (X ^ (2 * k) % n) * (X % n) % n = X ^ (2 * k + 1) % n := by rw [← Nat.mul_mod, ← Nat.pow_succ]
      refine Ev.ifT rfl (Ev.bind (rmul_ev (by omega)) (Ev.bind (rdiv_small hn hL (by omega) (by omega)) ?_))
      simp only [m1]
      exact ih (2 * k + 1) (by omega) next
theorem rexp_out (n X : Nat) (hn : 0 < n) (L : Nat) (hL : L < 1000000) (hnL : (G n).length ≤ L) (e : List Int) (he : Dg 256 e) (hel : e.length < 1099511627775) (E : Nat) (hE : val 256 e = E) :
    ∀ (d K : Nat), d ≤ e.length → Is (K : Int) (val 256 (e.drop d)) → Ev (fun m => lanyardref06_Exp.l0 m e (G n) (G (X % n)) (G (X ^ K % n)) ((d : Int) - 1)) (G (X ^ E % n)) := by
  intro d
  induction d with
  | zero =>
    intro K _ hK
    refine Ev.step (fun k => by rw [lanyardref06_Exp.l0]) (Ev.ifF (by omega) ?_)
    have hK' := hK.h
    rw [List.drop_zero] at hK'
    obtain rfl : K = E := by omega
    exact Ev.now _
  | succ d ih =>
    intro K hd hK
    refine Ev.step (fun k => by rw [lanyardref06_Exp.l0]) ?_
    have ed : ((d + 1 : Nat) : Int) - 1 = (d : Int) := by omega
    rw [ed]
    have hr := he.rd (by decide) (d : Int)
    obtain ⟨b, hb⟩ : ∃ b : Nat, rd e (d : Int) = b := ⟨(rd e (d : Int)).toNat, by omega⟩
    have e1 : e.drop d = rd e (d : Int) :: e.drop (d + 1) := by
      rw [List.drop_eq_getElem_cons (by omega : d < e.length), rd_nat]; simp [(by omega : d < e.length)]
    refine Ev.ifT (by omega) ?_
    refine rexp_in n X hn L hL hnL e d b (by omega) (by omega) hb 8 K (Nat.le_refl _) ?_
    have e2 : b % 2 ^ 8 = b := Nat.mod_eq_of_lt (by omega)
    rw [e2, w64 (by omega) (by omega)]
    refine ih _ (by omega) ⟨?_⟩
    rw [e1, val, ← hK.h, hb]
    omega
theorem rexp_ev {x e n L : Nat} (hn : 0 < n) (hL : L < 1000000) (hx : (G x).length ≤ L) (he : (G e).length ≤ L) (hnl : (G n).length ≤ L) (h1 : 1 ≤ L) : Ev (fun k => lanyardref06_Exp.f k (G x) (G e) (G n)) (G (x ^ e % n)) := by
  unfold lanyardref06_Exp.f
  have hone := rdiv_small (x := 1) hn hL (by rw [G_one]; simp; omega) hnl
  rw [G_one] at hone
  refine Ev.bind (rdiv_small hn hL (by omega) hnl) (Ev.bind hone ?_)
  rw [w64 (by omega) (by omega)]
  have := rexp_out n x hn L hL hnl (G e) (G_Dg e) (by omega) e (G_val e) (G e).length 0 (Nat.le_refl _) ⟨by rw [List.drop_length]; rfl⟩
  simpa using this
theorem rgcd_ev {L : Nat} (hL : L < 1000000) : ∀ (y x : Nat), (G x).length ≤ L → (G y).length ≤ L → Ev (fun k => lanyardref06_Gcd.f k (G x) (G y)) (G (Nat.gcd x y)) := by
  intro y
  induction y using Nat.strongRecOn with
  | ind y ih =>
    intro x hx hy
    refine Ev.step (g := fun k => lanyardref06_Gcd.l0 k (G x) (G y)) (fun k => by rw [lanyardref06_Gcd.l0]) ?_
    rcases Nat.eq_zero_or_pos y with h | h
    · subst h
      refine Ev.ifF (by rw [G_zero]; simp) ?_
      rw [Nat.gcd_zero_right]
      exact Ev.now _
    · have := G_pos.1 h
      refine Ev.ifT (by omega) (Ev.bind (rdiv_small h hL (by omega) (by omega)) ?_)
      have hm := Nat.mod_lt x h
      have := ih (x % y) hm y hy (Nat.le_trans (G_len_mono (Nat.le_of_lt hm)) hy)
      rw [Nat.gcd_comm y, ← Nat.gcd_rec, Nat.gcd_comm] at this
      exact this

end Go.Proofs.YtcofpbndaljppaaDoor.Num
