/- The plain law of NatLong: what the printed functions answer, of any bytes and any length beyond. -/
import Derived.Test.YtcofpbndaljppaaDoorAwake
import Derived.Test.YtcofpbndaljppaaDoorApj
import Derived.Test.YtcofpbndaljppaaDoorHp1
import Derived.Test.YtcofpbndaljppaaDoorHp4
import Derived.Test.YtcofpbndaljppaaDoorHp5
import Derived.Test.YtcofpbndaljppaaDoorHp6
import Derived.Test.YtcofpbndaljppaaDoorHp9
import Derived.Test.YtcofpbndaljppaaDoorHp10
import Derived.Test.YtcofpbndaljppaaDoorHp17
namespace Go.Proofs.YtcofpbndaljppaaDoor.Pure
open Go.RowKit Go.Proofs.YtcofpbndaljppaaDoor.Hp Go.Proofs.YtcofpbndaljppaaDoor.Num Go.Proofs.YtcofpbndaljppaaDoorW.PrintWords Go.Proofs.YtcofpbndaljppaaDoorW.PrintLast
theorem vb_zeros (n : Nat) : vb (List.replicate n 0) = 0 := by
  unfold vb V
  rw [List.reverse_replicate, val_zeros]; rfl
theorem vb_none : vb [] = 0 := vb_zeros 0
theorem long2 {a b : List Int} (h : 1024 < a.length ∨ 1024 < b.length) : nat_long.f [a, b] = some true := by
  rcases h with h | h
  · exact long_yes (x := a) (by simp) h
  · exact long_yes (x := b) (by simp) h
theorem more_in (x : Int) : ∃ K : Nat, 1024 < K ∧ K ≤ 1100 ∧ wrap64 (1024 + wrap64 (1 + Int.tmod (wrap64 (Int.tmod x 50 + 50)) 50)) = (K : Int) := by
  have w : ∀ {y : Int}, -9223372036854775808 ≤ y → y < 9223372036854775808 → wrap64 y = y := fun h0 h1 => by unfold wrap64; omega
  have hb : -50 < Int.tmod x 50 ∧ Int.tmod x 50 < 50 := by
    have h1 := Int.natAbs_tmod x 50
    have h2 : x.natAbs % (50 : Int).natAbs < (50 : Int).natAbs := Nat.mod_lt _ (by decide)
    omega
  generalize Int.tmod x 50 = y at hb
  rw [w (y := y + 50) (by omega) (by omega)]
  have h3 := Int.tmod_lt_of_pos (y + 50) (show (0 : Int) < 50 by decide)
  have h4 := Int.tmod_nonneg 50 (show 0 ≤ y + 50 by omega)
  generalize Int.tmod (y + 50) 50 = z at h3 h4
  rw [w (y := 1 + z) (by omega) (by omega), w (y := 1024 + (1 + z)) (by omega) (by omega)]
  exact ⟨(1024 + (1 + z)).toNat, by omega, by omega, by omega⟩
theorem NatLong : lanyardlaw06_NatLong.Pure := by
  intro a x _ _ w0 hx
  have d0 := Dg.of_wf w0
  have hx' : -9223372036854775808 ≤ x ∧ x < 9223372036854775808 := by
    simp [Lit.wf, IntKind.min, IntKind.max, IntKind.bits, IntKind.signed] at hx
    omega
  refine Ev.rounds (?_ : Ev (fun k => lanyardlaw06_NatLong.f k a x) true)
  have slow : Ev (fun k => lanyardlaw06_NatLong.j0 k a x true) true := Ev.step (fun k => by rw [lanyardlaw06_NatLong.j0]) (Ev.ifT rfl (Ev.bind awake_ev (Ev.now _)))
  unfold lanyardlaw06_NatLong.f
  refine Ev.bind awake_ev (Ev.ifT rfl ?_)
  by_cases h0 : (a.length : Int) > 50
  · rw [decide_eq_true h0]; exact slow
  rw [decide_eq_false h0]
  obtain ⟨K, hK0, hK1, hK⟩ := more_in x
  refine Ev.step (fun k => by rw [lanyardlaw06_NatLong.j0]) ?_
  rw [hK]
  refine Ev.ifF (by decide) (Ev.ifT (by omega) (Ev.ifT (by omega) ?_))
  rw [show ((K : Int)).toNat = K by omega]
  obtain ⟨l, hl⟩ : ∃ l : List Int, List.replicate K 0 = l := ⟨_, rfl⟩
  have hlen : l.length = K := by rw [← hl, List.length_replicate]
  have dl : Dg 256 l := by rw [← hl]; exact Dg.zeros (by decide) K
  have vl : vb l = 0 := by rw [← hl]; exact vb_zeros K
  have vt : vb (l.take 1024) = 0 := by rw [← hl, List.take_replicate]; exact vb_zeros _
  rw [hl]
  have dn : Dg 256 ([] : List Int) := by intro y hy; cases hy
  have dt : Dg 256 (l.take 1024) := dl.take _
  refine Ev.bind (Ev.now l) ?_
  have eAdd : Ev (fun k => nat_Add.f k l a) ([], 12) := by
    unfold nat_Add.f
    exact Ev.bindC (long2 (.inl (by omega))) (Ev.ifT rfl (Ev.now _))
  have eSub : Ev (fun k => nat_Sub.f k a l) ([], 12) := by
    unfold nat_Sub.f
    exact Ev.bindC (long2 (.inr (by omega))) (Ev.ifT rfl (Ev.now _))
  have eMul : Ev (fun k => nat_Mul.f k l l) ([], 12) := by
    unfold nat_Mul.f
    exact Ev.bindC (long2 (.inl (by omega))) (Ev.ifT rfl (Ev.now _))
  have eDiv : Ev (fun k => nat_Div.f k l []) ([], [], 12) := by
    unfold nat_Div.f
    exact Ev.bind (of_ev dn (by decide)) (Ev.bindC (long2 (.inl (by omega))) (Ev.ifT rfl (Ev.now _)))
  have eExp : Ev (fun k => nat_Exp.f k a l []) ([], 12) := by
    unfold nat_Exp.f
    exact Ev.bind (of_ev dn (by decide)) (Ev.bindC (long_yes (x := l) (by simp) (by omega)) (Ev.ifT rfl (Ev.now _)))
  have eGcd : Ev (fun k => nat_Gcd.f k a l) ([], 12) := by
    unfold nat_Gcd.f
    exact Ev.bindC (long2 (.inr (by omega))) (Ev.ifT rfl (Ev.now _))
  have eInv : Ev (fun k => nat_Inverse.f k l []) ([], 12) := by
    unfold nat_Inverse.f
    exact Ev.bind (of_ev dn (by decide)) (Ev.bindC (long2 (.inl (by omega))) (Ev.ifT rfl (Ev.now _)))
  have eLast := Add_ev dt d0 (by rw [List.length_take]; omega) (by omega)
  rw [vt, Nat.zero_add] at eLast
  refine Ev.bind eAdd (Ev.bind eSub (Ev.bind eMul (Ev.bind eDiv (Ev.bind eExp (Ev.bind eGcd (Ev.bind eInv ?_))))))
  refine Ev.ifT (by omega) (Ev.bind eLast ?_)
  refine Ev.ifT rfl (Ev.ifT rfl (Ev.ifT rfl (Ev.ifT rfl (Ev.ifT rfl (Ev.ifT rfl (Ev.ifT rfl (Ev.ifT (by decide +kernel) (Ev.ifT rfl ?_))))))))
  refine Ev.bindC (Trim_eq d0 (by omega)) (Ev.ifT rfl ?_)
  refine Ev.bindC (Trim_eq dl (by omega)) ?_
  rw [vl]
  refine Ev.ifT (by decide +kernel) ?_
  have c := Cmp_ev dl dn (by omega) (by decide)
  rw [vl, vb_none] at c
  refine Ev.bind c ?_
  exact Ev.now true
end Go.Proofs.YtcofpbndaljppaaDoor.Pure
