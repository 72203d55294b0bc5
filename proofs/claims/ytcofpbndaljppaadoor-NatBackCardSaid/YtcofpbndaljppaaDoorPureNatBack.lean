/- The plain law of NatBack: what the printed functions answer, of any two rows of bytes. -/
import Derived.Test.YtcofpbndaljppaaDoorRefs
import Derived.Test.YtcofpbndaljppaaDoorApj
namespace Go.Proofs.YtcofpbndaljppaaDoor.Pure
open Go.RowKit Go.Proofs.YtcofpbndaljppaaDoor.Hp Go.Proofs.YtcofpbndaljppaaDoor.Num Go.Proofs.YtcofpbndaljppaaDoorW.PrintWords Go.Proofs.YtcofpbndaljppaaDoorW.PrintLast
theorem NatBack : lanyardlaw06_NatBack.Pure := by
  intro l0 l1 _ _ w0 _ _ w1
  have d0 := Dg.of_wf w0
  have d1 := Dg.of_wf w1
  refine Ev.rounds (?_ : Ev (fun k => lanyardlaw06_NatBack.f k l0 l1) true)
  have slow : Ev (fun k => lanyardlaw06_NatBack.j0 k l0 l1 true) true := Ev.step (fun k => by rw [lanyardlaw06_NatBack.j0]) (Ev.ifT rfl (Ev.bind awake_ev (Ev.now _)))
  unfold lanyardlaw06_NatBack.f
  refine Ev.bind awake_ev (Ev.ifT rfl ?_)
  by_cases h0 : (l0.length : Int) > 1024
  · exact Ev.ifT h0 slow
  refine Ev.ifF h0 ?_
  by_cases h1 : (l1.length : Int) > 1024
  · exact Ev.ifT h1 slow
  refine Ev.ifF h1 ?_
  have g0 := G_vb_len d0
  have g1 := G_vb_len d1
  refine Ev.bind (rOf_ev d1 (by omega)) ?_
  by_cases h : vb l1 = 0
  · rw [h, G_zero]; exact slow
  have hp : 0 < vb l1 := by omega
  have hl := G_pos.1 hp
  rw [show (((G (vb l1)).length : Int) == 0) = false by rw [beq_eq_false_iff_ne]; omega]
  have q := Div_ev d0 d1 (by omega) (by omega)
  rw [if_neg h] at q
  have l1' := G_len_mono (Nat.div_le_self (vb l0) (vb l1))
  have l2' := G_len_mono (Nat.mod_le (vb l0) (vb l1))
  have e1 := be_len (vb l0 / vb l1)
  have e2 := be_len (vb l0 % vb l1)
  have m := Mul_ev (be_Dg (vb l0 / vb l1)) d1 (by omega) (by omega)
  have c := Cmp_ev (be_Dg (vb l0 % vb l1)) d1 (by omega) (by omega)
  rw [be_vb] at m c
  have hlt := Nat.mod_lt (vb l0) hp
  have hqle : vb l0 / vb l1 * vb l1 ≤ vb l0 := Nat.div_mul_le_self _ _
  have l3 := G_len_mono hqle
  have e3 := be_len (vb l0 / vb l1 * vb l1)
  have s := Add_ev (be_Dg (vb l0 / vb l1 * vb l1)) (be_Dg (vb l0 % vb l1)) (by omega) (by omega)
  rw [be_vb, be_vb, show vb l0 / vb l1 * vb l1 + vb l0 % vb l1 = vb l0 by rw [Nat.mul_comm]; exact Nat.div_add_mod _ _] at s
  refine Ev.step (fun k => by rw [lanyardlaw06_NatBack.j0]) (Ev.ifF (by simp) (Ev.bind q (Ev.bind m (Ev.ifT rfl (Ev.ifT rfl (Ev.bind c ?_))))))
  rw [show decide (sg ((vb l0 % vb l1 : Nat) : Int) (vb l1) ≥ 0) = false by unfold sg; rw [if_pos (by omega)]; decide]
  refine Ev.step (fun k => by rw [lanyardlaw06_NatBack.j1]) (Ev.ifF (by simp) (Ev.ifF (by show ¬ ((be (vb l0 / vb l1 * vb l1)).length : Int) > 1024; omega) (Ev.bind s (Ev.ifT rfl (Ev.bindC (Trim_eq d0 (by omega)) ?_)))))
  simp only [beq_self_eq_true]
  exact Ev.now _
end Go.Proofs.YtcofpbndaljppaaDoor.Pure
