/- The plain law of NatPowers: what the printed functions answer, of any three rows of bytes. -/
import Derived.Test.YtcofpbndaljppaaDoorRefs
namespace Go.Proofs.YtcofpbndaljppaaDoor.Pure
open Go.RowKit Go.Proofs.YtcofpbndaljppaaDoor.Hp Go.Proofs.YtcofpbndaljppaaDoor.Num Go.Proofs.YtcofpbndaljppaaDoorW.PrintWords Go.Proofs.YtcofpbndaljppaaDoorW.PrintLast
theorem NatPowers : lanyardlaw06_NatPowers.Pure := by
  intro l0 l1 l2 _ _ w0 _ _ w1 _ _ w2
  have d0 := Dg.of_wf w0
  have d1 := Dg.of_wf w1
  have d2 := Dg.of_wf w2
  refine Ev.rounds (?_ : Ev (fun k => lanyardlaw06_NatPowers.f k l0 l1 l2) true)
  have slow : Ev (fun k => lanyardlaw06_NatPowers.j0 k l0 l1 l2 true) true := Ev.step (fun k => by rw [lanyardlaw06_NatPowers.j0]) (Ev.ifT rfl (Ev.bind awake_ev (Ev.now _)))
  unfold lanyardlaw06_NatPowers.f
  refine Ev.bind awake_ev (Ev.ifT rfl ?_)
  by_cases h0 : (l0.length : Int) > 12
  · exact Ev.ifT h0 slow
  refine Ev.ifF h0 ?_
  by_cases h1 : (l1.length : Int) > 4
  · exact Ev.ifT h1 slow
  refine Ev.ifF h1 ?_
  by_cases h2 : (l2.length : Int) > 12
  · rw [decide_eq_true h2]; exact slow
  rw [decide_eq_false h2]
  have g0 := G_vb_len d0
  have g1 := G_vb_len d1
  have g2 := G_vb_len d2
  refine Ev.step (fun k => by rw [lanyardlaw06_NatPowers.j0]) (Ev.ifF (by simp) (Ev.bind (rOf_ev d2 (by omega)) (Ev.bind (Exp_ev d0 d1 d2 (by omega) (by omega) (by omega)) ?_)))
  by_cases h : vb l2 = 0
  · rw [if_pos h, h, G_zero]
    exact Ev.ifT rfl (Ev.ifT rfl (Ev.now _))
  · rw [if_neg h]
    have hp : 0 < vb l2 := by omega
    have := G_pos.1 hp
    have l2' := G_len_mono (Nat.le_of_lt (Nat.mod_lt (vb l0 ^ vb l1) hp))
    refine Ev.ifF (by omega) (Ev.ifT rfl (Ev.bind (rOf_ev d0 (by omega)) (Ev.bind (rOf_ev d1 (by omega)) (Ev.bind (rexp_ev (L := 12) hp (by decide) (by omega) (by omega) (by omega) (by decide)) (Ev.bind (same_ev (by omega) rfl) (Ev.now _))))))
end Go.Proofs.YtcofpbndaljppaaDoor.Pure
