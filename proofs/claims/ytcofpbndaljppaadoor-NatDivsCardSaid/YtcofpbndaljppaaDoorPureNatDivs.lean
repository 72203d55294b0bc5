/- The plain law of NatDivs: what the printed functions answer, of any two rows of bytes. -/
import Derived.Test.YtcofpbndaljppaaDoorRefs
namespace Go.Proofs.YtcofpbndaljppaaDoor.Pure
open Go.RowKit Go.Proofs.YtcofpbndaljppaaDoor.Hp Go.Proofs.YtcofpbndaljppaaDoor.Num Go.Proofs.YtcofpbndaljppaaDoorW.PrintWords Go.Proofs.YtcofpbndaljppaaDoorW.PrintLast
theorem NatDivs : lanyardlaw06_NatDivs.Pure := by
  intro l0 l1 _ _ w0 _ _ w1
  have d0 := Dg.of_wf w0
  have d1 := Dg.of_wf w1
  refine Ev.rounds (?_ : Ev (fun k => lanyardlaw06_NatDivs.f k l0 l1) true)
  have slow : Ev (fun k => lanyardlaw06_NatDivs.j0 k l0 l1 true) true := Ev.step (fun k => by rw [lanyardlaw06_NatDivs.j0]) (Ev.ifT rfl (Ev.bind awake_ev (Ev.now _)))
  unfold lanyardlaw06_NatDivs.f
  refine Ev.bind awake_ev (Ev.ifT rfl ?_)
  by_cases h0 : (l0.length : Int) > 60
  · exact Ev.ifT h0 slow
  refine Ev.ifF h0 ?_
  by_cases h1 : (l1.length : Int) > 60
  · rw [decide_eq_true h1]; exact slow
  rw [decide_eq_false h1]
  have g0 := G_vb_len d0
  have g1 := G_vb_len d1
  refine Ev.step (fun k => by rw [lanyardlaw06_NatDivs.j0]) (Ev.ifF (by simp) (Ev.bind (rOf_ev d0 (by omega)) (Ev.bind (rOf_ev d1 (by omega)) (Ev.bind (Div_ev d0 d1 (by omega) (by omega)) ?_))))
  by_cases h : vb l1 = 0
  · rw [if_pos h, h, G_zero]
    exact Ev.ifT rfl (Ev.ifT rfl (Ev.ifT rfl (Ev.now _)))
  · rw [if_neg h]
    have hp : 0 < vb l1 := by omega
    have := G_pos.1 hp
    have l1' := G_len_mono (Nat.div_le_self (vb l0) (vb l1))
    have l2' := G_len_mono (Nat.mod_le (vb l0) (vb l1))
    refine Ev.ifF (by omega) (Ev.bind (rdiv_small (L := 60) hp (by decide) (by omega) (by omega)) (Ev.ifT rfl (Ev.bind (same_ev (by omega) rfl) (Ev.ifT rfl (Ev.bind (same_ev (by omega) rfl) (Ev.now _))))))
end Go.Proofs.YtcofpbndaljppaaDoor.Pure
