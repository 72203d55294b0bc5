/- The plain law of FormQueries: what the printed functions answer, of any text and any name. -/
import Derived.Test.YtjmcdocoogdbiaaDoorGets
import Derived.Test.YtjmcdocoogdbiaaDoorRefR
import Derived.Test.YtjmcdocoogdbiaaDoorHp12
namespace Go.Proofs.YtjmcdocoogdbiaaDoor.Pure
open Go.RowKit Go.Proofs.YtjmcdocoogdbiaaDoor.Hp Go.Proofs.YtjmcdocoogdbiaaDoor.Esc Go.Proofs.YtjmcdocoogdbiaaDoorW.PrintWords Go.Proofs.YtjmcdocoogdbiaaDoorW.PrintLast
theorem FormQueries : lanyardlaw03_FormQueries.Pure := by
  intro a0 a1 _ _
  refine Ev.rounds (?_ : Ev (fun k => lanyardlaw03_FormQueries.f k a0 a1) true)
  have slow : Ev (fun k => lanyardlaw03_FormQueries.j0 k a0 a1 true) true := Ev.step (fun k => by rw [lanyardlaw03_FormQueries.j0]) (Ev.ifT rfl (Ev.bind awake_ev (Ev.now _)))
  unfold lanyardlaw03_FormQueries.f
  refine Ev.bind awake_ev (Ev.ifT rfl ?_)
  by_cases h0 : (a0.size : Int) > 2000
  · rw [decide_eq_true h0]; exact slow
  rw [decide_eq_false h0]
  have hl := pq_len a0.data.toList
  refine Ev.step (fun k => by rw [lanyardlaw03_FormQueries.j0]) (Ev.ifF (by simp) ?_)
  refine Ev.bind (pq_ev a0 (by omega)) (Ev.bind (ref_pq_ev a0 (by omega)) (Ev.bind (get_ev _ a1 (by omega)) (Ev.bind (ref_get_ev _ a1 (by omega)) (Ev.ifT rfl (Ev.bind (same_ev _ (by omega)) (Ev.ifT rfl (Ev.ifT rfl ?_)))))))
  rw [beq_self_eq_true]
  exact Ev.now true
end Go.Proofs.YtjmcdocoogdbiaaDoor.Pure
