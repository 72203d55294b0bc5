/- The plain law of BaseDecodes: what the printed functions answer, of any text. -/
import Derived.Test.YtfphmpnkfjeceaaDoorAwk
import Derived.Test.YtfphmpnkfjeceaaDoorDcr
import Derived.Test.YtfphmpnkfjeceaaDoorHp7
namespace Go.Proofs.YtfphmpnkfjeceaaDoor.Pure
open Go.RowKit Go.Proofs.YtfphmpnkfjeceaaDoor.Hp Go.Proofs.YtfphmpnkfjeceaaDoor.Esc Go.Proofs.YtfphmpnkfjeceaaDoorW.PrintWords Go.Proofs.YtfphmpnkfjeceaaDoorW.PrintLast
theorem BaseDecodes : lanyardlaw02_BaseDecodes.Pure := by
  intro s _
  refine Ev.rounds (?_ : Ev (fun k => lanyardlaw02_BaseDecodes.f k s) true)
  unfold lanyardlaw02_BaseDecodes.f
  refine Ev.bind awake_ev (Ev.ifT rfl ?_)
  by_cases h : (s.size : Int) > 4000
  · rw [decide_eq_true h]
    exact Ev.step (fun k => by rw [lanyardlaw02_BaseDecodes.j0]) (Ev.ifT rfl (Ev.bind awake_ev (Ev.now _)))
  · rw [decide_eq_false h]
    refine Ev.step (fun k => by rw [lanyardlaw02_BaseDecodes.j0]) (Ev.ifF (by simp) (Ev.bind (decode_ev s (by omega) (by have := sp_len s.data.toList; rw [len_data] at this; omega)) (Ev.bind (ref_decode_ev s (by omega)) (Ev.ifT rfl ?_))))
    rw [show ((strOfNums (decd s.data.toList).1).toList == (strOfNums (decd s.data.toList).1).toList) = true by simp]
    exact Ev.now true
end Go.Proofs.YtfphmpnkfjeceaaDoor.Pure
