/- The plain law of BaseUnhex: what the printed functions answer, of any text. -/
import Derived.Test.YtfphmpnkfjeceaaDoorAwk
import Derived.Test.YtfphmpnkfjeceaaDoorUnh
import Derived.Test.YtfphmpnkfjeceaaDoorHp10
namespace Go.Proofs.YtfphmpnkfjeceaaDoor.Pure
open Go.RowKit Go.Proofs.YtfphmpnkfjeceaaDoor.Hp Go.Proofs.YtfphmpnkfjeceaaDoor.Esc Go.Proofs.YtfphmpnkfjeceaaDoorW.PrintWords Go.Proofs.YtfphmpnkfjeceaaDoorW.PrintLast
theorem BaseUnhex : lanyardlaw02_BaseUnhex.Pure := by
  intro s _
  refine Ev.rounds (?_ : Ev (fun k => lanyardlaw02_BaseUnhex.f k s) true)
  unfold lanyardlaw02_BaseUnhex.f
  refine Ev.bind awake_ev (Ev.ifT rfl ?_)
  by_cases h : (s.size : Int) > 4000
  · rw [decide_eq_true h]
    exact Ev.step (fun k => by rw [lanyardlaw02_BaseUnhex.j0]) (Ev.ifT rfl (Ev.bind awake_ev (Ev.now _)))
  · rw [decide_eq_false h]
    refine Ev.step (fun k => by rw [lanyardlaw02_BaseUnhex.j0]) (Ev.ifF (by simp) (Ev.bind (base_Unhex_ev s (by omega)) (Ev.bind (ref_Unhex_ev s (by omega)) (Ev.ifT rfl ?_))))
    rw [show ((strOfNums (unhexd s.data.toList).1).toList == (strOfNums (unhexd s.data.toList).1).toList) = true by simp]
    exact Ev.now true
end Go.Proofs.YtfphmpnkfjeceaaDoor.Pure
