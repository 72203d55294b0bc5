/- Moments: the span of them; numbers of the machine. -/
import Derived.Test.YtcikjghmelbkaaaDoorBas
import Derived.Test.YtcikjghmelbkaaaDoorHp2
import Derived.Test.YtcikjghmelbkaaaDoorHp6
namespace Go.Proofs.YtcikjghmelbkaaaDoor.Esc
open Go.RowKit Go.Proofs.YtcikjghmelbkaaaDoor.Hp Go.Proofs.YtcikjghmelbkaaaDoorW.PrintWords Go.Proofs.YtcikjghmelbkaaaDoorW.PrintLast
/-- A moment. -/
def mom (x : Int) : Prop := -62135596800000 ≤ x ∧ x ≤ 253402300799999
instance (x : Int) : Decidable (mom x) := inferInstanceAs (Decidable (_ ∧ _))
theorem none_f (x : Int) : moment_none.f x = some (decide (¬ mom x)) := by
  unfold moment_none.f
  by_cases h : x < -62135596800000
  · rw [if_pos h, decide_eq_true (by unfold mom; omega)]
  · rw [if_neg h]
    congr 1
    exact decide_eq_decide.2 (by unfold mom; omega)
theorem is_f (x : Int) : lanyardref10_Is.f x = some (decide (mom x)) := by
  unfold lanyardref10_Is.f lanyardref10_First.f lanyardref10_Last.f
  show (if x ≥ -62135596800000 then some (decide (x ≤ 253402300799999)) else some false) = _
  by_cases h : x ≥ -62135596800000
  · rw [if_pos h]
    congr 1
    exact decide_eq_decide.2 (by unfold mom; omega)
  · rw [if_neg h, decide_eq_false (by unfold mom; omega)]
theorem i64_of {x : Int} (h : (Lit.int .i64 x).wf = true) : -9223372036854775808 ≤ x ∧ x ≤ 9223372036854775807 := by
  simpa [Lit.wf, IntKind.min, IntKind.max, IntKind.bits, IntKind.signed] using h
end Go.Proofs.YtcikjghmelbkaaaDoor.Esc
