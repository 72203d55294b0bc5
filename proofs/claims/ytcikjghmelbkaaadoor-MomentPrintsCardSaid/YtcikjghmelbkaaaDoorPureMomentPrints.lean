/- The plain law of MomentPrints: the text and the date of any moment, read again. -/
import Derived.Test.YtcikjghmelbkaaaDoorAwk
import Derived.Test.YtcikjghmelbkaaaDoorPrs
import Derived.Test.YtcikjghmelbkaaaDoorHp8
namespace Go.Proofs.YtcikjghmelbkaaaDoor.Pure
open Go.RowKit Go.Proofs.YtcikjghmelbkaaaDoor.Hp Go.Proofs.YtcikjghmelbkaaaDoor.Esc Go.Proofs.YtcikjghmelbkaaaDoorW.PrintWords Go.Proofs.YtcikjghmelbkaaaDoorW.PrintLast
theorem MomentPrints : lanyardlaw10_MomentPrints.Pure := by
  intro x _
  refine Ev.rounds (?_ : Ev (fun k => lanyardlaw10_MomentPrints.f k x) true)
  unfold lanyardlaw10_MomentPrints.f
  refine Ev.bind awake_ev (Ev.ifT rfl ?_)
  by_cases hm : mom x
  · obtain ⟨y, m, d, t, h, ht, rfl⟩ := mom_ex hm
    refine Ev.bind (print_ev h ht) ?_
    refine Ev.bind (date_ev h ht) ?_
    refine Ev.bindC (is_f _) ?_
    refine Ev.ifT (decide_eq_true hm) ?_
    refine Ev.bind (rdate_ev h ht) ?_
    refine Ev.bind (parse_txt h ht) ?_
    refine Ev.ifT rfl ?_
    refine Ev.bind (rprint_ev h ht) ?_
    refine Ev.ifT rfl (Ev.ifT rfl (Ev.ifT (by simp) (Ev.ifT rfl ?_)))
    rw [show (momOf y m d t == momOf y m d t) = true by simp]
    exact Ev.now _
  · refine Ev.bind (print_no hm) ?_
    refine Ev.bind (date_no hm) ?_
    refine Ev.bindC (is_f _) ?_
    refine Ev.ifF (by simpa using hm) ?_
    refine Ev.ifT rfl (Ev.ifT (bs_toList []) (Ev.ifT rfl ?_))
    exact Ev.now _
end Go.Proofs.YtcikjghmelbkaaaDoor.Pure
