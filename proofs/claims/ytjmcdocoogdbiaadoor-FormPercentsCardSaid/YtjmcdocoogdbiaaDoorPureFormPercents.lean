/- The plain law of FormPercents: what the printed functions answer, of any text. -/
import Derived.Test.YtjmcdocoogdbiaaDoorUnr
import Derived.Test.YtjmcdocoogdbiaaDoorRefP
import Derived.Test.YtjmcdocoogdbiaaDoorHp2
import Derived.Test.YtjmcdocoogdbiaaDoorHp11
namespace Go.Proofs.YtjmcdocoogdbiaaDoor.Pure
open Go.RowKit Go.Proofs.YtjmcdocoogdbiaaDoor.Hp Go.Proofs.YtjmcdocoogdbiaaDoor.Esc Go.Proofs.YtjmcdocoogdbiaaDoorW.PrintWords Go.Proofs.YtjmcdocoogdbiaaDoorW.PrintLast
theorem FormPercents : lanyardlaw03_FormPercents.Pure := by
  intro a0 a1 _
  refine Ev.rounds (?_ : Ev (fun k => lanyardlaw03_FormPercents.f k a0 a1) true)
  have slow : Ev (fun k => lanyardlaw03_FormPercents.j0 k a0 a1 true) true := Ev.step (fun k => by rw [lanyardlaw03_FormPercents.j0]) (Ev.ifT rfl (Ev.bind awake_ev (Ev.now _)))
  unfold lanyardlaw03_FormPercents.f
  refine Ev.bind awake_ev (Ev.ifT rfl ?_)
  by_cases h0 : (a0.size : Int) > 2000
  · rw [decide_eq_true h0]; exact slow
  rw [decide_eq_false h0]
  refine Ev.step (fun k => by rw [lanyardlaw03_FormPercents.j0]) (Ev.ifF (by simp) ?_)
  refine Ev.bindC (percent_f a0 (by omega)) ?_
  have hl : (bs (fl (hof escape_Percent.g) a0.data.toList)).size ≤ 10000000 := by
    have := fl_len (hof escape_Percent.g) 64 (fun c => by rw [percent_h]; split <;> simp) a0.data.toList
    rw [len_data] at this
    rw [bs_size]; omega
  have h1 := unpercent_ev (bs (fl (hof escape_Percent.g) a0.data.toList)) a1 hl
  rw [bs_data, pct_back] at h1
  refine Ev.bind h1 (Ev.bind (unpercent_ev a0 a1 (by omega)) (Ev.bind (ref_unp_ev a0 a1 (by omega)) (Ev.bind (ref_percent_ev a0 (by omega)) (Ev.ifT rfl (Ev.ifT rfl (Ev.ifT rfl ?_))))))
  rcases unp a1 a0.data.toList with _ | l
  · exact Ev.ifT rfl (Ev.ifT rfl (Ev.ifF (by simp [said]) (Ev.now true)))
  · exact Ev.ifT rfl (Ev.ifT rfl (Ev.ifT rfl (Ev.now true)))
end Go.Proofs.YtjmcdocoogdbiaaDoor.Pure
