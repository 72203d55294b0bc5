/- The plain law of CharsBlanks: what the printed functions answer, of any text. -/
import Derived.Test.YthakidcnlkbbgaaDoorLns
import Derived.Test.YthakidcnlkbbgaaDoorAwk
import Derived.Test.YthakidcnlkbbgaaDoorHp11
namespace Go.Proofs.YthakidcnlkbbgaaDoor.Pure
open Go.RowKit Go.Proofs.YthakidcnlkbbgaaDoor.Hp Go.Proofs.YthakidcnlkbbgaaDoor.Esc Go.Proofs.YthakidcnlkbbgaaDoorW.PrintWords Go.Proofs.YthakidcnlkbbgaaDoorW.PrintLast
theorem CharsBlanks : lanyardlaw01_CharsBlanks.Pure := by
  intro a0 _
  refine Ev.rounds (?_ : Ev (fun k => lanyardlaw01_CharsBlanks.f k a0) true)
  have slow : Ev (fun k => lanyardlaw01_CharsBlanks.j0 k a0 true) true := Ev.step (fun k => by rw [lanyardlaw01_CharsBlanks.j0]) (Ev.ifT rfl (Ev.bind awake_ev (Ev.now _)))
  have hL : a0.data.toList.length = a0.size := len_data a0
  unfold lanyardlaw01_CharsBlanks.f
  refine Ev.bind awake_ev (Ev.ifT rfl ?_)
  by_cases h0 : (a0.size : Int) > 5000
  · rw [decide_eq_true h0]; exact slow
  rw [decide_eq_false h0]
  have hn := wds_count a0.data.toList
  refine Ev.step (fun k => by rw [lanyardlaw01_CharsBlanks.j0]) (Ev.ifF (by simp) ?_)
  refine Ev.bindC (lines_f a0 (by omega)) (Ev.bind (ref_lines_ev a0 (by omega)) (Ev.ifT rfl ?_))
  refine Ev.bindC (flat_f a0 (by omega)) (Ev.bind (ref_flat_ev a0 (by omega)) (Ev.ifT rfl ?_))
  refine Ev.bind (collapse_ev a0 (by omega)) (Ev.bind (ref_collapse_ev a0 (by omega)) (Ev.ifT rfl ?_))
  exact Ev.bind (words_ev a0 (by omega)) (Ev.bind (ref_words_ev a0 (by omega)) (Ev.bind (texts_ev _ (by rw [List.length_map]; omega)) (Ev.now true)))
end Go.Proofs.YthakidcnlkbbgaaDoor.Pure
