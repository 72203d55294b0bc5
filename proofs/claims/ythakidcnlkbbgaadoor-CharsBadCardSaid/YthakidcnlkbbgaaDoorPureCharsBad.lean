/- The plain law of CharsBad: what the printed functions answer, of any bytes. -/
import Derived.Test.YthakidcnlkbbgaaDoorChr
import Derived.Test.YthakidcnlkbbgaaDoorAwk
import Derived.Test.YthakidcnlkbbgaaDoorHp8
namespace Go.Proofs.YthakidcnlkbbgaaDoor.Pure
open Go.RowKit Go.Proofs.YthakidcnlkbbgaaDoor.Hp Go.Proofs.YthakidcnlkbbgaaDoor.Esc Go.Proofs.YthakidcnlkbbgaaDoorW.PrintWords Go.Proofs.YthakidcnlkbbgaaDoorW.PrintLast
theorem CharsBad : lanyardlaw01_CharsBad.Pure := by
  intro l0 _ _ hw
  obtain ⟨b, rfl⟩ := I_of hw
  refine Ev.rounds (?_ : Ev (fun k => lanyardlaw01_CharsBad.f k (I b)) true)
  have slow : Ev (fun k => lanyardlaw01_CharsBad.j0 k (I b) true) true := Ev.step (fun k => by rw [lanyardlaw01_CharsBad.j0]) (Ev.ifT rfl (Ev.bind awake_ev (Ev.now _)))
  unfold lanyardlaw01_CharsBad.f
  refine Ev.bind awake_ev (Ev.ifT rfl ?_)
  by_cases h0 : ((I b).length : Int) > 5000
  · rw [decide_eq_true h0]; exact slow
  rw [decide_eq_false h0]
  rw [I_len] at h0
  refine Ev.step (fun k => by rw [lanyardlaw01_CharsBad.j0]) (Ev.ifF (by simp) ?_)
  refine Ev.bindC (a := ([] : List Int)) rfl ?_
  refine Ev.ifT (by rw [I_len, List.length_nil]; omega) ?_
  rw [List.nil_append]
  refine Ev.bind (bad_ev b (by omega)) (Ev.bind (ref_bad_ev b (by omega)) ?_)
  rw [beq_self_eq_true]
  exact Ev.now true
end Go.Proofs.YthakidcnlkbbgaaDoor.Pure
