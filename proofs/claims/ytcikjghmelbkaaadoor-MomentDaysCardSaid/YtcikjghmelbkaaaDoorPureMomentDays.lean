/- The plain law of MomentDays: which days there are, and how far they lie; the next day lies one further. -/
import Derived.Test.YtcikjghmelbkaaaDoorAwk
import Derived.Test.YtcikjghmelbkaaaDoorCar
import Derived.Test.YtcikjghmelbkaaaDoorHp4
import Derived.Test.YtcikjghmelbkaaaDoorHp9
namespace Go.Proofs.YtcikjghmelbkaaaDoor.Pure
open Go.RowKit Go.Proofs.YtcikjghmelbkaaaDoor.Hp Go.Proofs.YtcikjghmelbkaaaDoor.Esc Go.Proofs.YtcikjghmelbkaaaDoorW.PrintWords Go.Proofs.YtcikjghmelbkaaaDoorW.PrintLast
theorem momOf_day (y m d : Nat) : momOf y m d 0 = (((dno y m d : Nat) : Int) - 719162) * 86400000 := by unfold momOf; omega
theorem next_ev {y m d : Nat} (h : okd y m d) : Ev (fun k => lanyardlaw10_MomentDays.j1 k (y : Int) (m : Int) (d : Int) (((dno y m d : Nat) : Int) - 719162) false) true := by
  have hb := dno_bound h
  refine Ev.step (fun k => by rw [lanyardlaw10_MomentDays.j1]) ?_
  refine Ev.ifF (by simp) ?_
  rw [show wrap64 (((dno y m d : Nat) : Int) - 719162 + 1) = ((dno y m d + 1 : Nat) : Int) - 719162 by unfold wrap64; omega]
  by_cases hl : dno y m d + 1 < 3652059
  · obtain ⟨y', m', d', h', e'⟩ := ex_date (dno y m d + 1) hl
    have hd := date_ev h' (show 0 < 86400000 by decide)
    rw [momOf_day, e'] at hd
    rw [show wrap64 ((((dno y m d + 1 : Nat) : Int) - 719162) * 86400000) = (((dno y m d + 1 : Nat) : Int) - 719162) * 86400000 by generalize dno y m d = n at hb; unfold wrap64; omega]
    refine Ev.bind hd ?_
    have hv := days_ev h'
    rw [e'] at hv
    have fin : Ev (fun n => (moment_Days.f n (y' : Int) (m' : Int) (d' : Int)).bind fun bt => if (0 : Int) = 0 then if bt.2 = 0 then some (bt.1 == ((dno y m d + 1 : Nat) : Int) - 719162) else some false else some false) true := by
      refine Ev.bind hv ?_
      refine Ev.ifT rfl (Ev.ifT rfl ?_)
      rw [show ((((dno y m d + 1 : Nat) : Int) - 719162) == (((dno y m d + 1 : Nat) : Int) - 719162)) = true by simp]
      exact Ev.now _
    by_cases c1 : (y : Int) = 9999
    · refine Ev.ifT c1 ?_
      by_cases c2 : (m : Int) = 12
      · refine Ev.ifT c2 ?_
        by_cases c3 : (d : Int) = 31
        · exfalso
          obtain rfl : y = 9999 := by omega
          obtain rfl : m = 12 := by omega
          obtain rfl : d = 31 := by omega
          exact absurd hl (by decide)
        · exact Ev.ifF c3 fin
      · exact Ev.ifF c2 fin
    · exact Ev.ifF c1 fin
  · have hn : dno y m d = 3652058 := by omega
    have hlast : okd 9999 12 31 := by unfold okd; decide
    obtain ⟨rfl, rfl, rfl⟩ := dno_inj h hlast (by rw [hn]; rfl)
    rw [hn]
    rw [show wrap64 ((((3652058 + 1 : Nat) : Int) - 719162) * 86400000) = 253402300800000 by unfold wrap64; omega]
    refine Ev.bind (date_no (by unfold mom; omega)) ?_
    refine Ev.ifT rfl (Ev.ifT rfl (Ev.ifT rfl ?_))
    exact Ev.now _
theorem MomentDays : lanyardlaw10_MomentDays.Pure := by
  intro y m d _ _ _
  refine Ev.rounds (?_ : Ev (fun k => lanyardlaw10_MomentDays.f k y m d) true)
  unfold lanyardlaw10_MomentDays.f
  refine Ev.bind awake_ev (Ev.ifT rfl ?_)
  rcases right_ev y m d with ⟨e, h⟩ | ⟨e, h⟩
  · obtain ⟨y, m, d, rfl, rfl, rfl, h⟩ := h
    have h' := h
    obtain ⟨h1, h2, h3, h4, h5, h6⟩ := h'
    have hl := mlen_le y m
    have hb := dno_bound h
    refine Ev.bind (days_ev h) ?_
    refine Ev.bindC e ?_
    refine Ev.ifT rfl (Ev.ifT rfl ?_)
    refine Ev.bind (rdays_ev y m d h1 (by omega) h3 h4 (by omega)) ?_
    rw [show (((dno y m d : Nat) : Int) - 719162 != ((yd y : Nat) : Int) + ((mb y m : Nat) : Int) + (d : Int) - 719163) = false by
      rw [bne_eq_false_iff_eq]; unfold dno; omega]
    refine Ev.step (fun k => by rw [lanyardlaw10_MomentDays.j0]) (Ev.ifF (by simp) ?_)
    have hd := date_ev h (show 0 < 86400000 by decide)
    rw [momOf_day] at hd
    rw [show wrap64 ((((dno y m d : Nat) : Int) - 719162) * 86400000) = (((dno y m d : Nat) : Int) - 719162) * 86400000 by generalize dno y m d = n at hb; unfold wrap64; omega]
    refine Ev.bind hd ?_
    refine Ev.ifT rfl ?_
    rw [show (!((y : Int) == (y : Int)) || (!((m : Int) == (m : Int)) || (!((d : Int) == (d : Int))))) = false by simp]
    exact next_ev h
  · refine Ev.bind (days_no h) ?_
    refine Ev.bindC e ?_
    refine Ev.ifF (by simp) (Ev.ifT rfl ?_)
    exact Ev.now _
end Go.Proofs.YtcikjghmelbkaaaDoor.Pure
