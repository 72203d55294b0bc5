/- The plain law of MomentAdds: sums of moments, at all numbers; who lies within a span. -/
import Derived.Test.YtcikjghmelbkaaaDoorAwk
import Derived.Test.YtcikjghmelbkaaaDoorHp2
import Derived.Test.YtcikjghmelbkaaaDoorHp6
import Derived.Test.YtcikjghmelbkaaaDoorHp7
import Derived.Test.YtcikjghmelbkaaaDoorHp10
namespace Go.Proofs.YtcikjghmelbkaaaDoor.Pure
open Go.RowKit Go.Proofs.YtcikjghmelbkaaaDoor.Hp Go.Proofs.YtcikjghmelbkaaaDoor.Esc Go.Proofs.YtcikjghmelbkaaaDoorW.PrintWords Go.Proofs.YtcikjghmelbkaaaDoorW.PrintLast
/-- A moment. -/
def mom (x : Int) : Prop := -62135596800000 ≤ x ∧ x ≤ 253402300799999
instance (x : Int) : Decidable (mom x) := inferInstanceAs (Decidable (_ ∧ _))
theorem none_f (x : Int) : moment_none.f x = some (decide (¬ mom x)) := by
  unfold moment_none.f
  by_cases h : x < -62135596800000
  · rw [if_pos h, decide_eq_true (by unfold mom; omega)]
  · rw [if_neg h]
    congr 1
    exact decide_eq_decide.2 (by unfold mom; omega)
theorem is_f (x : Int) : lanyardref10_Is.f x = some (decide (mom x)) := by
  unfold lanyardref10_Is.f lanyardref10_First.f lanyardref10_Last.f
  show (if x ≥ -62135596800000 then some (decide (x ≤ 253402300799999)) else some false) = _
  by_cases h : x ≥ -62135596800000
  · rw [if_pos h]
    congr 1
    exact decide_eq_decide.2 (by unfold mom; omega)
  · rw [if_neg h, decide_eq_false (by unfold mom; omega)]
theorem i64_of {x : Int} (h : (Lit.int .i64 x).wf = true) : -9223372036854775808 ≤ x ∧ x ≤ 9223372036854775807 := by
  simpa [Lit.wf, IntKind.min, IntKind.max, IntKind.bits, IntKind.signed] using h
/-- Whether a moment and a number have a sum. -/
def sumOk (x y : Int) : Prop := mom x ∧ mom (x + y)
instance (x y : Int) : Decidable (sumOk x y) := inferInstanceAs (Decidable (_ ∧ _))
theorem add_f (x y : Int) : moment_Add.f x y = some (if sumOk x y then (x + y, 0) else (0, 21)) := by
  unfold moment_Add.f
  rw [none_f]
  show (if decide (¬ mom x) = true then _ else _) = _
  by_cases h : mom x
  · rw [if_neg (by simpa using h)]
    have h' := h
    unfold mom at h
    rw [show wrap64 (-62135596800000 - x) = -62135596800000 - x by unfold wrap64; omega, show wrap64 (253402300800000 - x) = 253402300800000 - x by unfold wrap64; omega]
    by_cases h1 : y < -62135596800000 - x
    · rw [if_pos h1, if_neg (by unfold sumOk mom; omega)]
    · rw [if_neg h1]
      by_cases h2 : y ≥ 253402300800000 - x
      · rw [if_pos h2, if_neg (by unfold sumOk mom; omega)]
      · rw [if_neg h2, if_pos ⟨h', by unfold mom; omega⟩, show wrap64 (x + y) = x + y by unfold wrap64; omega]
  · rw [if_pos (by simpa using h), if_neg (fun k => h k.1)]
/-- Within a span, as far as a skew. -/
def inSpan (x f u s : Int) : Prop := mom x ∧ mom f ∧ mom u ∧ 0 ≤ s ∧ s ≤ 86400000 ∧ f - s ≤ x ∧ x < u + s
instance (x f u s : Int) : Decidable (inSpan x f u s) := inferInstanceAs (Decidable (_ ∧ _))
theorem within_f (x f u s : Int) : moment_Within.f x f u s = some (decide (inSpan x f u s)) := by
  unfold moment_Within.f
  rw [none_f, none_f, none_f]
  show (if decide (¬ mom x) = true then _ else if decide (¬ mom f) = true then _ else if decide (¬ mom u) = true then _ else _) = _
  by_cases hx : mom x
  · rw [if_neg (by simpa using hx)]
    by_cases hf : mom f
    · rw [if_neg (by simpa using hf)]
      by_cases hu : mom u
      · rw [if_neg (by simpa using hu)]
        by_cases h1 : s < 0
        · rw [if_pos h1, decide_eq_false (by unfold inSpan; omega)]
        · rw [if_neg h1]
          by_cases h2 : s > 86400000
          · rw [if_pos h2, decide_eq_false (by unfold inSpan; omega)]
          · rw [if_neg h2]
            have hx' := hx
            have hf' := hf
            have hu' := hu
            unfold mom at hx hf hu
            rw [show wrap64 (f - s) = f - s by unfold wrap64; omega, show wrap64 (u + s) = u + s by unfold wrap64; omega]
            by_cases h3 : x ≥ f - s
            · rw [if_pos h3]
              congr 1
              exact decide_eq_decide.2 ⟨fun h => ⟨hx', hf', hu', by omega, by omega, by omega, h⟩, fun h => h.2.2.2.2.2.2⟩
            · rw [if_neg h3, decide_eq_false (by unfold inSpan; omega)]
      · rw [if_pos (by simpa using hu), decide_eq_false (fun h => hu h.2.2.1)]
    · rw [if_pos (by simpa using hf), decide_eq_false (fun h => hf h.2.1)]
  · rw [if_pos (by simpa using hx), decide_eq_false (fun h => hx h.1)]
theorem adds_tail (x f u s : Int) : Ev (fun k => lanyardlaw10_MomentAdds.j1 k x false f u s) true := by
  refine Ev.step (fun k => by rw [lanyardlaw10_MomentAdds.j1]) (Ev.ifF (by simp) ?_)
  refine Ev.bindC (within_f x f u s) ?_
  refine Ev.bindC (is_f x) ?_
  by_cases hx : mom x
  · refine Ev.ifT (decide_eq_true hx) ?_
    refine Ev.bindC (is_f f) ?_
    by_cases hf : mom f
    · refine Ev.ifT (decide_eq_true hf) ?_
      refine Ev.bindC (is_f u) ?_
      by_cases hu : mom u
      · refine Ev.ifT (decide_eq_true hu) ?_
        by_cases h1 : s < 0
        · refine Ev.ifT h1 ?_
          rw [decide_eq_false (by unfold inSpan; omega)]
          exact Ev.now _
        · refine Ev.ifF h1 ?_
          by_cases h2 : s > 86400000
          · refine Ev.ifT h2 ?_
            rw [decide_eq_false (by unfold inSpan; omega)]
            exact Ev.now _
          · refine Ev.ifF h2 ?_
            have hx' := hx
            have hf' := hf
            have hu' := hu
            unfold mom at hx hf hu
            rw [show wrap64 (f - s) = f - s by unfold wrap64; omega, show wrap64 (u + s) = u + s by unfold wrap64; omega]
            by_cases h3 : x ≥ f - s
            · refine Ev.ifT h3 ?_
              rw [show decide (inSpan x f u s) = decide (x < u + s) from decide_eq_decide.2 ⟨fun h => h.2.2.2.2.2.2, fun h => ⟨hx', hf', hu', by omega, by omega, by omega, h⟩⟩]
              rw [show (decide (x < u + s) == decide (x < u + s)) = true by simp]
              exact Ev.now _
            · refine Ev.ifF h3 ?_
              rw [decide_eq_false (by unfold inSpan; omega)]
              exact Ev.now _
      · refine Ev.ifF (by simpa using hu) ?_
        rw [decide_eq_false (fun h => hu h.2.2.1)]
        exact Ev.now _
    · refine Ev.ifF (by simpa using hf) ?_
      rw [decide_eq_false (fun h => hf h.2.1)]
      exact Ev.now _
  · refine Ev.ifF (by simpa using hx) ?_
    rw [decide_eq_false (fun h => hx h.1)]
    exact Ev.now _
theorem adds_yes (x y f u s : Int) (h : sumOk x y) : Ev (fun k => lanyardlaw10_MomentAdds.j0 k x y (x + y) 0 true f u s) true := by
  refine Ev.step (fun k => by rw [lanyardlaw10_MomentAdds.j0]) (Ev.ifT rfl (Ev.ifT rfl ?_))
  obtain ⟨h1, h2⟩ := h
  unfold mom at h2
  rw [show wrap64 (x + y) = x + y by unfold wrap64; omega]
  exact Ev.ifT rfl (adds_tail x f u s)
theorem adds_no (x y f u s : Int) : Ev (fun k => lanyardlaw10_MomentAdds.j0 k x y 0 21 false f u s) true := by
  refine Ev.step (fun k => by rw [lanyardlaw10_MomentAdds.j0]) (Ev.ifF (by simp) (Ev.ifT rfl ?_))
  exact adds_tail x f u s
theorem MomentAdds : lanyardlaw10_MomentAdds.Pure := by
  intro x y f u s _ _ _ _ _
  refine Ev.rounds (?_ : Ev (fun k => lanyardlaw10_MomentAdds.f k x y f u s) true)
  unfold lanyardlaw10_MomentAdds.f
  refine Ev.bind awake_ev (Ev.ifT rfl ?_)
  refine Ev.bindC (add_f x y) ?_
  refine Ev.bindC (is_f x) ?_
  by_cases hx : mom x
  · have hx' := hx
    unfold mom at hx
    refine Ev.ifT (decide_eq_true hx') ?_
    refine Ev.bindC (a := -62135596800000) rfl ?_
    rw [show wrap64 (-62135596800000 - x) = -62135596800000 - x by unfold wrap64; omega]
    by_cases h1 : y ≥ -62135596800000 - x
    · refine Ev.ifT h1 ?_
      refine Ev.bindC (a := 253402300799999) rfl ?_
      rw [show wrap64 (253402300799999 - x) = 253402300799999 - x by unfold wrap64; omega]
      by_cases h2 : y ≤ 253402300799999 - x
      · have hs : sumOk x y := ⟨hx', by unfold mom; omega⟩
        rw [if_pos hs, decide_eq_true h2]
        exact adds_yes x y f u s hs
      · rw [if_neg (by unfold sumOk mom; omega), decide_eq_false h2]
        exact adds_no x y f u s
    · refine Ev.ifF h1 ?_
      rw [if_neg (by unfold sumOk mom; omega)]
      exact adds_no x y f u s
  · refine Ev.ifF (by simpa using hx) ?_
    rw [if_neg (fun h => hx h.1)]
    exact adds_no x y f u s
end Go.Proofs.YtcikjghmelbkaaaDoor.Pure
