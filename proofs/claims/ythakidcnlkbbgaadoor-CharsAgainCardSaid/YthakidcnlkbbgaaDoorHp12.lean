/- Go functions of this seat as Lean functions, and their contracts: what the Go code computes, for every input. (By hp.py, a program of this repo, over the kit's print.py.) -/
import Derived.Test.YthakidcnlkbbgaaDoorHp0
import Derived.Test.YthakidcnlkbbgaaDoorHp1
import Derived.Test.YthakidcnlkbbgaaDoorHp2
import Derived.Test.YthakidcnlkbbgaaDoorHp6
import Derived.Test.YthakidcnlkbbgaaDoorHp7
namespace Go.Proofs.YthakidcnlkbbgaaDoor.Hp
open Go.RowKit Go.Proofs.YthakidcnlkbbgaaDoorW.PrintWords Go.Proofs.YthakidcnlkbbgaaDoorW.PrintLast Go.Proofs.YthakidcnlkbbgaaDoorW.PrintMore
attribute [local go_sem] max2_int min2_int max_two min_two max_three min_three max_four min_four   -- for this text's walks alone
set_option linter.unusedVariables false
set_option linter.unusedSimpArgs false

/-! ### lanyardlaw01_CharsAgain: function 7 -/
mutual
def lanyardlaw01_CharsAgain.j0 : Nat → ByteArray → ByteArray → Bool → Option (Bool)
 | 0, _, _, _ => none
 | k + 1, x0, x1, x19 => if x19 = true then ((lanyardlaw01_awake.f k).bind fun t274 => (some t274)) else ((chars_Lines.f x0).bind fun t275 => ((chars_Flat.f x0).bind fun t276 => ((chars_Collapse.f k x0).bind fun t277 => ((chars_Lines.f t275).bind fun t278 => (if t278.toList = t275.toList then ((chars_Flat.f t276).bind fun t279 => (if t279.toList = t276.toList then ((chars_Collapse.f k t277).bind fun t280 => (if t280.toList = t277.toList then ((chars_Words.f k t277).bind fun t281 => ((chars_Words.f k x0).bind fun t284 => ((lanyardref01_Texts.f k t281 t284).bind fun t287 => (lanyardlaw01_CharsAgain.j1 k x0 x1 (!t287))))) else (lanyardlaw01_CharsAgain.j1 k x0 x1 true))) else (lanyardlaw01_CharsAgain.j1 k x0 x1 true))) else (lanyardlaw01_CharsAgain.j1 k x0 x1 true))))))
def lanyardlaw01_CharsAgain.j1 : Nat → ByteArray → ByteArray → Bool → Option (Bool)
 | 0, _, _, _ => none
 | k + 1, x0, x1, x50 => if x50 = true then (some false) else (if x0.size + 1 ≤ 9223372036854775807 then (if (x0 ++ (⟨#[9]⟩ : ByteArray)).size + x1.size ≤ 9223372036854775807 then ((chars_Collapse.f k ((x0 ++ (⟨#[9]⟩ : ByteArray)) ++ x1)).bind fun t288 => ((chars_Collapse.f k x0).bind fun t289 => (if t289.size + 1 ≤ 9223372036854775807 then ((chars_Collapse.f k x1).bind fun t290 => (if (t289 ++ (⟨#[32]⟩ : ByteArray)).size + t290.size ≤ 9223372036854775807 then ((chars_Collapse.f k ((t289 ++ (⟨#[32]⟩ : ByteArray)) ++ t290)).bind fun t291 => (if t288.toList = t291.toList then ((chars_Flat.f x0).bind fun t292 => (if (t292.size : Int) = (x0.size : Int) then (if (x0 ++ (⟨#[32]⟩ : ByteArray)).size + x1.size ≤ 9223372036854775807 then ((chars_Words.f k ((x0 ++ (⟨#[32]⟩ : ByteArray)) ++ x1)).bind fun t293 => ((chars_Words.f k x0).bind fun t296 => ((chars_Words.f k x1).bind fun t299 => (some ((t293.length : Int) == (wrap64 ((t296.length : Int) + (t299.length : Int)))))))) else (none)) else (some false))) else (some false))) else (none))) else (none)))) else (none)) else (none))
end
def lanyardlaw01_CharsAgain.f (k : Nat) (a0 : ByteArray) (a1 : ByteArray) : Option (Bool) := (lanyardlaw01_awake.f k).bind fun t273 => (if t273 = true then (if (a0.size : Int) > 3000 then (lanyardlaw01_CharsAgain.j0 k a0 a1 true) else (lanyardlaw01_CharsAgain.j0 k a0 a1 (decide ((a1.size : Int) > 3000)))) else (lanyardlaw01_CharsAgain.j0 k a0 a1 true))
theorem lanyardlaw01_CharsAgain.mono_l : ∀ k, (∀ y0 y1 y2, LeO (lanyardlaw01_CharsAgain.j0 k y0 y1 y2) (lanyardlaw01_CharsAgain.j0 (k + 1) y0 y1 y2)) ∧ (∀ y0 y1 y2, LeO (lanyardlaw01_CharsAgain.j1 k y0 y1 y2) (lanyardlaw01_CharsAgain.j1 (k + 1) y0 y1 y2))
 | 0 => ⟨fun _ _ _ r h => by simp [lanyardlaw01_CharsAgain.j0] at h, fun _ _ _ r h => by simp [lanyardlaw01_CharsAgain.j1] at h⟩
 | k + 1 => by
  obtain ⟨ih0, ih1⟩ := lanyardlaw01_CharsAgain.mono_l k
  refine ⟨?_, ?_⟩
  ·intro y0 y1 y2
   unfold lanyardlaw01_CharsAgain.j0
   repeat' first
   | (with_reducible exact ih0 _ _ _)
   | (with_reducible exact ih1 _ _ _)
   | (with_reducible exact chars_Collapse.mono _ _)
   | (with_reducible exact chars_Words.mono _ _)
   | (with_reducible exact lanyardlaw01_awake.mono _)
   | (with_reducible exact lanyardref01_Texts.mono _ _ _)
   | (with_reducible exact LeO.refl _)
   | (with_reducible exact LeO.none _)
   | (with_reducible refine LeO.ite ?_ ?_)
   | (with_reducible refine LeO.bind ?_ (fun _ => ?_))
   | exact ih0 _ _ _
   | exact ih1 _ _ _
   | exact chars_Collapse.mono _ _
   | exact chars_Words.mono _ _
   | exact lanyardlaw01_awake.mono _
   | exact lanyardref01_Texts.mono _ _ _
   | exact LeO.none _
   | refine LeO.ite ?_ ?_
   | refine LeO.bind ?_ (fun _ => ?_)
  ·intro y0 y1 y2
   unfold lanyardlaw01_CharsAgain.j1
   repeat' first
   | (with_reducible exact ih0 _ _ _)
   | (with_reducible exact ih1 _ _ _)
   | (with_reducible exact chars_Collapse.mono _ _)
   | (with_reducible exact chars_Words.mono _ _)
   | (with_reducible exact lanyardlaw01_awake.mono _)
   | (with_reducible exact lanyardref01_Texts.mono _ _ _)
   | (with_reducible exact LeO.refl _)
   | (with_reducible exact LeO.none _)
   | (with_reducible refine LeO.ite ?_ ?_)
   | (with_reducible refine LeO.bind ?_ (fun _ => ?_))
   | exact ih0 _ _ _
   | exact ih1 _ _ _
   | exact chars_Collapse.mono _ _
   | exact chars_Words.mono _ _
   | exact lanyardlaw01_awake.mono _
   | exact lanyardref01_Texts.mono _ _ _
   | exact LeO.none _
   | refine LeO.ite ?_ ?_
   | refine LeO.bind ?_ (fun _ => ?_)
theorem lanyardlaw01_CharsAgain.mono : ∀ a0 a1 k, LeO (lanyardlaw01_CharsAgain.f k a0 a1) (lanyardlaw01_CharsAgain.f (k + 1) a0 a1) := by
 intro a0 a1 k
 obtain ⟨ih0, ih1⟩ := lanyardlaw01_CharsAgain.mono_l k
 unfold lanyardlaw01_CharsAgain.f
 repeat' first
   | (with_reducible exact ih0 _ _ _)
   | (with_reducible exact ih1 _ _ _)
   | (with_reducible exact chars_Collapse.mono _ _)
   | (with_reducible exact chars_Words.mono _ _)
   | (with_reducible exact lanyardlaw01_awake.mono _)
   | (with_reducible exact lanyardref01_Texts.mono _ _ _)
   | (with_reducible exact LeO.refl _)
   | (with_reducible exact LeO.none _)
   | (with_reducible refine LeO.ite ?_ ?_)
   | (with_reducible refine LeO.bind ?_ (fun _ => ?_))
   | exact ih0 _ _ _
   | exact ih1 _ _ _
   | exact chars_Collapse.mono _ _
   | exact chars_Words.mono _ _
   | exact lanyardlaw01_awake.mono _
   | exact lanyardref01_Texts.mono _ _ _
   | exact LeO.none _
   | refine LeO.ite ?_ ?_
   | refine LeO.bind ?_ (fun _ => ?_)
set_option maxHeartbeats 8000000 in
set_option maxRecDepth 100000 in
theorem lanyardlaw01_CharsAgain.calls (k : Nat) (a0 : ByteArray) (a1 : ByteArray) (r : Bool) (w : World) (hU : Uni w) (h : lanyardlaw01_CharsAgain.f k a0 a1 = some r) :
  Calls Tryd.prog 7 #[.string a0, .string a1] w fun e w' => e = .returned (.bool r) ∧ Below w.heap.size w w' := by
 have HU := Aside0.mk hU
 clear hU
 have HB := Aside0.mk (Below.refl w.heap.size w)
 have H : ((lanyardlaw01_awake.f k).bind fun t273 => (if t273 = true then (if (a0.size : Int) > 3000 then (lanyardlaw01_CharsAgain.j0 k a0 a1 true) else (lanyardlaw01_CharsAgain.j0 k a0 a1 (decide ((a1.size : Int) > 3000)))) else (lanyardlaw01_CharsAgain.j0 k a0 a1 true))) = some r := h
 clear h
 have HC3 := Aside0.mk H
 clear H
 go_enter Tryd.func7, Tryd.ntmps7
 go_upto_region 1 with (fail)
 go_cut [19] (fun v19 wc => ∃ (kq : Nat) (x19_2 : Bool), v19 = .bool x19_2 ∧ Aside0 (lanyardlaw01_CharsAgain.j0 kq a0 a1 x19_2 = some r) ∧ Aside0 (kq ≤ k) ∧ Aside0 (Below w.heap.size w wc))
 case first =>
  have H := HC3.out
  clear HC3
  replace H := Option.bind_eq_some_iff.mp H
  obtain ⟨t273, A40, H⟩ := H
  replace H : (if t273 = true then (if (a0.size : Int) > 3000 then (lanyardlaw01_CharsAgain.j0 k a0 a1 true) else (lanyardlaw01_CharsAgain.j0 k a0 a1 (decide ((a1.size : Int) > 3000)))) else (lanyardlaw01_CharsAgain.j0 k a0 a1 true)) = some r := H
  have A4 := Aside0.mk A40
  clear A40
  by_cases c5 : t273 = true
  ·subst c5
   have H1 : (if (a0.size : Int) > 3000 then (lanyardlaw01_CharsAgain.j0 k a0 a1 true) else (lanyardlaw01_CharsAgain.j0 k a0 a1 (decide ((a1.size : Int) > 3000)))) = some r := by rw [if_pos rfl] at H; exact H
   clear H
   have H := H1
   clear H1
   by_cases c6 : (a0.size : Int) > 3000
   ·rw [if_pos c6] at H
    have c6b0 : decide (3000 < (a0.size : Int)) = true := decide_eq_true c6
    have c6b1 : decide (3000 < a0.size) = true := decide_eq_true (by omega)
    clear c6
    (first | rw [c6b0] | (simp only [i64_w, i32_w]; rw [c6b0]) | skip)
    have H' := Aside0.mk H
    clear H
    go_wp2_with (first | ((with_reducible refine gate_callee (f := 8) rfl ?_); refine goesA (some 8) Tryd.func8 #[] rfl ?_; (with_reducible refine (lanyardlaw01_awake.calls k  true _ ?sideU A4.out).mono ?_); (case sideU => first | exact HU.out | exact Uni.up HU (Bu HB) | exact Uni.below HU.out (by assumption)); rintro e w7 ⟨rfl, hb⟩; refine ⟨_, rfl, ?_⟩; have n0_ := Bs HB hb; clear HB; revert n0_; intro HB; (try clear hb); (try clear hb2); (try clear hk); (try clear hi)))
    go_meet
    case rel => exact ⟨_, (true), (by first | rfl | (simp; done) | (simp [*]; done)), H', ⟨by first | omega | exact Nat.le_refl _⟩, ⟨Bu HB⟩⟩
   ·rw [if_neg c6] at H
    have c6b0 : decide (3000 < (a0.size : Int)) = false := decide_eq_false c6
    have c6b1 : decide (3000 < a0.size) = false := decide_eq_false (by omega)
    clear c6
    (first | rw [c6b0] | (simp only [i64_w, i32_w]; rw [c6b0]) | skip)
    have H' := Aside0.mk H
    clear H
    go_wp2_with (first | ((with_reducible refine gate_callee (f := 8) rfl ?_); refine goesA (some 8) Tryd.func8 #[] rfl ?_; (with_reducible refine (lanyardlaw01_awake.calls k  true _ ?sideU A4.out).mono ?_); (case sideU => first | exact HU.out | exact Uni.up HU (Bu HB) | exact Uni.below HU.out (by assumption)); rintro e w8 ⟨rfl, hb⟩; refine ⟨_, rfl, ?_⟩; have n0_ := Bs HB hb; clear HB; revert n0_; intro HB; (try clear hb); (try clear hb2); (try clear hk); (try clear hi)))
    go_meet
    case rel => exact ⟨_, (decide ((a1.size : Int) > 3000)), (by first | rfl | (simp; done) | (simp [*]; done)), H', ⟨by first | omega | exact Nat.le_refl _⟩, ⟨Bu HB⟩⟩
  ·replace c5 := Bool.eq_false_iff.mpr c5
   subst c5
   have H1 : (lanyardlaw01_CharsAgain.j0 k a0 a1 true) = some r := by rw [if_neg (show ¬ (false = true) by decide)] at H; exact H
   clear H
   have H := H1
   clear H1
   have H' := Aside0.mk H
   clear H
   go_wp2_with (first | ((with_reducible refine gate_callee (f := 8) rfl ?_); refine goesA (some 8) Tryd.func8 #[] rfl ?_; (with_reducible refine (lanyardlaw01_awake.calls k  false _ ?sideU A4.out).mono ?_); (case sideU => first | exact HU.out | exact Uni.up HU (Bu HB) | exact Uni.below HU.out (by assumption)); rintro e w9 ⟨rfl, hb⟩; refine ⟨_, rfl, ?_⟩; have n0_ := Bs HB hb; clear HB; revert n0_; intro HB; (try clear hb); (try clear hb2); (try clear hk); (try clear hi)))
   go_meet
   case rel => exact ⟨_, (true), (by first | rfl | (simp; done) | (simp [*]; done)), H', ⟨by first | omega | exact Nat.le_refl _⟩, ⟨Bu HB⟩⟩
 case rest =>
  clear HC3
  try clear p2
  try clear c5
  try clear c6
  try clear c6b0
  try clear c6b1
  try clear c7
  try clear c8
  obtain ⟨kq, x19_2, rfl, HA, HJ2, HB⟩ := hcut
  cases kq with
  | zero => exact absurd HA.out (by simp [lanyardlaw01_CharsAgain.j0])
  | succ kj2 =>
   have H := HA.out
   clear HA
   simp only [lanyardlaw01_CharsAgain.j0] at H
   by_cases c10 : x19_2 = true
   ·subst c10
    have H1 : ((lanyardlaw01_awake.f kj2).bind fun t274 => (some t274)) = some r := by rw [if_pos rfl] at H; exact H
    clear H
    have H := H1
    clear H1
    replace H := Option.bind_eq_some_iff.mp H
    obtain ⟨t274, A110, H⟩ := H
    replace H : (some t274) = some r := H
    have A11 := Aside0.mk A110
    clear A110
    obtain rfl := Option.some.inj H
    go_wp2_with (first | ((with_reducible refine gate_callee (f := 8) rfl ?_); refine goesA (some 20) Tryd.func8 #[] rfl ?_; (with_reducible refine (lanyardlaw01_awake.calls kj2  t274 _ ?sideU A11.out).mono ?_); (case sideU => first | exact HU.out | exact Uni.up HU (Bu HB) | exact Uni.below HU.out (by assumption)); rintro e w12 ⟨rfl, hb⟩; refine ⟨_, rfl, ?_⟩; have n0_ := Bs HB hb; clear HB; revert n0_; intro HB; (try clear hb); (try clear hb2); (try clear hk); (try clear hi)))
    go_ret
    exact ⟨rfl_, Bu HB⟩
   ·replace c10 := Bool.eq_false_iff.mpr c10
    subst c10
    have H1 : ((chars_Lines.f a0).bind fun t275 => ((chars_Flat.f a0).bind fun t276 => ((chars_Collapse.f kj2 a0).bind fun t277 => ((chars_Lines.f t275).bind fun t278 => (if t278.toList = t275.toList then ((chars_Flat.f t276).bind fun t279 => (if t279.toList = t276.toList then ((chars_Collapse.f kj2 t277).bind fun t280 => (if t280.toList = t277.toList then ((chars_Words.f kj2 t277).bind fun t281 => ((chars_Words.f kj2 a0).bind fun t284 => ((lanyardref01_Texts.f kj2 t281 t284).bind fun t287 => (lanyardlaw01_CharsAgain.j1 kj2 a0 a1 (!t287))))) else (lanyardlaw01_CharsAgain.j1 kj2 a0 a1 true))) else (lanyardlaw01_CharsAgain.j1 kj2 a0 a1 true))) else (lanyardlaw01_CharsAgain.j1 kj2 a0 a1 true)))))) = some r := by rw [if_neg (show ¬ (false = true) by decide)] at H; exact H
    clear H
    have H := H1
    clear H1
    replace H := Option.bind_eq_some_iff.mp H
    obtain ⟨t275, A130, H⟩ := H
    replace H : ((chars_Flat.f a0).bind fun t276 => ((chars_Collapse.f kj2 a0).bind fun t277 => ((chars_Lines.f t275).bind fun t278 => (if t278.toList = t275.toList then ((chars_Flat.f t276).bind fun t279 => (if t279.toList = t276.toList then ((chars_Collapse.f kj2 t277).bind fun t280 => (if t280.toList = t277.toList then ((chars_Words.f kj2 t277).bind fun t281 => ((chars_Words.f kj2 a0).bind fun t284 => ((lanyardref01_Texts.f kj2 t281 t284).bind fun t287 => (lanyardlaw01_CharsAgain.j1 kj2 a0 a1 (!t287))))) else (lanyardlaw01_CharsAgain.j1 kj2 a0 a1 true))) else (lanyardlaw01_CharsAgain.j1 kj2 a0 a1 true))) else (lanyardlaw01_CharsAgain.j1 kj2 a0 a1 true))))) = some r := H
    have A13 := Aside0.mk A130
    clear A130
    replace H := Option.bind_eq_some_iff.mp H
    obtain ⟨t276, A140, H⟩ := H
    replace H : ((chars_Collapse.f kj2 a0).bind fun t277 => ((chars_Lines.f t275).bind fun t278 => (if t278.toList = t275.toList then ((chars_Flat.f t276).bind fun t279 => (if t279.toList = t276.toList then ((chars_Collapse.f kj2 t277).bind fun t280 => (if t280.toList = t277.toList then ((chars_Words.f kj2 t277).bind fun t281 => ((chars_Words.f kj2 a0).bind fun t284 => ((lanyardref01_Texts.f kj2 t281 t284).bind fun t287 => (lanyardlaw01_CharsAgain.j1 kj2 a0 a1 (!t287))))) else (lanyardlaw01_CharsAgain.j1 kj2 a0 a1 true))) else (lanyardlaw01_CharsAgain.j1 kj2 a0 a1 true))) else (lanyardlaw01_CharsAgain.j1 kj2 a0 a1 true)))) = some r := H
    have A14 := Aside0.mk A140
    clear A140
    replace H := Option.bind_eq_some_iff.mp H
    obtain ⟨t277, A150, H⟩ := H
    replace H : ((chars_Lines.f t275).bind fun t278 => (if t278.toList = t275.toList then ((chars_Flat.f t276).bind fun t279 => (if t279.toList = t276.toList then ((chars_Collapse.f kj2 t277).bind fun t280 => (if t280.toList = t277.toList then ((chars_Words.f kj2 t277).bind fun t281 => ((chars_Words.f kj2 a0).bind fun t284 => ((lanyardref01_Texts.f kj2 t281 t284).bind fun t287 => (lanyardlaw01_CharsAgain.j1 kj2 a0 a1 (!t287))))) else (lanyardlaw01_CharsAgain.j1 kj2 a0 a1 true))) else (lanyardlaw01_CharsAgain.j1 kj2 a0 a1 true))) else (lanyardlaw01_CharsAgain.j1 kj2 a0 a1 true))) = some r := H
    have A15 := Aside0.mk A150
    clear A150
    have HC16 := Aside0.mk H
    clear H
    go_upto_region 4 with (first | ((with_reducible refine gate_callee (f := 13) rfl ?_); refine goesA (some 22) Tryd.func13 #[.string a0] rfl ?_; (with_reducible refine (chars_Lines.calls a0 t275 _ ?sideU A13.out).mono ?_); (case sideU => first | exact HU.out | exact Uni.up HU (Bu HB) | exact Uni.below HU.out (by assumption)); rintro e w17 ⟨rfl, hb⟩; refine ⟨_, rfl, ?_⟩; have n0_ := Bs HB hb; clear HB; revert n0_; intro HB; (try clear hb); (try clear hb2); (try clear hk); (try clear hi)) | ((with_reducible refine gate_callee (f := 15) rfl ?_); refine goesA (some 24) Tryd.func15 #[.string a0] rfl ?_; (with_reducible refine (chars_Flat.calls a0 t276 _ A14.out).mono ?_); rintro e w18 ⟨rfl, hb⟩; refine ⟨_, rfl, ?_⟩; have n0_ := Bs HB hb; clear HB; revert n0_; intro HB; (try clear hb); (try clear hb2); (try clear hk); (try clear hi)) | ((with_reducible refine gate_callee (f := 17) rfl ?_); refine goesA (some 26) Tryd.func17 #[.string a0] rfl ?_; (with_reducible refine (chars_Collapse.calls kj2 a0 t277 _ ?sideU A15.out).mono ?_); (case sideU => first | exact HU.out | exact Uni.up HU (Bu HB) | exact Uni.below HU.out (by assumption)); rintro e w19 ⟨rfl, hb⟩; refine ⟨_, rfl, ?_⟩; have n0_ := Bs HB hb; clear HB; revert n0_; intro HB; (try clear hb); (try clear hb2); (try clear hk); (try clear hi)))
    (try simp only [Act.put, List.setIfInBounds_toArray, List.set_cons_zero, List.set_cons_succ])
    go_cut [50] (fun v50 wc => ∃ (kq : Nat) (x50_15 : Bool), v50 = .bool x50_15 ∧ Aside0 (lanyardlaw01_CharsAgain.j1 kq a0 a1 x50_15 = some r) ∧ Aside0 (kq ≤ kj2) ∧ Aside0 (Below w.heap.size w wc))
    case first =>
     have H := HC16.out
     clear HC16
     replace H := Option.bind_eq_some_iff.mp H
     obtain ⟨t278, A200, H⟩ := H
     replace H : (if t278.toList = t275.toList then ((chars_Flat.f t276).bind fun t279 => (if t279.toList = t276.toList then ((chars_Collapse.f kj2 t277).bind fun t280 => (if t280.toList = t277.toList then ((chars_Words.f kj2 t277).bind fun t281 => ((chars_Words.f kj2 a0).bind fun t284 => ((lanyardref01_Texts.f kj2 t281 t284).bind fun t287 => (lanyardlaw01_CharsAgain.j1 kj2 a0 a1 (!t287))))) else (lanyardlaw01_CharsAgain.j1 kj2 a0 a1 true))) else (lanyardlaw01_CharsAgain.j1 kj2 a0 a1 true))) else (lanyardlaw01_CharsAgain.j1 kj2 a0 a1 true)) = some r := H
     have A20 := Aside0.mk A200
     clear A200
     by_cases c21 : t278.toList = t275.toList
     ·rw [if_pos c21] at H
      have c21b0 : (t278.toList == t275.toList) = true := beq_iff_eq.mpr c21
      have c21b1 : (t278.toList != t275.toList) = false := bne_eq_false_iff_eq.mpr c21
      clear c21
      (first | rw [c21b0] | (simp only [i64_w, i32_w]; rw [c21b0]) | skip)
      replace H := Option.bind_eq_some_iff.mp H
      obtain ⟨t279, A220, H⟩ := H
      replace H : (if t279.toList = t276.toList then ((chars_Collapse.f kj2 t277).bind fun t280 => (if t280.toList = t277.toList then ((chars_Words.f kj2 t277).bind fun t281 => ((chars_Words.f kj2 a0).bind fun t284 => ((lanyardref01_Texts.f kj2 t281 t284).bind fun t287 => (lanyardlaw01_CharsAgain.j1 kj2 a0 a1 (!t287))))) else (lanyardlaw01_CharsAgain.j1 kj2 a0 a1 true))) else (lanyardlaw01_CharsAgain.j1 kj2 a0 a1 true)) = some r := H
      have A22 := Aside0.mk A220
      clear A220
      by_cases c23 : t279.toList = t276.toList
      ·rw [if_pos c23] at H
       have c23b0 : (t279.toList == t276.toList) = true := beq_iff_eq.mpr c23
       have c23b1 : (t279.toList != t276.toList) = false := bne_eq_false_iff_eq.mpr c23
       clear c23
       replace H := Option.bind_eq_some_iff.mp H
       obtain ⟨t280, A240, H⟩ := H
       replace H : (if t280.toList = t277.toList then ((chars_Words.f kj2 t277).bind fun t281 => ((chars_Words.f kj2 a0).bind fun t284 => ((lanyardref01_Texts.f kj2 t281 t284).bind fun t287 => (lanyardlaw01_CharsAgain.j1 kj2 a0 a1 (!t287))))) else (lanyardlaw01_CharsAgain.j1 kj2 a0 a1 true)) = some r := H
       have A24 := Aside0.mk A240
       clear A240
       by_cases c25 : t280.toList = t277.toList
       ·rw [if_pos c25] at H
        have c25b0 : (t280.toList == t277.toList) = true := beq_iff_eq.mpr c25
        have c25b1 : (t280.toList != t277.toList) = false := bne_eq_false_iff_eq.mpr c25
        clear c25
        replace H := Option.bind_eq_some_iff.mp H
        obtain ⟨t281, A260, H⟩ := H
        replace H : ((chars_Words.f kj2 a0).bind fun t284 => ((lanyardref01_Texts.f kj2 t281 t284).bind fun t287 => (lanyardlaw01_CharsAgain.j1 kj2 a0 a1 (!t287)))) = some r := H
        have A26 := Aside0.mk A260
        clear A260
        replace H := Option.bind_eq_some_iff.mp H
        obtain ⟨t284, A270, H⟩ := H
        replace H : ((lanyardref01_Texts.f kj2 t281 t284).bind fun t287 => (lanyardlaw01_CharsAgain.j1 kj2 a0 a1 (!t287))) = some r := H
        have A27 := Aside0.mk A270
        clear A270
        replace H := Option.bind_eq_some_iff.mp H
        obtain ⟨t287, A280, H⟩ := H
        replace H : (lanyardlaw01_CharsAgain.j1 kj2 a0 a1 (!t287)) = some r := H
        have A28 := Aside0.mk A280
        clear A280
        have H' := Aside0.mk H
        clear H
        go_wp2_with (first | ((with_reducible refine gate_callee (f := 13) rfl ?_); refine goesA (some 28) Tryd.func13 #[.string t275] rfl ?_; (with_reducible refine (chars_Lines.calls t275 t278 _ ?sideU A20.out).mono ?_); (case sideU => first | exact HU.out | exact Uni.up HU (Bu HB) | exact Uni.below HU.out (by assumption)); rintro e w29 ⟨rfl, hb⟩; refine ⟨_, rfl, ?_⟩; have n0_ := Bs HB hb; clear HB; revert n0_; intro HB; (try clear hb); (try clear hb2); (try clear hk); (try clear hi)) | (go_at_call 15; (with_reducible refine (chars_Flat.calls t276 t279 _ A22.out).mono ?_); rintro e w30 ⟨rfl, hb⟩; have n0_ := Bs HB hb; clear HB; revert n0_; intro HB; (try clear hb); (try clear hb2); (try clear hk); (try clear hi)) | (go_at_call 17; (with_reducible refine (chars_Collapse.calls kj2 t277 t280 _ ?sideU A24.out).mono ?_); (case sideU => first | exact HU.out | exact Uni.up HU (Bu HB) | exact Uni.below HU.out (by assumption)); rintro e w31 ⟨rfl, hb⟩; have n0_ := Bs HB hb; clear HB; revert n0_; intro HB; (try clear hb); (try clear hb2); (try clear hk); (try clear hi)) | (go_at_call 20; (with_reducible refine (chars_Words.calls kj2 t277 t281 _ ?sideU A26.out).mono ?_); (case sideU => first | exact HU.out | exact Uni.up HU (Bu HB) | exact Uni.below HU.out (by assumption)); rintro e w32 ⟨v282, rfl, ho0, hb⟩; have n0_ := Aside0.mk (Kd.R_lower ho0 (Bz HB)); have n1_ := Bs HB hb; clear HB; revert n0_ n1_; intro HO283 HB; (try clear hb); (try clear hb2); (try clear hk); (try clear hi); (try clear ho0)) | (go_at_call 20; (with_reducible refine (chars_Words.calls kj2 a0 t284 _ ?sideU A27.out).mono ?_); (case sideU => first | exact HU.out | exact Uni.up HU (Bu HB) | exact Uni.below HU.out (by assumption)); rintro e w33 ⟨v285, rfl, ho0, hb⟩; have n0_ := Re HO283 (Kd.R_base ho0) hb; have n1_ := Aside0.mk (Kd.R_lower (Kd.R_new' ho0 (Kd.R_lt (Ru HO283))) (Bz HB)); have n2_ := Bs HB hb; clear HO283 HB; revert n0_ n1_ n2_; intro HO283 HO286 HB; (try clear hb); (try clear hb2); (try clear hk); (try clear hi); (try clear ho0); obtain ⟨Ao34, co34, eo34⟩ := Kd.R_slice HO283.out; subst eo34; obtain ⟨Ao35, co35, eo35⟩ := Kd.R_slice HO286.out; subst eo35) | (go_at_call 19; (with_reducible refine (lanyardref01_Texts.calls kj2 _ _ t281 _ _ t284 t287 _ ?side1 ?side2 ?side3 ?side4 A28.out).mono ?_); (case side1 => exact Cu (Kd.R_reads' HO283.out).2.2); (case side2 => exact (Kd.R_reads' HO283.out).2.1); (case side3 => exact Cu (Kd.R_reads' HO286.out).2.2); (case side4 => exact (Kd.R_reads' HO286.out).2.1); rintro e w' ⟨rfl, ⟨nd, rfl⟩⟩))
        go_meet
        case rel => exact ⟨_, (!t287), (by first | rfl | (simp; done) | (simp [*]; done)), H', ⟨by have := HJ2.out; first | omega | exact Nat.le_refl _⟩, ⟨Bu HB⟩⟩
       ·rw [if_neg c25] at H
        have c25b0 : (t280.toList == t277.toList) = false := beq_eq_false_iff_ne.mpr c25
        have c25b1 : (t280.toList != t277.toList) = true := bne_iff_ne.mpr c25
        have H' := Aside0.mk H
        clear H
        go_wp2_with (first | ((with_reducible refine gate_callee (f := 13) rfl ?_); refine goesA (some 28) Tryd.func13 #[.string t275] rfl ?_; (with_reducible refine (chars_Lines.calls t275 t278 _ ?sideU A20.out).mono ?_); (case sideU => first | exact HU.out | exact Uni.up HU (Bu HB) | exact Uni.below HU.out (by assumption)); rintro e w36 ⟨rfl, hb⟩; refine ⟨_, rfl, ?_⟩; have n0_ := Bs HB hb; clear HB; revert n0_; intro HB; (try clear hb); (try clear hb2); (try clear hk); (try clear hi)) | (go_at_call 15; (with_reducible refine (chars_Flat.calls t276 t279 _ A22.out).mono ?_); rintro e w37 ⟨rfl, hb⟩; have n0_ := Bs HB hb; clear HB; revert n0_; intro HB; (try clear hb); (try clear hb2); (try clear hk); (try clear hi)) | (go_at_call 17; (with_reducible refine (chars_Collapse.calls kj2 t277 t280 _ ?sideU A24.out).mono ?_); (case sideU => first | exact HU.out | exact Uni.up HU (Bu HB) | exact Uni.below HU.out (by assumption)); rintro e w38 ⟨rfl, hb⟩; have n0_ := Bs HB hb; clear HB; revert n0_; intro HB; (try clear hb); (try clear hb2); (try clear hk); (try clear hi)))
        go_meet
        case rel => exact ⟨_, (true), (by first | rfl | (simp; done) | (simp [*]; done)), H', ⟨by have := HJ2.out; first | omega | exact Nat.le_refl _⟩, ⟨Bu HB⟩⟩
      ·rw [if_neg c23] at H
       have c23b0 : (t279.toList == t276.toList) = false := beq_eq_false_iff_ne.mpr c23
       have c23b1 : (t279.toList != t276.toList) = true := bne_iff_ne.mpr c23
       have H' := Aside0.mk H
       clear H
       go_wp2_with (first | ((with_reducible refine gate_callee (f := 13) rfl ?_); refine goesA (some 28) Tryd.func13 #[.string t275] rfl ?_; (with_reducible refine (chars_Lines.calls t275 t278 _ ?sideU A20.out).mono ?_); (case sideU => first | exact HU.out | exact Uni.up HU (Bu HB) | exact Uni.below HU.out (by assumption)); rintro e w39 ⟨rfl, hb⟩; refine ⟨_, rfl, ?_⟩; have n0_ := Bs HB hb; clear HB; revert n0_; intro HB; (try clear hb); (try clear hb2); (try clear hk); (try clear hi)) | (go_at_call 15; (with_reducible refine (chars_Flat.calls t276 t279 _ A22.out).mono ?_); rintro e w40 ⟨rfl, hb⟩; have n0_ := Bs HB hb; clear HB; revert n0_; intro HB; (try clear hb); (try clear hb2); (try clear hk); (try clear hi)))
       go_meet
       case rel => exact ⟨_, (true), (by first | rfl | (simp; done) | (simp [*]; done)), H', ⟨by have := HJ2.out; first | omega | exact Nat.le_refl _⟩, ⟨Bu HB⟩⟩
     ·rw [if_neg c21] at H
      have c21b0 : (t278.toList == t275.toList) = false := beq_eq_false_iff_ne.mpr c21
      have c21b1 : (t278.toList != t275.toList) = true := bne_iff_ne.mpr c21
      (first | rw [c21b0] | (simp only [i64_w, i32_w]; rw [c21b0]) | skip)
      have H' := Aside0.mk H
      clear H
      go_wp2_with (first | ((with_reducible refine gate_callee (f := 13) rfl ?_); refine goesA (some 28) Tryd.func13 #[.string t275] rfl ?_; (with_reducible refine (chars_Lines.calls t275 t278 _ ?sideU A20.out).mono ?_); (case sideU => first | exact HU.out | exact Uni.up HU (Bu HB) | exact Uni.below HU.out (by assumption)); rintro e w41 ⟨rfl, hb⟩; refine ⟨_, rfl, ?_⟩; have n0_ := Bs HB hb; clear HB; revert n0_; intro HB; (try clear hb); (try clear hb2); (try clear hk); (try clear hi)))
      go_meet
      case rel => exact ⟨_, (true), (by first | rfl | (simp; done) | (simp [*]; done)), H', ⟨by have := HJ2.out; first | omega | exact Nat.le_refl _⟩, ⟨Bu HB⟩⟩
    case rest =>
     clear HC16
     try clear c1
     try clear c2
     try clear p2
     try clear c5
     try clear c6
     try clear c6b0
     try clear c6b1
     try clear c7
     try clear c8
     try clear c10
     try clear c13
     try clear c15
     try clear c17
     try clear c21
     try clear c21b0
     try clear c21b1
     try clear c23
     try clear c23b0
     try clear c23b1
     try clear c25
     try clear c25b0
     try clear c25b1
     try clear p2
     obtain ⟨kq, x50_15, rfl, HA, HJ15, HB⟩ := hcut
     cases kq with
     | zero => exact absurd HA.out (by simp [lanyardlaw01_CharsAgain.j1])
     | succ kj15 =>
      have H := HA.out
      clear HA
      simp only [lanyardlaw01_CharsAgain.j1] at H
      by_cases c42 : x50_15 = true
      ·subst c42
       have H1 : (some false) = some r := by rw [if_pos rfl] at H; exact H
       clear H
       have H := H1
       clear H1
       obtain rfl := Option.some.inj H
       go_wp2
       go_ret
       exact ⟨rfl_, Bu HB⟩
      ·replace c42 := Bool.eq_false_iff.mpr c42
       subst c42
       have H1 : (if a0.size + 1 ≤ 9223372036854775807 then (if (a0 ++ (⟨#[9]⟩ : ByteArray)).size + a1.size ≤ 9223372036854775807 then ((chars_Collapse.f kj15 ((a0 ++ (⟨#[9]⟩ : ByteArray)) ++ a1)).bind fun t288 => ((chars_Collapse.f kj15 a0).bind fun t289 => (if t289.size + 1 ≤ 9223372036854775807 then ((chars_Collapse.f kj15 a1).bind fun t290 => (if (t289 ++ (⟨#[32]⟩ : ByteArray)).size + t290.size ≤ 9223372036854775807 then ((chars_Collapse.f kj15 ((t289 ++ (⟨#[32]⟩ : ByteArray)) ++ t290)).bind fun t291 => (if t288.toList = t291.toList then ((chars_Flat.f a0).bind fun t292 => (if (t292.size : Int) = (a0.size : Int) then (if (a0 ++ (⟨#[32]⟩ : ByteArray)).size + a1.size ≤ 9223372036854775807 then ((chars_Words.f kj15 ((a0 ++ (⟨#[32]⟩ : ByteArray)) ++ a1)).bind fun t293 => ((chars_Words.f kj15 a0).bind fun t296 => ((chars_Words.f kj15 a1).bind fun t299 => (some ((t293.length : Int) == (wrap64 ((t296.length : Int) + (t299.length : Int)))))))) else (none)) else (some false))) else (some false))) else (none))) else (none)))) else (none)) else (none)) = some r := by rw [if_neg (show ¬ (false = true) by decide)] at H; exact H
       clear H
       have H := H1
       clear H1
       by_cases c43 : a0.size + 1 ≤ 9223372036854775807
       ·rw [if_pos c43] at H
        have c43b0 := eq_true c43
        have c43b1 : decide (a0.size + 1 ≤ 9223372036854775807) = true := decide_eq_true c43
        try have c43b2 : (9223372036854775807 < a0.size + 1) = False := eq_false (Nat.not_lt.2 c43)
        by_cases c44 : (a0 ++ (⟨#[9]⟩ : ByteArray)).size + a1.size ≤ 9223372036854775807
        ·rw [if_pos c44] at H
         have c44b0 := eq_true c44
         have c44b1 : decide ((a0 ++ (⟨#[9]⟩ : ByteArray)).size + a1.size ≤ 9223372036854775807) = true := decide_eq_true c44
         try have c44b2 : (9223372036854775807 < (a0 ++ (⟨#[9]⟩ : ByteArray)).size + a1.size) = False := eq_false (Nat.not_lt.2 c44)
         try have c44b2z : (9223372036854775807 < a0.size + 1 + a1.size) = False := by have h_ := c44b2; simp only [ByteArray.size_append] at h_; exact h_
         replace H := Option.bind_eq_some_iff.mp H
         obtain ⟨t288, A450, H⟩ := H
         replace H : ((chars_Collapse.f kj15 a0).bind fun t289 => (if t289.size + 1 ≤ 9223372036854775807 then ((chars_Collapse.f kj15 a1).bind fun t290 => (if (t289 ++ (⟨#[32]⟩ : ByteArray)).size + t290.size ≤ 9223372036854775807 then ((chars_Collapse.f kj15 ((t289 ++ (⟨#[32]⟩ : ByteArray)) ++ t290)).bind fun t291 => (if t288.toList = t291.toList then ((chars_Flat.f a0).bind fun t292 => (if (t292.size : Int) = (a0.size : Int) then (if (a0 ++ (⟨#[32]⟩ : ByteArray)).size + a1.size ≤ 9223372036854775807 then ((chars_Words.f kj15 ((a0 ++ (⟨#[32]⟩ : ByteArray)) ++ a1)).bind fun t293 => ((chars_Words.f kj15 a0).bind fun t296 => ((chars_Words.f kj15 a1).bind fun t299 => (some ((t293.length : Int) == (wrap64 ((t296.length : Int) + (t299.length : Int)))))))) else (none)) else (some false))) else (some false))) else (none))) else (none))) = some r := H
         have A45 := Aside0.mk A450
         clear A450
         replace H := Option.bind_eq_some_iff.mp H
         obtain ⟨t289, A460, H⟩ := H
         replace H : (if t289.size + 1 ≤ 9223372036854775807 then ((chars_Collapse.f kj15 a1).bind fun t290 => (if (t289 ++ (⟨#[32]⟩ : ByteArray)).size + t290.size ≤ 9223372036854775807 then ((chars_Collapse.f kj15 ((t289 ++ (⟨#[32]⟩ : ByteArray)) ++ t290)).bind fun t291 => (if t288.toList = t291.toList then ((chars_Flat.f a0).bind fun t292 => (if (t292.size : Int) = (a0.size : Int) then (if (a0 ++ (⟨#[32]⟩ : ByteArray)).size + a1.size ≤ 9223372036854775807 then ((chars_Words.f kj15 ((a0 ++ (⟨#[32]⟩ : ByteArray)) ++ a1)).bind fun t293 => ((chars_Words.f kj15 a0).bind fun t296 => ((chars_Words.f kj15 a1).bind fun t299 => (some ((t293.length : Int) == (wrap64 ((t296.length : Int) + (t299.length : Int)))))))) else (none)) else (some false))) else (some false))) else (none))) else (none)) = some r := H
         have A46 := Aside0.mk A460
         clear A460
         by_cases c47 : t289.size + 1 ≤ 9223372036854775807
         ·rw [if_pos c47] at H
          have c47b0 := eq_true c47
          have c47b1 : decide (t289.size + 1 ≤ 9223372036854775807) = true := decide_eq_true c47
          try have c47b2 : (9223372036854775807 < t289.size + 1) = False := eq_false (Nat.not_lt.2 c47)
          replace H := Option.bind_eq_some_iff.mp H
          obtain ⟨t290, A480, H⟩ := H
          replace H : (if (t289 ++ (⟨#[32]⟩ : ByteArray)).size + t290.size ≤ 9223372036854775807 then ((chars_Collapse.f kj15 ((t289 ++ (⟨#[32]⟩ : ByteArray)) ++ t290)).bind fun t291 => (if t288.toList = t291.toList then ((chars_Flat.f a0).bind fun t292 => (if (t292.size : Int) = (a0.size : Int) then (if (a0 ++ (⟨#[32]⟩ : ByteArray)).size + a1.size ≤ 9223372036854775807 then ((chars_Words.f kj15 ((a0 ++ (⟨#[32]⟩ : ByteArray)) ++ a1)).bind fun t293 => ((chars_Words.f kj15 a0).bind fun t296 => ((chars_Words.f kj15 a1).bind fun t299 => (some ((t293.length : Int) == (wrap64 ((t296.length : Int) + (t299.length : Int)))))))) else (none)) else (some false))) else (some false))) else (none)) = some r := H
          have A48 := Aside0.mk A480
          clear A480
          by_cases c49 : (t289 ++ (⟨#[32]⟩ : ByteArray)).size + t290.size ≤ 9223372036854775807
          ·rw [if_pos c49] at H
           have c49b0 := eq_true c49
           have c49b1 : decide ((t289 ++ (⟨#[32]⟩ : ByteArray)).size + t290.size ≤ 9223372036854775807) = true := decide_eq_true c49
           try have c49b2 : (9223372036854775807 < (t289 ++ (⟨#[32]⟩ : ByteArray)).size + t290.size) = False := eq_false (Nat.not_lt.2 c49)
           try have c49b2z : (9223372036854775807 < t289.size + 1 + t290.size) = False := by have h_ := c49b2; simp only [ByteArray.size_append] at h_; exact h_
           replace H := Option.bind_eq_some_iff.mp H
           obtain ⟨t291, A500, H⟩ := H
           replace H : (if t288.toList = t291.toList then ((chars_Flat.f a0).bind fun t292 => (if (t292.size : Int) = (a0.size : Int) then (if (a0 ++ (⟨#[32]⟩ : ByteArray)).size + a1.size ≤ 9223372036854775807 then ((chars_Words.f kj15 ((a0 ++ (⟨#[32]⟩ : ByteArray)) ++ a1)).bind fun t293 => ((chars_Words.f kj15 a0).bind fun t296 => ((chars_Words.f kj15 a1).bind fun t299 => (some ((t293.length : Int) == (wrap64 ((t296.length : Int) + (t299.length : Int)))))))) else (none)) else (some false))) else (some false)) = some r := H
           have A50 := Aside0.mk A500
           clear A500
           by_cases c51 : t288.toList = t291.toList
           ·rw [if_pos c51] at H
            have c51b0 : (t288.toList == t291.toList) = true := beq_iff_eq.mpr c51
            have c51b1 : (t288.toList != t291.toList) = false := bne_eq_false_iff_eq.mpr c51
            clear c51
            replace H := Option.bind_eq_some_iff.mp H
            obtain ⟨t292, A520, H⟩ := H
            replace H : (if (t292.size : Int) = (a0.size : Int) then (if (a0 ++ (⟨#[32]⟩ : ByteArray)).size + a1.size ≤ 9223372036854775807 then ((chars_Words.f kj15 ((a0 ++ (⟨#[32]⟩ : ByteArray)) ++ a1)).bind fun t293 => ((chars_Words.f kj15 a0).bind fun t296 => ((chars_Words.f kj15 a1).bind fun t299 => (some ((t293.length : Int) == (wrap64 ((t296.length : Int) + (t299.length : Int)))))))) else (none)) else (some false)) = some r := H
            have A52 := Aside0.mk A520
            have EQ52 := Aside0.mk (Option.some.inj (A14.out.symm.trans A52.out))
            clear A520
            by_cases c53 : (t292.size : Int) = (a0.size : Int)
            ·rw [if_pos c53] at H
             have c53b0 : ((t292.size : Int) == (a0.size : Int)) = true := beq_iff_eq.mpr c53
             have c53b1 : ((t292.size : Int) != (a0.size : Int)) = false := bne_eq_false_iff_eq.mpr c53
             have c53b2 : (t292.size == a0.size) = true := by first | simpa using c53 | (simp at c53 ⊢; omega)
             clear c53
             by_cases c54 : (a0 ++ (⟨#[32]⟩ : ByteArray)).size + a1.size ≤ 9223372036854775807
             ·rw [if_pos c54] at H
              have c54b0 := eq_true c54
              have c54b1 : decide ((a0 ++ (⟨#[32]⟩ : ByteArray)).size + a1.size ≤ 9223372036854775807) = true := decide_eq_true c54
              try have c54b2 : (9223372036854775807 < (a0 ++ (⟨#[32]⟩ : ByteArray)).size + a1.size) = False := eq_false (Nat.not_lt.2 c54)
              try have c54b2z : (9223372036854775807 < a0.size + 1 + a1.size) = False := by have h_ := c54b2; simp only [ByteArray.size_append] at h_; exact h_
              replace H := Option.bind_eq_some_iff.mp H
              obtain ⟨t293, A550, H⟩ := H
              replace H : ((chars_Words.f kj15 a0).bind fun t296 => ((chars_Words.f kj15 a1).bind fun t299 => (some ((t293.length : Int) == (wrap64 ((t296.length : Int) + (t299.length : Int))))))) = some r := H
              have A55 := Aside0.mk A550
              clear A550
              replace H := Option.bind_eq_some_iff.mp H
              obtain ⟨t296, A560, H⟩ := H
              replace H : ((chars_Words.f kj15 a1).bind fun t299 => (some ((t293.length : Int) == (wrap64 ((t296.length : Int) + (t299.length : Int)))))) = some r := H
              have A56 := Aside0.mk A560
              clear A560
              replace H := Option.bind_eq_some_iff.mp H
              obtain ⟨t299, A570, H⟩ := H
              replace H : (some ((t293.length : Int) == (wrap64 ((t296.length : Int) + (t299.length : Int))))) = some r := H
              have A57 := Aside0.mk A570
              clear A570
              obtain rfl := Option.some.inj H
              go_wp2_with (first | ((with_reducible refine gate_callee (f := 17) rfl ?_); refine goesL_ (some 55) rfl rfl Tryd.func17 (by kernel_rfl) rfl #[.string ((a0 ++ (⟨#[9]⟩ : ByteArray)) ++ a1)] rfl (by (try simp only [List.map_toArray, List.map_cons, List.map_nil]); first | done | rfl | (simp only [List.length_drop, List.length_take]; rfl)) ?_; (with_reducible refine (chars_Collapse.calls kj15 ((a0 ++ (⟨#[9]⟩ : ByteArray)) ++ a1) t288 _ ?sideU A45.out).mono ?_); (case sideU => first | exact HU.out | exact Uni.up HU (Bu HB) | exact Uni.below HU.out (by assumption)); rintro e w58 ⟨rfl, hb⟩; refine ⟨_, rfl, ?_⟩; have n0_ := Bs HB hb; clear HB; revert n0_; intro HB; (try clear hb); (try clear hb2); (try clear hk); (try clear hi)) | ((with_reducible refine gate_callee (f := 17) rfl ?_); refine goesA (some 57) Tryd.func17 #[.string a0] rfl ?_; (with_reducible refine (chars_Collapse.calls kj15 a0 t289 _ ?sideU A46.out).mono ?_); (case sideU => first | exact HU.out | exact Uni.up HU (Bu HB) | exact Uni.below HU.out (by assumption)); rintro e w59 ⟨rfl, hb⟩; refine ⟨_, rfl, ?_⟩; have n0_ := Bs HB hb; clear HB; revert n0_; intro HB; (try clear hb); (try clear hb2); (try clear hk); (try clear hi)) | ((with_reducible refine gate_callee (f := 17) rfl ?_); refine goesA (some 60) Tryd.func17 #[.string a1] rfl ?_; (with_reducible refine (chars_Collapse.calls kj15 a1 t290 _ ?sideU A48.out).mono ?_); (case sideU => first | exact HU.out | exact Uni.up HU (Bu HB) | exact Uni.below HU.out (by assumption)); rintro e w60 ⟨rfl, hb⟩; refine ⟨_, rfl, ?_⟩; have n0_ := Bs HB hb; clear HB; revert n0_; intro HB; (try clear hb); (try clear hb2); (try clear hk); (try clear hi)) | ((with_reducible refine gate_callee (f := 17) rfl ?_); refine goesL_ (some 62) rfl rfl Tryd.func17 (by kernel_rfl) rfl #[.string ((t289 ++ (⟨#[32]⟩ : ByteArray)) ++ t290)] rfl (by (try simp only [List.map_toArray, List.map_cons, List.map_nil]); first | done | rfl | (simp only [List.length_drop, List.length_take]; rfl)) ?_; (with_reducible refine (chars_Collapse.calls kj15 ((t289 ++ (⟨#[32]⟩ : ByteArray)) ++ t290) t291 _ ?sideU A50.out).mono ?_); (case sideU => first | exact HU.out | exact Uni.up HU (Bu HB) | exact Uni.below HU.out (by assumption)); rintro e w61 ⟨rfl, hb⟩; refine ⟨_, rfl, ?_⟩; have n0_ := Bs HB hb; clear HB; revert n0_; intro HB; (try clear hb); (try clear hb2); (try clear hk); (try clear hi)) | (go_at_call 15; (with_reducible refine (chars_Flat.calls a0 t292 _ A52.out).mono ?_); rintro e w62 ⟨rfl, hb⟩; have n0_ := Bs HB hb; clear HB; revert n0_; intro HB; (try clear hb); (try clear hb2); (try clear hk); (try clear hi)) | (go_at_call 20; (with_reducible refine (chars_Words.calls kj15 ((a0 ++ (⟨#[32]⟩ : ByteArray)) ++ a1) t293 _ ?sideU A55.out).mono ?_); (case sideU => first | exact HU.out | exact Uni.up HU (Bu HB) | exact Uni.below HU.out (by assumption)); rintro e w63 ⟨v294, rfl, ho0, hb⟩; have n0_ := Aside0.mk (Kd.R_lower ho0 (Bz HB)); have n1_ := Bs HB hb; clear HB; revert n0_ n1_; intro HO295 HB; (try clear hb); (try clear hb2); (try clear hk); (try clear hi); (try clear ho0); obtain ⟨Ao64, co64, eo64⟩ := Kd.R_slice HO295.out; subst eo64) | (go_at_call 20; (with_reducible refine (chars_Words.calls kj15 a0 t296 _ ?sideU A56.out).mono ?_); (case sideU => first | exact HU.out | exact Uni.up HU (Bu HB) | exact Uni.below HU.out (by assumption)); rintro e w65 ⟨v297, rfl, ho0, hb⟩; have n0_ := Re HO295 (Kd.R_base ho0) hb; have n1_ := Aside0.mk (Kd.R_lower (Kd.R_new' ho0 (Kd.R_lt (Ru HO295))) (Bz HB)); have n2_ := Bs HB hb; clear HO295 HB; revert n0_ n1_ n2_; intro HO295 HO298 HB; (try clear hb); (try clear hb2); (try clear hk); (try clear hi); (try clear ho0); obtain ⟨Ao66, co66, eo66⟩ := Kd.R_slice HO298.out; subst eo66) | (go_at_call 20; (with_reducible refine (chars_Words.calls kj15 a1 t299 _ ?sideU A57.out).mono ?_); (case sideU => first | exact HU.out | exact Uni.up HU (Bu HB) | exact Uni.below HU.out (by assumption)); rintro e w67 ⟨v300, rfl, ho0, hb⟩; have n0_ := Re HO295 (Kd.R_base ho0) hb; have n1_ := Re HO298 (Kd.R_base ho0) hb; have n2_ := Aside0.mk (Kd.R_lower (Kd.R_new' (Kd.R_new' ho0 (Kd.R_lt (Ru HO295))) (Kd.R_lt (Ru HO298))) (Bz HB)); have n3_ := Bs HB hb; clear HO295 HO298 HB; revert n0_ n1_ n2_ n3_; intro HO295 HO298 HO301 HB; (try clear hb); (try clear hb2); (try clear hk); (try clear hi); (try clear ho0); obtain ⟨Ao68, co68, eo68⟩ := Kd.R_slice HO301.out; subst eo68))
              go_ret
              exact ⟨rfl_, Bu HB⟩
             ·rw [if_neg c54] at H
              exact absurd H (by simp)
            ·rw [if_neg c53] at H
             have c53b0 : ((t292.size : Int) == (a0.size : Int)) = false := beq_eq_false_iff_ne.mpr c53
             have c53b1 : ((t292.size : Int) != (a0.size : Int)) = true := bne_iff_ne.mpr c53
             have c53b2 : (t292.size == a0.size) = false := by first | simpa using c53 | (simp at c53 ⊢; omega)
             obtain rfl := Option.some.inj H
             go_wp2_with (first | ((with_reducible refine gate_callee (f := 17) rfl ?_); refine goesL_ (some 55) rfl rfl Tryd.func17 (by kernel_rfl) rfl #[.string ((a0 ++ (⟨#[9]⟩ : ByteArray)) ++ a1)] rfl (by (try simp only [List.map_toArray, List.map_cons, List.map_nil]); first | done | rfl | (simp only [List.length_drop, List.length_take]; rfl)) ?_; (with_reducible refine (chars_Collapse.calls kj15 ((a0 ++ (⟨#[9]⟩ : ByteArray)) ++ a1) t288 _ ?sideU A45.out).mono ?_); (case sideU => first | exact HU.out | exact Uni.up HU (Bu HB) | exact Uni.below HU.out (by assumption)); rintro e w69 ⟨rfl, hb⟩; refine ⟨_, rfl, ?_⟩; have n0_ := Bs HB hb; clear HB; revert n0_; intro HB; (try clear hb); (try clear hb2); (try clear hk); (try clear hi)) | ((with_reducible refine gate_callee (f := 17) rfl ?_); refine goesA (some 57) Tryd.func17 #[.string a0] rfl ?_; (with_reducible refine (chars_Collapse.calls kj15 a0 t289 _ ?sideU A46.out).mono ?_); (case sideU => first | exact HU.out | exact Uni.up HU (Bu HB) | exact Uni.below HU.out (by assumption)); rintro e w70 ⟨rfl, hb⟩; refine ⟨_, rfl, ?_⟩; have n0_ := Bs HB hb; clear HB; revert n0_; intro HB; (try clear hb); (try clear hb2); (try clear hk); (try clear hi)) | ((with_reducible refine gate_callee (f := 17) rfl ?_); refine goesA (some 60) Tryd.func17 #[.string a1] rfl ?_; (with_reducible refine (chars_Collapse.calls kj15 a1 t290 _ ?sideU A48.out).mono ?_); (case sideU => first | exact HU.out | exact Uni.up HU (Bu HB) | exact Uni.below HU.out (by assumption)); rintro e w71 ⟨rfl, hb⟩; refine ⟨_, rfl, ?_⟩; have n0_ := Bs HB hb; clear HB; revert n0_; intro HB; (try clear hb); (try clear hb2); (try clear hk); (try clear hi)) | ((with_reducible refine gate_callee (f := 17) rfl ?_); refine goesL_ (some 62) rfl rfl Tryd.func17 (by kernel_rfl) rfl #[.string ((t289 ++ (⟨#[32]⟩ : ByteArray)) ++ t290)] rfl (by (try simp only [List.map_toArray, List.map_cons, List.map_nil]); first | done | rfl | (simp only [List.length_drop, List.length_take]; rfl)) ?_; (with_reducible refine (chars_Collapse.calls kj15 ((t289 ++ (⟨#[32]⟩ : ByteArray)) ++ t290) t291 _ ?sideU A50.out).mono ?_); (case sideU => first | exact HU.out | exact Uni.up HU (Bu HB) | exact Uni.below HU.out (by assumption)); rintro e w72 ⟨rfl, hb⟩; refine ⟨_, rfl, ?_⟩; have n0_ := Bs HB hb; clear HB; revert n0_; intro HB; (try clear hb); (try clear hb2); (try clear hk); (try clear hi)) | (go_at_call 15; (with_reducible refine (chars_Flat.calls a0 t292 _ A52.out).mono ?_); rintro e w73 ⟨rfl, hb⟩; have n0_ := Bs HB hb; clear HB; revert n0_; intro HB; (try clear hb); (try clear hb2); (try clear hk); (try clear hi)))
             go_ret
             exact ⟨rfl_, Bu HB⟩
           ·rw [if_neg c51] at H
            have c51b0 : (t288.toList == t291.toList) = false := beq_eq_false_iff_ne.mpr c51
            have c51b1 : (t288.toList != t291.toList) = true := bne_iff_ne.mpr c51
            obtain rfl := Option.some.inj H
            go_wp2_with (first | ((with_reducible refine gate_callee (f := 17) rfl ?_); refine goesL_ (some 55) rfl rfl Tryd.func17 (by kernel_rfl) rfl #[.string ((a0 ++ (⟨#[9]⟩ : ByteArray)) ++ a1)] rfl (by (try simp only [List.map_toArray, List.map_cons, List.map_nil]); first | done | rfl | (simp only [List.length_drop, List.length_take]; rfl)) ?_; (with_reducible refine (chars_Collapse.calls kj15 ((a0 ++ (⟨#[9]⟩ : ByteArray)) ++ a1) t288 _ ?sideU A45.out).mono ?_); (case sideU => first | exact HU.out | exact Uni.up HU (Bu HB) | exact Uni.below HU.out (by assumption)); rintro e w74 ⟨rfl, hb⟩; refine ⟨_, rfl, ?_⟩; have n0_ := Bs HB hb; clear HB; revert n0_; intro HB; (try clear hb); (try clear hb2); (try clear hk); (try clear hi)) | ((with_reducible refine gate_callee (f := 17) rfl ?_); refine goesA (some 57) Tryd.func17 #[.string a0] rfl ?_; (with_reducible refine (chars_Collapse.calls kj15 a0 t289 _ ?sideU A46.out).mono ?_); (case sideU => first | exact HU.out | exact Uni.up HU (Bu HB) | exact Uni.below HU.out (by assumption)); rintro e w75 ⟨rfl, hb⟩; refine ⟨_, rfl, ?_⟩; have n0_ := Bs HB hb; clear HB; revert n0_; intro HB; (try clear hb); (try clear hb2); (try clear hk); (try clear hi)) | ((with_reducible refine gate_callee (f := 17) rfl ?_); refine goesA (some 60) Tryd.func17 #[.string a1] rfl ?_; (with_reducible refine (chars_Collapse.calls kj15 a1 t290 _ ?sideU A48.out).mono ?_); (case sideU => first | exact HU.out | exact Uni.up HU (Bu HB) | exact Uni.below HU.out (by assumption)); rintro e w76 ⟨rfl, hb⟩; refine ⟨_, rfl, ?_⟩; have n0_ := Bs HB hb; clear HB; revert n0_; intro HB; (try clear hb); (try clear hb2); (try clear hk); (try clear hi)) | ((with_reducible refine gate_callee (f := 17) rfl ?_); refine goesL_ (some 62) rfl rfl Tryd.func17 (by kernel_rfl) rfl #[.string ((t289 ++ (⟨#[32]⟩ : ByteArray)) ++ t290)] rfl (by (try simp only [List.map_toArray, List.map_cons, List.map_nil]); first | done | rfl | (simp only [List.length_drop, List.length_take]; rfl)) ?_; (with_reducible refine (chars_Collapse.calls kj15 ((t289 ++ (⟨#[32]⟩ : ByteArray)) ++ t290) t291 _ ?sideU A50.out).mono ?_); (case sideU => first | exact HU.out | exact Uni.up HU (Bu HB) | exact Uni.below HU.out (by assumption)); rintro e w77 ⟨rfl, hb⟩; refine ⟨_, rfl, ?_⟩; have n0_ := Bs HB hb; clear HB; revert n0_; intro HB; (try clear hb); (try clear hb2); (try clear hk); (try clear hi)))
            go_ret
            exact ⟨rfl_, Bu HB⟩
          ·rw [if_neg c49] at H
           exact absurd H (by simp)
         ·rw [if_neg c47] at H
          exact absurd H (by simp)
        ·rw [if_neg c44] at H
         exact absurd H (by simp)
       ·rw [if_neg c43] at H
        exact absurd H (by simp)

/-- THE ONE PURE STATEMENT of lanyardlaw01_CharsAgain: yours. -/
def lanyardlaw01_CharsAgain.Pure : Prop := ∀ (a0 : ByteArray) (a1 : ByteArray), a0.size ≤ 140737488351232 → a1.size ≤ 140737488351232 → ∃ k, lanyardlaw01_CharsAgain.f k a0 a1 = some true
theorem lanyardlaw01_CharsAgain.walk (P : lanyardlaw01_CharsAgain.Pure) (a0 : ByteArray) (a1 : ByteArray) (w : World) (w0 : a0.size ≤ 140737488351232) (w1 : a1.size ≤ 140737488351232) (hU : Uni w) :
  Calls Tryd.prog 7 #[.string a0, .string a1] w fun e w' => e = .returned (.bool true) ∧ Below w.heap.size w w' := by
 obtain ⟨k, h⟩ := P a0 a1 w0 w1
 refine (lanyardlaw01_CharsAgain.calls k a0 a1 true w hU h).mono ?_
 rintro e w' ⟨rfl, hd⟩
 exact ⟨rfl, hd⟩

end Go.Proofs.YthakidcnlkbbgaaDoor.Hp
