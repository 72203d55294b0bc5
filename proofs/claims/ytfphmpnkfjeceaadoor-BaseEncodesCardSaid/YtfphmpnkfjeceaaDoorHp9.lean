/- Go functions of this seat as Lean functions, and their contracts: what the Go code computes, for every input. (By hp.py, a program of this repo, over the kit's print.py.) -/
import Derived.Test.YtfphmpnkfjeceaaDoorHp0
import Derived.Test.YtfphmpnkfjeceaaDoorHp2
import Derived.Test.YtfphmpnkfjeceaaDoorHp5
namespace Go.Proofs.YtfphmpnkfjeceaaDoor.Hp
open Go.RowKit Go.Proofs.YtfphmpnkfjeceaaDoorW.PrintWords Go.Proofs.YtfphmpnkfjeceaaDoorW.PrintLast Go.Proofs.YtfphmpnkfjeceaaDoorW.PrintMore
attribute [local go_sem] max2_int min2_int max_two min_two max_three min_three max_four min_four   -- for this text's walks alone
set_option linter.unusedVariables false
set_option linter.unusedSimpArgs false

/-! ### lanyardlaw02_BaseFolds: function 5 -/
mutual
def lanyardlaw02_BaseFolds.j0 : Nat → ByteArray → Int → Bool → Option (Bool)
 | 0, _, _, _ => none
 | k + 1, x0, x1, x15 => if x15 = true then ((lanyardlaw02_awake.f k).bind fun t222 => (some t222)) else ((base_Fold.f x0 x1).bind fun t223 => ((lanyardref02_Fold.f k x0 x1).bind fun t224 => (if t223.toList = t224.toList then (if x1 < 1 then (some (t223.toList == x0.toList)) else (lanyardlaw02_BaseFolds.l0 k x0 x1 t223 0 0 0)) else (some false))))
def lanyardlaw02_BaseFolds.l0 : Nat → ByteArray → Int → ByteArray → Int → Int → Int → Option (Bool)
 | 0, _, _, _, _, _, _ => none
 | k + 1, x0, x1, x5, x6, x7, x8 => if x8 < (x5.size : Int) then (if x7 = x1 then (if 0 ≤ x8 then (lanyardlaw02_BaseFolds.j2 k x0 x1 x5 x6 x7 x8 ((bt x5 x8) == 10)) else (none)) else (lanyardlaw02_BaseFolds.j2 k x0 x1 x5 x6 x7 x8 false)) else (some (x6 == (x0.size : Int)))
def lanyardlaw02_BaseFolds.j2 : Nat → ByteArray → Int → ByteArray → Int → Int → Int → Bool → Option (Bool)
 | 0, _, _, _, _, _, _, _ => none
 | k + 1, x0, x1, x5, x6, x7, x8, x44 => if x44 = true then (lanyardlaw02_BaseFolds.l0 k x0 x1 x5 x6 0 (wrap64 (x8 + 1))) else (if x6 ≥ (x0.size : Int) then (some false) else (if 0 ≤ x6 then (if x6 < (x0.size : Int) then (if 0 ≤ x8 then (if x8 < (x5.size : Int) then (if (bt x0 x6) = (bt x5 x8) then (if x7 ≥ x1 then (some false) else (lanyardlaw02_BaseFolds.l0 k x0 x1 x5 (wrap64 (x6 + 1)) (wrap64 (x7 + 1)) (wrap64 (x8 + 1)))) else (some false)) else (none)) else (none)) else (none)) else (none)))
end
def lanyardlaw02_BaseFolds.f (k : Nat) (a0 : ByteArray) (a1 : Int) : Option (Bool) := (lanyardlaw02_awake.f k).bind fun t221 => (if t221 = true then (lanyardlaw02_BaseFolds.j0 k a0 a1 (decide ((a0.size : Int) > 3000))) else (lanyardlaw02_BaseFolds.j0 k a0 a1 true))
theorem lanyardlaw02_BaseFolds.mono_l : ∀ k, (∀ y0 y1 y2, LeO (lanyardlaw02_BaseFolds.j0 k y0 y1 y2) (lanyardlaw02_BaseFolds.j0 (k + 1) y0 y1 y2)) ∧ (∀ y0 y1 y2 y3 y4 y5, LeO (lanyardlaw02_BaseFolds.l0 k y0 y1 y2 y3 y4 y5) (lanyardlaw02_BaseFolds.l0 (k + 1) y0 y1 y2 y3 y4 y5)) ∧ (∀ y0 y1 y2 y3 y4 y5 y6, LeO (lanyardlaw02_BaseFolds.j2 k y0 y1 y2 y3 y4 y5 y6) (lanyardlaw02_BaseFolds.j2 (k + 1) y0 y1 y2 y3 y4 y5 y6))
 | 0 => ⟨fun _ _ _ r h => by simp [lanyardlaw02_BaseFolds.j0] at h, fun _ _ _ _ _ _ r h => by simp [lanyardlaw02_BaseFolds.l0] at h, fun _ _ _ _ _ _ _ r h => by simp [lanyardlaw02_BaseFolds.j2] at h⟩
 | k + 1 => by
  obtain ⟨ih0, ih1, ih2⟩ := lanyardlaw02_BaseFolds.mono_l k
  refine ⟨?_, ?_, ?_⟩
  ·intro y0 y1 y2
   unfold lanyardlaw02_BaseFolds.j0
   repeat' first
   | (with_reducible exact ih0 _ _ _)
   | (with_reducible exact ih1 _ _ _ _ _ _)
   | (with_reducible exact ih2 _ _ _ _ _ _ _)
   | (with_reducible exact lanyardlaw02_awake.mono _)
   | (with_reducible exact lanyardref02_Fold.mono _ _ _)
   | (with_reducible exact LeO.refl _)
   | (with_reducible exact LeO.none _)
   | (with_reducible refine LeO.ite ?_ ?_)
   | (with_reducible refine LeO.bind ?_ (fun _ => ?_))
   | exact ih0 _ _ _
   | exact ih1 _ _ _ _ _ _
   | exact ih2 _ _ _ _ _ _ _
   | exact lanyardlaw02_awake.mono _
   | exact lanyardref02_Fold.mono _ _ _
   | exact LeO.none _
   | refine LeO.ite ?_ ?_
   | refine LeO.bind ?_ (fun _ => ?_)
  ·intro y0 y1 y2 y3 y4 y5
   unfold lanyardlaw02_BaseFolds.l0
   repeat' first
   | (with_reducible exact ih0 _ _ _)
   | (with_reducible exact ih1 _ _ _ _ _ _)
   | (with_reducible exact ih2 _ _ _ _ _ _ _)
   | (with_reducible exact lanyardlaw02_awake.mono _)
   | (with_reducible exact lanyardref02_Fold.mono _ _ _)
   | (with_reducible exact LeO.refl _)
   | (with_reducible exact LeO.none _)
   | (with_reducible refine LeO.ite ?_ ?_)
   | (with_reducible refine LeO.bind ?_ (fun _ => ?_))
   | exact ih0 _ _ _
   | exact ih1 _ _ _ _ _ _
   | exact ih2 _ _ _ _ _ _ _
   | exact lanyardlaw02_awake.mono _
   | exact lanyardref02_Fold.mono _ _ _
   | exact LeO.none _
   | refine LeO.ite ?_ ?_
   | refine LeO.bind ?_ (fun _ => ?_)
  ·intro y0 y1 y2 y3 y4 y5 y6
   unfold lanyardlaw02_BaseFolds.j2
   repeat' first
   | (with_reducible exact ih0 _ _ _)
   | (with_reducible exact ih1 _ _ _ _ _ _)
   | (with_reducible exact ih2 _ _ _ _ _ _ _)
   | (with_reducible exact lanyardlaw02_awake.mono _)
   | (with_reducible exact lanyardref02_Fold.mono _ _ _)
   | (with_reducible exact LeO.refl _)
   | (with_reducible exact LeO.none _)
   | (with_reducible refine LeO.ite ?_ ?_)
   | (with_reducible refine LeO.bind ?_ (fun _ => ?_))
   | exact ih0 _ _ _
   | exact ih1 _ _ _ _ _ _
   | exact ih2 _ _ _ _ _ _ _
   | exact lanyardlaw02_awake.mono _
   | exact lanyardref02_Fold.mono _ _ _
   | exact LeO.none _
   | refine LeO.ite ?_ ?_
   | refine LeO.bind ?_ (fun _ => ?_)
theorem lanyardlaw02_BaseFolds.mono : ∀ a0 a1 k, LeO (lanyardlaw02_BaseFolds.f k a0 a1) (lanyardlaw02_BaseFolds.f (k + 1) a0 a1) := by
 intro a0 a1 k
 obtain ⟨ih0, ih1, ih2⟩ := lanyardlaw02_BaseFolds.mono_l k
 unfold lanyardlaw02_BaseFolds.f
 repeat' first
   | (with_reducible exact ih0 _ _ _)
   | (with_reducible exact ih1 _ _ _ _ _ _)
   | (with_reducible exact ih2 _ _ _ _ _ _ _)
   | (with_reducible exact lanyardlaw02_awake.mono _)
   | (with_reducible exact lanyardref02_Fold.mono _ _ _)
   | (with_reducible exact LeO.refl _)
   | (with_reducible exact LeO.none _)
   | (with_reducible refine LeO.ite ?_ ?_)
   | (with_reducible refine LeO.bind ?_ (fun _ => ?_))
   | exact ih0 _ _ _
   | exact ih1 _ _ _ _ _ _
   | exact ih2 _ _ _ _ _ _ _
   | exact lanyardlaw02_awake.mono _
   | exact lanyardref02_Fold.mono _ _ _
   | exact LeO.none _
   | refine LeO.ite ?_ ?_
   | refine LeO.bind ?_ (fun _ => ?_)
set_option maxHeartbeats 8000000 in
set_option maxRecDepth 100000 in
theorem lanyardlaw02_BaseFolds.calls (k : Nat) (a0 : ByteArray) (a1 : Int) (r : Bool) (w : World) (hU : Uni w) (h : lanyardlaw02_BaseFolds.f k a0 a1 = some r) (hr_ : r = true := by rfl) :
  Calls Tryd.prog 5 #[.string a0, .int .i64 a1] w fun e w' => e = .returned (.bool r) ∧ Below w.heap.size w w' := by
 have HU := Aside0.mk hU
 clear hU
 have HR_ := Aside0.mk hr_
 clear hr_
 have HB := Aside0.mk (Below.refl w.heap.size w)
 have H : ((lanyardlaw02_awake.f k).bind fun t221 => (if t221 = true then (lanyardlaw02_BaseFolds.j0 k a0 a1 (decide ((a0.size : Int) > 3000))) else (lanyardlaw02_BaseFolds.j0 k a0 a1 true))) = some r := h
 clear h
 have HC3 := Aside0.mk H
 clear H
 go_enter Tryd.func5, Tryd.ntmps5
 go_upto_region 1 with (fail)
 repeat (go_quiet (fail); go_upto_region 1 with (fail))
 go_cut [15] (fun v15 wc => ∃ (kq : Nat) (x15_2 : Bool), v15 = .bool x15_2 ∧ Aside0 (lanyardlaw02_BaseFolds.j0 kq a0 a1 x15_2 = some r) ∧ Aside0 (kq ≤ k) ∧ Aside0 (Below w.heap.size w wc))
 case first =>
  have H := HC3.out
  clear HC3
  replace H := Option.bind_eq_some_iff.mp H
  obtain ⟨t221, A40, H⟩ := H
  replace H : (if t221 = true then (lanyardlaw02_BaseFolds.j0 k a0 a1 (decide ((a0.size : Int) > 3000))) else (lanyardlaw02_BaseFolds.j0 k a0 a1 true)) = some r := H
  have A4 := Aside0.mk A40
  clear A40
  by_cases c5 : t221 = true
  ·subst c5
   have H1 : (lanyardlaw02_BaseFolds.j0 k a0 a1 (decide ((a0.size : Int) > 3000))) = some r := by rw [if_pos rfl] at H; exact H
   clear H
   have H := H1
   clear H1
   have H' := Aside0.mk H
   clear H
   go_wp2_with (first | (go_at_call 8; (with_reducible refine (lanyardlaw02_awake.calls k  true _ ?sideU A4.out).mono ?_); (case sideU => first | exact HU.out | exact Uni.up HU (Bu HB) | exact Uni.below HU.out (by assumption)); rintro e w6 ⟨rfl, hb⟩; have n0_ := Bs HB hb; clear HB; revert n0_; intro HB; (try clear hb); (try clear hb2); (try clear hk); (try clear hi)))
   repeat (go_quiet (first | (go_at_call 8; (with_reducible refine (lanyardlaw02_awake.calls k  true _ ?sideU A4.out).mono ?_); (case sideU => first | exact HU.out | exact Uni.up HU (Bu HB) | exact Uni.below HU.out (by assumption)); rintro e w6 ⟨rfl, hb⟩; have n0_ := Bs HB hb; clear HB; revert n0_; intro HB; (try clear hb); (try clear hb2); (try clear hk); (try clear hi))); try go_wp2_with (first | (go_at_call 8; (with_reducible refine (lanyardlaw02_awake.calls k  true _ ?sideU A4.out).mono ?_); (case sideU => first | exact HU.out | exact Uni.up HU (Bu HB) | exact Uni.below HU.out (by assumption)); rintro e w6 ⟨rfl, hb⟩; have n0_ := Bs HB hb; clear HB; revert n0_; intro HB; (try clear hb); (try clear hb2); (try clear hk); (try clear hi))))
   go_meet
   case rel => exact ⟨_, (decide ((a0.size : Int) > 3000)), (by first | rfl | (simp; done) | (simp [*]; done)), H', ⟨by first | omega | exact Nat.le_refl _⟩, ⟨Bu HB⟩⟩
  ·replace c5 := Bool.eq_false_iff.mpr c5
   subst c5
   have H1 : (lanyardlaw02_BaseFolds.j0 k a0 a1 true) = some r := by rw [if_neg (show ¬ (false = true) by decide)] at H; exact H
   clear H
   have H := H1
   clear H1
   have H' := Aside0.mk H
   clear H
   go_wp2_with (first | (go_at_call 8; (with_reducible refine (lanyardlaw02_awake.calls k  false _ ?sideU A4.out).mono ?_); (case sideU => first | exact HU.out | exact Uni.up HU (Bu HB) | exact Uni.below HU.out (by assumption)); rintro e w7 ⟨rfl, hb⟩; have n0_ := Bs HB hb; clear HB; revert n0_; intro HB; (try clear hb); (try clear hb2); (try clear hk); (try clear hi)))
   repeat (go_quiet (first | (go_at_call 8; (with_reducible refine (lanyardlaw02_awake.calls k  false _ ?sideU A4.out).mono ?_); (case sideU => first | exact HU.out | exact Uni.up HU (Bu HB) | exact Uni.below HU.out (by assumption)); rintro e w7 ⟨rfl, hb⟩; have n0_ := Bs HB hb; clear HB; revert n0_; intro HB; (try clear hb); (try clear hb2); (try clear hk); (try clear hi))); try go_wp2_with (first | (go_at_call 8; (with_reducible refine (lanyardlaw02_awake.calls k  false _ ?sideU A4.out).mono ?_); (case sideU => first | exact HU.out | exact Uni.up HU (Bu HB) | exact Uni.below HU.out (by assumption)); rintro e w7 ⟨rfl, hb⟩; have n0_ := Bs HB hb; clear HB; revert n0_; intro HB; (try clear hb); (try clear hb2); (try clear hk); (try clear hi))))
   go_meet
   case rel => exact ⟨_, (true), (by first | rfl | (simp; done) | (simp [*]; done)), H', ⟨by first | omega | exact Nat.le_refl _⟩, ⟨Bu HB⟩⟩
 case rest =>
  clear HC3
  try clear p2
  try clear c5
  obtain ⟨kq, x15_2, rfl, HA, HJ2, HB⟩ := hcut
  cases kq with
  | zero => exact absurd HA.out (by simp [lanyardlaw02_BaseFolds.j0])
  | succ kj2 =>
   have H := HA.out
   clear HA
   simp only [lanyardlaw02_BaseFolds.j0] at H
   by_cases c8 : x15_2 = true
   ·subst c8
    have H1 : ((lanyardlaw02_awake.f kj2).bind fun t222 => (some t222)) = some r := by rw [if_pos rfl] at H; exact H
    clear H
    have H := H1
    clear H1
    replace H := Option.bind_eq_some_iff.mp H
    obtain ⟨t222, A90, H⟩ := H
    replace H : (some t222) = some r := H
    have A9 := Aside0.mk A90
    clear A90
    obtain rfl := Option.some.inj H
    go_wp2_with (first | (go_at_call 8; (with_reducible refine (lanyardlaw02_awake.calls kj2  t222 _ ?sideU A9.out).mono ?_); (case sideU => first | exact HU.out | exact Uni.up HU (Bu HB) | exact Uni.below HU.out (by assumption)); rintro e w10 ⟨rfl, hb⟩; have n0_ := Bs HB hb; clear HB; revert n0_; intro HB; (try clear hb); (try clear hb2); (try clear hk); (try clear hi)))
    repeat (go_quiet (first | (go_at_call 8; (with_reducible refine (lanyardlaw02_awake.calls kj2  t222 _ ?sideU A9.out).mono ?_); (case sideU => first | exact HU.out | exact Uni.up HU (Bu HB) | exact Uni.below HU.out (by assumption)); rintro e w10 ⟨rfl, hb⟩; have n0_ := Bs HB hb; clear HB; revert n0_; intro HB; (try clear hb); (try clear hb2); (try clear hk); (try clear hi))); try go_wp2_with (first | (go_at_call 8; (with_reducible refine (lanyardlaw02_awake.calls kj2  t222 _ ?sideU A9.out).mono ?_); (case sideU => first | exact HU.out | exact Uni.up HU (Bu HB) | exact Uni.below HU.out (by assumption)); rintro e w10 ⟨rfl, hb⟩; have n0_ := Bs HB hb; clear HB; revert n0_; intro HB; (try clear hb); (try clear hb2); (try clear hk); (try clear hi))))
    go_ret
    exact ⟨rfl_, Bu HB⟩
   ·replace c8 := Bool.eq_false_iff.mpr c8
    subst c8
    have H1 : ((base_Fold.f a0 a1).bind fun t223 => ((lanyardref02_Fold.f kj2 a0 a1).bind fun t224 => (if t223.toList = t224.toList then (if a1 < 1 then (some (t223.toList == a0.toList)) else (lanyardlaw02_BaseFolds.l0 kj2 a0 a1 t223 0 0 0)) else (some false)))) = some r := by rw [if_neg (show ¬ (false = true) by decide)] at H; exact H
    clear H
    have H := H1
    clear H1
    replace H := Option.bind_eq_some_iff.mp H
    obtain ⟨t223, A110, H⟩ := H
    replace H : ((lanyardref02_Fold.f kj2 a0 a1).bind fun t224 => (if t223.toList = t224.toList then (if a1 < 1 then (some (t223.toList == a0.toList)) else (lanyardlaw02_BaseFolds.l0 kj2 a0 a1 t223 0 0 0)) else (some false))) = some r := H
    have A11 := Aside0.mk A110
    clear A110
    replace H := Option.bind_eq_some_iff.mp H
    obtain ⟨t224, A120, H⟩ := H
    replace H : (if t223.toList = t224.toList then (if a1 < 1 then (some (t223.toList == a0.toList)) else (lanyardlaw02_BaseFolds.l0 kj2 a0 a1 t223 0 0 0)) else (some false)) = some r := H
    have A12 := Aside0.mk A120
    clear A120
    by_cases c13 : t223.toList = t224.toList
    ·rw [if_pos c13] at H
     have c13b0 : (t223.toList == t224.toList) = true := beq_iff_eq.mpr c13
     have c13b1 : (t223.toList != t224.toList) = false := bne_eq_false_iff_eq.mpr c13
     clear c13
     by_cases c14 : a1 < 1
     ·rw [if_pos c14] at H
      have c14b0 : decide (a1 < 1) = true := decide_eq_true c14
      clear c14
      obtain rfl := Option.some.inj H
      go_wp2_with (first | (go_at_call 13; (with_reducible refine (base_Fold.calls a0 a1 t223 _ A11.out).mono ?_); rintro e w15 ⟨rfl, hb⟩; have n0_ := Bs HB hb; clear HB; revert n0_; intro HB; (try clear hb); (try clear hb2); (try clear hk); (try clear hi)) | (go_at_call 14; (with_reducible refine (lanyardref02_Fold.calls kj2 a0 a1 t224 _ A12.out).mono ?_); rintro e w16 ⟨rfl, hb⟩; have n0_ := Bs HB hb; clear HB; revert n0_; intro HB; (try clear hb); (try clear hb2); (try clear hk); (try clear hi)))
      repeat (go_quiet (first | (go_at_call 13; (with_reducible refine (base_Fold.calls a0 a1 t223 _ A11.out).mono ?_); rintro e w15 ⟨rfl, hb⟩; have n0_ := Bs HB hb; clear HB; revert n0_; intro HB; (try clear hb); (try clear hb2); (try clear hk); (try clear hi)) | (go_at_call 14; (with_reducible refine (lanyardref02_Fold.calls kj2 a0 a1 t224 _ A12.out).mono ?_); rintro e w16 ⟨rfl, hb⟩; have n0_ := Bs HB hb; clear HB; revert n0_; intro HB; (try clear hb); (try clear hb2); (try clear hk); (try clear hi))); try go_wp2_with (first | (go_at_call 13; (with_reducible refine (base_Fold.calls a0 a1 t223 _ A11.out).mono ?_); rintro e w15 ⟨rfl, hb⟩; have n0_ := Bs HB hb; clear HB; revert n0_; intro HB; (try clear hb); (try clear hb2); (try clear hk); (try clear hi)) | (go_at_call 14; (with_reducible refine (lanyardref02_Fold.calls kj2 a0 a1 t224 _ A12.out).mono ?_); rintro e w16 ⟨rfl, hb⟩; have n0_ := Bs HB hb; clear HB; revert n0_; intro HB; (try clear hb); (try clear hb2); (try clear hk); (try clear hi))))
      go_ret
      exact ⟨rfl_, Bu HB⟩
     ·rw [if_neg c14] at H
      have c14b0 : decide (a1 < 1) = false := decide_eq_false c14
      clear c14
      have H' := Aside0.mk H
      clear H
      go_wp2_with (first | (go_at_call 13; (with_reducible refine (base_Fold.calls a0 a1 t223 _ A11.out).mono ?_); rintro e w17 ⟨rfl, hb⟩; have n0_ := Bs HB hb; clear HB; revert n0_; intro HB; (try clear hb); (try clear hb2); (try clear hk); (try clear hi)) | (go_at_call 14; (with_reducible refine (lanyardref02_Fold.calls kj2 a0 a1 t224 _ A12.out).mono ?_); rintro e w18 ⟨rfl, hb⟩; have n0_ := Bs HB hb; clear HB; revert n0_; intro HB; (try clear hb); (try clear hb2); (try clear hk); (try clear hi)))
      repeat (go_quiet (first | (go_at_call 13; (with_reducible refine (base_Fold.calls a0 a1 t223 _ A11.out).mono ?_); rintro e w17 ⟨rfl, hb⟩; have n0_ := Bs HB hb; clear HB; revert n0_; intro HB; (try clear hb); (try clear hb2); (try clear hk); (try clear hi)) | (go_at_call 14; (with_reducible refine (lanyardref02_Fold.calls kj2 a0 a1 t224 _ A12.out).mono ?_); rintro e w18 ⟨rfl, hb⟩; have n0_ := Bs HB hb; clear HB; revert n0_; intro HB; (try clear hb); (try clear hb2); (try clear hk); (try clear hi))); try go_wp2_with (first | (go_at_call 13; (with_reducible refine (base_Fold.calls a0 a1 t223 _ A11.out).mono ?_); rintro e w17 ⟨rfl, hb⟩; have n0_ := Bs HB hb; clear HB; revert n0_; intro HB; (try clear hb); (try clear hb2); (try clear hk); (try clear hi)) | (go_at_call 14; (with_reducible refine (lanyardref02_Fold.calls kj2 a0 a1 t224 _ A12.out).mono ?_); rintro e w18 ⟨rfl, hb⟩; have n0_ := Bs HB hb; clear HB; revert n0_; intro HB; (try clear hb); (try clear hb2); (try clear hk); (try clear hi))))
      go_loopg [6, 7, 8] kj2 (fun kq v6 v7 v8 w' => ∃ (x6_2 : Int) (x7_2 : Int) (x8_2 : Int), v6 = .int .i64 x6_2 ∧ v7 = .int .i64 x7_2 ∧ v8 = .int .i64 x8_2 ∧ Aside0 (lanyardlaw02_BaseFolds.l0 kq a0 a1 t223 x6_2 x7_2 x8_2 = some r) ∧ Aside0 (kq ≤ kj2) ∧ Aside0 (Below w.heap.size w w'))
      case atStart => exact ⟨(0), (0), (0), (by first | rfl | (simp; done) | (simp [*]; done)), (by first | rfl | (simp; done) | (simp [*]; done)), (by first | rfl | (simp; done) | (simp [*]; done)), H', ⟨Nat.le_refl _⟩, ⟨Bu HB⟩⟩
      case round =>
       clear H'
       try clear c1
       try clear p2
       try clear c5
       try clear c8
       try clear c13
       try clear c13b0
       try clear c13b1
       try clear c14
       try clear c14b0
       try clear p2
       obtain ⟨x6_2, x7_2, x8_2, rfl, rfl, rfl, HA, HK2, HB⟩ := hrel
       cases gk with
       | zero => exact absurd HA.out (by simp [lanyardlaw02_BaseFolds.l0])
       | succ k2 =>
        have H := HA.out
        clear HA
        simp only [lanyardlaw02_BaseFolds.l0] at H
        by_cases c19 : x8_2 < (t223.size : Int)
        ·rw [if_pos c19] at H
         have c19b0 : decide (x8_2 < (t223.size : Int)) = true := decide_eq_true c19
         clear c19
         have HC20 := Aside0.mk H
         clear H
         go_upto_region 12 with (fail)
         repeat (go_quiet (fail); go_upto_region 12 with (fail))
         go_cut [44] (fun v44 wc => ∃ (kq : Nat) (x44_19 : Bool), v44 = .bool x44_19 ∧ Aside0 (lanyardlaw02_BaseFolds.j2 kq a0 a1 t223 x6_2 x7_2 x8_2 x44_19 = some r) ∧ Aside0 (kq ≤ k2) ∧ Aside0 (Below w.heap.size w wc))
         case first =>
          have H := HC20.out
          clear HC20
          by_cases c21 : x7_2 = a1
          ·rw [if_pos c21] at H
           have c21b0 : (x7_2 == a1) = true := beq_iff_eq.mpr c21
           have c21b1 : (x7_2 != a1) = false := bne_eq_false_iff_eq.mpr c21
           clear c21
           (first | rw [c21b0] | (simp only [i64_w, i32_w]; rw [c21b0]) | skip)
           by_cases c22 : 0 ≤ x8_2
           ·rw [if_pos c22] at H
            have c22b0 : decide (0 ≤ x8_2) = true := decide_eq_true c22
            clear c22
            have H' := Aside0.mk H
            clear H
            have p23 : 0 ≤ (x8_2 : Int) := of_decide_eq_true (by first | (with_reducible assumption) | assumption)
            have q23 : x8_2 < (t223.size : Int) := of_decide_eq_true (by first | (with_reducible assumption) | assumption)
            have hx23 := bt_at t223 x8_2
            replace p23 := eq_true p23
            replace q23 := eq_true q23
            go_wp2
            repeat (go_quiet (fail); try go_wp2)
            go_meet
            case rel => exact ⟨_, (((bt t223 x8_2) == 10)), (by first | rfl | (simp; done) | (simp [*]; done)), H', ⟨by have := HJ2.out; have := HK2.out; first | omega | exact Nat.le_refl _⟩, ⟨Bu HB⟩⟩
           ·rw [if_neg c22] at H
            exact absurd H (by simp)
          ·rw [if_neg c21] at H
           have c21b0 : (x7_2 == a1) = false := beq_eq_false_iff_ne.mpr c21
           have c21b1 : (x7_2 != a1) = true := bne_iff_ne.mpr c21
           (first | rw [c21b0] | (simp only [i64_w, i32_w]; rw [c21b0]) | skip)
           have H' := Aside0.mk H
           clear H
           go_wp2
           repeat (go_quiet (fail); try go_wp2)
           go_meet
           case rel => exact ⟨_, (false), (by first | rfl | (simp; done) | (simp [*]; done)), H', ⟨by have := HJ2.out; have := HK2.out; first | omega | exact Nat.le_refl _⟩, ⟨Bu HB⟩⟩
         case rest =>
          clear HC20
          try clear c1
          try clear c2
          try clear p2
          try clear q2
          try clear hx2
          try clear c5
          try clear c8
          try clear c13
          try clear c13b0
          try clear c13b1
          try clear c14
          try clear c14b0
          try clear c19
          try clear c19b0
          try clear c21
          try clear c21b0
          try clear c21b1
          try clear c22
          try clear c22b0
          try clear p23
          try clear q23
          try clear hx23
          try clear p2
          try clear p23
          try clear q23
          obtain ⟨kq, x44_19, rfl, HA, HJ19, HB⟩ := hcut
          cases kq with
          | zero => exact absurd HA.out (by simp [lanyardlaw02_BaseFolds.j2])
          | succ kj19 =>
           have H := HA.out
           clear HA
           simp only [lanyardlaw02_BaseFolds.j2] at H
           by_cases c24 : x44_19 = true
           ·subst c24
            have H1 : (lanyardlaw02_BaseFolds.l0 kj19 a0 a1 t223 x6_2 0 (wrap64 (x8_2 + 1))) = some r := by rw [if_pos rfl] at H; exact H
            clear H
            have H := H1
            clear H1
            have H' := Aside0.mk H
            clear H
            go_wp2
            repeat (go_quiet (fail); try go_wp2)
            go_roundg kj19
            case measure => have := HJ2.out; have := HK2.out; have := HJ19.out; omega
            case rel => exact ⟨(x6_2), (0), (wrap64 (x8_2 + 1)), (by first | rfl | (simp; done) | (simp [*]; done)), (by first | rfl | (simp; done) | (simp [*]; done)), (by first | rfl | (simp; done) | (simp [*]; done)), H', ⟨by have := HJ2.out; have := HK2.out; have := HJ19.out; omega⟩, ⟨Bu HB⟩⟩
           ·replace c24 := Bool.eq_false_iff.mpr c24
            subst c24
            have H1 : (if x6_2 ≥ (a0.size : Int) then (some false) else (if 0 ≤ x6_2 then (if x6_2 < (a0.size : Int) then (if 0 ≤ x8_2 then (if x8_2 < (t223.size : Int) then (if (bt a0 x6_2) = (bt t223 x8_2) then (if x7_2 ≥ a1 then (some false) else (lanyardlaw02_BaseFolds.l0 kj19 a0 a1 t223 (wrap64 (x6_2 + 1)) (wrap64 (x7_2 + 1)) (wrap64 (x8_2 + 1)))) else (some false)) else (none)) else (none)) else (none)) else (none))) = some r := by rw [if_neg (show ¬ (false = true) by decide)] at H; exact H
            clear H
            have H := H1
            clear H1
            by_cases c25 : x6_2 ≥ (a0.size : Int)
            ·rw [if_pos c25] at H
             have c25b0 : decide ((a0.size : Int) ≤ x6_2) = true := decide_eq_true c25
             clear c25
             exact absurd (Option.some.inj H) (by rw [HR_.out]; decide)
            ·rw [if_neg c25] at H
             have c25b0 : decide ((a0.size : Int) ≤ x6_2) = false := decide_eq_false c25
             clear c25
             by_cases c26 : 0 ≤ x6_2
             ·rw [if_pos c26] at H
              have c26b0 : decide (0 ≤ x6_2) = true := decide_eq_true c26
              clear c26
              by_cases c27 : x6_2 < (a0.size : Int)
              ·rw [if_pos c27] at H
               have c27b0 : decide (x6_2 < (a0.size : Int)) = true := decide_eq_true c27
               clear c27
               by_cases c29 : 0 ≤ x8_2
               ·rw [if_pos c29] at H
                have c29b0 : decide (0 ≤ x8_2) = true := decide_eq_true c29
                clear c29
                by_cases c30 : x8_2 < (t223.size : Int)
                ·rw [if_pos c30] at H
                 have c30b0 : decide (x8_2 < (t223.size : Int)) = true := decide_eq_true c30
                 clear c30
                 by_cases c32 : (bt a0 x6_2) = (bt t223 x8_2)
                 ·rw [if_pos c32] at H
                  have c32b0 : ((bt a0 x6_2) == (bt t223 x8_2)) = true := beq_iff_eq.mpr c32
                  have c32b1 : ((bt a0 x6_2) != (bt t223 x8_2)) = false := bne_eq_false_iff_eq.mpr c32
                  clear c32
                  by_cases c33 : x7_2 ≥ a1
                  ·rw [if_pos c33] at H
                   have c33b0 : decide (a1 ≤ x7_2) = true := decide_eq_true c33
                   clear c33
                   exact absurd (Option.some.inj H) (by rw [HR_.out]; decide)
                  ·rw [if_neg c33] at H
                   have c33b0 : decide (a1 ≤ x7_2) = false := decide_eq_false c33
                   clear c33
                   have H' := Aside0.mk H
                   clear H
                   have p28 : 0 ≤ (x6_2 : Int) := of_decide_eq_true (by first | (with_reducible assumption) | assumption)
                   have q28 : x6_2 < (a0.size : Int) := of_decide_eq_true (by first | (with_reducible assumption) | assumption)
                   have hx28 := bt_at a0 x6_2
                   replace p28 := eq_true p28
                   replace q28 := eq_true q28
                   have p31 : 0 ≤ (x8_2 : Int) := of_decide_eq_true (by first | (with_reducible assumption) | assumption)
                   have q31 : x8_2 < (t223.size : Int) := of_decide_eq_true (by first | (with_reducible assumption) | assumption)
                   have hx31 := bt_at t223 x8_2
                   replace p31 := eq_true p31
                   replace q31 := eq_true q31
                   go_wp2
                   repeat (go_quiet (fail); try go_wp2)
                   go_roundg kj19
                   case measure => have := HJ2.out; have := HK2.out; have := HJ19.out; omega
                   case rel => exact ⟨(wrap64 (x6_2 + 1)), (wrap64 (x7_2 + 1)), (wrap64 (x8_2 + 1)), (by first | rfl | (simp; done) | (simp [*]; done)), (by first | rfl | (simp; done) | (simp [*]; done)), (by first | rfl | (simp; done) | (simp [*]; done)), H', ⟨by have := HJ2.out; have := HK2.out; have := HJ19.out; omega⟩, ⟨Bu HB⟩⟩
                 ·rw [if_neg c32] at H
                  have c32b0 : ((bt a0 x6_2) == (bt t223 x8_2)) = false := beq_eq_false_iff_ne.mpr c32
                  have c32b1 : ((bt a0 x6_2) != (bt t223 x8_2)) = true := bne_iff_ne.mpr c32
                  exact absurd (Option.some.inj H) (by rw [HR_.out]; decide)
                ·rw [if_neg c30] at H
                 exact absurd H (by simp)
               ·rw [if_neg c29] at H
                exact absurd H (by simp)
              ·rw [if_neg c27] at H
               exact absurd H (by simp)
             ·rw [if_neg c26] at H
              exact absurd H (by simp)
        ·rw [if_neg c19] at H
         have c19b0 : decide (x8_2 < (t223.size : Int)) = false := decide_eq_false c19
         clear c19
         obtain rfl := Option.some.inj H
         go_wp2
         repeat (go_quiet (fail); try go_wp2)
         go_ret
         exact ⟨rfl_, Bu HB⟩
    ·rw [if_neg c13] at H
     have c13b0 : (t223.toList == t224.toList) = false := beq_eq_false_iff_ne.mpr c13
     have c13b1 : (t223.toList != t224.toList) = true := bne_iff_ne.mpr c13
     exact absurd (Option.some.inj H) (by rw [HR_.out]; decide)
/-- THE ONE PURE STATEMENT of lanyardlaw02_BaseFolds: yours. -/
def lanyardlaw02_BaseFolds.Pure : Prop := ∀ (a0 : ByteArray) (a1 : Int), a0.size ≤ 140737488351232 → (Lit.int .i64 a1).wf = true → ∃ k, lanyardlaw02_BaseFolds.f k a0 a1 = some true
theorem lanyardlaw02_BaseFolds.walk (P : lanyardlaw02_BaseFolds.Pure) (a0 : ByteArray) (a1 : Int) (w : World) (w0 : a0.size ≤ 140737488351232) (w1 : (Lit.int .i64 a1).wf = true) (hU : Uni w) :
  Calls Tryd.prog 5 #[.string a0, .int .i64 a1] w fun e w' => e = .returned (.bool true) ∧ Below w.heap.size w w' := by
 obtain ⟨k, h⟩ := P a0 a1 w0 w1
 refine (lanyardlaw02_BaseFolds.calls k a0 a1 true w hU h).mono ?_
 rintro e w' ⟨rfl, hd⟩
 exact ⟨rfl, hd⟩

end Go.Proofs.YtfphmpnkfjeceaaDoor.Hp
