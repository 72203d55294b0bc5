/- Go functions of this seat as Lean functions, and their contracts: what the Go code computes, for every input. (By hp.py, a program of this repo, over the kit's print.py.) -/
import Derived.Test.YthakidcnlkbbgaaDoorHp0
import Derived.Test.YthakidcnlkbbgaaDoorHp1
import Derived.Test.YthakidcnlkbbgaaDoorHp2
import Derived.Test.YthakidcnlkbbgaaDoorHp6
import Derived.Test.YthakidcnlkbbgaaDoorHp7
namespace Go.Proofs.YthakidcnlkbbgaaDoor.Hp
open Go.RowKit Go.Proofs.YthakidcnlkbbgaaDoorW.PrintWords Go.Proofs.YthakidcnlkbbgaaDoorW.PrintLast Go.Proofs.YthakidcnlkbbgaaDoorW.PrintMore
attribute [local go_sem] max2_int min2_int max_two min_two max_three min_three max_four min_four   -- for this text's walks alone
set_option linter.unusedVariables false
set_option linter.unusedSimpArgs false

/-! ### lanyardlaw01_CharsBlanks: function 6 -/
def lanyardlaw01_CharsBlanks.j0 : Nat → ByteArray → Bool → Option (Bool)
 | 0, _, _ => none
 | k + 1, x0, x9 => if x9 = true then ((lanyardlaw01_awake.f k).bind fun t259 => (some t259)) else ((chars_Lines.f x0).bind fun t260 => ((lanyardref01_Lines.f k x0).bind fun t261 => (if t260.toList = t261.toList then ((chars_Flat.f x0).bind fun t262 => ((lanyardref01_Flat.f k x0).bind fun t263 => (if t262.toList = t263.toList then ((chars_Collapse.f k x0).bind fun t264 => ((lanyardref01_Collapse.f k x0).bind fun t265 => (if t264.toList = t265.toList then ((chars_Words.f k x0).bind fun t266 => ((lanyardref01_Words.f k x0).bind fun t269 => ((lanyardref01_Texts.f k t266 t269).bind fun t272 => (some t272)))) else (some false)))) else (some false)))) else (some false))))
def lanyardlaw01_CharsBlanks.f (k : Nat) (a0 : ByteArray) : Option (Bool) := (lanyardlaw01_awake.f k).bind fun t258 => (if t258 = true then (lanyardlaw01_CharsBlanks.j0 k a0 (decide ((a0.size : Int) > 5000))) else (lanyardlaw01_CharsBlanks.j0 k a0 true))
theorem lanyardlaw01_CharsBlanks.mono_l : ∀ k, (∀ y0 y1, LeO (lanyardlaw01_CharsBlanks.j0 k y0 y1) (lanyardlaw01_CharsBlanks.j0 (k + 1) y0 y1))
 | 0 => fun _ _ r h => by simp [lanyardlaw01_CharsBlanks.j0] at h
 | k + 1 => by
  have ih0 := lanyardlaw01_CharsBlanks.mono_l k
  ·intro y0 y1
   unfold lanyardlaw01_CharsBlanks.j0
   repeat' first
   | (with_reducible exact ih0 _ _)
   | (with_reducible exact chars_Collapse.mono _ _)
   | (with_reducible exact chars_Words.mono _ _)
   | (with_reducible exact lanyardlaw01_awake.mono _)
   | (with_reducible exact lanyardref01_Collapse.mono _ _)
   | (with_reducible exact lanyardref01_Flat.mono _ _)
   | (with_reducible exact lanyardref01_Lines.mono _ _)
   | (with_reducible exact lanyardref01_Texts.mono _ _ _)
   | (with_reducible exact lanyardref01_Words.mono _ _)
   | (with_reducible exact LeO.refl _)
   | (with_reducible exact LeO.none _)
   | (with_reducible refine LeO.ite ?_ ?_)
   | (with_reducible refine LeO.bind ?_ (fun _ => ?_))
   | exact ih0 _ _
   | exact chars_Collapse.mono _ _
   | exact chars_Words.mono _ _
   | exact lanyardlaw01_awake.mono _
   | exact lanyardref01_Collapse.mono _ _
   | exact lanyardref01_Flat.mono _ _
   | exact lanyardref01_Lines.mono _ _
   | exact lanyardref01_Texts.mono _ _ _
   | exact lanyardref01_Words.mono _ _
   | exact LeO.none _
   | refine LeO.ite ?_ ?_
   | refine LeO.bind ?_ (fun _ => ?_)
theorem lanyardlaw01_CharsBlanks.mono : ∀ a0 k, LeO (lanyardlaw01_CharsBlanks.f k a0) (lanyardlaw01_CharsBlanks.f (k + 1) a0) := by
 intro a0 k
 have ih0 := lanyardlaw01_CharsBlanks.mono_l k
 unfold lanyardlaw01_CharsBlanks.f
 repeat' first
   | (with_reducible exact ih0 _ _)
   | (with_reducible exact chars_Collapse.mono _ _)
   | (with_reducible exact chars_Words.mono _ _)
   | (with_reducible exact lanyardlaw01_awake.mono _)
   | (with_reducible exact lanyardref01_Collapse.mono _ _)
   | (with_reducible exact lanyardref01_Flat.mono _ _)
   | (with_reducible exact lanyardref01_Lines.mono _ _)
   | (with_reducible exact lanyardref01_Texts.mono _ _ _)
   | (with_reducible exact lanyardref01_Words.mono _ _)
   | (with_reducible exact LeO.refl _)
   | (with_reducible exact LeO.none _)
   | (with_reducible refine LeO.ite ?_ ?_)
   | (with_reducible refine LeO.bind ?_ (fun _ => ?_))
   | exact ih0 _ _
   | exact chars_Collapse.mono _ _
   | exact chars_Words.mono _ _
   | exact lanyardlaw01_awake.mono _
   | exact lanyardref01_Collapse.mono _ _
   | exact lanyardref01_Flat.mono _ _
   | exact lanyardref01_Lines.mono _ _
   | exact lanyardref01_Texts.mono _ _ _
   | exact lanyardref01_Words.mono _ _
   | exact LeO.none _
   | refine LeO.ite ?_ ?_
   | refine LeO.bind ?_ (fun _ => ?_)
set_option maxHeartbeats 8000000 in
set_option maxRecDepth 100000 in
theorem lanyardlaw01_CharsBlanks.calls (k : Nat) (a0 : ByteArray) (r : Bool) (w : World) (hU : Uni w) (h : lanyardlaw01_CharsBlanks.f k a0 = some r) :
  Calls Tryd.prog 6 #[.string a0] w fun e w' => e = .returned (.bool r) ∧ Below w.heap.size w w' := by
 have HU := Aside0.mk hU
 clear hU
 have HB := Aside0.mk (Below.refl w.heap.size w)
 have H : ((lanyardlaw01_awake.f k).bind fun t258 => (if t258 = true then (lanyardlaw01_CharsBlanks.j0 k a0 (decide ((a0.size : Int) > 5000))) else (lanyardlaw01_CharsBlanks.j0 k a0 true))) = some r := h
 clear h
 have HC2 := Aside0.mk H
 clear H
 go_enter Tryd.func6, Tryd.ntmps6
 go_upto_region 1 with (fail)
 go_cut [9] (fun v9 wc => ∃ (kq : Nat) (x9_1 : Bool), v9 = .bool x9_1 ∧ Aside0 (lanyardlaw01_CharsBlanks.j0 kq a0 x9_1 = some r) ∧ Aside0 (kq ≤ k) ∧ Aside0 (Below w.heap.size w wc))
 case first =>
  have H := HC2.out
  clear HC2
  replace H := Option.bind_eq_some_iff.mp H
  obtain ⟨t258, A30, H⟩ := H
  replace H : (if t258 = true then (lanyardlaw01_CharsBlanks.j0 k a0 (decide ((a0.size : Int) > 5000))) else (lanyardlaw01_CharsBlanks.j0 k a0 true)) = some r := H
  have A3 := Aside0.mk A30
  clear A30
  by_cases c4 : t258 = true
  ·subst c4
   have H1 : (lanyardlaw01_CharsBlanks.j0 k a0 (decide ((a0.size : Int) > 5000))) = some r := by rw [if_pos rfl] at H; exact H
   clear H
   have H := H1
   clear H1
   have H' := Aside0.mk H
   clear H
   go_wp2_with (first | ((with_reducible refine gate_callee (f := 8) rfl ?_); refine goesA (some 3) Tryd.func8 #[] rfl ?_; (with_reducible refine (lanyardlaw01_awake.calls k  true _ ?sideU A3.out).mono ?_); (case sideU => first | exact HU.out | exact Uni.up HU (Bu HB) | exact Uni.below HU.out (by assumption)); rintro e w5 ⟨rfl, hb⟩; refine ⟨_, rfl, ?_⟩; have n0_ := Bs HB hb; clear HB; revert n0_; intro HB; (try clear hb); (try clear hb2); (try clear hk); (try clear hi)))
   go_meet
   case rel => exact ⟨_, (decide ((a0.size : Int) > 5000)), (by first | rfl | (simp; done) | (simp [*]; done)), H', ⟨by first | omega | exact Nat.le_refl _⟩, ⟨Bu HB⟩⟩
  ·replace c4 := Bool.eq_false_iff.mpr c4
   subst c4
   have H1 : (lanyardlaw01_CharsBlanks.j0 k a0 true) = some r := by rw [if_neg (show ¬ (false = true) by decide)] at H; exact H
   clear H
   have H := H1
   clear H1
   have H' := Aside0.mk H
   clear H
   go_wp2_with (first | ((with_reducible refine gate_callee (f := 8) rfl ?_); refine goesA (some 3) Tryd.func8 #[] rfl ?_; (with_reducible refine (lanyardlaw01_awake.calls k  false _ ?sideU A3.out).mono ?_); (case sideU => first | exact HU.out | exact Uni.up HU (Bu HB) | exact Uni.below HU.out (by assumption)); rintro e w6 ⟨rfl, hb⟩; refine ⟨_, rfl, ?_⟩; have n0_ := Bs HB hb; clear HB; revert n0_; intro HB; (try clear hb); (try clear hb2); (try clear hk); (try clear hi)))
   go_meet
   case rel => exact ⟨_, (true), (by first | rfl | (simp; done) | (simp [*]; done)), H', ⟨by first | omega | exact Nat.le_refl _⟩, ⟨Bu HB⟩⟩
 case rest =>
  clear HC2
  try clear p2
  try clear c4
  try clear c6
  obtain ⟨kq, x9_1, rfl, HA, HJ1, HB⟩ := hcut
  cases kq with
  | zero => exact absurd HA.out (by simp [lanyardlaw01_CharsBlanks.j0])
  | succ kj1 =>
   have H := HA.out
   clear HA
   simp only [lanyardlaw01_CharsBlanks.j0] at H
   by_cases c7 : x9_1 = true
   ·subst c7
    have H1 : ((lanyardlaw01_awake.f kj1).bind fun t259 => (some t259)) = some r := by rw [if_pos rfl] at H; exact H
    clear H
    have H := H1
    clear H1
    replace H := Option.bind_eq_some_iff.mp H
    obtain ⟨t259, A80, H⟩ := H
    replace H : (some t259) = some r := H
    have A8 := Aside0.mk A80
    clear A80
    obtain rfl := Option.some.inj H
    go_wp2_with (first | ((with_reducible refine gate_callee (f := 8) rfl ?_); refine goesA (some 10) Tryd.func8 #[] rfl ?_; (with_reducible refine (lanyardlaw01_awake.calls kj1  t259 _ ?sideU A8.out).mono ?_); (case sideU => first | exact HU.out | exact Uni.up HU (Bu HB) | exact Uni.below HU.out (by assumption)); rintro e w9 ⟨rfl, hb⟩; refine ⟨_, rfl, ?_⟩; have n0_ := Bs HB hb; clear HB; revert n0_; intro HB; (try clear hb); (try clear hb2); (try clear hk); (try clear hi)))
    go_ret
    exact ⟨rfl_, Bu HB⟩
   ·replace c7 := Bool.eq_false_iff.mpr c7
    subst c7
    have H1 : ((chars_Lines.f a0).bind fun t260 => ((lanyardref01_Lines.f kj1 a0).bind fun t261 => (if t260.toList = t261.toList then ((chars_Flat.f a0).bind fun t262 => ((lanyardref01_Flat.f kj1 a0).bind fun t263 => (if t262.toList = t263.toList then ((chars_Collapse.f kj1 a0).bind fun t264 => ((lanyardref01_Collapse.f kj1 a0).bind fun t265 => (if t264.toList = t265.toList then ((chars_Words.f kj1 a0).bind fun t266 => ((lanyardref01_Words.f kj1 a0).bind fun t269 => ((lanyardref01_Texts.f kj1 t266 t269).bind fun t272 => (some t272)))) else (some false)))) else (some false)))) else (some false)))) = some r := by rw [if_neg (show ¬ (false = true) by decide)] at H; exact H
    clear H
    have H := H1
    clear H1
    replace H := Option.bind_eq_some_iff.mp H
    obtain ⟨t260, A100, H⟩ := H
    replace H : ((lanyardref01_Lines.f kj1 a0).bind fun t261 => (if t260.toList = t261.toList then ((chars_Flat.f a0).bind fun t262 => ((lanyardref01_Flat.f kj1 a0).bind fun t263 => (if t262.toList = t263.toList then ((chars_Collapse.f kj1 a0).bind fun t264 => ((lanyardref01_Collapse.f kj1 a0).bind fun t265 => (if t264.toList = t265.toList then ((chars_Words.f kj1 a0).bind fun t266 => ((lanyardref01_Words.f kj1 a0).bind fun t269 => ((lanyardref01_Texts.f kj1 t266 t269).bind fun t272 => (some t272)))) else (some false)))) else (some false)))) else (some false))) = some r := H
    have A10 := Aside0.mk A100
    clear A100
    replace H := Option.bind_eq_some_iff.mp H
    obtain ⟨t261, A110, H⟩ := H
    replace H : (if t260.toList = t261.toList then ((chars_Flat.f a0).bind fun t262 => ((lanyardref01_Flat.f kj1 a0).bind fun t263 => (if t262.toList = t263.toList then ((chars_Collapse.f kj1 a0).bind fun t264 => ((lanyardref01_Collapse.f kj1 a0).bind fun t265 => (if t264.toList = t265.toList then ((chars_Words.f kj1 a0).bind fun t266 => ((lanyardref01_Words.f kj1 a0).bind fun t269 => ((lanyardref01_Texts.f kj1 t266 t269).bind fun t272 => (some t272)))) else (some false)))) else (some false)))) else (some false)) = some r := H
    have A11 := Aside0.mk A110
    clear A110
    by_cases c12 : t260.toList = t261.toList
    ·rw [if_pos c12] at H
     have c12b0 : (t260.toList == t261.toList) = true := beq_iff_eq.mpr c12
     have c12b1 : (t260.toList != t261.toList) = false := bne_eq_false_iff_eq.mpr c12
     clear c12
     replace H := Option.bind_eq_some_iff.mp H
     obtain ⟨t262, A130, H⟩ := H
     replace H : ((lanyardref01_Flat.f kj1 a0).bind fun t263 => (if t262.toList = t263.toList then ((chars_Collapse.f kj1 a0).bind fun t264 => ((lanyardref01_Collapse.f kj1 a0).bind fun t265 => (if t264.toList = t265.toList then ((chars_Words.f kj1 a0).bind fun t266 => ((lanyardref01_Words.f kj1 a0).bind fun t269 => ((lanyardref01_Texts.f kj1 t266 t269).bind fun t272 => (some t272)))) else (some false)))) else (some false))) = some r := H
     have A13 := Aside0.mk A130
     clear A130
     replace H := Option.bind_eq_some_iff.mp H
     obtain ⟨t263, A140, H⟩ := H
     replace H : (if t262.toList = t263.toList then ((chars_Collapse.f kj1 a0).bind fun t264 => ((lanyardref01_Collapse.f kj1 a0).bind fun t265 => (if t264.toList = t265.toList then ((chars_Words.f kj1 a0).bind fun t266 => ((lanyardref01_Words.f kj1 a0).bind fun t269 => ((lanyardref01_Texts.f kj1 t266 t269).bind fun t272 => (some t272)))) else (some false)))) else (some false)) = some r := H
     have A14 := Aside0.mk A140
     clear A140
     by_cases c15 : t262.toList = t263.toList
     ·rw [if_pos c15] at H
      have c15b0 : (t262.toList == t263.toList) = true := beq_iff_eq.mpr c15
      have c15b1 : (t262.toList != t263.toList) = false := bne_eq_false_iff_eq.mpr c15
      clear c15
      replace H := Option.bind_eq_some_iff.mp H
      obtain ⟨t264, A160, H⟩ := H
      replace H : ((lanyardref01_Collapse.f kj1 a0).bind fun t265 => (if t264.toList = t265.toList then ((chars_Words.f kj1 a0).bind fun t266 => ((lanyardref01_Words.f kj1 a0).bind fun t269 => ((lanyardref01_Texts.f kj1 t266 t269).bind fun t272 => (some t272)))) else (some false))) = some r := H
      have A16 := Aside0.mk A160
      clear A160
      replace H := Option.bind_eq_some_iff.mp H
      obtain ⟨t265, A170, H⟩ := H
      replace H : (if t264.toList = t265.toList then ((chars_Words.f kj1 a0).bind fun t266 => ((lanyardref01_Words.f kj1 a0).bind fun t269 => ((lanyardref01_Texts.f kj1 t266 t269).bind fun t272 => (some t272)))) else (some false)) = some r := H
      have A17 := Aside0.mk A170
      clear A170
      by_cases c18 : t264.toList = t265.toList
      ·rw [if_pos c18] at H
       have c18b0 : (t264.toList == t265.toList) = true := beq_iff_eq.mpr c18
       have c18b1 : (t264.toList != t265.toList) = false := bne_eq_false_iff_eq.mpr c18
       clear c18
       replace H := Option.bind_eq_some_iff.mp H
       obtain ⟨t266, A190, H⟩ := H
       replace H : ((lanyardref01_Words.f kj1 a0).bind fun t269 => ((lanyardref01_Texts.f kj1 t266 t269).bind fun t272 => (some t272))) = some r := H
       have A19 := Aside0.mk A190
       clear A190
       replace H := Option.bind_eq_some_iff.mp H
       obtain ⟨t269, A200, H⟩ := H
       replace H : ((lanyardref01_Texts.f kj1 t266 t269).bind fun t272 => (some t272)) = some r := H
       have A20 := Aside0.mk A200
       clear A200
       replace H := Option.bind_eq_some_iff.mp H
       obtain ⟨t272, A210, H⟩ := H
       replace H : (some t272) = some r := H
       have A21 := Aside0.mk A210
       clear A210
       obtain rfl := Option.some.inj H
       go_wp2_with (first | ((with_reducible refine gate_callee (f := 13) rfl ?_); refine goesA (some 12) Tryd.func13 #[.string a0] rfl ?_; (with_reducible refine (chars_Lines.calls a0 t260 _ ?sideU A10.out).mono ?_); (case sideU => first | exact HU.out | exact Uni.up HU (Bu HB) | exact Uni.below HU.out (by assumption)); rintro e w22 ⟨rfl, hb⟩; refine ⟨_, rfl, ?_⟩; have n0_ := Bs HB hb; clear HB; revert n0_; intro HB; (try clear hb); (try clear hb2); (try clear hk); (try clear hi)) | ((with_reducible refine gate_callee (f := 14) rfl ?_); refine goesA (some 14) Tryd.func14 #[.string a0] rfl ?_; (with_reducible refine (lanyardref01_Lines.calls kj1 a0 t261 _ A11.out).mono ?_); rintro e w23 ⟨rfl, hb⟩; refine ⟨_, rfl, ?_⟩; have n0_ := Bs HB hb; clear HB; revert n0_; intro HB; (try clear hb); (try clear hb2); (try clear hk); (try clear hi)) | (go_at_call 15; (with_reducible refine (chars_Flat.calls a0 t262 _ A13.out).mono ?_); rintro e w24 ⟨rfl, hb⟩; have n0_ := Bs HB hb; clear HB; revert n0_; intro HB; (try clear hb); (try clear hb2); (try clear hk); (try clear hi)) | (go_at_call 16; (with_reducible refine (lanyardref01_Flat.calls kj1 a0 t263 _ A14.out).mono ?_); rintro e w25 ⟨rfl, hb⟩; have n0_ := Bs HB hb; clear HB; revert n0_; intro HB; (try clear hb); (try clear hb2); (try clear hk); (try clear hi)) | (go_at_call 17; (with_reducible refine (chars_Collapse.calls kj1 a0 t264 _ ?sideU A16.out).mono ?_); (case sideU => first | exact HU.out | exact Uni.up HU (Bu HB) | exact Uni.below HU.out (by assumption)); rintro e w26 ⟨rfl, hb⟩; have n0_ := Bs HB hb; clear HB; revert n0_; intro HB; (try clear hb); (try clear hb2); (try clear hk); (try clear hi)) | (go_at_call 18; (with_reducible refine (lanyardref01_Collapse.calls kj1 a0 t265 _ A17.out).mono ?_); rintro e w27 ⟨rfl, hb⟩; have n0_ := Bs HB hb; clear HB; revert n0_; intro HB; (try clear hb); (try clear hb2); (try clear hk); (try clear hi)) | (go_at_call 20; (with_reducible refine (chars_Words.calls kj1 a0 t266 _ ?sideU A19.out).mono ?_); (case sideU => first | exact HU.out | exact Uni.up HU (Bu HB) | exact Uni.below HU.out (by assumption)); rintro e w28 ⟨v267, rfl, ho0, hb⟩; have n0_ := Aside0.mk (Kd.R_lower ho0 (Bz HB)); have n1_ := Bs HB hb; clear HB; revert n0_ n1_; intro HO268 HB; (try clear hb); (try clear hb2); (try clear hk); (try clear hi); (try clear ho0)) | (go_at_call 21; (with_reducible refine (lanyardref01_Words.calls kj1 a0 t269 _ A20.out).mono ?_); rintro e w29 ⟨v270, rfl, ho0, hb⟩; have n0_ := Re HO268 (Kd.R_base ho0) hb; have n1_ := Aside0.mk (Kd.R_lower (Kd.R_new' ho0 (Kd.R_lt (Ru HO268))) (Bz HB)); have n2_ := Bs HB hb; clear HO268 HB; revert n0_ n1_ n2_; intro HO268 HO271 HB; (try clear hb); (try clear hb2); (try clear hk); (try clear hi); (try clear ho0); obtain ⟨Ao30, co30, eo30⟩ := Kd.R_slice HO268.out; subst eo30; obtain ⟨Ao31, co31, eo31⟩ := Kd.R_slice HO271.out; subst eo31) | (go_at_call 19; (with_reducible refine (lanyardref01_Texts.calls kj1 _ _ t266 _ _ t269 t272 _ ?side1 ?side2 ?side3 ?side4 A21.out).mono ?_); (case side1 => exact Cu (Kd.R_reads' HO268.out).2.2); (case side2 => exact (Kd.R_reads' HO268.out).2.1); (case side3 => exact Cu (Kd.R_reads' HO271.out).2.2); (case side4 => exact (Kd.R_reads' HO271.out).2.1); rintro e w' ⟨rfl, ⟨nd, rfl⟩⟩))
       go_ret
       exact ⟨rfl_, Bu HB⟩
      ·rw [if_neg c18] at H
       have c18b0 : (t264.toList == t265.toList) = false := beq_eq_false_iff_ne.mpr c18
       have c18b1 : (t264.toList != t265.toList) = true := bne_iff_ne.mpr c18
       obtain rfl := Option.some.inj H
       go_wp2_with (first | ((with_reducible refine gate_callee (f := 13) rfl ?_); refine goesA (some 12) Tryd.func13 #[.string a0] rfl ?_; (with_reducible refine (chars_Lines.calls a0 t260 _ ?sideU A10.out).mono ?_); (case sideU => first | exact HU.out | exact Uni.up HU (Bu HB) | exact Uni.below HU.out (by assumption)); rintro e w32 ⟨rfl, hb⟩; refine ⟨_, rfl, ?_⟩; have n0_ := Bs HB hb; clear HB; revert n0_; intro HB; (try clear hb); (try clear hb2); (try clear hk); (try clear hi)) | ((with_reducible refine gate_callee (f := 14) rfl ?_); refine goesA (some 14) Tryd.func14 #[.string a0] rfl ?_; (with_reducible refine (lanyardref01_Lines.calls kj1 a0 t261 _ A11.out).mono ?_); rintro e w33 ⟨rfl, hb⟩; refine ⟨_, rfl, ?_⟩; have n0_ := Bs HB hb; clear HB; revert n0_; intro HB; (try clear hb); (try clear hb2); (try clear hk); (try clear hi)) | (go_at_call 15; (with_reducible refine (chars_Flat.calls a0 t262 _ A13.out).mono ?_); rintro e w34 ⟨rfl, hb⟩; have n0_ := Bs HB hb; clear HB; revert n0_; intro HB; (try clear hb); (try clear hb2); (try clear hk); (try clear hi)) | (go_at_call 16; (with_reducible refine (lanyardref01_Flat.calls kj1 a0 t263 _ A14.out).mono ?_); rintro e w35 ⟨rfl, hb⟩; have n0_ := Bs HB hb; clear HB; revert n0_; intro HB; (try clear hb); (try clear hb2); (try clear hk); (try clear hi)) | (go_at_call 17; (with_reducible refine (chars_Collapse.calls kj1 a0 t264 _ ?sideU A16.out).mono ?_); (case sideU => first | exact HU.out | exact Uni.up HU (Bu HB) | exact Uni.below HU.out (by assumption)); rintro e w36 ⟨rfl, hb⟩; have n0_ := Bs HB hb; clear HB; revert n0_; intro HB; (try clear hb); (try clear hb2); (try clear hk); (try clear hi)) | (go_at_call 18; (with_reducible refine (lanyardref01_Collapse.calls kj1 a0 t265 _ A17.out).mono ?_); rintro e w37 ⟨rfl, hb⟩; have n0_ := Bs HB hb; clear HB; revert n0_; intro HB; (try clear hb); (try clear hb2); (try clear hk); (try clear hi)))
       go_ret
       exact ⟨rfl_, Bu HB⟩
     ·rw [if_neg c15] at H
      have c15b0 : (t262.toList == t263.toList) = false := beq_eq_false_iff_ne.mpr c15
      have c15b1 : (t262.toList != t263.toList) = true := bne_iff_ne.mpr c15
      obtain rfl := Option.some.inj H
      go_wp2_with (first | ((with_reducible refine gate_callee (f := 13) rfl ?_); refine goesA (some 12) Tryd.func13 #[.string a0] rfl ?_; (with_reducible refine (chars_Lines.calls a0 t260 _ ?sideU A10.out).mono ?_); (case sideU => first | exact HU.out | exact Uni.up HU (Bu HB) | exact Uni.below HU.out (by assumption)); rintro e w38 ⟨rfl, hb⟩; refine ⟨_, rfl, ?_⟩; have n0_ := Bs HB hb; clear HB; revert n0_; intro HB; (try clear hb); (try clear hb2); (try clear hk); (try clear hi)) | ((with_reducible refine gate_callee (f := 14) rfl ?_); refine goesA (some 14) Tryd.func14 #[.string a0] rfl ?_; (with_reducible refine (lanyardref01_Lines.calls kj1 a0 t261 _ A11.out).mono ?_); rintro e w39 ⟨rfl, hb⟩; refine ⟨_, rfl, ?_⟩; have n0_ := Bs HB hb; clear HB; revert n0_; intro HB; (try clear hb); (try clear hb2); (try clear hk); (try clear hi)) | (go_at_call 15; (with_reducible refine (chars_Flat.calls a0 t262 _ A13.out).mono ?_); rintro e w40 ⟨rfl, hb⟩; have n0_ := Bs HB hb; clear HB; revert n0_; intro HB; (try clear hb); (try clear hb2); (try clear hk); (try clear hi)) | (go_at_call 16; (with_reducible refine (lanyardref01_Flat.calls kj1 a0 t263 _ A14.out).mono ?_); rintro e w41 ⟨rfl, hb⟩; have n0_ := Bs HB hb; clear HB; revert n0_; intro HB; (try clear hb); (try clear hb2); (try clear hk); (try clear hi)))
      go_ret
      exact ⟨rfl_, Bu HB⟩
    ·rw [if_neg c12] at H
     have c12b0 : (t260.toList == t261.toList) = false := beq_eq_false_iff_ne.mpr c12
     have c12b1 : (t260.toList != t261.toList) = true := bne_iff_ne.mpr c12
     obtain rfl := Option.some.inj H
     go_wp2_with (first | ((with_reducible refine gate_callee (f := 13) rfl ?_); refine goesA (some 12) Tryd.func13 #[.string a0] rfl ?_; (with_reducible refine (chars_Lines.calls a0 t260 _ ?sideU A10.out).mono ?_); (case sideU => first | exact HU.out | exact Uni.up HU (Bu HB) | exact Uni.below HU.out (by assumption)); rintro e w42 ⟨rfl, hb⟩; refine ⟨_, rfl, ?_⟩; have n0_ := Bs HB hb; clear HB; revert n0_; intro HB; (try clear hb); (try clear hb2); (try clear hk); (try clear hi)) | ((with_reducible refine gate_callee (f := 14) rfl ?_); refine goesA (some 14) Tryd.func14 #[.string a0] rfl ?_; (with_reducible refine (lanyardref01_Lines.calls kj1 a0 t261 _ A11.out).mono ?_); rintro e w43 ⟨rfl, hb⟩; refine ⟨_, rfl, ?_⟩; have n0_ := Bs HB hb; clear HB; revert n0_; intro HB; (try clear hb); (try clear hb2); (try clear hk); (try clear hi)))
     go_ret
     exact ⟨rfl_, Bu HB⟩

/-- THE ONE PURE STATEMENT of lanyardlaw01_CharsBlanks: yours. -/
def lanyardlaw01_CharsBlanks.Pure : Prop := ∀ (a0 : ByteArray), a0.size ≤ 140737488351232 → ∃ k, lanyardlaw01_CharsBlanks.f k a0 = some true
theorem lanyardlaw01_CharsBlanks.walk (P : lanyardlaw01_CharsBlanks.Pure) (a0 : ByteArray) (w : World) (w0 : a0.size ≤ 140737488351232) (hU : Uni w) :
  Calls Tryd.prog 6 #[.string a0] w fun e w' => e = .returned (.bool true) ∧ Below w.heap.size w w' := by
 obtain ⟨k, h⟩ := P a0 w0
 refine (lanyardlaw01_CharsBlanks.calls k a0 true w hU h).mono ?_
 rintro e w' ⟨rfl, hd⟩
 exact ⟨rfl, hd⟩

end Go.Proofs.YthakidcnlkbbgaaDoor.Hp
