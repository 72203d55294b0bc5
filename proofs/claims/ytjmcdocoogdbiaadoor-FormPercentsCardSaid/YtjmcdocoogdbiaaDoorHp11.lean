/- Go functions of this seat as Lean functions, and their contracts: what the Go code computes, for every input. (By hp.py, a program of this repo, over the kit's print.py.) -/
import Derived.Test.YtjmcdocoogdbiaaDoorHp0
import Derived.Test.YtjmcdocoogdbiaaDoorHp2
import Derived.Test.YtjmcdocoogdbiaaDoorHp3
import Derived.Test.YtjmcdocoogdbiaaDoorHp4
import Derived.Test.YtjmcdocoogdbiaaDoorHp5
import Derived.Test.YtjmcdocoogdbiaaDoorHp6
namespace Go.Proofs.YtjmcdocoogdbiaaDoor.Hp
open Go.RowKit Go.Proofs.YtjmcdocoogdbiaaDoorW.PrintWords Go.Proofs.YtjmcdocoogdbiaaDoorW.PrintLast Go.Proofs.YtjmcdocoogdbiaaDoorW.PrintMore
attribute [local go_sem] max2_int min2_int max_two min_two max_three min_three max_four min_four   -- for this text's walks alone
set_option linter.unusedVariables false
set_option linter.unusedSimpArgs false

/-! ### lanyardlaw03_FormPercents: function 3 -/
def lanyardlaw03_FormPercents.j0 : Nat → ByteArray → Bool → Bool → Option (Bool)
 | 0, _, _, _ => none
 | k + 1, x0, x1, x18 => if x18 = true then ((lanyardlaw03_awake.f k).bind fun t215 => (some t215)) else ((escape_Percent.f x0).bind fun t216 => ((escape_Unpercent.f k t216 x1).bind fun bt217 => ((escape_Unpercent.f k x0 x1).bind fun bt219 => ((lanyardref03_Unpercent.f k x0 x1).bind fun bt221 => ((lanyardref03_Percent.f k x0).bind fun t223 => (if t216.toList = t223.toList then (if bt217.2 = 0 then (if bt217.1.toList = x0.toList then (if bt219.1.toList = bt221.1.toList then (if ((bt219.2 == 0) == bt221.2) = true then (if bt221.2 = true then (some true) else (some (bt219.2 == 10))) else (some false)) else (some false)) else (some false)) else (some false)) else (some false)))))))
def lanyardlaw03_FormPercents.f (k : Nat) (a0 : ByteArray) (a1 : Bool) : Option (Bool) := (lanyardlaw03_awake.f k).bind fun t214 => (if t214 = true then (lanyardlaw03_FormPercents.j0 k a0 a1 (decide ((a0.size : Int) > 2000))) else (lanyardlaw03_FormPercents.j0 k a0 a1 true))
theorem lanyardlaw03_FormPercents.mono_l : ∀ k, (∀ y0 y1 y2, LeO (lanyardlaw03_FormPercents.j0 k y0 y1 y2) (lanyardlaw03_FormPercents.j0 (k + 1) y0 y1 y2))
 | 0 => fun _ _ _ r h => by simp [lanyardlaw03_FormPercents.j0] at h
 | k + 1 => by
  have ih0 := lanyardlaw03_FormPercents.mono_l k
  ·intro y0 y1 y2
   unfold lanyardlaw03_FormPercents.j0
   repeat' first
   | (with_reducible exact ih0 _ _ _)
   | (with_reducible exact escape_Unpercent.mono _ _ _)
   | (with_reducible exact lanyardlaw03_awake.mono _)
   | (with_reducible exact lanyardref03_Percent.mono _ _)
   | (with_reducible exact lanyardref03_Unpercent.mono _ _ _)
   | (with_reducible exact LeO.refl _)
   | (with_reducible exact LeO.none _)
   | (with_reducible refine LeO.ite ?_ ?_)
   | (with_reducible refine LeO.bind ?_ (fun _ => ?_))
   | exact ih0 _ _ _
   | exact escape_Unpercent.mono _ _ _
   | exact lanyardlaw03_awake.mono _
   | exact lanyardref03_Percent.mono _ _
   | exact lanyardref03_Unpercent.mono _ _ _
   | exact LeO.none _
   | refine LeO.ite ?_ ?_
   | refine LeO.bind ?_ (fun _ => ?_)
theorem lanyardlaw03_FormPercents.mono : ∀ a0 a1 k, LeO (lanyardlaw03_FormPercents.f k a0 a1) (lanyardlaw03_FormPercents.f (k + 1) a0 a1) := by
 intro a0 a1 k
 have ih0 := lanyardlaw03_FormPercents.mono_l k
 unfold lanyardlaw03_FormPercents.f
 repeat' first
   | (with_reducible exact ih0 _ _ _)
   | (with_reducible exact escape_Unpercent.mono _ _ _)
   | (with_reducible exact lanyardlaw03_awake.mono _)
   | (with_reducible exact lanyardref03_Percent.mono _ _)
   | (with_reducible exact lanyardref03_Unpercent.mono _ _ _)
   | (with_reducible exact LeO.refl _)
   | (with_reducible exact LeO.none _)
   | (with_reducible refine LeO.ite ?_ ?_)
   | (with_reducible refine LeO.bind ?_ (fun _ => ?_))
   | exact ih0 _ _ _
   | exact escape_Unpercent.mono _ _ _
   | exact lanyardlaw03_awake.mono _
   | exact lanyardref03_Percent.mono _ _
   | exact lanyardref03_Unpercent.mono _ _ _
   | exact LeO.none _
   | refine LeO.ite ?_ ?_
   | refine LeO.bind ?_ (fun _ => ?_)
set_option maxHeartbeats 8000000 in
set_option maxRecDepth 100000 in
theorem lanyardlaw03_FormPercents.calls (k : Nat) (a0 : ByteArray) (a1 : Bool) (r : Bool) (w : World) (hU : Uni w) (h : lanyardlaw03_FormPercents.f k a0 a1 = some r) :
  Calls Tryd.prog 3 #[.string a0, .bool a1] w fun e w' => e = .returned (.bool r) ∧ Below w.heap.size w w' := by
 have HU := Aside0.mk hU
 clear hU
 have HB := Aside0.mk (Below.refl w.heap.size w)
 have H : ((lanyardlaw03_awake.f k).bind fun t214 => (if t214 = true then (lanyardlaw03_FormPercents.j0 k a0 a1 (decide ((a0.size : Int) > 2000))) else (lanyardlaw03_FormPercents.j0 k a0 a1 true))) = some r := h
 clear h
 have HC3 := Aside0.mk H
 clear H
 go_enter Tryd.func3, Tryd.ntmps3
 go_upto_region 1 with (fail)
 go_cut [18] (fun v18 wc => ∃ (kq : Nat) (x18_2 : Bool), v18 = .bool x18_2 ∧ Aside0 (lanyardlaw03_FormPercents.j0 kq a0 a1 x18_2 = some r) ∧ Aside0 (kq ≤ k) ∧ Aside0 (Below w.heap.size w wc))
 case first =>
  have H := HC3.out
  clear HC3
  replace H := Option.bind_eq_some_iff.mp H
  obtain ⟨t214, A40, H⟩ := H
  replace H : (if t214 = true then (lanyardlaw03_FormPercents.j0 k a0 a1 (decide ((a0.size : Int) > 2000))) else (lanyardlaw03_FormPercents.j0 k a0 a1 true)) = some r := H
  have A4 := Aside0.mk A40
  clear A40
  by_cases c5 : t214 = true
  ·subst c5
   have H1 : (lanyardlaw03_FormPercents.j0 k a0 a1 (decide ((a0.size : Int) > 2000))) = some r := by rw [if_pos rfl] at H; exact H
   clear H
   have H := H1
   clear H1
   have H' := Aside0.mk H
   clear H
   go_wp2_with (first | ((with_reducible refine gate_callee (f := 8) rfl ?_); refine goesA (some 12) Tryd.func8 #[] rfl ?_; (with_reducible refine (lanyardlaw03_awake.calls k  true _ ?sideU A4.out).mono ?_); (case sideU => first | exact HU.out | exact Uni.up HU (Bu HB) | exact Uni.below HU.out (by assumption)); rintro e w6 ⟨rfl, hb⟩; refine ⟨_, rfl, ?_⟩; have n0_ := Bs HB hb; clear HB; revert n0_; intro HB; (try clear hb); (try clear hb2); (try clear hk); (try clear hi)))
   go_meet
   case rel => exact ⟨_, (decide ((a0.size : Int) > 2000)), (by first | rfl | (simp; done) | (simp [*]; done)), H', ⟨by first | omega | exact Nat.le_refl _⟩, ⟨Bu HB⟩⟩
  ·replace c5 := Bool.eq_false_iff.mpr c5
   subst c5
   have H1 : (lanyardlaw03_FormPercents.j0 k a0 a1 true) = some r := by rw [if_neg (show ¬ (false = true) by decide)] at H; exact H
   clear H
   have H := H1
   clear H1
   have H' := Aside0.mk H
   clear H
   go_wp2_with (first | ((with_reducible refine gate_callee (f := 8) rfl ?_); refine goesA (some 12) Tryd.func8 #[] rfl ?_; (with_reducible refine (lanyardlaw03_awake.calls k  false _ ?sideU A4.out).mono ?_); (case sideU => first | exact HU.out | exact Uni.up HU (Bu HB) | exact Uni.below HU.out (by assumption)); rintro e w7 ⟨rfl, hb⟩; refine ⟨_, rfl, ?_⟩; have n0_ := Bs HB hb; clear HB; revert n0_; intro HB; (try clear hb); (try clear hb2); (try clear hk); (try clear hi)))
   go_meet
   case rel => exact ⟨_, (true), (by first | rfl | (simp; done) | (simp [*]; done)), H', ⟨by first | omega | exact Nat.le_refl _⟩, ⟨Bu HB⟩⟩
 case rest =>
  clear HC3
  try clear p2
  try clear c3
  try clear c5
  obtain ⟨kq, x18_2, rfl, HA, HJ2, HB⟩ := hcut
  cases kq with
  | zero => exact absurd HA.out (by simp [lanyardlaw03_FormPercents.j0])
  | succ kj2 =>
   have H := HA.out
   clear HA
   simp only [lanyardlaw03_FormPercents.j0] at H
   by_cases c8 : x18_2 = true
   ·subst c8
    have H1 : ((lanyardlaw03_awake.f kj2).bind fun t215 => (some t215)) = some r := by rw [if_pos rfl] at H; exact H
    clear H
    have H := H1
    clear H1
    replace H := Option.bind_eq_some_iff.mp H
    obtain ⟨t215, A90, H⟩ := H
    replace H : (some t215) = some r := H
    have A9 := Aside0.mk A90
    clear A90
    obtain rfl := Option.some.inj H
    go_wp2_with (first | ((with_reducible refine gate_callee (f := 8) rfl ?_); refine goesA (some 19) Tryd.func8 #[] rfl ?_; (with_reducible refine (lanyardlaw03_awake.calls kj2  t215 _ ?sideU A9.out).mono ?_); (case sideU => first | exact HU.out | exact Uni.up HU (Bu HB) | exact Uni.below HU.out (by assumption)); rintro e w10 ⟨rfl, hb⟩; refine ⟨_, rfl, ?_⟩; have n0_ := Bs HB hb; clear HB; revert n0_; intro HB; (try clear hb); (try clear hb2); (try clear hk); (try clear hi)))
    go_ret
    exact ⟨rfl_, Bu HB⟩
   ·replace c8 := Bool.eq_false_iff.mpr c8
    subst c8
    have H1 : ((escape_Percent.f a0).bind fun t216 => ((escape_Unpercent.f kj2 t216 a1).bind fun bt217 => ((escape_Unpercent.f kj2 a0 a1).bind fun bt219 => ((lanyardref03_Unpercent.f kj2 a0 a1).bind fun bt221 => ((lanyardref03_Percent.f kj2 a0).bind fun t223 => (if t216.toList = t223.toList then (if bt217.2 = 0 then (if bt217.1.toList = a0.toList then (if bt219.1.toList = bt221.1.toList then (if ((bt219.2 == 0) == bt221.2) = true then (if bt221.2 = true then (some true) else (some (bt219.2 == 10))) else (some false)) else (some false)) else (some false)) else (some false)) else (some false))))))) = some r := by rw [if_neg (show ¬ (false = true) by decide)] at H; exact H
    clear H
    have H := H1
    clear H1
    replace H := Option.bind_eq_some_iff.mp H
    obtain ⟨t216, A110, H⟩ := H
    replace H : ((escape_Unpercent.f kj2 t216 a1).bind fun bt217 => ((escape_Unpercent.f kj2 a0 a1).bind fun bt219 => ((lanyardref03_Unpercent.f kj2 a0 a1).bind fun bt221 => ((lanyardref03_Percent.f kj2 a0).bind fun t223 => (if t216.toList = t223.toList then (if bt217.2 = 0 then (if bt217.1.toList = a0.toList then (if bt219.1.toList = bt221.1.toList then (if ((bt219.2 == 0) == bt221.2) = true then (if bt221.2 = true then (some true) else (some (bt219.2 == 10))) else (some false)) else (some false)) else (some false)) else (some false)) else (some false)))))) = some r := H
    have A11 := Aside0.mk A110
    clear A110
    replace H := Option.bind_eq_some_iff.mp H
    obtain ⟨⟨t217, t218⟩, A120, H⟩ := H
    replace H : ((escape_Unpercent.f kj2 a0 a1).bind fun bt219 => ((lanyardref03_Unpercent.f kj2 a0 a1).bind fun bt221 => ((lanyardref03_Percent.f kj2 a0).bind fun t223 => (if t216.toList = t223.toList then (if t218 = 0 then (if t217.toList = a0.toList then (if bt219.1.toList = bt221.1.toList then (if ((bt219.2 == 0) == bt221.2) = true then (if bt221.2 = true then (some true) else (some (bt219.2 == 10))) else (some false)) else (some false)) else (some false)) else (some false)) else (some false))))) = some r := H
    have A12 := Aside0.mk A120
    clear A120
    replace H := Option.bind_eq_some_iff.mp H
    obtain ⟨⟨t219, t220⟩, A130, H⟩ := H
    replace H : ((lanyardref03_Unpercent.f kj2 a0 a1).bind fun bt221 => ((lanyardref03_Percent.f kj2 a0).bind fun t223 => (if t216.toList = t223.toList then (if t218 = 0 then (if t217.toList = a0.toList then (if t219.toList = bt221.1.toList then (if ((t220 == 0) == bt221.2) = true then (if bt221.2 = true then (some true) else (some (t220 == 10))) else (some false)) else (some false)) else (some false)) else (some false)) else (some false)))) = some r := H
    have A13 := Aside0.mk A130
    clear A130
    replace H := Option.bind_eq_some_iff.mp H
    obtain ⟨⟨t221, t222⟩, A140, H⟩ := H
    replace H : ((lanyardref03_Percent.f kj2 a0).bind fun t223 => (if t216.toList = t223.toList then (if t218 = 0 then (if t217.toList = a0.toList then (if t219.toList = t221.toList then (if ((t220 == 0) == t222) = true then (if t222 = true then (some true) else (some (t220 == 10))) else (some false)) else (some false)) else (some false)) else (some false)) else (some false))) = some r := H
    have A14 := Aside0.mk A140
    clear A140
    replace H := Option.bind_eq_some_iff.mp H
    obtain ⟨t223, A150, H⟩ := H
    replace H : (if t216.toList = t223.toList then (if t218 = 0 then (if t217.toList = a0.toList then (if t219.toList = t221.toList then (if ((t220 == 0) == t222) = true then (if t222 = true then (some true) else (some (t220 == 10))) else (some false)) else (some false)) else (some false)) else (some false)) else (some false)) = some r := H
    have A15 := Aside0.mk A150
    clear A150
    by_cases c16 : t216.toList = t223.toList
    ·rw [if_pos c16] at H
     have c16b0 : (t216.toList == t223.toList) = true := beq_iff_eq.mpr c16
     have c16b1 : (t216.toList != t223.toList) = false := bne_eq_false_iff_eq.mpr c16
     clear c16
     by_cases c17 : t218 = 0
     ·rw [if_pos c17] at H
      have c17b0 : (t218 == 0) = true := beq_iff_eq.mpr c17
      have c17b1 : (t218 != 0) = false := bne_eq_false_iff_eq.mpr c17
      clear c17
      by_cases c18 : t217.toList = a0.toList
      ·rw [if_pos c18] at H
       have c18b0 : (t217.toList == a0.toList) = true := beq_iff_eq.mpr c18
       have c18b1 : (t217.toList != a0.toList) = false := bne_eq_false_iff_eq.mpr c18
       clear c18
       by_cases c19 : t219.toList = t221.toList
       ·rw [if_pos c19] at H
        have c19b0 : (t219.toList == t221.toList) = true := beq_iff_eq.mpr c19
        have c19b1 : (t219.toList != t221.toList) = false := bne_eq_false_iff_eq.mpr c19
        clear c19
        by_cases c20 : ((t220 == 0) == t222) = true
        ·rw [if_pos c20] at H
         have c20b0 : ((t220 == 0) == t222) = true := c20
         (try (have c20b1 : decide ((t220 == 0) = t222) = true := by simpa using c20))
         (try (have c20b2 : ((t220 == 0) == t222) = true := by simpa using c20))
         clear c20
         by_cases c21 : t222 = true
         ·subst c21
          have H1 : (some true) = some r := by rw [if_pos rfl] at H; exact H
          clear H
          have H := H1
          clear H1
          obtain rfl := Option.some.inj H
          go_wp2_with (first | ((with_reducible refine gate_callee (f := 9) rfl ?_); refine goesA (some 21) Tryd.func9 #[.string a0] rfl ?_; (with_reducible refine (escape_Percent.calls a0 t216 _ A11.out).mono ?_); rintro e w22 ⟨rfl, hb⟩; refine ⟨_, rfl, ?_⟩; have n0_ := Bs HB hb; clear HB; revert n0_; intro HB; (try clear hb); (try clear hb2); (try clear hk); (try clear hi)) | ((with_reducible refine gate_callee (f := 10) rfl ?_); refine goesA (some 25) Tryd.func10 #[.string t216, .bool a1] rfl ?_; (with_reducible refine (escape_Unpercent.calls kj2 t216 a1 t217 t218 _ ?sideU A12.out).mono ?_); (case sideU => first | exact HU.out | exact Uni.up HU (Bu HB) | exact Uni.below HU.out (by assumption)); rintro e w23 ⟨rfl, hb⟩; refine ⟨_, rfl, ?_⟩; have n0_ := Bs HB hb; clear HB; revert n0_; intro HB; (try clear hb); (try clear hb2); (try clear hk); (try clear hi)) | ((with_reducible refine gate_callee (f := 10) rfl ?_); refine goesA (some 31) Tryd.func10 #[.string a0, .bool a1] rfl ?_; (with_reducible refine (escape_Unpercent.calls kj2 a0 a1 t219 t220 _ ?sideU A13.out).mono ?_); (case sideU => first | exact HU.out | exact Uni.up HU (Bu HB) | exact Uni.below HU.out (by assumption)); rintro e w24 ⟨rfl, hb⟩; refine ⟨_, rfl, ?_⟩; have n0_ := Bs HB hb; clear HB; revert n0_; intro HB; (try clear hb); (try clear hb2); (try clear hk); (try clear hi)) | ((with_reducible refine gate_callee (f := 11) rfl ?_); refine goesA (some 37) Tryd.func11 #[.string a0, .bool a1] rfl ?_; (with_reducible refine (lanyardref03_Unpercent.calls kj2 a0 a1 t221 true _ A14.out).mono ?_); rintro e w25 ⟨rfl, hb⟩; refine ⟨_, rfl, ?_⟩; have n0_ := Bs HB hb; clear HB; revert n0_; intro HB; (try clear hb); (try clear hb2); (try clear hk); (try clear hi)) | ((with_reducible refine gate_callee (f := 12) rfl ?_); refine goesA (some 42) Tryd.func12 #[.string a0] rfl ?_; (with_reducible refine (lanyardref03_Percent.calls kj2 a0 t223 _ A15.out).mono ?_); rintro e w26 ⟨rfl, hb⟩; refine ⟨_, rfl, ?_⟩; have n0_ := Bs HB hb; clear HB; revert n0_; intro HB; (try clear hb); (try clear hb2); (try clear hk); (try clear hi)))
          go_ret
          exact ⟨rfl_, Bu HB⟩
         ·replace c21 := Bool.eq_false_iff.mpr c21
          subst c21
          have H1 : (some (t220 == 10)) = some r := by rw [if_neg (show ¬ (false = true) by decide)] at H; exact H
          clear H
          have H := H1
          clear H1
          obtain rfl := Option.some.inj H
          go_wp2_with (first | ((with_reducible refine gate_callee (f := 9) rfl ?_); refine goesA (some 21) Tryd.func9 #[.string a0] rfl ?_; (with_reducible refine (escape_Percent.calls a0 t216 _ A11.out).mono ?_); rintro e w27 ⟨rfl, hb⟩; refine ⟨_, rfl, ?_⟩; have n0_ := Bs HB hb; clear HB; revert n0_; intro HB; (try clear hb); (try clear hb2); (try clear hk); (try clear hi)) | ((with_reducible refine gate_callee (f := 10) rfl ?_); refine goesA (some 25) Tryd.func10 #[.string t216, .bool a1] rfl ?_; (with_reducible refine (escape_Unpercent.calls kj2 t216 a1 t217 t218 _ ?sideU A12.out).mono ?_); (case sideU => first | exact HU.out | exact Uni.up HU (Bu HB) | exact Uni.below HU.out (by assumption)); rintro e w28 ⟨rfl, hb⟩; refine ⟨_, rfl, ?_⟩; have n0_ := Bs HB hb; clear HB; revert n0_; intro HB; (try clear hb); (try clear hb2); (try clear hk); (try clear hi)) | ((with_reducible refine gate_callee (f := 10) rfl ?_); refine goesA (some 31) Tryd.func10 #[.string a0, .bool a1] rfl ?_; (with_reducible refine (escape_Unpercent.calls kj2 a0 a1 t219 t220 _ ?sideU A13.out).mono ?_); (case sideU => first | exact HU.out | exact Uni.up HU (Bu HB) | exact Uni.below HU.out (by assumption)); rintro e w29 ⟨rfl, hb⟩; refine ⟨_, rfl, ?_⟩; have n0_ := Bs HB hb; clear HB; revert n0_; intro HB; (try clear hb); (try clear hb2); (try clear hk); (try clear hi)) | ((with_reducible refine gate_callee (f := 11) rfl ?_); refine goesA (some 37) Tryd.func11 #[.string a0, .bool a1] rfl ?_; (with_reducible refine (lanyardref03_Unpercent.calls kj2 a0 a1 t221 false _ A14.out).mono ?_); rintro e w30 ⟨rfl, hb⟩; refine ⟨_, rfl, ?_⟩; have n0_ := Bs HB hb; clear HB; revert n0_; intro HB; (try clear hb); (try clear hb2); (try clear hk); (try clear hi)) | ((with_reducible refine gate_callee (f := 12) rfl ?_); refine goesA (some 42) Tryd.func12 #[.string a0] rfl ?_; (with_reducible refine (lanyardref03_Percent.calls kj2 a0 t223 _ A15.out).mono ?_); rintro e w31 ⟨rfl, hb⟩; refine ⟨_, rfl, ?_⟩; have n0_ := Bs HB hb; clear HB; revert n0_; intro HB; (try clear hb); (try clear hb2); (try clear hk); (try clear hi)))
          go_ret
          exact ⟨rfl_, Bu HB⟩
        ·rw [if_neg c20] at H
         have c20b0 : ((t220 == 0) == t222) = false := by simpa using c20
         (try (have c20b1 : decide ((t220 == 0) = t222) = false := by simpa using c20))
         (try (have c20b2 : ((t220 == 0) == t222) = false := by simpa using c20))
         (try (have c20b3 : ¬ ((t220 == 0) = t222) := by simpa using c20))
         clear c20
         obtain rfl := Option.some.inj H
         go_wp2_with (first | ((with_reducible refine gate_callee (f := 9) rfl ?_); refine goesA (some 21) Tryd.func9 #[.string a0] rfl ?_; (with_reducible refine (escape_Percent.calls a0 t216 _ A11.out).mono ?_); rintro e w32 ⟨rfl, hb⟩; refine ⟨_, rfl, ?_⟩; have n0_ := Bs HB hb; clear HB; revert n0_; intro HB; (try clear hb); (try clear hb2); (try clear hk); (try clear hi)) | ((with_reducible refine gate_callee (f := 10) rfl ?_); refine goesA (some 25) Tryd.func10 #[.string t216, .bool a1] rfl ?_; (with_reducible refine (escape_Unpercent.calls kj2 t216 a1 t217 t218 _ ?sideU A12.out).mono ?_); (case sideU => first | exact HU.out | exact Uni.up HU (Bu HB) | exact Uni.below HU.out (by assumption)); rintro e w33 ⟨rfl, hb⟩; refine ⟨_, rfl, ?_⟩; have n0_ := Bs HB hb; clear HB; revert n0_; intro HB; (try clear hb); (try clear hb2); (try clear hk); (try clear hi)) | ((with_reducible refine gate_callee (f := 10) rfl ?_); refine goesA (some 31) Tryd.func10 #[.string a0, .bool a1] rfl ?_; (with_reducible refine (escape_Unpercent.calls kj2 a0 a1 t219 t220 _ ?sideU A13.out).mono ?_); (case sideU => first | exact HU.out | exact Uni.up HU (Bu HB) | exact Uni.below HU.out (by assumption)); rintro e w34 ⟨rfl, hb⟩; refine ⟨_, rfl, ?_⟩; have n0_ := Bs HB hb; clear HB; revert n0_; intro HB; (try clear hb); (try clear hb2); (try clear hk); (try clear hi)) | ((with_reducible refine gate_callee (f := 11) rfl ?_); refine goesA (some 37) Tryd.func11 #[.string a0, .bool a1] rfl ?_; (with_reducible refine (lanyardref03_Unpercent.calls kj2 a0 a1 t221 t222 _ A14.out).mono ?_); rintro e w35 ⟨rfl, hb⟩; refine ⟨_, rfl, ?_⟩; have n0_ := Bs HB hb; clear HB; revert n0_; intro HB; (try clear hb); (try clear hb2); (try clear hk); (try clear hi)) | ((with_reducible refine gate_callee (f := 12) rfl ?_); refine goesA (some 42) Tryd.func12 #[.string a0] rfl ?_; (with_reducible refine (lanyardref03_Percent.calls kj2 a0 t223 _ A15.out).mono ?_); rintro e w36 ⟨rfl, hb⟩; refine ⟨_, rfl, ?_⟩; have n0_ := Bs HB hb; clear HB; revert n0_; intro HB; (try clear hb); (try clear hb2); (try clear hk); (try clear hi)))
         go_ret
         exact ⟨rfl_, Bu HB⟩
       ·rw [if_neg c19] at H
        have c19b0 : (t219.toList == t221.toList) = false := beq_eq_false_iff_ne.mpr c19
        have c19b1 : (t219.toList != t221.toList) = true := bne_iff_ne.mpr c19
        obtain rfl := Option.some.inj H
        go_wp2_with (first | ((with_reducible refine gate_callee (f := 9) rfl ?_); refine goesA (some 21) Tryd.func9 #[.string a0] rfl ?_; (with_reducible refine (escape_Percent.calls a0 t216 _ A11.out).mono ?_); rintro e w37 ⟨rfl, hb⟩; refine ⟨_, rfl, ?_⟩; have n0_ := Bs HB hb; clear HB; revert n0_; intro HB; (try clear hb); (try clear hb2); (try clear hk); (try clear hi)) | ((with_reducible refine gate_callee (f := 10) rfl ?_); refine goesA (some 25) Tryd.func10 #[.string t216, .bool a1] rfl ?_; (with_reducible refine (escape_Unpercent.calls kj2 t216 a1 t217 t218 _ ?sideU A12.out).mono ?_); (case sideU => first | exact HU.out | exact Uni.up HU (Bu HB) | exact Uni.below HU.out (by assumption)); rintro e w38 ⟨rfl, hb⟩; refine ⟨_, rfl, ?_⟩; have n0_ := Bs HB hb; clear HB; revert n0_; intro HB; (try clear hb); (try clear hb2); (try clear hk); (try clear hi)) | ((with_reducible refine gate_callee (f := 10) rfl ?_); refine goesA (some 31) Tryd.func10 #[.string a0, .bool a1] rfl ?_; (with_reducible refine (escape_Unpercent.calls kj2 a0 a1 t219 t220 _ ?sideU A13.out).mono ?_); (case sideU => first | exact HU.out | exact Uni.up HU (Bu HB) | exact Uni.below HU.out (by assumption)); rintro e w39 ⟨rfl, hb⟩; refine ⟨_, rfl, ?_⟩; have n0_ := Bs HB hb; clear HB; revert n0_; intro HB; (try clear hb); (try clear hb2); (try clear hk); (try clear hi)) | ((with_reducible refine gate_callee (f := 11) rfl ?_); refine goesA (some 37) Tryd.func11 #[.string a0, .bool a1] rfl ?_; (with_reducible refine (lanyardref03_Unpercent.calls kj2 a0 a1 t221 t222 _ A14.out).mono ?_); rintro e w40 ⟨rfl, hb⟩; refine ⟨_, rfl, ?_⟩; have n0_ := Bs HB hb; clear HB; revert n0_; intro HB; (try clear hb); (try clear hb2); (try clear hk); (try clear hi)) | ((with_reducible refine gate_callee (f := 12) rfl ?_); refine goesA (some 42) Tryd.func12 #[.string a0] rfl ?_; (with_reducible refine (lanyardref03_Percent.calls kj2 a0 t223 _ A15.out).mono ?_); rintro e w41 ⟨rfl, hb⟩; refine ⟨_, rfl, ?_⟩; have n0_ := Bs HB hb; clear HB; revert n0_; intro HB; (try clear hb); (try clear hb2); (try clear hk); (try clear hi)))
        go_ret
        exact ⟨rfl_, Bu HB⟩
      ·rw [if_neg c18] at H
       have c18b0 : (t217.toList == a0.toList) = false := beq_eq_false_iff_ne.mpr c18
       have c18b1 : (t217.toList != a0.toList) = true := bne_iff_ne.mpr c18
       obtain rfl := Option.some.inj H
       go_wp2_with (first | ((with_reducible refine gate_callee (f := 9) rfl ?_); refine goesA (some 21) Tryd.func9 #[.string a0] rfl ?_; (with_reducible refine (escape_Percent.calls a0 t216 _ A11.out).mono ?_); rintro e w42 ⟨rfl, hb⟩; refine ⟨_, rfl, ?_⟩; have n0_ := Bs HB hb; clear HB; revert n0_; intro HB; (try clear hb); (try clear hb2); (try clear hk); (try clear hi)) | ((with_reducible refine gate_callee (f := 10) rfl ?_); refine goesA (some 25) Tryd.func10 #[.string t216, .bool a1] rfl ?_; (with_reducible refine (escape_Unpercent.calls kj2 t216 a1 t217 t218 _ ?sideU A12.out).mono ?_); (case sideU => first | exact HU.out | exact Uni.up HU (Bu HB) | exact Uni.below HU.out (by assumption)); rintro e w43 ⟨rfl, hb⟩; refine ⟨_, rfl, ?_⟩; have n0_ := Bs HB hb; clear HB; revert n0_; intro HB; (try clear hb); (try clear hb2); (try clear hk); (try clear hi)) | ((with_reducible refine gate_callee (f := 10) rfl ?_); refine goesA (some 31) Tryd.func10 #[.string a0, .bool a1] rfl ?_; (with_reducible refine (escape_Unpercent.calls kj2 a0 a1 t219 t220 _ ?sideU A13.out).mono ?_); (case sideU => first | exact HU.out | exact Uni.up HU (Bu HB) | exact Uni.below HU.out (by assumption)); rintro e w44 ⟨rfl, hb⟩; refine ⟨_, rfl, ?_⟩; have n0_ := Bs HB hb; clear HB; revert n0_; intro HB; (try clear hb); (try clear hb2); (try clear hk); (try clear hi)) | ((with_reducible refine gate_callee (f := 11) rfl ?_); refine goesA (some 37) Tryd.func11 #[.string a0, .bool a1] rfl ?_; (with_reducible refine (lanyardref03_Unpercent.calls kj2 a0 a1 t221 t222 _ A14.out).mono ?_); rintro e w45 ⟨rfl, hb⟩; refine ⟨_, rfl, ?_⟩; have n0_ := Bs HB hb; clear HB; revert n0_; intro HB; (try clear hb); (try clear hb2); (try clear hk); (try clear hi)) | ((with_reducible refine gate_callee (f := 12) rfl ?_); refine goesA (some 42) Tryd.func12 #[.string a0] rfl ?_; (with_reducible refine (lanyardref03_Percent.calls kj2 a0 t223 _ A15.out).mono ?_); rintro e w46 ⟨rfl, hb⟩; refine ⟨_, rfl, ?_⟩; have n0_ := Bs HB hb; clear HB; revert n0_; intro HB; (try clear hb); (try clear hb2); (try clear hk); (try clear hi)))
       go_ret
       exact ⟨rfl_, Bu HB⟩
     ·rw [if_neg c17] at H
      have c17b0 : (t218 == 0) = false := beq_eq_false_iff_ne.mpr c17
      have c17b1 : (t218 != 0) = true := bne_iff_ne.mpr c17
      obtain rfl := Option.some.inj H
      go_wp2_with (first | ((with_reducible refine gate_callee (f := 9) rfl ?_); refine goesA (some 21) Tryd.func9 #[.string a0] rfl ?_; (with_reducible refine (escape_Percent.calls a0 t216 _ A11.out).mono ?_); rintro e w47 ⟨rfl, hb⟩; refine ⟨_, rfl, ?_⟩; have n0_ := Bs HB hb; clear HB; revert n0_; intro HB; (try clear hb); (try clear hb2); (try clear hk); (try clear hi)) | ((with_reducible refine gate_callee (f := 10) rfl ?_); refine goesA (some 25) Tryd.func10 #[.string t216, .bool a1] rfl ?_; (with_reducible refine (escape_Unpercent.calls kj2 t216 a1 t217 t218 _ ?sideU A12.out).mono ?_); (case sideU => first | exact HU.out | exact Uni.up HU (Bu HB) | exact Uni.below HU.out (by assumption)); rintro e w48 ⟨rfl, hb⟩; refine ⟨_, rfl, ?_⟩; have n0_ := Bs HB hb; clear HB; revert n0_; intro HB; (try clear hb); (try clear hb2); (try clear hk); (try clear hi)) | ((with_reducible refine gate_callee (f := 10) rfl ?_); refine goesA (some 31) Tryd.func10 #[.string a0, .bool a1] rfl ?_; (with_reducible refine (escape_Unpercent.calls kj2 a0 a1 t219 t220 _ ?sideU A13.out).mono ?_); (case sideU => first | exact HU.out | exact Uni.up HU (Bu HB) | exact Uni.below HU.out (by assumption)); rintro e w49 ⟨rfl, hb⟩; refine ⟨_, rfl, ?_⟩; have n0_ := Bs HB hb; clear HB; revert n0_; intro HB; (try clear hb); (try clear hb2); (try clear hk); (try clear hi)) | ((with_reducible refine gate_callee (f := 11) rfl ?_); refine goesA (some 37) Tryd.func11 #[.string a0, .bool a1] rfl ?_; (with_reducible refine (lanyardref03_Unpercent.calls kj2 a0 a1 t221 t222 _ A14.out).mono ?_); rintro e w50 ⟨rfl, hb⟩; refine ⟨_, rfl, ?_⟩; have n0_ := Bs HB hb; clear HB; revert n0_; intro HB; (try clear hb); (try clear hb2); (try clear hk); (try clear hi)) | ((with_reducible refine gate_callee (f := 12) rfl ?_); refine goesA (some 42) Tryd.func12 #[.string a0] rfl ?_; (with_reducible refine (lanyardref03_Percent.calls kj2 a0 t223 _ A15.out).mono ?_); rintro e w51 ⟨rfl, hb⟩; refine ⟨_, rfl, ?_⟩; have n0_ := Bs HB hb; clear HB; revert n0_; intro HB; (try clear hb); (try clear hb2); (try clear hk); (try clear hi)))
      go_ret
      exact ⟨rfl_, Bu HB⟩
    ·rw [if_neg c16] at H
     have c16b0 : (t216.toList == t223.toList) = false := beq_eq_false_iff_ne.mpr c16
     have c16b1 : (t216.toList != t223.toList) = true := bne_iff_ne.mpr c16
     obtain rfl := Option.some.inj H
     go_wp2_with (first | ((with_reducible refine gate_callee (f := 9) rfl ?_); refine goesA (some 21) Tryd.func9 #[.string a0] rfl ?_; (with_reducible refine (escape_Percent.calls a0 t216 _ A11.out).mono ?_); rintro e w52 ⟨rfl, hb⟩; refine ⟨_, rfl, ?_⟩; have n0_ := Bs HB hb; clear HB; revert n0_; intro HB; (try clear hb); (try clear hb2); (try clear hk); (try clear hi)) | ((with_reducible refine gate_callee (f := 10) rfl ?_); refine goesA (some 25) Tryd.func10 #[.string t216, .bool a1] rfl ?_; (with_reducible refine (escape_Unpercent.calls kj2 t216 a1 t217 t218 _ ?sideU A12.out).mono ?_); (case sideU => first | exact HU.out | exact Uni.up HU (Bu HB) | exact Uni.below HU.out (by assumption)); rintro e w53 ⟨rfl, hb⟩; refine ⟨_, rfl, ?_⟩; have n0_ := Bs HB hb; clear HB; revert n0_; intro HB; (try clear hb); (try clear hb2); (try clear hk); (try clear hi)) | ((with_reducible refine gate_callee (f := 10) rfl ?_); refine goesA (some 31) Tryd.func10 #[.string a0, .bool a1] rfl ?_; (with_reducible refine (escape_Unpercent.calls kj2 a0 a1 t219 t220 _ ?sideU A13.out).mono ?_); (case sideU => first | exact HU.out | exact Uni.up HU (Bu HB) | exact Uni.below HU.out (by assumption)); rintro e w54 ⟨rfl, hb⟩; refine ⟨_, rfl, ?_⟩; have n0_ := Bs HB hb; clear HB; revert n0_; intro HB; (try clear hb); (try clear hb2); (try clear hk); (try clear hi)) | ((with_reducible refine gate_callee (f := 11) rfl ?_); refine goesA (some 37) Tryd.func11 #[.string a0, .bool a1] rfl ?_; (with_reducible refine (lanyardref03_Unpercent.calls kj2 a0 a1 t221 t222 _ A14.out).mono ?_); rintro e w55 ⟨rfl, hb⟩; refine ⟨_, rfl, ?_⟩; have n0_ := Bs HB hb; clear HB; revert n0_; intro HB; (try clear hb); (try clear hb2); (try clear hk); (try clear hi)) | ((with_reducible refine gate_callee (f := 12) rfl ?_); refine goesA (some 42) Tryd.func12 #[.string a0] rfl ?_; (with_reducible refine (lanyardref03_Percent.calls kj2 a0 t223 _ A15.out).mono ?_); rintro e w56 ⟨rfl, hb⟩; refine ⟨_, rfl, ?_⟩; have n0_ := Bs HB hb; clear HB; revert n0_; intro HB; (try clear hb); (try clear hb2); (try clear hk); (try clear hi)))
     go_ret
     exact ⟨rfl_, Bu HB⟩

/-- THE ONE PURE STATEMENT of lanyardlaw03_FormPercents: yours. -/
def lanyardlaw03_FormPercents.Pure : Prop := ∀ (a0 : ByteArray) (a1 : Bool), a0.size ≤ 140737488351232 → ∃ k, lanyardlaw03_FormPercents.f k a0 a1 = some true
theorem lanyardlaw03_FormPercents.walk (P : lanyardlaw03_FormPercents.Pure) (a0 : ByteArray) (a1 : Bool) (w : World) (w0 : a0.size ≤ 140737488351232) (hU : Uni w) :
  Calls Tryd.prog 3 #[.string a0, .bool a1] w fun e w' => e = .returned (.bool true) ∧ Below w.heap.size w w' := by
 obtain ⟨k, h⟩ := P a0 a1 w0
 refine (lanyardlaw03_FormPercents.calls k a0 a1 true w hU h).mono ?_
 rintro e w' ⟨rfl, hd⟩
 exact ⟨rfl, hd⟩

end Go.Proofs.YtjmcdocoogdbiaaDoor.Hp
