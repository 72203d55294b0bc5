/- Go functions of this seat as Lean functions, and their contracts: what the Go code computes, for every input. (By hp.py, a program of this repo, over the kit's print.py.) -/
import Derived.Test.YtfphmpnkfjeceaaDoorHp0
import Derived.Test.YtfphmpnkfjeceaaDoorHp2
import Derived.Test.YtfphmpnkfjeceaaDoorHp4
namespace Go.Proofs.YtfphmpnkfjeceaaDoor.Hp
open Go.RowKit Go.Proofs.YtfphmpnkfjeceaaDoorW.PrintWords Go.Proofs.YtfphmpnkfjeceaaDoorW.PrintLast Go.Proofs.YtfphmpnkfjeceaaDoorW.PrintMore
attribute [local go_sem] max2_int min2_int max_two min_two max_three min_three max_four min_four   -- for this text's walks alone
set_option linter.unusedVariables false
set_option linter.unusedSimpArgs false

/-! ### lanyardlaw02_BaseDecodes: function 3 -/
def lanyardlaw02_BaseDecodes.j0 : Nat → ByteArray → Bool → Option (Bool)
 | 0, _, _ => none
 | k + 1, x0, x13 => if x13 = true then ((lanyardlaw02_awake.f k).bind fun t192 => (some t192)) else ((base_Decode.f k x0).bind fun bt193 => ((lanyardref02_Decode.f k x0).bind fun bt197 => (if bt193.2 = bt197.2 then (some ((strOfNums bt193.1).toList == (strOfNums bt197.1).toList)) else (some false))))
def lanyardlaw02_BaseDecodes.f (k : Nat) (a0 : ByteArray) : Option (Bool) := (lanyardlaw02_awake.f k).bind fun t191 => (if t191 = true then (lanyardlaw02_BaseDecodes.j0 k a0 (decide ((a0.size : Int) > 4000))) else (lanyardlaw02_BaseDecodes.j0 k a0 true))
theorem lanyardlaw02_BaseDecodes.mono_l : ∀ k, (∀ y0 y1, LeO (lanyardlaw02_BaseDecodes.j0 k y0 y1) (lanyardlaw02_BaseDecodes.j0 (k + 1) y0 y1))
 | 0 => fun _ _ r h => by simp [lanyardlaw02_BaseDecodes.j0] at h
 | k + 1 => by
  have ih0 := lanyardlaw02_BaseDecodes.mono_l k
  ·intro y0 y1
   unfold lanyardlaw02_BaseDecodes.j0
   repeat' first
   | (with_reducible exact ih0 _ _)
   | (with_reducible exact base_Decode.mono _ _)
   | (with_reducible exact lanyardlaw02_awake.mono _)
   | (with_reducible exact lanyardref02_Decode.mono _ _)
   | (with_reducible exact LeO.refl _)
   | (with_reducible exact LeO.none _)
   | (with_reducible refine LeO.ite ?_ ?_)
   | (with_reducible refine LeO.bind ?_ (fun _ => ?_))
   | exact ih0 _ _
   | exact base_Decode.mono _ _
   | exact lanyardlaw02_awake.mono _
   | exact lanyardref02_Decode.mono _ _
   | exact LeO.none _
   | refine LeO.ite ?_ ?_
   | refine LeO.bind ?_ (fun _ => ?_)
theorem lanyardlaw02_BaseDecodes.mono : ∀ a0 k, LeO (lanyardlaw02_BaseDecodes.f k a0) (lanyardlaw02_BaseDecodes.f (k + 1) a0) := by
 intro a0 k
 have ih0 := lanyardlaw02_BaseDecodes.mono_l k
 unfold lanyardlaw02_BaseDecodes.f
 repeat' first
   | (with_reducible exact ih0 _ _)
   | (with_reducible exact base_Decode.mono _ _)
   | (with_reducible exact lanyardlaw02_awake.mono _)
   | (with_reducible exact lanyardref02_Decode.mono _ _)
   | (with_reducible exact LeO.refl _)
   | (with_reducible exact LeO.none _)
   | (with_reducible refine LeO.ite ?_ ?_)
   | (with_reducible refine LeO.bind ?_ (fun _ => ?_))
   | exact ih0 _ _
   | exact base_Decode.mono _ _
   | exact lanyardlaw02_awake.mono _
   | exact lanyardref02_Decode.mono _ _
   | exact LeO.none _
   | refine LeO.ite ?_ ?_
   | refine LeO.bind ?_ (fun _ => ?_)
set_option maxHeartbeats 8000000 in
set_option maxRecDepth 100000 in
theorem lanyardlaw02_BaseDecodes.calls (k : Nat) (a0 : ByteArray) (r : Bool) (w : World) (hU : Uni w) (h : lanyardlaw02_BaseDecodes.f k a0 = some r) (hr_ : r = true := by rfl) :
  Calls Tryd.prog 3 #[.string a0] w fun e w' => e = .returned (.bool r) ∧ Below w.heap.size w w' := by
 have HU := Aside0.mk hU
 clear hU
 have HR_ := Aside0.mk hr_
 clear hr_
 have HB := Aside0.mk (Below.refl w.heap.size w)
 have H : ((lanyardlaw02_awake.f k).bind fun t191 => (if t191 = true then (lanyardlaw02_BaseDecodes.j0 k a0 (decide ((a0.size : Int) > 4000))) else (lanyardlaw02_BaseDecodes.j0 k a0 true))) = some r := h
 clear h
 have HC2 := Aside0.mk H
 clear H
 go_enter Tryd.func3, Tryd.ntmps3
 go_upto_region 1 with (fail)
 go_cut [13] (fun v13 wc => ∃ (kq : Nat) (x13_1 : Bool), v13 = .bool x13_1 ∧ Aside0 (lanyardlaw02_BaseDecodes.j0 kq a0 x13_1 = some r) ∧ Aside0 (kq ≤ k) ∧ Aside0 (Below w.heap.size w wc))
 case first =>
  have H := HC2.out
  clear HC2
  replace H := Option.bind_eq_some_iff.mp H
  obtain ⟨t191, A30, H⟩ := H
  replace H : (if t191 = true then (lanyardlaw02_BaseDecodes.j0 k a0 (decide ((a0.size : Int) > 4000))) else (lanyardlaw02_BaseDecodes.j0 k a0 true)) = some r := H
  have A3 := Aside0.mk A30
  clear A30
  by_cases c4 : t191 = true
  ·subst c4
   have H1 : (lanyardlaw02_BaseDecodes.j0 k a0 (decide ((a0.size : Int) > 4000))) = some r := by rw [if_pos rfl] at H; exact H
   clear H
   have H := H1
   clear H1
   have H' := Aside0.mk H
   clear H
   go_wp2_with (first | ((with_reducible refine gate_callee (f := 8) rfl ?_); refine goesA (some 7) Tryd.func8 #[] rfl ?_; (with_reducible refine (lanyardlaw02_awake.calls k  true _ ?sideU A3.out).mono ?_); (case sideU => first | exact HU.out | exact Uni.up HU (Bu HB) | exact Uni.below HU.out (by assumption)); rintro e w5 ⟨rfl, hb⟩; refine ⟨_, rfl, ?_⟩; have n0_ := Bs HB hb; clear HB; revert n0_; intro HB; (try clear hb); (try clear hb2); (try clear hk); (try clear hi)))
   go_meet
   case rel => exact ⟨_, (decide ((a0.size : Int) > 4000)), (by first | rfl | (simp; done) | (simp [*]; done)), H', ⟨by first | omega | exact Nat.le_refl _⟩, ⟨Bu HB⟩⟩
  ·replace c4 := Bool.eq_false_iff.mpr c4
   subst c4
   have H1 : (lanyardlaw02_BaseDecodes.j0 k a0 true) = some r := by rw [if_neg (show ¬ (false = true) by decide)] at H; exact H
   clear H
   have H := H1
   clear H1
   have H' := Aside0.mk H
   clear H
   go_wp2_with (first | ((with_reducible refine gate_callee (f := 8) rfl ?_); refine goesA (some 7) Tryd.func8 #[] rfl ?_; (with_reducible refine (lanyardlaw02_awake.calls k  false _ ?sideU A3.out).mono ?_); (case sideU => first | exact HU.out | exact Uni.up HU (Bu HB) | exact Uni.below HU.out (by assumption)); rintro e w6 ⟨rfl, hb⟩; refine ⟨_, rfl, ?_⟩; have n0_ := Bs HB hb; clear HB; revert n0_; intro HB; (try clear hb); (try clear hb2); (try clear hk); (try clear hi)))
   go_meet
   case rel => exact ⟨_, (true), (by first | rfl | (simp; done) | (simp [*]; done)), H', ⟨by first | omega | exact Nat.le_refl _⟩, ⟨Bu HB⟩⟩
 case rest =>
  clear HC2
  try clear p2
  try clear c3
  try clear c4
  obtain ⟨kq, x13_1, rfl, HA, HJ1, HB⟩ := hcut
  cases kq with
  | zero => exact absurd HA.out (by simp [lanyardlaw02_BaseDecodes.j0])
  | succ kj1 =>
   have H := HA.out
   clear HA
   simp only [lanyardlaw02_BaseDecodes.j0] at H
   by_cases c7 : x13_1 = true
   ·subst c7
    have H1 : ((lanyardlaw02_awake.f kj1).bind fun t192 => (some t192)) = some r := by rw [if_pos rfl] at H; exact H
    clear H
    have H := H1
    clear H1
    replace H := Option.bind_eq_some_iff.mp H
    obtain ⟨t192, A80, H⟩ := H
    replace H : (some t192) = some r := H
    have A8 := Aside0.mk A80
    clear A80
    obtain rfl := Option.some.inj H
    go_wp2_with (first | ((with_reducible refine gate_callee (f := 8) rfl ?_); refine goesA (some 14) Tryd.func8 #[] rfl ?_; (with_reducible refine (lanyardlaw02_awake.calls kj1  t192 _ ?sideU A8.out).mono ?_); (case sideU => first | exact HU.out | exact Uni.up HU (Bu HB) | exact Uni.below HU.out (by assumption)); rintro e w9 ⟨rfl, hb⟩; refine ⟨_, rfl, ?_⟩; have n0_ := Bs HB hb; clear HB; revert n0_; intro HB; (try clear hb); (try clear hb2); (try clear hk); (try clear hi)))
    go_ret
    exact ⟨rfl_, Bu HB⟩
   ·replace c7 := Bool.eq_false_iff.mpr c7
    subst c7
    have H1 : ((base_Decode.f kj1 a0).bind fun bt193 => ((lanyardref02_Decode.f kj1 a0).bind fun bt197 => (if bt193.2 = bt197.2 then (some ((strOfNums bt193.1).toList == (strOfNums bt197.1).toList)) else (some false)))) = some r := by rw [if_neg (show ¬ (false = true) by decide)] at H; exact H
    clear H
    have H := H1
    clear H1
    replace H := Option.bind_eq_some_iff.mp H
    obtain ⟨⟨t193, t194⟩, A100, H⟩ := H
    replace H : ((lanyardref02_Decode.f kj1 a0).bind fun bt197 => (if t194 = bt197.2 then (some ((strOfNums t193).toList == (strOfNums bt197.1).toList)) else (some false))) = some r := H
    have A10 := Aside0.mk A100
    clear A100
    replace H := Option.bind_eq_some_iff.mp H
    obtain ⟨⟨t197, t198⟩, A110, H⟩ := H
    replace H : (if t194 = t198 then (some ((strOfNums t193).toList == (strOfNums t197).toList)) else (some false)) = some r := H
    have A11 := Aside0.mk A110
    clear A110
    by_cases c12 : t194 = t198
    ·rw [if_pos c12] at H
     have c12b0 : (t194 == t198) = true := beq_iff_eq.mpr c12
     have c12b1 : (t194 != t198) = false := bne_eq_false_iff_eq.mpr c12
     clear c12
     obtain rfl := Option.some.inj H
     go_wp2_with (first | ((with_reducible refine gate_callee (f := 9) rfl ?_); refine goesA (some 17) Tryd.func9 #[.string a0] rfl ?_; (with_reducible refine (base_Decode.calls kj1 a0 t193 t194 _ ?sideU A10.out).mono ?_); (case sideU => first | exact HU.out | exact Uni.up HU (Bu HB) | exact Uni.below HU.out (by assumption)); rintro e w13 ⟨v195, rfl, ho0, hb⟩; refine ⟨_, rfl, ?_⟩; have n0_ := Aside0.mk (Kd.R_lower ho0 (Bz HB)); have n1_ := Bs HB hb; clear HB; revert n0_ n1_; intro HO196 HB; (try clear hb); (try clear hb2); (try clear hk); (try clear hi); (try clear ho0)) | ((with_reducible refine gate_callee (f := 10) rfl ?_); refine goesA (some 22) Tryd.func10 #[.string a0] rfl ?_; (with_reducible refine (lanyardref02_Decode.calls kj1 a0 t197 t198 _ A11.out).mono ?_); rintro e w14 ⟨v199, rfl, ho0, hb⟩; refine ⟨_, rfl, ?_⟩; have n0_ := Re HO196 (Kd.R_base ho0) hb; have n1_ := Aside0.mk (Kd.R_lower (Kd.R_new' ho0 (Kd.R_lt (Ru HO196))) (Bz HB)); have n2_ := Bs HB hb; clear HO196 HB; revert n0_ n1_ n2_; intro HO196 HO200 HB; (try clear hb); (try clear hb2); (try clear hk); (try clear hi); (try clear ho0); have hcv15 := own_string (P := Tryd.prog) Tryd.underlying23 Tryd.underlying5 Tryd.underlying9 (Kd.own_of_R HO196.out); have hcv16 := fun n_ : Nat => own_string (P := Tryd.prog) Tryd.underlying23 Tryd.underlying5 Tryd.underlying9 (Kd.own_of_R (Kd.R_drewN HO196.out n_)); have hcv17 := own_string (P := Tryd.prog) Tryd.underlying23 Tryd.underlying5 Tryd.underlying9 (Kd.own_of_R HO200.out); have hcv18 := fun n_ : Nat => own_string (P := Tryd.prog) Tryd.underlying23 Tryd.underlying5 Tryd.underlying9 (Kd.own_of_R (Kd.R_drewN HO200.out n_))))
     go_ret
     exact ⟨rfl_, Bu HB⟩
    ·rw [if_neg c12] at H
     have c12b0 : (t194 == t198) = false := beq_eq_false_iff_ne.mpr c12
     have c12b1 : (t194 != t198) = true := bne_iff_ne.mpr c12
     exact absurd (Option.some.inj H) (by rw [HR_.out]; decide)
/-- THE ONE PURE STATEMENT of lanyardlaw02_BaseDecodes: yours. -/
def lanyardlaw02_BaseDecodes.Pure : Prop := ∀ (a0 : ByteArray), a0.size ≤ 140737488351232 → ∃ k, lanyardlaw02_BaseDecodes.f k a0 = some true
theorem lanyardlaw02_BaseDecodes.walk (P : lanyardlaw02_BaseDecodes.Pure) (a0 : ByteArray) (w : World) (w0 : a0.size ≤ 140737488351232) (hU : Uni w) :
  Calls Tryd.prog 3 #[.string a0] w fun e w' => e = .returned (.bool true) ∧ Below w.heap.size w w' := by
 obtain ⟨k, h⟩ := P a0 w0
 refine (lanyardlaw02_BaseDecodes.calls k a0 true w hU h).mono ?_
 rintro e w' ⟨rfl, hd⟩
 exact ⟨rfl, hd⟩

end Go.Proofs.YtfphmpnkfjeceaaDoor.Hp
