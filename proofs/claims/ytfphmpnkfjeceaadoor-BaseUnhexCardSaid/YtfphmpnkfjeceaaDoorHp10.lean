/- Go functions of this seat as Lean functions, and their contracts: what the Go code computes, for every input. (By hp.py, a program of this repo, over the kit's print.py.) -/
import Derived.Test.YtfphmpnkfjeceaaDoorHp0
import Derived.Test.YtfphmpnkfjeceaaDoorHp2
import Derived.Test.YtfphmpnkfjeceaaDoorHp5
import Derived.Test.YtfphmpnkfjeceaaDoorHp6
namespace Go.Proofs.YtfphmpnkfjeceaaDoor.Hp
open Go.RowKit Go.Proofs.YtfphmpnkfjeceaaDoorW.PrintWords Go.Proofs.YtfphmpnkfjeceaaDoorW.PrintLast Go.Proofs.YtfphmpnkfjeceaaDoorW.PrintMore
attribute [local go_sem] max2_int min2_int max_two min_two max_three min_three max_four min_four   -- for this text's walks alone
set_option linter.unusedVariables false
set_option linter.unusedSimpArgs false

/-! ### lanyardlaw02_BaseUnhex: function 6 -/
def lanyardlaw02_BaseUnhex.j0 : Nat → ByteArray → Bool → Option (Bool)
 | 0, _, _ => none
 | k + 1, x0, x13 => if x13 = true then ((lanyardlaw02_awake.f k).bind fun t226 => (some t226)) else ((base_Unhex.f k x0).bind fun bt227 => ((lanyardref02_Unhex.f k x0).bind fun bt231 => (if bt227.2 = bt231.2 then (some ((strOfNums bt227.1).toList == (strOfNums bt231.1).toList)) else (some false))))
def lanyardlaw02_BaseUnhex.f (k : Nat) (a0 : ByteArray) : Option (Bool) := (lanyardlaw02_awake.f k).bind fun t225 => (if t225 = true then (lanyardlaw02_BaseUnhex.j0 k a0 (decide ((a0.size : Int) > 4000))) else (lanyardlaw02_BaseUnhex.j0 k a0 true))
theorem lanyardlaw02_BaseUnhex.mono_l : ∀ k, (∀ y0 y1, LeO (lanyardlaw02_BaseUnhex.j0 k y0 y1) (lanyardlaw02_BaseUnhex.j0 (k + 1) y0 y1))
 | 0 => fun _ _ r h => by simp [lanyardlaw02_BaseUnhex.j0] at h
 | k + 1 => by
  have ih0 := lanyardlaw02_BaseUnhex.mono_l k
  ·intro y0 y1
   unfold lanyardlaw02_BaseUnhex.j0
   repeat' first
   | (with_reducible exact ih0 _ _)
   | (with_reducible exact base_Unhex.mono _ _)
   | (with_reducible exact lanyardlaw02_awake.mono _)
   | (with_reducible exact lanyardref02_Unhex.mono _ _)
   | (with_reducible exact LeO.refl _)
   | (with_reducible exact LeO.none _)
   | (with_reducible refine LeO.ite ?_ ?_)
   | (with_reducible refine LeO.bind ?_ (fun _ => ?_))
   | exact ih0 _ _
   | exact base_Unhex.mono _ _
   | exact lanyardlaw02_awake.mono _
   | exact lanyardref02_Unhex.mono _ _
   | exact LeO.none _
   | refine LeO.ite ?_ ?_
   | refine LeO.bind ?_ (fun _ => ?_)
theorem lanyardlaw02_BaseUnhex.mono : ∀ a0 k, LeO (lanyardlaw02_BaseUnhex.f k a0) (lanyardlaw02_BaseUnhex.f (k + 1) a0) := by
 intro a0 k
 have ih0 := lanyardlaw02_BaseUnhex.mono_l k
 unfold lanyardlaw02_BaseUnhex.f
 repeat' first
   | (with_reducible exact ih0 _ _)
   | (with_reducible exact base_Unhex.mono _ _)
   | (with_reducible exact lanyardlaw02_awake.mono _)
   | (with_reducible exact lanyardref02_Unhex.mono _ _)
   | (with_reducible exact LeO.refl _)
   | (with_reducible exact LeO.none _)
   | (with_reducible refine LeO.ite ?_ ?_)
   | (with_reducible refine LeO.bind ?_ (fun _ => ?_))
   | exact ih0 _ _
   | exact base_Unhex.mono _ _
   | exact lanyardlaw02_awake.mono _
   | exact lanyardref02_Unhex.mono _ _
   | exact LeO.none _
   | refine LeO.ite ?_ ?_
   | refine LeO.bind ?_ (fun _ => ?_)
set_option maxHeartbeats 8000000 in
set_option maxRecDepth 100000 in
theorem lanyardlaw02_BaseUnhex.calls (k : Nat) (a0 : ByteArray) (r : Bool) (w : World) (hU : Uni w) (h : lanyardlaw02_BaseUnhex.f k a0 = some r) (hr_ : r = true := by rfl) :
  Calls Tryd.prog 6 #[.string a0] w fun e w' => e = .returned (.bool r) ∧ Below w.heap.size w w' := by
 have HU := Aside0.mk hU
 clear hU
 have HR_ := Aside0.mk hr_
 clear hr_
 have HB := Aside0.mk (Below.refl w.heap.size w)
 have H : ((lanyardlaw02_awake.f k).bind fun t225 => (if t225 = true then (lanyardlaw02_BaseUnhex.j0 k a0 (decide ((a0.size : Int) > 4000))) else (lanyardlaw02_BaseUnhex.j0 k a0 true))) = some r := h
 clear h
 have HC2 := Aside0.mk H
 clear H
 go_enter Tryd.func6, Tryd.ntmps6
 go_upto_region 1 with (fail)
 go_cut [13] (fun v13 wc => ∃ (kq : Nat) (x13_1 : Bool), v13 = .bool x13_1 ∧ Aside0 (lanyardlaw02_BaseUnhex.j0 kq a0 x13_1 = some r) ∧ Aside0 (kq ≤ k) ∧ Aside0 (Below w.heap.size w wc))
 case first =>
  have H := HC2.out
  clear HC2
  replace H := Option.bind_eq_some_iff.mp H
  obtain ⟨t225, A30, H⟩ := H
  replace H : (if t225 = true then (lanyardlaw02_BaseUnhex.j0 k a0 (decide ((a0.size : Int) > 4000))) else (lanyardlaw02_BaseUnhex.j0 k a0 true)) = some r := H
  have A3 := Aside0.mk A30
  clear A30
  by_cases c4 : t225 = true
  ·subst c4
   have H1 : (lanyardlaw02_BaseUnhex.j0 k a0 (decide ((a0.size : Int) > 4000))) = some r := by rw [if_pos rfl] at H; exact H
   clear H
   have H := H1
   clear H1
   have H' := Aside0.mk H
   clear H
   go_wp2_with (first | ((with_reducible refine gate_callee (f := 8) rfl ?_); refine goesA (some 7) Tryd.func8 #[] rfl ?_; (with_reducible refine (lanyardlaw02_awake.calls k  true _ ?sideU A3.out).mono ?_); (case sideU => first | exact HU.out | exact Uni.up HU (Bu HB) | exact Uni.below HU.out (by assumption)); rintro e w5 ⟨rfl, hb⟩; refine ⟨_, rfl, ?_⟩; have n0_ := Bs HB hb; clear HB; revert n0_; intro HB; (try clear hb); (try clear hb2); (try clear hk); (try clear hi)))
   go_meet
   case rel => exact ⟨_, (decide ((a0.size : Int) > 4000)), (by first | rfl | (simp; done) | (simp [*]; done)), H', ⟨by first | omega | exact Nat.le_refl _⟩, ⟨Bu HB⟩⟩
  ·replace c4 := Bool.eq_false_iff.mpr c4
   subst c4
   have H1 : (lanyardlaw02_BaseUnhex.j0 k a0 true) = some r := by rw [if_neg (show ¬ (false = true) by decide)] at H; exact H
   clear H
   have H := H1
   clear H1
   have H' := Aside0.mk H
   clear H
   go_wp2_with (first | ((with_reducible refine gate_callee (f := 8) rfl ?_); refine goesA (some 7) Tryd.func8 #[] rfl ?_; (with_reducible refine (lanyardlaw02_awake.calls k  false _ ?sideU A3.out).mono ?_); (case sideU => first | exact HU.out | exact Uni.up HU (Bu HB) | exact Uni.below HU.out (by assumption)); rintro e w6 ⟨rfl, hb⟩; refine ⟨_, rfl, ?_⟩; have n0_ := Bs HB hb; clear HB; revert n0_; intro HB; (try clear hb); (try clear hb2); (try clear hk); (try clear hi)))
   go_meet
   case rel => exact ⟨_, (true), (by first | rfl | (simp; done) | (simp [*]; done)), H', ⟨by first | omega | exact Nat.le_refl _⟩, ⟨Bu HB⟩⟩
 case rest =>
  clear HC2
  try clear p2
  try clear c4
  try clear c6
  obtain ⟨kq, x13_1, rfl, HA, HJ1, HB⟩ := hcut
  cases kq with
  | zero => exact absurd HA.out (by simp [lanyardlaw02_BaseUnhex.j0])
  | succ kj1 =>
   have H := HA.out
   clear HA
   simp only [lanyardlaw02_BaseUnhex.j0] at H
   by_cases c7 : x13_1 = true
   ·subst c7
    have H1 : ((lanyardlaw02_awake.f kj1).bind fun t226 => (some t226)) = some r := by rw [if_pos rfl] at H; exact H
    clear H
    have H := H1
    clear H1
    replace H := Option.bind_eq_some_iff.mp H
    obtain ⟨t226, A80, H⟩ := H
    replace H : (some t226) = some r := H
    have A8 := Aside0.mk A80
    clear A80
    obtain rfl := Option.some.inj H
    go_wp2_with (first | ((with_reducible refine gate_callee (f := 8) rfl ?_); refine goesA (some 14) Tryd.func8 #[] rfl ?_; (with_reducible refine (lanyardlaw02_awake.calls kj1  t226 _ ?sideU A8.out).mono ?_); (case sideU => first | exact HU.out | exact Uni.up HU (Bu HB) | exact Uni.below HU.out (by assumption)); rintro e w9 ⟨rfl, hb⟩; refine ⟨_, rfl, ?_⟩; have n0_ := Bs HB hb; clear HB; revert n0_; intro HB; (try clear hb); (try clear hb2); (try clear hk); (try clear hi)))
    go_ret
    exact ⟨rfl_, Bu HB⟩
   ·replace c7 := Bool.eq_false_iff.mpr c7
    subst c7
    have H1 : ((base_Unhex.f kj1 a0).bind fun bt227 => ((lanyardref02_Unhex.f kj1 a0).bind fun bt231 => (if bt227.2 = bt231.2 then (some ((strOfNums bt227.1).toList == (strOfNums bt231.1).toList)) else (some false)))) = some r := by rw [if_neg (show ¬ (false = true) by decide)] at H; exact H
    clear H
    have H := H1
    clear H1
    replace H := Option.bind_eq_some_iff.mp H
    obtain ⟨⟨t227, t228⟩, A100, H⟩ := H
    replace H : ((lanyardref02_Unhex.f kj1 a0).bind fun bt231 => (if t228 = bt231.2 then (some ((strOfNums t227).toList == (strOfNums bt231.1).toList)) else (some false))) = some r := H
    have A10 := Aside0.mk A100
    clear A100
    replace H := Option.bind_eq_some_iff.mp H
    obtain ⟨⟨t231, t232⟩, A110, H⟩ := H
    replace H : (if t228 = t232 then (some ((strOfNums t227).toList == (strOfNums t231).toList)) else (some false)) = some r := H
    have A11 := Aside0.mk A110
    clear A110
    by_cases c12 : t228 = t232
    ·rw [if_pos c12] at H
     have c12b0 : (t228 == t232) = true := beq_iff_eq.mpr c12
     have c12b1 : (t228 != t232) = false := bne_eq_false_iff_eq.mpr c12
     clear c12
     obtain rfl := Option.some.inj H
     go_wp2_with (first | ((with_reducible refine gate_callee (f := 15) rfl ?_); refine goesA (some 17) Tryd.func15 #[.string a0] rfl ?_; (with_reducible refine (base_Unhex.calls kj1 a0 t227 t228 _ A10.out).mono ?_); rintro e w13 ⟨v229, rfl, ho0, hb⟩; refine ⟨_, rfl, ?_⟩; have n0_ := Aside0.mk (Kd.R_lower ho0 (Bz HB)); have n1_ := Bs HB hb; clear HB; revert n0_ n1_; intro HO230 HB; (try clear hb); (try clear hb2); (try clear hk); (try clear hi); (try clear ho0)) | ((with_reducible refine gate_callee (f := 16) rfl ?_); refine goesA (some 22) Tryd.func16 #[.string a0] rfl ?_; (with_reducible refine (lanyardref02_Unhex.calls kj1 a0 t231 t232 _ A11.out).mono ?_); rintro e w14 ⟨v233, rfl, ho0, hb⟩; refine ⟨_, rfl, ?_⟩; have n0_ := Re HO230 (Kd.R_base ho0) hb; have n1_ := Aside0.mk (Kd.R_lower (Kd.R_new' ho0 (Kd.R_lt (Ru HO230))) (Bz HB)); have n2_ := Bs HB hb; clear HO230 HB; revert n0_ n1_ n2_; intro HO230 HO234 HB; (try clear hb); (try clear hb2); (try clear hk); (try clear hi); (try clear ho0); have hcv15 := own_string (P := Tryd.prog) Tryd.underlying23 Tryd.underlying5 Tryd.underlying9 (Kd.own_of_R HO230.out); have hcv16 := fun n_ : Nat => own_string (P := Tryd.prog) Tryd.underlying23 Tryd.underlying5 Tryd.underlying9 (Kd.own_of_R (Kd.R_drewN HO230.out n_)); have hcv17 := own_string (P := Tryd.prog) Tryd.underlying23 Tryd.underlying5 Tryd.underlying9 (Kd.own_of_R HO234.out); have hcv18 := fun n_ : Nat => own_string (P := Tryd.prog) Tryd.underlying23 Tryd.underlying5 Tryd.underlying9 (Kd.own_of_R (Kd.R_drewN HO234.out n_))))
     go_ret
     exact ⟨rfl_, Bu HB⟩
    ·rw [if_neg c12] at H
     have c12b0 : (t228 == t232) = false := beq_eq_false_iff_ne.mpr c12
     have c12b1 : (t228 != t232) = true := bne_iff_ne.mpr c12
     exact absurd (Option.some.inj H) (by rw [HR_.out]; decide)
/-- THE ONE PURE STATEMENT of lanyardlaw02_BaseUnhex: yours. -/
def lanyardlaw02_BaseUnhex.Pure : Prop := ∀ (a0 : ByteArray), a0.size ≤ 140737488351232 → ∃ k, lanyardlaw02_BaseUnhex.f k a0 = some true
theorem lanyardlaw02_BaseUnhex.walk (P : lanyardlaw02_BaseUnhex.Pure) (a0 : ByteArray) (w : World) (w0 : a0.size ≤ 140737488351232) (hU : Uni w) :
  Calls Tryd.prog 6 #[.string a0] w fun e w' => e = .returned (.bool true) ∧ Below w.heap.size w w' := by
 obtain ⟨k, h⟩ := P a0 w0
 refine (lanyardlaw02_BaseUnhex.calls k a0 true w hU h).mono ?_
 rintro e w' ⟨rfl, hd⟩
 exact ⟨rfl, hd⟩

end Go.Proofs.YtfphmpnkfjeceaaDoor.Hp
