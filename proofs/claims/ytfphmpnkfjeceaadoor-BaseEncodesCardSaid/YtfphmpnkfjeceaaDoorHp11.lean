/- Go functions of this seat as Lean functions, and their contracts: what the Go code computes, for every input. (By hp.py, a program of this repo, over the kit's print.py.) -/
import Derived.Test.YtfphmpnkfjeceaaDoorHp0
import Derived.Test.YtfphmpnkfjeceaaDoorHp1
import Derived.Test.YtfphmpnkfjeceaaDoorHp2
import Derived.Test.YtfphmpnkfjeceaaDoorHp3
import Derived.Test.YtfphmpnkfjeceaaDoorHp5
import Derived.Test.YtfphmpnkfjeceaaDoorHp6
namespace Go.Proofs.YtfphmpnkfjeceaaDoor.Hp
open Go.RowKit Go.Proofs.YtfphmpnkfjeceaaDoorW.PrintWords Go.Proofs.YtfphmpnkfjeceaaDoorW.PrintLast Go.Proofs.YtfphmpnkfjeceaaDoorW.PrintMore
attribute [local go_sem] max2_int min2_int max_two min_two max_three min_three max_four min_four   -- for this text's walks alone
set_option linter.unusedVariables false
set_option linter.unusedSimpArgs false

/-! ### lanyardlaw02_BaseEncodes: function 7 -/
mutual
def lanyardlaw02_BaseEncodes.j0 : Nat → List Int → Int → Bool → Option (Bool)
 | 0, _, _, _ => none
 | k + 1, x0, x1, x17 => if x17 = true then ((lanyardlaw02_awake.f k).bind fun t236 => (some t236)) else ((base_Encode.f x0).bind fun t237 => ((base_Hex.f x0).bind fun t238 => ((lanyardref02_Encode.f k x0).bind fun t239 => (if t237.toList = t239.toList then ((lanyardref02_Hex.f k x0).bind fun t240 => (if t238.toList = t240.toList then ((base_Fold.f t237 x1).bind fun t241 => ((lanyardref02_Fold.f k t237 x1).bind fun t242 => (lanyardlaw02_BaseEncodes.j1 k x0 x1 t237 t238 (t241.toList != t242.toList)))) else (lanyardlaw02_BaseEncodes.j1 k x0 x1 t237 t238 true))) else (lanyardlaw02_BaseEncodes.j1 k x0 x1 t237 t238 true)))))
def lanyardlaw02_BaseEncodes.j1 : Nat → List Int → Int → ByteArray → ByteArray → Bool → Option (Bool)
 | 0, _, _, _, _, _ => none
 | k + 1, x0, x1, x5, x6, x41 => if x41 = true then (some false) else ((base_Fold.f x5 x1).bind fun t243 => ((base_Decode.f k t243).bind fun bt244 => ((base_Unhex.f k x6).bind fun bt248 => (if bt244.2 = 0 then (if (strOfNums bt244.1).toList = (strOfNums x0).toList then (if bt248.2 = 0 then (some ((strOfNums bt248.1).toList == (strOfNums x0).toList)) else (some false)) else (some false)) else (some false)))))
end
def lanyardlaw02_BaseEncodes.f (k : Nat) (l0 : List Int) (a1 : Int) : Option (Bool) := (lanyardlaw02_awake.f k).bind fun t235 => (if t235 = true then (lanyardlaw02_BaseEncodes.j0 k l0 a1 (decide ((l0.length : Int) > 3000))) else (lanyardlaw02_BaseEncodes.j0 k l0 a1 true))
theorem lanyardlaw02_BaseEncodes.mono_l : ∀ k, (∀ y0 y1 y2, LeO (lanyardlaw02_BaseEncodes.j0 k y0 y1 y2) (lanyardlaw02_BaseEncodes.j0 (k + 1) y0 y1 y2)) ∧ (∀ y0 y1 y2 y3 y4, LeO (lanyardlaw02_BaseEncodes.j1 k y0 y1 y2 y3 y4) (lanyardlaw02_BaseEncodes.j1 (k + 1) y0 y1 y2 y3 y4))
 | 0 => ⟨fun _ _ _ r h => by simp [lanyardlaw02_BaseEncodes.j0] at h, fun _ _ _ _ _ r h => by simp [lanyardlaw02_BaseEncodes.j1] at h⟩
 | k + 1 => by
  obtain ⟨ih0, ih1⟩ := lanyardlaw02_BaseEncodes.mono_l k
  refine ⟨?_, ?_⟩
  ·intro y0 y1 y2
   unfold lanyardlaw02_BaseEncodes.j0
   repeat' first
   | (with_reducible exact ih0 _ _ _)
   | (with_reducible exact ih1 _ _ _ _ _)
   | (with_reducible exact base_Decode.mono _ _)
   | (with_reducible exact base_Unhex.mono _ _)
   | (with_reducible exact lanyardlaw02_awake.mono _)
   | (with_reducible exact lanyardref02_Encode.mono _ _)
   | (with_reducible exact lanyardref02_Fold.mono _ _ _)
   | (with_reducible exact lanyardref02_Hex.mono _ _)
   | (with_reducible exact LeO.refl _)
   | (with_reducible exact LeO.none _)
   | (with_reducible refine LeO.ite ?_ ?_)
   | (with_reducible refine LeO.bind ?_ (fun _ => ?_))
   | exact ih0 _ _ _
   | exact ih1 _ _ _ _ _
   | exact base_Decode.mono _ _
   | exact base_Unhex.mono _ _
   | exact lanyardlaw02_awake.mono _
   | exact lanyardref02_Encode.mono _ _
   | exact lanyardref02_Fold.mono _ _ _
   | exact lanyardref02_Hex.mono _ _
   | exact LeO.none _
   | refine LeO.ite ?_ ?_
   | refine LeO.bind ?_ (fun _ => ?_)
  ·intro y0 y1 y2 y3 y4
   unfold lanyardlaw02_BaseEncodes.j1
   repeat' first
   | (with_reducible exact ih0 _ _ _)
   | (with_reducible exact ih1 _ _ _ _ _)
   | (with_reducible exact base_Decode.mono _ _)
   | (with_reducible exact base_Unhex.mono _ _)
   | (with_reducible exact lanyardlaw02_awake.mono _)
   | (with_reducible exact lanyardref02_Encode.mono _ _)
   | (with_reducible exact lanyardref02_Fold.mono _ _ _)
   | (with_reducible exact lanyardref02_Hex.mono _ _)
   | (with_reducible exact LeO.refl _)
   | (with_reducible exact LeO.none _)
   | (with_reducible refine LeO.ite ?_ ?_)
   | (with_reducible refine LeO.bind ?_ (fun _ => ?_))
   | exact ih0 _ _ _
   | exact ih1 _ _ _ _ _
   | exact base_Decode.mono _ _
   | exact base_Unhex.mono _ _
   | exact lanyardlaw02_awake.mono _
   | exact lanyardref02_Encode.mono _ _
   | exact lanyardref02_Fold.mono _ _ _
   | exact lanyardref02_Hex.mono _ _
   | exact LeO.none _
   | refine LeO.ite ?_ ?_
   | refine LeO.bind ?_ (fun _ => ?_)
theorem lanyardlaw02_BaseEncodes.mono : ∀ a0 a1 k, LeO (lanyardlaw02_BaseEncodes.f k a0 a1) (lanyardlaw02_BaseEncodes.f (k + 1) a0 a1) := by
 intro a0 a1 k
 obtain ⟨ih0, ih1⟩ := lanyardlaw02_BaseEncodes.mono_l k
 unfold lanyardlaw02_BaseEncodes.f
 repeat' first
   | (with_reducible exact ih0 _ _ _)
   | (with_reducible exact ih1 _ _ _ _ _)
   | (with_reducible exact base_Decode.mono _ _)
   | (with_reducible exact base_Unhex.mono _ _)
   | (with_reducible exact lanyardlaw02_awake.mono _)
   | (with_reducible exact lanyardref02_Encode.mono _ _)
   | (with_reducible exact lanyardref02_Fold.mono _ _ _)
   | (with_reducible exact lanyardref02_Hex.mono _ _)
   | (with_reducible exact LeO.refl _)
   | (with_reducible exact LeO.none _)
   | (with_reducible refine LeO.ite ?_ ?_)
   | (with_reducible refine LeO.bind ?_ (fun _ => ?_))
   | exact ih0 _ _ _
   | exact ih1 _ _ _ _ _
   | exact base_Decode.mono _ _
   | exact base_Unhex.mono _ _
   | exact lanyardlaw02_awake.mono _
   | exact lanyardref02_Encode.mono _ _
   | exact lanyardref02_Fold.mono _ _ _
   | exact lanyardref02_Hex.mono _ _
   | exact LeO.none _
   | refine LeO.ite ?_ ?_
   | refine LeO.bind ?_ (fun _ => ?_)
set_option maxHeartbeats 8000000 in
set_option maxRecDepth 100000 in
theorem lanyardlaw02_BaseEncodes.calls (k : Nat) (A0 : Option Addr) (c0 : Nat) (l0 : List Int) (a1 : Int) (r : Bool) (w : World) (hr0 : Kd.C (Kd.int .u8) w A0 l0.length l0) (hc0 : l0.length ≤ c0) (hU : Uni w) (h : lanyardlaw02_BaseEncodes.f k l0 a1 = some r) (hr_ : r = true := by rfl) :
  Calls Tryd.prog 7 #[.slice A0 l0.length c0, .int .i64 a1] w fun e w' => e = .returned (.bool r) ∧ Below w.heap.size w w' := by
 have HU := Aside0.mk hU
 clear hU
 have HR_ := Aside0.mk hr_
 clear hr_
 have HR0 := Aside0.mk hr0
 have HC0 := Aside0.mk hc0
 clear hr0 hc0
 have HB := Aside0.mk (Below.refl w.heap.size w)
 have H : ((lanyardlaw02_awake.f k).bind fun t235 => (if t235 = true then (lanyardlaw02_BaseEncodes.j0 k l0 a1 (decide ((l0.length : Int) > 3000))) else (lanyardlaw02_BaseEncodes.j0 k l0 a1 true))) = some r := h
 clear h
 have HC3 := Aside0.mk H
 clear H
 go_enter Tryd.func7, Tryd.ntmps7
 go_upto_region 1 with (fail)
 go_cut [17] (fun v17 wc => ∃ (kq : Nat) (x17_2 : Bool), v17 = .bool x17_2 ∧ Aside0 (lanyardlaw02_BaseEncodes.j0 kq l0 a1 x17_2 = some r) ∧ Aside0 (kq ≤ k) ∧ Aside0 (Below w.heap.size w wc))
 case first =>
  have H := HC3.out
  clear HC3
  replace H := Option.bind_eq_some_iff.mp H
  obtain ⟨t235, A40, H⟩ := H
  replace H : (if t235 = true then (lanyardlaw02_BaseEncodes.j0 k l0 a1 (decide ((l0.length : Int) > 3000))) else (lanyardlaw02_BaseEncodes.j0 k l0 a1 true)) = some r := H
  have A4 := Aside0.mk A40
  clear A40
  by_cases c5 : t235 = true
  ·subst c5
   have H1 : (lanyardlaw02_BaseEncodes.j0 k l0 a1 (decide ((l0.length : Int) > 3000))) = some r := by rw [if_pos rfl] at H; exact H
   clear H
   have H := H1
   clear H1
   have H' := Aside0.mk H
   clear H
   go_wp2_with (first | ((with_reducible refine gate_callee (f := 8) rfl ?_); refine goesA (some 11) Tryd.func8 #[] rfl ?_; (with_reducible refine (lanyardlaw02_awake.calls k  true _ ?sideU A4.out).mono ?_); (case sideU => first | exact HU.out | exact Uni.up HU (Bu HB) | exact Uni.below HU.out (by assumption)); rintro e w6 ⟨rfl, hb⟩; refine ⟨_, rfl, ?_⟩; have n0_ := Bs HB hb; clear HB; revert n0_; intro HB; (try clear hb); (try clear hb2); (try clear hk); (try clear hi)))
   go_meet
   case rel => exact ⟨_, (decide ((l0.length : Int) > 3000)), (by first | rfl | (simp; done) | (simp [*]; done)), H', ⟨by first | omega | exact Nat.le_refl _⟩, ⟨Bu HB⟩⟩
  ·replace c5 := Bool.eq_false_iff.mpr c5
   subst c5
   have H1 : (lanyardlaw02_BaseEncodes.j0 k l0 a1 true) = some r := by rw [if_neg (show ¬ (false = true) by decide)] at H; exact H
   clear H
   have H := H1
   clear H1
   have H' := Aside0.mk H
   clear H
   go_wp2_with (first | ((with_reducible refine gate_callee (f := 8) rfl ?_); refine goesA (some 11) Tryd.func8 #[] rfl ?_; (with_reducible refine (lanyardlaw02_awake.calls k  false _ ?sideU A4.out).mono ?_); (case sideU => first | exact HU.out | exact Uni.up HU (Bu HB) | exact Uni.below HU.out (by assumption)); rintro e w7 ⟨rfl, hb⟩; refine ⟨_, rfl, ?_⟩; have n0_ := Bs HB hb; clear HB; revert n0_; intro HB; (try clear hb); (try clear hb2); (try clear hk); (try clear hi)))
   go_meet
   case rel => exact ⟨_, (true), (by first | rfl | (simp; done) | (simp [*]; done)), H', ⟨by first | omega | exact Nat.le_refl _⟩, ⟨Bu HB⟩⟩
 case rest =>
  clear HC3
  try clear p2
  try clear c5
  try clear c7
  obtain ⟨kq, x17_2, rfl, HA, HJ2, HB⟩ := hcut
  cases kq with
  | zero => exact absurd HA.out (by simp [lanyardlaw02_BaseEncodes.j0])
  | succ kj2 =>
   have H := HA.out
   clear HA
   simp only [lanyardlaw02_BaseEncodes.j0] at H
   by_cases c8 : x17_2 = true
   ·subst c8
    have H1 : ((lanyardlaw02_awake.f kj2).bind fun t236 => (some t236)) = some r := by rw [if_pos rfl] at H; exact H
    clear H
    have H := H1
    clear H1
    replace H := Option.bind_eq_some_iff.mp H
    obtain ⟨t236, A90, H⟩ := H
    replace H : (some t236) = some r := H
    have A9 := Aside0.mk A90
    clear A90
    obtain rfl := Option.some.inj H
    go_wp2_with (first | ((with_reducible refine gate_callee (f := 8) rfl ?_); refine goesA (some 18) Tryd.func8 #[] rfl ?_; (with_reducible refine (lanyardlaw02_awake.calls kj2  t236 _ ?sideU A9.out).mono ?_); (case sideU => first | exact HU.out | exact Uni.up HU (Bu HB) | exact Uni.below HU.out (by assumption)); rintro e w10 ⟨rfl, hb⟩; refine ⟨_, rfl, ?_⟩; have n0_ := Bs HB hb; clear HB; revert n0_; intro HB; (try clear hb); (try clear hb2); (try clear hk); (try clear hi)))
    go_ret
    exact ⟨rfl_, Bu HB⟩
   ·replace c8 := Bool.eq_false_iff.mpr c8
    subst c8
    have H1 : ((base_Encode.f l0).bind fun t237 => ((base_Hex.f l0).bind fun t238 => ((lanyardref02_Encode.f kj2 l0).bind fun t239 => (if t237.toList = t239.toList then ((lanyardref02_Hex.f kj2 l0).bind fun t240 => (if t238.toList = t240.toList then ((base_Fold.f t237 a1).bind fun t241 => ((lanyardref02_Fold.f kj2 t237 a1).bind fun t242 => (lanyardlaw02_BaseEncodes.j1 kj2 l0 a1 t237 t238 (t241.toList != t242.toList)))) else (lanyardlaw02_BaseEncodes.j1 kj2 l0 a1 t237 t238 true))) else (lanyardlaw02_BaseEncodes.j1 kj2 l0 a1 t237 t238 true))))) = some r := by rw [if_neg (show ¬ (false = true) by decide)] at H; exact H
    clear H
    have H := H1
    clear H1
    replace H := Option.bind_eq_some_iff.mp H
    obtain ⟨t237, A110, H⟩ := H
    replace H : ((base_Hex.f l0).bind fun t238 => ((lanyardref02_Encode.f kj2 l0).bind fun t239 => (if t237.toList = t239.toList then ((lanyardref02_Hex.f kj2 l0).bind fun t240 => (if t238.toList = t240.toList then ((base_Fold.f t237 a1).bind fun t241 => ((lanyardref02_Fold.f kj2 t237 a1).bind fun t242 => (lanyardlaw02_BaseEncodes.j1 kj2 l0 a1 t237 t238 (t241.toList != t242.toList)))) else (lanyardlaw02_BaseEncodes.j1 kj2 l0 a1 t237 t238 true))) else (lanyardlaw02_BaseEncodes.j1 kj2 l0 a1 t237 t238 true)))) = some r := H
    have A11 := Aside0.mk A110
    clear A110
    replace H := Option.bind_eq_some_iff.mp H
    obtain ⟨t238, A120, H⟩ := H
    replace H : ((lanyardref02_Encode.f kj2 l0).bind fun t239 => (if t237.toList = t239.toList then ((lanyardref02_Hex.f kj2 l0).bind fun t240 => (if t238.toList = t240.toList then ((base_Fold.f t237 a1).bind fun t241 => ((lanyardref02_Fold.f kj2 t237 a1).bind fun t242 => (lanyardlaw02_BaseEncodes.j1 kj2 l0 a1 t237 t238 (t241.toList != t242.toList)))) else (lanyardlaw02_BaseEncodes.j1 kj2 l0 a1 t237 t238 true))) else (lanyardlaw02_BaseEncodes.j1 kj2 l0 a1 t237 t238 true))) = some r := H
    have A12 := Aside0.mk A120
    clear A120
    have HC13 := Aside0.mk H
    clear H
    go_upto_region 4 with (first | ((with_reducible refine gate_callee (f := 11) rfl ?_); refine goesA (some 20) Tryd.func11 #[.slice A0 l0.length c0] rfl ?_; (with_reducible refine (base_Encode.calls _ _ l0 t237 _ ?side1 ?side2 A11.out).mono ?_); (case side1 => exact Cu (Kd.C_below HR0.out HB.out)); (case side2 => exact HC0.out); rintro e w14 ⟨rfl, hb⟩; refine ⟨_, rfl, ?_⟩; have n0_ := Bs HB hb; clear HB; revert n0_; intro HB; (try clear hb); (try clear hb2); (try clear hk); (try clear hi)) | ((with_reducible refine gate_callee (f := 12) rfl ?_); refine goesA (some 22) Tryd.func12 #[.slice A0 l0.length c0] rfl ?_; (with_reducible refine (base_Hex.calls _ _ l0 t238 _ ?side1 ?side2 A12.out).mono ?_); (case side1 => exact Cu (Kd.C_below HR0.out HB.out)); (case side2 => exact HC0.out); rintro e w15 ⟨rfl, hb⟩; refine ⟨_, rfl, ?_⟩; have n0_ := Bs HB hb; clear HB; revert n0_; intro HB; (try clear hb); (try clear hb2); (try clear hk); (try clear hi)))
    (try simp only [Act.put, List.setIfInBounds_toArray, List.set_cons_zero, List.set_cons_succ])
    go_cut [41] (fun v41 wc => ∃ (kq : Nat) (x41_12 : Bool), v41 = .bool x41_12 ∧ Aside0 (lanyardlaw02_BaseEncodes.j1 kq l0 a1 t237 t238 x41_12 = some r) ∧ Aside0 (kq ≤ kj2) ∧ Aside0 (Below w.heap.size w wc))
    case first =>
     have H := HC13.out
     clear HC13
     replace H := Option.bind_eq_some_iff.mp H
     obtain ⟨t239, A160, H⟩ := H
     replace H : (if t237.toList = t239.toList then ((lanyardref02_Hex.f kj2 l0).bind fun t240 => (if t238.toList = t240.toList then ((base_Fold.f t237 a1).bind fun t241 => ((lanyardref02_Fold.f kj2 t237 a1).bind fun t242 => (lanyardlaw02_BaseEncodes.j1 kj2 l0 a1 t237 t238 (t241.toList != t242.toList)))) else (lanyardlaw02_BaseEncodes.j1 kj2 l0 a1 t237 t238 true))) else (lanyardlaw02_BaseEncodes.j1 kj2 l0 a1 t237 t238 true)) = some r := H
     have A16 := Aside0.mk A160
     clear A160
     by_cases c17 : t237.toList = t239.toList
     ·rw [if_pos c17] at H
      have c17b0 : (t237.toList == t239.toList) = true := beq_iff_eq.mpr c17
      have c17b1 : (t237.toList != t239.toList) = false := bne_eq_false_iff_eq.mpr c17
      clear c17
      (first | rw [c17b0] | (simp only [i64_w, i32_w]; rw [c17b0]) | skip)
      replace H := Option.bind_eq_some_iff.mp H
      obtain ⟨t240, A180, H⟩ := H
      replace H : (if t238.toList = t240.toList then ((base_Fold.f t237 a1).bind fun t241 => ((lanyardref02_Fold.f kj2 t237 a1).bind fun t242 => (lanyardlaw02_BaseEncodes.j1 kj2 l0 a1 t237 t238 (t241.toList != t242.toList)))) else (lanyardlaw02_BaseEncodes.j1 kj2 l0 a1 t237 t238 true)) = some r := H
      have A18 := Aside0.mk A180
      clear A180
      by_cases c19 : t238.toList = t240.toList
      ·rw [if_pos c19] at H
       have c19b0 : (t238.toList == t240.toList) = true := beq_iff_eq.mpr c19
       have c19b1 : (t238.toList != t240.toList) = false := bne_eq_false_iff_eq.mpr c19
       clear c19
       replace H := Option.bind_eq_some_iff.mp H
       obtain ⟨t241, A200, H⟩ := H
       replace H : ((lanyardref02_Fold.f kj2 t237 a1).bind fun t242 => (lanyardlaw02_BaseEncodes.j1 kj2 l0 a1 t237 t238 (t241.toList != t242.toList))) = some r := H
       have A20 := Aside0.mk A200
       clear A200
       replace H := Option.bind_eq_some_iff.mp H
       obtain ⟨t242, A210, H⟩ := H
       replace H : (lanyardlaw02_BaseEncodes.j1 kj2 l0 a1 t237 t238 (t241.toList != t242.toList)) = some r := H
       have A21 := Aside0.mk A210
       clear A210
       have H' := Aside0.mk H
       clear H
       go_wp2_with (first | ((with_reducible refine gate_callee (f := 17) rfl ?_); refine goesA (some 25) Tryd.func17 #[.slice A0 l0.length c0] rfl ?_; (with_reducible refine (lanyardref02_Encode.calls kj2 _ _ l0 t239 _ ?side1 ?side2 A16.out).mono ?_); (case side1 => exact Cu (Kd.C_below HR0.out HB.out)); (case side2 => exact HC0.out); rintro e w22 ⟨rfl, hb⟩; refine ⟨_, rfl, ?_⟩; have n0_ := Bs HB hb; clear HB; revert n0_; intro HB; (try clear hb); (try clear hb2); (try clear hk); (try clear hi)) | (go_at_call 18; (with_reducible refine (lanyardref02_Hex.calls kj2 _ _ l0 t240 _ ?side1 ?side2 A18.out).mono ?_); (case side1 => exact Cu (Kd.C_below HR0.out HB.out)); (case side2 => exact HC0.out); rintro e w23 ⟨rfl, hb⟩; have n0_ := Bs HB hb; clear HB; revert n0_; intro HB; (try clear hb); (try clear hb2); (try clear hk); (try clear hi)) | (go_at_call 13; (with_reducible refine (base_Fold.calls t237 a1 t241 _ A20.out).mono ?_); rintro e w24 ⟨rfl, hb⟩; have n0_ := Bs HB hb; clear HB; revert n0_; intro HB; (try clear hb); (try clear hb2); (try clear hk); (try clear hi)) | (go_at_call 14; (with_reducible refine (lanyardref02_Fold.calls kj2 t237 a1 t242 _ A21.out).mono ?_); rintro e w25 ⟨rfl, hb⟩; have n0_ := Bs HB hb; clear HB; revert n0_; intro HB; (try clear hb); (try clear hb2); (try clear hk); (try clear hi)))
       go_meet
       case rel => exact ⟨_, ((t241.toList != t242.toList)), (by first | rfl | (simp; done) | (simp [*]; done)), H', ⟨by have := HJ2.out; first | omega | exact Nat.le_refl _⟩, ⟨Bu HB⟩⟩
      ·rw [if_neg c19] at H
       have c19b0 : (t238.toList == t240.toList) = false := beq_eq_false_iff_ne.mpr c19
       have c19b1 : (t238.toList != t240.toList) = true := bne_iff_ne.mpr c19
       have H' := Aside0.mk H
       clear H
       go_wp2_with (first | ((with_reducible refine gate_callee (f := 17) rfl ?_); refine goesA (some 25) Tryd.func17 #[.slice A0 l0.length c0] rfl ?_; (with_reducible refine (lanyardref02_Encode.calls kj2 _ _ l0 t239 _ ?side1 ?side2 A16.out).mono ?_); (case side1 => exact Cu (Kd.C_below HR0.out HB.out)); (case side2 => exact HC0.out); rintro e w26 ⟨rfl, hb⟩; refine ⟨_, rfl, ?_⟩; have n0_ := Bs HB hb; clear HB; revert n0_; intro HB; (try clear hb); (try clear hb2); (try clear hk); (try clear hi)) | (go_at_call 18; (with_reducible refine (lanyardref02_Hex.calls kj2 _ _ l0 t240 _ ?side1 ?side2 A18.out).mono ?_); (case side1 => exact Cu (Kd.C_below HR0.out HB.out)); (case side2 => exact HC0.out); rintro e w27 ⟨rfl, hb⟩; have n0_ := Bs HB hb; clear HB; revert n0_; intro HB; (try clear hb); (try clear hb2); (try clear hk); (try clear hi)))
       go_meet
       case rel => exact ⟨_, (true), (by first | rfl | (simp; done) | (simp [*]; done)), H', ⟨by have := HJ2.out; first | omega | exact Nat.le_refl _⟩, ⟨Bu HB⟩⟩
     ·rw [if_neg c17] at H
      have c17b0 : (t237.toList == t239.toList) = false := beq_eq_false_iff_ne.mpr c17
      have c17b1 : (t237.toList != t239.toList) = true := bne_iff_ne.mpr c17
      (first | rw [c17b0] | (simp only [i64_w, i32_w]; rw [c17b0]) | skip)
      have H' := Aside0.mk H
      clear H
      go_wp2_with (first | ((with_reducible refine gate_callee (f := 17) rfl ?_); refine goesA (some 25) Tryd.func17 #[.slice A0 l0.length c0] rfl ?_; (with_reducible refine (lanyardref02_Encode.calls kj2 _ _ l0 t239 _ ?side1 ?side2 A16.out).mono ?_); (case side1 => exact Cu (Kd.C_below HR0.out HB.out)); (case side2 => exact HC0.out); rintro e w28 ⟨rfl, hb⟩; refine ⟨_, rfl, ?_⟩; have n0_ := Bs HB hb; clear HB; revert n0_; intro HB; (try clear hb); (try clear hb2); (try clear hk); (try clear hi)))
      go_meet
      case rel => exact ⟨_, (true), (by first | rfl | (simp; done) | (simp [*]; done)), H', ⟨by have := HJ2.out; first | omega | exact Nat.le_refl _⟩, ⟨Bu HB⟩⟩
    case rest =>
     clear HC13
     try clear c1
     try clear p2
     try clear c5
     try clear c7
     try clear c8
     try clear c11
     try clear c12
     try clear c17
     try clear c17b0
     try clear c17b1
     try clear c19
     try clear c19b0
     try clear c19b1
     try clear p2
     obtain ⟨kq, x41_12, rfl, HA, HJ12, HB⟩ := hcut
     cases kq with
     | zero => exact absurd HA.out (by simp [lanyardlaw02_BaseEncodes.j1])
     | succ kj12 =>
      have H := HA.out
      clear HA
      simp only [lanyardlaw02_BaseEncodes.j1] at H
      by_cases c29 : x41_12 = true
      ·subst c29
       have H1 : (some false) = some r := by rw [if_pos rfl] at H; exact H
       clear H
       have H := H1
       clear H1
       exact absurd (Option.some.inj H) (by rw [HR_.out]; decide)
      ·replace c29 := Bool.eq_false_iff.mpr c29
       subst c29
       have H1 : ((base_Fold.f t237 a1).bind fun t243 => ((base_Decode.f kj12 t243).bind fun bt244 => ((base_Unhex.f kj12 t238).bind fun bt248 => (if bt244.2 = 0 then (if (strOfNums bt244.1).toList = (strOfNums l0).toList then (if bt248.2 = 0 then (some ((strOfNums bt248.1).toList == (strOfNums l0).toList)) else (some false)) else (some false)) else (some false))))) = some r := by rw [if_neg (show ¬ (false = true) by decide)] at H; exact H
       clear H
       have H := H1
       clear H1
       replace H := Option.bind_eq_some_iff.mp H
       obtain ⟨t243, A300, H⟩ := H
       replace H : ((base_Decode.f kj12 t243).bind fun bt244 => ((base_Unhex.f kj12 t238).bind fun bt248 => (if bt244.2 = 0 then (if (strOfNums bt244.1).toList = (strOfNums l0).toList then (if bt248.2 = 0 then (some ((strOfNums bt248.1).toList == (strOfNums l0).toList)) else (some false)) else (some false)) else (some false)))) = some r := H
       have A30 := Aside0.mk A300
       clear A300
       replace H := Option.bind_eq_some_iff.mp H
       obtain ⟨⟨t244, t245⟩, A310, H⟩ := H
       replace H : ((base_Unhex.f kj12 t238).bind fun bt248 => (if t245 = 0 then (if (strOfNums t244).toList = (strOfNums l0).toList then (if bt248.2 = 0 then (some ((strOfNums bt248.1).toList == (strOfNums l0).toList)) else (some false)) else (some false)) else (some false))) = some r := H
       have A31 := Aside0.mk A310
       clear A310
       replace H := Option.bind_eq_some_iff.mp H
       obtain ⟨⟨t248, t249⟩, A320, H⟩ := H
       replace H : (if t245 = 0 then (if (strOfNums t244).toList = (strOfNums l0).toList then (if t249 = 0 then (some ((strOfNums t248).toList == (strOfNums l0).toList)) else (some false)) else (some false)) else (some false)) = some r := H
       have A32 := Aside0.mk A320
       clear A320
       by_cases c33 : t245 = 0
       ·rw [if_pos c33] at H
        have c33b0 : (t245 == 0) = true := beq_iff_eq.mpr c33
        have c33b1 : (t245 != 0) = false := bne_eq_false_iff_eq.mpr c33
        clear c33
        by_cases c34 : (strOfNums t244).toList = (strOfNums l0).toList
        ·rw [if_pos c34] at H
         have c34b0 : ((strOfNums t244).toList == (strOfNums l0).toList) = true := beq_iff_eq.mpr c34
         have c34b1 : ((strOfNums t244).toList != (strOfNums l0).toList) = false := bne_eq_false_iff_eq.mpr c34
         clear c34
         by_cases c35 : t249 = 0
         ·rw [if_pos c35] at H
          have c35b0 : (t249 == 0) = true := beq_iff_eq.mpr c35
          have c35b1 : (t249 != 0) = false := bne_eq_false_iff_eq.mpr c35
          clear c35
          obtain rfl := Option.some.inj H
          go_wp2_with (first | ((with_reducible refine gate_callee (f := 13) rfl ?_); refine goesA (some 45) Tryd.func13 #[.string t237, .int .i64 a1] rfl ?_; (with_reducible refine (base_Fold.calls t237 a1 t243 _ A30.out).mono ?_); rintro e w36 ⟨rfl, hb⟩; refine ⟨_, rfl, ?_⟩; have n0_ := Bs HB hb; clear HB; revert n0_; intro HB; (try clear hb); (try clear hb2); (try clear hk); (try clear hi)) | ((with_reducible refine gate_callee (f := 9) rfl ?_); refine goesA (some 46) Tryd.func9 #[.string t243] rfl ?_; (with_reducible refine (base_Decode.calls kj12 t243 t244 t245 _ ?sideU A31.out).mono ?_); (case sideU => first | exact HU.out | exact Uni.up HU (Bu HB) | exact Uni.below HU.out (by assumption)); rintro e w37 ⟨v246, rfl, ho0, hb⟩; refine ⟨_, rfl, ?_⟩; have n0_ := Aside0.mk (Kd.R_lower ho0 (Bz HB)); have n1_ := Bs HB hb; clear HB; revert n0_ n1_; intro HO247 HB; (try clear hb); (try clear hb2); (try clear hk); (try clear hi); (try clear ho0)) | ((with_reducible refine gate_callee (f := 15) rfl ?_); refine goesA (some 51) Tryd.func15 #[.string t238] rfl ?_; (with_reducible refine (base_Unhex.calls kj12 t238 t248 t249 _ A32.out).mono ?_); rintro e w38 ⟨v250, rfl, ho0, hb⟩; refine ⟨_, rfl, ?_⟩; have n0_ := Re HO247 (Kd.R_base ho0) hb; have n1_ := Aside0.mk (Kd.R_lower (Kd.R_new' ho0 (Kd.R_lt (Ru HO247))) (Bz HB)); have n2_ := Bs HB hb; clear HO247 HB; revert n0_ n1_ n2_; intro HO247 HO251 HB; (try clear hb); (try clear hb2); (try clear hk); (try clear hi); (try clear ho0); have hcv39 := own_string (P := Tryd.prog) Tryd.underlying23 Tryd.underlying5 Tryd.underlying9 (Kd.own_of_R HO247.out); have hcv40 := fun n_ : Nat => own_string (P := Tryd.prog) Tryd.underlying23 Tryd.underlying5 Tryd.underlying9 (Kd.own_of_R (Kd.R_drewN HO247.out n_)); have hcv41 := Kd.C_string (P := Tryd.prog) (A := A0) (c := c0) Tryd.underlying23 Tryd.underlying5 Tryd.underlying9 (Kd.C_below HR0.out HB.out); have hcv42 := fun n_ : Nat => Kd.C_string (P := Tryd.prog) (A := A0) (c := c0) Tryd.underlying23 Tryd.underlying5 Tryd.underlying9 (Kd.C_drewN (Kd.C_below HR0.out HB.out) n_); have hcv45 := own_string (P := Tryd.prog) Tryd.underlying23 Tryd.underlying5 Tryd.underlying9 (Kd.own_of_R HO251.out); have hcv46 := fun n_ : Nat => own_string (P := Tryd.prog) Tryd.underlying23 Tryd.underlying5 Tryd.underlying9 (Kd.own_of_R (Kd.R_drewN HO251.out n_)); have hcv47 := Kd.C_string (P := Tryd.prog) (A := A0) (c := c0) Tryd.underlying23 Tryd.underlying5 Tryd.underlying9 (Kd.C_below HR0.out HB.out); have hcv48 := fun n_ : Nat => Kd.C_string (P := Tryd.prog) (A := A0) (c := c0) Tryd.underlying23 Tryd.underlying5 Tryd.underlying9 (Kd.C_drewN (Kd.C_below HR0.out HB.out) n_)))
          go_ret
          exact ⟨rfl_, Bu HB⟩
         ·rw [if_neg c35] at H
          have c35b0 : (t249 == 0) = false := beq_eq_false_iff_ne.mpr c35
          have c35b1 : (t249 != 0) = true := bne_iff_ne.mpr c35
          exact absurd (Option.some.inj H) (by rw [HR_.out]; decide)
        ·rw [if_neg c34] at H
         have c34b0 : ((strOfNums t244).toList == (strOfNums l0).toList) = false := beq_eq_false_iff_ne.mpr c34
         have c34b1 : ((strOfNums t244).toList != (strOfNums l0).toList) = true := bne_iff_ne.mpr c34
         exact absurd (Option.some.inj H) (by rw [HR_.out]; decide)
       ·rw [if_neg c33] at H
        have c33b0 : (t245 == 0) = false := beq_eq_false_iff_ne.mpr c33
        have c33b1 : (t245 != 0) = true := bne_iff_ne.mpr c33
        exact absurd (Option.some.inj H) (by rw [HR_.out]; decide)
/-- THE ONE PURE STATEMENT of lanyardlaw02_BaseEncodes: yours. -/
def lanyardlaw02_BaseEncodes.Pure : Prop := ∀ (l0 : List Int) (a1 : Int), l0.length ≤ maxLen → l0.length * 1 ≤ 140737488351232 → (∀ x ∈ l0, (Lit.int .u8 x).wf = true) → (Lit.int .i64 a1).wf = true → ∃ k, lanyardlaw02_BaseEncodes.f k l0 a1 = some true
theorem lanyardlaw02_BaseEncodes.walk (P : lanyardlaw02_BaseEncodes.Pure) (a0 : Option Addr) (len0 cap0 : Nat) (z0 : List Int) (a1 : Int) (w : World) (w0 : (a0 = none ∧ len0 = 0 ∧ cap0 = 0 ∧ z0 = []) ∨ ∃ x, a0 = some x ∧ len0 ≤ cap0 ∧ cap0 ≤ maxLen ∧ z0.length = cap0 ∧ (∀ i, i < z0.length → w.cell? (x.add i) = some (.int .u8 (z0.getD i 0))) ∧ ∀ n ∈ z0, (Lit.int .u8 n).wf = true) (y0 : len0 * 1 ≤ 140737488351232) (w1 : (Lit.int .i64 a1).wf = true) (hU : Uni w) :
  Calls Tryd.prog 7 #[.slice a0 len0 cap0, .int .i64 a1] w fun e w' => e = .returned (.bool true) ∧ Below w.heap.size w w' := by
 obtain ⟨l0, rfl, hr0, hm0, hw0, hc0⟩ := ReadsInt.ofRowC w0
 obtain ⟨k, h⟩ := P l0 a1 hm0 y0 hw0 w1
 refine (lanyardlaw02_BaseEncodes.calls k _ _ l0 a1 true w (Kd.C_of_reads (d := (0 : Int)) (h1 := fun _ => rfl) hr0) hc0 hU h).mono ?_
 rintro e w' ⟨rfl, hd⟩
 exact ⟨rfl, hd⟩

end Go.Proofs.YtfphmpnkfjeceaaDoor.Hp
