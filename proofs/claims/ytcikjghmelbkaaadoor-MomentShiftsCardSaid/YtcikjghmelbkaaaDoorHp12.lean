/- Go functions of this seat as Lean functions, and their contracts: what the Go code computes, for every input. (By hp.py, a program of this repo, over the kit's print.py.) -/
import Derived.Test.YtcikjghmelbkaaaDoorHp0
import Derived.Test.YtcikjghmelbkaaaDoorHp3
import Derived.Test.YtcikjghmelbkaaaDoorHp6
namespace Go.Proofs.YtcikjghmelbkaaaDoor.Hp
open Go.RowKit Go.Proofs.YtcikjghmelbkaaaDoorW.PrintWords Go.Proofs.YtcikjghmelbkaaaDoorW.PrintLast Go.Proofs.YtcikjghmelbkaaaDoorW.PrintMore
attribute [local go_sem] max2_int min2_int max_two min_two max_three min_three max_four min_four   -- for this text's walks alone
set_option linter.unusedVariables false
set_option linter.unusedSimpArgs false

/-! ### lanyardlaw10_MomentShifts: function 6 -/
mutual
def lanyardlaw10_MomentShifts.j0 : Nat → Int → Int → Int → Bool → Option (Bool)
 | 0, _, _, _, _ => none
 | k + 1, x0, x1, x2, x25 => if x25 = true then ((lanyardlaw10_awake.f k).bind fun t239 => (some t239)) else ((moment_Print.f k x0).bind fun bt240 => (if bt240.2 = 0 then (lanyardlaw10_MomentShifts.j1 k x0 x2 (Int.tmod (wrap64 ((Int.tmod x1 841) + 841)) 841) bt240.1 (decide ((bt240.1.size : Int) < 20))) else (lanyardlaw10_MomentShifts.j1 k x0 x2 (Int.tmod (wrap64 ((Int.tmod x1 841) + 841)) 841) bt240.1 true)))
def lanyardlaw10_MomentShifts.j1 : Nat → Int → Int → Int → ByteArray → Bool → Option (Bool)
 | 0, _, _, _, _, _ => none
 | k + 1, x0, x2, x7, x8, x42 => if x42 = true then (some false) else ((some (([(wrap64 (48 + (wrap64 (Int.tdiv (wrap64 (Int.tdiv x7 60)) 10)))) % 256, (wrap64 (48 + (Int.tmod (wrap64 (Int.tdiv x7 60)) 10))) % 256, 58, (wrap64 (48 + (wrap64 (Int.tdiv (Int.tmod x7 60) 10)))) % 256, (wrap64 (48 + (Int.tmod x7 10))) % 256] : List Int) : List Int)).bind fun y242 => (if 0 ≤ (wrap64 ((x8.size : Int) - 1)) then (if (wrap64 ((x8.size : Int) - 1)) ≤ (x8.size : Int) then (if (x8.extract 0 ((wrap64 ((x8.size : Int) - 1)) : Int).toNat).size + 1 ≤ 9223372036854775807 then (if ((x8.extract 0 ((wrap64 ((x8.size : Int) - 1)) : Int).toNat) ++ (⟨#[43]⟩ : ByteArray)).size + (strOfNums y242).size ≤ 9223372036854775807 then ((moment_Parse.f k (((x8.extract 0 ((wrap64 ((x8.size : Int) - 1)) : Int).toNat) ++ (⟨#[43]⟩ : ByteArray)) ++ (strOfNums y242))).bind fun bt245 => (if ((x8.extract 0 ((wrap64 ((x8.size : Int) - 1)) : Int).toNat) ++ (⟨#[45]⟩ : ByteArray)).size + (strOfNums y242).size ≤ 9223372036854775807 then ((moment_Parse.f k (((x8.extract 0 ((wrap64 ((x8.size : Int) - 1)) : Int).toNat) ++ (⟨#[45]⟩ : ByteArray)) ++ (strOfNums y242))).bind fun bt247 => ((lanyardref10_Is.f (wrap64 (x0 - (wrap64 (60000 * x7))))).bind fun t249 => ((lanyardref10_Is.f (wrap64 (x0 + (wrap64 (60000 * x7))))).bind fun t250 => (if t249 = true then (if bt245.2 = 0 then (if bt245.1 = (wrap64 (x0 - (wrap64 (60000 * x7)))) then (if t250 = true then (if bt247.2 = 0 then (if bt247.1 = (wrap64 (x0 + (wrap64 (60000 * x7)))) then (lanyardlaw10_MomentShifts.j2 k x0 x2 x8 false) else (lanyardlaw10_MomentShifts.j2 k x0 x2 x8 true)) else (lanyardlaw10_MomentShifts.j2 k x0 x2 x8 true)) else (lanyardlaw10_MomentShifts.j2 k x0 x2 x8 (bt247.2 != 21))) else (lanyardlaw10_MomentShifts.j2 k x0 x2 x8 true)) else (lanyardlaw10_MomentShifts.j2 k x0 x2 x8 true)) else (if bt245.2 = 21 then (if t250 = true then (if bt247.2 = 0 then (if bt247.1 = (wrap64 (x0 + (wrap64 (60000 * x7)))) then (lanyardlaw10_MomentShifts.j2 k x0 x2 x8 false) else (lanyardlaw10_MomentShifts.j2 k x0 x2 x8 true)) else (lanyardlaw10_MomentShifts.j2 k x0 x2 x8 true)) else (lanyardlaw10_MomentShifts.j2 k x0 x2 x8 (bt247.2 != 21))) else (lanyardlaw10_MomentShifts.j2 k x0 x2 x8 true)))))) else (none))) else (none)) else (none)) else (none)) else (none)))
def lanyardlaw10_MomentShifts.j2 : Nat → Int → Int → ByteArray → Bool → Option (Bool)
 | 0, _, _, _, _ => none
 | k + 1, x0, x2, x8, x142 => if x142 = true then (some false) else (if (x8.size : Int) = 24 then (if 0 ≤ 23 then (if 23 ≤ (x8.size : Int) then ((some (([(48 + (Int.tmod x2 10)) % 256] : List Int) : List Int)).bind fun y251 => (if (x8.extract 0 23).size + (strOfNums y251).size ≤ 9223372036854775807 then (if ((x8.extract 0 23) ++ (strOfNums y251)).size + 1 ≤ 9223372036854775807 then ((moment_Parse.f k (((x8.extract 0 23) ++ (strOfNums y251)) ++ (⟨#[90]⟩ : ByteArray))).bind fun bt254 => (if bt254.2 = 0 then (some (bt254.1 == x0)) else (some false))) else (none)) else (none))) else (none)) else (none)) else (some true))
end
def lanyardlaw10_MomentShifts.f (k : Nat) (a0 : Int) (a1 : Int) (a2 : Int) : Option (Bool) := (lanyardlaw10_awake.f k).bind fun t237 => (if t237 = true then ((lanyardref10_Is.f a0).bind fun t238 => (lanyardlaw10_MomentShifts.j0 k a0 a1 a2 (!t238))) else (lanyardlaw10_MomentShifts.j0 k a0 a1 a2 true))
theorem lanyardlaw10_MomentShifts.mono_l : ∀ k, (∀ y0 y1 y2 y3, LeO (lanyardlaw10_MomentShifts.j0 k y0 y1 y2 y3) (lanyardlaw10_MomentShifts.j0 (k + 1) y0 y1 y2 y3)) ∧ (∀ y0 y1 y2 y3 y4, LeO (lanyardlaw10_MomentShifts.j1 k y0 y1 y2 y3 y4) (lanyardlaw10_MomentShifts.j1 (k + 1) y0 y1 y2 y3 y4)) ∧ (∀ y0 y1 y2 y3, LeO (lanyardlaw10_MomentShifts.j2 k y0 y1 y2 y3) (lanyardlaw10_MomentShifts.j2 (k + 1) y0 y1 y2 y3))
 | 0 => ⟨fun _ _ _ _ r h => by simp [lanyardlaw10_MomentShifts.j0] at h, fun _ _ _ _ _ r h => by simp [lanyardlaw10_MomentShifts.j1] at h, fun _ _ _ _ r h => by simp [lanyardlaw10_MomentShifts.j2] at h⟩
 | k + 1 => by
  obtain ⟨ih0, ih1, ih2⟩ := lanyardlaw10_MomentShifts.mono_l k
  refine ⟨?_, ?_, ?_⟩
  ·intro y0 y1 y2 y3
   unfold lanyardlaw10_MomentShifts.j0
   repeat' first
   | (with_reducible exact ih0 _ _ _ _)
   | (with_reducible exact ih1 _ _ _ _ _)
   | (with_reducible exact ih2 _ _ _ _)
   | (with_reducible exact lanyardlaw10_awake.mono _)
   | (with_reducible exact moment_Parse.mono _ _)
   | (with_reducible exact moment_Print.mono _ _)
   | (with_reducible exact LeO.refl _)
   | (with_reducible exact LeO.none _)
   | (with_reducible refine LeO.ite ?_ ?_)
   | (with_reducible refine LeO.bind ?_ (fun _ => ?_))
   | exact ih0 _ _ _ _
   | exact ih1 _ _ _ _ _
   | exact ih2 _ _ _ _
   | exact lanyardlaw10_awake.mono _
   | exact moment_Parse.mono _ _
   | exact moment_Print.mono _ _
   | exact LeO.none _
   | refine LeO.ite ?_ ?_
   | refine LeO.bind ?_ (fun _ => ?_)
  ·intro y0 y1 y2 y3 y4
   unfold lanyardlaw10_MomentShifts.j1
   repeat' first
   | (with_reducible exact ih0 _ _ _ _)
   | (with_reducible exact ih1 _ _ _ _ _)
   | (with_reducible exact ih2 _ _ _ _)
   | (with_reducible exact lanyardlaw10_awake.mono _)
   | (with_reducible exact moment_Parse.mono _ _)
   | (with_reducible exact moment_Print.mono _ _)
   | (with_reducible exact LeO.refl _)
   | (with_reducible exact LeO.none _)
   | (with_reducible refine LeO.ite ?_ ?_)
   | (with_reducible refine LeO.bind ?_ (fun _ => ?_))
   | exact ih0 _ _ _ _
   | exact ih1 _ _ _ _ _
   | exact ih2 _ _ _ _
   | exact lanyardlaw10_awake.mono _
   | exact moment_Parse.mono _ _
   | exact moment_Print.mono _ _
   | exact LeO.none _
   | refine LeO.ite ?_ ?_
   | refine LeO.bind ?_ (fun _ => ?_)
  ·intro y0 y1 y2 y3
   unfold lanyardlaw10_MomentShifts.j2
   repeat' first
   | (with_reducible exact ih0 _ _ _ _)
   | (with_reducible exact ih1 _ _ _ _ _)
   | (with_reducible exact ih2 _ _ _ _)
   | (with_reducible exact lanyardlaw10_awake.mono _)
   | (with_reducible exact moment_Parse.mono _ _)
   | (with_reducible exact moment_Print.mono _ _)
   | (with_reducible exact LeO.refl _)
   | (with_reducible exact LeO.none _)
   | (with_reducible refine LeO.ite ?_ ?_)
   | (with_reducible refine LeO.bind ?_ (fun _ => ?_))
   | exact ih0 _ _ _ _
   | exact ih1 _ _ _ _ _
   | exact ih2 _ _ _ _
   | exact lanyardlaw10_awake.mono _
   | exact moment_Parse.mono _ _
   | exact moment_Print.mono _ _
   | exact LeO.none _
   | refine LeO.ite ?_ ?_
   | refine LeO.bind ?_ (fun _ => ?_)
theorem lanyardlaw10_MomentShifts.mono : ∀ a0 a1 a2 k, LeO (lanyardlaw10_MomentShifts.f k a0 a1 a2) (lanyardlaw10_MomentShifts.f (k + 1) a0 a1 a2) := by
 intro a0 a1 a2 k
 obtain ⟨ih0, ih1, ih2⟩ := lanyardlaw10_MomentShifts.mono_l k
 unfold lanyardlaw10_MomentShifts.f
 repeat' first
   | (with_reducible exact ih0 _ _ _ _)
   | (with_reducible exact ih1 _ _ _ _ _)
   | (with_reducible exact ih2 _ _ _ _)
   | (with_reducible exact lanyardlaw10_awake.mono _)
   | (with_reducible exact moment_Parse.mono _ _)
   | (with_reducible exact moment_Print.mono _ _)
   | (with_reducible exact LeO.refl _)
   | (with_reducible exact LeO.none _)
   | (with_reducible refine LeO.ite ?_ ?_)
   | (with_reducible refine LeO.bind ?_ (fun _ => ?_))
   | exact ih0 _ _ _ _
   | exact ih1 _ _ _ _ _
   | exact ih2 _ _ _ _
   | exact lanyardlaw10_awake.mono _
   | exact moment_Parse.mono _ _
   | exact moment_Print.mono _ _
   | exact LeO.none _
   | refine LeO.ite ?_ ?_
   | refine LeO.bind ?_ (fun _ => ?_)
def lanyardlaw10_MomentShifts.T15 : Bool × List (List Nat × List Nat) := (true, [([], []), ([0], [0]), ([], []), ([2], [2]), ([3], [3]), ([4], [4]), ([5], [5]), ([1, 6], [1, 6]), ([7], [7]), ([8], [8]), ([9], [9]), ([10], [10]), ([10], [10]), ([11, 9, 0, 1, 2, 3, 4, 5, 6, 7, 8, 9, 10, 11], [11]), ([12, 13, 0, 1, 2, 3, 4, 5, 6, 7, 8, 9, 10, 11, 12, 13], [12])])
def lanyardlaw10_MomentShifts.B15 : List Nat := [0, 1, 0, 4, 12, 28, 60, 127, 255, 511, 1023, 2047, 2047, 4095, 16383]
theorem lanyardlaw10_MomentShifts.tab15 : rtab .any (opsOf Tryd.f6 15) = lanyardlaw10_MomentShifts.T15 := by kernel_rfl
theorem lanyardlaw10_MomentShifts.bits15 : waitsOk lanyardlaw10_MomentShifts.T15.2 lanyardlaw10_MomentShifts.B15 = true := by kernel_rfl
set_option maxHeartbeats 8000000 in
set_option maxRecDepth 100000 in
theorem lanyardlaw10_MomentShifts.calls (k : Nat) (a0 : Int) (a1 : Int) (a2 : Int) (r : Bool) (w : World) (hU : Uni w) (h : lanyardlaw10_MomentShifts.f k a0 a1 a2 = some r) (hr_ : r = true := by rfl) :
  Calls Tryd.prog 6 #[.int .i64 a0, .int .i64 a1, .int .u8 a2] w fun e w' => e = .returned (.bool r) ∧ Below w.heap.size w w' := by
 have HU := Aside0.mk hU
 clear hU
 have HR_ := Aside0.mk hr_
 clear hr_
 have HB := Aside0.mk (Below.refl w.heap.size w)
 have H : ((lanyardlaw10_awake.f k).bind fun t237 => (if t237 = true then ((lanyardref10_Is.f a0).bind fun t238 => (lanyardlaw10_MomentShifts.j0 k a0 a1 a2 (!t238))) else (lanyardlaw10_MomentShifts.j0 k a0 a1 a2 true))) = some r := h
 clear h
 have HC4 := Aside0.mk H
 clear H
 go_enter Tryd.func6, Tryd.ntmps6
 go_upto_region 1 with (fail)
 go_cut [25] (fun v25 wc => ∃ (kq : Nat) (x25_3 : Bool), v25 = .bool x25_3 ∧ Aside0 (lanyardlaw10_MomentShifts.j0 kq a0 a1 a2 x25_3 = some r) ∧ Aside0 (kq ≤ k) ∧ Aside0 (Below w.heap.size w wc))
 case first =>
  have H := HC4.out
  clear HC4
  replace H := Option.bind_eq_some_iff.mp H
  obtain ⟨t237, A50, H⟩ := H
  replace H : (if t237 = true then ((lanyardref10_Is.f a0).bind fun t238 => (lanyardlaw10_MomentShifts.j0 k a0 a1 a2 (!t238))) else (lanyardlaw10_MomentShifts.j0 k a0 a1 a2 true)) = some r := H
  have A5 := Aside0.mk A50
  clear A50
  by_cases c6 : t237 = true
  ·subst c6
   have H1 : ((lanyardref10_Is.f a0).bind fun t238 => (lanyardlaw10_MomentShifts.j0 k a0 a1 a2 (!t238))) = some r := by rw [if_pos rfl] at H; exact H
   clear H
   have H := H1
   clear H1
   replace H := Option.bind_eq_some_iff.mp H
   obtain ⟨t238, A70, H⟩ := H
   replace H : (lanyardlaw10_MomentShifts.j0 k a0 a1 a2 (!t238)) = some r := H
   have A7 := Aside0.mk A70
   clear A70
   have H' := Aside0.mk H
   clear H
   go_wp2_with (first | ((with_reducible refine gate_callee (f := 8) rfl ?_); refine goesA (some 19) Tryd.func8 #[] rfl ?_; (with_reducible refine (lanyardlaw10_awake.calls k  true _ ?sideU A5.out).mono ?_); (case sideU => first | exact HU.out | exact Uni.up HU (Bu HB) | exact Uni.below HU.out (by assumption)); rintro e w8 ⟨rfl, hb⟩; refine ⟨_, rfl, ?_⟩; have n0_ := Bs HB hb; clear HB; revert n0_; intro HB; (try clear hb); (try clear hb2); (try clear hk); (try clear hi)) | (go_at_call 11; (with_reducible refine (lanyardref10_Is.calls a0 t238 _ A7.out).mono ?_); rintro e w' ⟨rfl, ⟨nd, rfl⟩⟩))
   go_meet
   case rel => exact ⟨_, (!t238), (by first | rfl | (simp; done) | (simp [*]; done)), H', ⟨by first | omega | exact Nat.le_refl _⟩, ⟨Bu HB⟩⟩
  ·replace c6 := Bool.eq_false_iff.mpr c6
   subst c6
   have H1 : (lanyardlaw10_MomentShifts.j0 k a0 a1 a2 true) = some r := by rw [if_neg (show ¬ (false = true) by decide)] at H; exact H
   clear H
   have H := H1
   clear H1
   have H' := Aside0.mk H
   clear H
   go_wp2_with (first | ((with_reducible refine gate_callee (f := 8) rfl ?_); refine goesA (some 19) Tryd.func8 #[] rfl ?_; (with_reducible refine (lanyardlaw10_awake.calls k  false _ ?sideU A5.out).mono ?_); (case sideU => first | exact HU.out | exact Uni.up HU (Bu HB) | exact Uni.below HU.out (by assumption)); rintro e w9 ⟨rfl, hb⟩; refine ⟨_, rfl, ?_⟩; have n0_ := Bs HB hb; clear HB; revert n0_; intro HB; (try clear hb); (try clear hb2); (try clear hk); (try clear hi)))
   go_meet
   case rel => exact ⟨_, (true), (by first | rfl | (simp; done) | (simp [*]; done)), H', ⟨by first | omega | exact Nat.le_refl _⟩, ⟨Bu HB⟩⟩
 case rest =>
  clear HC4
  try clear p2
  try clear c6
  try clear c8
  obtain ⟨kq, x25_3, rfl, HA, HJ3, HB⟩ := hcut
  cases kq with
  | zero => exact absurd HA.out (by simp [lanyardlaw10_MomentShifts.j0])
  | succ kj3 =>
   have H := HA.out
   clear HA
   simp only [lanyardlaw10_MomentShifts.j0] at H
   by_cases c10 : x25_3 = true
   ·subst c10
    have H1 : ((lanyardlaw10_awake.f kj3).bind fun t239 => (some t239)) = some r := by rw [if_pos rfl] at H; exact H
    clear H
    have H := H1
    clear H1
    replace H := Option.bind_eq_some_iff.mp H
    obtain ⟨t239, A110, H⟩ := H
    replace H : (some t239) = some r := H
    have A11 := Aside0.mk A110
    clear A110
    obtain rfl := Option.some.inj H
    go_wp2_with (first | ((with_reducible refine gate_callee (f := 8) rfl ?_); refine goesA (some 26) Tryd.func8 #[] rfl ?_; (with_reducible refine (lanyardlaw10_awake.calls kj3  t239 _ ?sideU A11.out).mono ?_); (case sideU => first | exact HU.out | exact Uni.up HU (Bu HB) | exact Uni.below HU.out (by assumption)); rintro e w12 ⟨rfl, hb⟩; refine ⟨_, rfl, ?_⟩; have n0_ := Bs HB hb; clear HB; revert n0_; intro HB; (try clear hb); (try clear hb2); (try clear hk); (try clear hi)))
    go_ret
    exact ⟨rfl_, Bu HB⟩
   ·replace c10 := Bool.eq_false_iff.mpr c10
    subst c10
    have H1 : ((moment_Print.f kj3 a0).bind fun bt240 => (if bt240.2 = 0 then (lanyardlaw10_MomentShifts.j1 kj3 a0 a2 (Int.tmod (wrap64 ((Int.tmod a1 841) + 841)) 841) bt240.1 (decide ((bt240.1.size : Int) < 20))) else (lanyardlaw10_MomentShifts.j1 kj3 a0 a2 (Int.tmod (wrap64 ((Int.tmod a1 841) + 841)) 841) bt240.1 true))) = some r := by rw [if_neg (show ¬ (false = true) by decide)] at H; exact H
    clear H
    have H := H1
    clear H1
    replace H := Option.bind_eq_some_iff.mp H
    obtain ⟨⟨t240, t241⟩, A130, H⟩ := H
    replace H : (if t241 = 0 then (lanyardlaw10_MomentShifts.j1 kj3 a0 a2 (Int.tmod (wrap64 ((Int.tmod a1 841) + 841)) 841) t240 (decide ((t240.size : Int) < 20))) else (lanyardlaw10_MomentShifts.j1 kj3 a0 a2 (Int.tmod (wrap64 ((Int.tmod a1 841) + 841)) 841) t240 true)) = some r := H
    have A13 := Aside0.mk A130
    clear A130
    have HC14 := Aside0.mk H
    clear H
    go_upto_region 5 with (first | ((with_reducible refine gate_callee (f := 9) rfl ?_); refine goesA (some 33) Tryd.func9 #[.int .i64 a0] rfl ?_; (with_reducible refine (moment_Print.calls kj3 a0 t240 t241 _ A13.out).mono ?_); rintro e w15 ⟨rfl, hb⟩; refine ⟨_, rfl, ?_⟩; have n0_ := Bs HB hb; clear HB; revert n0_; intro HB; (try clear hb); (try clear hb2); (try clear hk); (try clear hi)))
    (try simp only [Act.put, List.setIfInBounds_toArray, List.set_cons_zero, List.set_cons_succ])
    go_cut [42] (fun v42 wc => ∃ (kq : Nat) (x42_13 : Bool), v42 = .bool x42_13 ∧ Aside0 (lanyardlaw10_MomentShifts.j1 kq a0 a2 (Int.tmod (wrap64 ((Int.tmod a1 841) + 841)) 841) t240 x42_13 = some r) ∧ Aside0 (kq ≤ kj3) ∧ Aside0 (Below w.heap.size w wc))
    case first =>
     have H := HC14.out
     clear HC14
     by_cases c16 : t241 = 0
     ·rw [if_pos c16] at H
      have c16b0 : (t241 == 0) = true := beq_iff_eq.mpr c16
      have c16b1 : (t241 != 0) = false := bne_eq_false_iff_eq.mpr c16
      clear c16
      (first | rw [c16b0] | (simp only [i64_w, i32_w]; rw [c16b0]) | skip)
      have H' := Aside0.mk H
      clear H
      go_wp2
      go_meet
      case rel => exact ⟨_, (decide ((t240.size : Int) < 20)), (by first | rfl | (simp; done) | (simp [*]; done)), H', ⟨by have := HJ3.out; first | omega | exact Nat.le_refl _⟩, ⟨Bu HB⟩⟩
     ·rw [if_neg c16] at H
      have c16b0 : (t241 == 0) = false := beq_eq_false_iff_ne.mpr c16
      have c16b1 : (t241 != 0) = true := bne_iff_ne.mpr c16
      (first | rw [c16b0] | (simp only [i64_w, i32_w]; rw [c16b0]) | skip)
      have H' := Aside0.mk H
      clear H
      go_wp2
      go_meet
      case rel => exact ⟨_, (true), (by first | rfl | (simp; done) | (simp [*]; done)), H', ⟨by have := HJ3.out; first | omega | exact Nat.le_refl _⟩, ⟨Bu HB⟩⟩
    case rest =>
     clear HC14
     try clear c1
     try clear p2
     try clear c6
     try clear p6
     try clear c8
     try clear c9
     try clear c10
     try clear c16
     try clear c16b0
     try clear c16b1
     try clear p2
     obtain ⟨kq, x42_13, rfl, HA, HJ13, HB⟩ := hcut
     cases kq with
     | zero => exact absurd HA.out (by simp [lanyardlaw10_MomentShifts.j1])
     | succ kj13 =>
      have H := HA.out
      clear HA
      simp only [lanyardlaw10_MomentShifts.j1] at H
      by_cases c17 : x42_13 = true
      ·subst c17
       have H1 : (some false) = some r := by rw [if_pos rfl] at H; exact H
       clear H
       have H := H1
       clear H1
       exact absurd (Option.some.inj H) (by rw [HR_.out]; decide)
      ·replace c17 := Bool.eq_false_iff.mpr c17
       subst c17
       have H1 : ((some (([(wrap64 (48 + (wrap64 (Int.tdiv (wrap64 (Int.tdiv (Int.tmod (wrap64 ((Int.tmod a1 841) + 841)) 841) 60)) 10)))) % 256, (wrap64 (48 + (Int.tmod (wrap64 (Int.tdiv (Int.tmod (wrap64 ((Int.tmod a1 841) + 841)) 841) 60)) 10))) % 256, 58, (wrap64 (48 + (wrap64 (Int.tdiv (Int.tmod (Int.tmod (wrap64 ((Int.tmod a1 841) + 841)) 841) 60) 10)))) % 256, (wrap64 (48 + (Int.tmod (Int.tmod (wrap64 ((Int.tmod a1 841) + 841)) 841) 10))) % 256] : List Int) : List Int)).bind fun y242 => (if 0 ≤ (wrap64 ((t240.size : Int) - 1)) then (if (wrap64 ((t240.size : Int) - 1)) ≤ (t240.size : Int) then (if (t240.extract 0 ((wrap64 ((t240.size : Int) - 1)) : Int).toNat).size + 1 ≤ 9223372036854775807 then (if ((t240.extract 0 ((wrap64 ((t240.size : Int) - 1)) : Int).toNat) ++ (⟨#[43]⟩ : ByteArray)).size + (strOfNums y242).size ≤ 9223372036854775807 then ((moment_Parse.f kj13 (((t240.extract 0 ((wrap64 ((t240.size : Int) - 1)) : Int).toNat) ++ (⟨#[43]⟩ : ByteArray)) ++ (strOfNums y242))).bind fun bt245 => (if ((t240.extract 0 ((wrap64 ((t240.size : Int) - 1)) : Int).toNat) ++ (⟨#[45]⟩ : ByteArray)).size + (strOfNums y242).size ≤ 9223372036854775807 then ((moment_Parse.f kj13 (((t240.extract 0 ((wrap64 ((t240.size : Int) - 1)) : Int).toNat) ++ (⟨#[45]⟩ : ByteArray)) ++ (strOfNums y242))).bind fun bt247 => ((lanyardref10_Is.f (wrap64 (a0 - (wrap64 (60000 * (Int.tmod (wrap64 ((Int.tmod a1 841) + 841)) 841)))))).bind fun t249 => ((lanyardref10_Is.f (wrap64 (a0 + (wrap64 (60000 * (Int.tmod (wrap64 ((Int.tmod a1 841) + 841)) 841)))))).bind fun t250 => (if t249 = true then (if bt245.2 = 0 then (if bt245.1 = (wrap64 (a0 - (wrap64 (60000 * (Int.tmod (wrap64 ((Int.tmod a1 841) + 841)) 841))))) then (if t250 = true then (if bt247.2 = 0 then (if bt247.1 = (wrap64 (a0 + (wrap64 (60000 * (Int.tmod (wrap64 ((Int.tmod a1 841) + 841)) 841))))) then (lanyardlaw10_MomentShifts.j2 kj13 a0 a2 t240 false) else (lanyardlaw10_MomentShifts.j2 kj13 a0 a2 t240 true)) else (lanyardlaw10_MomentShifts.j2 kj13 a0 a2 t240 true)) else (lanyardlaw10_MomentShifts.j2 kj13 a0 a2 t240 (bt247.2 != 21))) else (lanyardlaw10_MomentShifts.j2 kj13 a0 a2 t240 true)) else (lanyardlaw10_MomentShifts.j2 kj13 a0 a2 t240 true)) else (if bt245.2 = 21 then (if t250 = true then (if bt247.2 = 0 then (if bt247.1 = (wrap64 (a0 + (wrap64 (60000 * (Int.tmod (wrap64 ((Int.tmod a1 841) + 841)) 841))))) then (lanyardlaw10_MomentShifts.j2 kj13 a0 a2 t240 false) else (lanyardlaw10_MomentShifts.j2 kj13 a0 a2 t240 true)) else (lanyardlaw10_MomentShifts.j2 kj13 a0 a2 t240 true)) else (lanyardlaw10_MomentShifts.j2 kj13 a0 a2 t240 (bt247.2 != 21))) else (lanyardlaw10_MomentShifts.j2 kj13 a0 a2 t240 true)))))) else (none))) else (none)) else (none)) else (none)) else (none))) = some r := by rw [if_neg (show ¬ (false = true) by decide)] at H; exact H
       clear H
       have H := H1
       clear H1
       obtain ⟨y242, hy242⟩ : ∃ y_ : List Int, y_ = (([(wrap64 (48 + (wrap64 (Int.tdiv (wrap64 (Int.tdiv (Int.tmod (wrap64 ((Int.tmod a1 841) + 841)) 841) 60)) 10)))) % 256, (wrap64 (48 + (Int.tmod (wrap64 (Int.tdiv (Int.tmod (wrap64 ((Int.tmod a1 841) + 841)) 841) 60)) 10))) % 256, 58, (wrap64 (48 + (wrap64 (Int.tdiv (Int.tmod (Int.tmod (wrap64 ((Int.tmod a1 841) + 841)) 841) 60) 10)))) % 256, (wrap64 (48 + (Int.tmod (Int.tmod (wrap64 ((Int.tmod a1 841) + 841)) 841) 10))) % 256] : List Int)) := ⟨_, rfl⟩
       replace H : (if 0 ≤ (wrap64 ((t240.size : Int) - 1)) then (if (wrap64 ((t240.size : Int) - 1)) ≤ (t240.size : Int) then (if (t240.extract 0 ((wrap64 ((t240.size : Int) - 1)) : Int).toNat).size + 1 ≤ 9223372036854775807 then (if ((t240.extract 0 ((wrap64 ((t240.size : Int) - 1)) : Int).toNat) ++ (⟨#[43]⟩ : ByteArray)).size + (strOfNums y242).size ≤ 9223372036854775807 then ((moment_Parse.f kj13 (((t240.extract 0 ((wrap64 ((t240.size : Int) - 1)) : Int).toNat) ++ (⟨#[43]⟩ : ByteArray)) ++ (strOfNums y242))).bind fun bt245 => (if ((t240.extract 0 ((wrap64 ((t240.size : Int) - 1)) : Int).toNat) ++ (⟨#[45]⟩ : ByteArray)).size + (strOfNums y242).size ≤ 9223372036854775807 then ((moment_Parse.f kj13 (((t240.extract 0 ((wrap64 ((t240.size : Int) - 1)) : Int).toNat) ++ (⟨#[45]⟩ : ByteArray)) ++ (strOfNums y242))).bind fun bt247 => ((lanyardref10_Is.f (wrap64 (a0 - (wrap64 (60000 * (Int.tmod (wrap64 ((Int.tmod a1 841) + 841)) 841)))))).bind fun t249 => ((lanyardref10_Is.f (wrap64 (a0 + (wrap64 (60000 * (Int.tmod (wrap64 ((Int.tmod a1 841) + 841)) 841)))))).bind fun t250 => (if t249 = true then (if bt245.2 = 0 then (if bt245.1 = (wrap64 (a0 - (wrap64 (60000 * (Int.tmod (wrap64 ((Int.tmod a1 841) + 841)) 841))))) then (if t250 = true then (if bt247.2 = 0 then (if bt247.1 = (wrap64 (a0 + (wrap64 (60000 * (Int.tmod (wrap64 ((Int.tmod a1 841) + 841)) 841))))) then (lanyardlaw10_MomentShifts.j2 kj13 a0 a2 t240 false) else (lanyardlaw10_MomentShifts.j2 kj13 a0 a2 t240 true)) else (lanyardlaw10_MomentShifts.j2 kj13 a0 a2 t240 true)) else (lanyardlaw10_MomentShifts.j2 kj13 a0 a2 t240 (bt247.2 != 21))) else (lanyardlaw10_MomentShifts.j2 kj13 a0 a2 t240 true)) else (lanyardlaw10_MomentShifts.j2 kj13 a0 a2 t240 true)) else (if bt245.2 = 21 then (if t250 = true then (if bt247.2 = 0 then (if bt247.1 = (wrap64 (a0 + (wrap64 (60000 * (Int.tmod (wrap64 ((Int.tmod a1 841) + 841)) 841))))) then (lanyardlaw10_MomentShifts.j2 kj13 a0 a2 t240 false) else (lanyardlaw10_MomentShifts.j2 kj13 a0 a2 t240 true)) else (lanyardlaw10_MomentShifts.j2 kj13 a0 a2 t240 true)) else (lanyardlaw10_MomentShifts.j2 kj13 a0 a2 t240 (bt247.2 != 21))) else (lanyardlaw10_MomentShifts.j2 kj13 a0 a2 t240 true)))))) else (none))) else (none)) else (none)) else (none)) else (none)) = some r := by first | (rw [hy242]; with_reducible exact H) | (have H2_ := (Option.bind_some _ _).symm.trans H; rw [hy242]; with_reducible exact H2_) | (have H2_ := (Option.bind_some _ _).symm.trans H; with_reducible exact H2_) | with_reducible exact H | (rw [hy242]; exact H) | exact H
       have Ny242 := Aside0.mk hy242
       clear hy242
       obtain ⟨ji18, hji18⟩ : ∃ j_ : Int, (wrap64 ((t240.size : Int) - 1)) = j_ := ⟨_, rfl⟩
       replace H : (if 0 ≤ (ji18) then (if (ji18) ≤ (t240.size : Int) then (if (t240.extract 0 ((ji18) : Int).toNat).size + 1 ≤ 9223372036854775807 then (if ((t240.extract 0 ((ji18) : Int).toNat) ++ (⟨#[43]⟩ : ByteArray)).size + (strOfNums y242).size ≤ 9223372036854775807 then ((moment_Parse.f kj13 (((t240.extract 0 ((ji18) : Int).toNat) ++ (⟨#[43]⟩ : ByteArray)) ++ (strOfNums y242))).bind fun bt245 => (if ((t240.extract 0 ((ji18) : Int).toNat) ++ (⟨#[45]⟩ : ByteArray)).size + (strOfNums y242).size ≤ 9223372036854775807 then ((moment_Parse.f kj13 (((t240.extract 0 ((ji18) : Int).toNat) ++ (⟨#[45]⟩ : ByteArray)) ++ (strOfNums y242))).bind fun bt247 => ((lanyardref10_Is.f (wrap64 (a0 - (wrap64 (60000 * (Int.tmod (wrap64 ((Int.tmod a1 841) + 841)) 841)))))).bind fun t249 => ((lanyardref10_Is.f (wrap64 (a0 + (wrap64 (60000 * (Int.tmod (wrap64 ((Int.tmod a1 841) + 841)) 841)))))).bind fun t250 => (if t249 = true then (if bt245.2 = 0 then (if bt245.1 = (wrap64 (a0 - (wrap64 (60000 * (Int.tmod (wrap64 ((Int.tmod a1 841) + 841)) 841))))) then (if t250 = true then (if bt247.2 = 0 then (if bt247.1 = (wrap64 (a0 + (wrap64 (60000 * (Int.tmod (wrap64 ((Int.tmod a1 841) + 841)) 841))))) then (lanyardlaw10_MomentShifts.j2 kj13 a0 a2 t240 false) else (lanyardlaw10_MomentShifts.j2 kj13 a0 a2 t240 true)) else (lanyardlaw10_MomentShifts.j2 kj13 a0 a2 t240 true)) else (lanyardlaw10_MomentShifts.j2 kj13 a0 a2 t240 (bt247.2 != 21))) else (lanyardlaw10_MomentShifts.j2 kj13 a0 a2 t240 true)) else (lanyardlaw10_MomentShifts.j2 kj13 a0 a2 t240 true)) else (if bt245.2 = 21 then (if t250 = true then (if bt247.2 = 0 then (if bt247.1 = (wrap64 (a0 + (wrap64 (60000 * (Int.tmod (wrap64 ((Int.tmod a1 841) + 841)) 841))))) then (lanyardlaw10_MomentShifts.j2 kj13 a0 a2 t240 false) else (lanyardlaw10_MomentShifts.j2 kj13 a0 a2 t240 true)) else (lanyardlaw10_MomentShifts.j2 kj13 a0 a2 t240 true)) else (lanyardlaw10_MomentShifts.j2 kj13 a0 a2 t240 (bt247.2 != 21))) else (lanyardlaw10_MomentShifts.j2 kj13 a0 a2 t240 true)))))) else (none))) else (none)) else (none)) else (none)) else (none)) = some r := by first | (rw [hji18] at H; exact H) | (simp only [hji18] at H ⊢; exact H)
       have hji18w : (IntKind.i64.wrap ((t240.size : Int) - 1)) = ji18 := (i64_w _).trans hji18
       by_cases c19 : 0 ≤ (ji18)
       ·rw [if_pos c19] at H
        have c19b0 := eq_true c19
        have c19b1 : decide (0 ≤ (ji18)) = true := decide_eq_true c19
        clear c19
        by_cases c20 : (ji18) ≤ (t240.size : Int)
        ·rw [if_pos c20] at H
         have c20b0 := eq_true c20
         have c20b1 : decide ((ji18) ≤ (t240.size : Int)) = true := decide_eq_true c20
         clear c20
         by_cases c21 : (t240.extract 0 ((ji18) : Int).toNat).size + 1 ≤ 9223372036854775807
         ·rw [if_pos c21] at H
          have c21b0 := eq_true c21
          have c21b1 : decide ((t240.extract 0 ((ji18) : Int).toNat).size + 1 ≤ 9223372036854775807) = true := decide_eq_true c21
          try have c21b2 : (9223372036854775807 < (t240.extract 0 ((ji18) : Int).toNat).size + 1) = False := eq_false (Nat.not_lt.2 c21)
          try have c21b2y : (9223372036854775807 < (ji18).toNat + 1) = False := by have h_ := c21b2; rw [show (t240.extract 0 ((ji18) : Int).toNat).size = (ji18).toNat from (by have g1_ : (0 : Int) ≤ ji18 := of_decide_eq_true (by first | (with_reducible assumption) | assumption); have g2_ : ji18 ≤ (t240.size : Int) := of_decide_eq_true (by first | (with_reducible assumption) | assumption); rw [ByteArray.size_extract]; omega)] at h_; exact h_
          by_cases c22 : ((t240.extract 0 ((ji18) : Int).toNat) ++ (⟨#[43]⟩ : ByteArray)).size + (strOfNums y242).size ≤ 9223372036854775807
          ·rw [if_pos c22] at H
           have c22b0 := eq_true c22
           have c22b1 : decide (((t240.extract 0 ((ji18) : Int).toNat) ++ (⟨#[43]⟩ : ByteArray)).size + (strOfNums y242).size ≤ 9223372036854775807) = true := decide_eq_true c22
           try have c22b2 : (9223372036854775807 < ((t240.extract 0 ((ji18) : Int).toNat) ++ (⟨#[43]⟩ : ByteArray)).size + (strOfNums y242).size) = False := eq_false (Nat.not_lt.2 c22)
           try have c22b2z : (9223372036854775807 < (t240.extract 0 ((ji18) : Int).toNat).size + 1 + (strOfNums y242).size) = False := by have h_ := c22b2; simp only [ByteArray.size_append] at h_; exact h_
           try have c22b2zy : (9223372036854775807 < (ji18).toNat + 1 + (strOfNums y242).size) = False := by have h_ := c22b2z; rw [show (t240.extract 0 ((ji18) : Int).toNat).size = (ji18).toNat from (by have g1_ : (0 : Int) ≤ ji18 := of_decide_eq_true (by first | (with_reducible assumption) | assumption); have g2_ : ji18 ≤ (t240.size : Int) := of_decide_eq_true (by first | (with_reducible assumption) | assumption); rw [ByteArray.size_extract]; omega)] at h_; exact h_
           replace H := Option.bind_eq_some_iff.mp H
           obtain ⟨⟨t245, t246⟩, A230, H⟩ := H
           replace H : (if ((t240.extract 0 ((ji18) : Int).toNat) ++ (⟨#[45]⟩ : ByteArray)).size + (strOfNums y242).size ≤ 9223372036854775807 then ((moment_Parse.f kj13 (((t240.extract 0 ((ji18) : Int).toNat) ++ (⟨#[45]⟩ : ByteArray)) ++ (strOfNums y242))).bind fun bt247 => ((lanyardref10_Is.f (wrap64 (a0 - (wrap64 (60000 * (Int.tmod (wrap64 ((Int.tmod a1 841) + 841)) 841)))))).bind fun t249 => ((lanyardref10_Is.f (wrap64 (a0 + (wrap64 (60000 * (Int.tmod (wrap64 ((Int.tmod a1 841) + 841)) 841)))))).bind fun t250 => (if t249 = true then (if t246 = 0 then (if t245 = (wrap64 (a0 - (wrap64 (60000 * (Int.tmod (wrap64 ((Int.tmod a1 841) + 841)) 841))))) then (if t250 = true then (if bt247.2 = 0 then (if bt247.1 = (wrap64 (a0 + (wrap64 (60000 * (Int.tmod (wrap64 ((Int.tmod a1 841) + 841)) 841))))) then (lanyardlaw10_MomentShifts.j2 kj13 a0 a2 t240 false) else (lanyardlaw10_MomentShifts.j2 kj13 a0 a2 t240 true)) else (lanyardlaw10_MomentShifts.j2 kj13 a0 a2 t240 true)) else (lanyardlaw10_MomentShifts.j2 kj13 a0 a2 t240 (bt247.2 != 21))) else (lanyardlaw10_MomentShifts.j2 kj13 a0 a2 t240 true)) else (lanyardlaw10_MomentShifts.j2 kj13 a0 a2 t240 true)) else (if t246 = 21 then (if t250 = true then (if bt247.2 = 0 then (if bt247.1 = (wrap64 (a0 + (wrap64 (60000 * (Int.tmod (wrap64 ((Int.tmod a1 841) + 841)) 841))))) then (lanyardlaw10_MomentShifts.j2 kj13 a0 a2 t240 false) else (lanyardlaw10_MomentShifts.j2 kj13 a0 a2 t240 true)) else (lanyardlaw10_MomentShifts.j2 kj13 a0 a2 t240 true)) else (lanyardlaw10_MomentShifts.j2 kj13 a0 a2 t240 (bt247.2 != 21))) else (lanyardlaw10_MomentShifts.j2 kj13 a0 a2 t240 true)))))) else (none)) = some r := H
           have A23 := Aside0.mk A230
           clear A230
           have c24b0 := eq_true (of_decide_eq_true (by first | (with_reducible assumption) | assumption) : 0 ≤ (ji18))
           have c25b0 := eq_true (of_decide_eq_true (by first | (with_reducible assumption) | assumption) : (ji18) ≤ (t240.size : Int))
           by_cases c26 : ((t240.extract 0 ((ji18) : Int).toNat) ++ (⟨#[45]⟩ : ByteArray)).size + (strOfNums y242).size ≤ 9223372036854775807
           ·rw [if_pos c26] at H
            have c26b0 := eq_true c26
            have c26b1 : decide (((t240.extract 0 ((ji18) : Int).toNat) ++ (⟨#[45]⟩ : ByteArray)).size + (strOfNums y242).size ≤ 9223372036854775807) = true := decide_eq_true c26
            try have c26b2 : (9223372036854775807 < ((t240.extract 0 ((ji18) : Int).toNat) ++ (⟨#[45]⟩ : ByteArray)).size + (strOfNums y242).size) = False := eq_false (Nat.not_lt.2 c26)
            try have c26b2z : (9223372036854775807 < (t240.extract 0 ((ji18) : Int).toNat).size + 1 + (strOfNums y242).size) = False := by have h_ := c26b2; simp only [ByteArray.size_append] at h_; exact h_
            try have c26b2zy : (9223372036854775807 < (ji18).toNat + 1 + (strOfNums y242).size) = False := by have h_ := c26b2z; rw [show (t240.extract 0 ((ji18) : Int).toNat).size = (ji18).toNat from (by have g1_ : (0 : Int) ≤ ji18 := of_decide_eq_true (by first | (with_reducible assumption) | assumption); have g2_ : ji18 ≤ (t240.size : Int) := of_decide_eq_true (by first | (with_reducible assumption) | assumption); rw [ByteArray.size_extract]; omega)] at h_; exact h_
            replace H := Option.bind_eq_some_iff.mp H
            obtain ⟨⟨t247, t248⟩, A270, H⟩ := H
            replace H : ((lanyardref10_Is.f (wrap64 (a0 - (wrap64 (60000 * (Int.tmod (wrap64 ((Int.tmod a1 841) + 841)) 841)))))).bind fun t249 => ((lanyardref10_Is.f (wrap64 (a0 + (wrap64 (60000 * (Int.tmod (wrap64 ((Int.tmod a1 841) + 841)) 841)))))).bind fun t250 => (if t249 = true then (if t246 = 0 then (if t245 = (wrap64 (a0 - (wrap64 (60000 * (Int.tmod (wrap64 ((Int.tmod a1 841) + 841)) 841))))) then (if t250 = true then (if t248 = 0 then (if t247 = (wrap64 (a0 + (wrap64 (60000 * (Int.tmod (wrap64 ((Int.tmod a1 841) + 841)) 841))))) then (lanyardlaw10_MomentShifts.j2 kj13 a0 a2 t240 false) else (lanyardlaw10_MomentShifts.j2 kj13 a0 a2 t240 true)) else (lanyardlaw10_MomentShifts.j2 kj13 a0 a2 t240 true)) else (lanyardlaw10_MomentShifts.j2 kj13 a0 a2 t240 (t248 != 21))) else (lanyardlaw10_MomentShifts.j2 kj13 a0 a2 t240 true)) else (lanyardlaw10_MomentShifts.j2 kj13 a0 a2 t240 true)) else (if t246 = 21 then (if t250 = true then (if t248 = 0 then (if t247 = (wrap64 (a0 + (wrap64 (60000 * (Int.tmod (wrap64 ((Int.tmod a1 841) + 841)) 841))))) then (lanyardlaw10_MomentShifts.j2 kj13 a0 a2 t240 false) else (lanyardlaw10_MomentShifts.j2 kj13 a0 a2 t240 true)) else (lanyardlaw10_MomentShifts.j2 kj13 a0 a2 t240 true)) else (lanyardlaw10_MomentShifts.j2 kj13 a0 a2 t240 (t248 != 21))) else (lanyardlaw10_MomentShifts.j2 kj13 a0 a2 t240 true))))) = some r := H
            have A27 := Aside0.mk A270
            clear A270
            replace H := Option.bind_eq_some_iff.mp H
            obtain ⟨t249, A280, H⟩ := H
            replace H : ((lanyardref10_Is.f (wrap64 (a0 + (wrap64 (60000 * (Int.tmod (wrap64 ((Int.tmod a1 841) + 841)) 841)))))).bind fun t250 => (if t249 = true then (if t246 = 0 then (if t245 = (wrap64 (a0 - (wrap64 (60000 * (Int.tmod (wrap64 ((Int.tmod a1 841) + 841)) 841))))) then (if t250 = true then (if t248 = 0 then (if t247 = (wrap64 (a0 + (wrap64 (60000 * (Int.tmod (wrap64 ((Int.tmod a1 841) + 841)) 841))))) then (lanyardlaw10_MomentShifts.j2 kj13 a0 a2 t240 false) else (lanyardlaw10_MomentShifts.j2 kj13 a0 a2 t240 true)) else (lanyardlaw10_MomentShifts.j2 kj13 a0 a2 t240 true)) else (lanyardlaw10_MomentShifts.j2 kj13 a0 a2 t240 (t248 != 21))) else (lanyardlaw10_MomentShifts.j2 kj13 a0 a2 t240 true)) else (lanyardlaw10_MomentShifts.j2 kj13 a0 a2 t240 true)) else (if t246 = 21 then (if t250 = true then (if t248 = 0 then (if t247 = (wrap64 (a0 + (wrap64 (60000 * (Int.tmod (wrap64 ((Int.tmod a1 841) + 841)) 841))))) then (lanyardlaw10_MomentShifts.j2 kj13 a0 a2 t240 false) else (lanyardlaw10_MomentShifts.j2 kj13 a0 a2 t240 true)) else (lanyardlaw10_MomentShifts.j2 kj13 a0 a2 t240 true)) else (lanyardlaw10_MomentShifts.j2 kj13 a0 a2 t240 (t248 != 21))) else (lanyardlaw10_MomentShifts.j2 kj13 a0 a2 t240 true)))) = some r := H
            have A28 := Aside0.mk A280
            clear A280
            replace H := Option.bind_eq_some_iff.mp H
            obtain ⟨t250, A290, H⟩ := H
            replace H : (if t249 = true then (if t246 = 0 then (if t245 = (wrap64 (a0 - (wrap64 (60000 * (Int.tmod (wrap64 ((Int.tmod a1 841) + 841)) 841))))) then (if t250 = true then (if t248 = 0 then (if t247 = (wrap64 (a0 + (wrap64 (60000 * (Int.tmod (wrap64 ((Int.tmod a1 841) + 841)) 841))))) then (lanyardlaw10_MomentShifts.j2 kj13 a0 a2 t240 false) else (lanyardlaw10_MomentShifts.j2 kj13 a0 a2 t240 true)) else (lanyardlaw10_MomentShifts.j2 kj13 a0 a2 t240 true)) else (lanyardlaw10_MomentShifts.j2 kj13 a0 a2 t240 (t248 != 21))) else (lanyardlaw10_MomentShifts.j2 kj13 a0 a2 t240 true)) else (lanyardlaw10_MomentShifts.j2 kj13 a0 a2 t240 true)) else (if t246 = 21 then (if t250 = true then (if t248 = 0 then (if t247 = (wrap64 (a0 + (wrap64 (60000 * (Int.tmod (wrap64 ((Int.tmod a1 841) + 841)) 841))))) then (lanyardlaw10_MomentShifts.j2 kj13 a0 a2 t240 false) else (lanyardlaw10_MomentShifts.j2 kj13 a0 a2 t240 true)) else (lanyardlaw10_MomentShifts.j2 kj13 a0 a2 t240 true)) else (lanyardlaw10_MomentShifts.j2 kj13 a0 a2 t240 (t248 != 21))) else (lanyardlaw10_MomentShifts.j2 kj13 a0 a2 t240 true))) = some r := H
            have A29 := Aside0.mk A290
            clear A290
            have HC30 := Aside0.mk H
            clear H
            go_upto_region 11 with (first | ((with_reducible refine gate_dst (N := 63) rfl ?_); (try (refine gate_guard (by rfl) ?_; dsimp only)); refine Kd.R_lit (Kd.int .u8) _ 5 ?hg (N := 63) ?hd (xs := ([(wrap64 (48 + (wrap64 (Int.tdiv (wrap64 (Int.tdiv (Int.tmod (wrap64 ((Int.tmod a1 841) + 841)) 841) 60)) 10)))) % 256, (wrap64 (48 + (Int.tmod (wrap64 (Int.tdiv (Int.tmod (wrap64 ((Int.tmod a1 841) + 841)) 841) 60)) 10))) % 256, 58, (wrap64 (48 + (wrap64 (Int.tdiv (Int.tmod (Int.tmod (wrap64 ((Int.tmod a1 841) + 841)) 841) 60) 10)))) % 256, (wrap64 (48 + (Int.tmod (Int.tmod (wrap64 ((Int.tmod a1 841) + 841)) 841) 10))) % 256] : List Int)) (inner := [.int .u8 ((wrap64 (48 + (wrap64 (Int.tdiv (wrap64 (Int.tdiv (Int.tmod (wrap64 ((Int.tmod a1 841) + 841)) 841) 60)) 10)))) % 256), .int .u8 ((wrap64 (48 + (Int.tmod (wrap64 (Int.tdiv (Int.tmod (wrap64 ((Int.tmod a1 841) + 841)) 841) 60)) 10))) % 256), .int .u8 58, .int .u8 ((wrap64 (48 + (wrap64 (Int.tdiv (Int.tmod (Int.tmod (wrap64 ((Int.tmod a1 841) + 841)) 841) 60) 10)))) % 256), .int .u8 ((wrap64 (48 + (Int.tmod (Int.tmod (wrap64 ((Int.tmod a1 841) + 841)) 841) 10))) % 256)]) (ok := fun _ => True) (okp := fun _ => True) ?hr ?hp (fun _ hk => hk) trivial (Below.refl _ _) (Nat.le_refl _) (by simp) ?_; (case hd => rfl); (case hg => rfl); (case hr => first | (go_simp; done) | (go_simp; rfl)); (case hp => exact (Reps.one (show Kd.M (Kd.int .u8) _ _ _ ((wrap64 (48 + (wrap64 (Int.tdiv (wrap64 (Int.tdiv (Int.tmod (wrap64 ((Int.tmod a1 841) + 841)) 841) 60)) 10)))) % 256) [.int .u8 ((wrap64 (48 + (wrap64 (Int.tdiv (wrap64 (Int.tdiv (Int.tmod (wrap64 ((Int.tmod a1 841) + 841)) 841) 60)) 10)))) % 256)] from rfl) (Reps.one (show Kd.M (Kd.int .u8) _ _ _ ((wrap64 (48 + (Int.tmod (wrap64 (Int.tdiv (Int.tmod (wrap64 ((Int.tmod a1 841) + 841)) 841) 60)) 10))) % 256) [.int .u8 ((wrap64 (48 + (Int.tmod (wrap64 (Int.tdiv (Int.tmod (wrap64 ((Int.tmod a1 841) + 841)) 841) 60)) 10))) % 256)] from rfl) (Reps.one (show Kd.M (Kd.int .u8) _ _ _ 58 [.int .u8 58] from rfl) (Reps.one (show Kd.M (Kd.int .u8) _ _ _ ((wrap64 (48 + (wrap64 (Int.tdiv (Int.tmod (Int.tmod (wrap64 ((Int.tmod a1 841) + 841)) 841) 60) 10)))) % 256) [.int .u8 ((wrap64 (48 + (wrap64 (Int.tdiv (Int.tmod (Int.tmod (wrap64 ((Int.tmod a1 841) + 841)) 841) 60) 10)))) % 256)] from rfl) (Reps.one (show Kd.M (Kd.int .u8) _ _ _ ((wrap64 (48 + (Int.tmod (Int.tmod (wrap64 ((Int.tmod a1 841) + 841)) 841) 10))) % 256) [.int .u8 ((wrap64 (48 + (Int.tmod (Int.tmod (wrap64 ((Int.tmod a1 841) + 841)) 841) 10))) % 256)] from rfl) (Reps.none _ _))))))); intro v243 w31 ho32 hb hg_ hnew_; clear hg_ hnew_; (first | rw [← Ny242.out] at ho32 | (simp only [Int.reduceToNat] at ho32; rw [← Ny242.out] at ho32)); have n0_ := Aside0.mk (Kd.R_lower ho32 (Bz HB)); have n1_ := Bs HB hb; clear HB; revert n0_ n1_; intro HO244 HB; clear hb ho32; have hcv33 := own_string (P := Tryd.prog) Tryd.underlying39 Tryd.underlying5 Tryd.underlying9 (Kd.own_of_R HO244.out); have hcv34 := fun n_ : Nat => own_string (P := Tryd.prog) Tryd.underlying39 Tryd.underlying5 Tryd.underlying9 (Kd.own_of_R (Kd.R_drewN HO244.out n_))) | ((with_reducible refine gate_callee (f := 13) rfl ?_); refine goesL_ (some 74) rfl rfl Tryd.func13 (by kernel_rfl) rfl #[.string (((t240.extract 0 ((ji18) : Int).toNat) ++ (⟨#[43]⟩ : ByteArray)) ++ (strOfNums y242))] rfl (by (try simp only [List.map_toArray, List.map_cons, List.map_nil]); first | done | (simp only [hji18]; rfl) | rfl | (simp only [List.length_drop, List.length_take]; rfl)) ?_; (with_reducible refine (moment_Parse.calls kj13 (((t240.extract 0 ((ji18) : Int).toNat) ++ (⟨#[43]⟩ : ByteArray)) ++ (strOfNums y242)) t245 t246 _ ?sideU A23.out).mono ?_); (case sideU => first | exact HU.out | exact Uni.up HU (Bu HB) | exact Uni.below HU.out (by assumption)); rintro e w35 ⟨rfl, hb⟩; refine ⟨_, rfl, ?_⟩; have n0_ := Rb HO244 hb; have n1_ := Bs HB hb; clear HO244 HB; revert n0_ n1_; intro HO244 HB; (try clear hb); (try clear hb2); (try clear hk); (try clear hi)) | ((with_reducible refine gate_callee (f := 13) rfl ?_); refine goesL_ (some 86) rfl rfl Tryd.func13 (by kernel_rfl) rfl #[.string (((t240.extract 0 ((ji18) : Int).toNat) ++ (⟨#[45]⟩ : ByteArray)) ++ (strOfNums y242))] rfl (by (try simp only [List.map_toArray, List.map_cons, List.map_nil]); first | done | (simp only [hji18]; rfl) | rfl | (simp only [List.length_drop, List.length_take]; rfl)) ?_; (with_reducible refine (moment_Parse.calls kj13 (((t240.extract 0 ((ji18) : Int).toNat) ++ (⟨#[45]⟩ : ByteArray)) ++ (strOfNums y242)) t247 t248 _ ?sideU A27.out).mono ?_); (case sideU => first | exact HU.out | exact Uni.up HU (Bu HB) | exact Uni.below HU.out (by assumption)); rintro e w36 ⟨rfl, hb⟩; refine ⟨_, rfl, ?_⟩; have n0_ := Rb HO244 hb; have n1_ := Bs HB hb; clear HO244 HB; revert n0_ n1_; intro HO244 HB; (try clear hb); (try clear hb2); (try clear hk); (try clear hi)) | ((with_reducible refine gate_callee (f := 11) rfl ?_); refine goesA (some 93) Tryd.func11 #[.int .i64 (wrap64 (a0 - (wrap64 (60000 * (Int.tmod (wrap64 ((Int.tmod a1 841) + 841)) 841)))))] rfl ?_; (with_reducible refine (lanyardref10_Is.calls (wrap64 (a0 - (wrap64 (60000 * (Int.tmod (wrap64 ((Int.tmod a1 841) + 841)) 841))))) t249 _ A28.out).mono ?_); rintro e w' ⟨rfl, ⟨nd, rfl⟩⟩; refine ⟨_, rfl, ?_⟩) | ((with_reducible refine gate_callee (f := 11) rfl ?_); refine goesA (some 98) Tryd.func11 #[.int .i64 (wrap64 (a0 + (wrap64 (60000 * (Int.tmod (wrap64 ((Int.tmod a1 841) + 841)) 841)))))] rfl ?_; (with_reducible refine (lanyardref10_Is.calls (wrap64 (a0 + (wrap64 (60000 * (Int.tmod (wrap64 ((Int.tmod a1 841) + 841)) 841))))) t250 _ A29.out).mono ?_); rintro e w' ⟨rfl, ⟨nd, rfl⟩⟩; refine ⟨_, rfl, ?_⟩))
            (try simp only [Act.put, List.setIfInBounds_toArray, List.set_cons_zero, List.set_cons_succ])
            go_cut [142] (fun v142 wc => ∃ (kq : Nat) (x142_29 : Bool), v142 = .bool x142_29 ∧ Aside0 (lanyardlaw10_MomentShifts.j2 kq a0 a2 t240 x142_29 = some r) ∧ Aside0 (kq ≤ kj13) ∧ Aside0 (Below w.heap.size w wc))
            case first =>
             have H := HC30.out
             clear HC30
             refine (Classical.em (t249 = true)).elim (fun c37 => ?a49_) (fun c37 => ?b49_)
             case' a49_ =>
              subst c37
              have H1 : (if t246 = 0 then (if t245 = (wrap64 (a0 - (wrap64 (60000 * (Int.tmod (wrap64 ((Int.tmod a1 841) + 841)) 841))))) then (if t250 = true then (if t248 = 0 then (if t247 = (wrap64 (a0 + (wrap64 (60000 * (Int.tmod (wrap64 ((Int.tmod a1 841) + 841)) 841))))) then (lanyardlaw10_MomentShifts.j2 kj13 a0 a2 t240 false) else (lanyardlaw10_MomentShifts.j2 kj13 a0 a2 t240 true)) else (lanyardlaw10_MomentShifts.j2 kj13 a0 a2 t240 true)) else (lanyardlaw10_MomentShifts.j2 kj13 a0 a2 t240 (t248 != 21))) else (lanyardlaw10_MomentShifts.j2 kj13 a0 a2 t240 true)) else (lanyardlaw10_MomentShifts.j2 kj13 a0 a2 t240 true)) = some r := by rw [if_pos rfl] at H; exact H
              clear H
              have H := H1
              clear H1
              refine (Classical.em (t246 = 0)).elim (fun c38 => ?a50_) (fun c38 => ?b50_)
              case' a50_ =>
               rw [if_pos c38] at H
               have c38b0 : (t246 == 0) = true := beq_iff_eq.mpr c38
               have c38b1 : (t246 != 0) = false := bne_eq_false_iff_eq.mpr c38
               clear c38
               (first | rw [c38b0] | (simp only [i64_w, i32_w]; rw [c38b0]) | skip)
               refine (Classical.em (t245 = (wrap64 (a0 - (wrap64 (60000 * (Int.tmod (wrap64 ((Int.tmod a1 841) + 841)) 841))))))).elim (fun c39 => ?a51_) (fun c39 => ?b51_)
               case' a51_ =>
                rw [if_pos c39] at H
                have c39b0 : (t245 == (wrap64 (a0 - (wrap64 (60000 * (Int.tmod (wrap64 ((Int.tmod a1 841) + 841)) 841)))))) = true := beq_iff_eq.mpr c39
                have c39b1 : (t245 != (wrap64 (a0 - (wrap64 (60000 * (Int.tmod (wrap64 ((Int.tmod a1 841) + 841)) 841)))))) = false := bne_eq_false_iff_eq.mpr c39
                clear c39
                refine (Classical.em (t250 = true)).elim (fun c40 => ?a52_) (fun c40 => ?b52_)
                case' a52_ =>
                 subst c40
                 have H1 : (if t248 = 0 then (if t247 = (wrap64 (a0 + (wrap64 (60000 * (Int.tmod (wrap64 ((Int.tmod a1 841) + 841)) 841))))) then (lanyardlaw10_MomentShifts.j2 kj13 a0 a2 t240 false) else (lanyardlaw10_MomentShifts.j2 kj13 a0 a2 t240 true)) else (lanyardlaw10_MomentShifts.j2 kj13 a0 a2 t240 true)) = some r := by rw [if_pos rfl] at H; exact H
                 clear H
                 have H := H1
                 clear H1
                 refine (Classical.em (t248 = 0)).elim (fun c41 => ?a53_) (fun c41 => ?b53_)
                 case' a53_ =>
                  rw [if_pos c41] at H
                  have c41b0 : (t248 == 0) = true := beq_iff_eq.mpr c41
                  have c41b1 : (t248 != 0) = false := bne_eq_false_iff_eq.mpr c41
                  clear c41
                  refine (Classical.em (t247 = (wrap64 (a0 + (wrap64 (60000 * (Int.tmod (wrap64 ((Int.tmod a1 841) + 841)) 841))))))).elim (fun c42 => ?a54_) (fun c42 => ?b54_)
                  case' a54_ =>
                   rw [if_pos c42] at H
                   have c42b0 : (t247 == (wrap64 (a0 + (wrap64 (60000 * (Int.tmod (wrap64 ((Int.tmod a1 841) + 841)) 841)))))) = true := beq_iff_eq.mpr c42
                   have c42b1 : (t247 != (wrap64 (a0 + (wrap64 (60000 * (Int.tmod (wrap64 ((Int.tmod a1 841) + 841)) 841)))))) = false := bne_eq_false_iff_eq.mpr c42
                   clear c42
                   have H' := Aside0.mk H
                   clear H
                  case' b54_ =>
                   rw [if_neg c42] at H
                   have c42b0 : (t247 == (wrap64 (a0 + (wrap64 (60000 * (Int.tmod (wrap64 ((Int.tmod a1 841) + 841)) 841)))))) = false := beq_eq_false_iff_ne.mpr c42
                   have c42b1 : (t247 != (wrap64 (a0 + (wrap64 (60000 * (Int.tmod (wrap64 ((Int.tmod a1 841) + 841)) 841)))))) = true := bne_iff_ne.mpr c42
                   have H' := Aside0.mk H
                   clear H
                 case' b53_ =>
                  rw [if_neg c41] at H
                  have c41b0 : (t248 == 0) = false := beq_eq_false_iff_ne.mpr c41
                  have c41b1 : (t248 != 0) = true := bne_iff_ne.mpr c41
                  have H' := Aside0.mk H
                  clear H
                case' b52_ =>
                 replace c40 := Bool.eq_false_iff.mpr c40
                 subst c40
                 have H1 : (lanyardlaw10_MomentShifts.j2 kj13 a0 a2 t240 (t248 != 21)) = some r := by rw [if_neg (show ¬ (false = true) by decide)] at H; exact H
                 clear H
                 have H := H1
                 clear H1
                 have H' := Aside0.mk H
                 clear H
               case' b51_ =>
                rw [if_neg c39] at H
                have c39b0 : (t245 == (wrap64 (a0 - (wrap64 (60000 * (Int.tmod (wrap64 ((Int.tmod a1 841) + 841)) 841)))))) = false := beq_eq_false_iff_ne.mpr c39
                have c39b1 : (t245 != (wrap64 (a0 - (wrap64 (60000 * (Int.tmod (wrap64 ((Int.tmod a1 841) + 841)) 841)))))) = true := bne_iff_ne.mpr c39
                have H' := Aside0.mk H
                clear H
              case' b50_ =>
               rw [if_neg c38] at H
               have c38b0 : (t246 == 0) = false := beq_eq_false_iff_ne.mpr c38
               have c38b1 : (t246 != 0) = true := bne_iff_ne.mpr c38
               (first | rw [c38b0] | (simp only [i64_w, i32_w]; rw [c38b0]) | skip)
               have H' := Aside0.mk H
               clear H
             case' b49_ =>
              replace c37 := Bool.eq_false_iff.mpr c37
              subst c37
              have H1 : (if t246 = 21 then (if t250 = true then (if t248 = 0 then (if t247 = (wrap64 (a0 + (wrap64 (60000 * (Int.tmod (wrap64 ((Int.tmod a1 841) + 841)) 841))))) then (lanyardlaw10_MomentShifts.j2 kj13 a0 a2 t240 false) else (lanyardlaw10_MomentShifts.j2 kj13 a0 a2 t240 true)) else (lanyardlaw10_MomentShifts.j2 kj13 a0 a2 t240 true)) else (lanyardlaw10_MomentShifts.j2 kj13 a0 a2 t240 (t248 != 21))) else (lanyardlaw10_MomentShifts.j2 kj13 a0 a2 t240 true)) = some r := by rw [if_neg (show ¬ (false = true) by decide)] at H; exact H
              clear H
              have H := H1
              clear H1
              refine (Classical.em (t246 = 21)).elim (fun c43 => ?a55_) (fun c43 => ?b55_)
              case' a55_ =>
               rw [if_pos c43] at H
               have c43b0 : (t246 == 21) = true := beq_iff_eq.mpr c43
               have c43b1 : (t246 != 21) = false := bne_eq_false_iff_eq.mpr c43
               clear c43
               refine (Classical.em (t250 = true)).elim (fun c44 => ?a56_) (fun c44 => ?b56_)
               case' a56_ =>
                subst c44
                have H1 : (if t248 = 0 then (if t247 = (wrap64 (a0 + (wrap64 (60000 * (Int.tmod (wrap64 ((Int.tmod a1 841) + 841)) 841))))) then (lanyardlaw10_MomentShifts.j2 kj13 a0 a2 t240 false) else (lanyardlaw10_MomentShifts.j2 kj13 a0 a2 t240 true)) else (lanyardlaw10_MomentShifts.j2 kj13 a0 a2 t240 true)) = some r := by rw [if_pos rfl] at H; exact H
                clear H
                have H := H1
                clear H1
                refine (Classical.em (t248 = 0)).elim (fun c45 => ?a57_) (fun c45 => ?b57_)
                case' a57_ =>
                 rw [if_pos c45] at H
                 have c45b0 : (t248 == 0) = true := beq_iff_eq.mpr c45
                 have c45b1 : (t248 != 0) = false := bne_eq_false_iff_eq.mpr c45
                 clear c45
                 refine (Classical.em (t247 = (wrap64 (a0 + (wrap64 (60000 * (Int.tmod (wrap64 ((Int.tmod a1 841) + 841)) 841))))))).elim (fun c46 => ?a58_) (fun c46 => ?b58_)
                 case' a58_ =>
                  rw [if_pos c46] at H
                  have c46b0 : (t247 == (wrap64 (a0 + (wrap64 (60000 * (Int.tmod (wrap64 ((Int.tmod a1 841) + 841)) 841)))))) = true := beq_iff_eq.mpr c46
                  have c46b1 : (t247 != (wrap64 (a0 + (wrap64 (60000 * (Int.tmod (wrap64 ((Int.tmod a1 841) + 841)) 841)))))) = false := bne_eq_false_iff_eq.mpr c46
                  clear c46
                  have H' := Aside0.mk H
                  clear H
                 case' b58_ =>
                  rw [if_neg c46] at H
                  have c46b0 : (t247 == (wrap64 (a0 + (wrap64 (60000 * (Int.tmod (wrap64 ((Int.tmod a1 841) + 841)) 841)))))) = false := beq_eq_false_iff_ne.mpr c46
                  have c46b1 : (t247 != (wrap64 (a0 + (wrap64 (60000 * (Int.tmod (wrap64 ((Int.tmod a1 841) + 841)) 841)))))) = true := bne_iff_ne.mpr c46
                  have H' := Aside0.mk H
                  clear H
                case' b57_ =>
                 rw [if_neg c45] at H
                 have c45b0 : (t248 == 0) = false := beq_eq_false_iff_ne.mpr c45
                 have c45b1 : (t248 != 0) = true := bne_iff_ne.mpr c45
                 have H' := Aside0.mk H
                 clear H
               case' b56_ =>
                replace c44 := Bool.eq_false_iff.mpr c44
                subst c44
                have H1 : (lanyardlaw10_MomentShifts.j2 kj13 a0 a2 t240 (t248 != 21)) = some r := by rw [if_neg (show ¬ (false = true) by decide)] at H; exact H
                clear H
                have H := H1
                clear H1
                have H' := Aside0.mk H
                clear H
              case' b55_ =>
               rw [if_neg c43] at H
               have c43b0 : (t246 == 21) = false := beq_eq_false_iff_ne.mpr c43
               have c43b1 : (t246 != 21) = true := bne_iff_ne.mpr c43
               have H' := Aside0.mk H
               clear H
             case a54_ | a58_ =>
              go_wp2
              go_meet
              case rel => exact ⟨_, (false), (by first | rfl | (simp; done) | (simp [*]; done)), H', ⟨by have := HJ3.out; have := HJ13.out; first | omega | exact Nat.le_refl _⟩, ⟨Bu HB⟩⟩
             case b54_ | b53_ | b51_ | b50_ | b58_ | b57_ | b55_ =>
              go_wp2
              go_meet
              case rel => exact ⟨_, (true), (by first | rfl | (simp; done) | (simp [*]; done)), H', ⟨by have := HJ3.out; have := HJ13.out; first | omega | exact Nat.le_refl _⟩, ⟨Bu HB⟩⟩
             case b52_ | b56_ =>
              go_wp2
              go_meet
              case rel => exact ⟨_, ((t248 != 21)), (by first | rfl | (simp; done) | (simp [*]; done)), H', ⟨by have := HJ3.out; have := HJ13.out; first | omega | exact Nat.le_refl _⟩, ⟨Bu HB⟩⟩
            case rest =>
             clear HC30
             try clear c1
             try clear c2
             try clear p2
             try clear c3
             try clear hcv3
             try clear c4
             try clear c6
             try clear p6
             try clear c8
             try clear c9
             try clear c10
             try clear c11
             try clear c13
             try clear c16
             try clear c16b0
             try clear c16b1
             try clear c17
             try clear c19
             try clear c19b0
             try clear c19b1
             try clear c20
             try clear c20b0
             try clear c20b1
             try clear c21
             try clear c21b0
             try clear c21b1
             try clear c21b2
             try clear c22
             try clear c22b0
             try clear c22b1
             try clear c22b2
             try clear c24
             try clear c24b0
             try clear c25
             try clear c25b0
             try clear c26
             try clear c26b0
             try clear c26b1
             try clear c26b2
             try clear hcv33
             try clear hcv34
             try clear c37
             try clear c38
             try clear c38b0
             try clear c38b1
             try clear c39
             try clear c39b0
             try clear c39b1
             try clear c40
             try clear c41
             try clear c41b0
             try clear c41b1
             try clear c42
             try clear c42b0
             try clear c42b1
             try clear c43
             try clear c43b0
             try clear c43b1
             try clear c44
             try clear c45
             try clear c45b0
             try clear c45b1
             try clear c46
             try clear c46b0
             try clear c46b1
             try clear p2
             try clear p6
             obtain ⟨kq, x142_29, rfl, HA, HJ29, HB⟩ := hcut
             cases kq with
             | zero => exact absurd HA.out (by simp [lanyardlaw10_MomentShifts.j2])
             | succ kj29 =>
              have H := HA.out
              clear HA
              simp only [lanyardlaw10_MomentShifts.j2] at H
              by_cases c47 : x142_29 = true
              ·subst c47
               have H1 : (some false) = some r := by rw [if_pos rfl] at H; exact H
               clear H
               have H := H1
               clear H1
               exact absurd (Option.some.inj H) (by rw [HR_.out]; decide)
              ·replace c47 := Bool.eq_false_iff.mpr c47
               subst c47
               have H1 : (if (t240.size : Int) = 24 then (if 0 ≤ 23 then (if 23 ≤ (t240.size : Int) then ((some (([(48 + (Int.tmod a2 10)) % 256] : List Int) : List Int)).bind fun y251 => (if (t240.extract 0 23).size + (strOfNums y251).size ≤ 9223372036854775807 then (if ((t240.extract 0 23) ++ (strOfNums y251)).size + 1 ≤ 9223372036854775807 then ((moment_Parse.f kj29 (((t240.extract 0 23) ++ (strOfNums y251)) ++ (⟨#[90]⟩ : ByteArray))).bind fun bt254 => (if bt254.2 = 0 then (some (bt254.1 == a0)) else (some false))) else (none)) else (none))) else (none)) else (none)) else (some true)) = some r := by rw [if_neg (show ¬ (false = true) by decide)] at H; exact H
               clear H
               have H := H1
               clear H1
               by_cases c48 : (t240.size : Int) = 24
               ·rw [if_pos c48] at H
                have c48b0 : ((t240.size : Int) == 24) = true := beq_iff_eq.mpr c48
                have c48b1 : ((t240.size : Int) != 24) = false := bne_eq_false_iff_eq.mpr c48
                clear c48
                by_cases c49 : 0 ≤ 23
                ·rw [if_pos c49] at H
                 have c49b0 := eq_true c49
                 have c49b1 : decide (0 ≤ 23) = true := decide_eq_true c49
                 clear c49
                 by_cases c50 : 23 ≤ (t240.size : Int)
                 ·rw [if_pos c50] at H
                  have c50b0 := eq_true c50
                  have c50b1 : decide (23 ≤ (t240.size : Int)) = true := decide_eq_true c50
                  clear c50
                  obtain ⟨y251, hy251⟩ : ∃ y_ : List Int, y_ = (([(48 + (Int.tmod a2 10)) % 256] : List Int)) := ⟨_, rfl⟩
                  replace H : (if (t240.extract 0 23).size + (strOfNums y251).size ≤ 9223372036854775807 then (if ((t240.extract 0 23) ++ (strOfNums y251)).size + 1 ≤ 9223372036854775807 then ((moment_Parse.f kj29 (((t240.extract 0 23) ++ (strOfNums y251)) ++ (⟨#[90]⟩ : ByteArray))).bind fun bt254 => (if bt254.2 = 0 then (some (bt254.1 == a0)) else (some false))) else (none)) else (none)) = some r := by first | (rw [hy251]; with_reducible exact H) | (have H2_ := (Option.bind_some _ _).symm.trans H; rw [hy251]; with_reducible exact H2_) | (have H2_ := (Option.bind_some _ _).symm.trans H; with_reducible exact H2_) | with_reducible exact H | (rw [hy251]; exact H) | exact H
                  have Ny251 := Aside0.mk hy251
                  clear hy251
                  by_cases c51 : (t240.extract 0 23).size + (strOfNums y251).size ≤ 9223372036854775807
                  ·rw [if_pos c51] at H
                   have c51b0 := eq_true c51
                   have c51b1 : decide ((t240.extract 0 23).size + (strOfNums y251).size ≤ 9223372036854775807) = true := decide_eq_true c51
                   try have c51b2 : (9223372036854775807 < (t240.extract 0 23).size + (strOfNums y251).size) = False := eq_false (Nat.not_lt.2 c51)
                   try have c51b2y : (9223372036854775807 < min 23 t240.size + (strOfNums y251).size) = False := by have h_ := c51b2; rw [show (t240.extract 0 23).size = min 23 t240.size from (by have g1_ : (0 : Int) ≤ 23 := (by decide); have g2_ : 23 ≤ (t240.size : Int) := of_decide_eq_true (by first | (with_reducible assumption) | assumption); rw [ByteArray.size_extract]; omega)] at h_; exact h_
                   by_cases c52 : ((t240.extract 0 23) ++ (strOfNums y251)).size + 1 ≤ 9223372036854775807
                   ·rw [if_pos c52] at H
                    have c52b0 := eq_true c52
                    have c52b1 : decide (((t240.extract 0 23) ++ (strOfNums y251)).size + 1 ≤ 9223372036854775807) = true := decide_eq_true c52
                    try have c52b2 : (9223372036854775807 < ((t240.extract 0 23) ++ (strOfNums y251)).size + 1) = False := eq_false (Nat.not_lt.2 c52)
                    try have c52b2z : (9223372036854775807 < (t240.extract 0 23).size + (strOfNums y251).size + 1) = False := by have h_ := c52b2; simp only [ByteArray.size_append] at h_; exact h_
                    try have c52b2zy : (9223372036854775807 < min 23 t240.size + (strOfNums y251).size + 1) = False := by have h_ := c52b2z; rw [show (t240.extract 0 23).size = min 23 t240.size from (by have g1_ : (0 : Int) ≤ 23 := (by decide); have g2_ : 23 ≤ (t240.size : Int) := of_decide_eq_true (by first | (with_reducible assumption) | assumption); rw [ByteArray.size_extract]; omega)] at h_; exact h_
                    replace H := Option.bind_eq_some_iff.mp H
                    obtain ⟨⟨t254, t255⟩, A530, H⟩ := H
                    replace H : (if t255 = 0 then (some (t254 == a0)) else (some false)) = some r := H
                    have A53 := Aside0.mk A530
                    clear A530
                    by_cases c54 : t255 = 0
                    ·rw [if_pos c54] at H
                     have c54b0 : (t255 == 0) = true := beq_iff_eq.mpr c54
                     have c54b1 : (t255 != 0) = false := bne_eq_false_iff_eq.mpr c54
                     clear c54
                     obtain rfl := Option.some.inj H
                     try go_wp2
                     have n0_ := Aside0.mk (below_drew1 HB.out)
                     clear HB
                     have HB := n0_
                     clear n0_
                     refine start_ (n := 15) (S := fun w' => True) (ds := []) #[false, false, false, false, false, false, false, false, false, false, false, false, false, false, false] (by kernel_rfl) rfl rfl trivial (fun hHeld => ?_); refine with_tabW lanyardlaw10_MomentShifts.tab15 lanyardlaw10_MomentShifts.bits15 (fun HT_ HW_ => ?_)
                     generalize wc.drew = w55 at HB hHeld ⊢
                     refine pure_ (i := 0) (N := some 147) (v := ?_) (a' := ?_) #[true, false, false, false, false, false, false, false, false, false, false, false, false, false, false] rfl rfl (any_of HT_.out (by kernel_rfl)) (fun _ _ _ h => h) (Or.inl ⟨by rfl, ?_⟩) ?_ ?_
                     rotate_left
                     ·intro w'
                      go_simp
                      with_reducible rfl
                     rotate_left
                     ·simp only [Act.put, List.setIfInBounds_toArray, List.set_cons_zero, List.set_cons_succ, i64_w, i32_w]
                      rfl
                     refine pure_ (i := 1) (N := some 148) (v := ?_) (a' := ?_) #[true, true, false, false, false, false, false, false, false, false, false, false, false, false, false] rfl rfl (any_of HT_.out (by kernel_rfl)) (fun _ _ _ h => h) (Or.inl ⟨by rfl, ?_⟩) ?_ ?_
                     rotate_left
                     ·intro w'
                      go_simp
                      with_reducible rfl
                     rotate_left
                     ·simp only [Act.put, List.setIfInBounds_toArray, List.set_cons_zero, List.set_cons_succ, i64_w, i32_w]
                      rfl
                     refine pure_ (i := 2) (N := some 149) (v := ?_) (a' := ?_) #[true, true, true, false, false, false, false, false, false, false, false, false, false, false, false] rfl rfl (any_of HT_.out (by kernel_rfl)) (fun _ _ _ h => h) (Or.inl ⟨by rfl, ?_⟩) ?_ ?_
                     rotate_left
                     ·intro w'
                      go_simp
                      with_reducible rfl
                     rotate_left
                     ·simp only [Act.put, List.setIfInBounds_toArray, List.set_cons_zero, List.set_cons_succ, i64_w, i32_w]
                      rfl
                     refine pure_ (i := 3) (N := some 150) (v := ?_) (a' := ?_) #[true, true, true, true, false, false, false, false, false, false, false, false, false, false, false] rfl rfl (any_of HT_.out (by kernel_rfl)) (fun _ _ _ h => h) (Or.inl ⟨by rfl, ?_⟩) ?_ ?_
                     rotate_left
                     ·intro w'
                      go_simp
                      with_reducible rfl
                     rotate_left
                     ·simp only [Act.put, List.setIfInBounds_toArray, List.set_cons_zero, List.set_cons_succ, i64_w, i32_w]
                      rfl
                     refine pure_ (i := 4) (N := some 151) (v := ?_) (a' := ?_) #[true, true, true, true, true, false, false, false, false, false, false, false, false, false, false] rfl rfl (any_of HT_.out (by kernel_rfl)) (fun _ _ _ h => h) (Or.inl ⟨by rfl, ?_⟩) ?_ ?_
                     rotate_left
                     ·intro w'
                      go_simp
                      with_reducible rfl
                     rotate_left
                     ·simp only [Act.put, List.setIfInBounds_toArray, List.set_cons_zero, List.set_cons_succ, i64_w, i32_w]
                      rfl
                     refine one_ (i := 5) (N := some 152) #[true, true, true, true, true, true, false, false, false, false, false, false, false, false, false] rfl rfl (one_of HT_.out (by kernel_rfl)) (by decide) (fun K hK => ?_)
                     refine Kd.R_lit_step (Kd.int .u8) _ 5 ?hg (N := 152) ?hd (xs := ([(48 + (Int.tmod a2 10)) % 256] : List Int)) (inner := [.int .u8 ((48 + (Int.tmod a2 10)) % 256)]) (ok := fun _ => True) (okp := fun _ => True) ?hr ?hp (fun _ hk => hk) trivial (Below.refl _ _) (Nat.le_refl _) (by simp) ?_; (case hd => rfl); (case hg => rfl); (case hr => first | (go_simp; done) | (go_simp; rfl)); (case hp => exact (Reps.one (show Kd.M (Kd.int .u8) _ _ _ ((48 + (Int.tmod a2 10)) % 256) [.int .u8 ((48 + (Int.tmod a2 10)) % 256)] from rfl) (Reps.none _ _)))
                     intro v252 w56 ho57 hb hg_ hnew_
                     clear hg_ hnew_
                     (first | rw [← Ny251.out] at ho57 | (simp only [Int.reduceToNat] at ho57; rw [← Ny251.out] at ho57))
                     have n0_ := Aside0.mk (Kd.R_lower ho57 (Bz HB))
                     have n1_ := Bs HB hb
                     clear HB
                     have HO253 := n0_
                     have HB := n1_
                     clear n0_ n1_
                     clear hb ho57
                     refine hK.out _ _ trivial (fun hHeld => ?_)
                     clear hK K
                     refine norm_ (a' := ?_) ?_ ?_
                     rotate_left
                     ·show Act.put _ (some 152) _ = _
                      simp only [Act.put, List.setIfInBounds_toArray, List.set_cons_zero, List.set_cons_succ, i64_w, i32_w]
                      rfl
                     refine one_ (i := 6) (N := some 153) #[true, true, true, true, true, true, true, false, false, false, false, false, false, false, false] rfl rfl (one_of HT_.out (by kernel_rfl)) (by decide) (fun K hK => ?_)
                     have hcv58 := own_string (P := Tryd.prog) Tryd.underlying39 Tryd.underlying5 Tryd.underlying9 (Kd.own_of_R HO253.out)
                     refine value_ (w1 := ?_) (v := ?_) (by rfl) rfl ?_ ?_
                     rotate_left 2
                     ·go_simp
                      constructor
                      ·rfl
                      ·rfl
                     clear hcv58
                     refine hK.out _ _ trivial (fun hHeld => ?_)
                     clear hK K
                     refine norm_ (a' := ?_) ?_ ?_
                     rotate_left
                     ·show Act.put _ (some 153) _ = _
                      simp only [Act.put, List.setIfInBounds_toArray, List.set_cons_zero, List.set_cons_succ, i64_w, i32_w]
                      rfl
                     refine pure_ (i := 7) (N := some 154) (v := ?_) (a' := ?_) #[true, true, true, true, true, true, true, true, false, false, false, false, false, false, false] rfl rfl (any_of HT_.out (by kernel_rfl)) (fun _ _ _ h => h) (Or.inl ⟨by rfl, ?_⟩) ?_ ?_
                     rotate_left
                     ·intro w'
                      go_simp
                      with_reducible rfl
                     rotate_left
                     ·simp only [Act.put, List.setIfInBounds_toArray, List.set_cons_zero, List.set_cons_succ, i64_w, i32_w]
                      rfl
                     refine pure_ (i := 8) (N := some 155) (v := ?_) (a' := ?_) #[true, true, true, true, true, true, true, true, true, false, false, false, false, false, false] rfl rfl (any_of HT_.out (by kernel_rfl)) (fun _ _ _ h => h) (Or.inl ⟨by rfl, ?_⟩) ?_ ?_
                     rotate_left
                     ·intro w'
                      go_simp
                      with_reducible rfl
                     rotate_left
                     ·simp only [Act.put, List.setIfInBounds_toArray, List.set_cons_zero, List.set_cons_succ, i64_w, i32_w]
                      rfl
                     refine one_ (i := 9) (N := some 156) #[true, true, true, true, true, true, true, true, true, true, false, false, false, false, false] rfl rfl (one_of HT_.out (by kernel_rfl)) (by decide) (fun K hK => ?_)
                     refine goes_ Tryd.func13 (by kernel_rfl) rfl #[.string (((t240.extract 0 23) ++ (strOfNums y251)) ++ (⟨#[90]⟩ : ByteArray))] (by rfl) rfl rfl (by (try simp only [List.map_toArray, List.map_cons, List.map_nil]); first | done | rfl | (simp only [List.length_drop, List.length_take]; rfl)) ?_
                     with_reducible refine (moment_Parse.calls kj29 (((t240.extract 0 23) ++ (strOfNums y251)) ++ (⟨#[90]⟩ : ByteArray)) t254 t255 _ ?sideU A53.out).mono ?_
                     (case sideU => first | exact HU.out | exact Uni.up HU (Bu HB) | exact Uni.below HU.out (by assumption))
                     rintro e w59 ⟨rfl, hb⟩
                     refine ⟨_, rfl, ?_⟩
                     have n0_ := Rb HO253 hb
                     have n1_ := Bs HB hb
                     clear HO253
                     clear HB
                     have HO253 := n0_
                     have HB := n1_
                     clear n0_ n1_
                     (try clear hb)
                     (try clear hb2)
                     (try clear hk)
                     (try clear hi)
                     refine hK.out _ _ trivial (fun hHeld => ?_)
                     clear hK K
                     refine norm_ (a' := ?_) ?_ ?_
                     rotate_left
                     ·show Act.put _ (some 156) _ = _
                      simp only [Act.put, List.setIfInBounds_toArray, List.set_cons_zero, List.set_cons_succ, i64_w, i32_w]
                      rfl
                     refine pure_ (i := 10) (N := some 146) (v := ?_) (a' := ?_) #[true, true, true, true, true, true, true, true, true, true, true, false, false, false, false] rfl rfl (any_of HT_.out (by kernel_rfl)) (fun _ _ _ h => h) (Or.inl ⟨by rfl, ?_⟩) ?_ ?_
                     rotate_left
                     ·intro w'
                      go_simp
                      with_reducible rfl
                     rotate_left
                     ·simp only [Act.put, List.setIfInBounds_toArray, List.set_cons_zero, List.set_cons_succ, i64_w, i32_w]
                      rfl
                     refine pure_ (i := 11) (N := some 157) (v := ?_) (a' := ?_) #[true, true, true, true, true, true, true, true, true, true, true, true, false, false, false] rfl rfl (any_of HT_.out (by kernel_rfl)) (fun _ _ _ h => h) (Or.inl ⟨by rfl, ?_⟩) ?_ ?_
                     rotate_left
                     ·intro w'
                      go_simp
                      with_reducible rfl
                     rotate_left
                     ·simp only [Act.put, List.setIfInBounds_toArray, List.set_cons_zero, List.set_cons_succ, i64_w, i32_w]
                      rfl
                     refine pure_ (i := 12) (N := some 158) (v := ?_) (a' := ?_) #[true, true, true, true, true, true, true, true, true, true, true, true, true, false, false] rfl rfl (any_of HT_.out (by kernel_rfl)) (fun _ _ _ h => h) (Or.inl ⟨by rfl, ?_⟩) ?_ ?_
                     rotate_left
                     ·intro w'
                      go_simp
                      with_reducible rfl
                     rotate_left
                     ·simp only [Act.put, List.setIfInBounds_toArray, List.set_cons_zero, List.set_cons_succ, i64_w, i32_w]
                      rfl
                     refine pure_ (i := 13) (N := some 17) (v := ?_) (a' := ?_) #[true, true, true, true, true, true, true, true, true, true, true, true, true, true, false] rfl rfl (any_of HT_.out (by kernel_rfl)) (fun _ _ _ h => h) (Or.inl ⟨by rfl, ?_⟩) ?_ ?_
                     rotate_left
                     ·intro w'
                      go_simp
                      with_reducible rfl
                     rotate_left
                     ·simp only [Act.put, List.setIfInBounds_toArray, List.set_cons_zero, List.set_cons_succ, i64_w, i32_w]
                      rfl
                     refine pure_ (i := 14) (N := some 18) (v := ?_) (a' := ?_) #[true, true, true, true, true, true, true, true, true, true, true, true, true, true, true] rfl rfl (any_of HT_.out (by kernel_rfl)) (fun _ _ _ h => h) (Or.inl ⟨by rfl, ?_⟩) ?_ ?_
                     rotate_left
                     ·intro w'
                      go_simp
                      with_reducible rfl
                     rotate_left
                     ·simp only [Act.put, List.setIfInBounds_toArray, List.set_cons_zero, List.set_cons_succ, i64_w, i32_w]
                      rfl
                     refine done_ (done_of HT_.out (by kernel_rfl)) ?_
                     try go_wp2
                     go_ret
                     exact ⟨by first | rfl | (simp [errW_none, errW_some] <;> rfl) | (simp only [← hji18]; first | rfl | (simp [errW_none, errW_some] <;> rfl)) | (simp [*, errW_none, errW_some] <;> rfl), Bu HB⟩
                    ·rw [if_neg c54] at H
                     have c54b0 : (t255 == 0) = false := beq_eq_false_iff_ne.mpr c54
                     have c54b1 : (t255 != 0) = true := bne_iff_ne.mpr c54
                     exact absurd (Option.some.inj H) (by rw [HR_.out]; decide)
                   ·rw [if_neg c52] at H
                    exact absurd H (by simp)
                  ·rw [if_neg c51] at H
                   exact absurd H (by simp)
                 ·rw [if_neg c50] at H
                  exact absurd H (by simp)
                ·rw [if_neg c49] at H
                 exact absurd H (by simp)
               ·rw [if_neg c48] at H
                have c48b0 : ((t240.size : Int) == 24) = false := beq_eq_false_iff_ne.mpr c48
                have c48b1 : ((t240.size : Int) != 24) = true := bne_iff_ne.mpr c48
                obtain rfl := Option.some.inj H
                go_wp2
                go_ret
                exact ⟨by first | rfl | (simp [errW_none, errW_some] <;> rfl) | (simp only [← hji18]; first | rfl | (simp [errW_none, errW_some] <;> rfl)) | (simp [*, errW_none, errW_some] <;> rfl), Bu HB⟩
           ·rw [if_neg c26] at H
            exact absurd H (by simp)
          ·rw [if_neg c22] at H
           exact absurd H (by simp)
         ·rw [if_neg c21] at H
          exact absurd H (by simp)
        ·rw [if_neg c20] at H
         exact absurd H (by simp)
       ·rw [if_neg c19] at H
        exact absurd H (by simp)

/-- THE ONE PURE STATEMENT of lanyardlaw10_MomentShifts: yours. -/
def lanyardlaw10_MomentShifts.Pure : Prop := ∀ (a0 : Int) (a1 : Int) (a2 : Int), (Lit.int .i64 a0).wf = true → (Lit.int .i64 a1).wf = true → (Lit.int .u8 a2).wf = true → ∃ k, lanyardlaw10_MomentShifts.f k a0 a1 a2 = some true
theorem lanyardlaw10_MomentShifts.walk (P : lanyardlaw10_MomentShifts.Pure) (a0 : Int) (a1 : Int) (a2 : Int) (w : World) (w0 : (Lit.int .i64 a0).wf = true) (w1 : (Lit.int .i64 a1).wf = true) (w2 : (Lit.int .u8 a2).wf = true) (hU : Uni w) :
  Calls Tryd.prog 6 #[.int .i64 a0, .int .i64 a1, .int .u8 a2] w fun e w' => e = .returned (.bool true) ∧ Below w.heap.size w w' := by
 obtain ⟨k, h⟩ := P a0 a1 a2 w0 w1 w2
 refine (lanyardlaw10_MomentShifts.calls k a0 a1 a2 true w hU h).mono ?_
 rintro e w' ⟨rfl, hd⟩
 exact ⟨rfl, hd⟩

end Go.Proofs.YtcikjghmelbkaaaDoor.Hp
