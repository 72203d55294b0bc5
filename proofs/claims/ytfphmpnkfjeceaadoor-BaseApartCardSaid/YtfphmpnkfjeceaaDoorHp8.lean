/- Go functions of this seat as Lean functions, and their contracts: what the Go code computes, for every input. (By hp.py, a program of this repo, over the kit's print.py.) -/
import Derived.Test.YtfphmpnkfjeceaaDoorHp0
import Derived.Test.YtfphmpnkfjeceaaDoorHp1
import Derived.Test.YtfphmpnkfjeceaaDoorHp2
namespace Go.Proofs.YtfphmpnkfjeceaaDoor.Hp
open Go.RowKit Go.Proofs.YtfphmpnkfjeceaaDoorW.PrintWords Go.Proofs.YtfphmpnkfjeceaaDoorW.PrintLast Go.Proofs.YtfphmpnkfjeceaaDoorW.PrintMore
attribute [local go_sem] max2_int min2_int max_two min_two max_three min_three max_four min_four   -- for this text's walks alone
set_option linter.unusedVariables false
set_option linter.unusedSimpArgs false

/-! ### lanyardlaw02_BaseApart: function 4 -/
mutual
def lanyardlaw02_BaseApart.j0 : Nat → List Int → List Int → Bool → Option (Bool)
 | 0, _, _, _ => none
 | k + 1, x0, x1, x18 => if x18 = true then ((lanyardlaw02_awake.f k).bind fun t202 => (some t202)) else ((base_Encode.f x0).bind fun t203 => ((base_Encode.f x1).bind fun t204 => (if ((t203.toList == t204.toList) != ((strOfNums x0).toList == (strOfNums x1).toList)) = true then (lanyardlaw02_BaseApart.j1 k x0 x1 true) else ((base_Hex.f x0).bind fun t205 => ((base_Hex.f x1).bind fun t206 => (lanyardlaw02_BaseApart.j1 k x0 x1 ((t205.toList == t206.toList) != ((strOfNums x0).toList == (strOfNums x1).toList))))))))
def lanyardlaw02_BaseApart.j1 : Nat → List Int → List Int → Bool → Option (Bool)
 | 0, _, _, _ => none
 | k + 1, x0, x1, x40 => if x40 = true then (some false) else ((some (([] : List Int) : List Int)).bind fun y207 => (if 0 ≤ (wrap64 ((wrap64 ((x0.length : Int) / 3)) * 3)) then (if (wrap64 ((wrap64 ((x0.length : Int) / 3)) * 3)) ≤ (x0.length : Int) then (if y207.length + (x0.take ((wrap64 ((wrap64 ((x0.length : Int) / 3)) * 3)) : Int).toNat).length < 140737488355328 then ((some (y207 ++ (x0.take ((wrap64 ((wrap64 ((x0.length : Int) / 3)) * 3)) : Int).toNat) : List Int)).bind fun y211 => (if y211.length + x1.length < 140737488355328 then ((base_Encode.f (y211 ++ x1)).bind fun t217 => ((base_Encode.f (x0.take ((wrap64 ((wrap64 ((x0.length : Int) / 3)) * 3)) : Int).toNat)).bind fun t219 => ((base_Encode.f x1).bind fun t220 => (if t219.size + t220.size ≤ 9223372036854775807 then (some (t217.toList == (t219 ++ t220).toList)) else (none))))) else (none))) else (none)) else (none)) else (none)))
end
def lanyardlaw02_BaseApart.f (k : Nat) (l0 : List Int) (l1 : List Int) : Option (Bool) := (lanyardlaw02_awake.f k).bind fun t201 => (if t201 = true then (if (l0.length : Int) > 2000 then (lanyardlaw02_BaseApart.j0 k l0 l1 true) else (lanyardlaw02_BaseApart.j0 k l0 l1 (decide ((l1.length : Int) > 2000)))) else (lanyardlaw02_BaseApart.j0 k l0 l1 true))
theorem lanyardlaw02_BaseApart.mono_l : ∀ k, (∀ y0 y1 y2, LeO (lanyardlaw02_BaseApart.j0 k y0 y1 y2) (lanyardlaw02_BaseApart.j0 (k + 1) y0 y1 y2)) ∧ (∀ y0 y1 y2, LeO (lanyardlaw02_BaseApart.j1 k y0 y1 y2) (lanyardlaw02_BaseApart.j1 (k + 1) y0 y1 y2))
 | 0 => ⟨fun _ _ _ r h => by simp [lanyardlaw02_BaseApart.j0] at h, fun _ _ _ r h => by simp [lanyardlaw02_BaseApart.j1] at h⟩
 | k + 1 => by
  obtain ⟨ih0, ih1⟩ := lanyardlaw02_BaseApart.mono_l k
  refine ⟨?_, ?_⟩
  ·intro y0 y1 y2
   unfold lanyardlaw02_BaseApart.j0
   repeat' first
   | (with_reducible exact ih0 _ _ _)
   | (with_reducible exact ih1 _ _ _)
   | (with_reducible exact lanyardlaw02_awake.mono _)
   | (with_reducible exact LeO.refl _)
   | (with_reducible exact LeO.none _)
   | (with_reducible refine LeO.ite ?_ ?_)
   | (with_reducible refine LeO.bind ?_ (fun _ => ?_))
   | exact ih0 _ _ _
   | exact ih1 _ _ _
   | exact lanyardlaw02_awake.mono _
   | exact LeO.none _
   | refine LeO.ite ?_ ?_
   | refine LeO.bind ?_ (fun _ => ?_)
  ·intro y0 y1 y2
   unfold lanyardlaw02_BaseApart.j1
   repeat' first
   | (with_reducible exact ih0 _ _ _)
   | (with_reducible exact ih1 _ _ _)
   | (with_reducible exact lanyardlaw02_awake.mono _)
   | (with_reducible exact LeO.refl _)
   | (with_reducible exact LeO.none _)
   | (with_reducible refine LeO.ite ?_ ?_)
   | (with_reducible refine LeO.bind ?_ (fun _ => ?_))
   | exact ih0 _ _ _
   | exact ih1 _ _ _
   | exact lanyardlaw02_awake.mono _
   | exact LeO.none _
   | refine LeO.ite ?_ ?_
   | refine LeO.bind ?_ (fun _ => ?_)
theorem lanyardlaw02_BaseApart.mono : ∀ a0 a1 k, LeO (lanyardlaw02_BaseApart.f k a0 a1) (lanyardlaw02_BaseApart.f (k + 1) a0 a1) := by
 intro a0 a1 k
 obtain ⟨ih0, ih1⟩ := lanyardlaw02_BaseApart.mono_l k
 unfold lanyardlaw02_BaseApart.f
 repeat' first
   | (with_reducible exact ih0 _ _ _)
   | (with_reducible exact ih1 _ _ _)
   | (with_reducible exact lanyardlaw02_awake.mono _)
   | (with_reducible exact LeO.refl _)
   | (with_reducible exact LeO.none _)
   | (with_reducible refine LeO.ite ?_ ?_)
   | (with_reducible refine LeO.bind ?_ (fun _ => ?_))
   | exact ih0 _ _ _
   | exact ih1 _ _ _
   | exact lanyardlaw02_awake.mono _
   | exact LeO.none _
   | refine LeO.ite ?_ ?_
   | refine LeO.bind ?_ (fun _ => ?_)
def lanyardlaw02_BaseApart.T7 : Bool × List (List Nat × List Nat) := (true, [([], []), ([], []), ([], []), ([1, 2], [1, 2]), ([0, 3], [0, 3]), ([], []), ([4, 5, 4], [4, 5]), ([6, 6], [6]), ([], []), ([], []), ([8, 9], [8, 9]), ([10, 7], [10]), ([], []), ([12, 11], [12]), ([11, 13], [11, 13]), ([7, 14], [7, 14]), ([15, 13, 0, 1, 2, 3, 4, 5, 6, 7, 8, 9, 10, 11, 12, 13, 14, 15], [15])])
def lanyardlaw02_BaseApart.B7 : List Nat := [0, 0, 0, 6, 15, 0, 63, 127, 0, 0, 768, 2047, 0, 8191, 16383, 32767, 65535]
theorem lanyardlaw02_BaseApart.tab7 : rtab .any (opsOf Tryd.f4 7) = lanyardlaw02_BaseApart.T7 := by kernel_rfl
theorem lanyardlaw02_BaseApart.bits7 : waitsOk lanyardlaw02_BaseApart.T7.2 lanyardlaw02_BaseApart.B7 = true := by kernel_rfl
set_option maxHeartbeats 8000000 in
set_option maxRecDepth 100000 in
theorem lanyardlaw02_BaseApart.calls (k : Nat) (A0 : Option Addr) (c0 : Nat) (l0 : List Int) (A1 : Option Addr) (c1 : Nat) (l1 : List Int) (r : Bool) (w : World) (hr0 : Kd.C (Kd.int .u8) w A0 l0.length l0) (hc0 : l0.length ≤ c0) (hr1 : Kd.C (Kd.int .u8) w A1 l1.length l1) (hc1 : l1.length ≤ c1) (hU : Uni w) (h : lanyardlaw02_BaseApart.f k l0 l1 = some r) (hr_ : r = true := by rfl) :
  Calls Tryd.prog 4 #[.slice A0 l0.length c0, .slice A1 l1.length c1] w fun e w' => e = .returned (.bool r) ∧ Below w.heap.size w w' := by
 have HU := Aside0.mk hU
 clear hU
 have HR_ := Aside0.mk hr_
 clear hr_
 have HR0 := Aside0.mk hr0
 have HC0 := Aside0.mk hc0
 clear hr0 hc0
 have HR1 := Aside0.mk hr1
 have HC1 := Aside0.mk hc1
 clear hr1 hc1
 have HB := Aside0.mk (Below.refl w.heap.size w)
 have H : ((lanyardlaw02_awake.f k).bind fun t201 => (if t201 = true then (if (l0.length : Int) > 2000 then (lanyardlaw02_BaseApart.j0 k l0 l1 true) else (lanyardlaw02_BaseApart.j0 k l0 l1 (decide ((l1.length : Int) > 2000)))) else (lanyardlaw02_BaseApart.j0 k l0 l1 true))) = some r := h
 clear h
 have HC3 := Aside0.mk H
 clear H
 go_enter Tryd.func4, Tryd.ntmps4
 go_upto_region 1 with (fail)
 go_cut [18] (fun v18 wc => ∃ (kq : Nat) (x18_2 : Bool), v18 = .bool x18_2 ∧ Aside0 (lanyardlaw02_BaseApart.j0 kq l0 l1 x18_2 = some r) ∧ Aside0 (kq ≤ k) ∧ Aside0 (Below w.heap.size w wc))
 case first =>
  have H := HC3.out
  clear HC3
  replace H := Option.bind_eq_some_iff.mp H
  obtain ⟨t201, A40, H⟩ := H
  replace H : (if t201 = true then (if (l0.length : Int) > 2000 then (lanyardlaw02_BaseApart.j0 k l0 l1 true) else (lanyardlaw02_BaseApart.j0 k l0 l1 (decide ((l1.length : Int) > 2000)))) else (lanyardlaw02_BaseApart.j0 k l0 l1 true)) = some r := H
  have A4 := Aside0.mk A40
  clear A40
  by_cases c5 : t201 = true
  ·subst c5
   have H1 : (if (l0.length : Int) > 2000 then (lanyardlaw02_BaseApart.j0 k l0 l1 true) else (lanyardlaw02_BaseApart.j0 k l0 l1 (decide ((l1.length : Int) > 2000)))) = some r := by rw [if_pos rfl] at H; exact H
   clear H
   have H := H1
   clear H1
   by_cases c6 : (l0.length : Int) > 2000
   ·rw [if_pos c6] at H
    have c6b0 : decide (2000 < (l0.length : Int)) = true := decide_eq_true c6
    have c6b1 : decide (2000 < l0.length) = true := decide_eq_true (by omega)
    clear c6
    (first | rw [c6b0] | (simp only [i64_w, i32_w]; rw [c6b0]) | skip)
    have H' := Aside0.mk H
    clear H
    go_wp2_with (first | ((with_reducible refine gate_callee (f := 8) rfl ?_); refine goesA (some 7) Tryd.func8 #[] rfl ?_; (with_reducible refine (lanyardlaw02_awake.calls k  true _ ?sideU A4.out).mono ?_); (case sideU => first | exact HU.out | exact Uni.up HU (Bu HB) | exact Uni.below HU.out (by assumption)); rintro e w7 ⟨rfl, hb⟩; refine ⟨_, rfl, ?_⟩; have n0_ := Bs HB hb; clear HB; revert n0_; intro HB; (try clear hb); (try clear hb2); (try clear hk); (try clear hi)))
    go_meet
    case rel => exact ⟨_, (true), (by first | rfl | (simp; done) | (simp [*]; done)), H', ⟨by first | omega | exact Nat.le_refl _⟩, ⟨Bu HB⟩⟩
   ·rw [if_neg c6] at H
    have c6b0 : decide (2000 < (l0.length : Int)) = false := decide_eq_false c6
    have c6b1 : decide (2000 < l0.length) = false := decide_eq_false (by omega)
    clear c6
    (first | rw [c6b0] | (simp only [i64_w, i32_w]; rw [c6b0]) | skip)
    have H' := Aside0.mk H
    clear H
    go_wp2_with (first | ((with_reducible refine gate_callee (f := 8) rfl ?_); refine goesA (some 7) Tryd.func8 #[] rfl ?_; (with_reducible refine (lanyardlaw02_awake.calls k  true _ ?sideU A4.out).mono ?_); (case sideU => first | exact HU.out | exact Uni.up HU (Bu HB) | exact Uni.below HU.out (by assumption)); rintro e w8 ⟨rfl, hb⟩; refine ⟨_, rfl, ?_⟩; have n0_ := Bs HB hb; clear HB; revert n0_; intro HB; (try clear hb); (try clear hb2); (try clear hk); (try clear hi)))
    go_meet
    case rel => exact ⟨_, (decide ((l1.length : Int) > 2000)), (by first | rfl | (simp; done) | (simp [*]; done)), H', ⟨by first | omega | exact Nat.le_refl _⟩, ⟨Bu HB⟩⟩
  ·replace c5 := Bool.eq_false_iff.mpr c5
   subst c5
   have H1 : (lanyardlaw02_BaseApart.j0 k l0 l1 true) = some r := by rw [if_neg (show ¬ (false = true) by decide)] at H; exact H
   clear H
   have H := H1
   clear H1
   have H' := Aside0.mk H
   clear H
   go_wp2_with (first | ((with_reducible refine gate_callee (f := 8) rfl ?_); refine goesA (some 7) Tryd.func8 #[] rfl ?_; (with_reducible refine (lanyardlaw02_awake.calls k  false _ ?sideU A4.out).mono ?_); (case sideU => first | exact HU.out | exact Uni.up HU (Bu HB) | exact Uni.below HU.out (by assumption)); rintro e w9 ⟨rfl, hb⟩; refine ⟨_, rfl, ?_⟩; have n0_ := Bs HB hb; clear HB; revert n0_; intro HB; (try clear hb); (try clear hb2); (try clear hk); (try clear hi)))
   go_meet
   case rel => exact ⟨_, (true), (by first | rfl | (simp; done) | (simp [*]; done)), H', ⟨by first | omega | exact Nat.le_refl _⟩, ⟨Bu HB⟩⟩
 case rest =>
  clear HC3
  try clear c1
  try clear p2
  try clear c4
  try clear c5
  try clear c6
  try clear c6b0
  try clear c6b1
  try clear c8
  obtain ⟨kq, x18_2, rfl, HA, HJ2, HB⟩ := hcut
  cases kq with
  | zero => exact absurd HA.out (by simp [lanyardlaw02_BaseApart.j0])
  | succ kj2 =>
   have H := HA.out
   clear HA
   simp only [lanyardlaw02_BaseApart.j0] at H
   by_cases c10 : x18_2 = true
   ·subst c10
    have H1 : ((lanyardlaw02_awake.f kj2).bind fun t202 => (some t202)) = some r := by rw [if_pos rfl] at H; exact H
    clear H
    have H := H1
    clear H1
    replace H := Option.bind_eq_some_iff.mp H
    obtain ⟨t202, A110, H⟩ := H
    replace H : (some t202) = some r := H
    have A11 := Aside0.mk A110
    clear A110
    obtain rfl := Option.some.inj H
    go_wp2_with (first | ((with_reducible refine gate_callee (f := 8) rfl ?_); refine goesA (some 19) Tryd.func8 #[] rfl ?_; (with_reducible refine (lanyardlaw02_awake.calls kj2  t202 _ ?sideU A11.out).mono ?_); (case sideU => first | exact HU.out | exact Uni.up HU (Bu HB) | exact Uni.below HU.out (by assumption)); rintro e w12 ⟨rfl, hb⟩; refine ⟨_, rfl, ?_⟩; have n0_ := Bs HB hb; clear HB; revert n0_; intro HB; (try clear hb); (try clear hb2); (try clear hk); (try clear hi)))
    go_ret
    exact ⟨rfl_, Bu HB⟩
   ·replace c10 := Bool.eq_false_iff.mpr c10
    subst c10
    have H1 : ((base_Encode.f l0).bind fun t203 => ((base_Encode.f l1).bind fun t204 => (if ((t203.toList == t204.toList) != ((strOfNums l0).toList == (strOfNums l1).toList)) = true then (lanyardlaw02_BaseApart.j1 kj2 l0 l1 true) else ((base_Hex.f l0).bind fun t205 => ((base_Hex.f l1).bind fun t206 => (lanyardlaw02_BaseApart.j1 kj2 l0 l1 ((t205.toList == t206.toList) != ((strOfNums l0).toList == (strOfNums l1).toList)))))))) = some r := by rw [if_neg (show ¬ (false = true) by decide)] at H; exact H
    clear H
    have H := H1
    clear H1
    have HC13 := Aside0.mk H
    clear H
    have hcv14 := Kd.C_string (P := Tryd.prog) (A := A0) (c := c0) Tryd.underlying23 Tryd.underlying5 Tryd.underlying9 (Kd.C_below HR0.out HB.out)
    have hcv15 := fun n_ : Nat => Kd.C_string (P := Tryd.prog) (A := A0) (c := c0) Tryd.underlying23 Tryd.underlying5 Tryd.underlying9 (Kd.C_drewN (Kd.C_below HR0.out HB.out) n_)
    have hcv18 := Kd.C_string (P := Tryd.prog) (A := A1) (c := c1) Tryd.underlying23 Tryd.underlying5 Tryd.underlying9 (Kd.C_below HR1.out HB.out)
    have hcv19 := fun n_ : Nat => Kd.C_string (P := Tryd.prog) (A := A1) (c := c1) Tryd.underlying23 Tryd.underlying5 Tryd.underlying9 (Kd.C_drewN (Kd.C_below HR1.out HB.out) n_)
    go_upto_region 4 with (fail)
    go_cut [40] (fun v40 wc => ∃ (kq : Nat) (x40_12 : Bool), v40 = .bool x40_12 ∧ Aside0 (lanyardlaw02_BaseApart.j1 kq l0 l1 x40_12 = some r) ∧ Aside0 (kq ≤ kj2) ∧ Aside0 (Below w.heap.size w wc))
    case first =>
     have H := HC13.out
     clear HC13
     replace H := Option.bind_eq_some_iff.mp H
     obtain ⟨t203, A220, H⟩ := H
     replace H : ((base_Encode.f l1).bind fun t204 => (if ((t203.toList == t204.toList) != ((strOfNums l0).toList == (strOfNums l1).toList)) = true then (lanyardlaw02_BaseApart.j1 kj2 l0 l1 true) else ((base_Hex.f l0).bind fun t205 => ((base_Hex.f l1).bind fun t206 => (lanyardlaw02_BaseApart.j1 kj2 l0 l1 ((t205.toList == t206.toList) != ((strOfNums l0).toList == (strOfNums l1).toList))))))) = some r := H
     have A22 := Aside0.mk A220
     clear A220
     replace H := Option.bind_eq_some_iff.mp H
     obtain ⟨t204, A230, H⟩ := H
     replace H : (if ((t203.toList == t204.toList) != ((strOfNums l0).toList == (strOfNums l1).toList)) = true then (lanyardlaw02_BaseApart.j1 kj2 l0 l1 true) else ((base_Hex.f l0).bind fun t205 => ((base_Hex.f l1).bind fun t206 => (lanyardlaw02_BaseApart.j1 kj2 l0 l1 ((t205.toList == t206.toList) != ((strOfNums l0).toList == (strOfNums l1).toList)))))) = some r := H
     have A23 := Aside0.mk A230
     clear A230
     by_cases c24 : ((t203.toList == t204.toList) != ((strOfNums l0).toList == (strOfNums l1).toList)) = true
     ·rw [if_pos c24] at H
      have c24b0 : ((t203.toList == t204.toList) != ((strOfNums l0).toList == (strOfNums l1).toList)) = true := c24
      (try (have c24b1 : decide ((t203.toList == t204.toList) = ((strOfNums l0).toList == (strOfNums l1).toList)) = false := by simpa using c24))
      (try (have c24b2 : ((t203.toList == t204.toList) == ((strOfNums l0).toList == (strOfNums l1).toList)) = false := by simpa using c24))
      (try (have c24b3 : ¬ ((t203.toList == t204.toList) = ((strOfNums l0).toList == (strOfNums l1).toList)) := by simpa using c24))
      clear c24
      (first | rw [c24b0] | (simp only [i64_w, i32_w]; rw [c24b0]) | skip)
      have H' := Aside0.mk H
      clear H
      go_wp2_with (first | ((with_reducible refine gate_callee (f := 11) rfl ?_); refine goesA (some 26) Tryd.func11 #[.slice A0 l0.length c0] rfl ?_; (with_reducible refine (base_Encode.calls _ _ l0 t203 _ ?side1 ?side2 A22.out).mono ?_); (case side1 => exact Cu (Kd.C_below HR0.out HB.out)); (case side2 => exact HC0.out); rintro e w25 ⟨rfl, hb⟩; refine ⟨_, rfl, ?_⟩; have n0_ := Bs HB hb; clear HB; revert n0_; intro HB; (try clear hb); (try clear hb2); (try clear hk); (try clear hi)) | ((with_reducible refine gate_callee (f := 11) rfl ?_); refine goesA (some 28) Tryd.func11 #[.slice A1 l1.length c1] rfl ?_; (with_reducible refine (base_Encode.calls _ _ l1 t204 _ ?side1 ?side2 A23.out).mono ?_); (case side1 => exact Cu (Kd.C_below HR1.out HB.out)); (case side2 => exact HC1.out); rintro e w26 ⟨rfl, hb⟩; refine ⟨_, rfl, ?_⟩; have n0_ := Bs HB hb; clear HB; revert n0_; intro HB; (try clear hb); (try clear hb2); (try clear hk); (try clear hi)))
      go_meet
      case rel => exact ⟨_, (true), (by first | rfl | (simp; done) | (simp [*]; done)), H', ⟨by have := HJ2.out; first | omega | exact Nat.le_refl _⟩, ⟨Bu HB⟩⟩
     ·rw [if_neg c24] at H
      have c24b0 : ((t203.toList == t204.toList) != ((strOfNums l0).toList == (strOfNums l1).toList)) = false := by simpa using c24
      (try (have c24b1 : decide ((t203.toList == t204.toList) = ((strOfNums l0).toList == (strOfNums l1).toList)) = true := by simpa using c24))
      (try (have c24b2 : ((t203.toList == t204.toList) == ((strOfNums l0).toList == (strOfNums l1).toList)) = true := by simpa using c24))
      clear c24
      (first | rw [c24b0] | (simp only [i64_w, i32_w]; rw [c24b0]) | skip)
      replace H := Option.bind_eq_some_iff.mp H
      obtain ⟨t205, A270, H⟩ := H
      replace H : ((base_Hex.f l1).bind fun t206 => (lanyardlaw02_BaseApart.j1 kj2 l0 l1 ((t205.toList == t206.toList) != ((strOfNums l0).toList == (strOfNums l1).toList)))) = some r := H
      have A27 := Aside0.mk A270
      clear A270
      replace H := Option.bind_eq_some_iff.mp H
      obtain ⟨t206, A280, H⟩ := H
      replace H : (lanyardlaw02_BaseApart.j1 kj2 l0 l1 ((t205.toList == t206.toList) != ((strOfNums l0).toList == (strOfNums l1).toList))) = some r := H
      have A28 := Aside0.mk A280
      clear A280
      have H' := Aside0.mk H
      clear H
      go_wp2_with (first | ((with_reducible refine gate_callee (f := 11) rfl ?_); refine goesA (some 26) Tryd.func11 #[.slice A0 l0.length c0] rfl ?_; (with_reducible refine (base_Encode.calls _ _ l0 t203 _ ?side1 ?side2 A22.out).mono ?_); (case side1 => exact Cu (Kd.C_below HR0.out HB.out)); (case side2 => exact HC0.out); rintro e w29 ⟨rfl, hb⟩; refine ⟨_, rfl, ?_⟩; have n0_ := Bs HB hb; clear HB; revert n0_; intro HB; (try clear hb); (try clear hb2); (try clear hk); (try clear hi)) | ((with_reducible refine gate_callee (f := 11) rfl ?_); refine goesA (some 28) Tryd.func11 #[.slice A1 l1.length c1] rfl ?_; (with_reducible refine (base_Encode.calls _ _ l1 t204 _ ?side1 ?side2 A23.out).mono ?_); (case side1 => exact Cu (Kd.C_below HR1.out HB.out)); (case side2 => exact HC1.out); rintro e w30 ⟨rfl, hb⟩; refine ⟨_, rfl, ?_⟩; have n0_ := Bs HB hb; clear HB; revert n0_; intro HB; (try clear hb); (try clear hb2); (try clear hk); (try clear hi)) | (go_at_call 12; (with_reducible refine (base_Hex.calls _ _ l0 t205 _ ?side1 ?side2 A27.out).mono ?_); (case side1 => exact Cu (Kd.C_below HR0.out HB.out)); (case side2 => exact HC0.out); rintro e w31 ⟨rfl, hb⟩; have n0_ := Bs HB hb; clear HB; revert n0_; intro HB; (try clear hb); (try clear hb2); (try clear hk); (try clear hi)) | (go_at_call 12; (with_reducible refine (base_Hex.calls _ _ l1 t206 _ ?side1 ?side2 A28.out).mono ?_); (case side1 => exact Cu (Kd.C_below HR1.out HB.out)); (case side2 => exact HC1.out); rintro e w32 ⟨rfl, hb⟩; have n0_ := Bs HB hb; clear HB; revert n0_; intro HB; (try clear hb); (try clear hb2); (try clear hk); (try clear hi)))
      go_meet
      case rel => exact ⟨_, (((t205.toList == t206.toList) != ((strOfNums l0).toList == (strOfNums l1).toList))), (by first | rfl | (simp; done) | (simp [*]; done)), H', ⟨by have := HJ2.out; first | omega | exact Nat.le_refl _⟩, ⟨Bu HB⟩⟩
    case rest =>
     clear HC13
     try clear c1
     try clear hcv1
     try clear c2
     try clear p2
     try clear c4
     try clear c5
     try clear c6
     try clear c6b0
     try clear c6b1
     try clear c8
     try clear c10
     try clear c11
     try clear hcv14
     try clear hcv15
     try clear hcv18
     try clear hcv19
     try clear c24
     try clear c24b0
     try clear c24b1
     try clear c24b2
     try clear p2
     obtain ⟨kq, x40_12, rfl, HA, HJ12, HB⟩ := hcut
     cases kq with
     | zero => exact absurd HA.out (by simp [lanyardlaw02_BaseApart.j1])
     | succ kj12 =>
      have H := HA.out
      clear HA
      simp only [lanyardlaw02_BaseApart.j1] at H
      by_cases c33 : x40_12 = true
      ·subst c33
       have H1 : (some false) = some r := by rw [if_pos rfl] at H; exact H
       clear H
       have H := H1
       clear H1
       exact absurd (Option.some.inj H) (by rw [HR_.out]; decide)
      ·replace c33 := Bool.eq_false_iff.mpr c33
       subst c33
       have H1 : ((some (([] : List Int) : List Int)).bind fun y207 => (if 0 ≤ (wrap64 ((wrap64 ((l0.length : Int) / 3)) * 3)) then (if (wrap64 ((wrap64 ((l0.length : Int) / 3)) * 3)) ≤ (l0.length : Int) then (if y207.length + (l0.take ((wrap64 ((wrap64 ((l0.length : Int) / 3)) * 3)) : Int).toNat).length < 140737488355328 then ((some (y207 ++ (l0.take ((wrap64 ((wrap64 ((l0.length : Int) / 3)) * 3)) : Int).toNat) : List Int)).bind fun y211 => (if y211.length + l1.length < 140737488355328 then ((base_Encode.f (y211 ++ l1)).bind fun t217 => ((base_Encode.f (l0.take ((wrap64 ((wrap64 ((l0.length : Int) / 3)) * 3)) : Int).toNat)).bind fun t219 => ((base_Encode.f l1).bind fun t220 => (if t219.size + t220.size ≤ 9223372036854775807 then (some (t217.toList == (t219 ++ t220).toList)) else (none))))) else (none))) else (none)) else (none)) else (none))) = some r := by rw [if_neg (show ¬ (false = true) by decide)] at H; exact H
       clear H
       have H := H1
       clear H1
       obtain ⟨y207, hy207⟩ : ∃ y_ : List Int, y_ = (([] : List Int)) := ⟨_, rfl⟩
       replace H : (if 0 ≤ (wrap64 ((wrap64 ((l0.length : Int) / 3)) * 3)) then (if (wrap64 ((wrap64 ((l0.length : Int) / 3)) * 3)) ≤ (l0.length : Int) then (if y207.length + (l0.take ((wrap64 ((wrap64 ((l0.length : Int) / 3)) * 3)) : Int).toNat).length < 140737488355328 then ((some (y207 ++ (l0.take ((wrap64 ((wrap64 ((l0.length : Int) / 3)) * 3)) : Int).toNat) : List Int)).bind fun y211 => (if y211.length + l1.length < 140737488355328 then ((base_Encode.f (y211 ++ l1)).bind fun t217 => ((base_Encode.f (l0.take ((wrap64 ((wrap64 ((l0.length : Int) / 3)) * 3)) : Int).toNat)).bind fun t219 => ((base_Encode.f l1).bind fun t220 => (if t219.size + t220.size ≤ 9223372036854775807 then (some (t217.toList == (t219 ++ t220).toList)) else (none))))) else (none))) else (none)) else (none)) else (none)) = some r := by first | (rw [hy207]; with_reducible exact H) | (have H2_ := (Option.bind_some _ _).symm.trans H; rw [hy207]; with_reducible exact H2_) | (have H2_ := (Option.bind_some _ _).symm.trans H; with_reducible exact H2_) | with_reducible exact H | (rw [hy207]; exact H) | exact H
       have Ny207 := Aside0.mk hy207
       clear hy207
       obtain ⟨ji34, hji34⟩ : ∃ j_ : Int, (wrap64 ((wrap64 ((l0.length : Int) / 3)) * 3)) = j_ := ⟨_, rfl⟩
       replace H : (if 0 ≤ (ji34) then (if (ji34) ≤ (l0.length : Int) then (if y207.length + (l0.take ((ji34) : Int).toNat).length < 140737488355328 then ((some (y207 ++ (l0.take ((ji34) : Int).toNat) : List Int)).bind fun y211 => (if y211.length + l1.length < 140737488355328 then ((base_Encode.f (y211 ++ l1)).bind fun t217 => ((base_Encode.f (l0.take ((ji34) : Int).toNat)).bind fun t219 => ((base_Encode.f l1).bind fun t220 => (if t219.size + t220.size ≤ 9223372036854775807 then (some (t217.toList == (t219 ++ t220).toList)) else (none))))) else (none))) else (none)) else (none)) else (none)) = some r := by first | (rw [hji34] at H; exact H) | (simp only [hji34] at H ⊢; exact H)
       have hji34w : (IntKind.i64.wrap ((wrap64 ((l0.length : Int) / 3)) * 3)) = ji34 := (i64_w _).trans hji34
       by_cases c35 : 0 ≤ (ji34)
       ·rw [if_pos c35] at H
        have c35b0 := eq_true c35
        have c35b1 : decide (0 ≤ (ji34)) = true := decide_eq_true c35
        clear c35
        by_cases c36 : (ji34) ≤ (l0.length : Int)
        ·rw [if_pos c36] at H
         have c36b0 := eq_true c36
         have c36b1 : decide ((ji34) ≤ (l0.length : Int)) = true := decide_eq_true c36
         clear c36
         by_cases c37 : y207.length + (l0.take ((ji34) : Int).toNat).length < 140737488355328
         ·rw [if_pos c37] at H
          have LMc37 := Aside0.mk c37
          clear c37
          obtain ⟨y211, hy211⟩ : ∃ y_ : List Int, y_ = (y207 ++ (l0.take ((ji34) : Int).toNat)) := ⟨_, rfl⟩
          replace H : (if y211.length + l1.length < 140737488355328 then ((base_Encode.f (y211 ++ l1)).bind fun t217 => ((base_Encode.f (l0.take ((ji34) : Int).toNat)).bind fun t219 => ((base_Encode.f l1).bind fun t220 => (if t219.size + t220.size ≤ 9223372036854775807 then (some (t217.toList == (t219 ++ t220).toList)) else (none))))) else (none)) = some r := by first | (rw [hy211]; with_reducible exact H) | (have H2_ := (Option.bind_some _ _).symm.trans H; rw [hy211]; with_reducible exact H2_) | (have H2_ := (Option.bind_some _ _).symm.trans H; with_reducible exact H2_) | with_reducible exact H | (rw [hy211]; exact H) | exact H
          have Ny211 := Aside0.mk hy211
          clear hy211
          by_cases c38 : y211.length + l1.length < 140737488355328
          ·rw [if_pos c38] at H
           have LMc38 := Aside0.mk c38
           clear c38
           obtain ⟨y214, hy214⟩ : ∃ y_ : List Int, y_ = (y211 ++ l1) := ⟨_, rfl⟩
           replace H : ((base_Encode.f y214).bind fun t217 => ((base_Encode.f (l0.take ((ji34) : Int).toNat)).bind fun t219 => ((base_Encode.f l1).bind fun t220 => (if t219.size + t220.size ≤ 9223372036854775807 then (some (t217.toList == (t219 ++ t220).toList)) else (none))))) = some r := by first | (rw [hy214]; with_reducible exact H) | (have H2_ := (Option.bind_some _ _).symm.trans H; rw [hy214]; with_reducible exact H2_) | (have H2_ := (Option.bind_some _ _).symm.trans H; with_reducible exact H2_) | with_reducible exact H | (rw [hy214]; exact H) | exact H
           have Ny214 := Aside0.mk hy214
           clear hy214
           replace H := Option.bind_eq_some_iff.mp H
           obtain ⟨t217, A390, H⟩ := H
           replace H : ((base_Encode.f (l0.take ((ji34) : Int).toNat)).bind fun t219 => ((base_Encode.f l1).bind fun t220 => (if t219.size + t220.size ≤ 9223372036854775807 then (some (t217.toList == (t219 ++ t220).toList)) else (none)))) = some r := H
           have A39 := Aside0.mk A390
           clear A390
           have c40b0 := eq_true (of_decide_eq_true (by first | (with_reducible assumption) | assumption) : 0 ≤ (ji34))
           have c41b0 := eq_true (of_decide_eq_true (by first | (with_reducible assumption) | assumption) : (ji34) ≤ (l0.length : Int))
           replace H := Option.bind_eq_some_iff.mp H
           obtain ⟨t219, A420, H⟩ := H
           replace H : ((base_Encode.f l1).bind fun t220 => (if t219.size + t220.size ≤ 9223372036854775807 then (some (t217.toList == (t219 ++ t220).toList)) else (none))) = some r := H
           have A42 := Aside0.mk A420
           clear A420
           replace H := Option.bind_eq_some_iff.mp H
           obtain ⟨t220, A430, H⟩ := H
           replace H : (if t219.size + t220.size ≤ 9223372036854775807 then (some (t217.toList == (t219 ++ t220).toList)) else (none)) = some r := H
           have A43 := Aside0.mk A430
           clear A430
           by_cases c44 : t219.size + t220.size ≤ 9223372036854775807
           ·rw [if_pos c44] at H
            have c44b0 := eq_true c44
            have c44b1 : decide (t219.size + t220.size ≤ 9223372036854775807) = true := decide_eq_true c44
            try have c44b2 : (9223372036854775807 < t219.size + t220.size) = False := eq_false (Nat.not_lt.2 c44)
            obtain rfl := Option.some.inj H
            try go_wp2
            have n0_ := Aside0.mk (below_drew1 HB.out)
            clear HB
            have HB := n0_
            clear n0_
            obtain ⟨i046, hi046, _, hsz46, _⟩ := info_parts info5
            obtain ⟨hcut46, hA46, hC46⟩ := print_take_of (P := Tryd.prog) (Value.int .u8) 0 23 5 .i64 Tryd.underlying23 hi046 hsz46 A0 c0 l0 (ji34) (of_decide_eq_true (by first | (with_reducible assumption) | assumption)) (of_decide_eq_true (by first | (with_reducible assumption) | assumption)) HC0.out
            have HR210 := Aside0.mk (Kd.C_of_reads (h1 := fun _ => rfl) (hA46 _ (Kd.reads_of_C HR0.out)))
            have HC210 := Aside0.mk hC46
            clear hA46 hC46 hi046 hsz46
            obtain ⟨i047, hi047, _, hsz47, _⟩ := info_parts info5
            obtain ⟨hcut47, hA47, hC47⟩ := print_take_of (P := Tryd.prog) (Value.int .u8) 0 23 5 .i64 Tryd.underlying23 hi047 hsz47 A0 c0 l0 (ji34) (of_decide_eq_true (by first | (with_reducible assumption) | assumption)) (of_decide_eq_true (by first | (with_reducible assumption) | assumption)) HC0.out
            have HR218 := Aside0.mk (Kd.C_of_reads (h1 := fun _ => rfl) (hA47 _ (Kd.reads_of_C HR0.out)))
            have HC218 := Aside0.mk hC47
            clear hA47 hC47 hi047 hsz47
            refine start_ (n := 17) (S := fun w' => True) (ds := []) #[false, false, false, false, false, false, false, false, false, false, false, false, false, false, false, false, false] (by kernel_rfl) rfl rfl trivial (fun hHeld => ?_); refine with_tabW lanyardlaw02_BaseApart.tab7 lanyardlaw02_BaseApart.bits7 (fun HT_ HW_ => ?_)
            generalize wc.drew = w45 at HB HR210 HR218 hHeld ⊢
            refine pure_ (i := 1) (N := some 46) (v := ?_) (a' := ?_) #[false, true, false, false, false, false, false, false, false, false, false, false, false, false, false, false, false] rfl rfl (any_of HT_.out (by kernel_rfl)) (fun _ _ _ h => h) (Or.inl ⟨by rfl, ?_⟩) ?_ ?_
            rotate_left
            ·intro w'
             go_simp
             with_reducible rfl
            rotate_left
            ·simp only [Act.put, List.setIfInBounds_toArray, List.set_cons_zero, List.set_cons_succ, i64_w, i32_w]
             rfl
            refine pure_ (i := 2) (N := some 47) (v := ?_) (a' := ?_) #[false, true, true, false, false, false, false, false, false, false, false, false, false, false, false, false, false] rfl rfl (any_of HT_.out (by kernel_rfl)) (fun _ _ _ h => h) (Or.inl ⟨by rfl, ?_⟩) ?_ ?_
            rotate_left
            ·intro w'
             go_simp
             with_reducible rfl
            rotate_left
            ·simp only [Act.put, List.setIfInBounds_toArray, List.set_cons_zero, List.set_cons_succ, i64_w, i32_w]
             rfl
            refine pure_ (i := 3) (N := some 48) (v := ?_) (a' := ?_) #[false, true, true, true, false, false, false, false, false, false, false, false, false, false, false, false, false] rfl rfl (any_of HT_.out (by kernel_rfl)) (fun _ _ _ h => h) (Or.inl ⟨by rfl, ?_⟩) ?_ ?_
            rotate_left
            ·intro w'
             go_simp
             with_reducible rfl
            rotate_left
            ·simp only [Act.put, List.setIfInBounds_toArray, List.set_cons_zero, List.set_cons_succ, i64_w, i32_w]
             rfl
            refine pure_ (i := 5) (N := some 50) (v := ?_) (a' := ?_) #[false, true, true, true, false, true, false, false, false, false, false, false, false, false, false, false, false] rfl rfl (any_of HT_.out (by kernel_rfl)) (fun _ _ _ h => h) (Or.inl ⟨by rfl, ?_⟩) ?_ ?_
            rotate_left
            ·intro w'
             go_simp
             with_reducible rfl
            rotate_left
            ·simp only [Act.put, List.setIfInBounds_toArray, List.set_cons_zero, List.set_cons_succ, i64_w, i32_w]
             rfl
            refine pure_ (i := 8) (N := some 53) (v := ?_) (a' := ?_) #[false, true, true, true, false, true, false, false, true, false, false, false, false, false, false, false, false] rfl rfl (any_of HT_.out (by kernel_rfl)) (fun _ _ _ h => h) (Or.inl ⟨by rfl, ?_⟩) ?_ ?_
            rotate_left
            ·intro w'
             go_simp
             with_reducible rfl
            rotate_left
            ·simp only [Act.put, List.setIfInBounds_toArray, List.set_cons_zero, List.set_cons_succ, i64_w, i32_w]
             rfl
            refine pure_ (i := 9) (N := some 54) (v := ?_) (a' := ?_) #[false, true, true, true, false, true, false, false, true, true, false, false, false, false, false, false, false] rfl rfl (any_of HT_.out (by kernel_rfl)) (fun _ _ _ h => h) (Or.inl ⟨by rfl, ?_⟩) ?_ ?_
            rotate_left
            ·intro w'
             go_simp
             with_reducible rfl
            rotate_left
            ·simp only [Act.put, List.setIfInBounds_toArray, List.set_cons_zero, List.set_cons_succ, i64_w, i32_w]
             rfl
            refine pure_ (i := 10) (N := some 55) (v := ?_) (a' := ?_) #[false, true, true, true, false, true, false, false, true, true, true, false, false, false, false, false, false] rfl rfl (any_of HT_.out (by kernel_rfl)) (fun _ _ _ h => h) (Or.inl ⟨by rfl, ?_⟩) ?_ ?_
            rotate_left
            ·intro w'
             go_simp
             with_reducible rfl
            rotate_left
            ·simp only [Act.put, List.setIfInBounds_toArray, List.set_cons_zero, List.set_cons_succ, i64_w, i32_w]
             rfl
            refine pure_ (i := 12) (N := some 57) (v := ?_) (a' := ?_) #[false, true, true, true, false, true, false, false, true, true, true, false, true, false, false, false, false] rfl rfl (any_of HT_.out (by kernel_rfl)) (fun _ _ _ h => h) (Or.inl ⟨by rfl, ?_⟩) ?_ ?_
            rotate_left
            ·intro w'
             go_simp
             with_reducible rfl
            rotate_left
            ·simp only [Act.put, List.setIfInBounds_toArray, List.set_cons_zero, List.set_cons_succ, i64_w, i32_w]
             rfl
            refine one_ (i := 0) (N := some 45) #[true, true, true, true, false, true, false, false, true, true, true, false, true, false, false, false, false] rfl rfl (one_of HT_.out (by kernel_rfl)) (by decide) (fun K hK => ?_)
            refine Kd.R_lit_step (Kd.int .u8) _ 5 ?hg (N := 45) ?hd (xs := ([] : List Int)) (inner := []) (ok := fun _ => True) (okp := fun _ => True) ?hr ?hp (fun _ hk => hk) trivial (Below.refl _ _) (Nat.le_refl _) (by simp) ?_; (case hd => rfl); (case hg => rfl); (case hr => first | (go_simp; done) | (go_simp; rfl)); (case hp => exact (Reps.none _ _))
            intro v208 w48 ho49 hb hg_ hnew_
            clear hg_ hnew_
            (first | rw [← Ny207.out] at ho49 | (simp only [Int.reduceToNat] at ho49; rw [← Ny207.out] at ho49))
            have n0_ := Aside0.mk (Kd.R_lower ho49 (Bz HB))
            have n1_ := Bs HB hb
            clear HB
            have HO209 := n0_
            have HB := n1_
            clear n0_ n1_
            clear hb ho49
            refine hK.out _ _ trivial (fun hHeld => ?_)
            clear hK K
            refine norm_ (a' := ?_) ?_ ?_
            rotate_left
            ·show Act.put _ (some 45) _ = _
             simp only [Act.put, List.setIfInBounds_toArray, List.set_cons_zero, List.set_cons_succ, i64_w, i32_w]
             rfl
            refine one_ (i := 4) (N := some 49) #[true, true, true, true, true, true, false, false, true, true, true, false, true, false, false, false, false] rfl rfl (one_of HT_.out (by kernel_rfl)) (by decide) (fun K hK => ?_)
            refine Kd.R_append_rows_step (Kd.int .u8) (w0 := w) w.heap.size (by rfl) (.tmp 45) (.tmp 48) 23 5 (.int .u8 0) 1 rfl Tryd.underlying23 info5 rfl (by decide) (by omega) v208 y207 (l0.take ((ji34) : Int).toNat) _ _ _ (fun _ => True) (fun _ => False) rfl rfl ?aO ?aR (fun _ _ h => h) (fun _ h => h.elim) ?aF ?aB ?aS ?aL ?_
            (case aR => first | (refine Eq.mp (congrArg (fun n_ => ReadsRow _ _ _ _ n_ _) (show (l0.take ((ji34) : Int).toNat).length = (ji34).toNat from (by rw [List.length_take]; have h_ : ((ji34) : Int) ≤ (l0.length : Int) := of_decide_eq_true (by first | (with_reducible assumption) | assumption); omega))) ?_; (repeat (first | exact (Kd.C_below HR210.out HB.out) | (with_reducible refine Kd.C_alloc ?_ _) | (with_reducible refine Kd.C_drewN ?_ _) | (with_reducible refine Kd.C_drew ?_))); done) | (rw [← show (l0.take ((ji34) : Int).toNat).length = (ji34).toNat from (by rw [List.length_take]; have h_ : ((ji34) : Int) ≤ (l0.length : Int) := of_decide_eq_true (by first | (with_reducible assumption) | assumption); omega)]; (repeat (first | exact (Kd.C_below HR210.out HB.out) | (with_reducible refine Kd.C_alloc ?_ _) | (with_reducible refine Kd.C_drewN ?_ _) | (with_reducible refine Kd.C_drew ?_))); done) | (repeat (first | exact (Kd.C_below HR210.out HB.out) | (with_reducible refine Kd.C_alloc ?_ _) | (with_reducible refine Kd.C_drewN ?_ _) | (with_reducible refine Kd.C_drew ?_))))
            (case aB => exact (Bu HB))
            (case aF => exact (fun _ _ => trivial))
            (case aO => exact (Ru HO209))
            (case aS => exact (Bz HB))
            (case aL => have := LMc37.out; have hlx_ := (show (l0.take ((ji34) : Int).toNat).length = (ji34).toNat from (by rw [List.length_take]; have h_ : ((ji34) : Int) ≤ (l0.length : Int) := of_decide_eq_true (by first | (with_reducible assumption) | assumption); omega)); omega)
            intro v212 w50 ho hb hg hat
            rw [← Ny211.out] at ho
            have n0_ := Aside0.mk (hb)
            have n1_ := Aside0.mk (ho)
            clear HB
            clear HO209
            have HB := n0_
            have HO213 := n1_
            clear n0_ n1_
            clear ho hb hg hat
            refine hK.out _ _ trivial (fun hHeld => ?_)
            clear hK K
            refine norm_ (a' := ?_) ?_ ?_
            rotate_left
            ·show Act.put _ (some 49) _ = _
             simp only [Act.put, List.setIfInBounds_toArray, List.set_cons_zero, List.set_cons_succ, i64_w, i32_w]
             rfl
            refine one_ (i := 6) (N := some 51) #[true, true, true, true, true, true, true, false, true, true, true, false, true, false, false, false, false] rfl rfl (one_of HT_.out (by kernel_rfl)) (by decide) (fun K hK => ?_)
            refine Kd.R_append_rows_step (Kd.int .u8) (w0 := w) w.heap.size (by rfl) (.tmp 49) (.tmp 50) 23 5 (.int .u8 0) 1 rfl Tryd.underlying23 info5 rfl (by decide) (by omega) v212 y211 l1 _ _ _ (fun _ => True) (fun _ => False) rfl rfl ?aO ?aR (fun _ _ h => h) (fun _ h => h.elim) ?aF ?aB ?aS ?aL ?_
            (case aR => repeat (first | exact (Kd.C_below HR1.out HB.out) | (with_reducible refine Kd.C_alloc ?_ _) | (with_reducible refine Kd.C_drewN ?_ _) | (with_reducible refine Kd.C_drew ?_)))
            (case aB => exact (Bu HB))
            (case aF => exact (fun _ _ => trivial))
            (case aO => exact (Ru HO213))
            (case aS => exact (Bz HB))
            (case aL => have := LMc38.out; omega)
            intro v215 w51 ho hb hg hat
            rw [← Ny214.out] at ho
            have n0_ := Aside0.mk (hb)
            have n1_ := Aside0.mk (ho)
            clear HB
            clear HO213
            have HB := n0_
            have HO216 := n1_
            clear n0_ n1_
            clear ho hb hg hat
            obtain ⟨Ao52, co52, eo52⟩ := Kd.R_slice HO216.out
            (first | subst eo52 | (injection eo52 with f1_ f2_ f3_; have f4_ := f1_.symm; have f5_ := f3_.symm; clear f1_ f2_ f3_; subst f4_; subst f5_))
            refine hK.out _ _ trivial (fun hHeld => ?_)
            clear hK K
            refine norm_ (a' := ?_) ?_ ?_
            rotate_left
            ·show Act.put _ (some 51) _ = _
             simp only [Act.put, List.setIfInBounds_toArray, List.set_cons_zero, List.set_cons_succ, i64_w, i32_w]
             rfl
            refine one_ (i := 7) (N := some 52) #[true, true, true, true, true, true, true, true, true, true, true, false, true, false, false, false, false] rfl rfl (one_of HT_.out (by kernel_rfl)) (by decide) (fun K hK => ?_)
            refine goes_ Tryd.func11 (by kernel_rfl) rfl #[.slice Ao52 y214.length co52] (by rfl) rfl rfl (by (try simp only [List.map_toArray, List.map_cons, List.map_nil]); first | done | rfl | (simp only [List.length_drop, List.length_take]; rfl)) ?_
            with_reducible refine (base_Encode.calls _ _ y214 t217 _ ?side1 ?side2 A39.out).mono ?_
            (case side1 => exact Cu (Kd.R_reads' HO216.out).2.2)
            (case side2 => exact (Kd.R_reads' HO216.out).2.1)
            rintro e w53 ⟨rfl, hb⟩
            refine ⟨_, rfl, ?_⟩
            have n0_ := Rb HO216 hb
            have n1_ := Bs HB hb
            clear HO216
            clear HB
            have HO216 := n0_
            have HB := n1_
            clear n0_ n1_
            (try clear hb)
            (try clear hb2)
            (try clear hk)
            (try clear hi)
            refine hK.out _ _ trivial (fun hHeld => ?_)
            clear hK K
            refine norm_ (a' := ?_) ?_ ?_
            rotate_left
            ·show Act.put _ (some 52) _ = _
             simp only [Act.put, List.setIfInBounds_toArray, List.set_cons_zero, List.set_cons_succ, i64_w, i32_w]
             rfl
            refine one_ (i := 11) (N := some 56) #[true, true, true, true, true, true, true, true, true, true, true, true, true, false, false, false, false] rfl rfl (one_of HT_.out (by kernel_rfl)) (by decide) (fun K hK => ?_)
            refine goes_ Tryd.func11 (by kernel_rfl) rfl #[.slice A0 (l0.take ((ji34) : Int).toNat).length c0] (by rfl) rfl rfl (by (try simp only [List.map_toArray, List.map_cons, List.map_nil]); first | done | (rw [show (l0.take ((ji34) : Int).toNat).length = (ji34).toNat from (by rw [List.length_take]; have h_ : ((ji34) : Int) ≤ (l0.length : Int) := of_decide_eq_true (by first | (with_reducible assumption) | assumption); omega)] <;> rfl) | (simp only [hji34]; rfl) | rfl | (simp only [List.length_drop, List.length_take]; rfl)) ?_
            with_reducible refine (base_Encode.calls _ _ (l0.take ((ji34) : Int).toNat) t219 _ ?side1 ?side2 A42.out).mono ?_
            (case side1 => exact Cu (Kd.C_below HR218.out HB.out))
            (case side2 => exact HC218.out)
            rintro e w54 ⟨rfl, hb⟩
            refine ⟨_, rfl, ?_⟩
            have n0_ := Rb HO216 hb
            have n1_ := Bs HB hb
            clear HO216
            clear HB
            have HO216 := n0_
            have HB := n1_
            clear n0_ n1_
            (try clear hb)
            (try clear hb2)
            (try clear hk)
            (try clear hi)
            refine hK.out _ _ trivial (fun hHeld => ?_)
            clear hK K
            refine norm_ (a' := ?_) ?_ ?_
            rotate_left
            ·show Act.put _ (some 56) _ = _
             simp only [Act.put, List.setIfInBounds_toArray, List.set_cons_zero, List.set_cons_succ, i64_w, i32_w]
             rfl
            refine one_ (i := 13) (N := some 58) #[true, true, true, true, true, true, true, true, true, true, true, true, true, true, false, false, false] rfl rfl (one_of HT_.out (by kernel_rfl)) (by decide) (fun K hK => ?_)
            refine goes_ Tryd.func11 (by kernel_rfl) rfl #[.slice A1 l1.length c1] (by rfl) rfl rfl (by (try simp only [List.map_toArray, List.map_cons, List.map_nil]); first | done | rfl | (simp only [List.length_drop, List.length_take]; rfl)) ?_
            with_reducible refine (base_Encode.calls _ _ l1 t220 _ ?side1 ?side2 A43.out).mono ?_
            (case side1 => exact Cu (Kd.C_below HR1.out HB.out))
            (case side2 => exact HC1.out)
            rintro e w55 ⟨rfl, hb⟩
            refine ⟨_, rfl, ?_⟩
            have n0_ := Rb HO216 hb
            have n1_ := Bs HB hb
            clear HO216
            clear HB
            have HO216 := n0_
            have HB := n1_
            clear n0_ n1_
            (try clear hb)
            (try clear hb2)
            (try clear hk)
            (try clear hi)
            refine hK.out _ _ trivial (fun hHeld => ?_)
            clear hK K
            refine norm_ (a' := ?_) ?_ ?_
            rotate_left
            ·show Act.put _ (some 58) _ = _
             simp only [Act.put, List.setIfInBounds_toArray, List.set_cons_zero, List.set_cons_succ, i64_w, i32_w]
             rfl
            refine pure_ (i := 14) (N := some 59) (v := ?_) (a' := ?_) #[true, true, true, true, true, true, true, true, true, true, true, true, true, true, true, false, false] rfl rfl (any_of HT_.out (by kernel_rfl)) (fun _ _ _ h => h) (Or.inl ⟨by rfl, ?_⟩) ?_ ?_
            rotate_left
            ·intro w'
             go_simp
             with_reducible rfl
            rotate_left
            ·simp only [Act.put, List.setIfInBounds_toArray, List.set_cons_zero, List.set_cons_succ, i64_w, i32_w]
             rfl
            refine pure_ (i := 15) (N := some 60) (v := ?_) (a' := ?_) #[true, true, true, true, true, true, true, true, true, true, true, true, true, true, true, true, false] rfl rfl (any_of HT_.out (by kernel_rfl)) (fun _ _ _ h => h) (Or.inl ⟨by rfl, ?_⟩) ?_ ?_
            rotate_left
            ·intro w'
             go_simp
             with_reducible rfl
            rotate_left
            ·simp only [Act.put, List.setIfInBounds_toArray, List.set_cons_zero, List.set_cons_succ, i64_w, i32_w]
             rfl
            refine pure_ (i := 16) (N := some 4) (v := ?_) (a' := ?_) #[true, true, true, true, true, true, true, true, true, true, true, true, true, true, true, true, true] rfl rfl (any_of HT_.out (by kernel_rfl)) (fun _ _ _ h => h) (Or.inl ⟨by rfl, ?_⟩) ?_ ?_
            rotate_left
            ·intro w'
             go_simp
             with_reducible rfl
            rotate_left
            ·simp only [Act.put, List.setIfInBounds_toArray, List.set_cons_zero, List.set_cons_succ, i64_w, i32_w]
             rfl
            refine done_ (done_of HT_.out (by kernel_rfl)) ?_
            try go_wp2
            go_ret
            exact ⟨by first | rfl | (simp [errW_none, errW_some] <;> rfl) | (simp only [← hji34]; first | rfl | (simp [errW_none, errW_some] <;> rfl)) | (simp [*, errW_none, errW_some] <;> rfl), Bu HB⟩
           ·rw [if_neg c44] at H
            exact absurd H (by simp)
          ·rw [if_neg c38] at H
           exact absurd H (by simp)
         ·rw [if_neg c37] at H
          exact absurd H (by simp)
        ·rw [if_neg c36] at H
         exact absurd H (by simp)
       ·rw [if_neg c35] at H
        exact absurd H (by simp)

/-- THE ONE PURE STATEMENT of lanyardlaw02_BaseApart: yours. -/
def lanyardlaw02_BaseApart.Pure : Prop := ∀ (l0 : List Int) (l1 : List Int), l0.length ≤ maxLen → l0.length * 1 ≤ 140737488351232 → (∀ x ∈ l0, (Lit.int .u8 x).wf = true) → l1.length ≤ maxLen → l1.length * 1 ≤ 140737488351232 → (∀ x ∈ l1, (Lit.int .u8 x).wf = true) → ∃ k, lanyardlaw02_BaseApart.f k l0 l1 = some true
theorem lanyardlaw02_BaseApart.walk (P : lanyardlaw02_BaseApart.Pure) (a0 : Option Addr) (len0 cap0 : Nat) (z0 : List Int) (a1 : Option Addr) (len1 cap1 : Nat) (z1 : List Int) (w : World) (w0 : (a0 = none ∧ len0 = 0 ∧ cap0 = 0 ∧ z0 = []) ∨ ∃ x, a0 = some x ∧ len0 ≤ cap0 ∧ cap0 ≤ maxLen ∧ z0.length = cap0 ∧ (∀ i, i < z0.length → w.cell? (x.add i) = some (.int .u8 (z0.getD i 0))) ∧ ∀ n ∈ z0, (Lit.int .u8 n).wf = true) (y0 : len0 * 1 ≤ 140737488351232) (w1 : (a1 = none ∧ len1 = 0 ∧ cap1 = 0 ∧ z1 = []) ∨ ∃ x, a1 = some x ∧ len1 ≤ cap1 ∧ cap1 ≤ maxLen ∧ z1.length = cap1 ∧ (∀ i, i < z1.length → w.cell? (x.add i) = some (.int .u8 (z1.getD i 0))) ∧ ∀ n ∈ z1, (Lit.int .u8 n).wf = true) (y1 : len1 * 1 ≤ 140737488351232) (hU : Uni w) :
  Calls Tryd.prog 4 #[.slice a0 len0 cap0, .slice a1 len1 cap1] w fun e w' => e = .returned (.bool true) ∧ Below w.heap.size w w' := by
 obtain ⟨l0, rfl, hr0, hm0, hw0, hc0⟩ := ReadsInt.ofRowC w0
 obtain ⟨l1, rfl, hr1, hm1, hw1, hc1⟩ := ReadsInt.ofRowC w1
 obtain ⟨k, h⟩ := P l0 l1 hm0 y0 hw0 hm1 y1 hw1
 refine (lanyardlaw02_BaseApart.calls k _ _ l0 _ _ l1 true w (Kd.C_of_reads (d := (0 : Int)) (h1 := fun _ => rfl) hr0) hc0 (Kd.C_of_reads (d := (0 : Int)) (h1 := fun _ => rfl) hr1) hc1 hU h).mono ?_
 rintro e w' ⟨rfl, hd⟩
 exact ⟨rfl, hd⟩

end Go.Proofs.YtfphmpnkfjeceaaDoor.Hp
