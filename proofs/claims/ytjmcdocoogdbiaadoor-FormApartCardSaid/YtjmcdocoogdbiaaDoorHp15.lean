/- Go functions of this seat as Lean functions, and their contracts: what the Go code computes, for every input. (By hp.py, a program of this repo, over the kit's print.py.) -/
import Derived.Test.YtjmcdocoogdbiaaDoorHp0
import Derived.Test.YtjmcdocoogdbiaaDoorHp2
import Derived.Test.YtjmcdocoogdbiaaDoorHp4
import Derived.Test.YtjmcdocoogdbiaaDoorHp9
namespace Go.Proofs.YtjmcdocoogdbiaaDoor.Hp
open Go.RowKit Go.Proofs.YtjmcdocoogdbiaaDoorW.PrintWords Go.Proofs.YtjmcdocoogdbiaaDoorW.PrintLast Go.Proofs.YtjmcdocoogdbiaaDoorW.PrintMore
attribute [local go_sem] max2_int min2_int max_two min_two max_three min_three max_four min_four   -- for this text's walks alone
set_option linter.unusedVariables false
set_option linter.unusedSimpArgs false

/-! ### lanyardlaw03_FormApart: function 7 -/
mutual
def lanyardlaw03_FormApart.j0 : Nat → ByteArray → ByteArray → Bool → Option (Bool)
 | 0, _, _, _ => none
 | k + 1, x0, x1, x17 => if x17 = true then ((lanyardlaw03_awake.f k).bind fun t252 => (some t252)) else ((escape_Percent.f x0).bind fun t253 => ((escape_Percent.f x1).bind fun t254 => (if ((t253.toList == t254.toList) != (x0.toList == x1.toList)) = true then (lanyardlaw03_FormApart.j1 k x0 x1 true) else ((escape_Attr.f x0).bind fun t255 => ((escape_Attr.f x1).bind fun t256 => (if ((t255.toList == t256.toList) != (x0.toList == x1.toList)) = true then (lanyardlaw03_FormApart.j1 k x0 x1 true) else ((escape_Text.f x0).bind fun t257 => ((escape_Text.f x1).bind fun t258 => (if ((t257.toList == t258.toList) != (x0.toList == x1.toList)) = true then (lanyardlaw03_FormApart.j1 k x0 x1 true) else ((escape_Page.f x0).bind fun t259 => ((escape_Page.f x1).bind fun t260 => (lanyardlaw03_FormApart.j1 k x0 x1 ((t259.toList == t260.toList) != (x0.toList == x1.toList))))))))))))))
def lanyardlaw03_FormApart.j1 : Nat → ByteArray → ByteArray → Bool → Option (Bool)
 | 0, _, _, _ => none
 | k + 1, x0, x1, x55 => if x55 = true then (some false) else (if x0.size + x1.size ≤ 9223372036854775807 then ((escape_Percent.f (x0 ++ x1)).bind fun t261 => ((escape_Percent.f x0).bind fun t262 => ((escape_Percent.f x1).bind fun t263 => (if t262.size + t263.size ≤ 9223372036854775807 then (if t261.toList = (t262 ++ t263).toList then ((escape_Attr.f (x0 ++ x1)).bind fun t264 => ((escape_Attr.f x0).bind fun t265 => ((escape_Attr.f x1).bind fun t266 => (if t265.size + t266.size ≤ 9223372036854775807 then (if t264.toList = (t265 ++ t266).toList then ((escape_Text.f (x0 ++ x1)).bind fun t267 => ((escape_Text.f x0).bind fun t268 => ((escape_Text.f x1).bind fun t269 => (if t268.size + t269.size ≤ 9223372036854775807 then (if t267.toList = (t268 ++ t269).toList then ((escape_Page.f (x0 ++ x1)).bind fun t270 => ((escape_Page.f x0).bind fun t271 => ((escape_Page.f x1).bind fun t272 => (if t271.size + t272.size ≤ 9223372036854775807 then (some (t270.toList == (t271 ++ t272).toList)) else (none))))) else (some false)) else (none))))) else (some false)) else (none))))) else (some false)) else (none))))) else (none))
end
def lanyardlaw03_FormApart.f (k : Nat) (a0 : ByteArray) (a1 : ByteArray) : Option (Bool) := (lanyardlaw03_awake.f k).bind fun t251 => (if t251 = true then (if (a0.size : Int) > 1000 then (lanyardlaw03_FormApart.j0 k a0 a1 true) else (lanyardlaw03_FormApart.j0 k a0 a1 (decide ((a1.size : Int) > 1000)))) else (lanyardlaw03_FormApart.j0 k a0 a1 true))
theorem lanyardlaw03_FormApart.mono_l : ∀ k, (∀ y0 y1 y2, LeO (lanyardlaw03_FormApart.j0 k y0 y1 y2) (lanyardlaw03_FormApart.j0 (k + 1) y0 y1 y2)) ∧ (∀ y0 y1 y2, LeO (lanyardlaw03_FormApart.j1 k y0 y1 y2) (lanyardlaw03_FormApart.j1 (k + 1) y0 y1 y2))
 | 0 => ⟨fun _ _ _ r h => by simp [lanyardlaw03_FormApart.j0] at h, fun _ _ _ r h => by simp [lanyardlaw03_FormApart.j1] at h⟩
 | k + 1 => by
  obtain ⟨ih0, ih1⟩ := lanyardlaw03_FormApart.mono_l k
  refine ⟨?_, ?_⟩
  ·intro y0 y1 y2
   unfold lanyardlaw03_FormApart.j0
   repeat' first
   | (with_reducible exact ih0 _ _ _)
   | (with_reducible exact ih1 _ _ _)
   | (with_reducible exact lanyardlaw03_awake.mono _)
   | (with_reducible exact LeO.refl _)
   | (with_reducible exact LeO.none _)
   | (with_reducible refine LeO.ite ?_ ?_)
   | (with_reducible refine LeO.bind ?_ (fun _ => ?_))
   | exact ih0 _ _ _
   | exact ih1 _ _ _
   | exact lanyardlaw03_awake.mono _
   | exact LeO.none _
   | refine LeO.ite ?_ ?_
   | refine LeO.bind ?_ (fun _ => ?_)
  ·intro y0 y1 y2
   unfold lanyardlaw03_FormApart.j1
   repeat' first
   | (with_reducible exact ih0 _ _ _)
   | (with_reducible exact ih1 _ _ _)
   | (with_reducible exact lanyardlaw03_awake.mono _)
   | (with_reducible exact LeO.refl _)
   | (with_reducible exact LeO.none _)
   | (with_reducible refine LeO.ite ?_ ?_)
   | (with_reducible refine LeO.bind ?_ (fun _ => ?_))
   | exact ih0 _ _ _
   | exact ih1 _ _ _
   | exact lanyardlaw03_awake.mono _
   | exact LeO.none _
   | refine LeO.ite ?_ ?_
   | refine LeO.bind ?_ (fun _ => ?_)
theorem lanyardlaw03_FormApart.mono : ∀ a0 a1 k, LeO (lanyardlaw03_FormApart.f k a0 a1) (lanyardlaw03_FormApart.f (k + 1) a0 a1) := by
 intro a0 a1 k
 obtain ⟨ih0, ih1⟩ := lanyardlaw03_FormApart.mono_l k
 unfold lanyardlaw03_FormApart.f
 repeat' first
   | (with_reducible exact ih0 _ _ _)
   | (with_reducible exact ih1 _ _ _)
   | (with_reducible exact lanyardlaw03_awake.mono _)
   | (with_reducible exact LeO.refl _)
   | (with_reducible exact LeO.none _)
   | (with_reducible refine LeO.ite ?_ ?_)
   | (with_reducible refine LeO.bind ?_ (fun _ => ?_))
   | exact ih0 _ _ _
   | exact ih1 _ _ _
   | exact lanyardlaw03_awake.mono _
   | exact LeO.none _
   | refine LeO.ite ?_ ?_
   | refine LeO.bind ?_ (fun _ => ?_)
set_option maxHeartbeats 8000000 in
set_option maxRecDepth 100000 in
theorem lanyardlaw03_FormApart.calls (k : Nat) (a0 : ByteArray) (a1 : ByteArray) (r : Bool) (w : World) (hU : Uni w) (h : lanyardlaw03_FormApart.f k a0 a1 = some r) :
  Calls Tryd.prog 7 #[.string a0, .string a1] w fun e w' => e = .returned (.bool r) ∧ Below w.heap.size w w' := by
 have HU := Aside0.mk hU
 clear hU
 have HB := Aside0.mk (Below.refl w.heap.size w)
 have H : ((lanyardlaw03_awake.f k).bind fun t251 => (if t251 = true then (if (a0.size : Int) > 1000 then (lanyardlaw03_FormApart.j0 k a0 a1 true) else (lanyardlaw03_FormApart.j0 k a0 a1 (decide ((a1.size : Int) > 1000)))) else (lanyardlaw03_FormApart.j0 k a0 a1 true))) = some r := h
 clear h
 have HC3 := Aside0.mk H
 clear H
 go_enter Tryd.func7, Tryd.ntmps7
 go_upto_region 1 with (fail)
 go_cut [17] (fun v17 wc => ∃ (kq : Nat) (x17_2 : Bool), v17 = .bool x17_2 ∧ Aside0 (lanyardlaw03_FormApart.j0 kq a0 a1 x17_2 = some r) ∧ Aside0 (kq ≤ k) ∧ Aside0 (Below w.heap.size w wc))
 case first =>
  have H := HC3.out
  clear HC3
  replace H := Option.bind_eq_some_iff.mp H
  obtain ⟨t251, A40, H⟩ := H
  replace H : (if t251 = true then (if (a0.size : Int) > 1000 then (lanyardlaw03_FormApart.j0 k a0 a1 true) else (lanyardlaw03_FormApart.j0 k a0 a1 (decide ((a1.size : Int) > 1000)))) else (lanyardlaw03_FormApart.j0 k a0 a1 true)) = some r := H
  have A4 := Aside0.mk A40
  clear A40
  by_cases c5 : t251 = true
  ·subst c5
   have H1 : (if (a0.size : Int) > 1000 then (lanyardlaw03_FormApart.j0 k a0 a1 true) else (lanyardlaw03_FormApart.j0 k a0 a1 (decide ((a1.size : Int) > 1000)))) = some r := by rw [if_pos rfl] at H; exact H
   clear H
   have H := H1
   clear H1
   by_cases c6 : (a0.size : Int) > 1000
   ·rw [if_pos c6] at H
    have c6b0 : decide (1000 < (a0.size : Int)) = true := decide_eq_true c6
    have c6b1 : decide (1000 < a0.size) = true := decide_eq_true (by omega)
    clear c6
    (first | rw [c6b0] | (simp only [i64_w, i32_w]; rw [c6b0]) | skip)
    have H' := Aside0.mk H
    clear H
    go_wp2_with (first | ((with_reducible refine gate_callee (f := 8) rfl ?_); refine goesA (some 6) Tryd.func8 #[] rfl ?_; (with_reducible refine (lanyardlaw03_awake.calls k  true _ ?sideU A4.out).mono ?_); (case sideU => first | exact HU.out | exact Uni.up HU (Bu HB) | exact Uni.below HU.out (by assumption)); rintro e w7 ⟨rfl, hb⟩; refine ⟨_, rfl, ?_⟩; have n0_ := Bs HB hb; clear HB; revert n0_; intro HB; (try clear hb); (try clear hb2); (try clear hk); (try clear hi)))
    go_meet
    case rel => exact ⟨_, (true), (by first | rfl | (simp; done) | (simp [*]; done)), H', ⟨by first | omega | exact Nat.le_refl _⟩, ⟨Bu HB⟩⟩
   ·rw [if_neg c6] at H
    have c6b0 : decide (1000 < (a0.size : Int)) = false := decide_eq_false c6
    have c6b1 : decide (1000 < a0.size) = false := decide_eq_false (by omega)
    clear c6
    (first | rw [c6b0] | (simp only [i64_w, i32_w]; rw [c6b0]) | skip)
    have H' := Aside0.mk H
    clear H
    go_wp2_with (first | ((with_reducible refine gate_callee (f := 8) rfl ?_); refine goesA (some 6) Tryd.func8 #[] rfl ?_; (with_reducible refine (lanyardlaw03_awake.calls k  true _ ?sideU A4.out).mono ?_); (case sideU => first | exact HU.out | exact Uni.up HU (Bu HB) | exact Uni.below HU.out (by assumption)); rintro e w8 ⟨rfl, hb⟩; refine ⟨_, rfl, ?_⟩; have n0_ := Bs HB hb; clear HB; revert n0_; intro HB; (try clear hb); (try clear hb2); (try clear hk); (try clear hi)))
    go_meet
    case rel => exact ⟨_, (decide ((a1.size : Int) > 1000)), (by first | rfl | (simp; done) | (simp [*]; done)), H', ⟨by first | omega | exact Nat.le_refl _⟩, ⟨Bu HB⟩⟩
  ·replace c5 := Bool.eq_false_iff.mpr c5
   subst c5
   have H1 : (lanyardlaw03_FormApart.j0 k a0 a1 true) = some r := by rw [if_neg (show ¬ (false = true) by decide)] at H; exact H
   clear H
   have H := H1
   clear H1
   have H' := Aside0.mk H
   clear H
   go_wp2_with (first | ((with_reducible refine gate_callee (f := 8) rfl ?_); refine goesA (some 6) Tryd.func8 #[] rfl ?_; (with_reducible refine (lanyardlaw03_awake.calls k  false _ ?sideU A4.out).mono ?_); (case sideU => first | exact HU.out | exact Uni.up HU (Bu HB) | exact Uni.below HU.out (by assumption)); rintro e w9 ⟨rfl, hb⟩; refine ⟨_, rfl, ?_⟩; have n0_ := Bs HB hb; clear HB; revert n0_; intro HB; (try clear hb); (try clear hb2); (try clear hk); (try clear hi)))
   go_meet
   case rel => exact ⟨_, (true), (by first | rfl | (simp; done) | (simp [*]; done)), H', ⟨by first | omega | exact Nat.le_refl _⟩, ⟨Bu HB⟩⟩
 case rest =>
  clear HC3
  try clear p2
  try clear c5
  try clear c6
  try clear c6b0
  try clear c6b1
  try clear c7
  try clear c8
  obtain ⟨kq, x17_2, rfl, HA, HJ2, HB⟩ := hcut
  cases kq with
  | zero => exact absurd HA.out (by simp [lanyardlaw03_FormApart.j0])
  | succ kj2 =>
   have H := HA.out
   clear HA
   simp only [lanyardlaw03_FormApart.j0] at H
   by_cases c10 : x17_2 = true
   ·subst c10
    have H1 : ((lanyardlaw03_awake.f kj2).bind fun t252 => (some t252)) = some r := by rw [if_pos rfl] at H; exact H
    clear H
    have H := H1
    clear H1
    replace H := Option.bind_eq_some_iff.mp H
    obtain ⟨t252, A110, H⟩ := H
    replace H : (some t252) = some r := H
    have A11 := Aside0.mk A110
    clear A110
    obtain rfl := Option.some.inj H
    go_wp2_with (first | ((with_reducible refine gate_callee (f := 8) rfl ?_); refine goesA (some 18) Tryd.func8 #[] rfl ?_; (with_reducible refine (lanyardlaw03_awake.calls kj2  t252 _ ?sideU A11.out).mono ?_); (case sideU => first | exact HU.out | exact Uni.up HU (Bu HB) | exact Uni.below HU.out (by assumption)); rintro e w12 ⟨rfl, hb⟩; refine ⟨_, rfl, ?_⟩; have n0_ := Bs HB hb; clear HB; revert n0_; intro HB; (try clear hb); (try clear hb2); (try clear hk); (try clear hi)))
    go_ret
    exact ⟨rfl_, Bu HB⟩
   ·replace c10 := Bool.eq_false_iff.mpr c10
    subst c10
    have H1 : ((escape_Percent.f a0).bind fun t253 => ((escape_Percent.f a1).bind fun t254 => (if ((t253.toList == t254.toList) != (a0.toList == a1.toList)) = true then (lanyardlaw03_FormApart.j1 kj2 a0 a1 true) else ((escape_Attr.f a0).bind fun t255 => ((escape_Attr.f a1).bind fun t256 => (if ((t255.toList == t256.toList) != (a0.toList == a1.toList)) = true then (lanyardlaw03_FormApart.j1 kj2 a0 a1 true) else ((escape_Text.f a0).bind fun t257 => ((escape_Text.f a1).bind fun t258 => (if ((t257.toList == t258.toList) != (a0.toList == a1.toList)) = true then (lanyardlaw03_FormApart.j1 kj2 a0 a1 true) else ((escape_Page.f a0).bind fun t259 => ((escape_Page.f a1).bind fun t260 => (lanyardlaw03_FormApart.j1 kj2 a0 a1 ((t259.toList == t260.toList) != (a0.toList == a1.toList)))))))))))))) = some r := by rw [if_neg (show ¬ (false = true) by decide)] at H; exact H
    clear H
    have H := H1
    clear H1
    have HC13 := Aside0.mk H
    clear H
    go_upto_region 4 with (fail)
    go_cut [55] (fun v55 wc => ∃ (kq : Nat) (x55_12 : Bool), v55 = .bool x55_12 ∧ Aside0 (lanyardlaw03_FormApart.j1 kq a0 a1 x55_12 = some r) ∧ Aside0 (kq ≤ kj2) ∧ Aside0 (Below w.heap.size w wc))
    case first =>
     have H := HC13.out
     clear HC13
     replace H := Option.bind_eq_some_iff.mp H
     obtain ⟨t253, A140, H⟩ := H
     replace H : ((escape_Percent.f a1).bind fun t254 => (if ((t253.toList == t254.toList) != (a0.toList == a1.toList)) = true then (lanyardlaw03_FormApart.j1 kj2 a0 a1 true) else ((escape_Attr.f a0).bind fun t255 => ((escape_Attr.f a1).bind fun t256 => (if ((t255.toList == t256.toList) != (a0.toList == a1.toList)) = true then (lanyardlaw03_FormApart.j1 kj2 a0 a1 true) else ((escape_Text.f a0).bind fun t257 => ((escape_Text.f a1).bind fun t258 => (if ((t257.toList == t258.toList) != (a0.toList == a1.toList)) = true then (lanyardlaw03_FormApart.j1 kj2 a0 a1 true) else ((escape_Page.f a0).bind fun t259 => ((escape_Page.f a1).bind fun t260 => (lanyardlaw03_FormApart.j1 kj2 a0 a1 ((t259.toList == t260.toList) != (a0.toList == a1.toList))))))))))))) = some r := H
     have A14 := Aside0.mk A140
     clear A140
     replace H := Option.bind_eq_some_iff.mp H
     obtain ⟨t254, A150, H⟩ := H
     replace H : (if ((t253.toList == t254.toList) != (a0.toList == a1.toList)) = true then (lanyardlaw03_FormApart.j1 kj2 a0 a1 true) else ((escape_Attr.f a0).bind fun t255 => ((escape_Attr.f a1).bind fun t256 => (if ((t255.toList == t256.toList) != (a0.toList == a1.toList)) = true then (lanyardlaw03_FormApart.j1 kj2 a0 a1 true) else ((escape_Text.f a0).bind fun t257 => ((escape_Text.f a1).bind fun t258 => (if ((t257.toList == t258.toList) != (a0.toList == a1.toList)) = true then (lanyardlaw03_FormApart.j1 kj2 a0 a1 true) else ((escape_Page.f a0).bind fun t259 => ((escape_Page.f a1).bind fun t260 => (lanyardlaw03_FormApart.j1 kj2 a0 a1 ((t259.toList == t260.toList) != (a0.toList == a1.toList)))))))))))) = some r := H
     have A15 := Aside0.mk A150
     clear A150
     by_cases c16 : ((t253.toList == t254.toList) != (a0.toList == a1.toList)) = true
     ·rw [if_pos c16] at H
      have c16b0 : ((t253.toList == t254.toList) != (a0.toList == a1.toList)) = true := c16
      (try (have c16b1 : decide ((t253.toList == t254.toList) = (a0.toList == a1.toList)) = false := by simpa using c16))
      (try (have c16b2 : ((t253.toList == t254.toList) == (a0.toList == a1.toList)) = false := by simpa using c16))
      (try (have c16b3 : ¬ ((t253.toList == t254.toList) = (a0.toList == a1.toList)) := by simpa using c16))
      clear c16
      (first | rw [c16b0] | (simp only [i64_w, i32_w]; rw [c16b0]) | skip)
      have H' := Aside0.mk H
      clear H
      go_wp2_with (first | ((with_reducible refine gate_callee (f := 9) rfl ?_); refine goesA (some 23) Tryd.func9 #[.string a0] rfl ?_; (with_reducible refine (escape_Percent.calls a0 t253 _ A14.out).mono ?_); rintro e w17 ⟨rfl, hb⟩; refine ⟨_, rfl, ?_⟩; have n0_ := Bs HB hb; clear HB; revert n0_; intro HB; (try clear hb); (try clear hb2); (try clear hk); (try clear hi)) | ((with_reducible refine gate_callee (f := 9) rfl ?_); refine goesA (some 25) Tryd.func9 #[.string a1] rfl ?_; (with_reducible refine (escape_Percent.calls a1 t254 _ A15.out).mono ?_); rintro e w18 ⟨rfl, hb⟩; refine ⟨_, rfl, ?_⟩; have n0_ := Bs HB hb; clear HB; revert n0_; intro HB; (try clear hb); (try clear hb2); (try clear hk); (try clear hi)))
      go_meet
      case rel => exact ⟨_, (true), (by first | rfl | (simp; done) | (simp [*]; done)), H', ⟨by have := HJ2.out; first | omega | exact Nat.le_refl _⟩, ⟨Bu HB⟩⟩
     ·rw [if_neg c16] at H
      have c16b0 : ((t253.toList == t254.toList) != (a0.toList == a1.toList)) = false := by simpa using c16
      (try (have c16b1 : decide ((t253.toList == t254.toList) = (a0.toList == a1.toList)) = true := by simpa using c16))
      (try (have c16b2 : ((t253.toList == t254.toList) == (a0.toList == a1.toList)) = true := by simpa using c16))
      clear c16
      (first | rw [c16b0] | (simp only [i64_w, i32_w]; rw [c16b0]) | skip)
      replace H := Option.bind_eq_some_iff.mp H
      obtain ⟨t255, A190, H⟩ := H
      replace H : ((escape_Attr.f a1).bind fun t256 => (if ((t255.toList == t256.toList) != (a0.toList == a1.toList)) = true then (lanyardlaw03_FormApart.j1 kj2 a0 a1 true) else ((escape_Text.f a0).bind fun t257 => ((escape_Text.f a1).bind fun t258 => (if ((t257.toList == t258.toList) != (a0.toList == a1.toList)) = true then (lanyardlaw03_FormApart.j1 kj2 a0 a1 true) else ((escape_Page.f a0).bind fun t259 => ((escape_Page.f a1).bind fun t260 => (lanyardlaw03_FormApart.j1 kj2 a0 a1 ((t259.toList == t260.toList) != (a0.toList == a1.toList)))))))))) = some r := H
      have A19 := Aside0.mk A190
      clear A190
      replace H := Option.bind_eq_some_iff.mp H
      obtain ⟨t256, A200, H⟩ := H
      replace H : (if ((t255.toList == t256.toList) != (a0.toList == a1.toList)) = true then (lanyardlaw03_FormApart.j1 kj2 a0 a1 true) else ((escape_Text.f a0).bind fun t257 => ((escape_Text.f a1).bind fun t258 => (if ((t257.toList == t258.toList) != (a0.toList == a1.toList)) = true then (lanyardlaw03_FormApart.j1 kj2 a0 a1 true) else ((escape_Page.f a0).bind fun t259 => ((escape_Page.f a1).bind fun t260 => (lanyardlaw03_FormApart.j1 kj2 a0 a1 ((t259.toList == t260.toList) != (a0.toList == a1.toList))))))))) = some r := H
      have A20 := Aside0.mk A200
      clear A200
      by_cases c21 : ((t255.toList == t256.toList) != (a0.toList == a1.toList)) = true
      ·rw [if_pos c21] at H
       have c21b0 : ((t255.toList == t256.toList) != (a0.toList == a1.toList)) = true := c21
       (try (have c21b1 : decide ((t255.toList == t256.toList) = (a0.toList == a1.toList)) = false := by simpa using c21))
       (try (have c21b2 : ((t255.toList == t256.toList) == (a0.toList == a1.toList)) = false := by simpa using c21))
       (try (have c21b3 : ¬ ((t255.toList == t256.toList) = (a0.toList == a1.toList)) := by simpa using c21))
       clear c21
       have H' := Aside0.mk H
       clear H
       go_wp2_with (first | ((with_reducible refine gate_callee (f := 9) rfl ?_); refine goesA (some 23) Tryd.func9 #[.string a0] rfl ?_; (with_reducible refine (escape_Percent.calls a0 t253 _ A14.out).mono ?_); rintro e w22 ⟨rfl, hb⟩; refine ⟨_, rfl, ?_⟩; have n0_ := Bs HB hb; clear HB; revert n0_; intro HB; (try clear hb); (try clear hb2); (try clear hk); (try clear hi)) | ((with_reducible refine gate_callee (f := 9) rfl ?_); refine goesA (some 25) Tryd.func9 #[.string a1] rfl ?_; (with_reducible refine (escape_Percent.calls a1 t254 _ A15.out).mono ?_); rintro e w23 ⟨rfl, hb⟩; refine ⟨_, rfl, ?_⟩; have n0_ := Bs HB hb; clear HB; revert n0_; intro HB; (try clear hb); (try clear hb2); (try clear hk); (try clear hi)) | (go_at_call 20; (with_reducible refine (escape_Attr.calls a0 t255 _ A19.out).mono ?_); rintro e w24 ⟨rfl, hb⟩; have n0_ := Bs HB hb; clear HB; revert n0_; intro HB; (try clear hb); (try clear hb2); (try clear hk); (try clear hi)) | (go_at_call 20; (with_reducible refine (escape_Attr.calls a1 t256 _ A20.out).mono ?_); rintro e w25 ⟨rfl, hb⟩; have n0_ := Bs HB hb; clear HB; revert n0_; intro HB; (try clear hb); (try clear hb2); (try clear hk); (try clear hi)))
       go_meet
       case rel => exact ⟨_, (true), (by first | rfl | (simp; done) | (simp [*]; done)), H', ⟨by have := HJ2.out; first | omega | exact Nat.le_refl _⟩, ⟨Bu HB⟩⟩
      ·rw [if_neg c21] at H
       have c21b0 : ((t255.toList == t256.toList) != (a0.toList == a1.toList)) = false := by simpa using c21
       (try (have c21b1 : decide ((t255.toList == t256.toList) = (a0.toList == a1.toList)) = true := by simpa using c21))
       (try (have c21b2 : ((t255.toList == t256.toList) == (a0.toList == a1.toList)) = true := by simpa using c21))
       clear c21
       replace H := Option.bind_eq_some_iff.mp H
       obtain ⟨t257, A260, H⟩ := H
       replace H : ((escape_Text.f a1).bind fun t258 => (if ((t257.toList == t258.toList) != (a0.toList == a1.toList)) = true then (lanyardlaw03_FormApart.j1 kj2 a0 a1 true) else ((escape_Page.f a0).bind fun t259 => ((escape_Page.f a1).bind fun t260 => (lanyardlaw03_FormApart.j1 kj2 a0 a1 ((t259.toList == t260.toList) != (a0.toList == a1.toList))))))) = some r := H
       have A26 := Aside0.mk A260
       clear A260
       replace H := Option.bind_eq_some_iff.mp H
       obtain ⟨t258, A270, H⟩ := H
       replace H : (if ((t257.toList == t258.toList) != (a0.toList == a1.toList)) = true then (lanyardlaw03_FormApart.j1 kj2 a0 a1 true) else ((escape_Page.f a0).bind fun t259 => ((escape_Page.f a1).bind fun t260 => (lanyardlaw03_FormApart.j1 kj2 a0 a1 ((t259.toList == t260.toList) != (a0.toList == a1.toList)))))) = some r := H
       have A27 := Aside0.mk A270
       clear A270
       by_cases c28 : ((t257.toList == t258.toList) != (a0.toList == a1.toList)) = true
       ·rw [if_pos c28] at H
        have c28b0 : ((t257.toList == t258.toList) != (a0.toList == a1.toList)) = true := c28
        (try (have c28b1 : decide ((t257.toList == t258.toList) = (a0.toList == a1.toList)) = false := by simpa using c28))
        (try (have c28b2 : ((t257.toList == t258.toList) == (a0.toList == a1.toList)) = false := by simpa using c28))
        (try (have c28b3 : ¬ ((t257.toList == t258.toList) = (a0.toList == a1.toList)) := by simpa using c28))
        clear c28
        have H' := Aside0.mk H
        clear H
        go_wp2_with (first | ((with_reducible refine gate_callee (f := 9) rfl ?_); refine goesA (some 23) Tryd.func9 #[.string a0] rfl ?_; (with_reducible refine (escape_Percent.calls a0 t253 _ A14.out).mono ?_); rintro e w29 ⟨rfl, hb⟩; refine ⟨_, rfl, ?_⟩; have n0_ := Bs HB hb; clear HB; revert n0_; intro HB; (try clear hb); (try clear hb2); (try clear hk); (try clear hi)) | ((with_reducible refine gate_callee (f := 9) rfl ?_); refine goesA (some 25) Tryd.func9 #[.string a1] rfl ?_; (with_reducible refine (escape_Percent.calls a1 t254 _ A15.out).mono ?_); rintro e w30 ⟨rfl, hb⟩; refine ⟨_, rfl, ?_⟩; have n0_ := Bs HB hb; clear HB; revert n0_; intro HB; (try clear hb); (try clear hb2); (try clear hk); (try clear hi)) | (go_at_call 20; (with_reducible refine (escape_Attr.calls a0 t255 _ A19.out).mono ?_); rintro e w31 ⟨rfl, hb⟩; have n0_ := Bs HB hb; clear HB; revert n0_; intro HB; (try clear hb); (try clear hb2); (try clear hk); (try clear hi)) | (go_at_call 20; (with_reducible refine (escape_Attr.calls a1 t256 _ A20.out).mono ?_); rintro e w32 ⟨rfl, hb⟩; have n0_ := Bs HB hb; clear HB; revert n0_; intro HB; (try clear hb); (try clear hb2); (try clear hk); (try clear hi)) | (go_at_call 21; (with_reducible refine (escape_Text.calls a0 t257 _ A26.out).mono ?_); rintro e w33 ⟨rfl, hb⟩; have n0_ := Bs HB hb; clear HB; revert n0_; intro HB; (try clear hb); (try clear hb2); (try clear hk); (try clear hi)) | (go_at_call 21; (with_reducible refine (escape_Text.calls a1 t258 _ A27.out).mono ?_); rintro e w34 ⟨rfl, hb⟩; have n0_ := Bs HB hb; clear HB; revert n0_; intro HB; (try clear hb); (try clear hb2); (try clear hk); (try clear hi)))
        go_meet
        case rel => exact ⟨_, (true), (by first | rfl | (simp; done) | (simp [*]; done)), H', ⟨by have := HJ2.out; first | omega | exact Nat.le_refl _⟩, ⟨Bu HB⟩⟩
       ·rw [if_neg c28] at H
        have c28b0 : ((t257.toList == t258.toList) != (a0.toList == a1.toList)) = false := by simpa using c28
        (try (have c28b1 : decide ((t257.toList == t258.toList) = (a0.toList == a1.toList)) = true := by simpa using c28))
        (try (have c28b2 : ((t257.toList == t258.toList) == (a0.toList == a1.toList)) = true := by simpa using c28))
        clear c28
        replace H := Option.bind_eq_some_iff.mp H
        obtain ⟨t259, A350, H⟩ := H
        replace H : ((escape_Page.f a1).bind fun t260 => (lanyardlaw03_FormApart.j1 kj2 a0 a1 ((t259.toList == t260.toList) != (a0.toList == a1.toList)))) = some r := H
        have A35 := Aside0.mk A350
        clear A350
        replace H := Option.bind_eq_some_iff.mp H
        obtain ⟨t260, A360, H⟩ := H
        replace H : (lanyardlaw03_FormApart.j1 kj2 a0 a1 ((t259.toList == t260.toList) != (a0.toList == a1.toList))) = some r := H
        have A36 := Aside0.mk A360
        clear A360
        have H' := Aside0.mk H
        clear H
        go_wp2_with (first | ((with_reducible refine gate_callee (f := 9) rfl ?_); refine goesA (some 23) Tryd.func9 #[.string a0] rfl ?_; (with_reducible refine (escape_Percent.calls a0 t253 _ A14.out).mono ?_); rintro e w37 ⟨rfl, hb⟩; refine ⟨_, rfl, ?_⟩; have n0_ := Bs HB hb; clear HB; revert n0_; intro HB; (try clear hb); (try clear hb2); (try clear hk); (try clear hi)) | ((with_reducible refine gate_callee (f := 9) rfl ?_); refine goesA (some 25) Tryd.func9 #[.string a1] rfl ?_; (with_reducible refine (escape_Percent.calls a1 t254 _ A15.out).mono ?_); rintro e w38 ⟨rfl, hb⟩; refine ⟨_, rfl, ?_⟩; have n0_ := Bs HB hb; clear HB; revert n0_; intro HB; (try clear hb); (try clear hb2); (try clear hk); (try clear hi)) | (go_at_call 20; (with_reducible refine (escape_Attr.calls a0 t255 _ A19.out).mono ?_); rintro e w39 ⟨rfl, hb⟩; have n0_ := Bs HB hb; clear HB; revert n0_; intro HB; (try clear hb); (try clear hb2); (try clear hk); (try clear hi)) | (go_at_call 20; (with_reducible refine (escape_Attr.calls a1 t256 _ A20.out).mono ?_); rintro e w40 ⟨rfl, hb⟩; have n0_ := Bs HB hb; clear HB; revert n0_; intro HB; (try clear hb); (try clear hb2); (try clear hk); (try clear hi)) | (go_at_call 21; (with_reducible refine (escape_Text.calls a0 t257 _ A26.out).mono ?_); rintro e w41 ⟨rfl, hb⟩; have n0_ := Bs HB hb; clear HB; revert n0_; intro HB; (try clear hb); (try clear hb2); (try clear hk); (try clear hi)) | (go_at_call 21; (with_reducible refine (escape_Text.calls a1 t258 _ A27.out).mono ?_); rintro e w42 ⟨rfl, hb⟩; have n0_ := Bs HB hb; clear HB; revert n0_; intro HB; (try clear hb); (try clear hb2); (try clear hk); (try clear hi)) | (go_at_call 22; (with_reducible refine (escape_Page.calls a0 t259 _ A35.out).mono ?_); rintro e w43 ⟨rfl, hb⟩; have n0_ := Bs HB hb; clear HB; revert n0_; intro HB; (try clear hb); (try clear hb2); (try clear hk); (try clear hi)) | (go_at_call 22; (with_reducible refine (escape_Page.calls a1 t260 _ A36.out).mono ?_); rintro e w44 ⟨rfl, hb⟩; have n0_ := Bs HB hb; clear HB; revert n0_; intro HB; (try clear hb); (try clear hb2); (try clear hk); (try clear hi)))
        go_meet
        case rel => exact ⟨_, (((t259.toList == t260.toList) != (a0.toList == a1.toList))), (by first | rfl | (simp; done) | (simp [*]; done)), H', ⟨by have := HJ2.out; first | omega | exact Nat.le_refl _⟩, ⟨Bu HB⟩⟩
    case rest =>
     clear HC13
     try clear c1
     try clear c2
     try clear p2
     try clear c5
     try clear c6
     try clear c6b0
     try clear c6b1
     try clear c7
     try clear c8
     try clear c9
     try clear c10
     try clear c16
     try clear c16b0
     try clear c16b1
     try clear c16b2
     try clear c21
     try clear c21b0
     try clear c21b1
     try clear c21b2
     try clear c28
     try clear c28b0
     try clear c28b1
     try clear c28b2
     try clear p2
     obtain ⟨kq, x55_12, rfl, HA, HJ12, HB⟩ := hcut
     cases kq with
     | zero => exact absurd HA.out (by simp [lanyardlaw03_FormApart.j1])
     | succ kj12 =>
      have H := HA.out
      clear HA
      simp only [lanyardlaw03_FormApart.j1] at H
      by_cases c45 : x55_12 = true
      ·subst c45
       have H1 : (some false) = some r := by rw [if_pos rfl] at H; exact H
       clear H
       have H := H1
       clear H1
       obtain rfl := Option.some.inj H
       go_wp2
       go_ret
       exact ⟨rfl_, Bu HB⟩
      ·replace c45 := Bool.eq_false_iff.mpr c45
       subst c45
       have H1 : (if a0.size + a1.size ≤ 9223372036854775807 then ((escape_Percent.f (a0 ++ a1)).bind fun t261 => ((escape_Percent.f a0).bind fun t262 => ((escape_Percent.f a1).bind fun t263 => (if t262.size + t263.size ≤ 9223372036854775807 then (if t261.toList = (t262 ++ t263).toList then ((escape_Attr.f (a0 ++ a1)).bind fun t264 => ((escape_Attr.f a0).bind fun t265 => ((escape_Attr.f a1).bind fun t266 => (if t265.size + t266.size ≤ 9223372036854775807 then (if t264.toList = (t265 ++ t266).toList then ((escape_Text.f (a0 ++ a1)).bind fun t267 => ((escape_Text.f a0).bind fun t268 => ((escape_Text.f a1).bind fun t269 => (if t268.size + t269.size ≤ 9223372036854775807 then (if t267.toList = (t268 ++ t269).toList then ((escape_Page.f (a0 ++ a1)).bind fun t270 => ((escape_Page.f a0).bind fun t271 => ((escape_Page.f a1).bind fun t272 => (if t271.size + t272.size ≤ 9223372036854775807 then (some (t270.toList == (t271 ++ t272).toList)) else (none))))) else (some false)) else (none))))) else (some false)) else (none))))) else (some false)) else (none))))) else (none)) = some r := by rw [if_neg (show ¬ (false = true) by decide)] at H; exact H
       clear H
       have H := H1
       clear H1
       by_cases c46 : a0.size + a1.size ≤ 9223372036854775807
       ·rw [if_pos c46] at H
        have c46b0 := eq_true c46
        have c46b1 : decide (a0.size + a1.size ≤ 9223372036854775807) = true := decide_eq_true c46
        try have c46b2 : (9223372036854775807 < a0.size + a1.size) = False := eq_false (Nat.not_lt.2 c46)
        replace H := Option.bind_eq_some_iff.mp H
        obtain ⟨t261, A470, H⟩ := H
        replace H : ((escape_Percent.f a0).bind fun t262 => ((escape_Percent.f a1).bind fun t263 => (if t262.size + t263.size ≤ 9223372036854775807 then (if t261.toList = (t262 ++ t263).toList then ((escape_Attr.f (a0 ++ a1)).bind fun t264 => ((escape_Attr.f a0).bind fun t265 => ((escape_Attr.f a1).bind fun t266 => (if t265.size + t266.size ≤ 9223372036854775807 then (if t264.toList = (t265 ++ t266).toList then ((escape_Text.f (a0 ++ a1)).bind fun t267 => ((escape_Text.f a0).bind fun t268 => ((escape_Text.f a1).bind fun t269 => (if t268.size + t269.size ≤ 9223372036854775807 then (if t267.toList = (t268 ++ t269).toList then ((escape_Page.f (a0 ++ a1)).bind fun t270 => ((escape_Page.f a0).bind fun t271 => ((escape_Page.f a1).bind fun t272 => (if t271.size + t272.size ≤ 9223372036854775807 then (some (t270.toList == (t271 ++ t272).toList)) else (none))))) else (some false)) else (none))))) else (some false)) else (none))))) else (some false)) else (none)))) = some r := H
        have A47 := Aside0.mk A470
        clear A470
        replace H := Option.bind_eq_some_iff.mp H
        obtain ⟨t262, A480, H⟩ := H
        replace H : ((escape_Percent.f a1).bind fun t263 => (if t262.size + t263.size ≤ 9223372036854775807 then (if t261.toList = (t262 ++ t263).toList then ((escape_Attr.f (a0 ++ a1)).bind fun t264 => ((escape_Attr.f a0).bind fun t265 => ((escape_Attr.f a1).bind fun t266 => (if t265.size + t266.size ≤ 9223372036854775807 then (if t264.toList = (t265 ++ t266).toList then ((escape_Text.f (a0 ++ a1)).bind fun t267 => ((escape_Text.f a0).bind fun t268 => ((escape_Text.f a1).bind fun t269 => (if t268.size + t269.size ≤ 9223372036854775807 then (if t267.toList = (t268 ++ t269).toList then ((escape_Page.f (a0 ++ a1)).bind fun t270 => ((escape_Page.f a0).bind fun t271 => ((escape_Page.f a1).bind fun t272 => (if t271.size + t272.size ≤ 9223372036854775807 then (some (t270.toList == (t271 ++ t272).toList)) else (none))))) else (some false)) else (none))))) else (some false)) else (none))))) else (some false)) else (none))) = some r := H
        have A48 := Aside0.mk A480
        clear A480
        replace H := Option.bind_eq_some_iff.mp H
        obtain ⟨t263, A490, H⟩ := H
        replace H : (if t262.size + t263.size ≤ 9223372036854775807 then (if t261.toList = (t262 ++ t263).toList then ((escape_Attr.f (a0 ++ a1)).bind fun t264 => ((escape_Attr.f a0).bind fun t265 => ((escape_Attr.f a1).bind fun t266 => (if t265.size + t266.size ≤ 9223372036854775807 then (if t264.toList = (t265 ++ t266).toList then ((escape_Text.f (a0 ++ a1)).bind fun t267 => ((escape_Text.f a0).bind fun t268 => ((escape_Text.f a1).bind fun t269 => (if t268.size + t269.size ≤ 9223372036854775807 then (if t267.toList = (t268 ++ t269).toList then ((escape_Page.f (a0 ++ a1)).bind fun t270 => ((escape_Page.f a0).bind fun t271 => ((escape_Page.f a1).bind fun t272 => (if t271.size + t272.size ≤ 9223372036854775807 then (some (t270.toList == (t271 ++ t272).toList)) else (none))))) else (some false)) else (none))))) else (some false)) else (none))))) else (some false)) else (none)) = some r := H
        have A49 := Aside0.mk A490
        clear A490
        by_cases c50 : t262.size + t263.size ≤ 9223372036854775807
        ·rw [if_pos c50] at H
         have c50b0 := eq_true c50
         have c50b1 : decide (t262.size + t263.size ≤ 9223372036854775807) = true := decide_eq_true c50
         try have c50b2 : (9223372036854775807 < t262.size + t263.size) = False := eq_false (Nat.not_lt.2 c50)
         by_cases c51 : t261.toList = (t262 ++ t263).toList
         ·rw [if_pos c51] at H
          have c51b0 : (t261.toList == (t262 ++ t263).toList) = true := beq_iff_eq.mpr c51
          have c51b1 : (t261.toList != (t262 ++ t263).toList) = false := bne_eq_false_iff_eq.mpr c51
          clear c51
          replace H := Option.bind_eq_some_iff.mp H
          obtain ⟨t264, A520, H⟩ := H
          replace H : ((escape_Attr.f a0).bind fun t265 => ((escape_Attr.f a1).bind fun t266 => (if t265.size + t266.size ≤ 9223372036854775807 then (if t264.toList = (t265 ++ t266).toList then ((escape_Text.f (a0 ++ a1)).bind fun t267 => ((escape_Text.f a0).bind fun t268 => ((escape_Text.f a1).bind fun t269 => (if t268.size + t269.size ≤ 9223372036854775807 then (if t267.toList = (t268 ++ t269).toList then ((escape_Page.f (a0 ++ a1)).bind fun t270 => ((escape_Page.f a0).bind fun t271 => ((escape_Page.f a1).bind fun t272 => (if t271.size + t272.size ≤ 9223372036854775807 then (some (t270.toList == (t271 ++ t272).toList)) else (none))))) else (some false)) else (none))))) else (some false)) else (none)))) = some r := H
          have A52 := Aside0.mk A520
          clear A520
          replace H := Option.bind_eq_some_iff.mp H
          obtain ⟨t265, A530, H⟩ := H
          replace H : ((escape_Attr.f a1).bind fun t266 => (if t265.size + t266.size ≤ 9223372036854775807 then (if t264.toList = (t265 ++ t266).toList then ((escape_Text.f (a0 ++ a1)).bind fun t267 => ((escape_Text.f a0).bind fun t268 => ((escape_Text.f a1).bind fun t269 => (if t268.size + t269.size ≤ 9223372036854775807 then (if t267.toList = (t268 ++ t269).toList then ((escape_Page.f (a0 ++ a1)).bind fun t270 => ((escape_Page.f a0).bind fun t271 => ((escape_Page.f a1).bind fun t272 => (if t271.size + t272.size ≤ 9223372036854775807 then (some (t270.toList == (t271 ++ t272).toList)) else (none))))) else (some false)) else (none))))) else (some false)) else (none))) = some r := H
          have A53 := Aside0.mk A530
          clear A530
          replace H := Option.bind_eq_some_iff.mp H
          obtain ⟨t266, A540, H⟩ := H
          replace H : (if t265.size + t266.size ≤ 9223372036854775807 then (if t264.toList = (t265 ++ t266).toList then ((escape_Text.f (a0 ++ a1)).bind fun t267 => ((escape_Text.f a0).bind fun t268 => ((escape_Text.f a1).bind fun t269 => (if t268.size + t269.size ≤ 9223372036854775807 then (if t267.toList = (t268 ++ t269).toList then ((escape_Page.f (a0 ++ a1)).bind fun t270 => ((escape_Page.f a0).bind fun t271 => ((escape_Page.f a1).bind fun t272 => (if t271.size + t272.size ≤ 9223372036854775807 then (some (t270.toList == (t271 ++ t272).toList)) else (none))))) else (some false)) else (none))))) else (some false)) else (none)) = some r := H
          have A54 := Aside0.mk A540
          clear A540
          by_cases c55 : t265.size + t266.size ≤ 9223372036854775807
          ·rw [if_pos c55] at H
           have c55b0 := eq_true c55
           have c55b1 : decide (t265.size + t266.size ≤ 9223372036854775807) = true := decide_eq_true c55
           try have c55b2 : (9223372036854775807 < t265.size + t266.size) = False := eq_false (Nat.not_lt.2 c55)
           by_cases c56 : t264.toList = (t265 ++ t266).toList
           ·rw [if_pos c56] at H
            have c56b0 : (t264.toList == (t265 ++ t266).toList) = true := beq_iff_eq.mpr c56
            have c56b1 : (t264.toList != (t265 ++ t266).toList) = false := bne_eq_false_iff_eq.mpr c56
            clear c56
            replace H := Option.bind_eq_some_iff.mp H
            obtain ⟨t267, A570, H⟩ := H
            replace H : ((escape_Text.f a0).bind fun t268 => ((escape_Text.f a1).bind fun t269 => (if t268.size + t269.size ≤ 9223372036854775807 then (if t267.toList = (t268 ++ t269).toList then ((escape_Page.f (a0 ++ a1)).bind fun t270 => ((escape_Page.f a0).bind fun t271 => ((escape_Page.f a1).bind fun t272 => (if t271.size + t272.size ≤ 9223372036854775807 then (some (t270.toList == (t271 ++ t272).toList)) else (none))))) else (some false)) else (none)))) = some r := H
            have A57 := Aside0.mk A570
            clear A570
            replace H := Option.bind_eq_some_iff.mp H
            obtain ⟨t268, A580, H⟩ := H
            replace H : ((escape_Text.f a1).bind fun t269 => (if t268.size + t269.size ≤ 9223372036854775807 then (if t267.toList = (t268 ++ t269).toList then ((escape_Page.f (a0 ++ a1)).bind fun t270 => ((escape_Page.f a0).bind fun t271 => ((escape_Page.f a1).bind fun t272 => (if t271.size + t272.size ≤ 9223372036854775807 then (some (t270.toList == (t271 ++ t272).toList)) else (none))))) else (some false)) else (none))) = some r := H
            have A58 := Aside0.mk A580
            clear A580
            replace H := Option.bind_eq_some_iff.mp H
            obtain ⟨t269, A590, H⟩ := H
            replace H : (if t268.size + t269.size ≤ 9223372036854775807 then (if t267.toList = (t268 ++ t269).toList then ((escape_Page.f (a0 ++ a1)).bind fun t270 => ((escape_Page.f a0).bind fun t271 => ((escape_Page.f a1).bind fun t272 => (if t271.size + t272.size ≤ 9223372036854775807 then (some (t270.toList == (t271 ++ t272).toList)) else (none))))) else (some false)) else (none)) = some r := H
            have A59 := Aside0.mk A590
            clear A590
            by_cases c60 : t268.size + t269.size ≤ 9223372036854775807
            ·rw [if_pos c60] at H
             have c60b0 := eq_true c60
             have c60b1 : decide (t268.size + t269.size ≤ 9223372036854775807) = true := decide_eq_true c60
             try have c60b2 : (9223372036854775807 < t268.size + t269.size) = False := eq_false (Nat.not_lt.2 c60)
             by_cases c61 : t267.toList = (t268 ++ t269).toList
             ·rw [if_pos c61] at H
              have c61b0 : (t267.toList == (t268 ++ t269).toList) = true := beq_iff_eq.mpr c61
              have c61b1 : (t267.toList != (t268 ++ t269).toList) = false := bne_eq_false_iff_eq.mpr c61
              clear c61
              replace H := Option.bind_eq_some_iff.mp H
              obtain ⟨t270, A620, H⟩ := H
              replace H : ((escape_Page.f a0).bind fun t271 => ((escape_Page.f a1).bind fun t272 => (if t271.size + t272.size ≤ 9223372036854775807 then (some (t270.toList == (t271 ++ t272).toList)) else (none)))) = some r := H
              have A62 := Aside0.mk A620
              clear A620
              replace H := Option.bind_eq_some_iff.mp H
              obtain ⟨t271, A630, H⟩ := H
              replace H : ((escape_Page.f a1).bind fun t272 => (if t271.size + t272.size ≤ 9223372036854775807 then (some (t270.toList == (t271 ++ t272).toList)) else (none))) = some r := H
              have A63 := Aside0.mk A630
              clear A630
              replace H := Option.bind_eq_some_iff.mp H
              obtain ⟨t272, A640, H⟩ := H
              replace H : (if t271.size + t272.size ≤ 9223372036854775807 then (some (t270.toList == (t271 ++ t272).toList)) else (none)) = some r := H
              have A64 := Aside0.mk A640
              clear A640
              by_cases c65 : t271.size + t272.size ≤ 9223372036854775807
              ·rw [if_pos c65] at H
               have c65b0 := eq_true c65
               have c65b1 : decide (t271.size + t272.size ≤ 9223372036854775807) = true := decide_eq_true c65
               try have c65b2 : (9223372036854775807 < t271.size + t272.size) = False := eq_false (Nat.not_lt.2 c65)
               obtain rfl := Option.some.inj H
               go_wp2_with (first | ((with_reducible refine gate_callee (f := 9) rfl ?_); refine goesA (some 59) Tryd.func9 #[.string (a0 ++ a1)] rfl ?_; (with_reducible refine (escape_Percent.calls (a0 ++ a1) t261 _ A47.out).mono ?_); rintro e w66 ⟨rfl, hb⟩; refine ⟨_, rfl, ?_⟩; have n0_ := Bs HB hb; clear HB; revert n0_; intro HB; (try clear hb); (try clear hb2); (try clear hk); (try clear hi)) | ((with_reducible refine gate_callee (f := 9) rfl ?_); refine goesA (some 61) Tryd.func9 #[.string a0] rfl ?_; (with_reducible refine (escape_Percent.calls a0 t262 _ A48.out).mono ?_); rintro e w67 ⟨rfl, hb⟩; refine ⟨_, rfl, ?_⟩; have n0_ := Bs HB hb; clear HB; revert n0_; intro HB; (try clear hb); (try clear hb2); (try clear hk); (try clear hi)) | ((with_reducible refine gate_callee (f := 9) rfl ?_); refine goesA (some 63) Tryd.func9 #[.string a1] rfl ?_; (with_reducible refine (escape_Percent.calls a1 t263 _ A49.out).mono ?_); rintro e w68 ⟨rfl, hb⟩; refine ⟨_, rfl, ?_⟩; have n0_ := Bs HB hb; clear HB; revert n0_; intro HB; (try clear hb); (try clear hb2); (try clear hk); (try clear hi)) | (go_at_call 20; (with_reducible refine (escape_Attr.calls (a0 ++ a1) t264 _ A52.out).mono ?_); rintro e w69 ⟨rfl, hb⟩; have n0_ := Bs HB hb; clear HB; revert n0_; intro HB; (try clear hb); (try clear hb2); (try clear hk); (try clear hi)) | (go_at_call 20; (with_reducible refine (escape_Attr.calls a0 t265 _ A53.out).mono ?_); rintro e w70 ⟨rfl, hb⟩; have n0_ := Bs HB hb; clear HB; revert n0_; intro HB; (try clear hb); (try clear hb2); (try clear hk); (try clear hi)) | (go_at_call 20; (with_reducible refine (escape_Attr.calls a1 t266 _ A54.out).mono ?_); rintro e w71 ⟨rfl, hb⟩; have n0_ := Bs HB hb; clear HB; revert n0_; intro HB; (try clear hb); (try clear hb2); (try clear hk); (try clear hi)) | (go_at_call 21; (with_reducible refine (escape_Text.calls (a0 ++ a1) t267 _ A57.out).mono ?_); rintro e w72 ⟨rfl, hb⟩; have n0_ := Bs HB hb; clear HB; revert n0_; intro HB; (try clear hb); (try clear hb2); (try clear hk); (try clear hi)) | (go_at_call 21; (with_reducible refine (escape_Text.calls a0 t268 _ A58.out).mono ?_); rintro e w73 ⟨rfl, hb⟩; have n0_ := Bs HB hb; clear HB; revert n0_; intro HB; (try clear hb); (try clear hb2); (try clear hk); (try clear hi)) | (go_at_call 21; (with_reducible refine (escape_Text.calls a1 t269 _ A59.out).mono ?_); rintro e w74 ⟨rfl, hb⟩; have n0_ := Bs HB hb; clear HB; revert n0_; intro HB; (try clear hb); (try clear hb2); (try clear hk); (try clear hi)) | (go_at_call 22; (with_reducible refine (escape_Page.calls (a0 ++ a1) t270 _ A62.out).mono ?_); rintro e w75 ⟨rfl, hb⟩; have n0_ := Bs HB hb; clear HB; revert n0_; intro HB; (try clear hb); (try clear hb2); (try clear hk); (try clear hi)) | (go_at_call 22; (with_reducible refine (escape_Page.calls a0 t271 _ A63.out).mono ?_); rintro e w76 ⟨rfl, hb⟩; have n0_ := Bs HB hb; clear HB; revert n0_; intro HB; (try clear hb); (try clear hb2); (try clear hk); (try clear hi)) | (go_at_call 22; (with_reducible refine (escape_Page.calls a1 t272 _ A64.out).mono ?_); rintro e w77 ⟨rfl, hb⟩; have n0_ := Bs HB hb; clear HB; revert n0_; intro HB; (try clear hb); (try clear hb2); (try clear hk); (try clear hi)))
               go_ret
               exact ⟨rfl_, Bu HB⟩
              ·rw [if_neg c65] at H
               exact absurd H (by simp)
             ·rw [if_neg c61] at H
              have c61b0 : (t267.toList == (t268 ++ t269).toList) = false := beq_eq_false_iff_ne.mpr c61
              have c61b1 : (t267.toList != (t268 ++ t269).toList) = true := bne_iff_ne.mpr c61
              obtain rfl := Option.some.inj H
              go_wp2_with (first | ((with_reducible refine gate_callee (f := 9) rfl ?_); refine goesA (some 59) Tryd.func9 #[.string (a0 ++ a1)] rfl ?_; (with_reducible refine (escape_Percent.calls (a0 ++ a1) t261 _ A47.out).mono ?_); rintro e w78 ⟨rfl, hb⟩; refine ⟨_, rfl, ?_⟩; have n0_ := Bs HB hb; clear HB; revert n0_; intro HB; (try clear hb); (try clear hb2); (try clear hk); (try clear hi)) | ((with_reducible refine gate_callee (f := 9) rfl ?_); refine goesA (some 61) Tryd.func9 #[.string a0] rfl ?_; (with_reducible refine (escape_Percent.calls a0 t262 _ A48.out).mono ?_); rintro e w79 ⟨rfl, hb⟩; refine ⟨_, rfl, ?_⟩; have n0_ := Bs HB hb; clear HB; revert n0_; intro HB; (try clear hb); (try clear hb2); (try clear hk); (try clear hi)) | ((with_reducible refine gate_callee (f := 9) rfl ?_); refine goesA (some 63) Tryd.func9 #[.string a1] rfl ?_; (with_reducible refine (escape_Percent.calls a1 t263 _ A49.out).mono ?_); rintro e w80 ⟨rfl, hb⟩; refine ⟨_, rfl, ?_⟩; have n0_ := Bs HB hb; clear HB; revert n0_; intro HB; (try clear hb); (try clear hb2); (try clear hk); (try clear hi)) | (go_at_call 20; (with_reducible refine (escape_Attr.calls (a0 ++ a1) t264 _ A52.out).mono ?_); rintro e w81 ⟨rfl, hb⟩; have n0_ := Bs HB hb; clear HB; revert n0_; intro HB; (try clear hb); (try clear hb2); (try clear hk); (try clear hi)) | (go_at_call 20; (with_reducible refine (escape_Attr.calls a0 t265 _ A53.out).mono ?_); rintro e w82 ⟨rfl, hb⟩; have n0_ := Bs HB hb; clear HB; revert n0_; intro HB; (try clear hb); (try clear hb2); (try clear hk); (try clear hi)) | (go_at_call 20; (with_reducible refine (escape_Attr.calls a1 t266 _ A54.out).mono ?_); rintro e w83 ⟨rfl, hb⟩; have n0_ := Bs HB hb; clear HB; revert n0_; intro HB; (try clear hb); (try clear hb2); (try clear hk); (try clear hi)) | (go_at_call 21; (with_reducible refine (escape_Text.calls (a0 ++ a1) t267 _ A57.out).mono ?_); rintro e w84 ⟨rfl, hb⟩; have n0_ := Bs HB hb; clear HB; revert n0_; intro HB; (try clear hb); (try clear hb2); (try clear hk); (try clear hi)) | (go_at_call 21; (with_reducible refine (escape_Text.calls a0 t268 _ A58.out).mono ?_); rintro e w85 ⟨rfl, hb⟩; have n0_ := Bs HB hb; clear HB; revert n0_; intro HB; (try clear hb); (try clear hb2); (try clear hk); (try clear hi)) | (go_at_call 21; (with_reducible refine (escape_Text.calls a1 t269 _ A59.out).mono ?_); rintro e w86 ⟨rfl, hb⟩; have n0_ := Bs HB hb; clear HB; revert n0_; intro HB; (try clear hb); (try clear hb2); (try clear hk); (try clear hi)))
              go_ret
              exact ⟨rfl_, Bu HB⟩
            ·rw [if_neg c60] at H
             exact absurd H (by simp)
           ·rw [if_neg c56] at H
            have c56b0 : (t264.toList == (t265 ++ t266).toList) = false := beq_eq_false_iff_ne.mpr c56
            have c56b1 : (t264.toList != (t265 ++ t266).toList) = true := bne_iff_ne.mpr c56
            obtain rfl := Option.some.inj H
            go_wp2_with (first | ((with_reducible refine gate_callee (f := 9) rfl ?_); refine goesA (some 59) Tryd.func9 #[.string (a0 ++ a1)] rfl ?_; (with_reducible refine (escape_Percent.calls (a0 ++ a1) t261 _ A47.out).mono ?_); rintro e w87 ⟨rfl, hb⟩; refine ⟨_, rfl, ?_⟩; have n0_ := Bs HB hb; clear HB; revert n0_; intro HB; (try clear hb); (try clear hb2); (try clear hk); (try clear hi)) | ((with_reducible refine gate_callee (f := 9) rfl ?_); refine goesA (some 61) Tryd.func9 #[.string a0] rfl ?_; (with_reducible refine (escape_Percent.calls a0 t262 _ A48.out).mono ?_); rintro e w88 ⟨rfl, hb⟩; refine ⟨_, rfl, ?_⟩; have n0_ := Bs HB hb; clear HB; revert n0_; intro HB; (try clear hb); (try clear hb2); (try clear hk); (try clear hi)) | ((with_reducible refine gate_callee (f := 9) rfl ?_); refine goesA (some 63) Tryd.func9 #[.string a1] rfl ?_; (with_reducible refine (escape_Percent.calls a1 t263 _ A49.out).mono ?_); rintro e w89 ⟨rfl, hb⟩; refine ⟨_, rfl, ?_⟩; have n0_ := Bs HB hb; clear HB; revert n0_; intro HB; (try clear hb); (try clear hb2); (try clear hk); (try clear hi)) | (go_at_call 20; (with_reducible refine (escape_Attr.calls (a0 ++ a1) t264 _ A52.out).mono ?_); rintro e w90 ⟨rfl, hb⟩; have n0_ := Bs HB hb; clear HB; revert n0_; intro HB; (try clear hb); (try clear hb2); (try clear hk); (try clear hi)) | (go_at_call 20; (with_reducible refine (escape_Attr.calls a0 t265 _ A53.out).mono ?_); rintro e w91 ⟨rfl, hb⟩; have n0_ := Bs HB hb; clear HB; revert n0_; intro HB; (try clear hb); (try clear hb2); (try clear hk); (try clear hi)) | (go_at_call 20; (with_reducible refine (escape_Attr.calls a1 t266 _ A54.out).mono ?_); rintro e w92 ⟨rfl, hb⟩; have n0_ := Bs HB hb; clear HB; revert n0_; intro HB; (try clear hb); (try clear hb2); (try clear hk); (try clear hi)))
            go_ret
            exact ⟨rfl_, Bu HB⟩
          ·rw [if_neg c55] at H
           exact absurd H (by simp)
         ·rw [if_neg c51] at H
          have c51b0 : (t261.toList == (t262 ++ t263).toList) = false := beq_eq_false_iff_ne.mpr c51
          have c51b1 : (t261.toList != (t262 ++ t263).toList) = true := bne_iff_ne.mpr c51
          obtain rfl := Option.some.inj H
          go_wp2_with (first | ((with_reducible refine gate_callee (f := 9) rfl ?_); refine goesA (some 59) Tryd.func9 #[.string (a0 ++ a1)] rfl ?_; (with_reducible refine (escape_Percent.calls (a0 ++ a1) t261 _ A47.out).mono ?_); rintro e w93 ⟨rfl, hb⟩; refine ⟨_, rfl, ?_⟩; have n0_ := Bs HB hb; clear HB; revert n0_; intro HB; (try clear hb); (try clear hb2); (try clear hk); (try clear hi)) | ((with_reducible refine gate_callee (f := 9) rfl ?_); refine goesA (some 61) Tryd.func9 #[.string a0] rfl ?_; (with_reducible refine (escape_Percent.calls a0 t262 _ A48.out).mono ?_); rintro e w94 ⟨rfl, hb⟩; refine ⟨_, rfl, ?_⟩; have n0_ := Bs HB hb; clear HB; revert n0_; intro HB; (try clear hb); (try clear hb2); (try clear hk); (try clear hi)) | ((with_reducible refine gate_callee (f := 9) rfl ?_); refine goesA (some 63) Tryd.func9 #[.string a1] rfl ?_; (with_reducible refine (escape_Percent.calls a1 t263 _ A49.out).mono ?_); rintro e w95 ⟨rfl, hb⟩; refine ⟨_, rfl, ?_⟩; have n0_ := Bs HB hb; clear HB; revert n0_; intro HB; (try clear hb); (try clear hb2); (try clear hk); (try clear hi)))
          go_ret
          exact ⟨rfl_, Bu HB⟩
        ·rw [if_neg c50] at H
         exact absurd H (by simp)
       ·rw [if_neg c46] at H
        exact absurd H (by simp)

/-- THE ONE PURE STATEMENT of lanyardlaw03_FormApart: yours. -/
def lanyardlaw03_FormApart.Pure : Prop := ∀ (a0 : ByteArray) (a1 : ByteArray), a0.size ≤ 140737488351232 → a1.size ≤ 140737488351232 → ∃ k, lanyardlaw03_FormApart.f k a0 a1 = some true
theorem lanyardlaw03_FormApart.walk (P : lanyardlaw03_FormApart.Pure) (a0 : ByteArray) (a1 : ByteArray) (w : World) (w0 : a0.size ≤ 140737488351232) (w1 : a1.size ≤ 140737488351232) (hU : Uni w) :
  Calls Tryd.prog 7 #[.string a0, .string a1] w fun e w' => e = .returned (.bool true) ∧ Below w.heap.size w w' := by
 obtain ⟨k, h⟩ := P a0 a1 w0 w1
 refine (lanyardlaw03_FormApart.calls k a0 a1 true w hU h).mono ?_
 rintro e w' ⟨rfl, hd⟩
 exact ⟨rfl, hd⟩

end Go.Proofs.YtjmcdocoogdbiaaDoor.Hp
