/- Go functions of this seat as Lean functions, and their contracts: what the Go code computes, for every input. (By hp.py, a program of this repo, over the kit's print.py.) -/
import Derived.Test.YtbokeoncpilgpaaHp0
import Derived.Test.YtbokeoncpilgpaaHp3
import Derived.Test.YtbokeoncpilgpaaHp6
import Derived.Test.YtbokeoncpilgpaaHp7
import Derived.Test.YtbokeoncpilgpaaHp9
namespace Go.Proofs.Ytbokeoncpilgpaa.Hp
open Go.RowKit Go.Proofs.YtbokeoncpilgpaaW.PrintWords Go.Proofs.YtbokeoncpilgpaaW.PrintLast Go.Proofs.YtbokeoncpilgpaaW.PrintMore
attribute [local go_sem] max2_int min2_int max_two min_two max_three min_three max_four min_four   -- for this text's walks alone
set_option linter.unusedVariables false
set_option linter.unusedSimpArgs false

/-! ### lanyardlaw04_FlateShort: function 3 -/
mutual
def lanyardlaw04_FlateShort.j0 : Nat → List Int → List Int → Int → Bool → Option (Bool)
 | 0, _, _, _, _ => none
 | k + 1, x0, x1, x2, x26 => if x26 = true then ((lanyardlaw04_awake.f).bind fun t218 => (some t218)) else ((some (([] : List Int) : List Int)).bind fun y219 => (if y219.length + x0.length < 140737488355328 then ((flate_Deflate.f (y219 ++ x0)).bind fun bt225 => ((flate_Stored.f x0).bind fun t229 => (if bt225.2 = 0 then ((lanyardref04_Deflate.f k x0).bind fun t232 => (if (strOfNums bt225.1).toList = (strOfNums t232).toList then ((lanyardref04_Stored.f x0).bind fun t235 => (lanyardlaw04_FlateShort.j1 k x0 x1 x2 bt225.1 t229 ((strOfNums t229).toList != (strOfNums t235).toList))) else (lanyardlaw04_FlateShort.j1 k x0 x1 x2 bt225.1 t229 true))) else (lanyardlaw04_FlateShort.j1 k x0 x1 x2 bt225.1 t229 true)))) else (none)))
def lanyardlaw04_FlateShort.j1 : Nat → List Int → List Int → Int → List Int → List Int → Bool → Option (Bool)
 | 0, _, _, _, _, _, _ => none
 | k + 1, x0, x1, x2, x7, x9, x54 => if x54 = true then (some false) else (lanyardlaw04_FlateShort.l0 k x0 x1 x2 (([x7, x9] : List (List Int))) 0)
def lanyardlaw04_FlateShort.l0 : Nat → List Int → List Int → Int → List (List Int) → Int → Option (Bool)
 | 0, _, _, _, _, _ => none
 | k + 1, x0, x1, x2, x10, x11 => if x11 < 2 then ((some (([] : List Int) : List Int)).bind fun y241 => (if 0 ≤ x11 then (if x11 < (x10.length : Int) then (if y241.length + (rd_L2 x10 x11).length < 140737488355328 then ((some (y241 ++ (rd_L2 x10 x11) : List Int)).bind fun y245 => (if y245.length + x1.length < 140737488355328 then ((flate_Inflate.f (y245 ++ x1) x2).bind fun bt251 => (if x2 < 0 then (if bt251.2.2 = 2 then (if bt251.2.1 = 0 then (if (bt251.1.length : Int) = 0 then (lanyardlaw04_FlateShort.l0 k x0 x1 x2 x10 (wrap64 (x11 + 1))) else (some false)) else (some false)) else (some false)) else (if x2 < (x0.length : Int) then (if bt251.2.2 = 12 then (if bt251.2.1 = 0 then (lanyardlaw04_FlateShort.j3 k x0 x1 x2 x10 x11 ((bt251.1.length : Int) != 0)) else (lanyardlaw04_FlateShort.j3 k x0 x1 x2 x10 x11 true)) else (lanyardlaw04_FlateShort.j3 k x0 x1 x2 x10 x11 true)) else (if bt251.2.2 = 0 then (if bt251.2.1 = ((rd_L2 x10 x11).length : Int) then (if (strOfNums bt251.1).toList = (strOfNums x0).toList then (lanyardlaw04_FlateShort.l0 k x0 x1 x2 x10 (wrap64 (x11 + 1))) else (some false)) else (some false)) else (some false))))) else (none))) else (none)) else (none)) else (none))) else (some true)
def lanyardlaw04_FlateShort.j3 : Nat → List Int → List Int → Int → List (List Int) → Int → Bool → Option (Bool)
 | 0, _, _, _, _, _, _ => none
 | k + 1, x0, x1, x2, x10, x11, x103 => if x103 = true then (some false) else (lanyardlaw04_FlateShort.l0 k x0 x1 x2 x10 (wrap64 (x11 + 1)))
end
def lanyardlaw04_FlateShort.f (k : Nat) (l0 : List Int) (l1 : List Int) (a2 : Int) : Option (Bool) := (lanyardlaw04_awake.f).bind fun t217 => (if t217 = true then (if (l0.length : Int) > 600 then (lanyardlaw04_FlateShort.j0 k l0 l1 a2 true) else (lanyardlaw04_FlateShort.j0 k l0 l1 a2 (decide ((l1.length : Int) > 200)))) else (lanyardlaw04_FlateShort.j0 k l0 l1 a2 true))
theorem lanyardlaw04_FlateShort.mono_l : ∀ k, (∀ y0 y1 y2 y3, LeO (lanyardlaw04_FlateShort.j0 k y0 y1 y2 y3) (lanyardlaw04_FlateShort.j0 (k + 1) y0 y1 y2 y3)) ∧ (∀ y0 y1 y2 y3 y4 y5, LeO (lanyardlaw04_FlateShort.j1 k y0 y1 y2 y3 y4 y5) (lanyardlaw04_FlateShort.j1 (k + 1) y0 y1 y2 y3 y4 y5)) ∧ (∀ y0 y1 y2 y3 y4, LeO (lanyardlaw04_FlateShort.l0 k y0 y1 y2 y3 y4) (lanyardlaw04_FlateShort.l0 (k + 1) y0 y1 y2 y3 y4)) ∧ (∀ y0 y1 y2 y3 y4 y5, LeO (lanyardlaw04_FlateShort.j3 k y0 y1 y2 y3 y4 y5) (lanyardlaw04_FlateShort.j3 (k + 1) y0 y1 y2 y3 y4 y5))
 | 0 => ⟨fun _ _ _ _ r h => by simp [lanyardlaw04_FlateShort.j0] at h, fun _ _ _ _ _ _ r h => by simp [lanyardlaw04_FlateShort.j1] at h, fun _ _ _ _ _ r h => by simp [lanyardlaw04_FlateShort.l0] at h, fun _ _ _ _ _ _ r h => by simp [lanyardlaw04_FlateShort.j3] at h⟩
 | k + 1 => by
  obtain ⟨ih0, ih1, ih2, ih3⟩ := lanyardlaw04_FlateShort.mono_l k
  refine ⟨?_, ?_, ?_, ?_⟩
  ·intro y0 y1 y2 y3
   unfold lanyardlaw04_FlateShort.j0
   repeat' first
   | (with_reducible exact ih0 _ _ _ _)
   | (with_reducible exact ih1 _ _ _ _ _ _)
   | (with_reducible exact ih2 _ _ _ _ _)
   | (with_reducible exact ih3 _ _ _ _ _ _)
   | (with_reducible exact lanyardref04_Deflate.mono _ _)
   | (with_reducible exact LeO.refl _)
   | (with_reducible exact LeO.none _)
   | (with_reducible refine LeO.ite ?_ ?_)
   | (with_reducible refine LeO.bind ?_ (fun _ => ?_))
   | exact ih0 _ _ _ _
   | exact ih1 _ _ _ _ _ _
   | exact ih2 _ _ _ _ _
   | exact ih3 _ _ _ _ _ _
   | exact lanyardref04_Deflate.mono _ _
   | exact LeO.none _
   | refine LeO.ite ?_ ?_
   | refine LeO.bind ?_ (fun _ => ?_)
  ·intro y0 y1 y2 y3 y4 y5
   unfold lanyardlaw04_FlateShort.j1
   repeat' first
   | (with_reducible exact ih0 _ _ _ _)
   | (with_reducible exact ih1 _ _ _ _ _ _)
   | (with_reducible exact ih2 _ _ _ _ _)
   | (with_reducible exact ih3 _ _ _ _ _ _)
   | (with_reducible exact lanyardref04_Deflate.mono _ _)
   | (with_reducible exact LeO.refl _)
   | (with_reducible exact LeO.none _)
   | (with_reducible refine LeO.ite ?_ ?_)
   | (with_reducible refine LeO.bind ?_ (fun _ => ?_))
   | exact ih0 _ _ _ _
   | exact ih1 _ _ _ _ _ _
   | exact ih2 _ _ _ _ _
   | exact ih3 _ _ _ _ _ _
   | exact lanyardref04_Deflate.mono _ _
   | exact LeO.none _
   | refine LeO.ite ?_ ?_
   | refine LeO.bind ?_ (fun _ => ?_)
  ·intro y0 y1 y2 y3 y4
   unfold lanyardlaw04_FlateShort.l0
   repeat' first
   | (with_reducible exact ih0 _ _ _ _)
   | (with_reducible exact ih1 _ _ _ _ _ _)
   | (with_reducible exact ih2 _ _ _ _ _)
   | (with_reducible exact ih3 _ _ _ _ _ _)
   | (with_reducible exact lanyardref04_Deflate.mono _ _)
   | (with_reducible exact LeO.refl _)
   | (with_reducible exact LeO.none _)
   | (with_reducible refine LeO.ite ?_ ?_)
   | (with_reducible refine LeO.bind ?_ (fun _ => ?_))
   | exact ih0 _ _ _ _
   | exact ih1 _ _ _ _ _ _
   | exact ih2 _ _ _ _ _
   | exact ih3 _ _ _ _ _ _
   | exact lanyardref04_Deflate.mono _ _
   | exact LeO.none _
   | refine LeO.ite ?_ ?_
   | refine LeO.bind ?_ (fun _ => ?_)
  ·intro y0 y1 y2 y3 y4 y5
   unfold lanyardlaw04_FlateShort.j3
   repeat' first
   | (with_reducible exact ih0 _ _ _ _)
   | (with_reducible exact ih1 _ _ _ _ _ _)
   | (with_reducible exact ih2 _ _ _ _ _)
   | (with_reducible exact ih3 _ _ _ _ _ _)
   | (with_reducible exact lanyardref04_Deflate.mono _ _)
   | (with_reducible exact LeO.refl _)
   | (with_reducible exact LeO.none _)
   | (with_reducible refine LeO.ite ?_ ?_)
   | (with_reducible refine LeO.bind ?_ (fun _ => ?_))
   | exact ih0 _ _ _ _
   | exact ih1 _ _ _ _ _ _
   | exact ih2 _ _ _ _ _
   | exact ih3 _ _ _ _ _ _
   | exact lanyardref04_Deflate.mono _ _
   | exact LeO.none _
   | refine LeO.ite ?_ ?_
   | refine LeO.bind ?_ (fun _ => ?_)
theorem lanyardlaw04_FlateShort.mono : ∀ a0 a1 a2 k, LeO (lanyardlaw04_FlateShort.f k a0 a1 a2) (lanyardlaw04_FlateShort.f (k + 1) a0 a1 a2) := by
 intro a0 a1 a2 k
 obtain ⟨ih0, ih1, ih2, ih3⟩ := lanyardlaw04_FlateShort.mono_l k
 unfold lanyardlaw04_FlateShort.f
 repeat' first
   | (with_reducible exact ih0 _ _ _ _)
   | (with_reducible exact ih1 _ _ _ _ _ _)
   | (with_reducible exact ih2 _ _ _ _ _)
   | (with_reducible exact ih3 _ _ _ _ _ _)
   | (with_reducible exact lanyardref04_Deflate.mono _ _)
   | (with_reducible exact LeO.refl _)
   | (with_reducible exact LeO.none _)
   | (with_reducible refine LeO.ite ?_ ?_)
   | (with_reducible refine LeO.bind ?_ (fun _ => ?_))
   | exact ih0 _ _ _ _
   | exact ih1 _ _ _ _ _ _
   | exact ih2 _ _ _ _ _
   | exact ih3 _ _ _ _ _ _
   | exact lanyardref04_Deflate.mono _ _
   | exact LeO.none _
   | refine LeO.ite ?_ ?_
   | refine LeO.bind ?_ (fun _ => ?_)
def lanyardlaw04_FlateShort.T5 : Bool × List (List Nat × List Nat) := (true, [([], []), ([0], [0]), ([1], [1]), ([2], [2]), ([3, 2], [2, 3]), ([2], [2]), ([5, 2, 2], [2, 5]), ([6, 2], [2, 6]), ([4, 7, 2], [2, 4, 7]), ([2, 8], [2, 8]), ([9, 6], [9]), ([10], [10]), ([11, 10], [10, 11]), ([10], [10]), ([13, 10, 10], [10, 13]), ([14, 10], [10, 14]), ([12, 15, 10], [10, 12, 15]), ([10, 16], [10, 16])])
def lanyardlaw04_FlateShort.B5 : List Nat := [0, 1, 3, 7, 15, 7, 39, 103, 255, 511, 1023, 2047, 4095, 2047, 10239, 26623, 65535, 131071]
theorem lanyardlaw04_FlateShort.tab5 : rtab .any (opsOf Try.f3 5) = lanyardlaw04_FlateShort.T5 := by kernel_rfl
theorem lanyardlaw04_FlateShort.bits5 : waitsOk lanyardlaw04_FlateShort.T5.2 lanyardlaw04_FlateShort.B5 = true := by kernel_rfl
set_option maxHeartbeats 8000000 in
set_option maxRecDepth 100000 in
theorem lanyardlaw04_FlateShort.calls (k : Nat) (A0 : Option Addr) (c0 : Nat) (l0 : List Int) (A1 : Option Addr) (c1 : Nat) (l1 : List Int) (a2 : Int) (r : Bool) (w : World) (hr0 : Kd.C (Kd.int .u8) w A0 l0.length l0) (hc0 : l0.length ≤ c0) (hr1 : Kd.C (Kd.int .u8) w A1 l1.length l1) (hc1 : l1.length ≤ c1) (h : lanyardlaw04_FlateShort.f k l0 l1 a2 = some r) (hr_ : r = true := by rfl) :
  Calls Try.prog 3 #[.slice A0 l0.length c0, .slice A1 l1.length c1, .int .i64 a2] w fun e w' => e = .returned (.bool r) ∧ Below w.heap.size w w' := by
 have HR_ := Aside0.mk hr_
 clear hr_
 have HR0 := Aside0.mk hr0
 have HC0 := Aside0.mk hc0
 clear hr0 hc0
 have HR1 := Aside0.mk hr1
 have HC1 := Aside0.mk hc1
 clear hr1 hc1
 have HB := Aside0.mk (Below.refl w.heap.size w)
 have H : ((lanyardlaw04_awake.f).bind fun t217 => (if t217 = true then (if (l0.length : Int) > 600 then (lanyardlaw04_FlateShort.j0 k l0 l1 a2 true) else (lanyardlaw04_FlateShort.j0 k l0 l1 a2 (decide ((l1.length : Int) > 200)))) else (lanyardlaw04_FlateShort.j0 k l0 l1 a2 true))) = some r := h
 clear h
 have HC4 := Aside0.mk H
 clear H
 go_enter Try.func3, Try.ntmps3
 go_upto_region 1 with (fail)
 go_cut [26] (fun v26 wc => ∃ (kq : Nat) (x26_3 : Bool), v26 = .bool x26_3 ∧ Aside0 (lanyardlaw04_FlateShort.j0 kq l0 l1 a2 x26_3 = some r) ∧ Aside0 (kq ≤ k) ∧ Aside0 (Below w.heap.size w wc))
 case first =>
  have H := HC4.out
  clear HC4
  replace H := Option.bind_eq_some_iff.mp H
  obtain ⟨t217, A50, H⟩ := H
  replace H : (if t217 = true then (if (l0.length : Int) > 600 then (lanyardlaw04_FlateShort.j0 k l0 l1 a2 true) else (lanyardlaw04_FlateShort.j0 k l0 l1 a2 (decide ((l1.length : Int) > 200)))) else (lanyardlaw04_FlateShort.j0 k l0 l1 a2 true)) = some r := H
  have A5 := Aside0.mk A50
  clear A50
  by_cases c6 : t217 = true
  ·subst c6
   have H1 : (if (l0.length : Int) > 600 then (lanyardlaw04_FlateShort.j0 k l0 l1 a2 true) else (lanyardlaw04_FlateShort.j0 k l0 l1 a2 (decide ((l1.length : Int) > 200)))) = some r := by rw [if_pos rfl] at H; exact H
   clear H
   have H := H1
   clear H1
   by_cases c7 : (l0.length : Int) > 600
   ·rw [if_pos c7] at H
    have c7b0 : decide (600 < (l0.length : Int)) = true := decide_eq_true c7
    have c7b1 : decide (600 < l0.length) = true := decide_eq_true (by omega)
    clear c7
    (first | rw [c7b0] | (simp only [i64_w, i32_w]; rw [c7b0]) | skip)
    have H' := Aside0.mk H
    clear H
    go_wp2_with (first | ((with_reducible refine gate_callee (f := 9) rfl ?_); refine goesA (some 15) Try.func9 #[] rfl ?_; (with_reducible refine (lanyardlaw04_awake.calls  true _ A5.out).mono ?_); rintro e w8 ⟨rfl, hb⟩; refine ⟨_, rfl, ?_⟩; have n0_ := Bs HB hb; clear HB; revert n0_; intro HB; (try clear hb); (try clear hb2); (try clear hk); (try clear hi)))
    go_meet
    case rel => exact ⟨_, (true), (by first | rfl | (simp; done) | (simp [*]; done)), H', ⟨by first | omega | exact Nat.le_refl _⟩, ⟨Bu HB⟩⟩
   ·rw [if_neg c7] at H
    have c7b0 : decide (600 < (l0.length : Int)) = false := decide_eq_false c7
    have c7b1 : decide (600 < l0.length) = false := decide_eq_false (by omega)
    clear c7
    (first | rw [c7b0] | (simp only [i64_w, i32_w]; rw [c7b0]) | skip)
    have H' := Aside0.mk H
    clear H
    go_wp2_with (first | ((with_reducible refine gate_callee (f := 9) rfl ?_); refine goesA (some 15) Try.func9 #[] rfl ?_; (with_reducible refine (lanyardlaw04_awake.calls  true _ A5.out).mono ?_); rintro e w9 ⟨rfl, hb⟩; refine ⟨_, rfl, ?_⟩; have n0_ := Bs HB hb; clear HB; revert n0_; intro HB; (try clear hb); (try clear hb2); (try clear hk); (try clear hi)))
    go_meet
    case rel => exact ⟨_, (decide ((l1.length : Int) > 200)), (by first | rfl | (simp; done) | (simp [*]; done)), H', ⟨by first | omega | exact Nat.le_refl _⟩, ⟨Bu HB⟩⟩
  ·replace c6 := Bool.eq_false_iff.mpr c6
   subst c6
   have H1 : (lanyardlaw04_FlateShort.j0 k l0 l1 a2 true) = some r := by rw [if_neg (show ¬ (false = true) by decide)] at H; exact H
   clear H
   have H := H1
   clear H1
   have H' := Aside0.mk H
   clear H
   go_wp2_with (first | ((with_reducible refine gate_callee (f := 9) rfl ?_); refine goesA (some 15) Try.func9 #[] rfl ?_; (with_reducible refine (lanyardlaw04_awake.calls  false _ A5.out).mono ?_); rintro e w10 ⟨rfl, hb⟩; refine ⟨_, rfl, ?_⟩; have n0_ := Bs HB hb; clear HB; revert n0_; intro HB; (try clear hb); (try clear hb2); (try clear hk); (try clear hi)))
   go_meet
   case rel => exact ⟨_, (true), (by first | rfl | (simp; done) | (simp [*]; done)), H', ⟨by first | omega | exact Nat.le_refl _⟩, ⟨Bu HB⟩⟩
 case rest =>
  clear HC4
  try clear c1
  try clear p2
  try clear c3
  try clear c6
  try clear c7
  try clear c7b0
  try clear c7b1
  try clear c9
  obtain ⟨kq, x26_3, rfl, HA, HJ3, HB⟩ := hcut
  cases kq with
  | zero => exact absurd HA.out (by simp [lanyardlaw04_FlateShort.j0])
  | succ kj3 =>
   have H := HA.out
   clear HA
   simp only [lanyardlaw04_FlateShort.j0] at H
   by_cases c11 : x26_3 = true
   ·subst c11
    have H1 : ((lanyardlaw04_awake.f).bind fun t218 => (some t218)) = some r := by rw [if_pos rfl] at H; exact H
    clear H
    have H := H1
    clear H1
    replace H := Option.bind_eq_some_iff.mp H
    obtain ⟨t218, A120, H⟩ := H
    replace H : (some t218) = some r := H
    have A12 := Aside0.mk A120
    clear A120
    obtain rfl := Option.some.inj H
    go_wp2_with (first | ((with_reducible refine gate_callee (f := 9) rfl ?_); refine goesA (some 27) Try.func9 #[] rfl ?_; (with_reducible refine (lanyardlaw04_awake.calls  t218 _ A12.out).mono ?_); rintro e w13 ⟨rfl, hb⟩; refine ⟨_, rfl, ?_⟩; have n0_ := Bs HB hb; clear HB; revert n0_; intro HB; (try clear hb); (try clear hb2); (try clear hk); (try clear hi)))
    go_ret
    exact ⟨rfl_, Bu HB⟩
   ·replace c11 := Bool.eq_false_iff.mpr c11
    subst c11
    have H1 : ((some (([] : List Int) : List Int)).bind fun y219 => (if y219.length + l0.length < 140737488355328 then ((flate_Deflate.f (y219 ++ l0)).bind fun bt225 => ((flate_Stored.f l0).bind fun t229 => (if bt225.2 = 0 then ((lanyardref04_Deflate.f kj3 l0).bind fun t232 => (if (strOfNums bt225.1).toList = (strOfNums t232).toList then ((lanyardref04_Stored.f l0).bind fun t235 => (lanyardlaw04_FlateShort.j1 kj3 l0 l1 a2 bt225.1 t229 ((strOfNums t229).toList != (strOfNums t235).toList))) else (lanyardlaw04_FlateShort.j1 kj3 l0 l1 a2 bt225.1 t229 true))) else (lanyardlaw04_FlateShort.j1 kj3 l0 l1 a2 bt225.1 t229 true)))) else (none))) = some r := by rw [if_neg (show ¬ (false = true) by decide)] at H; exact H
    clear H
    have H := H1
    clear H1
    obtain ⟨y219, hy219⟩ : ∃ y_ : List Int, y_ = (([] : List Int)) := ⟨_, rfl⟩
    replace H : (if y219.length + l0.length < 140737488355328 then ((flate_Deflate.f (y219 ++ l0)).bind fun bt225 => ((flate_Stored.f l0).bind fun t229 => (if bt225.2 = 0 then ((lanyardref04_Deflate.f kj3 l0).bind fun t232 => (if (strOfNums bt225.1).toList = (strOfNums t232).toList then ((lanyardref04_Stored.f l0).bind fun t235 => (lanyardlaw04_FlateShort.j1 kj3 l0 l1 a2 bt225.1 t229 ((strOfNums t229).toList != (strOfNums t235).toList))) else (lanyardlaw04_FlateShort.j1 kj3 l0 l1 a2 bt225.1 t229 true))) else (lanyardlaw04_FlateShort.j1 kj3 l0 l1 a2 bt225.1 t229 true)))) else (none)) = some r := by first | (rw [hy219]; with_reducible exact H) | (have H2_ := (Option.bind_some _ _).symm.trans H; rw [hy219]; with_reducible exact H2_) | (have H2_ := (Option.bind_some _ _).symm.trans H; with_reducible exact H2_) | with_reducible exact H | (rw [hy219]; exact H) | exact H
    have Ny219 := Aside0.mk hy219
    clear hy219
    by_cases c14 : y219.length + l0.length < 140737488355328
    ·rw [if_pos c14] at H
     have LMc14 := Aside0.mk c14
     clear c14
     obtain ⟨y222, hy222⟩ : ∃ y_ : List Int, y_ = (y219 ++ l0) := ⟨_, rfl⟩
     replace H : ((flate_Deflate.f y222).bind fun bt225 => ((flate_Stored.f l0).bind fun t229 => (if bt225.2 = 0 then ((lanyardref04_Deflate.f kj3 l0).bind fun t232 => (if (strOfNums bt225.1).toList = (strOfNums t232).toList then ((lanyardref04_Stored.f l0).bind fun t235 => (lanyardlaw04_FlateShort.j1 kj3 l0 l1 a2 bt225.1 t229 ((strOfNums t229).toList != (strOfNums t235).toList))) else (lanyardlaw04_FlateShort.j1 kj3 l0 l1 a2 bt225.1 t229 true))) else (lanyardlaw04_FlateShort.j1 kj3 l0 l1 a2 bt225.1 t229 true)))) = some r := by first | (rw [hy222]; with_reducible exact H) | (have H2_ := (Option.bind_some _ _).symm.trans H; rw [hy222]; with_reducible exact H2_) | (have H2_ := (Option.bind_some _ _).symm.trans H; with_reducible exact H2_) | with_reducible exact H | (rw [hy222]; exact H) | exact H
     have Ny222 := Aside0.mk hy222
     clear hy222
     replace H := Option.bind_eq_some_iff.mp H
     obtain ⟨⟨t225, t226⟩, A150, H⟩ := H
     replace H : ((flate_Stored.f l0).bind fun t229 => (if t226 = 0 then ((lanyardref04_Deflate.f kj3 l0).bind fun t232 => (if (strOfNums t225).toList = (strOfNums t232).toList then ((lanyardref04_Stored.f l0).bind fun t235 => (lanyardlaw04_FlateShort.j1 kj3 l0 l1 a2 t225 t229 ((strOfNums t229).toList != (strOfNums t235).toList))) else (lanyardlaw04_FlateShort.j1 kj3 l0 l1 a2 t225 t229 true))) else (lanyardlaw04_FlateShort.j1 kj3 l0 l1 a2 t225 t229 true))) = some r := H
     have A15 := Aside0.mk A150
     clear A150
     replace H := Option.bind_eq_some_iff.mp H
     obtain ⟨t229, A160, H⟩ := H
     replace H : (if t226 = 0 then ((lanyardref04_Deflate.f kj3 l0).bind fun t232 => (if (strOfNums t225).toList = (strOfNums t232).toList then ((lanyardref04_Stored.f l0).bind fun t235 => (lanyardlaw04_FlateShort.j1 kj3 l0 l1 a2 t225 t229 ((strOfNums t229).toList != (strOfNums t235).toList))) else (lanyardlaw04_FlateShort.j1 kj3 l0 l1 a2 t225 t229 true))) else (lanyardlaw04_FlateShort.j1 kj3 l0 l1 a2 t225 t229 true)) = some r := H
     have A16 := Aside0.mk A160
     clear A160
     have HC17 := Aside0.mk H
     clear H
     go_upto_region 5 with (first | ((with_reducible refine gate_dst (N := 29) rfl ?_); (try (refine gate_guard (by rfl) ?_; dsimp only)); refine litI .u8 5 29 [] [] ?hr ?_; (case hr => first | (go_simp; done) | (go_simp; rfl)); intro v220 w18 ho19 hb; (first | rw [← Ny219.out] at ho19 | (simp only [Int.reduceToNat] at ho19; rw [← Ny219.out] at ho19)); have n0_ := Aside0.mk (Kd.R_lower ho19 (Bz HB)); have n1_ := Bs HB hb; clear HB; revert n0_ n1_; intro HO221 HB; clear hb ho19) | ((with_reducible refine gate_builtin (b := .append) (xs := #[.tmp 29, .tmp 30]) rfl ?_); (try (refine gate_guard (by rfl) ?_; dsimp only)); at_builtin; refine Kd.R_append_rows (Kd.int .u8) (w0 := w) w.heap.size rfl (.tmp 29) (.tmp 30) 22 5 (.int .u8 0) 1 rfl Try.underlying22 info5 rfl (by decide) (by omega) v220 y219 l0 _ _ _ (fun _ => True) (fun _ => False) rfl rfl ?aO ?aR (fun _ _ h => h) (fun _ h => h.elim) ?aF ?aB ?aS ?aL ?_; (case aR => repeat (first | exact (Kd.C_below HR0.out HB.out) | (with_reducible refine Kd.C_alloc ?_ _) | (with_reducible refine Kd.C_drewN ?_ _) | (with_reducible refine Kd.C_drew ?_))); (case aB => exact (Bu HB)); (case aF => exact (fun _ _ => trivial)); (case aO => exact (Ru HO221)); (case aS => exact (Bz HB)); (case aL => have := LMc14.out; omega); intro v223 w20 ho hb hg hat; rw [← Ny222.out] at ho; have n0_ := Aside0.mk (hb); have n1_ := Aside0.mk (ho); clear HB HO221; revert n0_ n1_; intro HB HO224; clear ho hb hg hat; obtain ⟨Ao21, co21, eo21⟩ := Kd.R_slice HO224.out; subst eo21) | ((with_reducible refine gate_callee (f := 10) rfl ?_); refine goesA (some 32) Try.func10 #[.slice Ao21 y222.length co21] rfl ?_; (with_reducible refine (flate_Deflate.calls _ _ y222 t225 t226 _ ?side1 ?side2 A15.out).mono ?_); (case side1 => exact Cu (Kd.R_reads' HO224.out).2.2); (case side2 => exact (Kd.R_reads' HO224.out).2.1); rintro e w22 ⟨v227, rfl, ho0, hb⟩; refine ⟨_, rfl, ?_⟩; have n0_ := Re HO224 (Kd.R_base ho0) hb; have n1_ := Aside0.mk (Kd.R_lower (Kd.R_new' ho0 (Kd.R_lt (Ru HO224))) (Bz HB)); have n2_ := Bs HB hb; clear HO224 HB; revert n0_ n1_ n2_; intro HO224 HO228 HB; (try clear hb); (try clear hb2); (try clear hk); (try clear hi); (try clear ho0)) | ((with_reducible refine gate_callee (f := 11) rfl ?_); refine goesA (some 36) Try.func11 #[.slice A0 l0.length c0] rfl ?_; (with_reducible refine (flate_Stored.calls _ _ l0 t229 _ ?side1 ?side2 A16.out).mono ?_); (case side1 => exact Cu (Kd.C_below HR0.out HB.out)); (case side2 => exact HC0.out); rintro e w23 ⟨v230, rfl, ho0, hb⟩; refine ⟨_, rfl, ?_⟩; have n0_ := Re HO224 (Kd.R_base ho0) hb; have n1_ := Re HO228 (Kd.R_base ho0) hb; have n2_ := Aside0.mk (Kd.R_lower (Kd.R_new' (Kd.R_new' ho0 (Kd.R_lt (Ru HO224))) (Kd.R_lt (Ru HO228))) (Bz HB)); have n3_ := Bs HB hb; clear HO224 HO228 HB; revert n0_ n1_ n2_ n3_; intro HO224 HO228 HO231 HB; (try clear hb); (try clear hb2); (try clear hk); (try clear hi); (try clear ho0)))
     (try simp only [Act.put, List.setIfInBounds_toArray, List.set_cons_zero, List.set_cons_succ])
     go_cut [54] (fun v54 wc => ∃ (kq : Nat) (x54_16 : Bool), v54 = .bool x54_16 ∧ Aside0 (lanyardlaw04_FlateShort.j1 kq l0 l1 a2 t225 t229 x54_16 = some r) ∧ Aside0 (kq ≤ kj3) ∧ Aside0 (Kd.R (Kd.int .u8) 5 wc w.heap.size (fun k_ => some k_ ≠ (v230 : Value).ownBlock) v227 t225) ∧ Aside0 (Kd.R (Kd.int .u8) 5 wc w.heap.size (fun k_ => some k_ ≠ (v227 : Value).ownBlock) v230 t229) ∧ Aside0 (Below w.heap.size w wc))
     case first =>
      have H := HC17.out
      clear HC17
      by_cases c24 : t226 = 0
      ·rw [if_pos c24] at H
       have c24b0 : (t226 == 0) = true := beq_iff_eq.mpr c24
       have c24b1 : (t226 != 0) = false := bne_eq_false_iff_eq.mpr c24
       clear c24
       (first | rw [c24b0] | (simp only [i64_w, i32_w]; rw [c24b0]) | skip)
       replace H := Option.bind_eq_some_iff.mp H
       obtain ⟨t232, A250, H⟩ := H
       replace H : (if (strOfNums t225).toList = (strOfNums t232).toList then ((lanyardref04_Stored.f l0).bind fun t235 => (lanyardlaw04_FlateShort.j1 kj3 l0 l1 a2 t225 t229 ((strOfNums t229).toList != (strOfNums t235).toList))) else (lanyardlaw04_FlateShort.j1 kj3 l0 l1 a2 t225 t229 true)) = some r := H
       have A25 := Aside0.mk A250
       clear A250
       by_cases c26 : (strOfNums t225).toList = (strOfNums t232).toList
       ·rw [if_pos c26] at H
        have c26b0 : ((strOfNums t225).toList == (strOfNums t232).toList) = true := beq_iff_eq.mpr c26
        have c26b1 : ((strOfNums t225).toList != (strOfNums t232).toList) = false := bne_eq_false_iff_eq.mpr c26
        clear c26
        replace H := Option.bind_eq_some_iff.mp H
        obtain ⟨t235, A270, H⟩ := H
        replace H : (lanyardlaw04_FlateShort.j1 kj3 l0 l1 a2 t225 t229 ((strOfNums t229).toList != (strOfNums t235).toList)) = some r := H
        have A27 := Aside0.mk A270
        clear A270
        have H' := Aside0.mk H
        clear H
        try go_wp2
        have n0_ := Aside0.mk (Kd.R_drew HO224.out)
        have n1_ := Aside0.mk (Kd.R_drew HO228.out)
        have n2_ := Aside0.mk (Kd.R_drew HO231.out)
        have n3_ := Aside0.mk (below_drew1 HB.out)
        clear HO224
        clear HO228
        clear HO231
        clear HB
        have HO224 := n0_
        have HO228 := n1_
        have HO231 := n2_
        have HB := n3_
        clear n0_ n1_ n2_ n3_
        refine start_ (n := 18) (S := fun w' => (convert 22 9 v227).run Try.prog w' = .ok (.string (strOfNums t225)) w' ∧ (convert 22 9 v230).run Try.prog w' = .ok (.string (strOfNums t229)) w') (ds := []) #[false, false, false, false, false, false, false, false, false, false, false, false, false, false, false, false, false, false] (by kernel_rfl) rfl rfl ⟨own_string (P := Try.prog) Try.underlying22 Try.underlying5 Try.underlying9 (Kd.own_of_R HO228.out), own_string (P := Try.prog) Try.underlying22 Try.underlying5 Try.underlying9 (Kd.own_of_R HO231.out)⟩ (fun hHeld => ?_); refine with_tabW lanyardlaw04_FlateShort.tab5 lanyardlaw04_FlateShort.bits5 (fun HT_ HW_ => ?_)
        generalize w23.drew = w28 at HO224 HO228 HO231 HB hHeld ⊢
        refine pure_ (i := 0) (N := some 37) (v := ?_) (a' := ?_) #[true, false, false, false, false, false, false, false, false, false, false, false, false, false, false, false, false, false] rfl rfl (any_of HT_.out (by kernel_rfl)) (fun _ _ _ h => h) (Or.inl ⟨by rfl, ?_⟩) ?_ ?_
        rotate_left
        ·intro w'
         go_simp
         with_reducible rfl
        rotate_left
        ·simp only [Act.put, List.setIfInBounds_toArray, List.set_cons_zero, List.set_cons_succ, i64_w, i32_w]
         rfl
        refine pure_ (i := 1) (N := some 38) (v := ?_) (a' := ?_) #[true, true, false, false, false, false, false, false, false, false, false, false, false, false, false, false, false, false] rfl rfl (any_of HT_.out (by kernel_rfl)) (fun _ _ _ h => h) (Or.inl ⟨by rfl, ?_⟩) ?_ ?_
        rotate_left
        ·intro w'
         go_simp
         with_reducible rfl
        rotate_left
        ·simp only [Act.put, List.setIfInBounds_toArray, List.set_cons_zero, List.set_cons_succ, i64_w, i32_w]
         rfl
        refine pure_ (i := 2) (N := some 39) (v := ?_) (a' := ?_) #[true, true, true, false, false, false, false, false, false, false, false, false, false, false, false, false, false, false] rfl rfl (any_of HT_.out (by kernel_rfl)) (fun _ _ _ h => h) (Or.inl ⟨by rfl, ?_⟩) ?_ ?_
        rotate_left
        ·intro w'
         go_simp
         with_reducible rfl
        rotate_left
        ·simp only [Act.put, List.setIfInBounds_toArray, List.set_cons_zero, List.set_cons_succ, i64_w, i32_w]
         rfl
        refine pure_ (i := 3) (N := some 40) (v := ?_) (a' := ?_) #[true, true, true, true, false, false, false, false, false, false, false, false, false, false, false, false, false, false] rfl rfl (any_of HT_.out (by kernel_rfl)) (fun _ _ _ h => h) (Or.inl ⟨by rfl, ?_⟩) ?_ ?_
        rotate_left
        ·intro w'
         go_simp
         with_reducible rfl
        rotate_left
        ·simp only [Act.put, List.setIfInBounds_toArray, List.set_cons_zero, List.set_cons_succ, i64_w, i32_w]
         rfl
        refine pure_ (i := 5) (N := some 42) (v := ?_) (a' := ?_) #[true, true, true, true, false, true, false, false, false, false, false, false, false, false, false, false, false, false] rfl rfl (any_of HT_.out (by kernel_rfl)) (fun _ _ _ h => h) (Or.inl ⟨by rfl, ?_⟩) ?_ ?_
        rotate_left
        ·intro w'
         go_simp
         with_reducible rfl
        rotate_left
        ·simp only [Act.put, List.setIfInBounds_toArray, List.set_cons_zero, List.set_cons_succ, i64_w, i32_w]
         rfl
        refine take_ (i := 4) (N := some 41) (v := ?_) (a' := ?_) #[true, true, true, true, true, true, false, false, false, false, false, false, false, false, false, false, false, false] rfl rfl (take_ofW HT_.out HW_.out (by kernel_rfl)) (fun _ _ _ h => h) (Or.inl ⟨by rfl, ?_⟩) hHeld ?_ ?_
        rotate_left
        ·rintro w' ⟨s0, s1⟩
         go_simp
         with_reducible rfl
        rotate_left
        ·simp only [Act.put, List.setIfInBounds_toArray, List.set_cons_zero, List.set_cons_succ, i64_w, i32_w]
         rfl
        refine one_ (i := 6) (N := some 43) #[true, true, true, true, true, true, true, false, false, false, false, false, false, false, false, false, false, false] rfl rfl (one_of HT_.out (by kernel_rfl)) (by decide) (fun K hK => ?_)
        refine goes_ Try.func12 (by kernel_rfl) rfl #[.slice A0 l0.length c0] (by rfl) rfl rfl (by (try simp only [List.map_toArray, List.map_cons, List.map_nil]); first | done | rfl | (simp only [List.length_drop, List.length_take]; rfl)) ?_
        with_reducible refine (lanyardref04_Deflate.calls kj3 _ _ l0 t232 _ ?side1 ?side2 A25.out).mono ?_
        (case side1 => exact Cu (Kd.C_below HR0.out HB.out))
        (case side2 => exact HC0.out)
        rintro e w29 ⟨v233, rfl, ho0, hb⟩
        refine ⟨_, rfl, ?_⟩
        have n0_ := Re HO224 (Kd.R_base ho0) hb
        have n1_ := Re HO228 (Kd.R_base ho0) hb
        have n2_ := Re HO231 (Kd.R_base ho0) hb
        have n3_ := Aside0.mk (Kd.R_lower (Kd.R_new' (Kd.R_new' (Kd.R_new' ho0 (Kd.R_lt (Ru HO224))) (Kd.R_lt (Ru HO228))) (Kd.R_lt (Ru HO231))) (Bz HB))
        have n4_ := Bs HB hb
        clear HO224
        clear HO228
        clear HO231
        clear HB
        have HO224 := n0_
        have HO228 := n1_
        have HO231 := n2_
        have HO234 := n3_
        have HB := n4_
        clear n0_ n1_ n2_ n3_ n4_
        (try clear hb)
        (try clear hb2)
        (try clear hk)
        (try clear hi)
        (try clear ho0)
        refine hK.out _ _ ⟨own_string (P := Try.prog) Try.underlying22 Try.underlying5 Try.underlying9 (Kd.own_of_R HO228.out), own_string (P := Try.prog) Try.underlying22 Try.underlying5 Try.underlying9 (Kd.own_of_R HO231.out)⟩ (fun hHeld => ?_)
        clear hK K
        refine norm_ (a' := ?_) ?_ ?_
        rotate_left
        ·show Act.put _ (some 43) _ = _
         simp only [Act.put, List.setIfInBounds_toArray, List.set_cons_zero, List.set_cons_succ, i64_w, i32_w]
         rfl
        refine one_ (i := 7) (N := some 44) #[true, true, true, true, true, true, true, true, false, false, false, false, false, false, false, false, false, false] rfl rfl (one_of HT_.out (by kernel_rfl)) (by decide) (fun K hK => ?_)
        have hcv30 := own_string (P := Try.prog) Try.underlying22 Try.underlying5 Try.underlying9 (Kd.own_of_R HO234.out)
        refine value_ (w1 := ?_) (v := ?_) (by rfl) rfl ?_ ?_
        rotate_left 2
        ·go_simp
         constructor
         ·rfl
         ·rfl
        clear hcv30
        refine hK.out _ _ ⟨own_string (P := Try.prog) Try.underlying22 Try.underlying5 Try.underlying9 (Kd.own_of_R HO228.out), own_string (P := Try.prog) Try.underlying22 Try.underlying5 Try.underlying9 (Kd.own_of_R HO231.out)⟩ (fun hHeld => ?_)
        clear hK K
        refine norm_ (a' := ?_) ?_ ?_
        rotate_left
        ·show Act.put _ (some 44) _ = _
         simp only [Act.put, List.setIfInBounds_toArray, List.set_cons_zero, List.set_cons_succ, i64_w, i32_w]
         rfl
        refine pure_ (i := 8) (N := some 45) (v := ?_) (a' := ?_) #[true, true, true, true, true, true, true, true, true, false, false, false, false, false, false, false, false, false] rfl rfl (any_of HT_.out (by kernel_rfl)) (fun _ _ _ h => h) (Or.inl ⟨by rfl, ?_⟩) ?_ ?_
        rotate_left
        ·intro w'
         go_simp
         with_reducible rfl
        rotate_left
        ·simp only [Act.put, List.setIfInBounds_toArray, List.set_cons_zero, List.set_cons_succ, i64_w, i32_w]
         rfl
        refine pure_ (i := 9) (N := some 46) (v := ?_) (a' := ?_) #[true, true, true, true, true, true, true, true, true, true, false, false, false, false, false, false, false, false] rfl rfl (any_of HT_.out (by kernel_rfl)) (fun _ _ _ h => h) (Or.inl ⟨by rfl, ?_⟩) ?_ ?_
        rotate_left
        ·intro w'
         go_simp
         with_reducible rfl
        rotate_left
        ·simp only [Act.put, List.setIfInBounds_toArray, List.set_cons_zero, List.set_cons_succ, i64_w, i32_w]
         rfl
        refine pure_ (i := 10) (N := some 47) (v := ?_) (a' := ?_) #[true, true, true, true, true, true, true, true, true, true, true, false, false, false, false, false, false, false] rfl rfl (any_of HT_.out (by kernel_rfl)) (fun _ _ _ h => h) (Or.inl ⟨by rfl, ?_⟩) ?_ ?_
        rotate_left
        ·intro w'
         go_simp
         with_reducible rfl
        rotate_left
        ·simp only [Act.put, List.setIfInBounds_toArray, List.set_cons_zero, List.set_cons_succ, i64_w, i32_w]
         rfl
        refine pure_ (i := 11) (N := some 48) (v := ?_) (a' := ?_) #[true, true, true, true, true, true, true, true, true, true, true, true, false, false, false, false, false, false] rfl rfl (any_of HT_.out (by kernel_rfl)) (fun _ _ _ h => h) (Or.inl ⟨by rfl, ?_⟩) ?_ ?_
        rotate_left
        ·intro w'
         go_simp
         with_reducible rfl
        rotate_left
        ·simp only [Act.put, List.setIfInBounds_toArray, List.set_cons_zero, List.set_cons_succ, i64_w, i32_w]
         rfl
        refine pure_ (i := 13) (N := some 50) (v := ?_) (a' := ?_) #[true, true, true, true, true, true, true, true, true, true, true, true, false, true, false, false, false, false] rfl rfl (any_of HT_.out (by kernel_rfl)) (fun _ _ _ h => h) (Or.inl ⟨by rfl, ?_⟩) ?_ ?_
        rotate_left
        ·intro w'
         go_simp
         with_reducible rfl
        rotate_left
        ·simp only [Act.put, List.setIfInBounds_toArray, List.set_cons_zero, List.set_cons_succ, i64_w, i32_w]
         rfl
        refine take_ (i := 12) (N := some 49) (v := ?_) (a' := ?_) #[true, true, true, true, true, true, true, true, true, true, true, true, true, true, false, false, false, false] rfl rfl (take_ofW HT_.out HW_.out (by kernel_rfl)) (fun _ _ _ h => h) (Or.inl ⟨by rfl, ?_⟩) hHeld ?_ ?_
        rotate_left
        ·rintro w' ⟨s0, s1⟩
         go_simp
         with_reducible rfl
        rotate_left
        ·simp only [Act.put, List.setIfInBounds_toArray, List.set_cons_zero, List.set_cons_succ, i64_w, i32_w]
         rfl
        refine one_ (i := 14) (N := some 51) #[true, true, true, true, true, true, true, true, true, true, true, true, true, true, true, false, false, false] rfl rfl (one_of HT_.out (by kernel_rfl)) (by decide) (fun K hK => ?_)
        refine goes_ Try.func13 (by kernel_rfl) rfl #[.slice A0 l0.length c0] (by rfl) rfl rfl (by (try simp only [List.map_toArray, List.map_cons, List.map_nil]); first | done | rfl | (simp only [List.length_drop, List.length_take]; rfl)) ?_
        with_reducible refine (lanyardref04_Stored.calls _ _ l0 t235 _ ?side1 ?side2 A27.out).mono ?_
        (case side1 => exact Cu (Kd.C_below HR0.out HB.out))
        (case side2 => exact HC0.out)
        rintro e w31 ⟨v236, rfl, ho0, hb⟩
        refine ⟨_, rfl, ?_⟩
        have n0_ := Re HO224 (Kd.R_base ho0) hb
        have n1_ := Re HO228 (Kd.R_base ho0) hb
        have n2_ := Re HO231 (Kd.R_base ho0) hb
        have n3_ := Re HO234 (Kd.R_base ho0) hb
        have n4_ := Aside0.mk (Kd.R_lower (Kd.R_new' (Kd.R_new' (Kd.R_new' (Kd.R_new' ho0 (Kd.R_lt (Ru HO224))) (Kd.R_lt (Ru HO228))) (Kd.R_lt (Ru HO231))) (Kd.R_lt (Ru HO234))) (Bz HB))
        have n5_ := Bs HB hb
        clear HO224
        clear HO228
        clear HO231
        clear HO234
        clear HB
        have HO224 := n0_
        have HO228 := n1_
        have HO231 := n2_
        have HO234 := n3_
        have HO237 := n4_
        have HB := n5_
        clear n0_ n1_ n2_ n3_ n4_ n5_
        (try clear hb)
        (try clear hb2)
        (try clear hk)
        (try clear hi)
        (try clear ho0)
        refine hK.out _ _ ⟨own_string (P := Try.prog) Try.underlying22 Try.underlying5 Try.underlying9 (Kd.own_of_R HO228.out), own_string (P := Try.prog) Try.underlying22 Try.underlying5 Try.underlying9 (Kd.own_of_R HO231.out)⟩ (fun hHeld => ?_)
        clear hK K
        refine norm_ (a' := ?_) ?_ ?_
        rotate_left
        ·show Act.put _ (some 51) _ = _
         simp only [Act.put, List.setIfInBounds_toArray, List.set_cons_zero, List.set_cons_succ, i64_w, i32_w]
         rfl
        refine one_ (i := 15) (N := some 52) #[true, true, true, true, true, true, true, true, true, true, true, true, true, true, true, true, false, false] rfl rfl (one_of HT_.out (by kernel_rfl)) (by decide) (fun K hK => ?_)
        have hcv32 := own_string (P := Try.prog) Try.underlying22 Try.underlying5 Try.underlying9 (Kd.own_of_R HO237.out)
        refine value_ (w1 := ?_) (v := ?_) (by rfl) rfl ?_ ?_
        rotate_left 2
        ·go_simp
         constructor
         ·rfl
         ·rfl
        clear hcv32
        refine hK.out _ _ ⟨own_string (P := Try.prog) Try.underlying22 Try.underlying5 Try.underlying9 (Kd.own_of_R HO228.out), own_string (P := Try.prog) Try.underlying22 Try.underlying5 Try.underlying9 (Kd.own_of_R HO231.out)⟩ (fun hHeld => ?_)
        clear hK K
        refine norm_ (a' := ?_) ?_ ?_
        rotate_left
        ·show Act.put _ (some 52) _ = _
         simp only [Act.put, List.setIfInBounds_toArray, List.set_cons_zero, List.set_cons_succ, i64_w, i32_w]
         rfl
        refine pure_ (i := 16) (N := some 53) (v := ?_) (a' := ?_) #[true, true, true, true, true, true, true, true, true, true, true, true, true, true, true, true, true, false] rfl rfl (any_of HT_.out (by kernel_rfl)) (fun _ _ _ h => h) (Or.inl ⟨by rfl, ?_⟩) ?_ ?_
        rotate_left
        ·intro w'
         go_simp
         with_reducible rfl
        rotate_left
        ·simp only [Act.put, List.setIfInBounds_toArray, List.set_cons_zero, List.set_cons_succ, i64_w, i32_w]
         rfl
        refine pure_ (i := 17) (N := some 54) (v := ?_) (a' := ?_) #[true, true, true, true, true, true, true, true, true, true, true, true, true, true, true, true, true, true] rfl rfl (any_of HT_.out (by kernel_rfl)) (fun _ _ _ h => h) (Or.inl ⟨by rfl, ?_⟩) ?_ ?_
        rotate_left
        ·intro w'
         go_simp
         with_reducible rfl
        rotate_left
        ·simp only [Act.put, List.setIfInBounds_toArray, List.set_cons_zero, List.set_cons_succ, i64_w, i32_w]
         rfl
        refine done_ (done_of HT_.out (by kernel_rfl)) ?_
        try go_wp2
        go_meet
        case rel => exact ⟨_, (((strOfNums t229).toList != (strOfNums t235).toList)), (by first | rfl | (simp; done) | (simp [*]; done)), H', ⟨by have := HJ3.out; first | omega | exact Nat.le_refl _⟩, ⟨by (with_reducible repeat (first | apply Kd.R_alloc | apply Kd.R_drewN | apply Kd.R_drew)); exact Kd.R_mono HO228.out (fun _ hk => by first | exact hk.2.1 | exact hk.2 | exact hk.1 | exact hk.1.2 | exact hk.1.1 | exact hk.1.1.2 | exact hk.1.1.1.2 | exact hk.1.1.1.1.2 | exact hk.1.1.1.1.1.2)⟩, ⟨by (with_reducible repeat (first | apply Kd.R_alloc | apply Kd.R_drewN | apply Kd.R_drew)); exact Kd.R_mono HO231.out (fun _ hk => by first | exact hk.2.1 | exact hk.2 | exact hk.1 | exact hk.1.2 | exact hk.1.1 | exact hk.1.1.2 | exact hk.1.1.1.2 | exact hk.1.1.1.1.2 | exact hk.1.1.1.1.1.2)⟩, ⟨Bu HB⟩⟩
       ·rw [if_neg c26] at H
        have c26b0 : ((strOfNums t225).toList == (strOfNums t232).toList) = false := beq_eq_false_iff_ne.mpr c26
        have c26b1 : ((strOfNums t225).toList != (strOfNums t232).toList) = true := bne_iff_ne.mpr c26
        have H' := Aside0.mk H
        clear H
        try go_wp2
        have n0_ := Aside0.mk (Kd.R_drew HO224.out)
        have n1_ := Aside0.mk (Kd.R_drew HO228.out)
        have n2_ := Aside0.mk (Kd.R_drew HO231.out)
        have n3_ := Aside0.mk (below_drew1 HB.out)
        clear HO224
        clear HO228
        clear HO231
        clear HB
        have HO224 := n0_
        have HO228 := n1_
        have HO231 := n2_
        have HB := n3_
        clear n0_ n1_ n2_ n3_
        refine start_ (n := 18) (S := fun w' => (convert 22 9 v227).run Try.prog w' = .ok (.string (strOfNums t225)) w') (ds := []) #[false, false, false, false, false, false, false, false, false, false, false, false, false, false, false, false, false, false] (by kernel_rfl) rfl rfl (own_string (P := Try.prog) Try.underlying22 Try.underlying5 Try.underlying9 (Kd.own_of_R HO228.out)) (fun hHeld => ?_); refine with_tabW lanyardlaw04_FlateShort.tab5 lanyardlaw04_FlateShort.bits5 (fun HT_ HW_ => ?_)
        generalize w23.drew = w34 at HO224 HO228 HO231 HB hHeld ⊢
        refine pure_ (i := 0) (N := some 37) (v := ?_) (a' := ?_) #[true, false, false, false, false, false, false, false, false, false, false, false, false, false, false, false, false, false] rfl rfl (any_of HT_.out (by kernel_rfl)) (fun _ _ _ h => h) (Or.inl ⟨by rfl, ?_⟩) ?_ ?_
        rotate_left
        ·intro w'
         go_simp
         with_reducible rfl
        rotate_left
        ·simp only [Act.put, List.setIfInBounds_toArray, List.set_cons_zero, List.set_cons_succ, i64_w, i32_w]
         rfl
        refine pure_ (i := 1) (N := some 38) (v := ?_) (a' := ?_) #[true, true, false, false, false, false, false, false, false, false, false, false, false, false, false, false, false, false] rfl rfl (any_of HT_.out (by kernel_rfl)) (fun _ _ _ h => h) (Or.inl ⟨by rfl, ?_⟩) ?_ ?_
        rotate_left
        ·intro w'
         go_simp
         with_reducible rfl
        rotate_left
        ·simp only [Act.put, List.setIfInBounds_toArray, List.set_cons_zero, List.set_cons_succ, i64_w, i32_w]
         rfl
        refine pure_ (i := 2) (N := some 39) (v := ?_) (a' := ?_) #[true, true, true, false, false, false, false, false, false, false, false, false, false, false, false, false, false, false] rfl rfl (any_of HT_.out (by kernel_rfl)) (fun _ _ _ h => h) (Or.inl ⟨by rfl, ?_⟩) ?_ ?_
        rotate_left
        ·intro w'
         go_simp
         with_reducible rfl
        rotate_left
        ·simp only [Act.put, List.setIfInBounds_toArray, List.set_cons_zero, List.set_cons_succ, i64_w, i32_w]
         rfl
        refine pure_ (i := 3) (N := some 40) (v := ?_) (a' := ?_) #[true, true, true, true, false, false, false, false, false, false, false, false, false, false, false, false, false, false] rfl rfl (any_of HT_.out (by kernel_rfl)) (fun _ _ _ h => h) (Or.inl ⟨by rfl, ?_⟩) ?_ ?_
        rotate_left
        ·intro w'
         go_simp
         with_reducible rfl
        rotate_left
        ·simp only [Act.put, List.setIfInBounds_toArray, List.set_cons_zero, List.set_cons_succ, i64_w, i32_w]
         rfl
        refine pure_ (i := 5) (N := some 42) (v := ?_) (a' := ?_) #[true, true, true, true, false, true, false, false, false, false, false, false, false, false, false, false, false, false] rfl rfl (any_of HT_.out (by kernel_rfl)) (fun _ _ _ h => h) (Or.inl ⟨by rfl, ?_⟩) ?_ ?_
        rotate_left
        ·intro w'
         go_simp
         with_reducible rfl
        rotate_left
        ·simp only [Act.put, List.setIfInBounds_toArray, List.set_cons_zero, List.set_cons_succ, i64_w, i32_w]
         rfl
        refine take_ (i := 4) (N := some 41) (v := ?_) (a' := ?_) #[true, true, true, true, true, true, false, false, false, false, false, false, false, false, false, false, false, false] rfl rfl (take_ofW HT_.out HW_.out (by kernel_rfl)) (fun _ _ _ h => h) (Or.inl ⟨by rfl, ?_⟩) hHeld ?_ ?_
        rotate_left
        ·intro w' s0
         go_simp
         with_reducible rfl
        rotate_left
        ·simp only [Act.put, List.setIfInBounds_toArray, List.set_cons_zero, List.set_cons_succ, i64_w, i32_w]
         rfl
        refine one_ (i := 6) (N := some 43) #[true, true, true, true, true, true, true, false, false, false, false, false, false, false, false, false, false, false] rfl rfl (one_of HT_.out (by kernel_rfl)) (by decide) (fun K hK => ?_)
        refine goes_ Try.func12 (by kernel_rfl) rfl #[.slice A0 l0.length c0] (by rfl) rfl rfl (by (try simp only [List.map_toArray, List.map_cons, List.map_nil]); first | done | rfl | (simp only [List.length_drop, List.length_take]; rfl)) ?_
        with_reducible refine (lanyardref04_Deflate.calls kj3 _ _ l0 t232 _ ?side1 ?side2 A25.out).mono ?_
        (case side1 => exact Cu (Kd.C_below HR0.out HB.out))
        (case side2 => exact HC0.out)
        rintro e w35 ⟨v233, rfl, ho0, hb⟩
        refine ⟨_, rfl, ?_⟩
        have n0_ := Re HO224 (Kd.R_base ho0) hb
        have n1_ := Re HO228 (Kd.R_base ho0) hb
        have n2_ := Re HO231 (Kd.R_base ho0) hb
        have n3_ := Aside0.mk (Kd.R_lower (Kd.R_new' (Kd.R_new' (Kd.R_new' ho0 (Kd.R_lt (Ru HO224))) (Kd.R_lt (Ru HO228))) (Kd.R_lt (Ru HO231))) (Bz HB))
        have n4_ := Bs HB hb
        clear HO224
        clear HO228
        clear HO231
        clear HB
        have HO224 := n0_
        have HO228 := n1_
        have HO231 := n2_
        have HO234 := n3_
        have HB := n4_
        clear n0_ n1_ n2_ n3_ n4_
        (try clear hb)
        (try clear hb2)
        (try clear hk)
        (try clear hi)
        (try clear ho0)
        refine hK.out _ _ (own_string (P := Try.prog) Try.underlying22 Try.underlying5 Try.underlying9 (Kd.own_of_R HO228.out)) (fun hHeld => ?_)
        clear hK K
        refine norm_ (a' := ?_) ?_ ?_
        rotate_left
        ·show Act.put _ (some 43) _ = _
         simp only [Act.put, List.setIfInBounds_toArray, List.set_cons_zero, List.set_cons_succ, i64_w, i32_w]
         rfl
        refine one_ (i := 7) (N := some 44) #[true, true, true, true, true, true, true, true, false, false, false, false, false, false, false, false, false, false] rfl rfl (one_of HT_.out (by kernel_rfl)) (by decide) (fun K hK => ?_)
        have hcv36 := own_string (P := Try.prog) Try.underlying22 Try.underlying5 Try.underlying9 (Kd.own_of_R HO234.out)
        refine value_ (w1 := ?_) (v := ?_) (by rfl) rfl ?_ ?_
        rotate_left 2
        ·go_simp
         constructor
         ·rfl
         ·rfl
        clear hcv36
        refine hK.out _ _ (own_string (P := Try.prog) Try.underlying22 Try.underlying5 Try.underlying9 (Kd.own_of_R HO228.out)) (fun hHeld => ?_)
        clear hK K
        refine norm_ (a' := ?_) ?_ ?_
        rotate_left
        ·show Act.put _ (some 44) _ = _
         simp only [Act.put, List.setIfInBounds_toArray, List.set_cons_zero, List.set_cons_succ, i64_w, i32_w]
         rfl
        refine pure_ (i := 8) (N := some 45) (v := ?_) (a' := ?_) #[true, true, true, true, true, true, true, true, true, false, false, false, false, false, false, false, false, false] rfl rfl (any_of HT_.out (by kernel_rfl)) (fun _ _ _ h => h) (Or.inl ⟨by rfl, ?_⟩) ?_ ?_
        rotate_left
        ·intro w'
         go_simp
         with_reducible rfl
        rotate_left
        ·simp only [Act.put, List.setIfInBounds_toArray, List.set_cons_zero, List.set_cons_succ, i64_w, i32_w]
         rfl
        refine pure_ (i := 9) (N := some 46) (v := ?_) (a' := ?_) #[true, true, true, true, true, true, true, true, true, true, false, false, false, false, false, false, false, false] rfl rfl (any_of HT_.out (by kernel_rfl)) (fun _ _ _ h => h) (Or.inl ⟨by rfl, ?_⟩) ?_ ?_
        rotate_left
        ·intro w'
         go_simp
         with_reducible rfl
        rotate_left
        ·simp only [Act.put, List.setIfInBounds_toArray, List.set_cons_zero, List.set_cons_succ, i64_w, i32_w]
         rfl
        refine pure_ (i := 10) (N := some 47) (v := ?_) (a' := ?_) #[true, true, true, true, true, true, true, true, true, true, true, false, false, false, false, false, false, false] rfl rfl (any_of HT_.out (by kernel_rfl)) (fun _ _ _ h => h) (Or.inl ⟨by rfl, ?_⟩) ?_ ?_
        rotate_left
        ·intro w'
         go_simp
         with_reducible rfl
        rotate_left
        ·simp only [Act.put, List.setIfInBounds_toArray, List.set_cons_zero, List.set_cons_succ, i64_w, i32_w]
         rfl
        refine pure_ (i := 11) (N := some 48) (v := undef) (a' := ?_) #[true, true, true, true, true, true, true, true, true, true, true, true, false, false, false, false, false, false] rfl rfl (any_of HT_.out (by kernel_rfl)) (fun _ _ _ h => h) (Or.inr ⟨by rfl, rfl⟩) ?_ ?_
        rotate_left
        ·simp only [Act.put, List.setIfInBounds_toArray, List.set_cons_zero, List.set_cons_succ, i64_w, i32_w]
         rfl
        refine pure_ (i := 12) (N := some 49) (v := undef) (a' := ?_) #[true, true, true, true, true, true, true, true, true, true, true, true, true, false, false, false, false, false] rfl rfl (any_of HT_.out (by kernel_rfl)) (fun _ _ _ h => h) (Or.inr ⟨by rfl, rfl⟩) ?_ ?_
        rotate_left
        ·simp only [Act.put, List.setIfInBounds_toArray, List.set_cons_zero, List.set_cons_succ, i64_w, i32_w]
         rfl
        refine pure_ (i := 13) (N := some 50) (v := undef) (a' := ?_) #[true, true, true, true, true, true, true, true, true, true, true, true, true, true, false, false, false, false] rfl rfl (any_of HT_.out (by kernel_rfl)) (fun _ _ _ h => h) (Or.inr ⟨by rfl, rfl⟩) ?_ ?_
        rotate_left
        ·simp only [Act.put, List.setIfInBounds_toArray, List.set_cons_zero, List.set_cons_succ, i64_w, i32_w]
         rfl
        refine pure_ (i := 14) (N := some 51) (v := undef) (a' := ?_) #[true, true, true, true, true, true, true, true, true, true, true, true, true, true, true, false, false, false] rfl rfl (any_of HT_.out (by kernel_rfl)) (fun _ _ _ h => h) (Or.inr ⟨by rfl, rfl⟩) ?_ ?_
        rotate_left
        ·simp only [Act.put, List.setIfInBounds_toArray, List.set_cons_zero, List.set_cons_succ, i64_w, i32_w]
         rfl
        refine pure_ (i := 15) (N := some 52) (v := undef) (a' := ?_) #[true, true, true, true, true, true, true, true, true, true, true, true, true, true, true, true, false, false] rfl rfl (any_of HT_.out (by kernel_rfl)) (fun _ _ _ h => h) (Or.inr ⟨by rfl, rfl⟩) ?_ ?_
        rotate_left
        ·simp only [Act.put, List.setIfInBounds_toArray, List.set_cons_zero, List.set_cons_succ, i64_w, i32_w]
         rfl
        refine pure_ (i := 16) (N := some 53) (v := undef) (a' := ?_) #[true, true, true, true, true, true, true, true, true, true, true, true, true, true, true, true, true, false] rfl rfl (any_of HT_.out (by kernel_rfl)) (fun _ _ _ h => h) (Or.inr ⟨by rfl, rfl⟩) ?_ ?_
        rotate_left
        ·simp only [Act.put, List.setIfInBounds_toArray, List.set_cons_zero, List.set_cons_succ, i64_w, i32_w]
         rfl
        refine pure_ (i := 17) (N := some 54) (v := ?_) (a' := ?_) #[true, true, true, true, true, true, true, true, true, true, true, true, true, true, true, true, true, true] rfl rfl (any_of HT_.out (by kernel_rfl)) (fun _ _ _ h => h) (Or.inl ⟨by rfl, ?_⟩) ?_ ?_
        rotate_left
        ·intro w'
         go_simp
         with_reducible rfl
        rotate_left
        ·simp only [Act.put, List.setIfInBounds_toArray, List.set_cons_zero, List.set_cons_succ, i64_w, i32_w]
         rfl
        refine done_ (done_of HT_.out (by kernel_rfl)) ?_
        try go_wp2
        go_meet
        case rel => exact ⟨_, (true), (by first | rfl | (simp; done) | (simp [*]; done)), H', ⟨by have := HJ3.out; first | omega | exact Nat.le_refl _⟩, ⟨by (with_reducible repeat (first | apply Kd.R_alloc | apply Kd.R_drewN | apply Kd.R_drew)); exact Kd.R_mono HO228.out (fun _ hk => by first | exact hk.2.1 | exact hk.2 | exact hk.1 | exact hk.1.2 | exact hk.1.1 | exact hk.1.1.2 | exact hk.1.1.1.2 | exact hk.1.1.1.1.2 | exact hk.1.1.1.1.1.2)⟩, ⟨by (with_reducible repeat (first | apply Kd.R_alloc | apply Kd.R_drewN | apply Kd.R_drew)); exact Kd.R_mono HO231.out (fun _ hk => by first | exact hk.2.1 | exact hk.2 | exact hk.1 | exact hk.1.2 | exact hk.1.1 | exact hk.1.1.2 | exact hk.1.1.1.2 | exact hk.1.1.1.1.2 | exact hk.1.1.1.1.1.2)⟩, ⟨Bu HB⟩⟩
      ·rw [if_neg c24] at H
       have c24b0 : (t226 == 0) = false := beq_eq_false_iff_ne.mpr c24
       have c24b1 : (t226 != 0) = true := bne_iff_ne.mpr c24
       (first | rw [c24b0] | (simp only [i64_w, i32_w]; rw [c24b0]) | skip)
       have H' := Aside0.mk H
       clear H
       try go_wp2
       have n0_ := Aside0.mk (Kd.R_drew HO224.out)
       have n1_ := Aside0.mk (Kd.R_drew HO228.out)
       have n2_ := Aside0.mk (Kd.R_drew HO231.out)
       have n3_ := Aside0.mk (below_drew1 HB.out)
       clear HO224
       clear HO228
       clear HO231
       clear HB
       have HO224 := n0_
       have HO228 := n1_
       have HO231 := n2_
       have HB := n3_
       clear n0_ n1_ n2_ n3_
       refine start_ (n := 18) (S := fun w' => True) (ds := []) #[false, false, false, false, false, false, false, false, false, false, false, false, false, false, false, false, false, false] (by kernel_rfl) rfl rfl trivial (fun hHeld => ?_); refine with_tabW lanyardlaw04_FlateShort.tab5 lanyardlaw04_FlateShort.bits5 (fun HT_ HW_ => ?_)
       generalize w23.drew = w38 at HO224 HO228 HO231 HB hHeld ⊢
       refine pure_ (i := 0) (N := some 37) (v := ?_) (a' := ?_) #[true, false, false, false, false, false, false, false, false, false, false, false, false, false, false, false, false, false] rfl rfl (any_of HT_.out (by kernel_rfl)) (fun _ _ _ h => h) (Or.inl ⟨by rfl, ?_⟩) ?_ ?_
       rotate_left
       ·intro w'
        go_simp
        with_reducible rfl
       rotate_left
       ·simp only [Act.put, List.setIfInBounds_toArray, List.set_cons_zero, List.set_cons_succ, i64_w, i32_w]
        rfl
       refine pure_ (i := 1) (N := some 38) (v := ?_) (a' := ?_) #[true, true, false, false, false, false, false, false, false, false, false, false, false, false, false, false, false, false] rfl rfl (any_of HT_.out (by kernel_rfl)) (fun _ _ _ h => h) (Or.inl ⟨by rfl, ?_⟩) ?_ ?_
       rotate_left
       ·intro w'
        go_simp
        with_reducible rfl
       rotate_left
       ·simp only [Act.put, List.setIfInBounds_toArray, List.set_cons_zero, List.set_cons_succ, i64_w, i32_w]
        rfl
       refine pure_ (i := 2) (N := some 39) (v := ?_) (a' := ?_) #[true, true, true, false, false, false, false, false, false, false, false, false, false, false, false, false, false, false] rfl rfl (any_of HT_.out (by kernel_rfl)) (fun _ _ _ h => h) (Or.inl ⟨by rfl, ?_⟩) ?_ ?_
       rotate_left
       ·intro w'
        go_simp
        with_reducible rfl
       rotate_left
       ·simp only [Act.put, List.setIfInBounds_toArray, List.set_cons_zero, List.set_cons_succ, i64_w, i32_w]
        rfl
       refine pure_ (i := 3) (N := some 40) (v := undef) (a' := ?_) #[true, true, true, true, false, false, false, false, false, false, false, false, false, false, false, false, false, false] rfl rfl (any_of HT_.out (by kernel_rfl)) (fun _ _ _ h => h) (Or.inr ⟨by rfl, rfl⟩) ?_ ?_
       rotate_left
       ·simp only [Act.put, List.setIfInBounds_toArray, List.set_cons_zero, List.set_cons_succ, i64_w, i32_w]
        rfl
       refine pure_ (i := 4) (N := some 41) (v := undef) (a' := ?_) #[true, true, true, true, true, false, false, false, false, false, false, false, false, false, false, false, false, false] rfl rfl (any_of HT_.out (by kernel_rfl)) (fun _ _ _ h => h) (Or.inr ⟨by rfl, rfl⟩) ?_ ?_
       rotate_left
       ·simp only [Act.put, List.setIfInBounds_toArray, List.set_cons_zero, List.set_cons_succ, i64_w, i32_w]
        rfl
       refine pure_ (i := 5) (N := some 42) (v := undef) (a' := ?_) #[true, true, true, true, true, true, false, false, false, false, false, false, false, false, false, false, false, false] rfl rfl (any_of HT_.out (by kernel_rfl)) (fun _ _ _ h => h) (Or.inr ⟨by rfl, rfl⟩) ?_ ?_
       rotate_left
       ·simp only [Act.put, List.setIfInBounds_toArray, List.set_cons_zero, List.set_cons_succ, i64_w, i32_w]
        rfl
       refine pure_ (i := 6) (N := some 43) (v := undef) (a' := ?_) #[true, true, true, true, true, true, true, false, false, false, false, false, false, false, false, false, false, false] rfl rfl (any_of HT_.out (by kernel_rfl)) (fun _ _ _ h => h) (Or.inr ⟨by rfl, rfl⟩) ?_ ?_
       rotate_left
       ·simp only [Act.put, List.setIfInBounds_toArray, List.set_cons_zero, List.set_cons_succ, i64_w, i32_w]
        rfl
       refine pure_ (i := 7) (N := some 44) (v := undef) (a' := ?_) #[true, true, true, true, true, true, true, true, false, false, false, false, false, false, false, false, false, false] rfl rfl (any_of HT_.out (by kernel_rfl)) (fun _ _ _ h => h) (Or.inr ⟨by rfl, rfl⟩) ?_ ?_
       rotate_left
       ·simp only [Act.put, List.setIfInBounds_toArray, List.set_cons_zero, List.set_cons_succ, i64_w, i32_w]
        rfl
       refine pure_ (i := 8) (N := some 45) (v := undef) (a' := ?_) #[true, true, true, true, true, true, true, true, true, false, false, false, false, false, false, false, false, false] rfl rfl (any_of HT_.out (by kernel_rfl)) (fun _ _ _ h => h) (Or.inr ⟨by rfl, rfl⟩) ?_ ?_
       rotate_left
       ·simp only [Act.put, List.setIfInBounds_toArray, List.set_cons_zero, List.set_cons_succ, i64_w, i32_w]
        rfl
       refine pure_ (i := 9) (N := some 46) (v := ?_) (a' := ?_) #[true, true, true, true, true, true, true, true, true, true, false, false, false, false, false, false, false, false] rfl rfl (any_of HT_.out (by kernel_rfl)) (fun _ _ _ h => h) (Or.inl ⟨by rfl, ?_⟩) ?_ ?_
       rotate_left
       ·intro w'
        go_simp
        with_reducible rfl
       rotate_left
       ·simp only [Act.put, List.setIfInBounds_toArray, List.set_cons_zero, List.set_cons_succ, i64_w, i32_w]
        rfl
       refine pure_ (i := 10) (N := some 47) (v := ?_) (a' := ?_) #[true, true, true, true, true, true, true, true, true, true, true, false, false, false, false, false, false, false] rfl rfl (any_of HT_.out (by kernel_rfl)) (fun _ _ _ h => h) (Or.inl ⟨by rfl, ?_⟩) ?_ ?_
       rotate_left
       ·intro w'
        go_simp
        with_reducible rfl
       rotate_left
       ·simp only [Act.put, List.setIfInBounds_toArray, List.set_cons_zero, List.set_cons_succ, i64_w, i32_w]
        rfl
       refine pure_ (i := 11) (N := some 48) (v := undef) (a' := ?_) #[true, true, true, true, true, true, true, true, true, true, true, true, false, false, false, false, false, false] rfl rfl (any_of HT_.out (by kernel_rfl)) (fun _ _ _ h => h) (Or.inr ⟨by rfl, rfl⟩) ?_ ?_
       rotate_left
       ·simp only [Act.put, List.setIfInBounds_toArray, List.set_cons_zero, List.set_cons_succ, i64_w, i32_w]
        rfl
       refine pure_ (i := 12) (N := some 49) (v := undef) (a' := ?_) #[true, true, true, true, true, true, true, true, true, true, true, true, true, false, false, false, false, false] rfl rfl (any_of HT_.out (by kernel_rfl)) (fun _ _ _ h => h) (Or.inr ⟨by rfl, rfl⟩) ?_ ?_
       rotate_left
       ·simp only [Act.put, List.setIfInBounds_toArray, List.set_cons_zero, List.set_cons_succ, i64_w, i32_w]
        rfl
       refine pure_ (i := 13) (N := some 50) (v := undef) (a' := ?_) #[true, true, true, true, true, true, true, true, true, true, true, true, true, true, false, false, false, false] rfl rfl (any_of HT_.out (by kernel_rfl)) (fun _ _ _ h => h) (Or.inr ⟨by rfl, rfl⟩) ?_ ?_
       rotate_left
       ·simp only [Act.put, List.setIfInBounds_toArray, List.set_cons_zero, List.set_cons_succ, i64_w, i32_w]
        rfl
       refine pure_ (i := 14) (N := some 51) (v := undef) (a' := ?_) #[true, true, true, true, true, true, true, true, true, true, true, true, true, true, true, false, false, false] rfl rfl (any_of HT_.out (by kernel_rfl)) (fun _ _ _ h => h) (Or.inr ⟨by rfl, rfl⟩) ?_ ?_
       rotate_left
       ·simp only [Act.put, List.setIfInBounds_toArray, List.set_cons_zero, List.set_cons_succ, i64_w, i32_w]
        rfl
       refine pure_ (i := 15) (N := some 52) (v := undef) (a' := ?_) #[true, true, true, true, true, true, true, true, true, true, true, true, true, true, true, true, false, false] rfl rfl (any_of HT_.out (by kernel_rfl)) (fun _ _ _ h => h) (Or.inr ⟨by rfl, rfl⟩) ?_ ?_
       rotate_left
       ·simp only [Act.put, List.setIfInBounds_toArray, List.set_cons_zero, List.set_cons_succ, i64_w, i32_w]
        rfl
       refine pure_ (i := 16) (N := some 53) (v := undef) (a' := ?_) #[true, true, true, true, true, true, true, true, true, true, true, true, true, true, true, true, true, false] rfl rfl (any_of HT_.out (by kernel_rfl)) (fun _ _ _ h => h) (Or.inr ⟨by rfl, rfl⟩) ?_ ?_
       rotate_left
       ·simp only [Act.put, List.setIfInBounds_toArray, List.set_cons_zero, List.set_cons_succ, i64_w, i32_w]
        rfl
       refine pure_ (i := 17) (N := some 54) (v := ?_) (a' := ?_) #[true, true, true, true, true, true, true, true, true, true, true, true, true, true, true, true, true, true] rfl rfl (any_of HT_.out (by kernel_rfl)) (fun _ _ _ h => h) (Or.inl ⟨by rfl, ?_⟩) ?_ ?_
       rotate_left
       ·intro w'
        go_simp
        with_reducible rfl
       rotate_left
       ·simp only [Act.put, List.setIfInBounds_toArray, List.set_cons_zero, List.set_cons_succ, i64_w, i32_w]
        rfl
       refine done_ (done_of HT_.out (by kernel_rfl)) ?_
       try go_wp2
       go_meet
       case rel => exact ⟨_, (true), (by first | rfl | (simp; done) | (simp [*]; done)), H', ⟨by have := HJ3.out; first | omega | exact Nat.le_refl _⟩, ⟨by (with_reducible repeat (first | apply Kd.R_alloc | apply Kd.R_drewN | apply Kd.R_drew)); exact Kd.R_mono HO228.out (fun _ hk => hk.2)⟩, ⟨by (with_reducible repeat (first | apply Kd.R_alloc | apply Kd.R_drewN | apply Kd.R_drew)); exact Kd.R_mono HO231.out (fun _ hk => hk.2)⟩, ⟨Bu HB⟩⟩
     case rest =>
      clear HC17
      try clear c1
      try clear c2
      try clear p2
      try clear hcv3
      try clear c9
      try clear c10
      try clear c11
      try clear c12
      try clear c13
      try clear c14
      try clear c24
      try clear c24b0
      try clear c24b1
      try clear c26
      try clear c26b0
      try clear c26b1
      try clear hcv30
      try clear hcv32
      try clear hcv36
      obtain ⟨kq, x54_16, rfl, HA, HJ16, HO_7, HO_9, HB⟩ := hcut
      cases kq with
      | zero => exact absurd HA.out (by simp [lanyardlaw04_FlateShort.j1])
      | succ kj16 =>
       have H := HA.out
       clear HA
       simp only [lanyardlaw04_FlateShort.j1] at H
       by_cases c39 : x54_16 = true
       ·subst c39
        have H1 : (some false) = some r := by rw [if_pos rfl] at H; exact H
        clear H
        have H := H1
        clear H1
        exact absurd (Option.some.inj H) (by rw [HR_.out]; decide)
       ·replace c39 := Bool.eq_false_iff.mpr c39
        subst c39
        have H1 : (lanyardlaw04_FlateShort.l0 kj16 l0 l1 a2 (([t225, t229] : List (List Int))) 0) = some r := by rw [if_neg (show ¬ (false = true) by decide)] at H; exact H
        clear H
        have H := H1
        clear H1
        obtain ⟨y238, hy238⟩ : ∃ y_ : List (List Int), y_ = (([t225, t229] : List (List Int))) := ⟨_, rfl⟩
        replace H : (lanyardlaw04_FlateShort.l0 kj16 l0 l1 a2 y238 0) = some r := by first | (rw [hy238]; with_reducible exact H) | (have H2_ := (Option.bind_some _ _).symm.trans H; rw [hy238]; with_reducible exact H2_) | (have H2_ := (Option.bind_some _ _).symm.trans H; with_reducible exact H2_) | with_reducible exact H | (rw [hy238]; exact H) | exact H
        have Ny238 := Aside0.mk hy238
        clear hy238
        have H' := Aside0.mk H
        clear H
        obtain ⟨Ao40, co40, eo40⟩ := Kd.R_slice HO_7.out
        subst eo40
        obtain ⟨Ao41, co41, eo41⟩ := Kd.R_slice HO_9.out
        subst eo41
        go_wp2_with (first | ((with_reducible refine gate_dst (N := 57) rfl ?_); (try (refine gate_guard (by rfl) ?_; dsimp only)); refine Kd.N_lit (Kd.slice 5 (Kd.int .u8)) _ 22 ?hg (N' := 57) ?hd (xs := ([t225, t229] : List (List Int))) (inner := [.slice Ao40 t225.length co40, .slice Ao41 t229.length co41]) (ok := (fun _ => True)) (okp := (fun _ => True)) ?hr ?hp (fun _ hk => hk) ((show ∀ k_, wc.heap.size ≤ k_ → (fun _ => True) k_ from fun k_ hk => trivial) _ (Nat.le_refl _)) (Below.refl _ _) (Nat.le_refl _) (by simp) ?_; (case hd => rfl); (case hg => rfl); (case hr => first | (go_simp; done) | (go_simp; rfl)); (case hp => exact (Reps.one (show Kd.FK (Kd.slice 5 (Kd.int .u8)) _ _ t225 [.slice Ao40 t225.length co40] from (Kd.FK_slice_mk (Kd.R_reads' (Kd.R_mono (ok' := (fun _ => True)) (HO_7.out) (fun k_ hk => trivial))).2.1 (Kd.R_F (Kd.R_mono (ok' := (fun _ => True)) (HO_7.out) (fun k_ hk => trivial))))) (Reps.one (show Kd.FK (Kd.slice 5 (Kd.int .u8)) _ _ t229 [.slice Ao41 t229.length co41] from (Kd.FK_slice_mk (Kd.R_reads' (Kd.R_mono (ok' := (fun _ => True)) (HO_9.out) (fun k_ hk => trivial))).2.1 (Kd.R_F (Kd.R_mono (ok' := (fun _ => True)) (HO_9.out) (fun k_ hk => trivial))))) (Reps.none _ _)))); intro v239 w42 ho43 hb hg_ hnew_; clear hg_ hnew_; (first | rw [← Ny238.out] at ho43 | (simp only [Int.reduceToNat] at ho43; rw [← Ny238.out] at ho43)); have n0_ := Aside0.mk (Kd.N_lower ho43 (Bz HB)); have n1_ := Bs HB hb; clear HB HO_7 HO_9; revert n0_ n1_; intro HO240 HB; clear hb ho43))
        go_loopg [11] kj16 (fun kq v11 w' => ∃ (x11_3 : Int), v11 = .int .i64 x11_3 ∧ Aside0 (lanyardlaw04_FlateShort.l0 kq l0 l1 a2 y238 x11_3 = some r) ∧ Aside0 (kq ≤ kj16) ∧ Aside0 (Kd.N (Kd.slice 5 (Kd.int .u8)) 22 w' w.heap.size (fun _ => True) v239 y238) ∧ Aside0 (Below w.heap.size w w'))
        case atStart => exact ⟨(0), (by first | rfl | (simp; done) | (simp [*]; done)), H', ⟨Nat.le_refl _⟩, ⟨Nu HO240⟩, ⟨Bu HB⟩⟩
        case round =>
         clear H'
         try clear c1
         try clear c2
         try clear p2
         try clear c3
         try clear hcv3
         try clear c9
         try clear c10
         try clear c11
         try clear c12
         try clear c13
         try clear c14
         try clear c24
         try clear c24b0
         try clear c24b1
         try clear c26
         try clear c26b0
         try clear c26b1
         try clear hcv30
         try clear hcv32
         try clear hcv36
         try clear c39
         try clear p2
         obtain ⟨x11_3, rfl, HA, HK3, HO_10, HB⟩ := hrel
         cases gk with
         | zero => exact absurd HA.out (by simp [lanyardlaw04_FlateShort.l0])
         | succ k3 =>
          have H := HA.out
          clear HA
          simp only [lanyardlaw04_FlateShort.l0] at H
          by_cases c44 : x11_3 < 2
          ·rw [if_pos c44] at H
           have c44b0 : decide (x11_3 < 2) = true := decide_eq_true c44
           clear c44
           obtain ⟨y241, hy241⟩ : ∃ y_ : List Int, y_ = (([] : List Int)) := ⟨_, rfl⟩
           replace H : (if 0 ≤ x11_3 then (if x11_3 < (y238.length : Int) then (if y241.length + (rd_L2 y238 x11_3).length < 140737488355328 then ((some (y241 ++ (rd_L2 y238 x11_3) : List Int)).bind fun y245 => (if y245.length + l1.length < 140737488355328 then ((flate_Inflate.f (y245 ++ l1) a2).bind fun bt251 => (if a2 < 0 then (if bt251.2.2 = 2 then (if bt251.2.1 = 0 then (if (bt251.1.length : Int) = 0 then (lanyardlaw04_FlateShort.l0 k3 l0 l1 a2 y238 (wrap64 (x11_3 + 1))) else (some false)) else (some false)) else (some false)) else (if a2 < (l0.length : Int) then (if bt251.2.2 = 12 then (if bt251.2.1 = 0 then (lanyardlaw04_FlateShort.j3 k3 l0 l1 a2 y238 x11_3 ((bt251.1.length : Int) != 0)) else (lanyardlaw04_FlateShort.j3 k3 l0 l1 a2 y238 x11_3 true)) else (lanyardlaw04_FlateShort.j3 k3 l0 l1 a2 y238 x11_3 true)) else (if bt251.2.2 = 0 then (if bt251.2.1 = ((rd_L2 y238 x11_3).length : Int) then (if (strOfNums bt251.1).toList = (strOfNums l0).toList then (lanyardlaw04_FlateShort.l0 k3 l0 l1 a2 y238 (wrap64 (x11_3 + 1))) else (some false)) else (some false)) else (some false))))) else (none))) else (none)) else (none)) else (none)) = some r := by first | (rw [hy241]; with_reducible exact H) | (have H2_ := (Option.bind_some _ _).symm.trans H; rw [hy241]; with_reducible exact H2_) | (have H2_ := (Option.bind_some _ _).symm.trans H; with_reducible exact H2_) | with_reducible exact H | (rw [hy241]; exact H) | exact H
           have Ny241 := Aside0.mk hy241
           clear hy241
           by_cases c45 : 0 ≤ x11_3
           ·rw [if_pos c45] at H
            have c45b0 : decide (0 ≤ x11_3) = true := decide_eq_true c45
            clear c45
            by_cases c46 : x11_3 < (y238.length : Int)
            ·rw [if_pos c46] at H
             have c46b0 : decide (x11_3 < (y238.length : Int)) = true := decide_eq_true c46
             clear c46
             by_cases c47 : y241.length + (rd_L2 y238 x11_3).length < 140737488355328
             ·rw [if_pos c47] at H
              have LMc47 := Aside0.mk c47
              clear c47
              obtain ⟨y245, hy245⟩ : ∃ y_ : List Int, y_ = (y241 ++ (rd_L2 y238 x11_3)) := ⟨_, rfl⟩
              replace H : (if y245.length + l1.length < 140737488355328 then ((flate_Inflate.f (y245 ++ l1) a2).bind fun bt251 => (if a2 < 0 then (if bt251.2.2 = 2 then (if bt251.2.1 = 0 then (if (bt251.1.length : Int) = 0 then (lanyardlaw04_FlateShort.l0 k3 l0 l1 a2 y238 (wrap64 (x11_3 + 1))) else (some false)) else (some false)) else (some false)) else (if a2 < (l0.length : Int) then (if bt251.2.2 = 12 then (if bt251.2.1 = 0 then (lanyardlaw04_FlateShort.j3 k3 l0 l1 a2 y238 x11_3 ((bt251.1.length : Int) != 0)) else (lanyardlaw04_FlateShort.j3 k3 l0 l1 a2 y238 x11_3 true)) else (lanyardlaw04_FlateShort.j3 k3 l0 l1 a2 y238 x11_3 true)) else (if bt251.2.2 = 0 then (if bt251.2.1 = ((rd_L2 y238 x11_3).length : Int) then (if (strOfNums bt251.1).toList = (strOfNums l0).toList then (lanyardlaw04_FlateShort.l0 k3 l0 l1 a2 y238 (wrap64 (x11_3 + 1))) else (some false)) else (some false)) else (some false))))) else (none)) = some r := by first | (rw [hy245]; with_reducible exact H) | (have H2_ := (Option.bind_some _ _).symm.trans H; rw [hy245]; with_reducible exact H2_) | (have H2_ := (Option.bind_some _ _).symm.trans H; with_reducible exact H2_) | with_reducible exact H | (rw [hy245]; exact H) | exact H
              have Ny245 := Aside0.mk hy245
              clear hy245
              by_cases c48 : y245.length + l1.length < 140737488355328
              ·rw [if_pos c48] at H
               have LMc48 := Aside0.mk c48
               clear c48
               obtain ⟨y248, hy248⟩ : ∃ y_ : List Int, y_ = (y245 ++ l1) := ⟨_, rfl⟩
               replace H : ((flate_Inflate.f y248 a2).bind fun bt251 => (if a2 < 0 then (if bt251.2.2 = 2 then (if bt251.2.1 = 0 then (if (bt251.1.length : Int) = 0 then (lanyardlaw04_FlateShort.l0 k3 l0 l1 a2 y238 (wrap64 (x11_3 + 1))) else (some false)) else (some false)) else (some false)) else (if a2 < (l0.length : Int) then (if bt251.2.2 = 12 then (if bt251.2.1 = 0 then (lanyardlaw04_FlateShort.j3 k3 l0 l1 a2 y238 x11_3 ((bt251.1.length : Int) != 0)) else (lanyardlaw04_FlateShort.j3 k3 l0 l1 a2 y238 x11_3 true)) else (lanyardlaw04_FlateShort.j3 k3 l0 l1 a2 y238 x11_3 true)) else (if bt251.2.2 = 0 then (if bt251.2.1 = ((rd_L2 y238 x11_3).length : Int) then (if (strOfNums bt251.1).toList = (strOfNums l0).toList then (lanyardlaw04_FlateShort.l0 k3 l0 l1 a2 y238 (wrap64 (x11_3 + 1))) else (some false)) else (some false)) else (some false))))) = some r := by first | (rw [hy248]; with_reducible exact H) | (have H2_ := (Option.bind_some _ _).symm.trans H; rw [hy248]; with_reducible exact H2_) | (have H2_ := (Option.bind_some _ _).symm.trans H; with_reducible exact H2_) | with_reducible exact H | (rw [hy248]; exact H) | exact H
               have Ny248 := Aside0.mk hy248
               clear hy248
               replace H := Option.bind_eq_some_iff.mp H
               obtain ⟨⟨t251, t252, t253⟩, A490, H⟩ := H
               replace H : (if a2 < 0 then (if t253 = 2 then (if t252 = 0 then (if (t251.length : Int) = 0 then (lanyardlaw04_FlateShort.l0 k3 l0 l1 a2 y238 (wrap64 (x11_3 + 1))) else (some false)) else (some false)) else (some false)) else (if a2 < (l0.length : Int) then (if t253 = 12 then (if t252 = 0 then (lanyardlaw04_FlateShort.j3 k3 l0 l1 a2 y238 x11_3 ((t251.length : Int) != 0)) else (lanyardlaw04_FlateShort.j3 k3 l0 l1 a2 y238 x11_3 true)) else (lanyardlaw04_FlateShort.j3 k3 l0 l1 a2 y238 x11_3 true)) else (if t253 = 0 then (if t252 = ((rd_L2 y238 x11_3).length : Int) then (if (strOfNums t251).toList = (strOfNums l0).toList then (lanyardlaw04_FlateShort.l0 k3 l0 l1 a2 y238 (wrap64 (x11_3 + 1))) else (some false)) else (some false)) else (some false)))) = some r := H
               have A49 := Aside0.mk A490
               clear A490
               by_cases c50 : a2 < 0
               ·rw [if_pos c50] at H
                have c50b0 : decide (a2 < 0) = true := decide_eq_true c50
                clear c50
                by_cases c51 : t253 = 2
                ·rw [if_pos c51] at H
                 have c51b0 : (t253 == 2) = true := beq_iff_eq.mpr c51
                 have c51b1 : (t253 != 2) = false := bne_eq_false_iff_eq.mpr c51
                 clear c51
                 by_cases c52 : t252 = 0
                 ·rw [if_pos c52] at H
                  have c52b0 : (t252 == 0) = true := beq_iff_eq.mpr c52
                  have c52b1 : (t252 != 0) = false := bne_eq_false_iff_eq.mpr c52
                  clear c52
                  by_cases c53 : (t251.length : Int) = 0
                  ·rw [if_pos c53] at H
                   have c53b0 : ((t251.length : Int) == 0) = true := beq_iff_eq.mpr c53
                   have c53b1 : ((t251.length : Int) != 0) = false := bne_eq_false_iff_eq.mpr c53
                   clear c53
                   have H' := Aside0.mk H
                   clear H
                   go_wp2_with (first | ((with_reducible refine gate_dst (N := 63) rfl ?_); (try (refine gate_guard (by rfl) ?_; dsimp only)); refine litI .u8 5 63 [] [] ?hr ?_; (case hr => first | (go_simp; done) | (go_simp; rfl)); intro v242 w54 ho55 hb; (first | rw [← Ny241.out] at ho55 | (simp only [Int.reduceToNat] at ho55; rw [← Ny241.out] at ho55)); have n0_ := Ne HO_10 (Kd.R_base ho55) hb; have n1_ := Aside0.mk (Kd.R_lower ho55 (Bz HB)); have n2_ := Bs HB hb; clear HO_10 HB; revert n0_ n1_ n2_; intro HO_10 HO243 HB; clear hb ho55; obtain ⟨Ao56, co56, eo56⟩ := Kd.N_slice HO_10.out; subst eo56; have p244 : 0 ≤ (x11_3 : Int) := of_decide_eq_true (by first | (with_reducible assumption) | assumption); have q244 : x11_3 < (y238.length : Int) := of_decide_eq_true (by first | (with_reducible assumption) | assumption); obtain ⟨ad244, A244_0, c244_0, e244, hx244_0, hl244_0, hi244_0⟩ := at_L2 (Kd.N_reads' HO_10.out).2.2 x11_3 p244 q244; cases e244; obtain ⟨ce244, hce244, hMe244, hcc244⟩ := Kd.N_get HO_10.out [] x11_3 p244 (by first | exact q244 | exact of_decide_eq_true (by first | (with_reducible assumption) | assumption) | (have e_ := (Kd.N_reads' HO_10.out).1; omega)); obtain ⟨ua244_0, uc244_0, rfl, ul244_0, ge244_0⟩ := Kd.FK_slice_open hMe244; have hv244_0 := hcc244 0 _ rfl; rw [Nat.add_zero, show ((Kd.slice 5 (Kd.int .u8))).sz = 1 from rfl, Nat.mul_one] at hv244_0; replace hv244_0 := Option.some.inj (hv244_0.symm.trans hx244_0); injection hv244_0 with hva_ hvn_ hvc_; rw [hva_] at ge244_0; rw [hvc_] at ul244_0; have HL244_0 := Aside0.mk (show Kd.V (Kd.int .u8) 5 _ w.heap.size _ _ (rd_L2 y238 x11_3) from Kd.V_mk ul244_0 ge244_0); clear hva_ hvn_ hvc_ ge244_0 ul244_0; clear hcc244 hce244; have HR244_0 := Aside0.mk hi244_0; have HC244_0 := Aside0.mk hl244_0; clear hi244_0 hl244_0; replace p244 := eq_true p244; replace q244 := eq_true q244) | ((with_reducible refine gate_builtin (b := .append) (xs := #[.tmp 63, .tmp 67]) rfl ?_); (try (refine gate_guard (by rfl) ?_; dsimp only)); at_builtin; refine Kd.R_append_rows (Kd.int .u8) (w0 := w) w.heap.size rfl (.tmp 63) (.tmp 67) 22 5 (.int .u8 0) 1 rfl Try.underlying22 info5 rfl (by decide) (by omega) v242 y241 (rd_L2 y238 x11_3) _ _ _ (fun _ => True) (fun _ => False) rfl rfl ?aO ?aR (fun _ _ h => h) (fun _ h => h.elim) ?aF ?aB ?aS ?aL ?_; (case aR => repeat (first | exact (by repeat (first | (with_reducible exact HR244_0.out) | (with_reducible refine Kd.C_alloc ?_ _) | (with_reducible refine Kd.C_drewN ?_ _) | (with_reducible refine Kd.C_drew ?_) | exact HR244_0.out)) | (with_reducible refine Kd.C_alloc ?_ _) | (with_reducible refine Kd.C_drewN ?_ _) | (with_reducible refine Kd.C_drew ?_))); (case aB => exact (Bu HB)); (case aF => exact (fun _ _ => trivial)); (case aO => exact (Ru HO243)); (case aS => exact (Bz HB)); (case aL => have := LMc47.out; omega); intro v246 w57 ho hb hg hat; rw [← Ny245.out] at ho; have n0_ := Aside0.mk (Kd.N_afterv (ok := (fun _ => True)) (Nu HO_10) hg hat); have n1_ := Aside0.mk (Kd.V_afterv (ok := (fun k_ => some k_ ≠ (.slice (some ad244) y238.length co56 : Value).ownBlock)) (by (with_reducible repeat (first | apply Kd.V_alloc | apply Kd.V_drewN | apply Kd.V_drew)); first | exact Kd.V_mono HL244_0.out (fun _ hk => ⟨hk.2, hk.1.2⟩) | exact Kd.V_mono HL244_0.out (fun _ hk => by grind)) hg hat); have n2_ := Aside0.mk (hb); have n3_ := Aside0.mk (ho); clear HO_10 HL244_0 HB HO243; revert n0_ n1_ n2_ n3_; intro HO_10 HL244_0 HB HO247; clear ho hb hg hat) | ((with_reducible refine gate_builtin (b := .append) (xs := #[.tmp 68, .tmp 69]) rfl ?_); (try (refine gate_guard (by rfl) ?_; dsimp only)); at_builtin; refine Kd.R_append_rows (Kd.int .u8) (w0 := w) w.heap.size rfl (.tmp 68) (.tmp 69) 22 5 (.int .u8 0) 1 rfl Try.underlying22 info5 rfl (by decide) (by omega) v246 y245 l1 _ _ _ (fun _ => True) (fun _ => False) rfl rfl ?aO ?aR (fun _ _ h => h) (fun _ h => h.elim) ?aF ?aB ?aS ?aL ?_; (case aR => repeat (first | exact (Kd.C_below HR1.out HB.out) | (with_reducible refine Kd.C_alloc ?_ _) | (with_reducible refine Kd.C_drewN ?_ _) | (with_reducible refine Kd.C_drew ?_))); (case aB => exact (Bu HB)); (case aF => exact (fun _ _ => trivial)); (case aO => exact (Ru HO247)); (case aS => exact (Bz HB)); (case aL => have := LMc48.out; omega); intro v249 w58 ho hb hg hat; rw [← Ny248.out] at ho; have n0_ := Aside0.mk (Kd.N_afterv (ok := (fun _ => True)) (Nu HO_10) hg hat); have n1_ := Aside0.mk (Kd.V_afterv (ok := (fun k_ => some k_ ≠ (.slice (some ad244) y238.length co56 : Value).ownBlock)) (Vu HL244_0) hg hat); have n2_ := Aside0.mk (hb); have n3_ := Aside0.mk (ho); clear HO_10 HL244_0 HB HO247; revert n0_ n1_ n2_ n3_; intro HO_10 HL244_0 HB HO250; clear ho hb hg hat; obtain ⟨Ao59, co59, eo59⟩ := Kd.R_slice HO250.out; subst eo59) | ((with_reducible refine gate_callee (f := 14) rfl ?_); refine goesA (some 72) Try.func14 #[.slice Ao59 y248.length co59, .int .i64 a2] rfl ?_; (with_reducible refine (flate_Inflate.calls _ _ y248 a2 t251 t252 t253 _ ?side1 ?side2 A49.out).mono ?_); (case side1 => exact Cu (Kd.R_reads' HO250.out).2.2); (case side2 => exact (Kd.R_reads' HO250.out).2.1); rintro e w60 ⟨v254, rfl, ho0, hb⟩; refine ⟨_, rfl, ?_⟩; have n0_ := Ne HO_10 (Kd.R_base ho0) hb; have n1_ := Ve HL244_0 (Kd.R_base ho0) hb; have n2_ := Re HO250 (Kd.R_base ho0) hb; have n3_ := Aside0.mk (Kd.R_lower (Kd.R_new' ho0 (Kd.R_lt (Ru HO250))) (Bz HB)); have n4_ := Bs HB hb; clear HO_10 HL244_0 HO250 HB; revert n0_ n1_ n2_ n3_ n4_; intro HO_10 HL244_0 HO250 HO255 HB; (try clear hb); (try clear hb2); (try clear hk); (try clear hi); (try clear ho0); obtain ⟨Ao61, co61, eo61⟩ := Kd.R_slice HO255.out; subst eo61))
                   go_roundg k3
                   case measure => have := HJ3.out; have := HJ16.out; have := HK3.out; omega
                   case rel => exact ⟨(wrap64 (x11_3 + 1)), (by first | rfl | (simp; done) | (simp [*]; done)), H', ⟨by have := HJ3.out; have := HJ16.out; have := HK3.out; omega⟩, ⟨by (with_reducible repeat (first | apply Kd.N_alloc | apply Kd.N_drewN | apply Kd.N_drew)); exact Kd.N_mono HO_10.out (fun _ hk => trivial)⟩, ⟨Bu HB⟩⟩
                  ·rw [if_neg c53] at H
                   have c53b0 : ((t251.length : Int) == 0) = false := beq_eq_false_iff_ne.mpr c53
                   have c53b1 : ((t251.length : Int) != 0) = true := bne_iff_ne.mpr c53
                   have c53b2 : ¬ (t251 = []) := fun h_ => c53 (by rw [h_]; rfl)
                   exact absurd (Option.some.inj H) (by rw [HR_.out]; decide)
                 ·rw [if_neg c52] at H
                  have c52b0 : (t252 == 0) = false := beq_eq_false_iff_ne.mpr c52
                  have c52b1 : (t252 != 0) = true := bne_iff_ne.mpr c52
                  exact absurd (Option.some.inj H) (by rw [HR_.out]; decide)
                ·rw [if_neg c51] at H
                 have c51b0 : (t253 == 2) = false := beq_eq_false_iff_ne.mpr c51
                 have c51b1 : (t253 != 2) = true := bne_iff_ne.mpr c51
                 exact absurd (Option.some.inj H) (by rw [HR_.out]; decide)
               ·rw [if_neg c50] at H
                have c50b0 : decide (a2 < 0) = false := decide_eq_false c50
                clear c50
                by_cases c84 : a2 < (l0.length : Int)
                ·rw [if_pos c84] at H
                 have c84b0 : decide (a2 < (l0.length : Int)) = true := decide_eq_true c84
                 clear c84
                 have HC85 := Aside0.mk H
                 clear H
                 go_upto_region 16 with (first | ((with_reducible refine gate_dst (N := 63) rfl ?_); (try (refine gate_guard (by rfl) ?_; dsimp only)); refine litI .u8 5 63 [] [] ?hr ?_; (case hr => first | (go_simp; done) | (go_simp; rfl)); intro v242 w86 ho87 hb; (first | rw [← Ny241.out] at ho87 | (simp only [Int.reduceToNat] at ho87; rw [← Ny241.out] at ho87)); have n0_ := Ne HO_10 (Kd.R_base ho87) hb; have n1_ := Aside0.mk (Kd.R_lower ho87 (Bz HB)); have n2_ := Bs HB hb; clear HO_10 HB; revert n0_ n1_ n2_; intro HO_10 HO243 HB; clear hb ho87; obtain ⟨Ao88, co88, eo88⟩ := Kd.N_slice HO_10.out; subst eo88; have p244 : 0 ≤ (x11_3 : Int) := of_decide_eq_true (by first | (with_reducible assumption) | assumption); have q244 : x11_3 < (y238.length : Int) := of_decide_eq_true (by first | (with_reducible assumption) | assumption); obtain ⟨ad244, A244_0, c244_0, e244, hx244_0, hl244_0, hi244_0⟩ := at_L2 (Kd.N_reads' HO_10.out).2.2 x11_3 p244 q244; cases e244; obtain ⟨ce244, hce244, hMe244, hcc244⟩ := Kd.N_get HO_10.out [] x11_3 p244 (by first | exact q244 | exact of_decide_eq_true (by first | (with_reducible assumption) | assumption) | (have e_ := (Kd.N_reads' HO_10.out).1; omega)); obtain ⟨ua244_0, uc244_0, rfl, ul244_0, ge244_0⟩ := Kd.FK_slice_open hMe244; have hv244_0 := hcc244 0 _ rfl; rw [Nat.add_zero, show ((Kd.slice 5 (Kd.int .u8))).sz = 1 from rfl, Nat.mul_one] at hv244_0; replace hv244_0 := Option.some.inj (hv244_0.symm.trans hx244_0); injection hv244_0 with hva_ hvn_ hvc_; rw [hva_] at ge244_0; rw [hvc_] at ul244_0; have HL244_0 := Aside0.mk (show Kd.V (Kd.int .u8) 5 _ w.heap.size _ _ (rd_L2 y238 x11_3) from Kd.V_mk ul244_0 ge244_0); clear hva_ hvn_ hvc_ ge244_0 ul244_0; clear hcc244 hce244; have HR244_0 := Aside0.mk hi244_0; have HC244_0 := Aside0.mk hl244_0; clear hi244_0 hl244_0; replace p244 := eq_true p244; replace q244 := eq_true q244) | ((with_reducible refine gate_builtin (b := .append) (xs := #[.tmp 63, .tmp 67]) rfl ?_); (try (refine gate_guard (by rfl) ?_; dsimp only)); at_builtin; refine Kd.R_append_rows (Kd.int .u8) (w0 := w) w.heap.size rfl (.tmp 63) (.tmp 67) 22 5 (.int .u8 0) 1 rfl Try.underlying22 info5 rfl (by decide) (by omega) v242 y241 (rd_L2 y238 x11_3) _ _ _ (fun _ => True) (fun _ => False) rfl rfl ?aO ?aR (fun _ _ h => h) (fun _ h => h.elim) ?aF ?aB ?aS ?aL ?_; (case aR => repeat (first | exact (by repeat (first | (with_reducible exact HR244_0.out) | (with_reducible refine Kd.C_alloc ?_ _) | (with_reducible refine Kd.C_drewN ?_ _) | (with_reducible refine Kd.C_drew ?_) | exact HR244_0.out)) | (with_reducible refine Kd.C_alloc ?_ _) | (with_reducible refine Kd.C_drewN ?_ _) | (with_reducible refine Kd.C_drew ?_))); (case aB => exact (Bu HB)); (case aF => exact (fun _ _ => trivial)); (case aO => exact (Ru HO243)); (case aS => exact (Bz HB)); (case aL => have := LMc47.out; omega); intro v246 w89 ho hb hg hat; rw [← Ny245.out] at ho; have n0_ := Aside0.mk (Kd.N_afterv (ok := (fun _ => True)) (Nu HO_10) hg hat); have n1_ := Aside0.mk (Kd.V_afterv (ok := (fun k_ => some k_ ≠ (.slice (some ad244) y238.length co88 : Value).ownBlock)) (by (with_reducible repeat (first | apply Kd.V_alloc | apply Kd.V_drewN | apply Kd.V_drew)); first | exact Kd.V_mono HL244_0.out (fun _ hk => ⟨hk.2, hk.1.2⟩) | exact Kd.V_mono HL244_0.out (fun _ hk => by grind)) hg hat); have n2_ := Aside0.mk (hb); have n3_ := Aside0.mk (ho); clear HO_10 HL244_0 HB HO243; revert n0_ n1_ n2_ n3_; intro HO_10 HL244_0 HB HO247; clear ho hb hg hat) | ((with_reducible refine gate_builtin (b := .append) (xs := #[.tmp 68, .tmp 69]) rfl ?_); (try (refine gate_guard (by rfl) ?_; dsimp only)); at_builtin; refine Kd.R_append_rows (Kd.int .u8) (w0 := w) w.heap.size rfl (.tmp 68) (.tmp 69) 22 5 (.int .u8 0) 1 rfl Try.underlying22 info5 rfl (by decide) (by omega) v246 y245 l1 _ _ _ (fun _ => True) (fun _ => False) rfl rfl ?aO ?aR (fun _ _ h => h) (fun _ h => h.elim) ?aF ?aB ?aS ?aL ?_; (case aR => repeat (first | exact (Kd.C_below HR1.out HB.out) | (with_reducible refine Kd.C_alloc ?_ _) | (with_reducible refine Kd.C_drewN ?_ _) | (with_reducible refine Kd.C_drew ?_))); (case aB => exact (Bu HB)); (case aF => exact (fun _ _ => trivial)); (case aO => exact (Ru HO247)); (case aS => exact (Bz HB)); (case aL => have := LMc48.out; omega); intro v249 w90 ho hb hg hat; rw [← Ny248.out] at ho; have n0_ := Aside0.mk (Kd.N_afterv (ok := (fun _ => True)) (Nu HO_10) hg hat); have n1_ := Aside0.mk (Kd.V_afterv (ok := (fun k_ => some k_ ≠ (.slice (some ad244) y238.length co88 : Value).ownBlock)) (Vu HL244_0) hg hat); have n2_ := Aside0.mk (hb); have n3_ := Aside0.mk (ho); clear HO_10 HL244_0 HB HO247; revert n0_ n1_ n2_ n3_; intro HO_10 HL244_0 HB HO250; clear ho hb hg hat; obtain ⟨Ao91, co91, eo91⟩ := Kd.R_slice HO250.out; subst eo91) | ((with_reducible refine gate_callee (f := 14) rfl ?_); refine goesA (some 72) Try.func14 #[.slice Ao91 y248.length co91, .int .i64 a2] rfl ?_; (with_reducible refine (flate_Inflate.calls _ _ y248 a2 t251 t252 t253 _ ?side1 ?side2 A49.out).mono ?_); (case side1 => exact Cu (Kd.R_reads' HO250.out).2.2); (case side2 => exact (Kd.R_reads' HO250.out).2.1); rintro e w92 ⟨v254, rfl, ho0, hb⟩; refine ⟨_, rfl, ?_⟩; have n0_ := Ne HO_10 (Kd.R_base ho0) hb; have n1_ := Ve HL244_0 (Kd.R_base ho0) hb; have n2_ := Re HO250 (Kd.R_base ho0) hb; have n3_ := Aside0.mk (Kd.R_lower (Kd.R_new' ho0 (Kd.R_lt (Ru HO250))) (Bz HB)); have n4_ := Bs HB hb; clear HO_10 HL244_0 HO250 HB; revert n0_ n1_ n2_ n3_ n4_; intro HO_10 HL244_0 HO250 HO255 HB; (try clear hb); (try clear hb2); (try clear hk); (try clear hi); (try clear ho0)))
                 (try simp only [Act.put, List.setIfInBounds_toArray, List.set_cons_zero, List.set_cons_succ])
                 go_cut [103] (fun v103 wc => ∃ (kq : Nat) (x103_84 : Bool), v103 = .bool x103_84 ∧ Aside0 (lanyardlaw04_FlateShort.j3 kq l0 l1 a2 y238 x11_3 x103_84 = some r) ∧ Aside0 (kq ≤ k3) ∧ Aside0 (Kd.N (Kd.slice 5 (Kd.int .u8)) 22 wc w.heap.size (fun _ => True) (.slice (some ad244) y238.length co88) y238) ∧ Aside0 (Below w.heap.size w wc))
                 case first =>
                  have H := HC85.out
                  clear HC85
                  refine (Classical.em (t253 = 12)).elim (fun c93 => ?a21_) (fun c93 => ?b21_)
                  case' a21_ =>
                   rw [if_pos c93] at H
                   have c93b0 : (t253 == 12) = true := beq_iff_eq.mpr c93
                   have c93b1 : (t253 != 12) = false := bne_eq_false_iff_eq.mpr c93
                   clear c93
                   (first | rw [c93b0] | (simp only [i64_w, i32_w]; rw [c93b0]) | skip)
                   refine (Classical.em (t252 = 0)).elim (fun c94 => ?a22_) (fun c94 => ?b22_)
                   case' a22_ =>
                    rw [if_pos c94] at H
                    have c94b0 : (t252 == 0) = true := beq_iff_eq.mpr c94
                    have c94b1 : (t252 != 0) = false := bne_eq_false_iff_eq.mpr c94
                    clear c94
                    have H' := Aside0.mk H
                    clear H
                    obtain ⟨Ao95, co95, eo95⟩ := Kd.R_slice HO255.out
                    subst eo95
                    go_wp2
                    go_meet
                    case rel => exact ⟨_, (((t251.length : Int) != 0)), (by first | rfl | (simp; done) | (simp [*]; done)), H', ⟨by have := HJ3.out; have := HJ16.out; have := HK3.out; first | omega | exact Nat.le_refl _⟩, ⟨by (with_reducible repeat (first | apply Kd.N_alloc | apply Kd.N_drewN | apply Kd.N_drew)); exact Kd.N_mono HO_10.out (fun _ hk => trivial)⟩, ⟨Bu HB⟩⟩
                   case' b22_ =>
                    rw [if_neg c94] at H
                    have c94b0 : (t252 == 0) = false := beq_eq_false_iff_ne.mpr c94
                    have c94b1 : (t252 != 0) = true := bne_iff_ne.mpr c94
                    have H' := Aside0.mk H
                    clear H
                  case' b21_ =>
                   rw [if_neg c93] at H
                   have c93b0 : (t253 == 12) = false := beq_eq_false_iff_ne.mpr c93
                   have c93b1 : (t253 != 12) = true := bne_iff_ne.mpr c93
                   (first | rw [c93b0] | (simp only [i64_w, i32_w]; rw [c93b0]) | skip)
                   have H' := Aside0.mk H
                   clear H
                  case a21_ | b21_ =>
                   go_wp2
                   go_meet
                   case rel => exact ⟨_, (true), (by first | rfl | (simp; done) | (simp [*]; done)), H', ⟨by have := HJ3.out; have := HJ16.out; have := HK3.out; first | omega | exact Nat.le_refl _⟩, ⟨by (with_reducible repeat (first | apply Kd.N_alloc | apply Kd.N_drewN | apply Kd.N_drew)); exact Kd.N_mono HO_10.out (fun _ hk => trivial)⟩, ⟨Bu HB⟩⟩
                 case rest =>
                  clear HC85
                  try clear c1
                  try clear c2
                  try clear p2
                  try clear q2
                  try clear hx2
                  try clear c3
                  try clear hcv3
                  try clear c4
                  try clear c5
                  try clear p6
                  try clear c8
                  try clear c9
                  try clear c10
                  try clear c11
                  try clear c12
                  try clear c13
                  try clear c14
                  try clear c24
                  try clear c24b0
                  try clear c24b1
                  try clear p24
                  try clear q24
                  try clear hx24
                  try clear c26
                  try clear c26b0
                  try clear c26b1
                  try clear hcv30
                  try clear hcv32
                  try clear hcv36
                  try clear c39
                  try clear c44
                  try clear c44b0
                  try clear c45
                  try clear c45b0
                  try clear c46
                  try clear c46b0
                  try clear c47
                  try clear c48
                  try clear c50
                  try clear c50b0
                  try clear c51
                  try clear c51b0
                  try clear c51b1
                  try clear c52
                  try clear c52b0
                  try clear c52b1
                  try clear c53
                  try clear c53b0
                  try clear c53b1
                  try clear c53b2
                  try clear p64
                  try clear c84
                  try clear c84b0
                  try clear c93
                  try clear c93b0
                  try clear c93b1
                  try clear c94
                  try clear c94b0
                  try clear c94b1
                  try clear hx244_0
                  try clear p2
                  try clear p244
                  try clear q244
                  obtain ⟨kq, x103_84, rfl, HA, HJ84, HO_10, HB⟩ := hcut
                  cases kq with
                  | zero => exact absurd HA.out (by simp [lanyardlaw04_FlateShort.j3])
                  | succ kj84 =>
                   have H := HA.out
                   clear HA
                   simp only [lanyardlaw04_FlateShort.j3] at H
                   by_cases c96 : x103_84 = true
                   ·subst c96
                    have H1 : (some false) = some r := by rw [if_pos rfl] at H; exact H
                    clear H
                    have H := H1
                    clear H1
                    exact absurd (Option.some.inj H) (by rw [HR_.out]; decide)
                   ·replace c96 := Bool.eq_false_iff.mpr c96
                    subst c96
                    have H1 : (lanyardlaw04_FlateShort.l0 kj84 l0 l1 a2 y238 (wrap64 (x11_3 + 1))) = some r := by rw [if_neg (show ¬ (false = true) by decide)] at H; exact H
                    clear H
                    have H := H1
                    clear H1
                    have H' := Aside0.mk H
                    clear H
                    go_wp2
                    go_roundg kj84
                    case measure => have := HJ3.out; have := HJ16.out; have := HK3.out; have := HJ84.out; omega
                    case rel => exact ⟨(wrap64 (x11_3 + 1)), (by first | rfl | (simp; done) | (simp [*]; done)), H', ⟨by have := HJ3.out; have := HJ16.out; have := HK3.out; have := HJ84.out; omega⟩, ⟨Nu HO_10⟩, ⟨Bu HB⟩⟩
                ·rw [if_neg c84] at H
                 have c84b0 : decide (a2 < (l0.length : Int)) = false := decide_eq_false c84
                 clear c84
                 by_cases c97 : t253 = 0
                 ·rw [if_pos c97] at H
                  have c97b0 : (t253 == 0) = true := beq_iff_eq.mpr c97
                  have c97b1 : (t253 != 0) = false := bne_eq_false_iff_eq.mpr c97
                  clear c97
                  by_cases c98 : t252 = ((rd_L2 y238 x11_3).length : Int)
                  ·rw [if_pos c98] at H
                   have c98b0 : (t252 == ((rd_L2 y238 x11_3).length : Int)) = true := beq_iff_eq.mpr c98
                   have c98b1 : (t252 != ((rd_L2 y238 x11_3).length : Int)) = false := bne_eq_false_iff_eq.mpr c98
                   clear c98
                   by_cases c99 : (strOfNums t251).toList = (strOfNums l0).toList
                   ·rw [if_pos c99] at H
                    have c99b0 : ((strOfNums t251).toList == (strOfNums l0).toList) = true := beq_iff_eq.mpr c99
                    have c99b1 : ((strOfNums t251).toList != (strOfNums l0).toList) = false := bne_eq_false_iff_eq.mpr c99
                    clear c99
                    have H' := Aside0.mk H
                    clear H
                    go_wp2_with (first | ((with_reducible refine gate_dst (N := 63) rfl ?_); (try (refine gate_guard (by rfl) ?_; dsimp only)); refine litI .u8 5 63 [] [] ?hr ?_; (case hr => first | (go_simp; done) | (go_simp; rfl)); intro v242 w100 ho101 hb; (first | rw [← Ny241.out] at ho101 | (simp only [Int.reduceToNat] at ho101; rw [← Ny241.out] at ho101)); have n0_ := Ne HO_10 (Kd.R_base ho101) hb; have n1_ := Aside0.mk (Kd.R_lower ho101 (Bz HB)); have n2_ := Bs HB hb; clear HO_10 HB; revert n0_ n1_ n2_; intro HO_10 HO243 HB; clear hb ho101; obtain ⟨Ao102, co102, eo102⟩ := Kd.N_slice HO_10.out; subst eo102; have p244 : 0 ≤ (x11_3 : Int) := of_decide_eq_true (by first | (with_reducible assumption) | assumption); have q244 : x11_3 < (y238.length : Int) := of_decide_eq_true (by first | (with_reducible assumption) | assumption); obtain ⟨ad244, A244_0, c244_0, e244, hx244_0, hl244_0, hi244_0⟩ := at_L2 (Kd.N_reads' HO_10.out).2.2 x11_3 p244 q244; cases e244; obtain ⟨ce244, hce244, hMe244, hcc244⟩ := Kd.N_get HO_10.out [] x11_3 p244 (by first | exact q244 | exact of_decide_eq_true (by first | (with_reducible assumption) | assumption) | (have e_ := (Kd.N_reads' HO_10.out).1; omega)); obtain ⟨ua244_0, uc244_0, rfl, ul244_0, ge244_0⟩ := Kd.FK_slice_open hMe244; have hv244_0 := hcc244 0 _ rfl; rw [Nat.add_zero, show ((Kd.slice 5 (Kd.int .u8))).sz = 1 from rfl, Nat.mul_one] at hv244_0; replace hv244_0 := Option.some.inj (hv244_0.symm.trans hx244_0); injection hv244_0 with hva_ hvn_ hvc_; rw [hva_] at ge244_0; rw [hvc_] at ul244_0; have HL244_0 := Aside0.mk (show Kd.V (Kd.int .u8) 5 _ w.heap.size _ _ (rd_L2 y238 x11_3) from Kd.V_mk ul244_0 ge244_0); clear hva_ hvn_ hvc_ ge244_0 ul244_0; clear hcc244 hce244; have HR244_0 := Aside0.mk hi244_0; have HC244_0 := Aside0.mk hl244_0; clear hi244_0 hl244_0; replace p244 := eq_true p244; replace q244 := eq_true q244) | ((with_reducible refine gate_builtin (b := .append) (xs := #[.tmp 63, .tmp 67]) rfl ?_); (try (refine gate_guard (by rfl) ?_; dsimp only)); at_builtin; refine Kd.R_append_rows (Kd.int .u8) (w0 := w) w.heap.size rfl (.tmp 63) (.tmp 67) 22 5 (.int .u8 0) 1 rfl Try.underlying22 info5 rfl (by decide) (by omega) v242 y241 (rd_L2 y238 x11_3) _ _ _ (fun _ => True) (fun _ => False) rfl rfl ?aO ?aR (fun _ _ h => h) (fun _ h => h.elim) ?aF ?aB ?aS ?aL ?_; (case aR => repeat (first | exact (by repeat (first | (with_reducible exact HR244_0.out) | (with_reducible refine Kd.C_alloc ?_ _) | (with_reducible refine Kd.C_drewN ?_ _) | (with_reducible refine Kd.C_drew ?_) | exact HR244_0.out)) | (with_reducible refine Kd.C_alloc ?_ _) | (with_reducible refine Kd.C_drewN ?_ _) | (with_reducible refine Kd.C_drew ?_))); (case aB => exact (Bu HB)); (case aF => exact (fun _ _ => trivial)); (case aO => exact (Ru HO243)); (case aS => exact (Bz HB)); (case aL => have := LMc47.out; omega); intro v246 w103 ho hb hg hat; rw [← Ny245.out] at ho; have n0_ := Aside0.mk (Kd.N_afterv (ok := (fun _ => True)) (Nu HO_10) hg hat); have n1_ := Aside0.mk (Kd.V_afterv (ok := (fun k_ => some k_ ≠ (.slice (some ad244) y238.length co102 : Value).ownBlock)) (by (with_reducible repeat (first | apply Kd.V_alloc | apply Kd.V_drewN | apply Kd.V_drew)); first | exact Kd.V_mono HL244_0.out (fun _ hk => ⟨hk.2, hk.1.2⟩) | exact Kd.V_mono HL244_0.out (fun _ hk => by grind)) hg hat); have n2_ := Aside0.mk (hb); have n3_ := Aside0.mk (ho); clear HO_10 HL244_0 HB HO243; revert n0_ n1_ n2_ n3_; intro HO_10 HL244_0 HB HO247; clear ho hb hg hat) | ((with_reducible refine gate_builtin (b := .append) (xs := #[.tmp 68, .tmp 69]) rfl ?_); (try (refine gate_guard (by rfl) ?_; dsimp only)); at_builtin; refine Kd.R_append_rows (Kd.int .u8) (w0 := w) w.heap.size rfl (.tmp 68) (.tmp 69) 22 5 (.int .u8 0) 1 rfl Try.underlying22 info5 rfl (by decide) (by omega) v246 y245 l1 _ _ _ (fun _ => True) (fun _ => False) rfl rfl ?aO ?aR (fun _ _ h => h) (fun _ h => h.elim) ?aF ?aB ?aS ?aL ?_; (case aR => repeat (first | exact (Kd.C_below HR1.out HB.out) | (with_reducible refine Kd.C_alloc ?_ _) | (with_reducible refine Kd.C_drewN ?_ _) | (with_reducible refine Kd.C_drew ?_))); (case aB => exact (Bu HB)); (case aF => exact (fun _ _ => trivial)); (case aO => exact (Ru HO247)); (case aS => exact (Bz HB)); (case aL => have := LMc48.out; omega); intro v249 w104 ho hb hg hat; rw [← Ny248.out] at ho; have n0_ := Aside0.mk (Kd.N_afterv (ok := (fun _ => True)) (Nu HO_10) hg hat); have n1_ := Aside0.mk (Kd.V_afterv (ok := (fun k_ => some k_ ≠ (.slice (some ad244) y238.length co102 : Value).ownBlock)) (Vu HL244_0) hg hat); have n2_ := Aside0.mk (hb); have n3_ := Aside0.mk (ho); clear HO_10 HL244_0 HB HO247; revert n0_ n1_ n2_ n3_; intro HO_10 HL244_0 HB HO250; clear ho hb hg hat; obtain ⟨Ao105, co105, eo105⟩ := Kd.R_slice HO250.out; subst eo105) | ((with_reducible refine gate_callee (f := 14) rfl ?_); refine goesA (some 72) Try.func14 #[.slice Ao105 y248.length co105, .int .i64 a2] rfl ?_; (with_reducible refine (flate_Inflate.calls _ _ y248 a2 t251 t252 t253 _ ?side1 ?side2 A49.out).mono ?_); (case side1 => exact Cu (Kd.R_reads' HO250.out).2.2); (case side2 => exact (Kd.R_reads' HO250.out).2.1); rintro e w106 ⟨v254, rfl, ho0, hb⟩; refine ⟨_, rfl, ?_⟩; have n0_ := Ne HO_10 (Kd.R_base ho0) hb; have n1_ := Ve HL244_0 (Kd.R_base ho0) hb; have n2_ := Re HO250 (Kd.R_base ho0) hb; have n3_ := Aside0.mk (Kd.R_lower (Kd.R_new' ho0 (Kd.R_lt (Ru HO250))) (Bz HB)); have n4_ := Bs HB hb; clear HO_10 HL244_0 HO250 HB; revert n0_ n1_ n2_ n3_ n4_; intro HO_10 HL244_0 HO250 HO255 HB; (try clear hb); (try clear hb2); (try clear hk); (try clear hi); (try clear ho0); have p256 : 0 ≤ (x11_3 : Int) := of_decide_eq_true (by first | (with_reducible assumption) | assumption); have q256 : x11_3 < (y238.length : Int) := of_decide_eq_true (by first | (with_reducible assumption) | assumption); obtain ⟨ad256, A256_0, c256_0, e256, hx256_0, hl256_0, hi256_0⟩ := at_L2 (Kd.N_reads' HO_10.out).2.2 x11_3 p256 q256; obtain rfl : ad244 = ad256 := (by injection e256); obtain ⟨ce256, hce256, hMe256, hcc256⟩ := Kd.N_get HO_10.out [] x11_3 p256 (by first | exact q256 | exact of_decide_eq_true (by first | (with_reducible assumption) | assumption) | (have e_ := (Kd.N_reads' HO_10.out).1; omega)); obtain ⟨ua256_0, uc256_0, rfl, ul256_0, ge256_0⟩ := Kd.FK_slice_open hMe256; have hv256_0 := hcc256 0 _ rfl; rw [Nat.add_zero, show ((Kd.slice 5 (Kd.int .u8))).sz = 1 from rfl, Nat.mul_one] at hv256_0; replace hv256_0 := Option.some.inj (hv256_0.symm.trans hx256_0); injection hv256_0 with hva_ hvn_ hvc_; rw [hva_] at ge256_0; rw [hvc_] at ul256_0; have HL256_0 := Aside0.mk (show Kd.V (Kd.int .u8) 5 _ w.heap.size _ _ (rd_L2 y238 x11_3) from Kd.V_mk ul256_0 ge256_0); clear hva_ hvn_ hvc_ ge256_0 ul256_0; clear hcc256 hce256; have HR256_0 := Aside0.mk hi256_0; have HC256_0 := Aside0.mk hl256_0; clear hi256_0 hl256_0; replace p256 := eq_true p256; replace q256 := eq_true q256; have hcv107 := own_string (P := Try.prog) Try.underlying22 Try.underlying5 Try.underlying9 (Kd.own_of_R HO255.out); have hcv108 := fun n_ : Nat => own_string (P := Try.prog) Try.underlying22 Try.underlying5 Try.underlying9 (Kd.own_of_R (Kd.R_drewN HO255.out n_)); have hcv109 := Kd.C_string (P := Try.prog) (A := A0) (c := c0) Try.underlying22 Try.underlying5 Try.underlying9 (Kd.C_below HR0.out HB.out); have hcv110 := fun n_ : Nat => Kd.C_string (P := Try.prog) (A := A0) (c := c0) Try.underlying22 Try.underlying5 Try.underlying9 (Kd.C_drewN (Kd.C_below HR0.out HB.out) n_)))
                    go_roundg k3
                    case measure => have := HJ3.out; have := HJ16.out; have := HK3.out; omega
                    case rel => exact ⟨(wrap64 (x11_3 + 1)), (by first | rfl | (simp; done) | (simp [*]; done)), H', ⟨by have := HJ3.out; have := HJ16.out; have := HK3.out; omega⟩, ⟨by (with_reducible repeat (first | apply Kd.N_alloc | apply Kd.N_drewN | apply Kd.N_drew)); exact Kd.N_mono HO_10.out (fun _ hk => trivial)⟩, ⟨Bu HB⟩⟩
                   ·rw [if_neg c99] at H
                    have c99b0 : ((strOfNums t251).toList == (strOfNums l0).toList) = false := beq_eq_false_iff_ne.mpr c99
                    have c99b1 : ((strOfNums t251).toList != (strOfNums l0).toList) = true := bne_iff_ne.mpr c99
                    exact absurd (Option.some.inj H) (by rw [HR_.out]; decide)
                  ·rw [if_neg c98] at H
                   have c98b0 : (t252 == ((rd_L2 y238 x11_3).length : Int)) = false := beq_eq_false_iff_ne.mpr c98
                   have c98b1 : (t252 != ((rd_L2 y238 x11_3).length : Int)) = true := bne_iff_ne.mpr c98
                   exact absurd (Option.some.inj H) (by rw [HR_.out]; decide)
                 ·rw [if_neg c97] at H
                  have c97b0 : (t253 == 0) = false := beq_eq_false_iff_ne.mpr c97
                  have c97b1 : (t253 != 0) = true := bne_iff_ne.mpr c97
                  exact absurd (Option.some.inj H) (by rw [HR_.out]; decide)
              ·rw [if_neg c48] at H
               exact absurd H (by simp)
             ·rw [if_neg c47] at H
              exact absurd H (by simp)
            ·rw [if_neg c46] at H
             exact absurd H (by simp)
           ·rw [if_neg c45] at H
            exact absurd H (by simp)
          ·rw [if_neg c44] at H
           have c44b0 : decide (x11_3 < 2) = false := decide_eq_false c44
           clear c44
           obtain rfl := Option.some.inj H
           go_wp2
           go_ret
           exact ⟨rfl_, Bu HB⟩
    ·rw [if_neg c14] at H
     exact absurd H (by simp)

/-- THE ONE PURE STATEMENT of lanyardlaw04_FlateShort: yours. -/
def lanyardlaw04_FlateShort.Pure : Prop := ∀ (l0 : List Int) (l1 : List Int) (a2 : Int), l0.length ≤ maxLen → l0.length * 1 ≤ 140737488351232 → (∀ x ∈ l0, (Lit.int .u8 x).wf = true) → l1.length ≤ maxLen → l1.length * 1 ≤ 140737488351232 → (∀ x ∈ l1, (Lit.int .u8 x).wf = true) → (Lit.int .i64 a2).wf = true → ∃ k, lanyardlaw04_FlateShort.f k l0 l1 a2 = some true
theorem lanyardlaw04_FlateShort.walk (P : lanyardlaw04_FlateShort.Pure) (a0 : Option Addr) (len0 cap0 : Nat) (z0 : List Int) (a1 : Option Addr) (len1 cap1 : Nat) (z1 : List Int) (a2 : Int) (w : World) (w0 : (a0 = none ∧ len0 = 0 ∧ cap0 = 0 ∧ z0 = []) ∨ ∃ x, a0 = some x ∧ len0 ≤ cap0 ∧ cap0 ≤ maxLen ∧ z0.length = cap0 ∧ (∀ i, i < z0.length → w.cell? (x.add i) = some (.int .u8 (z0.getD i 0))) ∧ ∀ n ∈ z0, (Lit.int .u8 n).wf = true) (y0 : len0 * 1 ≤ 140737488351232) (w1 : (a1 = none ∧ len1 = 0 ∧ cap1 = 0 ∧ z1 = []) ∨ ∃ x, a1 = some x ∧ len1 ≤ cap1 ∧ cap1 ≤ maxLen ∧ z1.length = cap1 ∧ (∀ i, i < z1.length → w.cell? (x.add i) = some (.int .u8 (z1.getD i 0))) ∧ ∀ n ∈ z1, (Lit.int .u8 n).wf = true) (y1 : len1 * 1 ≤ 140737488351232) (w2 : (Lit.int .i64 a2).wf = true) :
  Calls Try.prog 3 #[.slice a0 len0 cap0, .slice a1 len1 cap1, .int .i64 a2] w fun e w' => e = .returned (.bool true) ∧ Below w.heap.size w w' := by
 obtain ⟨l0, rfl, hr0, hm0, hw0, hc0⟩ := ReadsInt.ofRowC w0
 obtain ⟨l1, rfl, hr1, hm1, hw1, hc1⟩ := ReadsInt.ofRowC w1
 obtain ⟨k, h⟩ := P l0 l1 a2 hm0 y0 hw0 hm1 y1 hw1 w2
 refine (lanyardlaw04_FlateShort.calls k _ _ l0 _ _ l1 a2 true w (Kd.C_of_reads (d := (0 : Int)) (h1 := fun _ => rfl) hr0) hc0 (Kd.C_of_reads (d := (0 : Int)) (h1 := fun _ => rfl) hr1) hc1 h).mono ?_
 rintro e w' ⟨rfl, hd⟩
 exact ⟨rfl, hd⟩

end Go.Proofs.Ytbokeoncpilgpaa.Hp
