/- Go functions of this seat as Lean functions, and their contracts: what the Go code computes, for every input. (By hp.py, a program of this repo, over the kit's print.py.) -/
import Derived.Test.YthakidcnlkbbgaaDoorHp0
import Derived.Test.YthakidcnlkbbgaaDoorHp1
import Derived.Test.YthakidcnlkbbgaaDoorHp2
namespace Go.Proofs.YthakidcnlkbbgaaDoor.Hp
open Go.RowKit Go.Proofs.YthakidcnlkbbgaaDoorW.PrintWords Go.Proofs.YthakidcnlkbbgaaDoorW.PrintLast Go.Proofs.YthakidcnlkbbgaaDoorW.PrintMore
attribute [local go_sem] max2_int min2_int max_two min_two max_three min_three max_four min_four   -- for this text's walks alone
set_option linter.unusedVariables false
set_option linter.unusedSimpArgs false

/-! ### lanyardlaw01_CharsJoins: function 5 -/
mutual
def lanyardlaw01_CharsJoins.j0 : Nat → List Int → List Int → Int → Bool → Option (Bool)
 | 0, _, _, _, _ => none
 | k + 1, x0, x1, x2, x23 => if x23 = true then ((lanyardlaw01_awake.f k).bind fun t240 => (some t240)) else ((chars_Bad.f k x0).bind fun t241 => ((chars_Bad.f k x1).bind fun t242 => ((some (([] : List Int) : List Int)).bind fun y243 => (if y243.length + x0.length < 140737488355328 then ((some (y243 ++ x0 : List Int)).bind fun y246 => (if y246.length + x1.length < 140737488355328 then ((some (y246 ++ x1 : List Int)).bind fun y249 => (if t241 < 0 then ((chars_Bad.f k y249).bind fun t252 => (if ((decide (t242 < 0)) != (decide (t252 < 0))) = true then (lanyardlaw01_CharsJoins.j1 k x0 x2 t241 true) else (if t242 ≥ 0 then ((chars_Bad.f k y249).bind fun t253 => (lanyardlaw01_CharsJoins.j1 k x0 x2 t241 (t253 != (wrap64 ((x0.length : Int) + t242))))) else (lanyardlaw01_CharsJoins.j1 k x0 x2 t241 false)))) else (lanyardlaw01_CharsJoins.j1 k x0 x2 t241 false))) else (none))) else (none)))))
def lanyardlaw01_CharsJoins.j1 : Nat → List Int → Int → Int → Bool → Option (Bool)
 | 0, _, _, _, _ => none
 | k + 1, x0, x2, x7, x60 => if x60 = true then (some false) else (if x7 ≥ 0 then (if 0 ≤ x7 then (if x7 ≤ (x0.length : Int) then ((chars_Bad.f k (x0.take (x7 : Int).toNat)).bind fun t255 => (if t255 = (-1) then (some (decide (x7 < (x0.length : Int)))) else (some false))) else (none)) else (none)) else (if (wrap64 ((x0.length : Int) + 1)) = 0 then (none) else (if 0 ≤ (Int.tmod (wrap64 ((wrap64 ((Int.tmod x2 (wrap64 ((x0.length : Int) + 1))) + (x0.length : Int))) + 1)) (wrap64 ((x0.length : Int) + 1))) then (if (Int.tmod (wrap64 ((wrap64 ((Int.tmod x2 (wrap64 ((x0.length : Int) + 1))) + (x0.length : Int))) + 1)) (wrap64 ((x0.length : Int) + 1))) ≤ (x0.length : Int) then ((chars_Bad.f k (x0.take ((Int.tmod (wrap64 ((wrap64 ((Int.tmod x2 (wrap64 ((x0.length : Int) + 1))) + (x0.length : Int))) + 1)) (wrap64 ((x0.length : Int) + 1))) : Int).toNat)).bind fun t257 => (if t257 < 0 then (some true) else (some (decide ((wrap64 ((Int.tmod (wrap64 ((wrap64 ((Int.tmod x2 (wrap64 ((x0.length : Int) + 1))) + (x0.length : Int))) + 1)) (wrap64 ((x0.length : Int) + 1))) - t257)) < 4))))) else (none)) else (none))))
end
def lanyardlaw01_CharsJoins.f (k : Nat) (l0 : List Int) (l1 : List Int) (a2 : Int) : Option (Bool) := (lanyardlaw01_awake.f k).bind fun t239 => (if t239 = true then (if (l0.length : Int) > 2000 then (lanyardlaw01_CharsJoins.j0 k l0 l1 a2 true) else (lanyardlaw01_CharsJoins.j0 k l0 l1 a2 (decide ((l1.length : Int) > 2000)))) else (lanyardlaw01_CharsJoins.j0 k l0 l1 a2 true))
theorem lanyardlaw01_CharsJoins.mono_l : ∀ k, (∀ y0 y1 y2 y3, LeO (lanyardlaw01_CharsJoins.j0 k y0 y1 y2 y3) (lanyardlaw01_CharsJoins.j0 (k + 1) y0 y1 y2 y3)) ∧ (∀ y0 y1 y2 y3, LeO (lanyardlaw01_CharsJoins.j1 k y0 y1 y2 y3) (lanyardlaw01_CharsJoins.j1 (k + 1) y0 y1 y2 y3))
 | 0 => ⟨fun _ _ _ _ r h => by simp [lanyardlaw01_CharsJoins.j0] at h, fun _ _ _ _ r h => by simp [lanyardlaw01_CharsJoins.j1] at h⟩
 | k + 1 => by
  obtain ⟨ih0, ih1⟩ := lanyardlaw01_CharsJoins.mono_l k
  refine ⟨?_, ?_⟩
  ·intro y0 y1 y2 y3
   unfold lanyardlaw01_CharsJoins.j0
   repeat' first
   | (with_reducible exact ih0 _ _ _ _)
   | (with_reducible exact ih1 _ _ _ _)
   | (with_reducible exact chars_Bad.mono _ _)
   | (with_reducible exact lanyardlaw01_awake.mono _)
   | (with_reducible exact LeO.refl _)
   | (with_reducible exact LeO.none _)
   | (with_reducible refine LeO.ite ?_ ?_)
   | (with_reducible refine LeO.bind ?_ (fun _ => ?_))
   | exact ih0 _ _ _ _
   | exact ih1 _ _ _ _
   | exact chars_Bad.mono _ _
   | exact lanyardlaw01_awake.mono _
   | exact LeO.none _
   | refine LeO.ite ?_ ?_
   | refine LeO.bind ?_ (fun _ => ?_)
  ·intro y0 y1 y2 y3
   unfold lanyardlaw01_CharsJoins.j1
   repeat' first
   | (with_reducible exact ih0 _ _ _ _)
   | (with_reducible exact ih1 _ _ _ _)
   | (with_reducible exact chars_Bad.mono _ _)
   | (with_reducible exact lanyardlaw01_awake.mono _)
   | (with_reducible exact LeO.refl _)
   | (with_reducible exact LeO.none _)
   | (with_reducible refine LeO.ite ?_ ?_)
   | (with_reducible refine LeO.bind ?_ (fun _ => ?_))
   | exact ih0 _ _ _ _
   | exact ih1 _ _ _ _
   | exact chars_Bad.mono _ _
   | exact lanyardlaw01_awake.mono _
   | exact LeO.none _
   | refine LeO.ite ?_ ?_
   | refine LeO.bind ?_ (fun _ => ?_)
theorem lanyardlaw01_CharsJoins.mono : ∀ a0 a1 a2 k, LeO (lanyardlaw01_CharsJoins.f k a0 a1 a2) (lanyardlaw01_CharsJoins.f (k + 1) a0 a1 a2) := by
 intro a0 a1 a2 k
 obtain ⟨ih0, ih1⟩ := lanyardlaw01_CharsJoins.mono_l k
 unfold lanyardlaw01_CharsJoins.f
 repeat' first
   | (with_reducible exact ih0 _ _ _ _)
   | (with_reducible exact ih1 _ _ _ _)
   | (with_reducible exact chars_Bad.mono _ _)
   | (with_reducible exact lanyardlaw01_awake.mono _)
   | (with_reducible exact LeO.refl _)
   | (with_reducible exact LeO.none _)
   | (with_reducible refine LeO.ite ?_ ?_)
   | (with_reducible refine LeO.bind ?_ (fun _ => ?_))
   | exact ih0 _ _ _ _
   | exact ih1 _ _ _ _
   | exact chars_Bad.mono _ _
   | exact lanyardlaw01_awake.mono _
   | exact LeO.none _
   | refine LeO.ite ?_ ?_
   | refine LeO.bind ?_ (fun _ => ?_)
set_option maxHeartbeats 8000000 in
set_option maxRecDepth 100000 in
theorem lanyardlaw01_CharsJoins.calls (k : Nat) (A0 : Option Addr) (c0 : Nat) (l0 : List Int) (A1 : Option Addr) (c1 : Nat) (l1 : List Int) (a2 : Int) (r : Bool) (w : World) (hr0 : Kd.C (Kd.int .u8) w A0 l0.length l0) (hc0 : l0.length ≤ c0) (hr1 : Kd.C (Kd.int .u8) w A1 l1.length l1) (hc1 : l1.length ≤ c1) (hU : Uni w) (h : lanyardlaw01_CharsJoins.f k l0 l1 a2 = some r) :
  Calls Tryd.prog 5 #[.slice A0 l0.length c0, .slice A1 l1.length c1, .int .i64 a2] w fun e w' => e = .returned (.bool r) ∧ Below w.heap.size w w' := by
 have HU := Aside0.mk hU
 clear hU
 have HR0 := Aside0.mk hr0
 have HC0 := Aside0.mk hc0
 clear hr0 hc0
 have HR1 := Aside0.mk hr1
 have HC1 := Aside0.mk hc1
 clear hr1 hc1
 have HB := Aside0.mk (Below.refl w.heap.size w)
 have H : ((lanyardlaw01_awake.f k).bind fun t239 => (if t239 = true then (if (l0.length : Int) > 2000 then (lanyardlaw01_CharsJoins.j0 k l0 l1 a2 true) else (lanyardlaw01_CharsJoins.j0 k l0 l1 a2 (decide ((l1.length : Int) > 2000)))) else (lanyardlaw01_CharsJoins.j0 k l0 l1 a2 true))) = some r := h
 clear h
 have HC4 := Aside0.mk H
 clear H
 go_enter Tryd.func5, Tryd.ntmps5
 go_upto_region 1 with (fail)
 go_cut [23] (fun v23 wc => ∃ (kq : Nat) (x23_3 : Bool), v23 = .bool x23_3 ∧ Aside0 (lanyardlaw01_CharsJoins.j0 kq l0 l1 a2 x23_3 = some r) ∧ Aside0 (kq ≤ k) ∧ Aside0 (Below w.heap.size w wc))
 case first =>
  have H := HC4.out
  clear HC4
  replace H := Option.bind_eq_some_iff.mp H
  obtain ⟨t239, A50, H⟩ := H
  replace H : (if t239 = true then (if (l0.length : Int) > 2000 then (lanyardlaw01_CharsJoins.j0 k l0 l1 a2 true) else (lanyardlaw01_CharsJoins.j0 k l0 l1 a2 (decide ((l1.length : Int) > 2000)))) else (lanyardlaw01_CharsJoins.j0 k l0 l1 a2 true)) = some r := H
  have A5 := Aside0.mk A50
  clear A50
  by_cases c6 : t239 = true
  ·subst c6
   have H1 : (if (l0.length : Int) > 2000 then (lanyardlaw01_CharsJoins.j0 k l0 l1 a2 true) else (lanyardlaw01_CharsJoins.j0 k l0 l1 a2 (decide ((l1.length : Int) > 2000)))) = some r := by rw [if_pos rfl] at H; exact H
   clear H
   have H := H1
   clear H1
   by_cases c7 : (l0.length : Int) > 2000
   ·rw [if_pos c7] at H
    have c7b0 : decide (2000 < (l0.length : Int)) = true := decide_eq_true c7
    have c7b1 : decide (2000 < l0.length) = true := decide_eq_true (by omega)
    clear c7
    (first | rw [c7b0] | (simp only [i64_w, i32_w]; rw [c7b0]) | skip)
    have H' := Aside0.mk H
    clear H
    go_wp2_with (first | ((with_reducible refine gate_callee (f := 8) rfl ?_); refine goesA (some 12) Tryd.func8 #[] rfl ?_; (with_reducible refine (lanyardlaw01_awake.calls k  true _ ?sideU A5.out).mono ?_); (case sideU => first | exact HU.out | exact Uni.up HU (Bu HB) | exact Uni.below HU.out (by assumption)); rintro e w8 ⟨rfl, hb⟩; refine ⟨_, rfl, ?_⟩; have n0_ := Bs HB hb; clear HB; revert n0_; intro HB; (try clear hb); (try clear hb2); (try clear hk); (try clear hi)))
    go_meet
    case rel => exact ⟨_, (true), (by first | rfl | (simp; done) | (simp [*]; done)), H', ⟨by first | omega | exact Nat.le_refl _⟩, ⟨Bu HB⟩⟩
   ·rw [if_neg c7] at H
    have c7b0 : decide (2000 < (l0.length : Int)) = false := decide_eq_false c7
    have c7b1 : decide (2000 < l0.length) = false := decide_eq_false (by omega)
    clear c7
    (first | rw [c7b0] | (simp only [i64_w, i32_w]; rw [c7b0]) | skip)
    have H' := Aside0.mk H
    clear H
    go_wp2_with (first | ((with_reducible refine gate_callee (f := 8) rfl ?_); refine goesA (some 12) Tryd.func8 #[] rfl ?_; (with_reducible refine (lanyardlaw01_awake.calls k  true _ ?sideU A5.out).mono ?_); (case sideU => first | exact HU.out | exact Uni.up HU (Bu HB) | exact Uni.below HU.out (by assumption)); rintro e w9 ⟨rfl, hb⟩; refine ⟨_, rfl, ?_⟩; have n0_ := Bs HB hb; clear HB; revert n0_; intro HB; (try clear hb); (try clear hb2); (try clear hk); (try clear hi)))
    go_meet
    case rel => exact ⟨_, (decide ((l1.length : Int) > 2000)), (by first | rfl | (simp; done) | (simp [*]; done)), H', ⟨by first | omega | exact Nat.le_refl _⟩, ⟨Bu HB⟩⟩
  ·replace c6 := Bool.eq_false_iff.mpr c6
   subst c6
   have H1 : (lanyardlaw01_CharsJoins.j0 k l0 l1 a2 true) = some r := by rw [if_neg (show ¬ (false = true) by decide)] at H; exact H
   clear H
   have H := H1
   clear H1
   have H' := Aside0.mk H
   clear H
   go_wp2_with (first | ((with_reducible refine gate_callee (f := 8) rfl ?_); refine goesA (some 12) Tryd.func8 #[] rfl ?_; (with_reducible refine (lanyardlaw01_awake.calls k  false _ ?sideU A5.out).mono ?_); (case sideU => first | exact HU.out | exact Uni.up HU (Bu HB) | exact Uni.below HU.out (by assumption)); rintro e w10 ⟨rfl, hb⟩; refine ⟨_, rfl, ?_⟩; have n0_ := Bs HB hb; clear HB; revert n0_; intro HB; (try clear hb); (try clear hb2); (try clear hk); (try clear hi)))
   go_meet
   case rel => exact ⟨_, (true), (by first | rfl | (simp; done) | (simp [*]; done)), H', ⟨by first | omega | exact Nat.le_refl _⟩, ⟨Bu HB⟩⟩
 case rest =>
  clear HC4
  try clear c1
  try clear p2
  try clear c5
  try clear c6
  try clear c7
  try clear c7b0
  try clear c7b1
  try clear c8
  obtain ⟨kq, x23_3, rfl, HA, HJ3, HB⟩ := hcut
  cases kq with
  | zero => exact absurd HA.out (by simp [lanyardlaw01_CharsJoins.j0])
  | succ kj3 =>
   have H := HA.out
   clear HA
   simp only [lanyardlaw01_CharsJoins.j0] at H
   by_cases c11 : x23_3 = true
   ·subst c11
    have H1 : ((lanyardlaw01_awake.f kj3).bind fun t240 => (some t240)) = some r := by rw [if_pos rfl] at H; exact H
    clear H
    have H := H1
    clear H1
    replace H := Option.bind_eq_some_iff.mp H
    obtain ⟨t240, A120, H⟩ := H
    replace H : (some t240) = some r := H
    have A12 := Aside0.mk A120
    clear A120
    obtain rfl := Option.some.inj H
    go_wp2_with (first | ((with_reducible refine gate_callee (f := 8) rfl ?_); refine goesA (some 24) Tryd.func8 #[] rfl ?_; (with_reducible refine (lanyardlaw01_awake.calls kj3  t240 _ ?sideU A12.out).mono ?_); (case sideU => first | exact HU.out | exact Uni.up HU (Bu HB) | exact Uni.below HU.out (by assumption)); rintro e w13 ⟨rfl, hb⟩; refine ⟨_, rfl, ?_⟩; have n0_ := Bs HB hb; clear HB; revert n0_; intro HB; (try clear hb); (try clear hb2); (try clear hk); (try clear hi)))
    go_ret
    exact ⟨rfl_, Bu HB⟩
   ·replace c11 := Bool.eq_false_iff.mpr c11
    subst c11
    have H1 : ((chars_Bad.f kj3 l0).bind fun t241 => ((chars_Bad.f kj3 l1).bind fun t242 => ((some (([] : List Int) : List Int)).bind fun y243 => (if y243.length + l0.length < 140737488355328 then ((some (y243 ++ l0 : List Int)).bind fun y246 => (if y246.length + l1.length < 140737488355328 then ((some (y246 ++ l1 : List Int)).bind fun y249 => (if t241 < 0 then ((chars_Bad.f kj3 y249).bind fun t252 => (if ((decide (t242 < 0)) != (decide (t252 < 0))) = true then (lanyardlaw01_CharsJoins.j1 kj3 l0 a2 t241 true) else (if t242 ≥ 0 then ((chars_Bad.f kj3 y249).bind fun t253 => (lanyardlaw01_CharsJoins.j1 kj3 l0 a2 t241 (t253 != (wrap64 ((l0.length : Int) + t242))))) else (lanyardlaw01_CharsJoins.j1 kj3 l0 a2 t241 false)))) else (lanyardlaw01_CharsJoins.j1 kj3 l0 a2 t241 false))) else (none))) else (none))))) = some r := by rw [if_neg (show ¬ (false = true) by decide)] at H; exact H
    clear H
    have H := H1
    clear H1
    replace H := Option.bind_eq_some_iff.mp H
    obtain ⟨t241, A140, H⟩ := H
    replace H : ((chars_Bad.f kj3 l1).bind fun t242 => ((some (([] : List Int) : List Int)).bind fun y243 => (if y243.length + l0.length < 140737488355328 then ((some (y243 ++ l0 : List Int)).bind fun y246 => (if y246.length + l1.length < 140737488355328 then ((some (y246 ++ l1 : List Int)).bind fun y249 => (if t241 < 0 then ((chars_Bad.f kj3 y249).bind fun t252 => (if ((decide (t242 < 0)) != (decide (t252 < 0))) = true then (lanyardlaw01_CharsJoins.j1 kj3 l0 a2 t241 true) else (if t242 ≥ 0 then ((chars_Bad.f kj3 y249).bind fun t253 => (lanyardlaw01_CharsJoins.j1 kj3 l0 a2 t241 (t253 != (wrap64 ((l0.length : Int) + t242))))) else (lanyardlaw01_CharsJoins.j1 kj3 l0 a2 t241 false)))) else (lanyardlaw01_CharsJoins.j1 kj3 l0 a2 t241 false))) else (none))) else (none)))) = some r := H
    have A14 := Aside0.mk A140
    clear A140
    replace H := Option.bind_eq_some_iff.mp H
    obtain ⟨t242, A150, H⟩ := H
    replace H : ((some (([] : List Int) : List Int)).bind fun y243 => (if y243.length + l0.length < 140737488355328 then ((some (y243 ++ l0 : List Int)).bind fun y246 => (if y246.length + l1.length < 140737488355328 then ((some (y246 ++ l1 : List Int)).bind fun y249 => (if t241 < 0 then ((chars_Bad.f kj3 y249).bind fun t252 => (if ((decide (t242 < 0)) != (decide (t252 < 0))) = true then (lanyardlaw01_CharsJoins.j1 kj3 l0 a2 t241 true) else (if t242 ≥ 0 then ((chars_Bad.f kj3 y249).bind fun t253 => (lanyardlaw01_CharsJoins.j1 kj3 l0 a2 t241 (t253 != (wrap64 ((l0.length : Int) + t242))))) else (lanyardlaw01_CharsJoins.j1 kj3 l0 a2 t241 false)))) else (lanyardlaw01_CharsJoins.j1 kj3 l0 a2 t241 false))) else (none))) else (none))) = some r := H
    have A15 := Aside0.mk A150
    clear A150
    obtain ⟨y243, hy243⟩ : ∃ y_ : List Int, y_ = (([] : List Int)) := ⟨_, rfl⟩
    replace H : (if y243.length + l0.length < 140737488355328 then ((some (y243 ++ l0 : List Int)).bind fun y246 => (if y246.length + l1.length < 140737488355328 then ((some (y246 ++ l1 : List Int)).bind fun y249 => (if t241 < 0 then ((chars_Bad.f kj3 y249).bind fun t252 => (if ((decide (t242 < 0)) != (decide (t252 < 0))) = true then (lanyardlaw01_CharsJoins.j1 kj3 l0 a2 t241 true) else (if t242 ≥ 0 then ((chars_Bad.f kj3 y249).bind fun t253 => (lanyardlaw01_CharsJoins.j1 kj3 l0 a2 t241 (t253 != (wrap64 ((l0.length : Int) + t242))))) else (lanyardlaw01_CharsJoins.j1 kj3 l0 a2 t241 false)))) else (lanyardlaw01_CharsJoins.j1 kj3 l0 a2 t241 false))) else (none))) else (none)) = some r := by first | (rw [hy243]; with_reducible exact H) | (have H2_ := (Option.bind_some _ _).symm.trans H; rw [hy243]; with_reducible exact H2_) | (have H2_ := (Option.bind_some _ _).symm.trans H; with_reducible exact H2_) | with_reducible exact H | (rw [hy243]; exact H) | exact H
    have Ny243 := Aside0.mk hy243
    clear hy243
    by_cases c16 : y243.length + l0.length < 140737488355328
    ·rw [if_pos c16] at H
     have LMc16 := Aside0.mk c16
     clear c16
     obtain ⟨y246, hy246⟩ : ∃ y_ : List Int, y_ = (y243 ++ l0) := ⟨_, rfl⟩
     replace H : (if y246.length + l1.length < 140737488355328 then ((some (y246 ++ l1 : List Int)).bind fun y249 => (if t241 < 0 then ((chars_Bad.f kj3 y249).bind fun t252 => (if ((decide (t242 < 0)) != (decide (t252 < 0))) = true then (lanyardlaw01_CharsJoins.j1 kj3 l0 a2 t241 true) else (if t242 ≥ 0 then ((chars_Bad.f kj3 y249).bind fun t253 => (lanyardlaw01_CharsJoins.j1 kj3 l0 a2 t241 (t253 != (wrap64 ((l0.length : Int) + t242))))) else (lanyardlaw01_CharsJoins.j1 kj3 l0 a2 t241 false)))) else (lanyardlaw01_CharsJoins.j1 kj3 l0 a2 t241 false))) else (none)) = some r := by first | (rw [hy246]; with_reducible exact H) | (have H2_ := (Option.bind_some _ _).symm.trans H; rw [hy246]; with_reducible exact H2_) | (have H2_ := (Option.bind_some _ _).symm.trans H; with_reducible exact H2_) | with_reducible exact H | (rw [hy246]; exact H) | exact H
     have Ny246 := Aside0.mk hy246
     clear hy246
     by_cases c17 : y246.length + l1.length < 140737488355328
     ·rw [if_pos c17] at H
      have LMc17 := Aside0.mk c17
      clear c17
      obtain ⟨y249, hy249⟩ : ∃ y_ : List Int, y_ = (y246 ++ l1) := ⟨_, rfl⟩
      replace H : (if t241 < 0 then ((chars_Bad.f kj3 y249).bind fun t252 => (if ((decide (t242 < 0)) != (decide (t252 < 0))) = true then (lanyardlaw01_CharsJoins.j1 kj3 l0 a2 t241 true) else (if t242 ≥ 0 then ((chars_Bad.f kj3 y249).bind fun t253 => (lanyardlaw01_CharsJoins.j1 kj3 l0 a2 t241 (t253 != (wrap64 ((l0.length : Int) + t242))))) else (lanyardlaw01_CharsJoins.j1 kj3 l0 a2 t241 false)))) else (lanyardlaw01_CharsJoins.j1 kj3 l0 a2 t241 false)) = some r := by first | (rw [hy249]; with_reducible exact H) | (have H2_ := (Option.bind_some _ _).symm.trans H; rw [hy249]; with_reducible exact H2_) | (have H2_ := (Option.bind_some _ _).symm.trans H; with_reducible exact H2_) | with_reducible exact H | (rw [hy249]; exact H) | exact H
      have Ny249 := Aside0.mk hy249
      clear hy249
      have HC18 := Aside0.mk H
      clear H
      go_upto_region 5 with (first | ((with_reducible refine gate_callee (f := 9) rfl ?_); refine goesA (some 26) Tryd.func9 #[.slice A0 l0.length c0] rfl ?_; (with_reducible refine (chars_Bad.calls kj3 _ _ l0 t241 _ ?side1 ?side2 ?sideU A14.out).mono ?_); (case sideU => first | exact HU.out | exact Uni.up HU (Bu HB) | exact Uni.below HU.out (by assumption)); (case side1 => exact Cu (Kd.C_below HR0.out HB.out)); (case side2 => exact HC0.out); rintro e w19 ⟨rfl, hb⟩; refine ⟨_, rfl, ?_⟩; have n0_ := Bs HB hb; clear HB; revert n0_; intro HB; (try clear hb); (try clear hb2); (try clear hk); (try clear hi)) | ((with_reducible refine gate_callee (f := 9) rfl ?_); refine goesA (some 28) Tryd.func9 #[.slice A1 l1.length c1] rfl ?_; (with_reducible refine (chars_Bad.calls kj3 _ _ l1 t242 _ ?side1 ?side2 ?sideU A15.out).mono ?_); (case sideU => first | exact HU.out | exact Uni.up HU (Bu HB) | exact Uni.below HU.out (by assumption)); (case side1 => exact Cu (Kd.C_below HR1.out HB.out)); (case side2 => exact HC1.out); rintro e w20 ⟨rfl, hb⟩; refine ⟨_, rfl, ?_⟩; have n0_ := Bs HB hb; clear HB; revert n0_; intro HB; (try clear hb); (try clear hb2); (try clear hk); (try clear hi)) | ((with_reducible refine gate_dst (N := 29) rfl ?_); (try (refine gate_guard (by rfl) ?_; dsimp only)); refine litI .u8 5 29 [] [] ?hr ?_; (case hr => first | (go_simp; done) | (go_simp; rfl)); intro v244 w21 ho22 hb; (first | rw [← Ny243.out] at ho22 | (simp only [Int.reduceToNat] at ho22; rw [← Ny243.out] at ho22)); have n0_ := Aside0.mk (Kd.R_lower ho22 (Bz HB)); have n1_ := Bs HB hb; clear HB; revert n0_ n1_; intro HO245 HB; clear hb ho22) | ((with_reducible refine gate_builtin (b := .append) (xs := #[.tmp 29, .tmp 30]) rfl ?_); (try (refine gate_guard (by rfl) ?_; dsimp only)); at_builtin; refine Kd.R_append_rows (Kd.int .u8) (w0 := w) w.heap.size rfl (.tmp 29) (.tmp 30) 22 5 (.int .u8 0) 1 rfl Tryd.underlying22 info5 rfl (by decide) (by omega) v244 y243 l0 _ _ _ (fun _ => True) (fun _ => False) rfl rfl ?aO ?aR (fun _ _ h => h) (fun _ h => h.elim) ?aF ?aB ?aS ?aL ?_; (case aR => repeat (first | exact (Kd.C_below HR0.out HB.out) | (with_reducible refine Kd.C_alloc ?_ _) | (with_reducible refine Kd.C_drewN ?_ _) | (with_reducible refine Kd.C_drew ?_))); (case aB => exact (Bu HB)); (case aF => exact (fun _ _ => trivial)); (case aO => exact (Ru HO245)); (case aS => exact (Bz HB)); (case aL => have := LMc16.out; omega); intro v247 w23 ho hb hg hat; rw [← Ny246.out] at ho; have n0_ := Aside0.mk (hb); have n1_ := Aside0.mk (ho); clear HB HO245; revert n0_ n1_; intro HB HO248; clear ho hb hg hat) | ((with_reducible refine gate_builtin (b := .append) (xs := #[.tmp 31, .tmp 32]) rfl ?_); (try (refine gate_guard (by rfl) ?_; dsimp only)); at_builtin; refine Kd.R_append_rows (Kd.int .u8) (w0 := w) w.heap.size rfl (.tmp 31) (.tmp 32) 22 5 (.int .u8 0) 1 rfl Tryd.underlying22 info5 rfl (by decide) (by omega) v247 y246 l1 _ _ _ (fun _ => True) (fun _ => False) rfl rfl ?aO ?aR (fun _ _ h => h) (fun _ h => h.elim) ?aF ?aB ?aS ?aL ?_; (case aR => repeat (first | exact (Kd.C_below HR1.out HB.out) | (with_reducible refine Kd.C_alloc ?_ _) | (with_reducible refine Kd.C_drewN ?_ _) | (with_reducible refine Kd.C_drew ?_))); (case aB => exact (Bu HB)); (case aF => exact (fun _ _ => trivial)); (case aO => exact (Ru HO248)); (case aS => exact (Bz HB)); (case aL => have := LMc17.out; omega); intro v250 w24 ho hb hg hat; rw [← Ny249.out] at ho; have n0_ := Aside0.mk (hb); have n1_ := Aside0.mk (ho); clear HB HO248; revert n0_ n1_; intro HB HO251; clear ho hb hg hat))
      (try simp only [Act.put, List.setIfInBounds_toArray, List.set_cons_zero, List.set_cons_succ])
      go_cut [60] (fun v60 wc => ∃ (kq : Nat) (x60_17 : Bool), v60 = .bool x60_17 ∧ Aside0 (lanyardlaw01_CharsJoins.j1 kq l0 a2 t241 x60_17 = some r) ∧ Aside0 (kq ≤ kj3) ∧ Aside0 (Below w.heap.size w wc))
      case first =>
       have H := HC18.out
       clear HC18
       by_cases c25 : t241 < 0
       ·rw [if_pos c25] at H
        have c25b0 : decide (t241 < 0) = true := decide_eq_true c25
        clear c25
        (first | rw [c25b0] | (simp only [i64_w, i32_w]; rw [c25b0]) | skip)
        replace H := Option.bind_eq_some_iff.mp H
        obtain ⟨t252, A260, H⟩ := H
        replace H : (if ((decide (t242 < 0)) != (decide (t252 < 0))) = true then (lanyardlaw01_CharsJoins.j1 kj3 l0 a2 t241 true) else (if t242 ≥ 0 then ((chars_Bad.f kj3 y249).bind fun t253 => (lanyardlaw01_CharsJoins.j1 kj3 l0 a2 t241 (t253 != (wrap64 ((l0.length : Int) + t242))))) else (lanyardlaw01_CharsJoins.j1 kj3 l0 a2 t241 false))) = some r := H
        have A26 := Aside0.mk A260
        clear A260
        by_cases c27 : ((decide (t242 < 0)) != (decide (t252 < 0))) = true
        ·rw [if_pos c27] at H
         have c27b0 : ((decide (t242 < 0)) != (decide (t252 < 0))) = true := c27
         (try (have c27b1 : decide ((decide (t242 < 0)) = (decide (t252 < 0))) = false := by simpa using c27))
         (try (have c27b2 : ((decide (t242 < 0)) == (decide (t252 < 0))) = false := by simpa using c27))
         (try (have c27b3 : ¬ ((decide (t242 < 0)) = (decide (t252 < 0))) := by simpa using c27))
         clear c27
         have H' := Aside0.mk H
         clear H
         obtain ⟨Ao28, co28, eo28⟩ := Kd.R_slice HO251.out
         subst eo28
         go_wp2_with (first | (go_at_call 9; (with_reducible refine (chars_Bad.calls kj3 _ _ y249 t252 _ ?side1 ?side2 ?sideU A26.out).mono ?_); (case sideU => first | exact HU.out | exact Uni.up HU (Bu HB) | exact Uni.below HU.out (by assumption)); (case side1 => exact Cu (Kd.R_reads' HO251.out).2.2); (case side2 => exact (Kd.R_reads' HO251.out).2.1); rintro e w29 ⟨rfl, hb⟩; have n0_ := Rb HO251 hb; have n1_ := Bs HB hb; clear HO251 HB; revert n0_ n1_; intro HO251 HB; (try clear hb); (try clear hb2); (try clear hk); (try clear hi)))
         go_meet
         case rel => exact ⟨_, (true), (by first | rfl | (simp; done) | (simp [*]; done)), H', ⟨by have := HJ3.out; first | omega | exact Nat.le_refl _⟩, ⟨Bu HB⟩⟩
        ·rw [if_neg c27] at H
         have c27b0 : ((decide (t242 < 0)) != (decide (t252 < 0))) = false := by simpa using c27
         (try (have c27b1 : decide ((decide (t242 < 0)) = (decide (t252 < 0))) = true := by simpa using c27))
         (try (have c27b2 : ((decide (t242 < 0)) == (decide (t252 < 0))) = true := by simpa using c27))
         clear c27
         by_cases c30 : t242 ≥ 0
         ·rw [if_pos c30] at H
          have c30b0 : decide (0 ≤ t242) = true := decide_eq_true c30
          clear c30
          replace H := Option.bind_eq_some_iff.mp H
          obtain ⟨t253, A310, H⟩ := H
          replace H : (lanyardlaw01_CharsJoins.j1 kj3 l0 a2 t241 (t253 != (wrap64 ((l0.length : Int) + t242)))) = some r := H
          have A31 := Aside0.mk A310
          have EQ31 := Aside0.mk (Option.some.inj (A26.out.symm.trans A31.out))
          clear A310
          have H' := Aside0.mk H
          clear H
          obtain ⟨Ao32, co32, eo32⟩ := Kd.R_slice HO251.out
          subst eo32
          go_wp2_with (first | (go_at_call 9; (with_reducible refine (chars_Bad.calls kj3 _ _ y249 t252 _ ?side1 ?side2 ?sideU A26.out).mono ?_); (case sideU => first | exact HU.out | exact Uni.up HU (Bu HB) | exact Uni.below HU.out (by assumption)); (case side1 => exact Cu (Kd.R_reads' HO251.out).2.2); (case side2 => exact (Kd.R_reads' HO251.out).2.1); rintro e w33 ⟨rfl, hb⟩; have n0_ := Rb HO251 hb; have n1_ := Bs HB hb; clear HO251 HB; revert n0_ n1_; intro HO251 HB; (try clear hb); (try clear hb2); (try clear hk); (try clear hi)) | (go_at_call 9; (with_reducible refine (chars_Bad.calls kj3 _ _ y249 t253 _ ?side1 ?side2 ?sideU A31.out).mono ?_); (case sideU => first | exact HU.out | exact Uni.up HU (Bu HB) | exact Uni.below HU.out (by assumption)); (case side1 => exact Cu (Kd.R_reads' HO251.out).2.2); (case side2 => exact (Kd.R_reads' HO251.out).2.1); rintro e w34 ⟨rfl, hb⟩; have n0_ := Rb HO251 hb; have n1_ := Bs HB hb; clear HO251 HB; revert n0_ n1_; intro HO251 HB; (try clear hb); (try clear hb2); (try clear hk); (try clear hi)))
          go_meet
          case rel => exact ⟨_, ((t253 != (wrap64 ((l0.length : Int) + t242)))), (by first | rfl | (simp; done) | (simp [*]; done) | (have e0_ := EQ31.out; simp [e0_]; done)), H', ⟨by have := HJ3.out; first | omega | exact Nat.le_refl _⟩, ⟨Bu HB⟩⟩
         ·rw [if_neg c30] at H
          have c30b0 : decide (0 ≤ t242) = false := decide_eq_false c30
          clear c30
          have H' := Aside0.mk H
          clear H
          obtain ⟨Ao35, co35, eo35⟩ := Kd.R_slice HO251.out
          subst eo35
          go_wp2_with (first | (go_at_call 9; (with_reducible refine (chars_Bad.calls kj3 _ _ y249 t252 _ ?side1 ?side2 ?sideU A26.out).mono ?_); (case sideU => first | exact HU.out | exact Uni.up HU (Bu HB) | exact Uni.below HU.out (by assumption)); (case side1 => exact Cu (Kd.R_reads' HO251.out).2.2); (case side2 => exact (Kd.R_reads' HO251.out).2.1); rintro e w36 ⟨rfl, hb⟩; have n0_ := Rb HO251 hb; have n1_ := Bs HB hb; clear HO251 HB; revert n0_ n1_; intro HO251 HB; (try clear hb); (try clear hb2); (try clear hk); (try clear hi)))
          go_meet
          case rel => exact ⟨_, (false), (by first | rfl | (simp; done) | (simp [*]; done)), H', ⟨by have := HJ3.out; first | omega | exact Nat.le_refl _⟩, ⟨Bu HB⟩⟩
       ·rw [if_neg c25] at H
        have c25b0 : decide (t241 < 0) = false := decide_eq_false c25
        clear c25
        (first | rw [c25b0] | (simp only [i64_w, i32_w]; rw [c25b0]) | skip)
        have H' := Aside0.mk H
        clear H
        go_wp2
        go_meet
        case rel => exact ⟨_, (false), (by first | rfl | (simp; done) | (simp [*]; done)), H', ⟨by have := HJ3.out; first | omega | exact Nat.le_refl _⟩, ⟨Bu HB⟩⟩
      case rest =>
       clear HC18
       try clear c1
       try clear c2
       try clear p2
       try clear c3
       try clear c5
       try clear c6
       try clear p6
       try clear c7
       try clear c7b0
       try clear c7b1
       try clear c8
       try clear c9
       try clear c11
       try clear c16
       try clear c17
       try clear c25
       try clear c25b0
       try clear c27
       try clear c27b0
       try clear c27b1
       try clear c27b2
       try clear c30
       try clear c30b0
       try clear p2
       obtain ⟨kq, x60_17, rfl, HA, HJ17, HB⟩ := hcut
       cases kq with
       | zero => exact absurd HA.out (by simp [lanyardlaw01_CharsJoins.j1])
       | succ kj17 =>
        have H := HA.out
        clear HA
        simp only [lanyardlaw01_CharsJoins.j1] at H
        refine (Classical.em (x60_17 = true)).elim (fun c37 => ?a47_) (fun c37 => ?b47_)
        case' a47_ =>
         subst c37
         have H1 : (some false) = some r := by rw [if_pos rfl] at H; exact H
         clear H
         have H := H1
         clear H1
         obtain rfl := Option.some.inj H
         go_wp2
         go_ret
         exact ⟨rfl_, Bu HB⟩
        case' b47_ =>
         replace c37 := Bool.eq_false_iff.mpr c37
         subst c37
         have H1 : (if t241 ≥ 0 then (if 0 ≤ t241 then (if t241 ≤ (l0.length : Int) then ((chars_Bad.f kj17 (l0.take (t241 : Int).toNat)).bind fun t255 => (if t255 = (-1) then (some (decide (t241 < (l0.length : Int)))) else (some false))) else (none)) else (none)) else (if (wrap64 ((l0.length : Int) + 1)) = 0 then (none) else (if 0 ≤ (Int.tmod (wrap64 ((wrap64 ((Int.tmod a2 (wrap64 ((l0.length : Int) + 1))) + (l0.length : Int))) + 1)) (wrap64 ((l0.length : Int) + 1))) then (if (Int.tmod (wrap64 ((wrap64 ((Int.tmod a2 (wrap64 ((l0.length : Int) + 1))) + (l0.length : Int))) + 1)) (wrap64 ((l0.length : Int) + 1))) ≤ (l0.length : Int) then ((chars_Bad.f kj17 (l0.take ((Int.tmod (wrap64 ((wrap64 ((Int.tmod a2 (wrap64 ((l0.length : Int) + 1))) + (l0.length : Int))) + 1)) (wrap64 ((l0.length : Int) + 1))) : Int).toNat)).bind fun t257 => (if t257 < 0 then (some true) else (some (decide ((wrap64 ((Int.tmod (wrap64 ((wrap64 ((Int.tmod a2 (wrap64 ((l0.length : Int) + 1))) + (l0.length : Int))) + 1)) (wrap64 ((l0.length : Int) + 1))) - t257)) < 4))))) else (none)) else (none)))) = some r := by rw [if_neg (show ¬ (false = true) by decide)] at H; exact H
         clear H
         have H := H1
         clear H1
         refine (Classical.em (t241 ≥ 0)).elim (fun c38 => ?a48_) (fun c38 => ?b48_)
         case' a48_ =>
          rw [if_pos c38] at H
          have c38b0 : decide (0 ≤ t241) = true := decide_eq_true c38
          clear c38
          refine (Classical.em (0 ≤ t241)).elim (fun c39 => ?a49_) (fun c39 => ?b49_)
          case' a49_ =>
           rw [if_pos c39] at H
           have c39b0 := eq_true c39
           have c39b1 : decide (0 ≤ t241) = true := decide_eq_true c39
           clear c39
           refine (Classical.em (t241 ≤ (l0.length : Int))).elim (fun c40 => ?a50_) (fun c40 => ?b50_)
           case' a50_ =>
            rw [if_pos c40] at H
            have c40b0 := eq_true c40
            have c40b1 : decide (t241 ≤ (l0.length : Int)) = true := decide_eq_true c40
            clear c40
            replace H := Option.bind_eq_some_iff.mp H
            obtain ⟨t255, A410, H⟩ := H
            replace H : (if t255 = (-1) then (some (decide (t241 < (l0.length : Int)))) else (some false)) = some r := H
            have A41 := Aside0.mk A410
            clear A410
            refine (Classical.em (t255 = (-1))).elim (fun c42 => ?a51_) (fun c42 => ?b51_)
            case' a51_ =>
             rw [if_pos c42] at H
             have c42b0 : (t255 == (-1)) = true := beq_iff_eq.mpr c42
             have c42b1 : (t255 != (-1)) = false := bne_eq_false_iff_eq.mpr c42
             clear c42
             obtain rfl := Option.some.inj H
             obtain ⟨i043, hi043, _, hsz43, _⟩ := info_parts info5
             obtain ⟨hcut43, hA43, hC43⟩ := print_take_of (P := Tryd.prog) (Value.int .u8) 0 22 5 .i64 Tryd.underlying22 hi043 hsz43 A0 c0 l0 t241 (of_decide_eq_true (by first | (with_reducible assumption) | assumption)) (of_decide_eq_true (by first | (with_reducible assumption) | assumption)) HC0.out
             have HR254 := Aside0.mk (Kd.C_of_reads (h1 := fun _ => rfl) (hA43 _ (Kd.reads_of_C HR0.out)))
             have HC254 := Aside0.mk hC43
             clear hA43 hC43 hi043 hsz43
            case' b51_ =>
             rw [if_neg c42] at H
             have c42b0 : (t255 == (-1)) = false := beq_eq_false_iff_ne.mpr c42
             have c42b1 : (t255 != (-1)) = true := bne_iff_ne.mpr c42
             obtain rfl := Option.some.inj H
             obtain ⟨i045, hi045, _, hsz45, _⟩ := info_parts info5
             obtain ⟨hcut45, hA45, hC45⟩ := print_take_of (P := Tryd.prog) (Value.int .u8) 0 22 5 .i64 Tryd.underlying22 hi045 hsz45 A0 c0 l0 t241 (of_decide_eq_true (by first | (with_reducible assumption) | assumption)) (of_decide_eq_true (by first | (with_reducible assumption) | assumption)) HC0.out
             have HR254 := Aside0.mk (Kd.C_of_reads (h1 := fun _ => rfl) (hA45 _ (Kd.reads_of_C HR0.out)))
             have HC254 := Aside0.mk hC45
             clear hA45 hC45 hi045 hsz45
           case' b50_ =>
            rw [if_neg c40] at H
            exact absurd H (by simp)
          case' b49_ =>
           rw [if_neg c39] at H
           exact absurd H (by simp)
         case' b48_ =>
          rw [if_neg c38] at H
          have c38b0 : decide (0 ≤ t241) = false := decide_eq_false c38
          clear c38
          refine (Classical.em ((wrap64 ((l0.length : Int) + 1)) = 0)).elim (fun c47 => ?a52_) (fun c47 => ?b52_)
          case' a52_ =>
           rw [if_pos c47] at H
           exact absurd H (by simp)
          case' b52_ =>
           rw [if_neg c47] at H
           have c47b0 : ((wrap64 ((l0.length : Int) + 1)) == 0) = false := beq_eq_false_iff_ne.mpr c47
           have c47b1 : ((wrap64 ((l0.length : Int) + 1)) != 0) = true := bne_iff_ne.mpr c47
           obtain ⟨ji48, hji48⟩ : ∃ j_ : Int, (Int.tmod (wrap64 ((wrap64 ((Int.tmod a2 (wrap64 ((l0.length : Int) + 1))) + (l0.length : Int))) + 1)) (wrap64 ((l0.length : Int) + 1))) = j_ := ⟨_, rfl⟩
           replace H : (if 0 ≤ (ji48) then (if (ji48) ≤ (l0.length : Int) then ((chars_Bad.f kj17 (l0.take ((ji48) : Int).toNat)).bind fun t257 => (if t257 < 0 then (some true) else (some (decide ((wrap64 ((ji48) - t257)) < 4))))) else (none)) else (none)) = some r := by first | (rw [hji48] at H; exact H) | (simp only [hji48] at H ⊢; exact H)
           refine (Classical.em (0 ≤ (ji48))).elim (fun c49 => ?a53_) (fun c49 => ?b53_)
           case' a53_ =>
            rw [if_pos c49] at H
            have c49b0 := eq_true c49
            have c49b1 : decide (0 ≤ (ji48)) = true := decide_eq_true c49
            clear c49
            refine (Classical.em ((ji48) ≤ (l0.length : Int))).elim (fun c50 => ?a54_) (fun c50 => ?b54_)
            case' a54_ =>
             rw [if_pos c50] at H
             have c50b0 := eq_true c50
             have c50b1 : decide ((ji48) ≤ (l0.length : Int)) = true := decide_eq_true c50
             clear c50
             replace H := Option.bind_eq_some_iff.mp H
             obtain ⟨t257, A510, H⟩ := H
             replace H : (if t257 < 0 then (some true) else (some (decide ((wrap64 ((ji48) - t257)) < 4)))) = some r := H
             have A51 := Aside0.mk A510
             clear A510
             refine (Classical.em (t257 < 0)).elim (fun c52 => ?a55_) (fun c52 => ?b55_)
             case' a55_ =>
              rw [if_pos c52] at H
              have c52b0 : decide (t257 < 0) = true := decide_eq_true c52
              clear c52
              obtain rfl := Option.some.inj H
              obtain ⟨i053, hi053, _, hsz53, _⟩ := info_parts info5
              obtain ⟨hcut53, hA53, hC53⟩ := print_take_of (P := Tryd.prog) (Value.int .u8) 0 22 5 .i64 Tryd.underlying22 hi053 hsz53 A0 c0 l0 (ji48) (of_decide_eq_true (by first | (with_reducible assumption) | assumption)) (of_decide_eq_true (by first | (with_reducible assumption) | assumption)) HC0.out
              have HR256 := Aside0.mk (Kd.C_of_reads (h1 := fun _ => rfl) (hA53 _ (Kd.reads_of_C HR0.out)))
              have HC256 := Aside0.mk hC53
              clear hA53 hC53 hi053 hsz53
             case' b55_ =>
              rw [if_neg c52] at H
              have c52b0 : decide (t257 < 0) = false := decide_eq_false c52
              clear c52
              obtain rfl := Option.some.inj H
              obtain ⟨i055, hi055, _, hsz55, _⟩ := info_parts info5
              obtain ⟨hcut55, hA55, hC55⟩ := print_take_of (P := Tryd.prog) (Value.int .u8) 0 22 5 .i64 Tryd.underlying22 hi055 hsz55 A0 c0 l0 (ji48) (of_decide_eq_true (by first | (with_reducible assumption) | assumption)) (of_decide_eq_true (by first | (with_reducible assumption) | assumption)) HC0.out
              have HR256 := Aside0.mk (Kd.C_of_reads (h1 := fun _ => rfl) (hA55 _ (Kd.reads_of_C HR0.out)))
              have HC256 := Aside0.mk hC55
              clear hA55 hC55 hi055 hsz55
            case' b54_ =>
             rw [if_neg c50] at H
             exact absurd H (by simp)
           case' b53_ =>
            rw [if_neg c49] at H
            exact absurd H (by simp)
        case a51_ | b51_ =>
         go_wp2_with (first | ((with_reducible refine gate_callee (f := 9) rfl ?_); refine goesL_ (some 66) rfl rfl Tryd.func9 (by kernel_rfl) rfl #[.slice A0 (l0.take (t241 : Int).toNat).length c0] rfl (by (try simp only [List.map_toArray, List.map_cons, List.map_nil]); first | done | (rw [show (l0.take (t241 : Int).toNat).length = t241.toNat from (by rw [List.length_take]; have h_ : (t241 : Int) ≤ (l0.length : Int) := of_decide_eq_true (by first | (with_reducible assumption) | assumption); omega)] <;> rfl) | rfl | (simp only [List.length_drop, List.length_take]; rfl)) ?_; (with_reducible refine (chars_Bad.calls kj17 _ _ (l0.take (t241 : Int).toNat) t255 _ ?side1 ?side2 ?sideU A41.out).mono ?_); (case sideU => first | exact HU.out | exact Uni.up HU (Bu HB) | exact Uni.below HU.out (by assumption)); (case side1 => exact Cu (Kd.C_below HR254.out HB.out)); (case side2 => exact HC254.out); rintro e wz1 ⟨rfl, hb⟩; refine ⟨_, rfl, ?_⟩; have n0_ := Bs HB hb; clear HB; revert n0_; intro HB; (try clear hb); (try clear hb2); (try clear hk); (try clear hi)))
         go_ret
         exact ⟨rfl_, Bu HB⟩
        case a55_ | b55_ =>
         go_wp2_with (first | ((with_reducible refine gate_callee (f := 9) rfl ?_); refine goesL_ (some 90) rfl rfl Tryd.func9 (by kernel_rfl) rfl #[.slice A0 (l0.take ((ji48) : Int).toNat).length c0] rfl (by (try simp only [List.map_toArray, List.map_cons, List.map_nil]); first | done | (rw [show (l0.take ((ji48) : Int).toNat).length = (ji48).toNat from (by rw [List.length_take]; have h_ : ((ji48) : Int) ≤ (l0.length : Int) := of_decide_eq_true (by first | (with_reducible assumption) | assumption); omega)] <;> rfl) | (simp only [hji48]; rfl) | rfl | (simp only [List.length_drop, List.length_take]; rfl)) ?_; (with_reducible refine (chars_Bad.calls kj17 _ _ (l0.take ((ji48) : Int).toNat) t257 _ ?side1 ?side2 ?sideU A51.out).mono ?_); (case sideU => first | exact HU.out | exact Uni.up HU (Bu HB) | exact Uni.below HU.out (by assumption)); (case side1 => exact Cu (Kd.C_below HR256.out HB.out)); (case side2 => exact HC256.out); rintro e wz1 ⟨rfl, hb⟩; refine ⟨_, rfl, ?_⟩; have n0_ := Bs HB hb; clear HB; revert n0_; intro HB; (try clear hb); (try clear hb2); (try clear hk); (try clear hi)))
         go_ret
         exact ⟨by first | rfl | (simp [errW_none, errW_some] <;> rfl) | (simp only [← hji48]; first | rfl | (simp [errW_none, errW_some] <;> rfl)) | (simp [*, errW_none, errW_some] <;> rfl), Bu HB⟩
     ·rw [if_neg c17] at H
      exact absurd H (by simp)
    ·rw [if_neg c16] at H
     exact absurd H (by simp)

/-- THE ONE PURE STATEMENT of lanyardlaw01_CharsJoins: yours. -/
def lanyardlaw01_CharsJoins.Pure : Prop := ∀ (l0 : List Int) (l1 : List Int) (a2 : Int), l0.length ≤ maxLen → l0.length * 1 ≤ 140737488351232 → (∀ x ∈ l0, (Lit.int .u8 x).wf = true) → l1.length ≤ maxLen → l1.length * 1 ≤ 140737488351232 → (∀ x ∈ l1, (Lit.int .u8 x).wf = true) → (Lit.int .i64 a2).wf = true → ∃ k, lanyardlaw01_CharsJoins.f k l0 l1 a2 = some true
theorem lanyardlaw01_CharsJoins.walk (P : lanyardlaw01_CharsJoins.Pure) (a0 : Option Addr) (len0 cap0 : Nat) (z0 : List Int) (a1 : Option Addr) (len1 cap1 : Nat) (z1 : List Int) (a2 : Int) (w : World) (w0 : (a0 = none ∧ len0 = 0 ∧ cap0 = 0 ∧ z0 = []) ∨ ∃ x, a0 = some x ∧ len0 ≤ cap0 ∧ cap0 ≤ maxLen ∧ z0.length = cap0 ∧ (∀ i, i < z0.length → w.cell? (x.add i) = some (.int .u8 (z0.getD i 0))) ∧ ∀ n ∈ z0, (Lit.int .u8 n).wf = true) (y0 : len0 * 1 ≤ 140737488351232) (w1 : (a1 = none ∧ len1 = 0 ∧ cap1 = 0 ∧ z1 = []) ∨ ∃ x, a1 = some x ∧ len1 ≤ cap1 ∧ cap1 ≤ maxLen ∧ z1.length = cap1 ∧ (∀ i, i < z1.length → w.cell? (x.add i) = some (.int .u8 (z1.getD i 0))) ∧ ∀ n ∈ z1, (Lit.int .u8 n).wf = true) (y1 : len1 * 1 ≤ 140737488351232) (w2 : (Lit.int .i64 a2).wf = true) (hU : Uni w) :
  Calls Tryd.prog 5 #[.slice a0 len0 cap0, .slice a1 len1 cap1, .int .i64 a2] w fun e w' => e = .returned (.bool true) ∧ Below w.heap.size w w' := by
 obtain ⟨l0, rfl, hr0, hm0, hw0, hc0⟩ := ReadsInt.ofRowC w0
 obtain ⟨l1, rfl, hr1, hm1, hw1, hc1⟩ := ReadsInt.ofRowC w1
 obtain ⟨k, h⟩ := P l0 l1 a2 hm0 y0 hw0 hm1 y1 hw1 w2
 refine (lanyardlaw01_CharsJoins.calls k _ _ l0 _ _ l1 a2 true w (Kd.C_of_reads (d := (0 : Int)) (h1 := fun _ => rfl) hr0) hc0 (Kd.C_of_reads (d := (0 : Int)) (h1 := fun _ => rfl) hr1) hc1 hU h).mono ?_
 rintro e w' ⟨rfl, hd⟩
 exact ⟨rfl, hd⟩

end Go.Proofs.YthakidcnlkbbgaaDoor.Hp
