/- Go functions of this seat as Lean functions, and their contracts: what the Go code computes, for every input. (By hp.py, a program of this repo, over the kit's print.py.) -/
import Derived.Test.YthakidcnlkbbgaaDoorHp0
namespace Go.Proofs.YthakidcnlkbbgaaDoor.Hp
open Go.RowKit Go.Proofs.YthakidcnlkbbgaaDoorW.PrintWords Go.Proofs.YthakidcnlkbbgaaDoorW.PrintLast Go.Proofs.YthakidcnlkbbgaaDoorW.PrintMore
attribute [local go_sem] max2_int min2_int max_two min_two max_three min_three max_four min_four   -- for this text's walks alone
set_option linter.unusedVariables false
set_option linter.unusedSimpArgs false

/-! ### lanyardref01_One: function 24 -/
mutual
def lanyardref01_One.j0 : Nat → List Int → Int → Int → Int → Bool → Option (Int × Int)
 | 0, _, _, _, _, _ => none
 | k + 1, x0, x4, x5, x6, x23 => if x23 = true then (lanyardref01_One.j2 k x0 2 (wrap64 (x5 - 192)) 128) else (if x5 ≥ 224 then (lanyardref01_One.j1 k x0 x4 x5 x6 (decide (x5 < 240))) else (lanyardref01_One.j1 k x0 x4 x5 x6 false))
def lanyardref01_One.j2 : Nat → List Int → Int → Int → Int → Option (Int × Int)
 | 0, _, _, _, _ => none
 | k + 1, x0, x4, x5, x6 => if x4 = 0 then (lanyardref01_One.j3 k x0 x4 x5 x6 true) else (lanyardref01_One.j3 k x0 x4 x5 x6 (decide ((x0.length : Int) < x4)))
def lanyardref01_One.j3 : Nat → List Int → Int → Int → Int → Bool → Option (Int × Int)
 | 0, _, _, _, _, _ => none
 | k + 1, x0, x4, x5, x6, x49 => if x49 = true then (some (0, 0)) else (lanyardref01_One.l0 k x0 x4 x5 x6 1)
def lanyardref01_One.l0 : Nat → List Int → Int → Int → Int → Int → Option (Int × Int)
 | 0, _, _, _, _, _ => none
 | k + 1, x0, x4, x5, x6, x7 => if x7 < x4 then (if 0 ≤ x7 then (if x7 < (x0.length : Int) then (if (rd x0 x7) < 128 then (some (0, 0)) else (if (rd x0 x7) > 191 then (some (0, 0)) else (lanyardref01_One.l0 k x0 x4 (wrap64 ((wrap64 ((wrap64 (x5 * 64)) + (wrap64 (rd x0 x7)))) - 128)) x6 (wrap64 (x7 + 1))))) else (none)) else (none)) else (if x5 < x6 then (some (0, 0)) else (if x5 ≥ 55296 then (if x5 ≤ 57343 then (some (0, 0)) else (if x5 > 1114111 then (some (0, 0)) else (some (x5, x4)))) else (if x5 > 1114111 then (some (0, 0)) else (some (x5, x4)))))
def lanyardref01_One.j1 : Nat → List Int → Int → Int → Int → Bool → Option (Int × Int)
 | 0, _, _, _, _, _ => none
 | k + 1, x0, x4, x5, x6, x31 => if x31 = true then (lanyardref01_One.j2 k x0 3 (wrap64 (x5 - 224)) 2048) else (if x5 ≥ 240 then (if x5 < 248 then (lanyardref01_One.j2 k x0 4 (wrap64 (x5 - 240)) 65536) else (lanyardref01_One.j2 k x0 x4 x5 x6)) else (lanyardref01_One.j2 k x0 x4 x5 x6))
end
def lanyardref01_One.f (k : Nat) (l0 : List Int) : Option (Int × Int) := if (l0.length : Int) = 0 then (some (0, 0)) else (if 0 < (l0.length : Int) then (if (wrap64 (rd l0 0)) < 128 then (some (wrap64 (rd l0 0), 1)) else (if (wrap64 (rd l0 0)) ≥ 192 then (lanyardref01_One.j0 k l0 0 (wrap64 (rd l0 0)) 0 (decide ((wrap64 (rd l0 0)) < 224))) else (lanyardref01_One.j0 k l0 0 (wrap64 (rd l0 0)) 0 false))) else (none))
theorem lanyardref01_One.mono_l : ∀ k, (∀ y0 y1 y2 y3 y4, LeO (lanyardref01_One.j0 k y0 y1 y2 y3 y4) (lanyardref01_One.j0 (k + 1) y0 y1 y2 y3 y4)) ∧ (∀ y0 y1 y2 y3, LeO (lanyardref01_One.j2 k y0 y1 y2 y3) (lanyardref01_One.j2 (k + 1) y0 y1 y2 y3)) ∧ (∀ y0 y1 y2 y3 y4, LeO (lanyardref01_One.j3 k y0 y1 y2 y3 y4) (lanyardref01_One.j3 (k + 1) y0 y1 y2 y3 y4)) ∧ (∀ y0 y1 y2 y3 y4, LeO (lanyardref01_One.l0 k y0 y1 y2 y3 y4) (lanyardref01_One.l0 (k + 1) y0 y1 y2 y3 y4)) ∧ (∀ y0 y1 y2 y3 y4, LeO (lanyardref01_One.j1 k y0 y1 y2 y3 y4) (lanyardref01_One.j1 (k + 1) y0 y1 y2 y3 y4))
 | 0 => ⟨fun _ _ _ _ _ r h => by simp [lanyardref01_One.j0] at h, fun _ _ _ _ r h => by simp [lanyardref01_One.j2] at h, fun _ _ _ _ _ r h => by simp [lanyardref01_One.j3] at h, fun _ _ _ _ _ r h => by simp [lanyardref01_One.l0] at h, fun _ _ _ _ _ r h => by simp [lanyardref01_One.j1] at h⟩
 | k + 1 => by
  obtain ⟨ih0, ih1, ih2, ih3, ih4⟩ := lanyardref01_One.mono_l k
  refine ⟨?_, ?_, ?_, ?_, ?_⟩
  ·intro y0 y1 y2 y3 y4
   unfold lanyardref01_One.j0
   repeat' first
   | (with_reducible exact ih0 _ _ _ _ _)
   | (with_reducible exact ih1 _ _ _ _)
   | (with_reducible exact ih2 _ _ _ _ _)
   | (with_reducible exact ih3 _ _ _ _ _)
   | (with_reducible exact ih4 _ _ _ _ _)
   | (with_reducible exact LeO.refl _)
   | (with_reducible exact LeO.none _)
   | (with_reducible refine LeO.ite ?_ ?_)
   | (with_reducible refine LeO.bind ?_ (fun _ => ?_))
   | exact ih0 _ _ _ _ _
   | exact ih1 _ _ _ _
   | exact ih2 _ _ _ _ _
   | exact ih3 _ _ _ _ _
   | exact ih4 _ _ _ _ _
   | exact LeO.none _
   | refine LeO.ite ?_ ?_
   | refine LeO.bind ?_ (fun _ => ?_)
  ·intro y0 y1 y2 y3
   unfold lanyardref01_One.j2
   repeat' first
   | (with_reducible exact ih0 _ _ _ _ _)
   | (with_reducible exact ih1 _ _ _ _)
   | (with_reducible exact ih2 _ _ _ _ _)
   | (with_reducible exact ih3 _ _ _ _ _)
   | (with_reducible exact ih4 _ _ _ _ _)
   | (with_reducible exact LeO.refl _)
   | (with_reducible exact LeO.none _)
   | (with_reducible refine LeO.ite ?_ ?_)
   | (with_reducible refine LeO.bind ?_ (fun _ => ?_))
   | exact ih0 _ _ _ _ _
   | exact ih1 _ _ _ _
   | exact ih2 _ _ _ _ _
   | exact ih3 _ _ _ _ _
   | exact ih4 _ _ _ _ _
   | exact LeO.none _
   | refine LeO.ite ?_ ?_
   | refine LeO.bind ?_ (fun _ => ?_)
  ·intro y0 y1 y2 y3 y4
   unfold lanyardref01_One.j3
   repeat' first
   | (with_reducible exact ih0 _ _ _ _ _)
   | (with_reducible exact ih1 _ _ _ _)
   | (with_reducible exact ih2 _ _ _ _ _)
   | (with_reducible exact ih3 _ _ _ _ _)
   | (with_reducible exact ih4 _ _ _ _ _)
   | (with_reducible exact LeO.refl _)
   | (with_reducible exact LeO.none _)
   | (with_reducible refine LeO.ite ?_ ?_)
   | (with_reducible refine LeO.bind ?_ (fun _ => ?_))
   | exact ih0 _ _ _ _ _
   | exact ih1 _ _ _ _
   | exact ih2 _ _ _ _ _
   | exact ih3 _ _ _ _ _
   | exact ih4 _ _ _ _ _
   | exact LeO.none _
   | refine LeO.ite ?_ ?_
   | refine LeO.bind ?_ (fun _ => ?_)
  ·intro y0 y1 y2 y3 y4
   unfold lanyardref01_One.l0
   repeat' first
   | (with_reducible exact ih0 _ _ _ _ _)
   | (with_reducible exact ih1 _ _ _ _)
   | (with_reducible exact ih2 _ _ _ _ _)
   | (with_reducible exact ih3 _ _ _ _ _)
   | (with_reducible exact ih4 _ _ _ _ _)
   | (with_reducible exact LeO.refl _)
   | (with_reducible exact LeO.none _)
   | (with_reducible refine LeO.ite ?_ ?_)
   | (with_reducible refine LeO.bind ?_ (fun _ => ?_))
   | exact ih0 _ _ _ _ _
   | exact ih1 _ _ _ _
   | exact ih2 _ _ _ _ _
   | exact ih3 _ _ _ _ _
   | exact ih4 _ _ _ _ _
   | exact LeO.none _
   | refine LeO.ite ?_ ?_
   | refine LeO.bind ?_ (fun _ => ?_)
  ·intro y0 y1 y2 y3 y4
   unfold lanyardref01_One.j1
   repeat' first
   | (with_reducible exact ih0 _ _ _ _ _)
   | (with_reducible exact ih1 _ _ _ _)
   | (with_reducible exact ih2 _ _ _ _ _)
   | (with_reducible exact ih3 _ _ _ _ _)
   | (with_reducible exact ih4 _ _ _ _ _)
   | (with_reducible exact LeO.refl _)
   | (with_reducible exact LeO.none _)
   | (with_reducible refine LeO.ite ?_ ?_)
   | (with_reducible refine LeO.bind ?_ (fun _ => ?_))
   | exact ih0 _ _ _ _ _
   | exact ih1 _ _ _ _
   | exact ih2 _ _ _ _ _
   | exact ih3 _ _ _ _ _
   | exact ih4 _ _ _ _ _
   | exact LeO.none _
   | refine LeO.ite ?_ ?_
   | refine LeO.bind ?_ (fun _ => ?_)
theorem lanyardref01_One.mono : ∀ a0 k, LeO (lanyardref01_One.f k a0) (lanyardref01_One.f (k + 1) a0) := by
 intro a0 k
 obtain ⟨ih0, ih1, ih2, ih3, ih4⟩ := lanyardref01_One.mono_l k
 unfold lanyardref01_One.f
 repeat' first
   | (with_reducible exact ih0 _ _ _ _ _)
   | (with_reducible exact ih1 _ _ _ _)
   | (with_reducible exact ih2 _ _ _ _ _)
   | (with_reducible exact ih3 _ _ _ _ _)
   | (with_reducible exact ih4 _ _ _ _ _)
   | (with_reducible exact LeO.refl _)
   | (with_reducible exact LeO.none _)
   | (with_reducible refine LeO.ite ?_ ?_)
   | (with_reducible refine LeO.bind ?_ (fun _ => ?_))
   | exact ih0 _ _ _ _ _
   | exact ih1 _ _ _ _
   | exact ih2 _ _ _ _ _
   | exact ih3 _ _ _ _ _
   | exact ih4 _ _ _ _ _
   | exact LeO.none _
   | refine LeO.ite ?_ ?_
   | refine LeO.bind ?_ (fun _ => ?_)
set_option maxHeartbeats 8000000 in
set_option maxRecDepth 100000 in
theorem lanyardref01_One.calls (k : Nat) (A0 : Option Addr) (c0 : Nat) (l0 : List Int) (r1 : Int) (r2 : Int) (w : World) (hr0 : Kd.C (Kd.int .u8) w A0 l0.length l0) (hc0 : l0.length ≤ c0) (h : lanyardref01_One.f k l0 = some (r1, r2)) :
  Calls Tryd.prog 24 #[.slice A0 l0.length c0] w fun e w' => e = .returned (.tuple #[.int .i64 r1, .int .i64 r2]) ∧ Drawn0 w w' := by
 have HR0 := Aside0.mk hr0
 have HC0 := Aside0.mk hc0
 clear hr0 hc0
 have H : (if (l0.length : Int) = 0 then (some (0, 0)) else (if 0 < (l0.length : Int) then (if (wrap64 (rd l0 0)) < 128 then (some (wrap64 (rd l0 0), 1)) else (if (wrap64 (rd l0 0)) ≥ 192 then (lanyardref01_One.j0 k l0 0 (wrap64 (rd l0 0)) 0 (decide ((wrap64 (rd l0 0)) < 224))) else (lanyardref01_One.j0 k l0 0 (wrap64 (rd l0 0)) 0 false))) else (none))) = some (r1, r2) := h
 clear h
 refine (Classical.em ((l0.length : Int) = 0)).elim (fun c2 => ?a4_) (fun c2 => ?b4_)
 case' a4_ =>
  rw [if_pos c2] at H
  have c2b0 : ((l0.length : Int) == 0) = true := beq_iff_eq.mpr c2
  have c2b1 : ((l0.length : Int) != 0) = false := bne_eq_false_iff_eq.mpr c2
  clear c2
  simp only [Option.some.injEq, Prod.mk.injEq] at H
  obtain ⟨rfl, rfl⟩ := H
 case' b4_ =>
  rw [if_neg c2] at H
  have c2b0 : ((l0.length : Int) == 0) = false := beq_eq_false_iff_ne.mpr c2
  have c2b1 : ((l0.length : Int) != 0) = true := bne_iff_ne.mpr c2
  have c2b2 : ¬ (l0 = []) := fun h_ => c2 (by rw [h_]; rfl)
  refine (Classical.em (0 < (l0.length : Int))).elim (fun c3 => ?a5_) (fun c3 => ?b5_)
  case' a5_ =>
   rw [if_pos c3] at H
   have c3b0 : decide (0 < (l0.length : Int)) = true := decide_eq_true c3
   have c3b1 : decide (0 < l0.length) = true := decide_eq_true (by omega)
   clear c3
   refine (Classical.em ((wrap64 (rd l0 0)) < 128)).elim (fun c4 => ?a6_) (fun c4 => ?b6_)
   case' a6_ =>
    rw [if_pos c4] at H
    have c4b0 : decide ((wrap64 (rd l0 0)) < 128) = true := decide_eq_true c4
    clear c4
    simp only [Option.some.injEq, Prod.mk.injEq] at H
    obtain ⟨rfl, rfl⟩ := H
    have p152 : 0 ≤ (0 : Int) := (by omega)
    have q152 : 0 < (l0.length : Int) := of_decide_eq_true (by first | (with_reducible assumption) | assumption)
    obtain ⟨ad152, e152, hx152_0⟩ := Kd.at_int HR0.out 0 p152 q152
    cases e152
    have qi152 : (0 < l0.length) = True := eq_true (by omega)
    (try rw [show ((0 : Int)).toNat = 0 from rfl] at hx152_0)
    (try rw [Addr.add_zero'] at hx152_0)
    replace p152 := eq_true p152
    replace q152 := eq_true q152
   case' b6_ =>
    rw [if_neg c4] at H
    have c4b0 : decide ((wrap64 (rd l0 0)) < 128) = false := decide_eq_false c4
    clear c4
    have HC5 := Aside0.mk H
    clear H
    have p152 : 0 ≤ (0 : Int) := (by omega)
    have q152 : 0 < (l0.length : Int) := of_decide_eq_true (by first | (with_reducible assumption) | assumption)
    obtain ⟨ad152, e152, hx152_0⟩ := Kd.at_int HR0.out 0 p152 q152
    cases e152
    have qi152 : (0 < l0.length) = True := eq_true (by omega)
    (try rw [show ((0 : Int)).toNat = 0 from rfl] at hx152_0)
    (try rw [Addr.add_zero'] at hx152_0)
    replace p152 := eq_true p152
    replace q152 := eq_true q152
    go_enter Tryd.func24, Tryd.ntmps24
    go_upto_region 8 with (fail)
    go_cut [23] (fun v23 wc => ∃ (kq : Nat) (x23_4 : Bool), v23 = .bool x23_4 ∧ Aside0 (lanyardref01_One.j0 kq l0 0 (wrap64 (rd l0 0)) 0 x23_4 = some (r1, r2)) ∧ Aside0 (kq ≤ k) ∧ Drawn0 w wc)
    case first =>
     have H := HC5.out
     clear HC5
     by_cases c6 : (wrap64 (rd l0 0)) ≥ 192
     ·rw [if_pos c6] at H
      have c6b0 : decide (192 ≤ (wrap64 (rd l0 0))) = true := decide_eq_true c6
      clear c6
      (first | rw [c6b0] | (simp only [i64_w, i32_w]; rw [c6b0]) | skip)
      have H' := Aside0.mk H
      clear H
      go_wp2
      go_meet
      case rel => exact ⟨_, (decide ((wrap64 (rd l0 0)) < 224)), (by first | rfl | (simp; done) | (simp [*]; done)), H', ⟨by first | omega | exact Nat.le_refl _⟩, by repeat (first | exact Drawn0.refl _ | apply Drawn0.step)⟩
     ·rw [if_neg c6] at H
      have c6b0 : decide (192 ≤ (wrap64 (rd l0 0))) = false := decide_eq_false c6
      clear c6
      (first | rw [c6b0] | (simp only [i64_w, i32_w]; rw [c6b0]) | skip)
      have H' := Aside0.mk H
      clear H
      go_wp2
      go_meet
      case rel => exact ⟨_, (false), (by first | rfl | (simp; done) | (simp [*]; done)), H', ⟨by first | omega | exact Nat.le_refl _⟩, by repeat (first | exact Drawn0.refl _ | apply Drawn0.step)⟩
    case rest =>
     clear HC5
     try clear p1
     try clear q1
     try clear hx1
     try clear qi1
     try clear c2
     try clear c2b0
     try clear c2b1
     try clear c2b2
     try clear p2
     try clear c3
     try clear c3b0
     try clear c3b1
     try clear c4
     try clear c4b0
     try clear c6
     try clear c6b0
     try clear p6
     try clear hx152_0
     try clear p152
     try clear q152
     obtain ⟨kq, x23_4, rfl, HA, HJ4, ⟨mc4, rfl⟩⟩ := hcut
     cases kq with
     | zero => exact absurd HA.out (by simp [lanyardref01_One.j0])
     | succ kj4 =>
      have H := HA.out
      clear HA
      simp only [lanyardref01_One.j0] at H
      have HC7 := Aside0.mk H
      clear H
      go_upto_if 23 with (fail)
      go_cut [4, 5, 6] (fun v4 v5 v6 wc => ∃ (kq : Nat) (x4_6 : Int) (x5_6 : Int) (x6_6 : Int), v4 = .int .i64 x4_6 ∧ v5 = .int .i64 x5_6 ∧ v6 = .int .i64 x6_6 ∧ Aside0 (lanyardref01_One.j2 kq l0 x4_6 x5_6 x6_6 = some (r1, r2)) ∧ Aside0 (kq ≤ kj4) ∧ Drawn0 w wc)
      case first =>
       have H := HC7.out
       clear HC7
       by_cases c8 : x23_4 = true
       ·subst c8
        have H1 : (lanyardref01_One.j2 kj4 l0 2 (wrap64 ((wrap64 (rd l0 0)) - 192)) 128) = some (r1, r2) := by rw [if_pos rfl] at H; exact H
        clear H
        have H := H1
        clear H1
        have H' := Aside0.mk H
        clear H
        go_wp2
        go_meet
        case rel => exact ⟨_, (2), (wrap64 ((wrap64 (rd l0 0)) - 192)), (128), (by first | rfl | (simp; done) | (simp [*]; done)), (by first | rfl | (simp; done) | (simp [*]; done)), (by first | rfl | (simp; done) | (simp [*]; done)), H', ⟨by have := HJ4.out; first | omega | exact Nat.le_refl _⟩, by repeat (first | exact Drawn0.refl _ | apply Drawn0.step)⟩
       ·replace c8 := Bool.eq_false_iff.mpr c8
        subst c8
        have H1 : (if (wrap64 (rd l0 0)) ≥ 224 then (lanyardref01_One.j1 kj4 l0 0 (wrap64 (rd l0 0)) 0 (decide ((wrap64 (rd l0 0)) < 240))) else (lanyardref01_One.j1 kj4 l0 0 (wrap64 (rd l0 0)) 0 false)) = some (r1, r2) := by rw [if_neg (show ¬ (false = true) by decide)] at H; exact H
        clear H
        have H := H1
        clear H1
        have HC9 := Aside0.mk H
        clear H
        go_upto_region 12 with (fail)
        go_cut [31] (fun v31 wc => ∃ (kq : Nat) (x31_8 : Bool), v31 = .bool x31_8 ∧ Aside0 (lanyardref01_One.j1 kq l0 0 (wrap64 (rd l0 0)) 0 x31_8 = some (r1, r2)) ∧ Aside0 (kq ≤ kj4) ∧ Drawn0 w wc)
        case first =>
         have H := HC9.out
         clear HC9
         by_cases c10 : (wrap64 (rd l0 0)) ≥ 224
         ·rw [if_pos c10] at H
          have c10b0 : decide (224 ≤ (wrap64 (rd l0 0))) = true := decide_eq_true c10
          clear c10
          (first | rw [c10b0] | (simp only [i64_w, i32_w]; rw [c10b0]) | skip)
          have H' := Aside0.mk H
          clear H
          go_wp2
          go_meet
          case rel => exact ⟨_, (decide ((wrap64 (rd l0 0)) < 240)), (by first | rfl | (simp; done) | (simp [*]; done)), H', ⟨by have := HJ4.out; first | omega | exact Nat.le_refl _⟩, by repeat (first | exact Drawn0.refl _ | apply Drawn0.step)⟩
         ·rw [if_neg c10] at H
          have c10b0 : decide (224 ≤ (wrap64 (rd l0 0))) = false := decide_eq_false c10
          clear c10
          (first | rw [c10b0] | (simp only [i64_w, i32_w]; rw [c10b0]) | skip)
          have H' := Aside0.mk H
          clear H
          go_wp2
          go_meet
          case rel => exact ⟨_, (false), (by first | rfl | (simp; done) | (simp [*]; done)), H', ⟨by have := HJ4.out; first | omega | exact Nat.le_refl _⟩, by repeat (first | exact Drawn0.refl _ | apply Drawn0.step)⟩
        case rest =>
         clear HC9
         try clear c1
         try clear p1
         try clear q1
         try clear hx1
         try clear qi1
         try clear c2
         try clear c2b0
         try clear c2b1
         try clear c2b2
         try clear p2
         try clear c3
         try clear c3b0
         try clear c3b1
         try clear c4
         try clear c4b0
         try clear c6
         try clear c6b0
         try clear p6
         try clear c8
         try clear c10
         try clear c10b0
         try clear hx152_0
         try clear p1
         try clear p152
         try clear p2
         try clear p6
         try clear q1
         try clear q152
         obtain ⟨kq, x31_8, rfl, HA, HJ8, ⟨mc8, rfl⟩⟩ := hcut
         cases kq with
         | zero => exact absurd HA.out (by simp [lanyardref01_One.j1])
         | succ kj8 =>
          have H := HA.out
          clear HA
          simp only [lanyardref01_One.j1] at H
          by_cases c11 : x31_8 = true
          ·subst c11
           have H1 : (lanyardref01_One.j2 kj8 l0 3 (wrap64 ((wrap64 (rd l0 0)) - 224)) 2048) = some (r1, r2) := by rw [if_pos rfl] at H; exact H
           clear H
           have H := H1
           clear H1
           have H' := Aside0.mk H
           clear H
           go_wp2
           go_meet
           case rel => exact ⟨_, (3), (wrap64 ((wrap64 (rd l0 0)) - 224)), (2048), (by first | rfl | (simp; done) | (simp [*]; done)), (by first | rfl | (simp; done) | (simp [*]; done)), (by first | rfl | (simp; done) | (simp [*]; done)), H', ⟨by have := HJ4.out; have := HJ8.out; first | omega | exact Nat.le_refl _⟩, by repeat (first | exact Drawn0.refl _ | apply Drawn0.step)⟩
          ·replace c11 := Bool.eq_false_iff.mpr c11
           subst c11
           have H1 : (if (wrap64 (rd l0 0)) ≥ 240 then (if (wrap64 (rd l0 0)) < 248 then (lanyardref01_One.j2 kj8 l0 4 (wrap64 ((wrap64 (rd l0 0)) - 240)) 65536) else (lanyardref01_One.j2 kj8 l0 0 (wrap64 (rd l0 0)) 0)) else (lanyardref01_One.j2 kj8 l0 0 (wrap64 (rd l0 0)) 0)) = some (r1, r2) := by rw [if_neg (show ¬ (false = true) by decide)] at H; exact H
           clear H
           have H := H1
           clear H1
           by_cases c12 : (wrap64 (rd l0 0)) ≥ 240
           ·rw [if_pos c12] at H
            have c12b0 : decide (240 ≤ (wrap64 (rd l0 0))) = true := decide_eq_true c12
            clear c12
            by_cases c13 : (wrap64 (rd l0 0)) < 248
            ·rw [if_pos c13] at H
             have c13b0 : decide ((wrap64 (rd l0 0)) < 248) = true := decide_eq_true c13
             clear c13
             have H' := Aside0.mk H
             clear H
             go_wp2
             go_meet
             case rel => exact ⟨_, (4), (wrap64 ((wrap64 (rd l0 0)) - 240)), (65536), (by first | rfl | (simp; done) | (simp [*]; done)), (by first | rfl | (simp; done) | (simp [*]; done)), (by first | rfl | (simp; done) | (simp [*]; done)), H', ⟨by have := HJ4.out; have := HJ8.out; first | omega | exact Nat.le_refl _⟩, by repeat (first | exact Drawn0.refl _ | apply Drawn0.step)⟩
            ·rw [if_neg c13] at H
             have c13b0 : decide ((wrap64 (rd l0 0)) < 248) = false := decide_eq_false c13
             clear c13
             have H' := Aside0.mk H
             clear H
             go_wp2
             go_meet
             case rel => exact ⟨_, (0), ((wrap64 (rd l0 0))), (0), (by first | rfl | (simp; done) | (simp [*]; done)), (by first | rfl | (simp; done) | (simp [*]; done)), (by first | rfl | (simp; done) | (simp [*]; done)), H', ⟨by have := HJ4.out; have := HJ8.out; first | omega | exact Nat.le_refl _⟩, by repeat (first | exact Drawn0.refl _ | apply Drawn0.step)⟩
           ·rw [if_neg c12] at H
            have c12b0 : decide (240 ≤ (wrap64 (rd l0 0))) = false := decide_eq_false c12
            clear c12
            have H' := Aside0.mk H
            clear H
            go_wp2
            go_meet
            case rel => exact ⟨_, (0), ((wrap64 (rd l0 0))), (0), (by first | rfl | (simp; done) | (simp [*]; done)), (by first | rfl | (simp; done) | (simp [*]; done)), (by first | rfl | (simp; done) | (simp [*]; done)), H', ⟨by have := HJ4.out; have := HJ8.out; first | omega | exact Nat.le_refl _⟩, by repeat (first | exact Drawn0.refl _ | apply Drawn0.step)⟩
      case rest =>
       clear HC7
       try clear c1
       try clear p1
       try clear q1
       try clear hx1
       try clear qi1
       try clear c2
       try clear c2b0
       try clear c2b1
       try clear c2b2
       try clear p2
       try clear c3
       try clear c3b0
       try clear c3b1
       try clear c4
       try clear c4b0
       try clear c6
       try clear c6b0
       try clear p6
       try clear c8
       try clear c10
       try clear c10b0
       try clear c11
       try clear c12
       try clear c12b0
       try clear c13
       try clear c13b0
       try clear hx152_0
       try clear p1
       try clear p152
       try clear p2
       try clear p6
       try clear q1
       try clear q152
       obtain ⟨kq, x4_6, x5_6, x6_6, rfl, rfl, rfl, HA, HJ6, ⟨mc6, rfl⟩⟩ := hcut
       cases kq with
       | zero => exact absurd HA.out (by simp [lanyardref01_One.j2])
       | succ kj6 =>
        have H := HA.out
        clear HA
        simp only [lanyardref01_One.j2] at H
        have HC14 := Aside0.mk H
        clear H
        go_upto_region 20 with (fail)
        go_cut [49] (fun v49 wc => ∃ (kq : Nat) (x49_13 : Bool), v49 = .bool x49_13 ∧ Aside0 (lanyardref01_One.j3 kq l0 x4_6 x5_6 x6_6 x49_13 = some (r1, r2)) ∧ Aside0 (kq ≤ kj6) ∧ Drawn0 w wc)
        case first =>
         have H := HC14.out
         clear HC14
         by_cases c15 : x4_6 = 0
         ·rw [if_pos c15] at H
          have c15b0 : (x4_6 == 0) = true := beq_iff_eq.mpr c15
          have c15b1 : (x4_6 != 0) = false := bne_eq_false_iff_eq.mpr c15
          clear c15
          (first | rw [c15b0] | (simp only [i64_w, i32_w]; rw [c15b0]) | skip)
          have H' := Aside0.mk H
          clear H
          go_wp2
          go_meet
          case rel => exact ⟨_, (true), (by first | rfl | (simp; done) | (simp [*]; done)), H', ⟨by have := HJ4.out; have := HJ6.out; first | omega | exact Nat.le_refl _⟩, by repeat (first | exact Drawn0.refl _ | apply Drawn0.step)⟩
         ·rw [if_neg c15] at H
          have c15b0 : (x4_6 == 0) = false := beq_eq_false_iff_ne.mpr c15
          have c15b1 : (x4_6 != 0) = true := bne_iff_ne.mpr c15
          (first | rw [c15b0] | (simp only [i64_w, i32_w]; rw [c15b0]) | skip)
          have H' := Aside0.mk H
          clear H
          go_wp2
          go_meet
          case rel => exact ⟨_, (decide ((l0.length : Int) < x4_6)), (by first | rfl | (simp; done) | (simp [*]; done)), H', ⟨by have := HJ4.out; have := HJ6.out; first | omega | exact Nat.le_refl _⟩, by repeat (first | exact Drawn0.refl _ | apply Drawn0.step)⟩
        case rest =>
         clear HC14
         try clear c1
         try clear p1
         try clear q1
         try clear hx1
         try clear qi1
         try clear c2
         try clear c2b0
         try clear c2b1
         try clear c2b2
         try clear p2
         try clear c3
         try clear c3b0
         try clear c3b1
         try clear c4
         try clear c4b0
         try clear c6
         try clear c6b0
         try clear p6
         try clear c8
         try clear c10
         try clear c10b0
         try clear c11
         try clear c12
         try clear c12b0
         try clear c13
         try clear c13b0
         try clear c15
         try clear c15b0
         try clear c15b1
         try clear p15
         try clear q15
         try clear hx15
         try clear qi15
         try clear hx152_0
         try clear p1
         try clear p152
         try clear p2
         try clear p6
         try clear q1
         try clear q152
         obtain ⟨kq, x49_13, rfl, HA, HJ13, ⟨mc13, rfl⟩⟩ := hcut
         cases kq with
         | zero => exact absurd HA.out (by simp [lanyardref01_One.j3])
         | succ kj13 =>
          have H := HA.out
          clear HA
          simp only [lanyardref01_One.j3] at H
          by_cases c16 : x49_13 = true
          ·subst c16
           have H1 : (some (0, 0)) = some (r1, r2) := by rw [if_pos rfl] at H; exact H
           clear H
           have H := H1
           clear H1
           simp only [Option.some.injEq, Prod.mk.injEq] at H
           obtain ⟨rfl, rfl⟩ := H
           go_wp2
           go_ret2
           exact ⟨by first | rfl | (simp; done) | (simp [*]; done), by repeat (first | exact Drawn0.refl _ | apply Drawn0.step)⟩
          ·replace c16 := Bool.eq_false_iff.mpr c16
           subst c16
           have H1 : (lanyardref01_One.l0 kj13 l0 x4_6 x5_6 x6_6 1) = some (r1, r2) := by rw [if_neg (show ¬ (false = true) by decide)] at H; exact H
           clear H
           have H := H1
           clear H1
           have H' := Aside0.mk H
           clear H
           go_wp2
           go_loopg [5, 7] kj13 (fun kq v5 v7 w' => ∃ (x5_4 : Int) (x7_4 : Int), v5 = .int .i64 x5_4 ∧ v7 = .int .i64 x7_4 ∧ Aside0 (lanyardref01_One.l0 kq l0 x4_6 x5_4 x6_6 x7_4 = some (r1, r2)) ∧ Aside0 (kq ≤ kj13) ∧ Drawn0 w w')
           case atStart => exact ⟨(x5_6), (1), (by first | rfl | (simp; done) | (simp [*]; done)), (by first | rfl | (simp; done) | (simp [*]; done)), H', ⟨Nat.le_refl _⟩, by repeat (first | exact Drawn0.refl _ | apply Drawn0.step)⟩
           case round =>
            clear H'
            try clear c1
            try clear p1
            try clear q1
            try clear hx1
            try clear qi1
            try clear c2
            try clear c2b0
            try clear c2b1
            try clear c2b2
            try clear p2
            try clear c3
            try clear c3b0
            try clear c3b1
            try clear c4
            try clear c4b0
            try clear c6
            try clear c6b0
            try clear p6
            try clear c8
            try clear c10
            try clear c10b0
            try clear c11
            try clear c12
            try clear c12b0
            try clear c13
            try clear c13b0
            try clear c15
            try clear c15b0
            try clear c15b1
            try clear p15
            try clear q15
            try clear hx15
            try clear qi15
            try clear c16
            try clear hx152_0
            try clear p1
            try clear p15
            try clear p152
            try clear p2
            try clear p6
            try clear q1
            try clear q15
            try clear q152
            obtain ⟨x5_4, x7_4, rfl, rfl, HA, HK4, ⟨m4, rfl⟩⟩ := hrel
            cases gk with
            | zero => exact absurd HA.out (by simp [lanyardref01_One.l0])
            | succ k4 =>
             have H := HA.out
             clear HA
             simp only [lanyardref01_One.l0] at H
             by_cases c17 : x7_4 < x4_6
             ·rw [if_pos c17] at H
              have c17b0 : decide (x7_4 < x4_6) = true := decide_eq_true c17
              clear c17
              by_cases c18 : 0 ≤ x7_4
              ·rw [if_pos c18] at H
               have c18b0 : decide (0 ≤ x7_4) = true := decide_eq_true c18
               clear c18
               by_cases c19 : x7_4 < (l0.length : Int)
               ·rw [if_pos c19] at H
                have c19b0 : decide (x7_4 < (l0.length : Int)) = true := decide_eq_true c19
                clear c19
                by_cases c20 : (rd l0 x7_4) < 128
                ·rw [if_pos c20] at H
                 have c20b0 : decide ((rd l0 x7_4) < 128) = true := decide_eq_true c20
                 clear c20
                 simp only [Option.some.injEq, Prod.mk.injEq] at H
                 obtain ⟨rfl, rfl⟩ := H
                 have p153 : 0 ≤ (x7_4 : Int) := of_decide_eq_true (by first | (with_reducible assumption) | assumption)
                 have q153 : x7_4 < (l0.length : Int) := of_decide_eq_true (by first | (with_reducible assumption) | assumption)
                 obtain ⟨ad153, e153, hx153_0⟩ := Kd.at_int HR0.out x7_4 p153 q153
                 obtain rfl : ad152 = ad153 := (by injection e153)
                 replace p153 := eq_true p153
                 replace q153 := eq_true q153
                 go_wp2
                 go_ret2
                 exact ⟨by first | rfl | (simp; done) | (simp [*]; done), by repeat (first | exact Drawn0.refl _ | apply Drawn0.step)⟩
                ·rw [if_neg c20] at H
                 have c20b0 : decide ((rd l0 x7_4) < 128) = false := decide_eq_false c20
                 clear c20
                 by_cases c21 : (rd l0 x7_4) > 191
                 ·rw [if_pos c21] at H
                  have c21b0 : decide (191 < (rd l0 x7_4)) = true := decide_eq_true c21
                  clear c21
                  simp only [Option.some.injEq, Prod.mk.injEq] at H
                  obtain ⟨rfl, rfl⟩ := H
                  have p153 : 0 ≤ (x7_4 : Int) := of_decide_eq_true (by first | (with_reducible assumption) | assumption)
                  have q153 : x7_4 < (l0.length : Int) := of_decide_eq_true (by first | (with_reducible assumption) | assumption)
                  obtain ⟨ad153, e153, hx153_0⟩ := Kd.at_int HR0.out x7_4 p153 q153
                  obtain rfl : ad152 = ad153 := (by injection e153)
                  replace p153 := eq_true p153
                  replace q153 := eq_true q153
                  have p154 : 0 ≤ (x7_4 : Int) := of_decide_eq_true (by first | (with_reducible assumption) | assumption)
                  have q154 : x7_4 < (l0.length : Int) := of_decide_eq_true (by first | (with_reducible assumption) | assumption)
                  obtain ⟨ad154, e154, hx154_0⟩ := Kd.at_int HR0.out x7_4 p154 q154
                  obtain rfl : ad152 = ad154 := (by injection e154)
                  replace p154 := eq_true p154
                  replace q154 := eq_true q154
                  go_wp2
                  go_ret2
                  exact ⟨by first | rfl | (simp; done) | (simp [*]; done), by repeat (first | exact Drawn0.refl _ | apply Drawn0.step)⟩
                 ·rw [if_neg c21] at H
                  have c21b0 : decide (191 < (rd l0 x7_4)) = false := decide_eq_false c21
                  clear c21
                  have H' := Aside0.mk H
                  clear H
                  have p153 : 0 ≤ (x7_4 : Int) := of_decide_eq_true (by first | (with_reducible assumption) | assumption)
                  have q153 : x7_4 < (l0.length : Int) := of_decide_eq_true (by first | (with_reducible assumption) | assumption)
                  obtain ⟨ad153, e153, hx153_0⟩ := Kd.at_int HR0.out x7_4 p153 q153
                  obtain rfl : ad152 = ad153 := (by injection e153)
                  replace p153 := eq_true p153
                  replace q153 := eq_true q153
                  have p154 : 0 ≤ (x7_4 : Int) := of_decide_eq_true (by first | (with_reducible assumption) | assumption)
                  have q154 : x7_4 < (l0.length : Int) := of_decide_eq_true (by first | (with_reducible assumption) | assumption)
                  obtain ⟨ad154, e154, hx154_0⟩ := Kd.at_int HR0.out x7_4 p154 q154
                  obtain rfl : ad152 = ad154 := (by injection e154)
                  replace p154 := eq_true p154
                  replace q154 := eq_true q154
                  have p155 : 0 ≤ (x7_4 : Int) := of_decide_eq_true (by first | (with_reducible assumption) | assumption)
                  have q155 : x7_4 < (l0.length : Int) := of_decide_eq_true (by first | (with_reducible assumption) | assumption)
                  obtain ⟨ad155, e155, hx155_0⟩ := Kd.at_int HR0.out x7_4 p155 q155
                  obtain rfl : ad152 = ad155 := (by injection e155)
                  replace p155 := eq_true p155
                  replace q155 := eq_true q155
                  go_wp2
                  go_roundg k4
                  case measure => have := HJ4.out; have := HJ6.out; have := HJ13.out; have := HK4.out; omega
                  case rel => exact ⟨(wrap64 ((wrap64 ((wrap64 (x5_4 * 64)) + (wrap64 (rd l0 x7_4)))) - 128)), (wrap64 (x7_4 + 1)), (by first | rfl | (simp; done) | (simp [*]; done)), (by first | rfl | (simp; done) | (simp [*]; done)), H', ⟨by have := HJ4.out; have := HJ6.out; have := HJ13.out; have := HK4.out; omega⟩, by repeat (first | exact Drawn0.refl _ | apply Drawn0.step)⟩
               ·rw [if_neg c19] at H
                exact absurd H (by simp)
              ·rw [if_neg c18] at H
               exact absurd H (by simp)
             ·rw [if_neg c17] at H
              have c17b0 : decide (x7_4 < x4_6) = false := decide_eq_false c17
              clear c17
              by_cases c22 : x5_4 < x6_6
              ·rw [if_pos c22] at H
               have c22b0 : decide (x5_4 < x6_6) = true := decide_eq_true c22
               clear c22
               simp only [Option.some.injEq, Prod.mk.injEq] at H
               obtain ⟨rfl, rfl⟩ := H
               go_wp2
               go_ret2
               exact ⟨by first | rfl | (simp; done) | (simp [*]; done), by repeat (first | exact Drawn0.refl _ | apply Drawn0.step)⟩
              ·rw [if_neg c22] at H
               have c22b0 : decide (x5_4 < x6_6) = false := decide_eq_false c22
               clear c22
               by_cases c23 : x5_4 ≥ 55296
               ·rw [if_pos c23] at H
                have c23b0 : decide (55296 ≤ x5_4) = true := decide_eq_true c23
                clear c23
                by_cases c24 : x5_4 ≤ 57343
                ·rw [if_pos c24] at H
                 have c24b0 : decide (x5_4 ≤ 57343) = true := decide_eq_true c24
                 clear c24
                 simp only [Option.some.injEq, Prod.mk.injEq] at H
                 obtain ⟨rfl, rfl⟩ := H
                 go_wp2
                 go_ret2
                 exact ⟨by first | rfl | (simp; done) | (simp [*]; done), by repeat (first | exact Drawn0.refl _ | apply Drawn0.step)⟩
                ·rw [if_neg c24] at H
                 have c24b0 : decide (x5_4 ≤ 57343) = false := decide_eq_false c24
                 clear c24
                 by_cases c25 : x5_4 > 1114111
                 ·rw [if_pos c25] at H
                  have c25b0 : decide (1114111 < x5_4) = true := decide_eq_true c25
                  clear c25
                  simp only [Option.some.injEq, Prod.mk.injEq] at H
                  obtain ⟨rfl, rfl⟩ := H
                  go_wp2
                  go_ret2
                  exact ⟨by first | rfl | (simp; done) | (simp [*]; done), by repeat (first | exact Drawn0.refl _ | apply Drawn0.step)⟩
                 ·rw [if_neg c25] at H
                  have c25b0 : decide (1114111 < x5_4) = false := decide_eq_false c25
                  clear c25
                  simp only [Option.some.injEq, Prod.mk.injEq] at H
                  obtain ⟨rfl, rfl⟩ := H
                  go_wp2
                  go_ret2
                  exact ⟨by first | rfl | (simp; done) | (simp [*]; done), by repeat (first | exact Drawn0.refl _ | apply Drawn0.step)⟩
               ·rw [if_neg c23] at H
                have c23b0 : decide (55296 ≤ x5_4) = false := decide_eq_false c23
                clear c23
                by_cases c26 : x5_4 > 1114111
                ·rw [if_pos c26] at H
                 have c26b0 : decide (1114111 < x5_4) = true := decide_eq_true c26
                 clear c26
                 simp only [Option.some.injEq, Prod.mk.injEq] at H
                 obtain ⟨rfl, rfl⟩ := H
                 go_wp2
                 go_ret2
                 exact ⟨by first | rfl | (simp; done) | (simp [*]; done), by repeat (first | exact Drawn0.refl _ | apply Drawn0.step)⟩
                ·rw [if_neg c26] at H
                 have c26b0 : decide (1114111 < x5_4) = false := decide_eq_false c26
                 clear c26
                 simp only [Option.some.injEq, Prod.mk.injEq] at H
                 obtain ⟨rfl, rfl⟩ := H
                 go_wp2
                 go_ret2
                 exact ⟨by first | rfl | (simp; done) | (simp [*]; done), by repeat (first | exact Drawn0.refl _ | apply Drawn0.step)⟩
  case' b5_ =>
   rw [if_neg c3] at H
   exact absurd H (by simp)

 case a4_ | b4_ =>
  go_enter Tryd.func24, Tryd.ntmps24
  go_wp2
  go_ret2
  exact ⟨by first | rfl | (simp; done) | (simp [*]; done), by repeat (first | exact Drawn0.refl _ | apply Drawn0.step)⟩
/-! ### lanyardref01_Char: function 25 -/
def lanyardref01_Char.f (a0 : Int) : Option (Bool) := if a0 = 9 then (some true) else (if a0 = 10 then (some true) else (if a0 = 13 then (some true) else (if a0 ≥ 32 then (if a0 ≤ 55295 then (some true) else (if a0 ≥ 57344 then (if a0 ≤ 65533 then (some true) else (if a0 ≥ 65536 then (some (decide (a0 ≤ 1114111))) else (some false))) else (if a0 ≥ 65536 then (some (decide (a0 ≤ 1114111))) else (some false)))) else (if a0 ≥ 57344 then (if a0 ≤ 65533 then (some true) else (if a0 ≥ 65536 then (some (decide (a0 ≤ 1114111))) else (some false))) else (if a0 ≥ 65536 then (some (decide (a0 ≤ 1114111))) else (some false))))))
set_option maxHeartbeats 8000000 in
set_option maxRecDepth 100000 in
theorem lanyardref01_Char.calls (a0 : Int) (r : Bool) (w : World) (h : lanyardref01_Char.f a0 = some r) :
  Calls Tryd.prog 25 #[.int .i64 a0] w fun e w' => e = .returned (.bool r) ∧ Drawn0 w w' := by
 have H : (if a0 = 9 then (some true) else (if a0 = 10 then (some true) else (if a0 = 13 then (some true) else (if a0 ≥ 32 then (if a0 ≤ 55295 then (some true) else (if a0 ≥ 57344 then (if a0 ≤ 65533 then (some true) else (if a0 ≥ 65536 then (some (decide (a0 ≤ 1114111))) else (some false))) else (if a0 ≥ 65536 then (some (decide (a0 ≤ 1114111))) else (some false)))) else (if a0 ≥ 57344 then (if a0 ≤ 65533 then (some true) else (if a0 ≥ 65536 then (some (decide (a0 ≤ 1114111))) else (some false))) else (if a0 ≥ 65536 then (some (decide (a0 ≤ 1114111))) else (some false))))))) = some r := h
 clear h
 refine (Classical.em (a0 = 9)).elim (fun c2 => ?a7_) (fun c2 => ?b7_)
 case' a7_ =>
  rw [if_pos c2] at H
  have c2b0 : (a0 == 9) = true := beq_iff_eq.mpr c2
  have c2b1 : (a0 != 9) = false := bne_eq_false_iff_eq.mpr c2
  clear c2
  obtain rfl := Option.some.inj H
 case' b7_ =>
  rw [if_neg c2] at H
  have c2b0 : (a0 == 9) = false := beq_eq_false_iff_ne.mpr c2
  have c2b1 : (a0 != 9) = true := bne_iff_ne.mpr c2
  refine (Classical.em (a0 = 10)).elim (fun c3 => ?a8_) (fun c3 => ?b8_)
  case' a8_ =>
   rw [if_pos c3] at H
   have c3b0 : (a0 == 10) = true := beq_iff_eq.mpr c3
   have c3b1 : (a0 != 10) = false := bne_eq_false_iff_eq.mpr c3
   clear c3
   obtain rfl := Option.some.inj H
  case' b8_ =>
   rw [if_neg c3] at H
   have c3b0 : (a0 == 10) = false := beq_eq_false_iff_ne.mpr c3
   have c3b1 : (a0 != 10) = true := bne_iff_ne.mpr c3
   refine (Classical.em (a0 = 13)).elim (fun c4 => ?a9_) (fun c4 => ?b9_)
   case' a9_ =>
    rw [if_pos c4] at H
    have c4b0 : (a0 == 13) = true := beq_iff_eq.mpr c4
    have c4b1 : (a0 != 13) = false := bne_eq_false_iff_eq.mpr c4
    clear c4
    obtain rfl := Option.some.inj H
   case' b9_ =>
    rw [if_neg c4] at H
    have c4b0 : (a0 == 13) = false := beq_eq_false_iff_ne.mpr c4
    have c4b1 : (a0 != 13) = true := bne_iff_ne.mpr c4
    refine (Classical.em (a0 ≥ 32)).elim (fun c5 => ?a10_) (fun c5 => ?b10_)
    case' a10_ =>
     rw [if_pos c5] at H
     have c5b0 : decide (32 ≤ a0) = true := decide_eq_true c5
     clear c5
     refine (Classical.em (a0 ≤ 55295)).elim (fun c6 => ?a11_) (fun c6 => ?b11_)
     case' a11_ =>
      rw [if_pos c6] at H
      have c6b0 : decide (a0 ≤ 55295) = true := decide_eq_true c6
      clear c6
      obtain rfl := Option.some.inj H
     case' b11_ =>
      rw [if_neg c6] at H
      have c6b0 : decide (a0 ≤ 55295) = false := decide_eq_false c6
      clear c6
      refine (Classical.em (a0 ≥ 57344)).elim (fun c7 => ?a12_) (fun c7 => ?b12_)
      case' a12_ =>
       rw [if_pos c7] at H
       have c7b0 : decide (57344 ≤ a0) = true := decide_eq_true c7
       clear c7
       refine (Classical.em (a0 ≤ 65533)).elim (fun c8 => ?a13_) (fun c8 => ?b13_)
       case' a13_ =>
        rw [if_pos c8] at H
        have c8b0 : decide (a0 ≤ 65533) = true := decide_eq_true c8
        clear c8
        obtain rfl := Option.some.inj H
       case' b13_ =>
        rw [if_neg c8] at H
        have c8b0 : decide (a0 ≤ 65533) = false := decide_eq_false c8
        clear c8
        refine (Classical.em (a0 ≥ 65536)).elim (fun c9 => ?a14_) (fun c9 => ?b14_)
        case' a14_ =>
         rw [if_pos c9] at H
         have c9b0 : decide (65536 ≤ a0) = true := decide_eq_true c9
         clear c9
         obtain rfl := Option.some.inj H
        case' b14_ =>
         rw [if_neg c9] at H
         have c9b0 : decide (65536 ≤ a0) = false := decide_eq_false c9
         clear c9
         obtain rfl := Option.some.inj H
      case' b12_ =>
       rw [if_neg c7] at H
       have c7b0 : decide (57344 ≤ a0) = false := decide_eq_false c7
       clear c7
       refine (Classical.em (a0 ≥ 65536)).elim (fun c10 => ?a15_) (fun c10 => ?b15_)
       case' a15_ =>
        rw [if_pos c10] at H
        have c10b0 : decide (65536 ≤ a0) = true := decide_eq_true c10
        clear c10
        obtain rfl := Option.some.inj H
       case' b15_ =>
        rw [if_neg c10] at H
        have c10b0 : decide (65536 ≤ a0) = false := decide_eq_false c10
        clear c10
        obtain rfl := Option.some.inj H
    case' b10_ =>
     rw [if_neg c5] at H
     have c5b0 : decide (32 ≤ a0) = false := decide_eq_false c5
     clear c5
     refine (Classical.em (a0 ≥ 57344)).elim (fun c11 => ?a16_) (fun c11 => ?b16_)
     case' a16_ =>
      rw [if_pos c11] at H
      have c11b0 : decide (57344 ≤ a0) = true := decide_eq_true c11
      clear c11
      refine (Classical.em (a0 ≤ 65533)).elim (fun c12 => ?a17_) (fun c12 => ?b17_)
      case' a17_ =>
       rw [if_pos c12] at H
       have c12b0 : decide (a0 ≤ 65533) = true := decide_eq_true c12
       clear c12
       obtain rfl := Option.some.inj H
      case' b17_ =>
       rw [if_neg c12] at H
       have c12b0 : decide (a0 ≤ 65533) = false := decide_eq_false c12
       clear c12
       refine (Classical.em (a0 ≥ 65536)).elim (fun c13 => ?a18_) (fun c13 => ?b18_)
       case' a18_ =>
        rw [if_pos c13] at H
        have c13b0 : decide (65536 ≤ a0) = true := decide_eq_true c13
        clear c13
        obtain rfl := Option.some.inj H
       case' b18_ =>
        rw [if_neg c13] at H
        have c13b0 : decide (65536 ≤ a0) = false := decide_eq_false c13
        clear c13
        obtain rfl := Option.some.inj H
     case' b16_ =>
      rw [if_neg c11] at H
      have c11b0 : decide (57344 ≤ a0) = false := decide_eq_false c11
      clear c11
      refine (Classical.em (a0 ≥ 65536)).elim (fun c14 => ?a19_) (fun c14 => ?b19_)
      case' a19_ =>
       rw [if_pos c14] at H
       have c14b0 : decide (65536 ≤ a0) = true := decide_eq_true c14
       clear c14
       obtain rfl := Option.some.inj H
      case' b19_ =>
       rw [if_neg c14] at H
       have c14b0 : decide (65536 ≤ a0) = false := decide_eq_false c14
       clear c14
       obtain rfl := Option.some.inj H
       go_enter Tryd.func25, Tryd.ntmps25
       go_wp2
       go_ret
       exact ⟨by first | rfl | (simp; done) | (simp [*]; done), by repeat (first | exact Drawn0.refl _ | apply Drawn0.step)⟩

 case a7_ | a8_ | a9_ | a11_ | a13_ | a14_ | b14_ | a15_ | b15_ | a17_ | a18_ | b18_ | b16_ =>
  go_enter Tryd.func25, Tryd.ntmps25
  go_wp2
  go_ret
  exact ⟨by first | rfl | (simp; done) | (simp [*]; done), by repeat (first | exact Drawn0.refl _ | apply Drawn0.step)⟩
end Go.Proofs.YthakidcnlkbbgaaDoor.Hp
