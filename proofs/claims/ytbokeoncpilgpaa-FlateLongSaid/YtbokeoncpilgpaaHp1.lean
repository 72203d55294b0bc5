/- Go functions of this seat as Lean functions, and their contracts: what the Go code computes, for every input. (By hp.py, a program of this repo, over the kit's print.py.) -/
import Derived.Test.YtbokeoncpilgpaaHp0
namespace Go.Proofs.Ytbokeoncpilgpaa.Hp
open Go.RowKit Go.Proofs.YtbokeoncpilgpaaW.PrintWords Go.Proofs.YtbokeoncpilgpaaW.PrintLast Go.Proofs.YtbokeoncpilgpaaW.PrintMore
attribute [local go_sem] max2_int min2_int max_two min_two max_three min_three max_four min_four   -- for this text's walks alone
set_option linter.unusedVariables false
set_option linter.unusedSimpArgs false

/-! ### flate_match: function 18 -/
mutual
def flate_match.l0 : Nat → List Int → Int → Int → Int → Int → Option (Int × Int)
 | 0, _, _, _, _, _ => none
 | k + 1, x0, x1, x6, x7, x8 => if x8 ≤ (mn x1 512) then (flate_match.l1 k x0 x1 x6 x7 x8 0) else (some (x6, x7))
def flate_match.l1 : Nat → List Int → Int → Int → Int → Int → Int → Option (Int × Int)
 | 0, _, _, _, _, _, _ => none
 | k + 1, x0, x1, x6, x7, x8, x9 => if x9 < 258 then (if (wrap64 (x1 + x9)) < (x0.length : Int) then (if 0 ≤ (wrap64 (x1 + x9)) then (if 0 ≤ (wrap64 ((wrap64 (x1 + x9)) - x8)) then (if (wrap64 ((wrap64 (x1 + x9)) - x8)) < (x0.length : Int) then (if (rd x0 (wrap64 (x1 + x9))) = (rd x0 (wrap64 ((wrap64 (x1 + x9)) - x8))) then (flate_match.l1 k x0 x1 x6 x7 x8 (wrap64 (x9 + 1))) else (if x9 > x6 then (flate_match.l0 k x0 x1 x9 x8 (wrap64 (x8 + 1))) else (flate_match.l0 k x0 x1 x6 x7 (wrap64 (x8 + 1))))) else (none)) else (none)) else (none)) else (if x9 > x6 then (flate_match.l0 k x0 x1 x9 x8 (wrap64 (x8 + 1))) else (flate_match.l0 k x0 x1 x6 x7 (wrap64 (x8 + 1))))) else (if x9 > x6 then (flate_match.l0 k x0 x1 x9 x8 (wrap64 (x8 + 1))) else (flate_match.l0 k x0 x1 x6 x7 (wrap64 (x8 + 1))))
end
def flate_match.f (k : Nat) (l0 : List Int) (a1 : Int) : Option (Int × Int) := flate_match.l0 k l0 a1 0 0 1
theorem flate_match.mono_l : ∀ k, (∀ y0 y1 y2 y3 y4, LeO (flate_match.l0 k y0 y1 y2 y3 y4) (flate_match.l0 (k + 1) y0 y1 y2 y3 y4)) ∧ (∀ y0 y1 y2 y3 y4 y5, LeO (flate_match.l1 k y0 y1 y2 y3 y4 y5) (flate_match.l1 (k + 1) y0 y1 y2 y3 y4 y5))
 | 0 => ⟨fun _ _ _ _ _ r h => by simp [flate_match.l0] at h, fun _ _ _ _ _ _ r h => by simp [flate_match.l1] at h⟩
 | k + 1 => by
  obtain ⟨ih0, ih1⟩ := flate_match.mono_l k
  refine ⟨?_, ?_⟩
  ·intro y0 y1 y2 y3 y4
   unfold flate_match.l0
   repeat' first
   | (with_reducible exact ih0 _ _ _ _ _)
   | (with_reducible exact ih1 _ _ _ _ _ _)
   | (with_reducible exact LeO.refl _)
   | (with_reducible exact LeO.none _)
   | (with_reducible refine LeO.ite ?_ ?_)
   | (with_reducible refine LeO.bind ?_ (fun _ => ?_))
   | exact ih0 _ _ _ _ _
   | exact ih1 _ _ _ _ _ _
   | exact LeO.none _
   | refine LeO.ite ?_ ?_
   | refine LeO.bind ?_ (fun _ => ?_)
  ·intro y0 y1 y2 y3 y4 y5
   unfold flate_match.l1
   repeat' first
   | (with_reducible exact ih0 _ _ _ _ _)
   | (with_reducible exact ih1 _ _ _ _ _ _)
   | (with_reducible exact LeO.refl _)
   | (with_reducible exact LeO.none _)
   | (with_reducible refine LeO.ite ?_ ?_)
   | (with_reducible refine LeO.bind ?_ (fun _ => ?_))
   | exact ih0 _ _ _ _ _
   | exact ih1 _ _ _ _ _ _
   | exact LeO.none _
   | refine LeO.ite ?_ ?_
   | refine LeO.bind ?_ (fun _ => ?_)
theorem flate_match.mono : ∀ a0 a1 k, LeO (flate_match.f k a0 a1) (flate_match.f (k + 1) a0 a1) := by
 intro a0 a1 k
 obtain ⟨ih0, ih1⟩ := flate_match.mono_l k
 unfold flate_match.f
 repeat' first
   | (with_reducible exact ih0 _ _ _ _ _)
   | (with_reducible exact ih1 _ _ _ _ _ _)
   | (with_reducible exact LeO.refl _)
   | (with_reducible exact LeO.none _)
   | (with_reducible refine LeO.ite ?_ ?_)
   | (with_reducible refine LeO.bind ?_ (fun _ => ?_))
   | exact ih0 _ _ _ _ _
   | exact ih1 _ _ _ _ _ _
   | exact LeO.none _
   | refine LeO.ite ?_ ?_
   | refine LeO.bind ?_ (fun _ => ?_)
set_option maxHeartbeats 8000000 in
set_option maxRecDepth 100000 in
theorem flate_match.calls (k : Nat) (A0 : Option Addr) (c0 : Nat) (l0 : List Int) (a1 : Int) (r1 : Int) (r2 : Int) (w : World) (hr0 : Kd.C (Kd.int .u8) w A0 l0.length l0) (hc0 : l0.length ≤ c0) (h : flate_match.f k l0 a1 = some (r1, r2)) :
  Calls Try.prog 18 #[.slice A0 l0.length c0, .int .i64 a1] w fun e w' => e = .returned (.tuple #[.int .i64 r1, .int .i64 r2]) ∧ Below w.heap.size w w' := by
 have HR0 := Aside0.mk hr0
 have HC0 := Aside0.mk hc0
 clear hr0 hc0
 have HB := Aside0.mk (Below.refl w.heap.size w)
 have H : (flate_match.l0 k l0 a1 0 0 1) = some (r1, r2) := h
 clear h
 have H' := Aside0.mk H
 clear H
 go_enter Try.func18, Try.ntmps18
 go_wp2
 repeat (go_quiet (fail); try go_wp2)
 go_loopg [6, 7, 8] k (fun kq v6 v7 v8 w' => ∃ (x6_1 : Int) (x7_1 : Int) (x8_1 : Int), v6 = .int .i64 x6_1 ∧ v7 = .int .i64 x7_1 ∧ v8 = .int .i64 x8_1 ∧ Aside0 (flate_match.l0 kq l0 a1 x6_1 x7_1 x8_1 = some (r1, r2)) ∧ Aside0 (kq ≤ k) ∧ Aside0 (Below w.heap.size w w'))
 case atStart => exact ⟨(0), (0), (1), (by first | rfl | (simp; done) | (simp [*]; done)), (by first | rfl | (simp; done) | (simp [*]; done)), (by first | rfl | (simp; done) | (simp [*]; done)), H', ⟨Nat.le_refl _⟩, ⟨Bu HB⟩⟩
 case round =>
  clear H'
  try clear c1
  try clear p2
  obtain ⟨x6_1, x7_1, x8_1, rfl, rfl, rfl, HA, HK1, HB⟩ := hrel
  cases gk with
  | zero => exact absurd HA.out (by simp [flate_match.l0])
  | succ k1 =>
   have H := HA.out
   clear HA
   simp only [flate_match.l0] at H
   obtain ⟨ji3, hji3⟩ : ∃ j_ : Int, (mn a1 512) = j_ := ⟨_, rfl⟩
   replace H : (if x8_1 ≤ (ji3) then (flate_match.l1 k1 l0 a1 x6_1 x7_1 x8_1 0) else (some (x6_1, x7_1))) = some (r1, r2) := by first | (rw [hji3] at H; exact H) | (simp only [hji3] at H ⊢; exact H)
   have hji3_ : (if 512 < a1 then 512 else a1) = ji3 := hji3
   by_cases c4 : x8_1 ≤ (ji3)
   ·rw [if_pos c4] at H
    have c4b0 : decide (x8_1 ≤ (ji3)) = true := decide_eq_true c4
    clear c4
    have H' := Aside0.mk H
    clear H
    go_wp2
    repeat (go_quiet (fail); try go_wp2)
    go_loopg [9] k1 (fun kq v9 w' => ∃ (x9_2 : Int), v9 = .int .i64 x9_2 ∧ Aside0 (flate_match.l1 kq l0 a1 x6_1 x7_1 x8_1 x9_2 = some (r1, r2)) ∧ Aside0 (kq ≤ k1) ∧ Aside0 (Below w.heap.size w w'))
    case atStart => exact ⟨(0), (by first | rfl | (simp; done) | (simp [*]; done)), H', ⟨Nat.le_refl _⟩, ⟨Bu HB⟩⟩
    case round =>
     clear H'
     try clear c1
     try clear p2
     try clear c4
     try clear c4b0
     try clear p2
     obtain ⟨x9_2, rfl, HA, HK2, HB⟩ := hrel
     cases gk with
     | zero => exact absurd HA.out (by simp [flate_match.l1])
     | succ k2 =>
      have H := HA.out
      clear HA
      simp only [flate_match.l1] at H
      refine (Classical.em (x9_2 < 258)).elim (fun c5 => ?a1_) (fun c5 => ?b1_)
      case' a1_ =>
       rw [if_pos c5] at H
       have c5b0 : decide (x9_2 < 258) = true := decide_eq_true c5
       clear c5
       refine (Classical.em ((wrap64 (a1 + x9_2)) < (l0.length : Int))).elim (fun c6 => ?a2_) (fun c6 => ?b2_)
       case' a2_ =>
        rw [if_pos c6] at H
        have c6b0 : decide ((wrap64 (a1 + x9_2)) < (l0.length : Int)) = true := decide_eq_true c6
        clear c6
        obtain ⟨ji7, hji7⟩ : ∃ j_ : Int, (wrap64 (a1 + x9_2)) = j_ := ⟨_, rfl⟩
        replace H : (if 0 ≤ (ji7) then (if 0 ≤ (wrap64 ((ji7) - x8_1)) then (if (wrap64 ((ji7) - x8_1)) < (l0.length : Int) then (if (rd l0 (ji7)) = (rd l0 (wrap64 ((ji7) - x8_1))) then (flate_match.l1 k2 l0 a1 x6_1 x7_1 x8_1 (wrap64 (x9_2 + 1))) else (if x9_2 > x6_1 then (flate_match.l0 k2 l0 a1 x9_2 x8_1 (wrap64 (x8_1 + 1))) else (flate_match.l0 k2 l0 a1 x6_1 x7_1 (wrap64 (x8_1 + 1))))) else (none)) else (none)) else (none)) = some (r1, r2) := by first | (rw [hji7] at H; exact H) | (simp only [hji7] at H ⊢; exact H)
        (try rw [hji7] at c6b0)
        have hji7w : (IntKind.i64.wrap (a1 + x9_2)) = ji7 := (i64_w _).trans hji7
        refine (Classical.em (0 ≤ (ji7))).elim (fun c8 => ?a3_) (fun c8 => ?b3_)
        case' a3_ =>
         rw [if_pos c8] at H
         have c8b0 : decide (0 ≤ (ji7)) = true := decide_eq_true c8
         clear c8
         obtain ⟨ji9, hji9⟩ : ∃ j_ : Int, (wrap64 ((ji7) - x8_1)) = j_ := ⟨_, rfl⟩
         replace H : (if 0 ≤ (ji9) then (if (ji9) < (l0.length : Int) then (if (rd l0 (ji7)) = (rd l0 (ji9)) then (flate_match.l1 k2 l0 a1 x6_1 x7_1 x8_1 (wrap64 (x9_2 + 1))) else (if x9_2 > x6_1 then (flate_match.l0 k2 l0 a1 x9_2 x8_1 (wrap64 (x8_1 + 1))) else (flate_match.l0 k2 l0 a1 x6_1 x7_1 (wrap64 (x8_1 + 1))))) else (none)) else (none)) = some (r1, r2) := by first | (rw [hji9] at H; exact H) | (simp only [hji9] at H ⊢; exact H)
         have hji9w : (IntKind.i64.wrap ((ji7) - x8_1)) = ji9 := (i64_w _).trans hji9
         refine (Classical.em (0 ≤ (ji9))).elim (fun c10 => ?a4_) (fun c10 => ?b4_)
         case' a4_ =>
          rw [if_pos c10] at H
          have c10b0 : decide (0 ≤ (ji9)) = true := decide_eq_true c10
          clear c10
          refine (Classical.em ((ji9) < (l0.length : Int))).elim (fun c11 => ?a5_) (fun c11 => ?b5_)
          case' a5_ =>
           rw [if_pos c11] at H
           have c11b0 : decide ((ji9) < (l0.length : Int)) = true := decide_eq_true c11
           clear c11
           refine (Classical.em ((rd l0 (ji7)) = (rd l0 (ji9)))).elim (fun c12 => ?a6_) (fun c12 => ?b6_)
           case' a6_ =>
            rw [if_pos c12] at H
            have c12b0 : ((rd l0 (ji7)) == (rd l0 (ji9))) = true := beq_iff_eq.mpr c12
            have c12b1 : ((rd l0 (ji7)) != (rd l0 (ji9))) = false := bne_eq_false_iff_eq.mpr c12
            clear c12
            have H' := Aside0.mk H
            clear H
            have p101 : 0 ≤ ((ji7) : Int) := of_decide_eq_true (by first | (with_reducible assumption) | assumption)
            have q101 : (ji7) < (l0.length : Int) := of_decide_eq_true (by first | (with_reducible assumption) | assumption)
            obtain ⟨ad101, e101, hx101_0⟩ := Kd.at_int HR0.out (ji7) p101 q101
            cases e101
            replace hx101_0 := (HB.out.cell (World.block_lt_of_cell? w _ hx101_0)).trans hx101_0
            replace p101 := eq_true p101
            replace q101 := eq_true q101
            have p102 : 0 ≤ ((ji9) : Int) := of_decide_eq_true (by first | (with_reducible assumption) | assumption)
            have q102 : (ji9) < (l0.length : Int) := of_decide_eq_true (by first | (with_reducible assumption) | assumption)
            obtain ⟨ad102, e102, hx102_0⟩ := Kd.at_int HR0.out (ji9) p102 q102
            obtain rfl : ad101 = ad102 := (by injection e102)
            replace hx102_0 := (HB.out.cell (World.block_lt_of_cell? w _ hx102_0)).trans hx102_0
            replace p102 := eq_true p102
            replace q102 := eq_true q102
            go_wp2
            repeat (go_quiet (fail); try go_wp2)
            go_roundg k2
            case measure => have := HK1.out; have := HK2.out; omega
            case rel => exact ⟨(wrap64 (x9_2 + 1)), (by first | rfl | (simp; done) | (simp [*]; done)), H', ⟨by have := HK1.out; have := HK2.out; omega⟩, ⟨Bu HB⟩⟩
           case' b6_ =>
            rw [if_neg c12] at H
            have c12b0 : ((rd l0 (ji7)) == (rd l0 (ji9))) = false := beq_eq_false_iff_ne.mpr c12
            have c12b1 : ((rd l0 (ji7)) != (rd l0 (ji9))) = true := bne_iff_ne.mpr c12
            refine (Classical.em (x9_2 > x6_1)).elim (fun c13 => ?a7_) (fun c13 => ?b7_)
            case' a7_ =>
             rw [if_pos c13] at H
             have c13b0 : decide (x6_1 < x9_2) = true := decide_eq_true c13
             clear c13
             have H' := Aside0.mk H
             clear H
             have p101 : 0 ≤ ((ji7) : Int) := of_decide_eq_true (by first | (with_reducible assumption) | assumption)
             have q101 : (ji7) < (l0.length : Int) := of_decide_eq_true (by first | (with_reducible assumption) | assumption)
             obtain ⟨ad101, e101, hx101_0⟩ := Kd.at_int HR0.out (ji7) p101 q101
             cases e101
             replace hx101_0 := (HB.out.cell (World.block_lt_of_cell? w _ hx101_0)).trans hx101_0
             replace p101 := eq_true p101
             replace q101 := eq_true q101
             have p102 : 0 ≤ ((ji9) : Int) := of_decide_eq_true (by first | (with_reducible assumption) | assumption)
             have q102 : (ji9) < (l0.length : Int) := of_decide_eq_true (by first | (with_reducible assumption) | assumption)
             obtain ⟨ad102, e102, hx102_0⟩ := Kd.at_int HR0.out (ji9) p102 q102
             obtain rfl : ad101 = ad102 := (by injection e102)
             replace hx102_0 := (HB.out.cell (World.block_lt_of_cell? w _ hx102_0)).trans hx102_0
             replace p102 := eq_true p102
             replace q102 := eq_true q102
            case' b7_ =>
             rw [if_neg c13] at H
             have c13b0 : decide (x6_1 < x9_2) = false := decide_eq_false c13
             clear c13
             have H' := Aside0.mk H
             clear H
             have p101 : 0 ≤ ((ji7) : Int) := of_decide_eq_true (by first | (with_reducible assumption) | assumption)
             have q101 : (ji7) < (l0.length : Int) := of_decide_eq_true (by first | (with_reducible assumption) | assumption)
             obtain ⟨ad101, e101, hx101_0⟩ := Kd.at_int HR0.out (ji7) p101 q101
             cases e101
             replace hx101_0 := (HB.out.cell (World.block_lt_of_cell? w _ hx101_0)).trans hx101_0
             replace p101 := eq_true p101
             replace q101 := eq_true q101
             have p102 : 0 ≤ ((ji9) : Int) := of_decide_eq_true (by first | (with_reducible assumption) | assumption)
             have q102 : (ji9) < (l0.length : Int) := of_decide_eq_true (by first | (with_reducible assumption) | assumption)
             obtain ⟨ad102, e102, hx102_0⟩ := Kd.at_int HR0.out (ji9) p102 q102
             obtain rfl : ad101 = ad102 := (by injection e102)
             replace hx102_0 := (HB.out.cell (World.block_lt_of_cell? w _ hx102_0)).trans hx102_0
             replace p102 := eq_true p102
             replace q102 := eq_true q102
          case' b5_ =>
           rw [if_neg c11] at H
           exact absurd H (by simp)
         case' b4_ =>
          rw [if_neg c10] at H
          exact absurd H (by simp)
        case' b3_ =>
         rw [if_neg c8] at H
         exact absurd H (by simp)
       case' b2_ =>
        rw [if_neg c6] at H
        have c6b0 : decide ((wrap64 (a1 + x9_2)) < (l0.length : Int)) = false := decide_eq_false c6
        clear c6
        refine (Classical.em (x9_2 > x6_1)).elim (fun c14 => ?a8_) (fun c14 => ?b8_)
        case' a8_ =>
         rw [if_pos c14] at H
         have c14b0 : decide (x6_1 < x9_2) = true := decide_eq_true c14
         clear c14
         have H' := Aside0.mk H
         clear H
        case' b8_ =>
         rw [if_neg c14] at H
         have c14b0 : decide (x6_1 < x9_2) = false := decide_eq_false c14
         clear c14
         have H' := Aside0.mk H
         clear H
      case' b1_ =>
       rw [if_neg c5] at H
       have c5b0 : decide (x9_2 < 258) = false := decide_eq_false c5
       clear c5
       refine (Classical.em (x9_2 > x6_1)).elim (fun c15 => ?a9_) (fun c15 => ?b9_)
       case' a9_ =>
        rw [if_pos c15] at H
        have c15b0 : decide (x6_1 < x9_2) = true := decide_eq_true c15
        clear c15
        have H' := Aside0.mk H
        clear H
       case' b9_ =>
        rw [if_neg c15] at H
        have c15b0 : decide (x6_1 < x9_2) = false := decide_eq_false c15
        clear c15
        have H' := Aside0.mk H
        clear H
      case a7_ | a8_ | a9_ =>
       go_wp2
       repeat (go_quiet (fail); try go_wp2)
       go_roundg k2
       case measure => have := HK1.out; have := HK2.out; omega
       case rel => exact ⟨(x9_2), (x8_1), (wrap64 (x8_1 + 1)), (by first | rfl | (simp; done) | (simp [*]; done)), (by first | rfl | (simp; done) | (simp [*]; done)), (by first | rfl | (simp; done) | (simp [*]; done)), H', ⟨by have := HK1.out; have := HK2.out; omega⟩, ⟨Bu HB⟩⟩
      case b7_ | b8_ | b9_ =>
       go_wp2
       repeat (go_quiet (fail); try go_wp2)
       go_roundg k2
       case measure => have := HK1.out; have := HK2.out; omega
       case rel => exact ⟨(x6_1), (x7_1), (wrap64 (x8_1 + 1)), (by first | rfl | (simp; done) | (simp [*]; done)), (by first | rfl | (simp; done) | (simp [*]; done)), (by first | rfl | (simp; done) | (simp [*]; done)), H', ⟨by have := HK1.out; have := HK2.out; omega⟩, ⟨Bu HB⟩⟩
   ·rw [if_neg c4] at H
    have c4b0 : decide (x8_1 ≤ (ji3)) = false := decide_eq_false c4
    clear c4
    simp only [Option.some.injEq, Prod.mk.injEq] at H
    obtain ⟨rfl, rfl⟩ := H
    go_wp2
    repeat (go_quiet (fail); try go_wp2)
    go_ret2
    exact ⟨by first | rfl | (simp [errW_none, errW_some] <;> rfl) | (simp only [← hji3]; first | rfl | (simp [errW_none, errW_some] <;> rfl)) | (simp [*, errW_none, errW_some] <;> rfl), Bu HB⟩

/-! ### flate_lengthOf: function 37 -/
def flate_lengthOf.f (a0 : Int) : Option (Int × Int) := if (wrap64 (a0 - 257)) < 8 then (some (wrap64 (3 + (wrap64 (a0 - 257))), 0)) else (if a0 = 285 then (some (258, 0)) else (if 0 ≤ (wrap64 ((wrap64 (Int.tdiv (wrap64 (a0 - 257)) 4)) - 1)) then (some (wrap64 (3 + (shl .i64 (wrap64 (4 + (Int.tmod (wrap64 (a0 - 257)) 4))) (wrap64 ((wrap64 (Int.tdiv (wrap64 (a0 - 257)) 4)) - 1)))), wrap64 ((wrap64 (Int.tdiv (wrap64 (a0 - 257)) 4)) - 1))) else (none)))
set_option maxHeartbeats 8000000 in
set_option maxRecDepth 100000 in
theorem flate_lengthOf.calls (a0 : Int) (r1 : Int) (r2 : Int) (w : World) (h : flate_lengthOf.f a0 = some (r1, r2)) :
  Calls Try.prog 37 #[.int .i64 a0] w fun e w' => e = .returned (.tuple #[.int .i64 r1, .int .i64 r2]) ∧ Drawn0 w w' := by
 have H : (if (wrap64 (a0 - 257)) < 8 then (some (wrap64 (3 + (wrap64 (a0 - 257))), 0)) else (if a0 = 285 then (some (258, 0)) else (if 0 ≤ (wrap64 ((wrap64 (Int.tdiv (wrap64 (a0 - 257)) 4)) - 1)) then (some (wrap64 (3 + (shl .i64 (wrap64 (4 + (Int.tmod (wrap64 (a0 - 257)) 4))) (wrap64 ((wrap64 (Int.tdiv (wrap64 (a0 - 257)) 4)) - 1)))), wrap64 ((wrap64 (Int.tdiv (wrap64 (a0 - 257)) 4)) - 1))) else (none)))) = some (r1, r2) := h
 clear h
 refine (Classical.em ((wrap64 (a0 - 257)) < 8)).elim (fun c2 => ?a10_) (fun c2 => ?b10_)
 case' a10_ =>
  rw [if_pos c2] at H
  have c2b0 : decide ((wrap64 (a0 - 257)) < 8) = true := decide_eq_true c2
  clear c2
  simp only [Option.some.injEq, Prod.mk.injEq] at H
  obtain ⟨rfl, rfl⟩ := H
 case' b10_ =>
  rw [if_neg c2] at H
  have c2b0 : decide ((wrap64 (a0 - 257)) < 8) = false := decide_eq_false c2
  clear c2
  refine (Classical.em (a0 = 285)).elim (fun c3 => ?a11_) (fun c3 => ?b11_)
  case' a11_ =>
   rw [if_pos c3] at H
   have c3b0 : (a0 == 285) = true := beq_iff_eq.mpr c3
   have c3b1 : (a0 != 285) = false := bne_eq_false_iff_eq.mpr c3
   clear c3
   simp only [Option.some.injEq, Prod.mk.injEq] at H
   obtain ⟨rfl, rfl⟩ := H
  case' b11_ =>
   rw [if_neg c3] at H
   have c3b0 : (a0 == 285) = false := beq_eq_false_iff_ne.mpr c3
   have c3b1 : (a0 != 285) = true := bne_iff_ne.mpr c3
   obtain ⟨ji4, hji4⟩ : ∃ j_ : Int, (wrap64 ((wrap64 (Int.tdiv (wrap64 (a0 - 257)) 4)) - 1)) = j_ := ⟨_, rfl⟩
   replace H : (if 0 ≤ (ji4) then (some (wrap64 (3 + (shl .i64 (wrap64 (4 + (Int.tmod (wrap64 (a0 - 257)) 4))) (ji4))), ji4)) else (none)) = some (r1, r2) := by first | (rw [hji4] at H; exact H) | (simp only [hji4] at H ⊢; exact H)
   have hji4w : (IntKind.i64.wrap ((wrap64 (Int.tdiv (wrap64 (a0 - 257)) 4)) - 1)) = ji4 := (i64_w _).trans hji4
   by_cases c5 : 0 ≤ (ji4)
   ·rw [if_pos c5] at H
    have c5b0 := eq_true c5
    have c5b1 : decide (0 ≤ (ji4)) = true := decide_eq_true c5
    clear c5
    obtain ⟨ji6, hji6⟩ : ∃ j_ : Int, (shl .i64 (wrap64 (4 + (Int.tmod (wrap64 (a0 - 257)) 4))) (ji4)) = j_ := ⟨_, rfl⟩
    replace H : (some (wrap64 (3 + (ji6)), ji4)) = some (r1, r2) := by first | (rw [hji6] at H; exact H) | (simp only [hji6] at H ⊢; exact H)
    have hji6_ : (IntKind.i64.wrap ((wrap64 (4 + (Int.tmod (wrap64 (a0 - 257)) 4))) * 2 ^ min (ji4).toNat 64)) = ji6 := hji6
    have hji6z : (ji4) ≤ 64 → (IntKind.i64.wrap ((wrap64 (4 + (Int.tmod (wrap64 (a0 - 257)) 4))) * 2 ^ (ji4).toNat)) = ji6 := shl_small hji6
    have hji6y : (wrap64 ((wrap64 (4 + (Int.tmod (wrap64 (a0 - 257)) 4))) * 2 ^ min (ji4).toNat 64)) = ji6 := (i64_w _).symm.trans hji6_
    have hji6x : (ji4) ≤ 64 → (wrap64 ((wrap64 (4 + (Int.tmod (wrap64 (a0 - 257)) 4))) * 2 ^ (ji4).toNat)) = ji6 := fun h_ => (i64_w _).symm.trans (hji6z h_)
    simp only [Option.some.injEq, Prod.mk.injEq] at H
    obtain ⟨rfl, rfl⟩ := H
    go_enter Try.func37, Try.ntmps37
    go_wp2
    go_ret2
    exact ⟨by first | rfl | (simp; done) | (simp only [← hji4, ← hji6] <;> (first | rfl | simp)) | (simp [*]; done), by repeat (first | exact Drawn0.refl _ | apply Drawn0.step)⟩
   ·rw [if_neg c5] at H
    exact absurd H (by simp)

 case a10_ | b10_ =>
  go_enter Try.func37, Try.ntmps37
  go_wp2
  go_ret2
  exact ⟨by first | rfl | (simp; done) | (simp [*]; done), by repeat (first | exact Drawn0.refl _ | apply Drawn0.step)⟩
/-! ### flate_farOf: function 38 -/
def flate_farOf.f (a0 : Int) : Option (Int × Int) := if a0 < 4 then (some (wrap64 (1 + a0), 0)) else (if 0 ≤ (wrap64 ((wrap64 (Int.tdiv a0 2)) - 1)) then (some (wrap64 (1 + (shl .i64 (wrap64 (2 + (Int.tmod a0 2))) (wrap64 ((wrap64 (Int.tdiv a0 2)) - 1)))), wrap64 ((wrap64 (Int.tdiv a0 2)) - 1))) else (none))
set_option maxHeartbeats 8000000 in
set_option maxRecDepth 100000 in
theorem flate_farOf.calls (a0 : Int) (r1 : Int) (r2 : Int) (w : World) (h : flate_farOf.f a0 = some (r1, r2)) :
  Calls Try.prog 38 #[.int .i64 a0] w fun e w' => e = .returned (.tuple #[.int .i64 r1, .int .i64 r2]) ∧ Drawn0 w w' := by
 have H : (if a0 < 4 then (some (wrap64 (1 + a0), 0)) else (if 0 ≤ (wrap64 ((wrap64 (Int.tdiv a0 2)) - 1)) then (some (wrap64 (1 + (shl .i64 (wrap64 (2 + (Int.tmod a0 2))) (wrap64 ((wrap64 (Int.tdiv a0 2)) - 1)))), wrap64 ((wrap64 (Int.tdiv a0 2)) - 1))) else (none))) = some (r1, r2) := h
 clear h
 by_cases c2 : a0 < 4
 ·rw [if_pos c2] at H
  have c2b0 : decide (a0 < 4) = true := decide_eq_true c2
  clear c2
  simp only [Option.some.injEq, Prod.mk.injEq] at H
  obtain ⟨rfl, rfl⟩ := H
  go_enter Try.func38, Try.ntmps38
  go_wp2
  go_ret2
  exact ⟨by first | rfl | (simp; done) | (simp [*]; done), by repeat (first | exact Drawn0.refl _ | apply Drawn0.step)⟩
 ·rw [if_neg c2] at H
  have c2b0 : decide (a0 < 4) = false := decide_eq_false c2
  clear c2
  obtain ⟨ji3, hji3⟩ : ∃ j_ : Int, (wrap64 ((wrap64 (Int.tdiv a0 2)) - 1)) = j_ := ⟨_, rfl⟩
  replace H : (if 0 ≤ (ji3) then (some (wrap64 (1 + (shl .i64 (wrap64 (2 + (Int.tmod a0 2))) (ji3))), ji3)) else (none)) = some (r1, r2) := by first | (rw [hji3] at H; exact H) | (simp only [hji3] at H ⊢; exact H)
  have hji3w : (IntKind.i64.wrap ((wrap64 (Int.tdiv a0 2)) - 1)) = ji3 := (i64_w _).trans hji3
  by_cases c4 : 0 ≤ (ji3)
  ·rw [if_pos c4] at H
   have c4b0 := eq_true c4
   have c4b1 : decide (0 ≤ (ji3)) = true := decide_eq_true c4
   clear c4
   obtain ⟨ji5, hji5⟩ : ∃ j_ : Int, (shl .i64 (wrap64 (2 + (Int.tmod a0 2))) (ji3)) = j_ := ⟨_, rfl⟩
   replace H : (some (wrap64 (1 + (ji5)), ji3)) = some (r1, r2) := by first | (rw [hji5] at H; exact H) | (simp only [hji5] at H ⊢; exact H)
   have hji5_ : (IntKind.i64.wrap ((wrap64 (2 + (Int.tmod a0 2))) * 2 ^ min (ji3).toNat 64)) = ji5 := hji5
   have hji5z : (ji3) ≤ 64 → (IntKind.i64.wrap ((wrap64 (2 + (Int.tmod a0 2))) * 2 ^ (ji3).toNat)) = ji5 := shl_small hji5
   have hji5y : (wrap64 ((wrap64 (2 + (Int.tmod a0 2))) * 2 ^ min (ji3).toNat 64)) = ji5 := (i64_w _).symm.trans hji5_
   have hji5x : (ji3) ≤ 64 → (wrap64 ((wrap64 (2 + (Int.tmod a0 2))) * 2 ^ (ji3).toNat)) = ji5 := fun h_ => (i64_w _).symm.trans (hji5z h_)
   simp only [Option.some.injEq, Prod.mk.injEq] at H
   obtain ⟨rfl, rfl⟩ := H
   go_enter Try.func38, Try.ntmps38
   go_wp2
   go_ret2
   exact ⟨by first | rfl | (simp; done) | (simp only [← hji3, ← hji5] <;> (first | rfl | simp)) | (simp [*]; done), by repeat (first | exact Drawn0.refl _ | apply Drawn0.step)⟩
  ·rw [if_neg c4] at H
   exact absurd H (by simp)

/-! ### flate_reader_bit: function 39 -/
/-- A bit of bytes. -/
def bitAt (B : List Int) (t : Nat) : Nat := (B.getD (t / 8) 0).toNat / 2 ^ (t % 8) % 2
/-- So many bits from a place on, as a number. -/
def numAt (B : List Int) (t : Nat) : Nat → Nat
  | 0 => 0
  | k + 1 => numAt B t k + bitAt B (t + k) * 2 ^ k
theorem bitAt_lt (B : List Int) (t : Nat) : bitAt B t < 2 := Nat.mod_lt _ (by decide)
theorem numAt_lt (B : List Int) (t : Nat) : ∀ k, numAt B t k < 2 ^ k
  | 0 => Nat.zero_lt_one
  | k + 1 => by
    have h1 := numAt_lt B t k
    have h2 := bitAt_lt B (t + k)
    have h3 : bitAt B (t + k) * 2 ^ k ≤ 1 * 2 ^ k := Nat.mul_le_mul_right _ (by omega)
    rw [numAt, Nat.pow_succ]
    omega
def faultV (n : Int) : List PanicEntry := [{ v := .iface 59 (.int .i64 n), recovered := false }]
/-- What a method of a reader keeps: all but the reader's block. -/
def KB (b : Nat) (w w' : World) : Prop := Kept w w' (fun k => k = b) ∧ Below b w w'
theorem KB.refl (b : Nat) (w : World) : KB b w w := ⟨Kept.refl _ _, Below.refl _ _⟩
theorem KB.trans {b : Nat} {u v w : World} (h : KB b u v) (k : KB b v w) : KB b u w := ⟨Kept.then_ h.1 k.1 (fun _ h => .inl h), h.2.trans k.2⟩
theorem KB.set (b o : Nat) (w : World) (v : Value) : KB b w (w.setCell ⟨b, o, none⟩ v) := ⟨(Kept.refl w (fun k => k = b)).setCell (p := ⟨b, o, none⟩) (.inl rfl) _, (Below.refl b w).setCell (p := ⟨b, o, none⟩) (Nat.le_refl _) _⟩
theorem KB.drewN (b : Nat) (w : World) (n : Nat) : KB b w (w.drewN n) := ⟨Kept.of_below (pw_below_drewN (Below.refl _ _) n) _, pw_below_drewN (Below.refl _ _) n⟩
/-- A reader at block q. -/
def Rdr (w0 : World) (q : Nat) (B : List Int) (t : Nat) (v : Value) (m : Int) (w : World) : Prop :=
  (∃ A c, w.heap[q]? = some (.cells #[.slice A B.length c, .int .i64 t, v, .int .i64 m] 58 (0, 0)) ∧ B.length ≤ c ∧ Kd.C (Kd.int .u8) w0 A B.length B) ∧ (∀ x ∈ B, 0 ≤ x ∧ x < 256) ∧ B.length ≤ 1099511627776 ∧ t ≤ 8 * B.length ∧ w0.heap.size ≤ q ∧ Below w0.heap.size w0 w
theorem Rdr.drewN {w0 : World} {q : Nat} {B : List Int} {t : Nat} {v : Value} {m : Int} {w : World} (h : Rdr w0 q B t v m w) (n : Nat) : Rdr w0 q B t v m (w.drewN n) := by
  obtain ⟨⟨A, c, hb, hc, hC⟩, h1, h2, h3, h4, h5⟩ := h
  exact ⟨⟨A, c, hb, hc, hC⟩, h1, h2, h3, h4, pw_below_drewN h5 n⟩
theorem Rdr.set {w0 : World} {q : Nat} {B : List Int} {t : Nat} {v : Value} {m : Int} {w : World} (h : Rdr w0 q B t v m w) (t' : Nat) (ht : t' ≤ 8 * B.length) : Rdr w0 q B t' v m (w.setCell ⟨q, 1, none⟩ (.int .i64 t')) := by
  obtain ⟨⟨A, c, hb, hc, hC⟩, h1, h2, _, h4, h5⟩ := h
  refine ⟨⟨A, c, ?_, hc, hC⟩, h1, h2, ht, h4, h5.setCell (p := ⟨q, 1, none⟩) h4 _⟩
  simp [World.setCell, Array.getElem?_modify, hb]
theorem Rdr.step {w0 : World} {q : Nat} {B : List Int} {t : Nat} {v : Value} {m : Int} {w : World} (h : Rdr w0 q B t v m w) (ht : t < 8 * B.length) : Rdr w0 q B (t + 1) v m (w.setCell ⟨q, 1, none⟩ (.int .i64 ((t : Int) + 1))) := by
  have := h.set (t + 1) (by omega)
  push_cast at this
  exact this
theorem and_i64 (x : Int) (i : Nat) (hi : i ≤ 63) (h0 : 0 ≤ x) (h1 : x < 9223372036854775808) : Go.bits .and .i64 x (2 ^ i - 1) = x % 2 ^ i := bits_mask .i64 63 (by decide) (fun n h0 h1 => by rw [IntKind.wrap_i64]; omega) i hi x h0 (by omega)
theorem bit_val (B : List Int) (t : Nat) (x : Int) (i s : Nat) (hx : ∀ x ∈ B, 0 ≤ x ∧ x < 256) (hi : t / 8 = i) (hs : t % 8 = s) (hl : i < B.length) (hxe : rd B (i : Int) = x) : 0 ≤ x ∧ x < 256 ∧ Go.bits .and .i64 (x / 2 ^ s) 1 = ((bitAt B t : Nat) : Int) := by
  have e1 : rd B (i : Int) = B[i] := by unfold rd; rw [Int.toNat_natCast]; simp [hl]
  have hm := hx _ (List.getElem_mem hl)
  rw [← e1, hxe] at hm
  obtain ⟨n, rfl⟩ : ∃ n : Nat, x = n := ⟨x.toNat, by omega⟩
  refine ⟨hm.1, hm.2, ?_⟩
  have hp : (2 : Int) ^ s = ((2 ^ s : Nat) : Int) := by push_cast; rfl
  obtain ⟨k, hk⟩ : ∃ k, n / 2 ^ s = k := ⟨_, rfl⟩
  have hd : (n : Int) / 2 ^ s = (k : Int) := by rw [hp, ← hk]; exact (Int.natCast_ediv _ _).symm
  have hle : k ≤ n := by rw [← hk]; exact Nat.div_le_self _ _
  have := and_i64 ((n : Int) / 2 ^ s) 1 (by decide) (by rw [hd]; omega) (by rw [hd]; omega)
  rw [show (2 : Int) ^ 1 - 1 = 1 from rfl, show (2 : Int) ^ 1 = 2 from rfl] at this
  rw [this, hd]
  unfold bitAt
  have e2 : B.getD (t / 8) 0 = (n : Int) := by rw [hi, ← hxe, e1]; simp [hl]
  rw [e2, hs, Int.toNat_natCast, hk]
  omega
set_option maxRecDepth 100000 in
set_option maxHeartbeats 2000000 in
theorem flate_reader_bit.any (w0 : World) (q : Nat) (B : List Int) (t : Nat) (v : Value) (m : Int) (w : World) (h : Rdr w0 q B t v m w) :
    Calls Try.prog 39 #[.pointer (some ⟨q, 0, none⟩)] w fun e w' =>
      KB q w w' ∧ ((t < 8 * B.length ∧ e = .returned (.int .i64 (bitAt B t)) ∧ Rdr w0 q B (t + 1) v m w') ∨ (8 * B.length ≤ t ∧ e = .panicked (faultV 11))) := by
  have H := Aside0.mk h
  obtain ⟨⟨A, c, hb, hc, hC⟩, hx, hn, ht, hq, hB⟩ := h
  have c0 : w.cell? ⟨q, 0, none⟩ = some (.slice A B.length c) := by rw [Lib.cell_of_heap hb]; rfl
  have c1 : w.cell? ⟨q, 1, none⟩ = some (.int .i64 t) := by rw [Lib.cell_of_heap hb]; rfl
  have f1 : w.frozen? ⟨q, 1, none⟩ = false := Lib.frozen_of_heap hb 1
  obtain ⟨i, hi⟩ : ∃ i : Nat, t / 8 = i := ⟨_, rfl⟩
  have e1 : (t : Int) / 8 = (i : Int) := by omega
  by_cases hlt : t < 8 * B.length
  · obtain ⟨ad, hA, hcell⟩ := Kd.at_int hC (i : Int) (by omega) (by omega)
    subst hA
    replace hcell := pw_cell_below hB hcell
    rw [Int.toNat_natCast] at hcell
    have l1 : (i : Int) < B.length := by omega
    obtain ⟨x, hxe⟩ : ∃ x : Int, rd B (i : Int) = x := ⟨_, rfl⟩
    rw [hxe] at hcell
    obtain ⟨s, hs⟩ : ∃ s : Nat, t % 8 = s := ⟨_, rfl⟩
    obtain ⟨hx0, hx1, hb2⟩ := bit_val B t x i s hx hi hs (by omega) hxe
    have hw : wrap64 x = x := by unfold wrap64; omega
    have hs1 : (s : Int) ≤ 64 := by omega
    have hb1 : Go.bits .and .i64 (t : Int) 7 = (s : Int) := (and_i64 (t : Int) 3 (by decide) (by omega) (by omega)).trans (by rw [show (2 : Int) ^ 3 = 8 from rfl]; omega)
    clear hb hC hx hB hi hs hxe
    go_enter Try.func39, Try.ntmps39
    go_wp2
    go_quiet (fail)
    go_wp2
    go_quiet (fail)
    go_wp2
    go_ret
    exact ⟨(KB.drewN _ _ _).trans (KB.set _ _ _ _), .inl ⟨hlt, rfl, (H.out.drewN _).step hlt⟩⟩
  · have l1 : (B.length : Int) ≤ (i : Int) := by omega
    clear hb hC hx hB hi
    go_enter Try.func39, Try.ntmps39
    go_wp2
    go_quiet (fail)
    go_wp2
    exact ⟨rfl, KB.drewN _ _ _, .inr ⟨by omega, rfl⟩⟩

/-! ### flate_reader_bits: function 40 -/
theorem numAt_zero (B : List Int) (t : Nat) : numAt B t 0 = 0 := rfl
theorem or_i64 (a b : Nat) (ha : a < 2 ^ 62) (hb : b < 2 ^ 62) : Go.bits .or .i64 (a : Int) (b : Int) = ((a ||| b : Nat) : Int) := (bits_nat .i64 62 (by decide) (fun n h0 h1 => by rw [IntKind.wrap_i64]; omega) a b ha hb).2
theorem pow2_cast (k : Nat) : (2 : Int) ^ k = ((2 ^ k : Nat) : Int) := by push_cast; rfl
theorem bit_pow (b k : Nat) (hb : b < 2) (hk : k ≤ 16) : b * 2 ^ k ≤ 65536 := by
  have h1 : 2 ^ k ≤ 2 ^ 16 := Nat.pow_le_pow_right (by decide) hk
  have h2 : b * 2 ^ k ≤ 1 * 2 ^ k := Nat.mul_le_mul_right _ (by omega)
  omega
theorem or_add (a b k : Nat) (h : a < 2 ^ k) (hb : b < 2) (hk : k ≤ 16) : Go.bits .or .i64 (a : Int) ((b : Int) * 2 ^ k) = (a : Int) + (b : Int) * 2 ^ k := by
  have h1 : 2 ^ k ≤ 2 ^ 16 := Nat.pow_le_pow_right (by decide) hk
  have h2 := bit_pow b k hb hk
  have e : (b : Int) * 2 ^ k = ((b * 2 ^ k : Nat) : Int) := by rw [pow2_cast]; push_cast; rfl
  rw [e, or_i64 a (b * 2 ^ k) (by omega) (by omega), Nat.or_comm, Nat.mul_comm b, ← Nat.two_pow_add_eq_or_of_lt h b]
  push_cast
  omega
theorem wrap_bit (b k : Nat) (hb : b < 2) (hk : k ≤ 16) : wrap64 ((b : Int) * 2 ^ k) = (b : Int) * 2 ^ k := by
  have h2 := bit_pow b k hb hk
  have e : (b : Int) * 2 ^ k = ((b * 2 ^ k : Nat) : Int) := by rw [pow2_cast]; push_cast; rfl
  rw [e]
  unfold wrap64
  omega
theorem num_step (B : List Int) (t j : Nat) : ((numAt B t j : Nat) : Int) + ((bitAt B (t + j) : Nat) : Int) * 2 ^ j = ((numAt B t (j + 1) : Nat) : Int) := by
  rw [numAt, pow2_cast]; push_cast; rfl
def flate_reader_bits.Inv (w0 : World) (q : Nat) (B : List Int) (t : Nat) (v : Value) (m : Int) (w : World) (k : Nat) (wr : World) (v5 v8 : Value) : Prop :=
  ∃ (j : Nat), v5 = .int .i64 (numAt B t j) ∧ v8 = .int .i64 j ∧ j ≤ k ∧ t + j ≤ 8 * B.length ∧ Rdr w0 q B (t + j) v m wr ∧ KB q w wr
set_option maxRecDepth 100000 in
set_option maxHeartbeats 2000000 in
theorem flate_reader_bits.any (w0 : World) (q : Nat) (B : List Int) (t : Nat) (v : Value) (m : Int) (k : Nat) (ki : Int) (hki : ki = (k : Int)) (w : World) (h : Rdr w0 q B t v m w) (hk : k ≤ 16) :
    Calls Try.prog 40 #[.pointer (some ⟨q, 0, none⟩), .int .i64 ki] w fun e w' =>
      KB q w w' ∧ ((t + k ≤ 8 * B.length ∧ e = .returned (.int .i64 (numAt B t k)) ∧ Rdr w0 q B (t + k) v m w') ∨ (8 * B.length < t + k ∧ e = .panicked (faultV 11))) := by
  subst hki
  have H := Aside0.mk h
  have ht : t ≤ 8 * B.length := h.2.2.2.1
  clear h
  go_enter Try.func40, Try.ntmps40
  go_wp2
  go_loopw [5, 8] (fun v5 v8 wr => Aside0 (flate_reader_bits.Inv w0 q B t v m w k wr v5 v8)) (fun _ v8 _ => k - (intOf v8).toNat)
  case atStart => exact ⟨0, rfl, rfl, Nat.zero_le _, ht, H.out, KB.refl _ _⟩
  case round =>
    obtain ⟨j, rfl, rfl, hj, htj, hr, hB⟩ := hrel.out
    have h1 := Aside0.mk hr
    have h2 := Aside0.mk hB
    clear hrel hr hB
    have hlt2 := numAt_lt B t j
    by_cases hlt : (j : Int) < k
    · have hb2 := bitAt_lt B (t + j)
      have hjl : (j : Int) ≤ 64 := by omega
      have hmin : min j 64 = j := by omega
      have hor := or_add (numAt B t j) (bitAt B (t + j)) j hlt2 hb2 (by omega)
      have hwr : wrap64 (((bitAt B (t + j) : Nat) : Int) * 2 ^ j) = ((bitAt B (t + j) : Nat) : Int) * 2 ^ j := wrap_bit _ _ hb2 (by omega)
      have HN := Aside0.mk (num_step B t j)
      clear hlt2
      go_wp2_with (go_at_call 39; refine (flate_reader_bit.any w0 q B (t + j) v m _ h1.out).mono ?_; rintro e w2 ⟨hB2, ⟨g1, rfl, hr2⟩ | ⟨g1, rfl⟩⟩; have k1 := Aside0.mk hB2; have k2 := Aside0.mk hr2; have k3 := Aside0.mk g1; clear hB2 g1 hr2)
      · go_roundw
        case rel =>
          rw [HN.out]
          exact ⟨j + 1, rfl, by push_cast; rfl, by omega, by have := k3.out; omega, k2.out, h2.out.trans k1.out⟩
        case measure => simp [intOf]; omega
      · exact ⟨rfl, h2.out.trans hB2, .inr ⟨by omega, rfl⟩⟩
    · obtain rfl : j = k := by omega
      have HT := Aside0.mk htj
      clear hlt2 htj
      go_wp2
      go_ret
      exact ⟨h2.out, .inl ⟨HT.out, rfl, h1.out⟩⟩

/-! ### flate_reader_room: function 47 -/
set_option maxRecDepth 100000 in
set_option maxHeartbeats 2000000 in
theorem flate_reader_room.any (w0 : World) (q : Nat) (B : List Int) (t : Nat) (A2 : Option Addr) (n2 c2 : Nat) (m : Int) (k : Nat) (w : World) (h : Rdr w0 q B t (.slice A2 n2 c2) m w) (hn : n2 ≤ 1099511627776) (hm : 0 ≤ m ∧ m ≤ 9223372036854775807) :
    Calls Try.prog 47 #[.pointer (some ⟨q, 0, none⟩), .int .i64 k] w fun e w' =>
      KB q w w' ∧ Rdr w0 q B t (.slice A2 n2 c2) m w' ∧ (((n2 : Int) + k ≤ m ∧ e = .returned (.tuple #[])) ∨ (m < (n2 : Int) + k ∧ e = .panicked (faultV 12))) := by
  have H := Aside0.mk h
  obtain ⟨⟨A, c, hb, hc, hC⟩, hx, hn0, ht, hq, hB⟩ := h
  have c2' : w.cell? ⟨q, 2, none⟩ = some (.slice A2 n2 c2) := by rw [Lib.cell_of_heap hb]; rfl
  have c3 : w.cell? ⟨q, 3, none⟩ = some (.int .i64 m) := by rw [Lib.cell_of_heap hb]; rfl
  clear hb hC hx hB
  have hw : wrap64 (m - (n2 : Int)) = m - n2 := by unfold wrap64; omega
  by_cases hlt : (n2 : Int) + k ≤ m
  · have l1 : ¬ m - (n2 : Int) < k := by omega
    have HL := Aside0.mk hlt
    clear hlt
    go_enter Try.func47, Try.ntmps47
    go_wp2
    go_quiet (fail)
    go_wp2
    go_end0
    exact ⟨KB.drewN _ _ _, H.out.drewN _, .inl ⟨HL.out, rfl⟩⟩
  · have l1 : m - (n2 : Int) < k := by omega
    have HL := Aside0.mk (show m < (n2 : Int) + k by omega)
    clear hlt
    go_enter Try.func47, Try.ntmps47
    go_wp2
    go_quiet (fail)
    go_wp2
    exact ⟨rfl, KB.drewN _ _ _, H.out.drewN _, .inr ⟨HL.out, rfl⟩⟩

/-! ### flate_reader_raw: function 41 -/
/-- A reader with the text that it has made: its row's block is one of 'ok'. -/
def Rdo (w0 : World) (q : Nat) (B : List Int) (t : Nat) (O : List Int) (m : Int) (ok : Nat → Prop) (w : World) : Prop :=
  ∃ v, Rdr w0 q B t v m w ∧ Kd.R (Kd.int .u8) 5 w w0.heap.size (fun k => ok k ∧ k ≠ q) v O ∧ O.length ≤ 300 * t ∧ B.length ≤ 16777216
/-- What a method that makes text keeps. -/
def KO (w0 : World) (q : Nat) (ok : Nat → Prop) (w w' : World) : Prop := Kept w w' (fun k => k = q ∨ ok k) ∧ Below w0.heap.size w w'
theorem KO.refl (w0 : World) (q : Nat) (ok : Nat → Prop) (w : World) : KO w0 q ok w w := ⟨Kept.refl _ _, Below.refl _ _⟩
theorem KB.ko {w0 : World} {q : Nat} {ok : Nat → Prop} {w w' : World} (h : KB q w w') (hq : w0.heap.size ≤ q) : KO w0 q ok w w' := ⟨h.1.mono (fun _ h => .inl h), h.2.mono hq⟩
theorem KO.trans {w0 : World} {q : Nat} {ok : Nat → Prop} {u v w : World} (h : KO w0 q ok u v) (k : KO w0 q ok v w) : KO w0 q ok u w := ⟨Kept.then_ h.1 k.1 (fun _ h => .inl h), h.2.trans k.2⟩
/-- Over a step that turns the reader's block alone. -/
theorem Rdo.kb {w0 : World} {q : Nat} {B O : List Int} {t t' : Nat} {m : Int} {ok : Nat → Prop} {w w' : World} {v : Value} (hR : Kd.R (Kd.int .u8) 5 w w0.heap.size (fun k => ok k ∧ k ≠ q) v O) (ho : O.length ≤ 300 * t) (hB : B.length ≤ 16777216) (hk : KB q w w') (h : Rdr w0 q B t' v m w') (ht : t ≤ t') : Rdo w0 q B t' O m ok w' :=
  ⟨v, h, Kd.R_step hR (fun k hk2 hlt => hk.1.2 k hlt hk2.2), by omega, hB⟩
def rawL (B : List Int) (t : Nat) (O : List Int) (m : Int) : Except Int (Nat × List Int) :=
  if 8 * B.length < (t + 7) / 8 * 8 + 32 then .error 11
  else if numAt B ((t + 7) / 8 * 8 + 16) 16 ≠ 65535 - numAt B ((t + 7) / 8 * 8) 16 then .error 10
  else if m < (O.length : Int) + numAt B ((t + 7) / 8 * 8) 16 then .error 12
  else if B.length < (t + 7) / 8 + 4 + numAt B ((t + 7) / 8 * 8) 16 then .error 11
  else .ok ((t + 7) / 8 * 8 + 32 + 8 * numAt B ((t + 7) / 8 * 8) 16, O ++ (B.drop ((t + 7) / 8 + 4)).take (numAt B ((t + 7) / 8 * 8) 16))
theorem not7_bits (z : BitVec 64) (hz : BitVec.ofInt 64 7 = z) (i : Nat) : z.getLsbD i = decide (i < 3) := by
  subst hz
  rw [← BitVec.testBit_toNat, show (BitVec.ofInt 64 7).toNat = 2 ^ 3 - 1 by decide, Nat.testBit_two_pow_sub_one]
theorem not7 (x : Nat) (hx : x < 1099511627776) : Go.bits .andNot .i64 (x : Int) 7 = ((x / 8 * 8 : Nat) : Int) := by
  obtain ⟨z, hz⟩ : ∃ z, BitVec.ofInt 64 7 = z := ⟨_, rfl⟩
  have e : (BitVec.ofInt 64 (x : Int) &&& ~~~ z).toNat = x / 8 * 8 := by
    apply Nat.eq_of_testBit_eq
    intro i
    rw [BitVec.toNat_and, Nat.testBit_and, BitVec.ofInt_natCast, BitVec.toNat_ofNat, Nat.mod_eq_of_lt (by omega)]
    rw [show x / 8 * 8 = 2 ^ 3 * (x / 2 ^ 3) by rw [Nat.mul_comm], Nat.testBit_two_pow_mul, Nat.testBit_div_two_pow]
    rw [BitVec.testBit_toNat, BitVec.getLsbD_not, not7_bits z hz]
    by_cases h64 : i < 64
    · by_cases h3 : i < 3
      · simp [h64, h3, show ¬ 3 ≤ i by omega]
      · simp [h3, h64, show 3 ≤ i by omega, show i - 3 + 3 = i by omega]
    · have hx0 : x.testBit i = false := Nat.testBit_lt_two_pow (Nat.lt_of_lt_of_le (show x < 2 ^ 64 by omega) (Nat.pow_le_pow_right (by decide) (by omega)))
      have h4 : x.testBit (i - 3 + 3) = false := by rw [show i - 3 + 3 = i by omega]; exact hx0
      simp [h64, h4, hx0]
  show IntKind.i64.wrap (((BitVec.ofInt 64 (x : Int) &&& ~~~ BitVec.ofInt 64 7).toNat : Nat) : Int) = _
  rw [hz, e, IntKind.wrap_i64]
  omega
theorem xor_all (n : Nat) (hn : n < 65536) : Go.bits .xor .i64 (n : Int) 65535 = ((65535 - n : Nat) : Int) := by
  have e : (BitVec.ofInt 64 (n : Int) ^^^ BitVec.ofInt 64 65535).toNat = 65535 - n := by
    apply Nat.eq_of_testBit_eq
    intro i
    have e65 : (BitVec.ofInt 64 65535).toNat = 2 ^ 16 - 1 := by decide
    rw [BitVec.toNat_xor, Nat.testBit_xor, BitVec.ofInt_natCast, BitVec.toNat_ofNat, Nat.mod_eq_of_lt (by omega), e65, Nat.testBit_two_pow_sub_one, show 65535 - n = 2 ^ 16 - (n + 1) by omega, Nat.testBit_two_pow_sub_succ (by omega)]
    by_cases h : i < 16
    · simp [h]
    · have : n.testBit i = false := Nat.testBit_lt_two_pow (Nat.lt_of_lt_of_le (show n < 2 ^ 16 by omega) (Nat.pow_le_pow_right (by decide) (by omega)))
      simp [h, this]
  show IntKind.i64.wrap (((BitVec.ofInt 64 (n : Int) ^^^ BitVec.ofInt 64 65535).toNat : Nat) : Int) = _
  rw [e, IntKind.wrap_i64]
  omega
theorem mid_row {w : World} {A : Option Addr} {B : List Int} {c : Nat} (h : Kd.C (Kd.int .u8) w A B.length B) (hc : B.length ≤ c) (lo n hi : Nat) (hl : hi ≤ B.length) (hh : lo + n = hi) :
    ∃ A', (∀ W, (Instr.slice 22 (.slice A B.length c) (some (.int .i64 (lo : Int))) (some (.int .i64 (hi : Int))) none).run Try.prog W = .ok (.slice A' n (c - lo)) W) ∧ Kd.C (Kd.int .u8) w A' n ((B.drop lo).take n) := by
  obtain ⟨i0, hi0, _, hsz, _⟩ := info_parts info5
  have hcut := cut_mid (P := Try.prog) 22 5 .i64 .i64 Try.underlying22 hi0 1 hsz A B.length c (lo : Int) (hi : Int) (by omega) (by omega) (by omega) hc
  simp only [Int.toNat_natCast, Nat.mul_one] at hcut
  have h1 := Kd.C_drop (m := lo) (c := c) h (by omega) hc
  have hl2 : n ≤ (B.drop lo).length := by rw [List.length_drop]; omega
  have h2 := Kd.C_take (m := n) h1 hl2
  rw [List.length_take, Nat.min_eq_left hl2, show (Kd.int .u8).sz = 1 from rfl, Nat.mul_one] at h2
  refine ⟨_, ?_, h2⟩
  intro W
  rw [hcut W, show hi - lo = n by omega]
theorem Rdr.drew {w0 : World} {q : Nat} {B : List Int} {t : Nat} {v : Value} {m : Int} {w : World} (h : Rdr w0 q B t v m w) : Rdr w0 q B t v m w.drew := by
  obtain ⟨⟨A, c, hb, hc, hC⟩, h1, h2, h3, h4, h5⟩ := h
  exact ⟨⟨A, c, hb, hc, hC⟩, h1, h2, h3, h4, below_drew1 h5⟩
theorem KO.grown {w0 : World} {q : Nat} {ok : Nat → Prop} {w w' : World} {row : Option Nat} (hg : w.grownBy w' row) (hs : w0.heap.size ≤ w.heap.size) (hr : ∀ k, row = some k → ok k ∧ w0.heap.size ≤ k) : KO w0 q ok w w' :=
  ⟨Kept.of_grown hg (Kept.refl _ _) (fun k e => .inl (.inr (hr k e).1)), (Below.refl _ _).grown hg hs (fun k e => (hr k e).2)⟩
theorem KO.set {w0 : World} {q : Nat} {ok : Nat → Prop} (w : World) (o : Nat) (v : Value) (hq : w0.heap.size ≤ q) : KO w0 q ok w (w.setCell ⟨q, o, none⟩ v) :=
  ⟨(Kept.refl w _).setCell (p := ⟨q, o, none⟩) (.inl (.inl rfl)) _, (Below.refl _ w).setCell (p := ⟨q, o, none⟩) hq _⟩
theorem KO.drew {w0 : World} {q : Nat} {ok : Nat → Prop} (w : World) : KO w0 q ok w w.drew := ⟨Kept.drew (Kept.refl w _), below_drew1 (Below.refl _ _)⟩
theorem R_set {w : World} {q o : Nat} {ok : Nat → Prop} {v u : Value} {xs : List Int} {e : Nat} {b : Nat} (h : Kd.R (Kd.int .u8) e w b (fun k => ok k ∧ k ≠ q) v xs) : Kd.R (Kd.int .u8) e (w.setCell ⟨q, o, none⟩ u) b (fun k => ok k ∧ k ≠ q) v xs :=
  Kd.R_step h (fun k hk _ => Below.heap_setCell _ _ _ k hk.2)
theorem wp_ways {P : Program} {o : Oper} {a : Act} {w : World} {K : Act → World → Prop} {Q Q' : Exit → Act → World → Prop} (hq : ∀ c a w, Q (.panic c) a w → Q' (.panic c) a w) (ho : ∀ a w, Q .outgrown a w → Q' .outgrown a w) (hh : o.wp P a w K Q) : o.wp P a w K Q' := by
  unfold Oper.wp at *
  generalize (execOp a.eval o).run P w = r at *
  cases r with
  | ok n w' =>
    cases n <;> simp only [Oper.upon] at hh ⊢ <;>
      first
        | exact hh
        | exact Calls.mono hh (fun e w'' he => by cases e <;> first | exact hq _ _ _ he | exact (let ⟨x, y, z⟩ := he; ⟨x, y, ho _ _ z⟩) | exact he)
  | halt x w' => cases x <;> simp only [Oper.upon] at hh ⊢ <;> first | exact hq _ _ _ hh | exact hh
/-- append to a row of the call's own, as one step of a region that draws. -/
theorem step_rows {α : Type} {P : Program} {ops : Array Oper} {o : Oper} {a : Act} {W : World} {K : Act → World → Prop} {Q : Exit → Act → World → Prop} {E : Prop} (d : Kd α) {Rr : α → List Value → Prop} {w0 : World} (base : Nat) (hgd : o.guard = none) (s x : Operand) (t e : TypeId) (z : Value) (bytes : Nat)
    (ho : o.op = .call { callee := .builtin .append, args := #[s, x], argTypes := #[t, t] })
    (ht : P.underlying t = some (.slice e)) (hinfo : (P.info? e).map (fun i => (i.zero, i.size, i.bytes)) = some (some z, d.sz, bytes)) (hz : z.cells.size = d.sz) (hs0 : 0 < d.sz) (hb0 : 0 < bytes)
    (v : Value) (xs ys : List α) (A : Option Addr) (m c : Nat) (ok : Nat → Prop) (hs : a.eval s = v) (hx : a.eval x = .slice A m c)
    (HO : d.R e W base ok v xs) (HR : ReadsRow Rr d.sz W A m ys) (hKM : ∀ x cs, Rr x cs → d.M W base (fun _ => False) x cs) (hfresh : ∀ k, W.heap.size ≤ k → ok k)
    (HB : Below base w0 W) (hbase : base ≤ W.heap.size) (hl : (xs.length + m) * bytes ≤ 140737488355328)
    (h : ∀ v1 w1, d.R e w1 base ok v1 (xs ++ ys) → Below base w0 w1 → W.grownBy w1 v.ownBlock → K (a.put o.dst v1) w1) :
    if Region.wanted o (yielded ops a.tmps) = true then Oper.wp P o a W K Q else E := by
  have hw : Region.wanted o (yielded ops a.tmps) = true := by simp [Region.wanted, hgd]
  rw [if_pos hw]
  have h2 := Kd.R_append_rows (P := P) (ops := ops) (rest := []) (Q := fun e a' w' => e = .normal ∧ K a' w') (o := o) (a := a) d (w0 := w0) base hgd s x t e z bytes ho ht hinfo hz hs0 hb0 v xs ys A m c ok (fun _ => False) hs hx HO HR hKM (fun _ h => h.elim) hfresh HB hbase hl (fun v1 w1 a1 a2 a3 _ => ⟨rfl, h v1 w1 a1 a2 a3⟩)
  unfold wpList at h2
  rw [if_pos hw] at h2
  rcases h2 with h2 | ⟨_, a3, w3, h3⟩
  · have h3 := Oper.wp_mono (K' := K) (fun a' w' (hh : (_ : Prop)) => hh.2) h2
    exact wp_ways (Q := fun e a' w' => e = .normal ∧ K a' w') (fun c a' w' hh => by cases hh.1) (fun a' w' hh => by cases hh.1) h3
  · cases h3.1
/-- Behind what the method does to the row. -/
theorem Rdr.row {w0 : World} {q : Nat} {B : List Int} {t : Nat} {v v' : Value} {m : Int} {w w' : World} {row : Option Nat} (h : Rdr w0 q B t v m w) (hg : w.grownBy w' row) (hne : some q ≠ row) (hB : Below w0.heap.size w0 w') : Rdr w0 q B t v' m (w'.setCell ⟨q, 2, none⟩ v') := by
  obtain ⟨⟨A, c, hb, hc, hC⟩, h1, h2, h3, h4, h5⟩ := h
  have hb' : w'.heap[q]? = _ := blk_grown hb hg hne
  refine ⟨⟨A, c, ?_, hc, hC⟩, h1, h2, h3, h4, hB.setCell (p := ⟨q, 2, none⟩) h4 _⟩
  simp [World.setCell, Array.getElem?_modify, hb']
set_option maxRecDepth 100000 in
set_option maxHeartbeats 8000000 in
theorem flate_reader_raw.any (w0 : World) (q : Nat) (B O : List Int) (t : Nat) (m : Int) (ok : Nat → Prop) (w : World) (h : Rdo w0 q B t O m ok w) (hok : ∀ k, w.heap.size ≤ k → ok k) (hm : 0 ≤ m ∧ m ≤ 9223372036854775807) :
    Calls Try.prog 41 #[.pointer (some ⟨q, 0, none⟩)] w fun e w' =>
      KO w0 q ok w w' ∧ ((∃ t' O', rawL B t O m = .ok (t', O') ∧ e = .returned (.tuple #[]) ∧ Rdo w0 q B t' O' m ok w') ∨ (∃ x, rawL B t O m = .error x ∧ e = .panicked (faultV x))) := by
  obtain ⟨v, hr, hR, ho, hBl⟩ := h
  obtain ⟨A2, c2, rfl⟩ := Kd.R_slice hR
  have HR := Aside0.mk hR
  have ht : t ≤ 8 * B.length := hr.2.2.2.1
  have hq : w0.heap.size ≤ q := hr.2.2.2.2.1
  obtain ⟨i1, hi1⟩ : ∃ i1, (t + 7) / 8 = i1 := ⟨_, rfl⟩
  obtain ⟨t1, ht1⟩ : ∃ t1, i1 * 8 = t1 := ⟨_, rfl⟩
  obtain ⟨t2, ht2⟩ : ∃ t2, t1 + 16 = t2 := ⟨_, rfl⟩
  obtain ⟨t3, ht3⟩ : ∃ t3, t2 + 16 = t3 := ⟨_, rfl⟩
  obtain ⟨n1, hn1⟩ : ∃ n1, numAt B t1 16 = n1 := ⟨_, rfl⟩
  obtain ⟨n2, hn2⟩ : ∃ n2, numAt B t2 16 = n2 := ⟨_, rfl⟩
  have hraw : rawL B t O m = (if 8 * B.length < t3 then .error 11 else if n2 ≠ 65535 - n1 then .error 10 else if m < (O.length : Int) + n1 then .error 12 else if B.length < i1 + 4 + n1 then .error 11 else .ok (t3 + 8 * n1, O ++ (B.drop (i1 + 4)).take n1)) := by
    unfold rawL
    rw [hi1, ht1, ht2, hn1, hn2, show t1 + 32 = t3 by omega]
  have hn1b : n1 < 65536 := hn1 ▸ numAt_lt B t1 16
  have HN1 := Aside0.mk hn1
  have HN2 := Aside0.mk hn2
  clear hn1 hn2
  have ht1b : t1 ≤ 8 * B.length := by omega
  obtain ⟨x1, hx1⟩ : ∃ x1, 65535 - n1 = x1 := ⟨_, rfl⟩
  rw [hx1] at hraw
  have HA := Aside0.mk (show t ≤ 8 * B.length ∧ t1 ≤ 8 * B.length ∧ t1 + 16 = t2 ∧ t2 + 16 = t3 ∧ i1 * 8 = t1 ∧ t ≤ t1 ∧ n1 < 65536 ∧ 65535 - n1 = x1 ∧ O.length ≤ 300 * t ∧ B.length ≤ 16777216 from ⟨ht, ht1b, ht2, ht3, ht1, by omega, hn1b, hx1, ho, hBl⟩)
  have e7 : (t : Int) ≤ 134217728 := by omega
  have ha7 : Go.bits .andNot .i64 ((t : Int) + 7) 7 = (t1 : Int) := by
    have e := not7 (t + 7) (by omega)
    have e2 : ((t + 7 : Nat) : Int) = (t : Int) + 7 := by omega
    rw [e2, hi1, ht1] at e
    exact e
  have hxor := xor_all n1 hn1b
  rw [hx1] at hxor
  have H1 := Aside0.mk (hr.set t1 ht1b)
  have hgood := hr
  obtain ⟨⟨A, c, hb, hc, hC⟩, hx, hn, _, _, hB⟩ := hr
  have c1 : w.cell? ⟨q, 1, none⟩ = some (.int .i64 t) := by rw [Lib.cell_of_heap hb]; rfl
  have f1 : w.frozen? ⟨q, 1, none⟩ = false := Lib.frozen_of_heap hb 1
  have HBB := Aside0.mk hB
  have KS := Aside0.mk (KB.set q 1 w (.int .i64 (t1 : Int)))
  have HC := Aside0.mk hc
  have HQ := Aside0.mk hq
  have HM := Aside0.mk hm
  have HOK := Aside0.mk hok
  clear hb hC hx hB hR hgood hi1 ht ht1b ht1 ht2 ht3 hn1b hx1 ho hBl hc hm hok hn hq
  by_cases hs : 8 * B.length < t3
  · rw [if_pos hs] at hraw
    have HW := Aside0.mk hraw
    have HS := Aside0.mk hs
    clear hraw hxor hs
    go_enter Try.func41, Try.ntmps41
    go_wp2_with (first
      | (go_at_call 40; have q_ := g1; clear q_; refine (flate_reader_bits.any w0 q B t2 _ m 16 16 rfl _ h2 (by decide)).mono ?_; rintro e w3 ⟨hB3, ⟨g2, rfl, hr3⟩ | ⟨g2, rfl⟩⟩; (exact absurd g2 (by have := HA.out; have := HS.out; omega)))
      | (go_at_call 40; refine (flate_reader_bits.any w0 q B t1 _ m 16 16 rfl _ H1.out (by decide)).mono ?_; rintro e w2 ⟨hB2, ⟨g1, rfl, hr2⟩ | ⟨g1, rfl⟩⟩; have h2 := hr2; rw [HA.out.2.2.1] at h2; rw [HN1.out]))
    · exact ⟨rfl, (KS.out.trans (hB2.trans hB3)).ko HQ.out, .inr ⟨11, HW.out, rfl⟩⟩
    · exact ⟨rfl, (KS.out.trans hB2).ko HQ.out, .inr ⟨11, HW.out, rfl⟩⟩
  · rw [if_neg hs] at hraw
    have HS := Aside0.mk hs
    by_cases hxe : n2 = x1
    · rw [if_neg (fun h => h hxe)] at hraw
      have hxi : (n2 : Int) = (x1 : Int) := by rw [hxe]
      by_cases hlong : m < (O.length : Int) + n1
      · rw [if_pos hlong] at hraw
        have HW := Aside0.mk hraw
        have HL := Aside0.mk hlong
        clear hraw hs hxe hlong
        go_enter Try.func41, Try.ntmps41
        go_wp2_with (first
          | (go_at_call 47; refine (flate_reader_room.any w0 q B t3 A2 O.length c2 m n1 _ h3 (by have := HA.out; omega) HM.out).mono ?_; rintro e w4 ⟨hB4, hr4, ⟨g3, rfl⟩ | ⟨g3, rfl⟩⟩; (exact absurd g3 (by have := HL.out; omega)))
          | (go_at_call 40; have q_ := g1; clear q_; refine (flate_reader_bits.any w0 q B t2 _ m 16 16 rfl _ h2 (by decide)).mono ?_; rintro e w3 ⟨hB3, ⟨g2, rfl, hr3⟩ | ⟨g2, rfl⟩⟩; rotate_left; (exact absurd g2 (by have := HA.out; have := HS.out; omega)); have h3 := hr3; rw [HA.out.2.2.2.1] at h3; rw [HN2.out]; have K3 := Aside0.mk (KS.out.trans (hB2.trans hB3)))
          | (go_at_call 40; refine (flate_reader_bits.any w0 q B t1 _ m 16 16 rfl _ H1.out (by decide)).mono ?_; rintro e w2 ⟨hB2, ⟨g1, rfl, hr2⟩ | ⟨g1, rfl⟩⟩; have h2 := hr2; rw [HA.out.2.2.1] at h2; rw [HN1.out]))
        · exact ⟨rfl, (K3.out.trans hB4).ko HQ.out, .inr ⟨12, HW.out, rfl⟩⟩
        · exact absurd g1 (by have := HA.out; have := HS.out; omega)
      · rw [if_neg hlong] at hraw
        have HL := Aside0.mk hlong
        obtain ⟨i4, hi4⟩ : ∃ i4, i1 + 4 = i4 := ⟨_, rfl⟩
        rw [hi4] at hraw
        have e3 : (t3 : Int) / 8 = (i4 : Int) := by have := HA.out; omega
        have B4 : (i4 : Int) ≤ B.length := by have := HA.out; omega
        have B5 : (B.length : Int) ≤ 16777216 := by have := HA.out; omega
        have B6 : (n1 : Int) < 65536 := by have := HA.out; omega
        have B7 : (t3 : Int) ≤ 134217728 := by have := HA.out; omega
        by_cases hsh : B.length < i4 + n1
        · rw [if_pos hsh] at hraw
          have HW := Aside0.mk hraw
          have hsh1 : decide ((B.length : Int) - (i4 : Int) < (n1 : Int)) = true := decide_eq_true (by omega)
          clear hraw hs hxe hlong hsh
          go_enter Try.func41, Try.ntmps41
          go_wp2_with (first
            | (go_at_call 47; refine (flate_reader_room.any w0 q B t3 A2 O.length c2 m n1 _ h3 (by have := HA.out; omega) HM.out).mono ?_; rintro e w4 ⟨hB4, hr4, ⟨g3, rfl⟩ | ⟨g3, rfl⟩⟩; rotate_left; (exact absurd g3 (by have := HL.out; omega)); obtain ⟨⟨A, c, hb, hc, hC⟩, _, _, _, _, hB⟩ := id hr4; have d0 : w4.cell? ⟨q, 0, none⟩ = some (.slice A B.length c) := (by rw [Lib.cell_of_heap hb]; rfl); have d1 : w4.cell? ⟨q, 1, none⟩ = some (.int .i64 t3) := (by rw [Lib.cell_of_heap hb]; rfl); have d2 : w4.cell? ⟨q, 2, none⟩ = some (.slice A2 O.length c2) := (by rw [Lib.cell_of_heap hb]; rfl); have HC4 := Aside0.mk (Kd.C_below hC hB); have HCC := Aside0.mk hc; have K4 := Aside0.mk (K3.out.trans hB4); have HR4 := Aside0.mk hr4; clear hb hc hC hB hr4 hB4)
            | (go_at_call 40; have q_ := g1; clear q_; refine (flate_reader_bits.any w0 q B t2 _ m 16 16 rfl _ h2 (by decide)).mono ?_; rintro e w3 ⟨hB3, ⟨g2, rfl, hr3⟩ | ⟨g2, rfl⟩⟩; rotate_left; (exact absurd g2 (by have := HA.out; have := HS.out; omega)); have h3 := hr3; rw [HA.out.2.2.2.1] at h3; rw [HN2.out]; have K3 := Aside0.mk (KS.out.trans (hB2.trans hB3)))
            | (go_at_call 40; refine (flate_reader_bits.any w0 q B t1 _ m 16 16 rfl _ H1.out (by decide)).mono ?_; rintro e w2 ⟨hB2, ⟨g1, rfl, hr2⟩ | ⟨g1, rfl⟩⟩; have h2 := hr2; rw [HA.out.2.2.1] at h2; rw [HN1.out]))
          · exact ⟨rfl, K4.out.ko HQ.out, .inr ⟨11, HW.out, rfl⟩⟩
          · exact absurd g1 (by have := HA.out; have := HS.out; omega)
        · rw [if_neg hsh] at hraw
          have HW := Aside0.mk hraw
          obtain ⟨hi, hhi⟩ : ∃ hi, i4 + n1 = hi := ⟨_, rfl⟩
          have hsum : (i4 : Int) + (n1 : Int) = (hi : Int) := by omega
          have hhb : (hi : Int) ≤ B.length := by omega
          have HI := Aside0.mk hhi
          have HHB := Aside0.mk (show hi ≤ B.length by omega)
          have hsh1 : decide ((B.length : Int) - (i4 : Int) < (n1 : Int)) = false := decide_eq_false (by omega)
          clear hraw hs hxe hlong hsh hhi
          go_enter Try.func41, Try.ntmps41
          go_wp2_with (first
            | (go_at_call 47; refine (flate_reader_room.any w0 q B t3 A2 O.length c2 m n1 _ h3 (by have := HA.out; omega) HM.out).mono ?_; rintro e w4 ⟨hB4, hr4, ⟨g3, rfl⟩ | ⟨g3, rfl⟩⟩; rotate_left; (exact absurd g3 (by have := HL.out; omega)); obtain ⟨⟨A, c, hb, hc, hC⟩, _, _, _, _, hB⟩ := id hr4; have d0 : w4.cell? ⟨q, 0, none⟩ = some (.slice A B.length c) := (by rw [Lib.cell_of_heap hb]; rfl); have d1 : w4.cell? ⟨q, 1, none⟩ = some (.int .i64 t3) := (by rw [Lib.cell_of_heap hb]; rfl); have d2 : w4.cell? ⟨q, 2, none⟩ = some (.slice A2 O.length c2) := (by rw [Lib.cell_of_heap hb]; rfl); have HC4 := Aside0.mk (Kd.C_below hC hB); have HCC := Aside0.mk hc; have K4 := Aside0.mk (K3.out.trans hB4); have HR4 := Aside0.mk hr4; clear hb hc hC hB hr4 hB4)
            | (go_at_call 40; have q_ := g1; clear q_; refine (flate_reader_bits.any w0 q B t2 _ m 16 16 rfl _ h2 (by decide)).mono ?_; rintro e w3 ⟨hB3, ⟨g2, rfl, hr3⟩ | ⟨g2, rfl⟩⟩; rotate_left; (exact absurd g2 (by have := HA.out; have := HS.out; omega)); have h3 := hr3; rw [HA.out.2.2.2.1] at h3; rw [HN2.out]; have K3 := Aside0.mk (KS.out.trans (hB2.trans hB3)))
            | (go_at_call 40; refine (flate_reader_bits.any w0 q B t1 _ m 16 16 rfl _ H1.out (by decide)).mono ?_; rintro e w2 ⟨hB2, ⟨g1, rfl, hr2⟩ | ⟨g1, rfl⟩⟩; have h2 := hr2; rw [HA.out.2.2.1] at h2; rw [HN1.out]))
          rotate_left
          · exact absurd g1 (by have := HA.out; have := HS.out; omega)
          obtain ⟨A6, hcut, hC6⟩ := mid_row HC4.out HCC.out i4 n1 hi HHB.out HI.out
          have HC6 := Aside0.mk hC6
          clear hC6
          obtain ⟨Y, hY⟩ : ∃ Y, O ++ (B.drop i4).take n1 = Y := ⟨_, rfl⟩
          obtain ⟨tf, htf⟩ : ∃ tf, t3 + 8 * n1 = tf := ⟨_, rfl⟩
          have HF := Aside0.mk htf
          have htf1 : (t3 : Int) + 8 * (n1 : Int) = (tf : Int) := by omega
          have HYL := Aside0.mk (show Y.length = O.length + n1 by rw [← hY, List.length_append, List.length_take, List.length_drop]; have := HI.out; have := HHB.out; omega)
          rw [hY, htf] at HW
          have HY := Aside0.mk hY
          clear htf hY
          have hwr : IntKind.i64.wrap (hi : Int) = (hi : Int) := by rw [IntKind.wrap_i64]; omega
          have hso : some q ≠ (Value.slice A2 O.length c2).ownBlock := fun e => (HR.out.1 q e.symm).2 rfl
          have HR4' := Aside0.mk (Kd.R_step HR.out (fun k hk2 hlt => K4.out.1.2 k hlt hk2.2))
          have HLT := Aside0.mk (show O.length + n1 ≤ 140737488355328 by have := HA.out; omega)
          have HQ4 := Aside0.mk (show ∀ k, w4.heap.size ≤ k → ok k ∧ k ≠ q from fun k hk => ⟨HOK.out k (Nat.le_trans K4.out.2.size hk), by have := HR4.out; have := blk_lt (HR4.out.1.choose_spec.choose_spec.1); omega⟩)
          have HB4 := Aside0.mk HR4.out.2.2.2.2.2
          have HSZ := Aside0.mk (show w0.heap.size ≤ w4.heap.size from HB4.out.size)
          go_region_law (refine step_rows (Kd.int .u8) (w0 := w0) w0.heap.size rfl (.tmp 43) (.tmp 52) 22 5 (.int .u8 0) 1 rfl Try.underlying22 info5 rfl (by decide) (by omega) (.slice A2 O.length c2) O ((B.drop i4).take n1) A6 n1 (c - i4) (fun k => ok k ∧ k ≠ q) (by simp [Act.eval, Act.put]) (by simp [Act.eval, Act.put]) (Kd.R_drew HR4'.out) (Kd.C_drew HC6.out) (fun _ _ h => h) HQ4.out (below_drew1 HB4.out) HSZ.out (by have := HLT.out; omega) ?_; intro v1 w5 ho hb hg; rw [HY.out] at ho; obtain ⟨A5, c5, rfl⟩ := Kd.R_slice ho; obtain ⟨⟨A7, c7, hbq, _, _⟩, _⟩ := id HR4.out; have hb5 := blk_grown (show w4.drew.heap[q]? = _ from hbq) hg hso; have p1 : w5.cell? ⟨q, 1, none⟩ = some (.int .i64 t3) := (by rw [Lib.cell_of_heap hb5]; rfl); have p2 : w5.cell? ⟨q, 2, none⟩ = some (.slice A2 O.length c2) := (by rw [Lib.cell_of_heap hb5]; rfl); have z1 : w5.frozen? ⟨q, 1, none⟩ = false := Lib.frozen_of_heap hb5 1; have z2 : w5.frozen? ⟨q, 2, none⟩ = false := Lib.frozen_of_heap hb5 2; have HO5 := Aside0.mk ho; have HG5 := Aside0.mk hg; have HB5 := Aside0.mk hb; clear hb5 hbq ho hg hb)
          all_goals
            go_wp2
            go_end0
            have hrow : ∀ k, (Value.slice A2 O.length c2).ownBlock = some k → ok k ∧ w0.heap.size ≤ k := fun k e => ⟨(HR.out.1 k e).1, Kd.R_base HR.out k e⟩
            exact ⟨(K4.out.ko HQ.out).trans ((KO.drew w4).trans ((KO.grown HG5.out HSZ.out hrow).trans ((KO.set _ _ _ HQ.out).trans (KO.set _ _ _ HQ.out)))), .inl ⟨_, _, HW.out, rfl, _, (HR4.out.drew.row HG5.out hso HB5.out).set tf (by have := HF.out; have := HI.out; have := HHB.out; have := HA.out; omega), R_set (R_set HO5.out), by have := HYL.out; have := HF.out; have := HA.out; omega, by have := HA.out; omega⟩⟩
    · rw [if_pos hxe] at hraw
      have HW := Aside0.mk hraw
      have hxi : ¬ (n2 : Int) = (x1 : Int) := by omega
      clear hraw hs hxe
      go_enter Try.func41, Try.ntmps41
      go_wp2_with (first
        | (go_at_call 40; have q_ := g1; clear q_; refine (flate_reader_bits.any w0 q B t2 _ m 16 16 rfl _ h2 (by decide)).mono ?_; rintro e w3 ⟨hB3, ⟨g2, rfl, hr3⟩ | ⟨g2, rfl⟩⟩; rotate_left; (exact absurd g2 (by have := HA.out; have := HS.out; omega)); have h3 := hr3; rw [HA.out.2.2.2.1] at h3; rw [HN2.out]; have K3 := Aside0.mk (KS.out.trans (hB2.trans hB3)))
        | (go_at_call 40; refine (flate_reader_bits.any w0 q B t1 _ m 16 16 rfl _ H1.out (by decide)).mono ?_; rintro e w2 ⟨hB2, ⟨g1, rfl, hr2⟩ | ⟨g1, rfl⟩⟩; have h2 := hr2; rw [HA.out.2.2.1] at h2; rw [HN1.out]))
      · exact ⟨rfl, K3.out.ko HQ.out, .inr ⟨10, HW.out, rfl⟩⟩
      · exact absurd g1 (by have := HA.out; have := HS.out; omega)

end Go.Proofs.Ytbokeoncpilgpaa.Hp
