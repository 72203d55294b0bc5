/- Go functions of this seat as Lean functions, and their contracts: what the Go code computes, for every input. (By hp.py, a program of this repo, over the kit's print.py.) -/
import Derived.Test.YtjmcdocoogdbiaaDoorHp0
namespace Go.Proofs.YtjmcdocoogdbiaaDoor.Hp
open Go.RowKit Go.Proofs.YtjmcdocoogdbiaaDoorW.PrintWords Go.Proofs.YtjmcdocoogdbiaaDoorW.PrintLast Go.Proofs.YtjmcdocoogdbiaaDoorW.PrintMore
attribute [local go_sem] max2_int min2_int max_two min_two max_three min_three max_four min_four   -- for this text's walks alone
set_option linter.unusedVariables false
set_option linter.unusedSimpArgs false

/-! ### lanyardref03_Percent: function 12 -/
mutual
def lanyardref03_Percent.l0 : Nat → ByteArray → ByteArray → ByteArray → Int → Option (ByteArray)
 | 0, _, _, _, _ => none
 | k + 1, x0, x3, x4, x5 => if x5 < (x0.size : Int) then (if 0 ≤ x5 then (if (bt x0 x5) ≥ 65 then (if (bt x0 x5) ≤ 90 then (lanyardref03_Percent.j1 k x0 x3 x4 x5 (bt x0 x5) true) else (if (bt x0 x5) ≥ 97 then (if (bt x0 x5) ≤ 122 then (lanyardref03_Percent.j1 k x0 x3 x4 x5 (bt x0 x5) true) else (if (bt x0 x5) ≥ 48 then (if (bt x0 x5) ≤ 57 then (lanyardref03_Percent.j1 k x0 x3 x4 x5 (bt x0 x5) true) else (if (bt x0 x5) = 45 then (lanyardref03_Percent.j1 k x0 x3 x4 x5 (bt x0 x5) true) else (if (bt x0 x5) = 46 then (lanyardref03_Percent.j1 k x0 x3 x4 x5 (bt x0 x5) true) else (if (bt x0 x5) = 95 then (lanyardref03_Percent.j1 k x0 x3 x4 x5 (bt x0 x5) true) else (lanyardref03_Percent.j1 k x0 x3 x4 x5 (bt x0 x5) ((bt x0 x5) == 126)))))) else (if (bt x0 x5) = 45 then (lanyardref03_Percent.j1 k x0 x3 x4 x5 (bt x0 x5) true) else (if (bt x0 x5) = 46 then (lanyardref03_Percent.j1 k x0 x3 x4 x5 (bt x0 x5) true) else (if (bt x0 x5) = 95 then (lanyardref03_Percent.j1 k x0 x3 x4 x5 (bt x0 x5) true) else (lanyardref03_Percent.j1 k x0 x3 x4 x5 (bt x0 x5) ((bt x0 x5) == 126))))))) else (if (bt x0 x5) ≥ 48 then (if (bt x0 x5) ≤ 57 then (lanyardref03_Percent.j1 k x0 x3 x4 x5 (bt x0 x5) true) else (if (bt x0 x5) = 45 then (lanyardref03_Percent.j1 k x0 x3 x4 x5 (bt x0 x5) true) else (if (bt x0 x5) = 46 then (lanyardref03_Percent.j1 k x0 x3 x4 x5 (bt x0 x5) true) else (if (bt x0 x5) = 95 then (lanyardref03_Percent.j1 k x0 x3 x4 x5 (bt x0 x5) true) else (lanyardref03_Percent.j1 k x0 x3 x4 x5 (bt x0 x5) ((bt x0 x5) == 126)))))) else (if (bt x0 x5) = 45 then (lanyardref03_Percent.j1 k x0 x3 x4 x5 (bt x0 x5) true) else (if (bt x0 x5) = 46 then (lanyardref03_Percent.j1 k x0 x3 x4 x5 (bt x0 x5) true) else (if (bt x0 x5) = 95 then (lanyardref03_Percent.j1 k x0 x3 x4 x5 (bt x0 x5) true) else (lanyardref03_Percent.j1 k x0 x3 x4 x5 (bt x0 x5) ((bt x0 x5) == 126)))))))) else (if (bt x0 x5) ≥ 97 then (if (bt x0 x5) ≤ 122 then (lanyardref03_Percent.j1 k x0 x3 x4 x5 (bt x0 x5) true) else (if (bt x0 x5) ≥ 48 then (if (bt x0 x5) ≤ 57 then (lanyardref03_Percent.j1 k x0 x3 x4 x5 (bt x0 x5) true) else (if (bt x0 x5) = 45 then (lanyardref03_Percent.j1 k x0 x3 x4 x5 (bt x0 x5) true) else (if (bt x0 x5) = 46 then (lanyardref03_Percent.j1 k x0 x3 x4 x5 (bt x0 x5) true) else (if (bt x0 x5) = 95 then (lanyardref03_Percent.j1 k x0 x3 x4 x5 (bt x0 x5) true) else (lanyardref03_Percent.j1 k x0 x3 x4 x5 (bt x0 x5) ((bt x0 x5) == 126)))))) else (if (bt x0 x5) = 45 then (lanyardref03_Percent.j1 k x0 x3 x4 x5 (bt x0 x5) true) else (if (bt x0 x5) = 46 then (lanyardref03_Percent.j1 k x0 x3 x4 x5 (bt x0 x5) true) else (if (bt x0 x5) = 95 then (lanyardref03_Percent.j1 k x0 x3 x4 x5 (bt x0 x5) true) else (lanyardref03_Percent.j1 k x0 x3 x4 x5 (bt x0 x5) ((bt x0 x5) == 126))))))) else (if (bt x0 x5) ≥ 48 then (if (bt x0 x5) ≤ 57 then (lanyardref03_Percent.j1 k x0 x3 x4 x5 (bt x0 x5) true) else (if (bt x0 x5) = 45 then (lanyardref03_Percent.j1 k x0 x3 x4 x5 (bt x0 x5) true) else (if (bt x0 x5) = 46 then (lanyardref03_Percent.j1 k x0 x3 x4 x5 (bt x0 x5) true) else (if (bt x0 x5) = 95 then (lanyardref03_Percent.j1 k x0 x3 x4 x5 (bt x0 x5) true) else (lanyardref03_Percent.j1 k x0 x3 x4 x5 (bt x0 x5) ((bt x0 x5) == 126)))))) else (if (bt x0 x5) = 45 then (lanyardref03_Percent.j1 k x0 x3 x4 x5 (bt x0 x5) true) else (if (bt x0 x5) = 46 then (lanyardref03_Percent.j1 k x0 x3 x4 x5 (bt x0 x5) true) else (if (bt x0 x5) = 95 then (lanyardref03_Percent.j1 k x0 x3 x4 x5 (bt x0 x5) true) else (lanyardref03_Percent.j1 k x0 x3 x4 x5 (bt x0 x5) ((bt x0 x5) == 126)))))))) else (none)) else (some x3)
def lanyardref03_Percent.j1 : Nat → ByteArray → ByteArray → ByteArray → Int → Int → Bool → Option (ByteArray)
 | 0, _, _, _, _, _, _ => none
 | k + 1, x0, x3, x4, x5, x6, x53 => if x53 = true then ((some (([x6] : List Int) : List Int)).bind fun y164 => (if x3.size + (strOfNums y164).size ≤ 9223372036854775807 then (lanyardref03_Percent.l0 k x0 (x3 ++ (strOfNums y164)) x4 (wrap64 (x5 + 1))) else (none))) else (if x3.size + 1 ≤ 9223372036854775807 then (if 0 ≤ ((Int.tdiv x6 16) % 256) then (if ((Int.tdiv x6 16) % 256) < (x4.size : Int) then (if 0 ≤ (Int.tmod x6 16) then (if (Int.tmod x6 16) < (x4.size : Int) then ((some (([bt x4 ((Int.tdiv x6 16) % 256), bt x4 (Int.tmod x6 16)] : List Int) : List Int)).bind fun y167 => (if (x3 ++ (⟨#[37]⟩ : ByteArray)).size + (strOfNums y167).size ≤ 9223372036854775807 then (lanyardref03_Percent.l0 k x0 ((x3 ++ (⟨#[37]⟩ : ByteArray)) ++ (strOfNums y167)) x4 (wrap64 (x5 + 1))) else (none))) else (none)) else (none)) else (none)) else (none)) else (none))
end
def lanyardref03_Percent.f (k : Nat) (a0 : ByteArray) : Option (ByteArray) := lanyardref03_Percent.l0 k a0 (⟨#[]⟩ : ByteArray) (⟨#[48, 49, 50, 51, 52, 53, 54, 55, 56, 57, 65, 66, 67, 68, 69, 70]⟩ : ByteArray) 0
theorem lanyardref03_Percent.mono_l : ∀ k, (∀ y0 y1 y2 y3, LeO (lanyardref03_Percent.l0 k y0 y1 y2 y3) (lanyardref03_Percent.l0 (k + 1) y0 y1 y2 y3)) ∧ (∀ y0 y1 y2 y3 y4 y5, LeO (lanyardref03_Percent.j1 k y0 y1 y2 y3 y4 y5) (lanyardref03_Percent.j1 (k + 1) y0 y1 y2 y3 y4 y5))
 | 0 => ⟨fun _ _ _ _ r h => by simp [lanyardref03_Percent.l0] at h, fun _ _ _ _ _ _ r h => by simp [lanyardref03_Percent.j1] at h⟩
 | k + 1 => by
  obtain ⟨ih0, ih1⟩ := lanyardref03_Percent.mono_l k
  refine ⟨?_, ?_⟩
  ·intro y0 y1 y2 y3
   unfold lanyardref03_Percent.l0
   repeat' first
   | (with_reducible exact ih0 _ _ _ _)
   | (with_reducible exact ih1 _ _ _ _ _ _)
   | (with_reducible exact LeO.refl _)
   | (with_reducible exact LeO.none _)
   | (with_reducible refine LeO.ite ?_ ?_)
   | (with_reducible refine LeO.bind ?_ (fun _ => ?_))
   | exact ih0 _ _ _ _
   | exact ih1 _ _ _ _ _ _
   | exact LeO.none _
   | refine LeO.ite ?_ ?_
   | refine LeO.bind ?_ (fun _ => ?_)
  ·intro y0 y1 y2 y3 y4 y5
   unfold lanyardref03_Percent.j1
   repeat' first
   | (with_reducible exact ih0 _ _ _ _)
   | (with_reducible exact ih1 _ _ _ _ _ _)
   | (with_reducible exact LeO.refl _)
   | (with_reducible exact LeO.none _)
   | (with_reducible refine LeO.ite ?_ ?_)
   | (with_reducible refine LeO.bind ?_ (fun _ => ?_))
   | exact ih0 _ _ _ _
   | exact ih1 _ _ _ _ _ _
   | exact LeO.none _
   | refine LeO.ite ?_ ?_
   | refine LeO.bind ?_ (fun _ => ?_)
theorem lanyardref03_Percent.mono : ∀ a0 k, LeO (lanyardref03_Percent.f k a0) (lanyardref03_Percent.f (k + 1) a0) := by
 intro a0 k
 obtain ⟨ih0, ih1⟩ := lanyardref03_Percent.mono_l k
 unfold lanyardref03_Percent.f
 repeat' first
   | (with_reducible exact ih0 _ _ _ _)
   | (with_reducible exact ih1 _ _ _ _ _ _)
   | (with_reducible exact LeO.refl _)
   | (with_reducible exact LeO.none _)
   | (with_reducible refine LeO.ite ?_ ?_)
   | (with_reducible refine LeO.bind ?_ (fun _ => ?_))
   | exact ih0 _ _ _ _
   | exact ih1 _ _ _ _ _ _
   | exact LeO.none _
   | refine LeO.ite ?_ ?_
   | refine LeO.bind ?_ (fun _ => ?_)
def lanyardref03_Percent.T9 : Bool × List (List Nat × List Nat) := (true, [([], []), ([0], [0]), ([], []), ([], []), ([3], [3]), ([2, 4], [2, 4]), ([], []), ([], []), ([7], [7]), ([6, 8], [6, 8]), ([5, 9], [5, 9]), ([10], [10]), ([1, 11], [1, 11]), ([12, 0, 1, 2, 3, 4, 5, 6, 7, 8, 9, 10, 11, 12], [0, 12])])
def lanyardref03_Percent.B9 : List Nat := [0, 1, 0, 0, 8, 28, 0, 0, 128, 448, 1020, 2044, 4095, 8191]
theorem lanyardref03_Percent.tab9 : rtab .any (opsOf Tryd.f12 9) = lanyardref03_Percent.T9 := by kernel_rfl
theorem lanyardref03_Percent.bits9 : waitsOk lanyardref03_Percent.T9.2 lanyardref03_Percent.B9 = true := by kernel_rfl
set_option maxHeartbeats 8000000 in
set_option maxRecDepth 100000 in
theorem lanyardref03_Percent.calls (k : Nat) (a0 : ByteArray) (r : ByteArray) (w : World) (h : lanyardref03_Percent.f k a0 = some r) :
  Calls Tryd.prog 12 #[.string a0] w fun e w' => e = .returned (.string r) ∧ Below w.heap.size w w' := by
 have HB := Aside0.mk (Below.refl w.heap.size w)
 have H : (lanyardref03_Percent.l0 k a0 (⟨#[]⟩ : ByteArray) (⟨#[48, 49, 50, 51, 52, 53, 54, 55, 56, 57, 65, 66, 67, 68, 69, 70]⟩ : ByteArray) 0) = some r := h
 clear h
 have H' := Aside0.mk H
 clear H
 go_enter Tryd.func12, Tryd.ntmps12
 go_wp2
 go_loopg [3, 5] k (fun kq v3 v5 w' => ∃ (x3_1 : ByteArray) (x5_1 : Int), v3 = .string x3_1 ∧ v5 = .int .i64 x5_1 ∧ Aside0 (lanyardref03_Percent.l0 kq a0 x3_1 (⟨#[48, 49, 50, 51, 52, 53, 54, 55, 56, 57, 65, 66, 67, 68, 69, 70]⟩ : ByteArray) x5_1 = some r) ∧ Aside0 (kq ≤ k) ∧ Aside0 (Below w.heap.size w w'))
 case atStart => exact ⟨((⟨#[]⟩ : ByteArray)), (0), (by first | rfl | (simp; done) | (simp [*]; done)), (by first | rfl | (simp; done) | (simp [*]; done)), H', ⟨Nat.le_refl _⟩, ⟨Bu HB⟩⟩
 case round =>
  clear H'
  try clear c1
  obtain ⟨x3_1, x5_1, rfl, rfl, HA, HK1, HB⟩ := hrel
  cases gk with
  | zero => exact absurd HA.out (by simp [lanyardref03_Percent.l0])
  | succ k1 =>
   have H := HA.out
   clear HA
   simp only [lanyardref03_Percent.l0] at H
   by_cases c2 : x5_1 < (a0.size : Int)
   ·rw [if_pos c2] at H
    have c2b0 : decide (x5_1 < (a0.size : Int)) = true := decide_eq_true c2
    clear c2
    by_cases c3 : 0 ≤ x5_1
    ·rw [if_pos c3] at H
     have c3b0 : decide (0 ≤ x5_1) = true := decide_eq_true c3
     clear c3
     have HC5 := Aside0.mk H
     clear H
     have p4 : 0 ≤ (x5_1 : Int) := of_decide_eq_true (by first | (with_reducible assumption) | assumption)
     have q4 : x5_1 < (a0.size : Int) := of_decide_eq_true (by first | (with_reducible assumption) | assumption)
     have hx4 := bt_at a0 x5_1
     replace p4 := eq_true p4
     replace q4 := eq_true q4
     go_upto_region 7 with (fail)
     go_cut [53] (fun v53 wc => ∃ (kq : Nat) (x53_4 : Bool), v53 = .bool x53_4 ∧ Aside0 (lanyardref03_Percent.j1 kq a0 x3_1 (⟨#[48, 49, 50, 51, 52, 53, 54, 55, 56, 57, 65, 66, 67, 68, 69, 70]⟩ : ByteArray) x5_1 (bt a0 x5_1) x53_4 = some r) ∧ Aside0 (kq ≤ k1) ∧ Aside0 (Below w.heap.size w wc))
     case first =>
      have H := HC5.out
      clear HC5
      refine (Classical.em ((bt a0 x5_1) ≥ 65)).elim (fun c6 => ?a27_) (fun c6 => ?b27_)
      case' a27_ =>
       rw [if_pos c6] at H
       have c6b0 : decide (65 ≤ (bt a0 x5_1)) = true := decide_eq_true c6
       clear c6
       (first | rw [c6b0] | (simp only [i64_w, i32_w]; rw [c6b0]) | skip)
       refine (Classical.em ((bt a0 x5_1) ≤ 90)).elim (fun c7 => ?a28_) (fun c7 => ?b28_)
       case' a28_ =>
        rw [if_pos c7] at H
        have c7b0 : decide ((bt a0 x5_1) ≤ 90) = true := decide_eq_true c7
        clear c7
        have H' := Aside0.mk H
        clear H
       case' b28_ =>
        rw [if_neg c7] at H
        have c7b0 : decide ((bt a0 x5_1) ≤ 90) = false := decide_eq_false c7
        clear c7
        refine (Classical.em ((bt a0 x5_1) ≥ 97)).elim (fun c8 => ?a29_) (fun c8 => ?b29_)
        case' a29_ =>
         rw [if_pos c8] at H
         have c8b0 : decide (97 ≤ (bt a0 x5_1)) = true := decide_eq_true c8
         clear c8
         refine (Classical.em ((bt a0 x5_1) ≤ 122)).elim (fun c9 => ?a30_) (fun c9 => ?b30_)
         case' a30_ =>
          rw [if_pos c9] at H
          have c9b0 : decide ((bt a0 x5_1) ≤ 122) = true := decide_eq_true c9
          clear c9
          have H' := Aside0.mk H
          clear H
         case' b30_ =>
          rw [if_neg c9] at H
          have c9b0 : decide ((bt a0 x5_1) ≤ 122) = false := decide_eq_false c9
          clear c9
          refine (Classical.em ((bt a0 x5_1) ≥ 48)).elim (fun c10 => ?a31_) (fun c10 => ?b31_)
          case' a31_ =>
           rw [if_pos c10] at H
           have c10b0 : decide (48 ≤ (bt a0 x5_1)) = true := decide_eq_true c10
           clear c10
           refine (Classical.em ((bt a0 x5_1) ≤ 57)).elim (fun c11 => ?a32_) (fun c11 => ?b32_)
           case' a32_ =>
            rw [if_pos c11] at H
            have c11b0 : decide ((bt a0 x5_1) ≤ 57) = true := decide_eq_true c11
            clear c11
            have H' := Aside0.mk H
            clear H
           case' b32_ =>
            rw [if_neg c11] at H
            have c11b0 : decide ((bt a0 x5_1) ≤ 57) = false := decide_eq_false c11
            clear c11
            refine (Classical.em ((bt a0 x5_1) = 45)).elim (fun c12 => ?a33_) (fun c12 => ?b33_)
            case' a33_ =>
             rw [if_pos c12] at H
             have c12b0 : ((bt a0 x5_1) == 45) = true := beq_iff_eq.mpr c12
             have c12b1 : ((bt a0 x5_1) != 45) = false := bne_eq_false_iff_eq.mpr c12
             clear c12
             have H' := Aside0.mk H
             clear H
            case' b33_ =>
             rw [if_neg c12] at H
             have c12b0 : ((bt a0 x5_1) == 45) = false := beq_eq_false_iff_ne.mpr c12
             have c12b1 : ((bt a0 x5_1) != 45) = true := bne_iff_ne.mpr c12
             refine (Classical.em ((bt a0 x5_1) = 46)).elim (fun c13 => ?a34_) (fun c13 => ?b34_)
             case' a34_ =>
              rw [if_pos c13] at H
              have c13b0 : ((bt a0 x5_1) == 46) = true := beq_iff_eq.mpr c13
              have c13b1 : ((bt a0 x5_1) != 46) = false := bne_eq_false_iff_eq.mpr c13
              clear c13
              have H' := Aside0.mk H
              clear H
             case' b34_ =>
              rw [if_neg c13] at H
              have c13b0 : ((bt a0 x5_1) == 46) = false := beq_eq_false_iff_ne.mpr c13
              have c13b1 : ((bt a0 x5_1) != 46) = true := bne_iff_ne.mpr c13
              refine (Classical.em ((bt a0 x5_1) = 95)).elim (fun c14 => ?a35_) (fun c14 => ?b35_)
              case' a35_ =>
               rw [if_pos c14] at H
               have c14b0 : ((bt a0 x5_1) == 95) = true := beq_iff_eq.mpr c14
               have c14b1 : ((bt a0 x5_1) != 95) = false := bne_eq_false_iff_eq.mpr c14
               clear c14
               have H' := Aside0.mk H
               clear H
              case' b35_ =>
               rw [if_neg c14] at H
               have c14b0 : ((bt a0 x5_1) == 95) = false := beq_eq_false_iff_ne.mpr c14
               have c14b1 : ((bt a0 x5_1) != 95) = true := bne_iff_ne.mpr c14
               have H' := Aside0.mk H
               clear H
          case' b31_ =>
           rw [if_neg c10] at H
           have c10b0 : decide (48 ≤ (bt a0 x5_1)) = false := decide_eq_false c10
           clear c10
           refine (Classical.em ((bt a0 x5_1) = 45)).elim (fun c15 => ?a36_) (fun c15 => ?b36_)
           case' a36_ =>
            rw [if_pos c15] at H
            have c15b0 : ((bt a0 x5_1) == 45) = true := beq_iff_eq.mpr c15
            have c15b1 : ((bt a0 x5_1) != 45) = false := bne_eq_false_iff_eq.mpr c15
            clear c15
            have H' := Aside0.mk H
            clear H
           case' b36_ =>
            rw [if_neg c15] at H
            have c15b0 : ((bt a0 x5_1) == 45) = false := beq_eq_false_iff_ne.mpr c15
            have c15b1 : ((bt a0 x5_1) != 45) = true := bne_iff_ne.mpr c15
            refine (Classical.em ((bt a0 x5_1) = 46)).elim (fun c16 => ?a37_) (fun c16 => ?b37_)
            case' a37_ =>
             rw [if_pos c16] at H
             have c16b0 : ((bt a0 x5_1) == 46) = true := beq_iff_eq.mpr c16
             have c16b1 : ((bt a0 x5_1) != 46) = false := bne_eq_false_iff_eq.mpr c16
             clear c16
             have H' := Aside0.mk H
             clear H
            case' b37_ =>
             rw [if_neg c16] at H
             have c16b0 : ((bt a0 x5_1) == 46) = false := beq_eq_false_iff_ne.mpr c16
             have c16b1 : ((bt a0 x5_1) != 46) = true := bne_iff_ne.mpr c16
             refine (Classical.em ((bt a0 x5_1) = 95)).elim (fun c17 => ?a38_) (fun c17 => ?b38_)
             case' a38_ =>
              rw [if_pos c17] at H
              have c17b0 : ((bt a0 x5_1) == 95) = true := beq_iff_eq.mpr c17
              have c17b1 : ((bt a0 x5_1) != 95) = false := bne_eq_false_iff_eq.mpr c17
              clear c17
              have H' := Aside0.mk H
              clear H
             case' b38_ =>
              rw [if_neg c17] at H
              have c17b0 : ((bt a0 x5_1) == 95) = false := beq_eq_false_iff_ne.mpr c17
              have c17b1 : ((bt a0 x5_1) != 95) = true := bne_iff_ne.mpr c17
              have H' := Aside0.mk H
              clear H
        case' b29_ =>
         rw [if_neg c8] at H
         have c8b0 : decide (97 ≤ (bt a0 x5_1)) = false := decide_eq_false c8
         clear c8
         refine (Classical.em ((bt a0 x5_1) ≥ 48)).elim (fun c18 => ?a39_) (fun c18 => ?b39_)
         case' a39_ =>
          rw [if_pos c18] at H
          have c18b0 : decide (48 ≤ (bt a0 x5_1)) = true := decide_eq_true c18
          clear c18
          refine (Classical.em ((bt a0 x5_1) ≤ 57)).elim (fun c19 => ?a40_) (fun c19 => ?b40_)
          case' a40_ =>
           rw [if_pos c19] at H
           have c19b0 : decide ((bt a0 x5_1) ≤ 57) = true := decide_eq_true c19
           clear c19
           have H' := Aside0.mk H
           clear H
          case' b40_ =>
           rw [if_neg c19] at H
           have c19b0 : decide ((bt a0 x5_1) ≤ 57) = false := decide_eq_false c19
           clear c19
           refine (Classical.em ((bt a0 x5_1) = 45)).elim (fun c20 => ?a41_) (fun c20 => ?b41_)
           case' a41_ =>
            rw [if_pos c20] at H
            have c20b0 : ((bt a0 x5_1) == 45) = true := beq_iff_eq.mpr c20
            have c20b1 : ((bt a0 x5_1) != 45) = false := bne_eq_false_iff_eq.mpr c20
            clear c20
            have H' := Aside0.mk H
            clear H
           case' b41_ =>
            rw [if_neg c20] at H
            have c20b0 : ((bt a0 x5_1) == 45) = false := beq_eq_false_iff_ne.mpr c20
            have c20b1 : ((bt a0 x5_1) != 45) = true := bne_iff_ne.mpr c20
            refine (Classical.em ((bt a0 x5_1) = 46)).elim (fun c21 => ?a42_) (fun c21 => ?b42_)
            case' a42_ =>
             rw [if_pos c21] at H
             have c21b0 : ((bt a0 x5_1) == 46) = true := beq_iff_eq.mpr c21
             have c21b1 : ((bt a0 x5_1) != 46) = false := bne_eq_false_iff_eq.mpr c21
             clear c21
             have H' := Aside0.mk H
             clear H
            case' b42_ =>
             rw [if_neg c21] at H
             have c21b0 : ((bt a0 x5_1) == 46) = false := beq_eq_false_iff_ne.mpr c21
             have c21b1 : ((bt a0 x5_1) != 46) = true := bne_iff_ne.mpr c21
             refine (Classical.em ((bt a0 x5_1) = 95)).elim (fun c22 => ?a43_) (fun c22 => ?b43_)
             case' a43_ =>
              rw [if_pos c22] at H
              have c22b0 : ((bt a0 x5_1) == 95) = true := beq_iff_eq.mpr c22
              have c22b1 : ((bt a0 x5_1) != 95) = false := bne_eq_false_iff_eq.mpr c22
              clear c22
              have H' := Aside0.mk H
              clear H
             case' b43_ =>
              rw [if_neg c22] at H
              have c22b0 : ((bt a0 x5_1) == 95) = false := beq_eq_false_iff_ne.mpr c22
              have c22b1 : ((bt a0 x5_1) != 95) = true := bne_iff_ne.mpr c22
              have H' := Aside0.mk H
              clear H
         case' b39_ =>
          rw [if_neg c18] at H
          have c18b0 : decide (48 ≤ (bt a0 x5_1)) = false := decide_eq_false c18
          clear c18
          refine (Classical.em ((bt a0 x5_1) = 45)).elim (fun c23 => ?a44_) (fun c23 => ?b44_)
          case' a44_ =>
           rw [if_pos c23] at H
           have c23b0 : ((bt a0 x5_1) == 45) = true := beq_iff_eq.mpr c23
           have c23b1 : ((bt a0 x5_1) != 45) = false := bne_eq_false_iff_eq.mpr c23
           clear c23
           have H' := Aside0.mk H
           clear H
          case' b44_ =>
           rw [if_neg c23] at H
           have c23b0 : ((bt a0 x5_1) == 45) = false := beq_eq_false_iff_ne.mpr c23
           have c23b1 : ((bt a0 x5_1) != 45) = true := bne_iff_ne.mpr c23
           refine (Classical.em ((bt a0 x5_1) = 46)).elim (fun c24 => ?a45_) (fun c24 => ?b45_)
           case' a45_ =>
            rw [if_pos c24] at H
            have c24b0 : ((bt a0 x5_1) == 46) = true := beq_iff_eq.mpr c24
            have c24b1 : ((bt a0 x5_1) != 46) = false := bne_eq_false_iff_eq.mpr c24
            clear c24
            have H' := Aside0.mk H
            clear H
           case' b45_ =>
            rw [if_neg c24] at H
            have c24b0 : ((bt a0 x5_1) == 46) = false := beq_eq_false_iff_ne.mpr c24
            have c24b1 : ((bt a0 x5_1) != 46) = true := bne_iff_ne.mpr c24
            refine (Classical.em ((bt a0 x5_1) = 95)).elim (fun c25 => ?a46_) (fun c25 => ?b46_)
            case' a46_ =>
             rw [if_pos c25] at H
             have c25b0 : ((bt a0 x5_1) == 95) = true := beq_iff_eq.mpr c25
             have c25b1 : ((bt a0 x5_1) != 95) = false := bne_eq_false_iff_eq.mpr c25
             clear c25
             have H' := Aside0.mk H
             clear H
            case' b46_ =>
             rw [if_neg c25] at H
             have c25b0 : ((bt a0 x5_1) == 95) = false := beq_eq_false_iff_ne.mpr c25
             have c25b1 : ((bt a0 x5_1) != 95) = true := bne_iff_ne.mpr c25
             have H' := Aside0.mk H
             clear H
      case' b27_ =>
       rw [if_neg c6] at H
       have c6b0 : decide (65 ≤ (bt a0 x5_1)) = false := decide_eq_false c6
       clear c6
       (first | rw [c6b0] | (simp only [i64_w, i32_w]; rw [c6b0]) | skip)
       refine (Classical.em ((bt a0 x5_1) ≥ 97)).elim (fun c26 => ?a47_) (fun c26 => ?b47_)
       case' a47_ =>
        rw [if_pos c26] at H
        have c26b0 : decide (97 ≤ (bt a0 x5_1)) = true := decide_eq_true c26
        clear c26
        refine (Classical.em ((bt a0 x5_1) ≤ 122)).elim (fun c27 => ?a48_) (fun c27 => ?b48_)
        case' a48_ =>
         rw [if_pos c27] at H
         have c27b0 : decide ((bt a0 x5_1) ≤ 122) = true := decide_eq_true c27
         clear c27
         have H' := Aside0.mk H
         clear H
        case' b48_ =>
         rw [if_neg c27] at H
         have c27b0 : decide ((bt a0 x5_1) ≤ 122) = false := decide_eq_false c27
         clear c27
         refine (Classical.em ((bt a0 x5_1) ≥ 48)).elim (fun c28 => ?a49_) (fun c28 => ?b49_)
         case' a49_ =>
          rw [if_pos c28] at H
          have c28b0 : decide (48 ≤ (bt a0 x5_1)) = true := decide_eq_true c28
          clear c28
          refine (Classical.em ((bt a0 x5_1) ≤ 57)).elim (fun c29 => ?a50_) (fun c29 => ?b50_)
          case' a50_ =>
           rw [if_pos c29] at H
           have c29b0 : decide ((bt a0 x5_1) ≤ 57) = true := decide_eq_true c29
           clear c29
           have H' := Aside0.mk H
           clear H
          case' b50_ =>
           rw [if_neg c29] at H
           have c29b0 : decide ((bt a0 x5_1) ≤ 57) = false := decide_eq_false c29
           clear c29
           refine (Classical.em ((bt a0 x5_1) = 45)).elim (fun c30 => ?a51_) (fun c30 => ?b51_)
           case' a51_ =>
            rw [if_pos c30] at H
            have c30b0 : ((bt a0 x5_1) == 45) = true := beq_iff_eq.mpr c30
            have c30b1 : ((bt a0 x5_1) != 45) = false := bne_eq_false_iff_eq.mpr c30
            clear c30
            have H' := Aside0.mk H
            clear H
           case' b51_ =>
            rw [if_neg c30] at H
            have c30b0 : ((bt a0 x5_1) == 45) = false := beq_eq_false_iff_ne.mpr c30
            have c30b1 : ((bt a0 x5_1) != 45) = true := bne_iff_ne.mpr c30
            refine (Classical.em ((bt a0 x5_1) = 46)).elim (fun c31 => ?a52_) (fun c31 => ?b52_)
            case' a52_ =>
             rw [if_pos c31] at H
             have c31b0 : ((bt a0 x5_1) == 46) = true := beq_iff_eq.mpr c31
             have c31b1 : ((bt a0 x5_1) != 46) = false := bne_eq_false_iff_eq.mpr c31
             clear c31
             have H' := Aside0.mk H
             clear H
            case' b52_ =>
             rw [if_neg c31] at H
             have c31b0 : ((bt a0 x5_1) == 46) = false := beq_eq_false_iff_ne.mpr c31
             have c31b1 : ((bt a0 x5_1) != 46) = true := bne_iff_ne.mpr c31
             refine (Classical.em ((bt a0 x5_1) = 95)).elim (fun c32 => ?a53_) (fun c32 => ?b53_)
             case' a53_ =>
              rw [if_pos c32] at H
              have c32b0 : ((bt a0 x5_1) == 95) = true := beq_iff_eq.mpr c32
              have c32b1 : ((bt a0 x5_1) != 95) = false := bne_eq_false_iff_eq.mpr c32
              clear c32
              have H' := Aside0.mk H
              clear H
             case' b53_ =>
              rw [if_neg c32] at H
              have c32b0 : ((bt a0 x5_1) == 95) = false := beq_eq_false_iff_ne.mpr c32
              have c32b1 : ((bt a0 x5_1) != 95) = true := bne_iff_ne.mpr c32
              have H' := Aside0.mk H
              clear H
         case' b49_ =>
          rw [if_neg c28] at H
          have c28b0 : decide (48 ≤ (bt a0 x5_1)) = false := decide_eq_false c28
          clear c28
          refine (Classical.em ((bt a0 x5_1) = 45)).elim (fun c33 => ?a54_) (fun c33 => ?b54_)
          case' a54_ =>
           rw [if_pos c33] at H
           have c33b0 : ((bt a0 x5_1) == 45) = true := beq_iff_eq.mpr c33
           have c33b1 : ((bt a0 x5_1) != 45) = false := bne_eq_false_iff_eq.mpr c33
           clear c33
           have H' := Aside0.mk H
           clear H
          case' b54_ =>
           rw [if_neg c33] at H
           have c33b0 : ((bt a0 x5_1) == 45) = false := beq_eq_false_iff_ne.mpr c33
           have c33b1 : ((bt a0 x5_1) != 45) = true := bne_iff_ne.mpr c33
           refine (Classical.em ((bt a0 x5_1) = 46)).elim (fun c34 => ?a55_) (fun c34 => ?b55_)
           case' a55_ =>
            rw [if_pos c34] at H
            have c34b0 : ((bt a0 x5_1) == 46) = true := beq_iff_eq.mpr c34
            have c34b1 : ((bt a0 x5_1) != 46) = false := bne_eq_false_iff_eq.mpr c34
            clear c34
            have H' := Aside0.mk H
            clear H
           case' b55_ =>
            rw [if_neg c34] at H
            have c34b0 : ((bt a0 x5_1) == 46) = false := beq_eq_false_iff_ne.mpr c34
            have c34b1 : ((bt a0 x5_1) != 46) = true := bne_iff_ne.mpr c34
            refine (Classical.em ((bt a0 x5_1) = 95)).elim (fun c35 => ?a56_) (fun c35 => ?b56_)
            case' a56_ =>
             rw [if_pos c35] at H
             have c35b0 : ((bt a0 x5_1) == 95) = true := beq_iff_eq.mpr c35
             have c35b1 : ((bt a0 x5_1) != 95) = false := bne_eq_false_iff_eq.mpr c35
             clear c35
             have H' := Aside0.mk H
             clear H
            case' b56_ =>
             rw [if_neg c35] at H
             have c35b0 : ((bt a0 x5_1) == 95) = false := beq_eq_false_iff_ne.mpr c35
             have c35b1 : ((bt a0 x5_1) != 95) = true := bne_iff_ne.mpr c35
             have H' := Aside0.mk H
             clear H
       case' b47_ =>
        rw [if_neg c26] at H
        have c26b0 : decide (97 ≤ (bt a0 x5_1)) = false := decide_eq_false c26
        clear c26
        refine (Classical.em ((bt a0 x5_1) ≥ 48)).elim (fun c36 => ?a57_) (fun c36 => ?b57_)
        case' a57_ =>
         rw [if_pos c36] at H
         have c36b0 : decide (48 ≤ (bt a0 x5_1)) = true := decide_eq_true c36
         clear c36
         refine (Classical.em ((bt a0 x5_1) ≤ 57)).elim (fun c37 => ?a58_) (fun c37 => ?b58_)
         case' a58_ =>
          rw [if_pos c37] at H
          have c37b0 : decide ((bt a0 x5_1) ≤ 57) = true := decide_eq_true c37
          clear c37
          have H' := Aside0.mk H
          clear H
         case' b58_ =>
          rw [if_neg c37] at H
          have c37b0 : decide ((bt a0 x5_1) ≤ 57) = false := decide_eq_false c37
          clear c37
          refine (Classical.em ((bt a0 x5_1) = 45)).elim (fun c38 => ?a59_) (fun c38 => ?b59_)
          case' a59_ =>
           rw [if_pos c38] at H
           have c38b0 : ((bt a0 x5_1) == 45) = true := beq_iff_eq.mpr c38
           have c38b1 : ((bt a0 x5_1) != 45) = false := bne_eq_false_iff_eq.mpr c38
           clear c38
           have H' := Aside0.mk H
           clear H
          case' b59_ =>
           rw [if_neg c38] at H
           have c38b0 : ((bt a0 x5_1) == 45) = false := beq_eq_false_iff_ne.mpr c38
           have c38b1 : ((bt a0 x5_1) != 45) = true := bne_iff_ne.mpr c38
           refine (Classical.em ((bt a0 x5_1) = 46)).elim (fun c39 => ?a60_) (fun c39 => ?b60_)
           case' a60_ =>
            rw [if_pos c39] at H
            have c39b0 : ((bt a0 x5_1) == 46) = true := beq_iff_eq.mpr c39
            have c39b1 : ((bt a0 x5_1) != 46) = false := bne_eq_false_iff_eq.mpr c39
            clear c39
            have H' := Aside0.mk H
            clear H
           case' b60_ =>
            rw [if_neg c39] at H
            have c39b0 : ((bt a0 x5_1) == 46) = false := beq_eq_false_iff_ne.mpr c39
            have c39b1 : ((bt a0 x5_1) != 46) = true := bne_iff_ne.mpr c39
            refine (Classical.em ((bt a0 x5_1) = 95)).elim (fun c40 => ?a61_) (fun c40 => ?b61_)
            case' a61_ =>
             rw [if_pos c40] at H
             have c40b0 : ((bt a0 x5_1) == 95) = true := beq_iff_eq.mpr c40
             have c40b1 : ((bt a0 x5_1) != 95) = false := bne_eq_false_iff_eq.mpr c40
             clear c40
             have H' := Aside0.mk H
             clear H
            case' b61_ =>
             rw [if_neg c40] at H
             have c40b0 : ((bt a0 x5_1) == 95) = false := beq_eq_false_iff_ne.mpr c40
             have c40b1 : ((bt a0 x5_1) != 95) = true := bne_iff_ne.mpr c40
             have H' := Aside0.mk H
             clear H
        case' b57_ =>
         rw [if_neg c36] at H
         have c36b0 : decide (48 ≤ (bt a0 x5_1)) = false := decide_eq_false c36
         clear c36
         refine (Classical.em ((bt a0 x5_1) = 45)).elim (fun c41 => ?a62_) (fun c41 => ?b62_)
         case' a62_ =>
          rw [if_pos c41] at H
          have c41b0 : ((bt a0 x5_1) == 45) = true := beq_iff_eq.mpr c41
          have c41b1 : ((bt a0 x5_1) != 45) = false := bne_eq_false_iff_eq.mpr c41
          clear c41
          have H' := Aside0.mk H
          clear H
         case' b62_ =>
          rw [if_neg c41] at H
          have c41b0 : ((bt a0 x5_1) == 45) = false := beq_eq_false_iff_ne.mpr c41
          have c41b1 : ((bt a0 x5_1) != 45) = true := bne_iff_ne.mpr c41
          refine (Classical.em ((bt a0 x5_1) = 46)).elim (fun c42 => ?a63_) (fun c42 => ?b63_)
          case' a63_ =>
           rw [if_pos c42] at H
           have c42b0 : ((bt a0 x5_1) == 46) = true := beq_iff_eq.mpr c42
           have c42b1 : ((bt a0 x5_1) != 46) = false := bne_eq_false_iff_eq.mpr c42
           clear c42
           have H' := Aside0.mk H
           clear H
          case' b63_ =>
           rw [if_neg c42] at H
           have c42b0 : ((bt a0 x5_1) == 46) = false := beq_eq_false_iff_ne.mpr c42
           have c42b1 : ((bt a0 x5_1) != 46) = true := bne_iff_ne.mpr c42
           refine (Classical.em ((bt a0 x5_1) = 95)).elim (fun c43 => ?a64_) (fun c43 => ?b64_)
           case' a64_ =>
            rw [if_pos c43] at H
            have c43b0 : ((bt a0 x5_1) == 95) = true := beq_iff_eq.mpr c43
            have c43b1 : ((bt a0 x5_1) != 95) = false := bne_eq_false_iff_eq.mpr c43
            clear c43
            have H' := Aside0.mk H
            clear H
           case' b64_ =>
            rw [if_neg c43] at H
            have c43b0 : ((bt a0 x5_1) == 95) = false := beq_eq_false_iff_ne.mpr c43
            have c43b1 : ((bt a0 x5_1) != 95) = true := bne_iff_ne.mpr c43
            have H' := Aside0.mk H
            clear H
      case a28_ | a30_ | a32_ | a33_ | a34_ | a35_ | a36_ | a37_ | a38_ | a40_ | a41_ | a42_ | a43_ | a44_ | a45_ | a46_ | a48_ | a50_ | a51_ | a52_ | a53_ | a54_ | a55_ | a56_ | a58_ | a59_ | a60_ | a61_ | a62_ | a63_ | a64_ =>
       go_wp2
       go_meet
       case rel => exact ⟨_, (true), (by first | rfl | (simp; done) | (simp [*]; done)), H', ⟨by have := HK1.out; first | omega | exact Nat.le_refl _⟩, ⟨Bu HB⟩⟩
      case b35_ | b38_ | b43_ | b46_ | b53_ | b56_ | b61_ | b64_ =>
       go_wp2
       go_meet
       case rel => exact ⟨_, (((bt a0 x5_1) == 126)), (by first | rfl | (simp; done) | (simp [*]; done)), H', ⟨by have := HK1.out; first | omega | exact Nat.le_refl _⟩, ⟨Bu HB⟩⟩
     case rest =>
      clear HC5
      try clear c1
      try clear c2
      try clear c2b0
      try clear p2
      try clear c3
      try clear c3b0
      try clear c4
      try clear p4
      try clear q4
      try clear hx4
      try clear c6
      try clear c6b0
      try clear c7
      try clear c7b0
      try clear c8
      try clear c8b0
      try clear c9
      try clear c9b0
      try clear c10
      try clear c10b0
      try clear c11
      try clear c11b0
      try clear c12
      try clear c12b0
      try clear c12b1
      try clear c13
      try clear c13b0
      try clear c13b1
      try clear c14
      try clear c14b0
      try clear c14b1
      try clear c15
      try clear c15b0
      try clear c15b1
      try clear c16
      try clear c16b0
      try clear c16b1
      try clear c17
      try clear c17b0
      try clear c17b1
      try clear c18
      try clear c18b0
      try clear c19
      try clear c19b0
      try clear c20
      try clear c20b0
      try clear c20b1
      try clear c21
      try clear c21b0
      try clear c21b1
      try clear c22
      try clear c22b0
      try clear c22b1
      try clear c23
      try clear c23b0
      try clear c23b1
      try clear c24
      try clear c24b0
      try clear c24b1
      try clear c25
      try clear c25b0
      try clear c25b1
      try clear c26
      try clear c26b0
      try clear c27
      try clear c27b0
      try clear c28
      try clear c28b0
      try clear c29
      try clear c29b0
      try clear c30
      try clear c30b0
      try clear c30b1
      try clear c31
      try clear c31b0
      try clear c31b1
      try clear c32
      try clear c32b0
      try clear c32b1
      try clear c33
      try clear c33b0
      try clear c33b1
      try clear c34
      try clear c34b0
      try clear c34b1
      try clear c35
      try clear c35b0
      try clear c35b1
      try clear c36
      try clear c36b0
      try clear c37
      try clear c37b0
      try clear c38
      try clear c38b0
      try clear c38b1
      try clear c39
      try clear c39b0
      try clear c39b1
      try clear c40
      try clear c40b0
      try clear c40b1
      try clear c41
      try clear c41b0
      try clear c41b1
      try clear c42
      try clear c42b0
      try clear c42b1
      try clear c43
      try clear c43b0
      try clear c43b1
      try clear p4
      try clear q4
      obtain ⟨kq, x53_4, rfl, HA, HJ4, HB⟩ := hcut
      cases kq with
      | zero => exact absurd HA.out (by simp [lanyardref03_Percent.j1])
      | succ kj4 =>
       have H := HA.out
       clear HA
       simp only [lanyardref03_Percent.j1] at H
       by_cases c44 : x53_4 = true
       ·subst c44
        have H1 : ((some (([(bt a0 x5_1)] : List Int) : List Int)).bind fun y164 => (if x3_1.size + (strOfNums y164).size ≤ 9223372036854775807 then (lanyardref03_Percent.l0 kj4 a0 (x3_1 ++ (strOfNums y164)) (⟨#[48, 49, 50, 51, 52, 53, 54, 55, 56, 57, 65, 66, 67, 68, 69, 70]⟩ : ByteArray) (wrap64 (x5_1 + 1))) else (none))) = some r := by rw [if_pos rfl] at H; exact H
        clear H
        have H := H1
        clear H1
        obtain ⟨y164, hy164⟩ : ∃ y_ : List Int, y_ = (([(bt a0 x5_1)] : List Int)) := ⟨_, rfl⟩
        replace H : (if x3_1.size + (strOfNums y164).size ≤ 9223372036854775807 then (lanyardref03_Percent.l0 kj4 a0 (x3_1 ++ (strOfNums y164)) (⟨#[48, 49, 50, 51, 52, 53, 54, 55, 56, 57, 65, 66, 67, 68, 69, 70]⟩ : ByteArray) (wrap64 (x5_1 + 1))) else (none)) = some r := by first | (rw [hy164]; with_reducible exact H) | (have H2_ := (Option.bind_some _ _).symm.trans H; rw [hy164]; with_reducible exact H2_) | (have H2_ := (Option.bind_some _ _).symm.trans H; with_reducible exact H2_) | with_reducible exact H | (rw [hy164]; exact H) | exact H
        have Ny164 := Aside0.mk hy164
        clear hy164
        by_cases c45 : x3_1.size + (strOfNums y164).size ≤ 9223372036854775807
        ·rw [if_pos c45] at H
         have c45b0 := eq_true c45
         have c45b1 : decide (x3_1.size + (strOfNums y164).size ≤ 9223372036854775807) = true := decide_eq_true c45
         try have c45b2 : (9223372036854775807 < x3_1.size + (strOfNums y164).size) = False := eq_false (Nat.not_lt.2 c45)
         have H' := Aside0.mk H
         clear H
         go_wp2_with (first | ((with_reducible refine gate_dst (N := 56) rfl ?_); refine Kd.R_lit (Kd.int .u8) _ 5 ?hg (N := 56) ?hd (xs := ([(bt a0 x5_1)] : List Int)) (inner := [.int .u8 (bt a0 x5_1)]) (ok := fun _ => True) (okp := fun _ => True) ?hr ?hp (fun _ hk => hk) trivial (Below.refl _ _) (Nat.le_refl _) (by simp) ?_; (case hd => rfl); (case hg => rfl); (case hr => first | (go_simp; done) | (go_simp; rfl)); (case hp => exact (Reps.one (show Kd.M (Kd.int .u8) _ _ _ (bt a0 x5_1) [.int .u8 (bt a0 x5_1)] from rfl) (Reps.none _ _))); intro v165 w46 ho47 hb hg_ hnew_; clear hg_ hnew_; (first | rw [← Ny164.out] at ho47 | (simp only [Int.reduceToNat] at ho47; rw [← Ny164.out] at ho47)); have n0_ := Aside0.mk (Kd.R_lower ho47 (Bz HB)); have n1_ := Bs HB hb; clear HB; revert n0_ n1_; intro HO166 HB; clear hb ho47; have hcv48 := own_string (P := Tryd.prog) Tryd.underlying47 Tryd.underlying5 Tryd.underlying9 (Kd.own_of_R HO166.out); have hcv49 := fun n_ : Nat => own_string (P := Tryd.prog) Tryd.underlying47 Tryd.underlying5 Tryd.underlying9 (Kd.own_of_R (Kd.R_drewN HO166.out n_))))
         go_roundg kj4
         case measure => have := HK1.out; have := HJ4.out; omega
         case rel => exact ⟨(x3_1 ++ (strOfNums y164)), (wrap64 (x5_1 + 1)), (by first | rfl | (simp; done) | (simp [*]; done)), (by first | rfl | (simp; done) | (simp [*]; done)), H', ⟨by have := HK1.out; have := HJ4.out; omega⟩, ⟨Bu HB⟩⟩
        ·rw [if_neg c45] at H
         exact absurd H (by simp)
       ·replace c44 := Bool.eq_false_iff.mpr c44
        subst c44
        have H1 : (if x3_1.size + 1 ≤ 9223372036854775807 then (if 0 ≤ ((Int.tdiv (bt a0 x5_1) 16) % 256) then (if ((Int.tdiv (bt a0 x5_1) 16) % 256) < ((⟨#[48, 49, 50, 51, 52, 53, 54, 55, 56, 57, 65, 66, 67, 68, 69, 70]⟩ : ByteArray).size : Int) then (if 0 ≤ (Int.tmod (bt a0 x5_1) 16) then (if (Int.tmod (bt a0 x5_1) 16) < ((⟨#[48, 49, 50, 51, 52, 53, 54, 55, 56, 57, 65, 66, 67, 68, 69, 70]⟩ : ByteArray).size : Int) then ((some (([bt (⟨#[48, 49, 50, 51, 52, 53, 54, 55, 56, 57, 65, 66, 67, 68, 69, 70]⟩ : ByteArray) ((Int.tdiv (bt a0 x5_1) 16) % 256), bt (⟨#[48, 49, 50, 51, 52, 53, 54, 55, 56, 57, 65, 66, 67, 68, 69, 70]⟩ : ByteArray) (Int.tmod (bt a0 x5_1) 16)] : List Int) : List Int)).bind fun y167 => (if (x3_1 ++ (⟨#[37]⟩ : ByteArray)).size + (strOfNums y167).size ≤ 9223372036854775807 then (lanyardref03_Percent.l0 kj4 a0 ((x3_1 ++ (⟨#[37]⟩ : ByteArray)) ++ (strOfNums y167)) (⟨#[48, 49, 50, 51, 52, 53, 54, 55, 56, 57, 65, 66, 67, 68, 69, 70]⟩ : ByteArray) (wrap64 (x5_1 + 1))) else (none))) else (none)) else (none)) else (none)) else (none)) else (none)) = some r := by rw [if_neg (show ¬ (false = true) by decide)] at H; exact H
        clear H
        have H := H1
        clear H1
        by_cases c50 : x3_1.size + 1 ≤ 9223372036854775807
        ·rw [if_pos c50] at H
         have c50b0 := eq_true c50
         have c50b1 : decide (x3_1.size + 1 ≤ 9223372036854775807) = true := decide_eq_true c50
         try have c50b2 : (9223372036854775807 < x3_1.size + 1) = False := eq_false (Nat.not_lt.2 c50)
         obtain ⟨ji51, hji51⟩ : ∃ j_ : Int, ((Int.tdiv (bt a0 x5_1) 16) % 256) = j_ := ⟨_, rfl⟩
         have hji51w : IntKind.u8.wrap (Int.tdiv (bt a0 x5_1) 16) = ji51 := (IntKind.wrap_u8 _).trans hji51
         replace H : (if 0 ≤ (ji51) then (if (ji51) < ((⟨#[48, 49, 50, 51, 52, 53, 54, 55, 56, 57, 65, 66, 67, 68, 69, 70]⟩ : ByteArray).size : Int) then (if 0 ≤ (Int.tmod (bt a0 x5_1) 16) then (if (Int.tmod (bt a0 x5_1) 16) < ((⟨#[48, 49, 50, 51, 52, 53, 54, 55, 56, 57, 65, 66, 67, 68, 69, 70]⟩ : ByteArray).size : Int) then ((some (([bt (⟨#[48, 49, 50, 51, 52, 53, 54, 55, 56, 57, 65, 66, 67, 68, 69, 70]⟩ : ByteArray) (ji51), bt (⟨#[48, 49, 50, 51, 52, 53, 54, 55, 56, 57, 65, 66, 67, 68, 69, 70]⟩ : ByteArray) (Int.tmod (bt a0 x5_1) 16)] : List Int) : List Int)).bind fun y167 => (if (x3_1 ++ (⟨#[37]⟩ : ByteArray)).size + (strOfNums y167).size ≤ 9223372036854775807 then (lanyardref03_Percent.l0 kj4 a0 ((x3_1 ++ (⟨#[37]⟩ : ByteArray)) ++ (strOfNums y167)) (⟨#[48, 49, 50, 51, 52, 53, 54, 55, 56, 57, 65, 66, 67, 68, 69, 70]⟩ : ByteArray) (wrap64 (x5_1 + 1))) else (none))) else (none)) else (none)) else (none)) else (none)) = some r := by first | (rw [hji51] at H; exact H) | (simp only [hji51] at H ⊢; exact H)
         by_cases c52 : 0 ≤ (ji51)
         ·rw [if_pos c52] at H
          have c52b0 : decide (0 ≤ (ji51)) = true := decide_eq_true c52
          clear c52
          by_cases c53 : (ji51) < ((⟨#[48, 49, 50, 51, 52, 53, 54, 55, 56, 57, 65, 66, 67, 68, 69, 70]⟩ : ByteArray).size : Int)
          ·rw [if_pos c53] at H
           have c53b0 : decide ((ji51) < ((⟨#[48, 49, 50, 51, 52, 53, 54, 55, 56, 57, 65, 66, 67, 68, 69, 70]⟩ : ByteArray).size : Int)) = true := decide_eq_true c53
           clear c53
           obtain ⟨ji55, hji55⟩ : ∃ j_ : Int, (Int.tmod (bt a0 x5_1) 16) = j_ := ⟨_, rfl⟩
           replace H : (if 0 ≤ (ji55) then (if (ji55) < ((⟨#[48, 49, 50, 51, 52, 53, 54, 55, 56, 57, 65, 66, 67, 68, 69, 70]⟩ : ByteArray).size : Int) then ((some (([bt (⟨#[48, 49, 50, 51, 52, 53, 54, 55, 56, 57, 65, 66, 67, 68, 69, 70]⟩ : ByteArray) (ji51), bt (⟨#[48, 49, 50, 51, 52, 53, 54, 55, 56, 57, 65, 66, 67, 68, 69, 70]⟩ : ByteArray) (ji55)] : List Int) : List Int)).bind fun y167 => (if (x3_1 ++ (⟨#[37]⟩ : ByteArray)).size + (strOfNums y167).size ≤ 9223372036854775807 then (lanyardref03_Percent.l0 kj4 a0 ((x3_1 ++ (⟨#[37]⟩ : ByteArray)) ++ (strOfNums y167)) (⟨#[48, 49, 50, 51, 52, 53, 54, 55, 56, 57, 65, 66, 67, 68, 69, 70]⟩ : ByteArray) (wrap64 (x5_1 + 1))) else (none))) else (none)) else (none)) = some r := by first | (rw [hji55] at H; exact H) | (simp only [hji55] at H ⊢; exact H)
           by_cases c56 : 0 ≤ (ji55)
           ·rw [if_pos c56] at H
            have c56b0 : decide (0 ≤ (ji55)) = true := decide_eq_true c56
            clear c56
            by_cases c57 : (ji55) < ((⟨#[48, 49, 50, 51, 52, 53, 54, 55, 56, 57, 65, 66, 67, 68, 69, 70]⟩ : ByteArray).size : Int)
            ·rw [if_pos c57] at H
             have c57b0 : decide ((ji55) < ((⟨#[48, 49, 50, 51, 52, 53, 54, 55, 56, 57, 65, 66, 67, 68, 69, 70]⟩ : ByteArray).size : Int)) = true := decide_eq_true c57
             clear c57
             obtain ⟨y167, hy167⟩ : ∃ y_ : List Int, y_ = (([bt (⟨#[48, 49, 50, 51, 52, 53, 54, 55, 56, 57, 65, 66, 67, 68, 69, 70]⟩ : ByteArray) (ji51), bt (⟨#[48, 49, 50, 51, 52, 53, 54, 55, 56, 57, 65, 66, 67, 68, 69, 70]⟩ : ByteArray) (ji55)] : List Int)) := ⟨_, rfl⟩
             replace H : (if (x3_1 ++ (⟨#[37]⟩ : ByteArray)).size + (strOfNums y167).size ≤ 9223372036854775807 then (lanyardref03_Percent.l0 kj4 a0 ((x3_1 ++ (⟨#[37]⟩ : ByteArray)) ++ (strOfNums y167)) (⟨#[48, 49, 50, 51, 52, 53, 54, 55, 56, 57, 65, 66, 67, 68, 69, 70]⟩ : ByteArray) (wrap64 (x5_1 + 1))) else (none)) = some r := by first | (rw [hy167]; with_reducible exact H) | (have H2_ := (Option.bind_some _ _).symm.trans H; rw [hy167]; with_reducible exact H2_) | (have H2_ := (Option.bind_some _ _).symm.trans H; with_reducible exact H2_) | with_reducible exact H | (rw [hy167]; exact H) | exact H
             have Ny167 := Aside0.mk hy167
             clear hy167
             by_cases c59 : (x3_1 ++ (⟨#[37]⟩ : ByteArray)).size + (strOfNums y167).size ≤ 9223372036854775807
             ·rw [if_pos c59] at H
              have c59b0 := eq_true c59
              have c59b1 : decide ((x3_1 ++ (⟨#[37]⟩ : ByteArray)).size + (strOfNums y167).size ≤ 9223372036854775807) = true := decide_eq_true c59
              try have c59b2 : (9223372036854775807 < (x3_1 ++ (⟨#[37]⟩ : ByteArray)).size + (strOfNums y167).size) = False := eq_false (Nat.not_lt.2 c59)
              try have c59b2z : (9223372036854775807 < x3_1.size + 1 + (strOfNums y167).size) = False := by have h_ := c59b2; simp only [ByteArray.size_append] at h_; exact h_
              have H' := Aside0.mk H
              clear H
              try go_wp2
              have n0_ := Aside0.mk (below_drew1 HB.out)
              clear HB
              have HB := n0_
              clear n0_
              have p54 : 0 ≤ ((ji51) : Int) := of_decide_eq_true (by first | (with_reducible assumption) | assumption)
              have q54 : (ji51) < (16 : Int) := of_decide_eq_true (by first | (with_reducible assumption) | assumption)
              have hx54 := bt_at (⟨#[48, 49, 50, 51, 52, 53, 54, 55, 56, 57, 65, 66, 67, 68, 69, 70]⟩ : ByteArray) (ji51)
              replace p54 := eq_true p54
              replace q54 := eq_true q54
              have p58 : 0 ≤ ((ji55) : Int) := of_decide_eq_true (by first | (with_reducible assumption) | assumption)
              have q58 : (ji55) < (16 : Int) := of_decide_eq_true (by first | (with_reducible assumption) | assumption)
              have hx58 := bt_at (⟨#[48, 49, 50, 51, 52, 53, 54, 55, 56, 57, 65, 66, 67, 68, 69, 70]⟩ : ByteArray) (ji55)
              replace p58 := eq_true p58
              replace q58 := eq_true q58
              refine start_ (n := 14) (S := fun w' => True) (ds := []) #[false, false, false, false, false, false, false, false, false, false, false, false, false, false] (by kernel_rfl) rfl rfl trivial (fun hHeld => ?_); refine with_tabW lanyardref03_Percent.tab9 lanyardref03_Percent.bits9 (fun HT_ HW_ => ?_)
              generalize wc.drew = w60 at HB hHeld ⊢
              refine pure_ (i := 0) (N := some 59) (v := ?_) (a' := ?_) #[true, false, false, false, false, false, false, false, false, false, false, false, false, false] rfl rfl (any_of HT_.out (by kernel_rfl)) (fun _ _ _ h => h) (Or.inl ⟨by rfl, ?_⟩) ?_ ?_
              rotate_left
              ·intro w'
               go_simp
               with_reducible rfl
              rotate_left
              ·simp only [Act.put, List.setIfInBounds_toArray, List.set_cons_zero, List.set_cons_succ, i64_w, i32_w]
               rfl
              refine pure_ (i := 1) (N := some 60) (v := ?_) (a' := ?_) #[true, true, false, false, false, false, false, false, false, false, false, false, false, false] rfl rfl (any_of HT_.out (by kernel_rfl)) (fun _ _ _ h => h) (Or.inl ⟨by rfl, ?_⟩) ?_ ?_
              rotate_left
              ·intro w'
               go_simp
               with_reducible rfl
              rotate_left
              ·simp only [Act.put, List.setIfInBounds_toArray, List.set_cons_zero, List.set_cons_succ, i64_w, i32_w]
               rfl
              refine pure_ (i := 2) (N := some 61) (v := ?_) (a' := ?_) #[true, true, true, false, false, false, false, false, false, false, false, false, false, false] rfl rfl (any_of HT_.out (by kernel_rfl)) (fun _ _ _ h => h) (Or.inl ⟨by rfl, ?_⟩) ?_ ?_
              rotate_left
              ·intro w'
               go_simp
               with_reducible rfl
              rotate_left
              ·simp only [Act.put, List.setIfInBounds_toArray, List.set_cons_zero, List.set_cons_succ, i64_w, i32_w]
               rfl
              refine pure_ (i := 3) (N := some 62) (v := ?_) (a' := ?_) #[true, true, true, true, false, false, false, false, false, false, false, false, false, false] rfl rfl (any_of HT_.out (by kernel_rfl)) (fun _ _ _ h => h) (Or.inl ⟨by rfl, ?_⟩) ?_ ?_
              rotate_left
              ·intro w'
               go_simp
               with_reducible rfl
              rotate_left
              ·simp only [Act.put, List.setIfInBounds_toArray, List.set_cons_zero, List.set_cons_succ, i64_w, i32_w]
               rfl
              refine pure_ (i := 4) (N := some 63) (v := ?_) (a' := ?_) #[true, true, true, true, true, false, false, false, false, false, false, false, false, false] rfl rfl (any_of HT_.out (by kernel_rfl)) (fun _ _ _ h => h) (Or.inl ⟨by rfl, ?_⟩) ?_ ?_
              rotate_left
              ·intro w'
               go_simp
               with_reducible rfl
              rotate_left
              ·simp only [Act.put, List.setIfInBounds_toArray, List.set_cons_zero, List.set_cons_succ, i64_w, i32_w]
               rfl
              refine pure_ (i := 6) (N := some 65) (v := ?_) (a' := ?_) #[true, true, true, true, true, false, true, false, false, false, false, false, false, false] rfl rfl (any_of HT_.out (by kernel_rfl)) (fun _ _ _ h => h) (Or.inl ⟨by rfl, ?_⟩) ?_ ?_
              rotate_left
              ·intro w'
               go_simp
               with_reducible rfl
              rotate_left
              ·simp only [Act.put, List.setIfInBounds_toArray, List.set_cons_zero, List.set_cons_succ, i64_w, i32_w]
               rfl
              refine pure_ (i := 7) (N := some 66) (v := ?_) (a' := ?_) #[true, true, true, true, true, false, true, true, false, false, false, false, false, false] rfl rfl (any_of HT_.out (by kernel_rfl)) (fun _ _ _ h => h) (Or.inl ⟨by rfl, ?_⟩) ?_ ?_
              rotate_left
              ·intro w'
               go_simp
               with_reducible rfl
              rotate_left
              ·simp only [Act.put, List.setIfInBounds_toArray, List.set_cons_zero, List.set_cons_succ, i64_w, i32_w]
               rfl
              refine pure_ (i := 8) (N := some 67) (v := ?_) (a' := ?_) #[true, true, true, true, true, false, true, true, true, false, false, false, false, false] rfl rfl (any_of HT_.out (by kernel_rfl)) (fun _ _ _ h => h) (Or.inl ⟨by rfl, ?_⟩) ?_ ?_
              rotate_left
              ·intro w'
               go_simp
               with_reducible rfl
              rotate_left
              ·simp only [Act.put, List.setIfInBounds_toArray, List.set_cons_zero, List.set_cons_succ, i64_w, i32_w]
               rfl
              refine take_ (i := 5) (N := some 64) (v := ?_) (a' := ?_) #[true, true, true, true, true, true, true, true, true, false, false, false, false, false] rfl rfl (take_ofW HT_.out HW_.out (by kernel_rfl)) (fun _ _ _ h => h) (Or.inl ⟨by rfl, ?_⟩) hHeld ?_ ?_
              rotate_left
              ·intro w' _
               go_simp
               with_reducible rfl
              rotate_left
              ·simp only [Act.put, List.setIfInBounds_toArray, List.set_cons_zero, List.set_cons_succ, i64_w, i32_w]
               rfl
              refine take_ (i := 9) (N := some 68) (v := ?_) (a' := ?_) #[true, true, true, true, true, true, true, true, true, true, false, false, false, false] rfl rfl (take_ofW HT_.out HW_.out (by kernel_rfl)) (fun _ _ _ h => h) (Or.inl ⟨by rfl, ?_⟩) hHeld ?_ ?_
              rotate_left
              ·intro w' _
               go_simp
               with_reducible rfl
              rotate_left
              ·simp only [Act.put, List.setIfInBounds_toArray, List.set_cons_zero, List.set_cons_succ, i64_w, i32_w]
               rfl
              refine one_ (i := 10) (N := some 69) #[true, true, true, true, true, true, true, true, true, true, true, false, false, false] rfl rfl (one_of HT_.out (by kernel_rfl)) (by decide) (fun K hK => ?_)
              refine Kd.R_lit_step (Kd.int .u8) _ 5 ?hg (N := 69) ?hd (xs := ([bt (⟨#[48, 49, 50, 51, 52, 53, 54, 55, 56, 57, 65, 66, 67, 68, 69, 70]⟩ : ByteArray) (ji51), bt (⟨#[48, 49, 50, 51, 52, 53, 54, 55, 56, 57, 65, 66, 67, 68, 69, 70]⟩ : ByteArray) (ji55)] : List Int)) (inner := [.int .u8 (bt (⟨#[48, 49, 50, 51, 52, 53, 54, 55, 56, 57, 65, 66, 67, 68, 69, 70]⟩ : ByteArray) (ji51)), .int .u8 (bt (⟨#[48, 49, 50, 51, 52, 53, 54, 55, 56, 57, 65, 66, 67, 68, 69, 70]⟩ : ByteArray) (ji55))]) (ok := fun _ => True) (okp := fun _ => True) ?hr ?hp (fun _ hk => hk) trivial (Below.refl _ _) (Nat.le_refl _) (by simp) ?_; (case hd => rfl); (case hg => rfl); (case hr => first | (go_simp; done) | (go_simp; rfl)); (case hp => exact (Reps.one (show Kd.M (Kd.int .u8) _ _ _ (bt (⟨#[48, 49, 50, 51, 52, 53, 54, 55, 56, 57, 65, 66, 67, 68, 69, 70]⟩ : ByteArray) (ji51)) [.int .u8 (bt (⟨#[48, 49, 50, 51, 52, 53, 54, 55, 56, 57, 65, 66, 67, 68, 69, 70]⟩ : ByteArray) (ji51))] from rfl) (Reps.one (show Kd.M (Kd.int .u8) _ _ _ (bt (⟨#[48, 49, 50, 51, 52, 53, 54, 55, 56, 57, 65, 66, 67, 68, 69, 70]⟩ : ByteArray) (ji55)) [.int .u8 (bt (⟨#[48, 49, 50, 51, 52, 53, 54, 55, 56, 57, 65, 66, 67, 68, 69, 70]⟩ : ByteArray) (ji55))] from rfl) (Reps.none _ _))))
              intro v168 w61 ho62 hb hg_ hnew_
              clear hg_ hnew_
              (first | rw [← Ny167.out] at ho62 | (simp only [Int.reduceToNat] at ho62; rw [← Ny167.out] at ho62))
              have n0_ := Aside0.mk (Kd.R_lower ho62 (Bz HB))
              have n1_ := Bs HB hb
              clear HB
              have HO169 := n0_
              have HB := n1_
              clear n0_ n1_
              clear hb ho62
              refine hK.out _ _ trivial (fun hHeld => ?_)
              clear hK K
              refine norm_ (a' := ?_) ?_ ?_
              rotate_left
              ·show Act.put _ (some 69) _ = _
               simp only [Act.put, List.setIfInBounds_toArray, List.set_cons_zero, List.set_cons_succ, i64_w, i32_w]
               rfl
              refine one_ (i := 11) (N := some 70) #[true, true, true, true, true, true, true, true, true, true, true, true, false, false] rfl rfl (one_of HT_.out (by kernel_rfl)) (by decide) (fun K hK => ?_)
              have hcv63 := own_string (P := Tryd.prog) Tryd.underlying47 Tryd.underlying5 Tryd.underlying9 (Kd.own_of_R HO169.out)
              refine value_ (w1 := ?_) (v := ?_) (by rfl) rfl ?_ ?_
              rotate_left 2
              ·go_simp
               constructor
               ·rfl
               ·rfl
              clear hcv63
              refine hK.out _ _ trivial (fun hHeld => ?_)
              clear hK K
              refine norm_ (a' := ?_) ?_ ?_
              rotate_left
              ·show Act.put _ (some 70) _ = _
               simp only [Act.put, List.setIfInBounds_toArray, List.set_cons_zero, List.set_cons_succ, i64_w, i32_w]
               rfl
              refine pure_ (i := 12) (N := some 71) (v := ?_) (a' := ?_) #[true, true, true, true, true, true, true, true, true, true, true, true, true, false] rfl rfl (any_of HT_.out (by kernel_rfl)) (fun _ _ _ h => h) (Or.inl ⟨by rfl, ?_⟩) ?_ ?_
              rotate_left
              ·intro w'
               go_simp
               with_reducible rfl
              rotate_left
              ·simp only [Act.put, List.setIfInBounds_toArray, List.set_cons_zero, List.set_cons_succ, i64_w, i32_w]
               rfl
              refine pure_ (i := 13) (N := some 3) (v := ?_) (a' := ?_) #[true, true, true, true, true, true, true, true, true, true, true, true, true, true] rfl rfl (any_of HT_.out (by kernel_rfl)) (fun _ _ _ h => h) (Or.inl ⟨by rfl, ?_⟩) ?_ ?_
              rotate_left
              ·intro w'
               go_simp
               with_reducible rfl
              rotate_left
              ·simp only [Act.put, List.setIfInBounds_toArray, List.set_cons_zero, List.set_cons_succ, i64_w, i32_w]
               rfl
              refine done_ (done_of HT_.out (by kernel_rfl)) ?_
              try go_wp2
              go_roundg kj4
              case measure => have := HK1.out; have := HJ4.out; omega
              case rel => exact ⟨((x3_1 ++ (⟨#[37]⟩ : ByteArray)) ++ (strOfNums y167)), (wrap64 (x5_1 + 1)), (by first | rfl | (simp; done) | (simp [*]; done)), (by first | rfl | (simp; done) | (simp [*]; done)), H', ⟨by have := HK1.out; have := HJ4.out; omega⟩, ⟨Bu HB⟩⟩
             ·rw [if_neg c59] at H
              exact absurd H (by simp)
            ·rw [if_neg c57] at H
             exact absurd H (by simp)
           ·rw [if_neg c56] at H
            exact absurd H (by simp)
          ·rw [if_neg c53] at H
           exact absurd H (by simp)
         ·rw [if_neg c52] at H
          exact absurd H (by simp)
        ·rw [if_neg c50] at H
         exact absurd H (by simp)
    ·rw [if_neg c3] at H
     exact absurd H (by simp)
   ·rw [if_neg c2] at H
    have c2b0 : decide (x5_1 < (a0.size : Int)) = false := decide_eq_false c2
    clear c2
    obtain rfl := Option.some.inj H
    go_wp2
    go_ret
    exact ⟨rfl_, Bu HB⟩

end Go.Proofs.YtjmcdocoogdbiaaDoor.Hp
