/- Go functions of this seat as Lean functions, and their contracts: what the Go code computes, for every input. (By hp.py, a program of this repo, over the kit's print.py.) -/
import Derived.Test.YtjmcdocoogdbiaaDoorHp0
import Derived.Test.YtjmcdocoogdbiaaDoorHp2
namespace Go.Proofs.YtjmcdocoogdbiaaDoor.Hp
open Go.RowKit Go.Proofs.YtjmcdocoogdbiaaDoorW.PrintWords Go.Proofs.YtjmcdocoogdbiaaDoorW.PrintLast Go.Proofs.YtjmcdocoogdbiaaDoorW.PrintMore
attribute [local go_sem] max2_int min2_int max_two min_two max_three min_three max_four min_four   -- for this text's walks alone
set_option linter.unusedVariables false
set_option linter.unusedSimpArgs false

/-! ### base_Unhex: function 30 -/
mutual
def base_Unhex.l0 : Nat → ByteArray → List Int → Int → Int → Int → Option (List Int × Int)
 | 0, _, _, _, _, _ => none
 | k + 1, x0, x4, x5, x9, x10 => if x10 < x9 then (if 0 ≤ x10 then (if x10 < (x0.size : Int) then ((strings_IndexByte.f (⟨#[48, 49, 50, 51, 52, 53, 54, 55, 56, 57, 97, 98, 99, 100, 101, 102]⟩ : ByteArray) (bt x0 x10)).bind fun t109 => (if (bt x0 x10) ≥ 65 then (base_Unhex.j1 k x0 x4 x5 x10 t109 x9 x10 (decide ((bt x0 x10) ≤ 70))) else (base_Unhex.j1 k x0 x4 x5 x10 t109 x9 x10 false))) else (none)) else (none)) else (if ((x0.size : Int) % 2) = 1 then (some (([] : List Int), 10)) else (some (x4, 0)))
def base_Unhex.j1 : Nat → ByteArray → List Int → Int → Int → Int → Int → Int → Bool → Option (List Int × Int)
 | 0, _, _, _, _, _, _, _, _ => none
 | k + 1, x0, x4, x5, x6, x7, x9, x10, x26 => if x26 = true then (if 0 ≤ x6 then (if x6 < (x0.size : Int) then (base_Unhex.j2 k x0 x4 x5 x6 (10 + (((bt x0 x6) - 65) % 256)) x9 x10) else (none)) else (none)) else (base_Unhex.j2 k x0 x4 x5 x6 x7 x9 x10)
def base_Unhex.j2 : Nat → ByteArray → List Int → Int → Int → Int → Int → Int → Option (List Int × Int)
 | 0, _, _, _, _, _, _, _ => none
 | k + 1, x0, x4, x5, x6, x7, x9, x10 => if x7 < 0 then (some (([] : List Int), 13)) else (if (Int.tmod x6 2) = 1 then (if x4.length < 140737488355328 then (base_Unhex.l0 k x0 (x4 ++ [(Go.bits .or .i64 (Go.bits .and .i64 (wrap64 (x5 * 16)) 240) x7) % 256]) (Go.bits .or .i64 (Go.bits .and .i64 (wrap64 (x5 * 16)) 240) x7) x9 (wrap64 (x10 + 1))) else (none)) else (base_Unhex.l0 k x0 x4 (Go.bits .or .i64 (Go.bits .and .i64 (wrap64 (x5 * 16)) 240) x7) x9 (wrap64 (x10 + 1))))
end
def base_Unhex.f (k : Nat) (a0 : ByteArray) : Option (List Int × Int) := base_Unhex.l0 k a0 ([] : List Int) 0 (a0.size : Int) 0
theorem base_Unhex.mono_l : ∀ k, (∀ y0 y1 y2 y3 y4, LeO (base_Unhex.l0 k y0 y1 y2 y3 y4) (base_Unhex.l0 (k + 1) y0 y1 y2 y3 y4)) ∧ (∀ y0 y1 y2 y3 y4 y5 y6 y7, LeO (base_Unhex.j1 k y0 y1 y2 y3 y4 y5 y6 y7) (base_Unhex.j1 (k + 1) y0 y1 y2 y3 y4 y5 y6 y7)) ∧ (∀ y0 y1 y2 y3 y4 y5 y6, LeO (base_Unhex.j2 k y0 y1 y2 y3 y4 y5 y6) (base_Unhex.j2 (k + 1) y0 y1 y2 y3 y4 y5 y6))
 | 0 => ⟨fun _ _ _ _ _ r h => by simp [base_Unhex.l0] at h, fun _ _ _ _ _ _ _ _ r h => by simp [base_Unhex.j1] at h, fun _ _ _ _ _ _ _ r h => by simp [base_Unhex.j2] at h⟩
 | k + 1 => by
  obtain ⟨ih0, ih1, ih2⟩ := base_Unhex.mono_l k
  refine ⟨?_, ?_, ?_⟩
  ·intro y0 y1 y2 y3 y4
   unfold base_Unhex.l0
   repeat' first
   | (with_reducible exact ih0 _ _ _ _ _)
   | (with_reducible exact ih1 _ _ _ _ _ _ _ _)
   | (with_reducible exact ih2 _ _ _ _ _ _ _)
   | (with_reducible exact LeO.refl _)
   | (with_reducible exact LeO.none _)
   | (with_reducible refine LeO.ite ?_ ?_)
   | (with_reducible refine LeO.bind ?_ (fun _ => ?_))
   | exact ih0 _ _ _ _ _
   | exact ih1 _ _ _ _ _ _ _ _
   | exact ih2 _ _ _ _ _ _ _
   | exact LeO.none _
   | refine LeO.ite ?_ ?_
   | refine LeO.bind ?_ (fun _ => ?_)
  ·intro y0 y1 y2 y3 y4 y5 y6 y7
   unfold base_Unhex.j1
   repeat' first
   | (with_reducible exact ih0 _ _ _ _ _)
   | (with_reducible exact ih1 _ _ _ _ _ _ _ _)
   | (with_reducible exact ih2 _ _ _ _ _ _ _)
   | (with_reducible exact LeO.refl _)
   | (with_reducible exact LeO.none _)
   | (with_reducible refine LeO.ite ?_ ?_)
   | (with_reducible refine LeO.bind ?_ (fun _ => ?_))
   | exact ih0 _ _ _ _ _
   | exact ih1 _ _ _ _ _ _ _ _
   | exact ih2 _ _ _ _ _ _ _
   | exact LeO.none _
   | refine LeO.ite ?_ ?_
   | refine LeO.bind ?_ (fun _ => ?_)
  ·intro y0 y1 y2 y3 y4 y5 y6
   unfold base_Unhex.j2
   repeat' first
   | (with_reducible exact ih0 _ _ _ _ _)
   | (with_reducible exact ih1 _ _ _ _ _ _ _ _)
   | (with_reducible exact ih2 _ _ _ _ _ _ _)
   | (with_reducible exact LeO.refl _)
   | (with_reducible exact LeO.none _)
   | (with_reducible refine LeO.ite ?_ ?_)
   | (with_reducible refine LeO.bind ?_ (fun _ => ?_))
   | exact ih0 _ _ _ _ _
   | exact ih1 _ _ _ _ _ _ _ _
   | exact ih2 _ _ _ _ _ _ _
   | exact LeO.none _
   | refine LeO.ite ?_ ?_
   | refine LeO.bind ?_ (fun _ => ?_)
theorem base_Unhex.mono : ∀ a0 k, LeO (base_Unhex.f k a0) (base_Unhex.f (k + 1) a0) := by
 intro a0 k
 obtain ⟨ih0, ih1, ih2⟩ := base_Unhex.mono_l k
 unfold base_Unhex.f
 repeat' first
   | (with_reducible exact ih0 _ _ _ _ _)
   | (with_reducible exact ih1 _ _ _ _ _ _ _ _)
   | (with_reducible exact ih2 _ _ _ _ _ _ _)
   | (with_reducible exact LeO.refl _)
   | (with_reducible exact LeO.none _)
   | (with_reducible refine LeO.ite ?_ ?_)
   | (with_reducible refine LeO.bind ?_ (fun _ => ?_))
   | exact ih0 _ _ _ _ _
   | exact ih1 _ _ _ _ _ _ _ _
   | exact ih2 _ _ _ _ _ _ _
   | exact LeO.none _
   | refine LeO.ite ?_ ?_
   | refine LeO.bind ?_ (fun _ => ?_)
set_option maxHeartbeats 8000000 in
set_option maxRecDepth 100000 in
theorem base_Unhex.calls (k : Nat) (a0 : ByteArray) (r1 : List Int) (r2 : Int) (w : World) (h : base_Unhex.f k a0 = some (r1, r2)) :
  Calls Tryd.prog 30 #[.string a0] w fun e w' => ∃ v0_ : Value, e = .returned (.tuple #[v0_, .int .i64 r2]) ∧ Kd.R (Kd.int .u8) 5 w' w.heap.size (fun _ => True) v0_ r1 ∧ Below w.heap.size w w' := by
 have HB := Aside0.mk (Below.refl w.heap.size w)
 have H : (base_Unhex.l0 k a0 ([] : List Int) 0 (a0.size : Int) 0) = some (r1, r2) := h
 clear h
 have H' := Aside0.mk H
 clear H
 go_enter Tryd.func30, Tryd.ntmps30
 go_wp2
 go_loopg [4, 5, 10] k (fun kq v4 v5 v10 w' => ∃ (x4_1 : List Int) (x5_1 : Int) (x10_1 : Int), v5 = .int .i64 x5_1 ∧ v10 = .int .i64 x10_1 ∧ Aside0 (base_Unhex.l0 kq a0 x4_1 x5_1 (a0.size : Int) x10_1 = some (r1, r2)) ∧ Aside0 (kq ≤ k) ∧ Aside0 (Kd.R (Kd.int .u8) 5 w' w.heap.size (fun _ => True) v4 x4_1) ∧ Aside0 (Below w.heap.size w w'))
 case atStart => exact ⟨(([] : List Int)), (0), (0), (by first | rfl | (simp; done) | (simp [*]; done)), (by first | rfl | (simp; done) | (simp [*]; done)), H', ⟨Nat.le_refl _⟩, ⟨by first | exact Kd.R_nil _ _ _ _ _ | exact Kd.N_nil _ _ _ _ _ | exact Kd.V_nil _ _ _ _ _ | exact Kd.Q_nil _ _ _ _ _ | exact Kd.S_nil _ _ _ _ _⟩, ⟨Bu HB⟩⟩
 case round =>
  clear H'
  obtain ⟨x4_1, x5_1, x10_1, rfl, rfl, HA, HK1, HO_4, HB⟩ := hrel
  cases gk with
  | zero => exact absurd HA.out (by simp [base_Unhex.l0])
  | succ k1 =>
   have H := HA.out
   clear HA
   simp only [base_Unhex.l0] at H
   by_cases c2 : x10_1 < (a0.size : Int)
   ·rw [if_pos c2] at H
    have c2b0 : decide (x10_1 < (a0.size : Int)) = true := decide_eq_true c2
    clear c2
    by_cases c3 : 0 ≤ x10_1
    ·rw [if_pos c3] at H
     have c3b0 : decide (0 ≤ x10_1) = true := decide_eq_true c3
     clear c3
     by_cases c4 : x10_1 < (a0.size : Int)
     ·rw [if_pos c4] at H
      have c4b0 : decide (x10_1 < (a0.size : Int)) = true := decide_eq_true c4
      clear c4
      replace H := Option.bind_eq_some_iff.mp H
      obtain ⟨t109, A60, H⟩ := H
      replace H : (if (bt a0 x10_1) ≥ 65 then (base_Unhex.j1 k1 a0 x4_1 x5_1 x10_1 t109 (a0.size : Int) x10_1 (decide ((bt a0 x10_1) ≤ 70))) else (base_Unhex.j1 k1 a0 x4_1 x5_1 x10_1 t109 (a0.size : Int) x10_1 false)) = some (r1, r2) := H
      have A6 := Aside0.mk A60
      clear A60
      have HC7 := Aside0.mk H
      clear H
      have p5 : 0 ≤ (x10_1 : Int) := of_decide_eq_true (by first | (with_reducible assumption) | assumption)
      have q5 : x10_1 < (a0.size : Int) := of_decide_eq_true (by first | (with_reducible assumption) | assumption)
      have hx5 := bt_at a0 x10_1
      replace p5 := eq_true p5
      replace q5 := eq_true q5
      go_upto_region 7 with (first | ((with_reducible refine gate_callee (f := 40) rfl ?_); refine goesL_ (some 16) rfl rfl Tryd.func40 (by kernel_rfl) rfl #[.string (⟨#[48, 49, 50, 51, 52, 53, 54, 55, 56, 57, 97, 98, 99, 100, 101, 102]⟩ : ByteArray), .int .u8 (bt a0 x10_1)] rfl (by (try simp only [List.map_toArray, List.map_cons, List.map_nil]); first | done | rfl | (simp only [List.length_drop, List.length_take]; rfl)) ?_; (with_reducible refine (strings_IndexByte.calls (⟨#[48, 49, 50, 51, 52, 53, 54, 55, 56, 57, 97, 98, 99, 100, 101, 102]⟩ : ByteArray) (bt a0 x10_1) t109 _ A6.out).mono ?_); rintro e w' ⟨rfl, ⟨nd, rfl⟩⟩; refine ⟨_, rfl, ?_⟩))
      (try simp only [Act.put, List.setIfInBounds_toArray, List.set_cons_zero, List.set_cons_succ])
      go_cut [26] (fun v26 wc => ∃ (kq : Nat) (x26_6 : Bool), v26 = .bool x26_6 ∧ Aside0 (base_Unhex.j1 kq a0 x4_1 x5_1 x10_1 t109 (a0.size : Int) x10_1 x26_6 = some (r1, r2)) ∧ Aside0 (kq ≤ k1) ∧ Aside0 (Kd.R (Kd.int .u8) 5 wc w.heap.size (fun _ => True) u4 x4_1) ∧ Aside0 (Below w.heap.size w wc))
      case first =>
       have H := HC7.out
       clear HC7
       by_cases c9 : (bt a0 x10_1) ≥ 65
       ·rw [if_pos c9] at H
        have c9b0 : decide (65 ≤ (bt a0 x10_1)) = true := decide_eq_true c9
        clear c9
        (first | rw [c9b0] | (simp only [i64_w, i32_w]; rw [c9b0]) | skip)
        have H' := Aside0.mk H
        clear H
        have p8 : 0 ≤ (x10_1 : Int) := of_decide_eq_true (by first | (with_reducible assumption) | assumption)
        have q8 : x10_1 < (a0.size : Int) := of_decide_eq_true (by first | (with_reducible assumption) | assumption)
        have hx8 := bt_at a0 x10_1
        replace p8 := eq_true p8
        replace q8 := eq_true q8
        have p10 : 0 ≤ (x10_1 : Int) := of_decide_eq_true (by first | (with_reducible assumption) | assumption)
        have q10 : x10_1 < (a0.size : Int) := of_decide_eq_true (by first | (with_reducible assumption) | assumption)
        have hx10 := bt_at a0 x10_1
        replace p10 := eq_true p10
        replace q10 := eq_true q10
        go_wp2
        go_meet
        case rel => exact ⟨_, (decide ((bt a0 x10_1) ≤ 70)), (by first | rfl | (simp; done) | (simp [*]; done)), H', ⟨by have := HK1.out; first | omega | exact Nat.le_refl _⟩, ⟨Ru HO_4⟩, ⟨Bu HB⟩⟩
       ·rw [if_neg c9] at H
        have c9b0 : decide (65 ≤ (bt a0 x10_1)) = false := decide_eq_false c9
        clear c9
        (first | rw [c9b0] | (simp only [i64_w, i32_w]; rw [c9b0]) | skip)
        have H' := Aside0.mk H
        clear H
        have p8 : 0 ≤ (x10_1 : Int) := of_decide_eq_true (by first | (with_reducible assumption) | assumption)
        have q8 : x10_1 < (a0.size : Int) := of_decide_eq_true (by first | (with_reducible assumption) | assumption)
        have hx8 := bt_at a0 x10_1
        replace p8 := eq_true p8
        replace q8 := eq_true q8
        go_wp2
        go_meet
        case rel => exact ⟨_, (false), (by first | rfl | (simp; done) | (simp [*]; done)), H', ⟨by have := HK1.out; first | omega | exact Nat.le_refl _⟩, ⟨Ru HO_4⟩, ⟨Bu HB⟩⟩
      case rest =>
       clear HC7
       try clear p1
       try clear q1
       try clear hx1
       try clear c2
       try clear c2b0
       try clear p2
       try clear c3
       try clear c3b0
       try clear c4
       try clear c4b0
       try clear p5
       try clear q5
       try clear hx5
       try clear p8
       try clear q8
       try clear hx8
       try clear c9
       try clear c9b0
       try clear p10
       try clear q10
       try clear hx10
       try clear p10
       try clear p5
       try clear p8
       try clear q10
       try clear q5
       try clear q8
       obtain ⟨kq, x26_6, rfl, HA, HJ6, HO_4, HB⟩ := hcut
       cases kq with
       | zero => exact absurd HA.out (by simp [base_Unhex.j1])
       | succ kj6 =>
        have H := HA.out
        clear HA
        simp only [base_Unhex.j1] at H
        have HC11 := Aside0.mk H
        clear H
        go_upto_if 26 with (fail)
        go_cut [7] (fun v7 wc => ∃ (kq : Nat) (x7_10 : Int), v7 = .int .i64 x7_10 ∧ Aside0 (base_Unhex.j2 kq a0 x4_1 x5_1 x10_1 x7_10 (a0.size : Int) x10_1 = some (r1, r2)) ∧ Aside0 (kq ≤ kj6) ∧ Aside0 (Kd.R (Kd.int .u8) 5 wc w.heap.size (fun _ => True) u4 x4_1) ∧ Aside0 (Below w.heap.size w wc))
        case first =>
         have H := HC11.out
         clear HC11
         by_cases c12 : x26_6 = true
         ·subst c12
          have H1 : (if 0 ≤ x10_1 then (if x10_1 < (a0.size : Int) then (base_Unhex.j2 kj6 a0 x4_1 x5_1 x10_1 (10 + (((bt a0 x10_1) - 65) % 256)) (a0.size : Int) x10_1) else (none)) else (none)) = some (r1, r2) := by rw [if_pos rfl] at H; exact H
          clear H
          have H := H1
          clear H1
          by_cases c13 : 0 ≤ x10_1
          ·rw [if_pos c13] at H
           have c13b0 : decide (0 ≤ x10_1) = true := decide_eq_true c13
           clear c13
           (first | rw [c13b0] | (simp only [i64_w, i32_w]; rw [c13b0]) | skip)
           by_cases c14 : x10_1 < (a0.size : Int)
           ·rw [if_pos c14] at H
            have c14b0 : decide (x10_1 < (a0.size : Int)) = true := decide_eq_true c14
            clear c14
            have H' := Aside0.mk H
            clear H
            have p15 : 0 ≤ (x10_1 : Int) := of_decide_eq_true (by first | (with_reducible assumption) | assumption)
            have q15 : x10_1 < (a0.size : Int) := of_decide_eq_true (by first | (with_reducible assumption) | assumption)
            have hx15 := bt_at a0 x10_1
            replace p15 := eq_true p15
            replace q15 := eq_true q15
            go_wp2
            go_meet
            case rel => exact ⟨_, (10 + (((bt a0 x10_1) - 65) % 256)), (by first | rfl | (simp; done) | (simp [*]; done)), H', ⟨by have := HK1.out; have := HJ6.out; first | omega | exact Nat.le_refl _⟩, ⟨Ru HO_4⟩, ⟨Bu HB⟩⟩
           ·rw [if_neg c14] at H
            exact absurd H (by simp)
          ·rw [if_neg c13] at H
           exact absurd H (by simp)
         ·replace c12 := Bool.eq_false_iff.mpr c12
          subst c12
          have H1 : (base_Unhex.j2 kj6 a0 x4_1 x5_1 x10_1 t109 (a0.size : Int) x10_1) = some (r1, r2) := by rw [if_neg (show ¬ (false = true) by decide)] at H; exact H
          clear H
          have H := H1
          clear H1
          have H' := Aside0.mk H
          clear H
          go_wp2
          go_meet
          case rel => exact ⟨_, (t109), (by first | rfl | (simp; done) | (simp [*]; done)), H', ⟨by have := HK1.out; have := HJ6.out; first | omega | exact Nat.le_refl _⟩, ⟨Ru HO_4⟩, ⟨Bu HB⟩⟩
        case rest =>
         clear HC11
         try clear c1
         try clear p1
         try clear q1
         try clear hx1
         try clear c2
         try clear c2b0
         try clear p2
         try clear c3
         try clear c3b0
         try clear c4
         try clear c4b0
         try clear p5
         try clear q5
         try clear hx5
         try clear p8
         try clear q8
         try clear hx8
         try clear c9
         try clear c9b0
         try clear p10
         try clear q10
         try clear hx10
         try clear c12
         try clear c13
         try clear c13b0
         try clear c14
         try clear c14b0
         try clear p15
         try clear q15
         try clear hx15
         try clear p1
         try clear p10
         try clear p15
         try clear p2
         try clear p5
         try clear p8
         try clear q1
         try clear q10
         try clear q15
         try clear q5
         try clear q8
         obtain ⟨kq, x7_10, rfl, HA, HJ10, HO_4, HB⟩ := hcut
         cases kq with
         | zero => exact absurd HA.out (by simp [base_Unhex.j2])
         | succ kj10 =>
          have H := HA.out
          clear HA
          simp only [base_Unhex.j2] at H
          by_cases c16 : x7_10 < 0
          ·rw [if_pos c16] at H
           have c16b0 : decide (x7_10 < 0) = true := decide_eq_true c16
           clear c16
           simp only [Option.some.injEq, Prod.mk.injEq] at H
           obtain ⟨rfl, rfl⟩ := H
           go_wp2
           go_ret2
           exact ⟨_, rfl_, by first | exact Kd.R_nil _ _ _ _ _ | exact Kd.N_nil _ _ _ _ _ | exact Kd.V_nil _ _ _ _ _ | exact Kd.Q_nil _ _ _ _ _ | exact Kd.S_nil _ _ _ _ _, Bu HB⟩
          ·rw [if_neg c16] at H
           have c16b0 : decide (x7_10 < 0) = false := decide_eq_false c16
           clear c16
           by_cases c17 : (Int.tmod x10_1 2) = 1
           ·rw [if_pos c17] at H
            have c17b0 : ((Int.tmod x10_1 2) == 1) = true := beq_iff_eq.mpr c17
            have c17b1 : ((Int.tmod x10_1 2) != 1) = false := bne_eq_false_iff_eq.mpr c17
            clear c17
            by_cases c18 : x4_1.length < 140737488355328
            ·rw [if_pos c18] at H
             have LMc18 := Aside0.mk c18
             clear c18
             obtain ⟨y110, hy110⟩ : ∃ y_ : List Int, y_ = (x4_1 ++ [(Go.bits .or .i64 (Go.bits .and .i64 (wrap64 (x5_1 * 16)) 240) x7_10) % 256]) := ⟨_, rfl⟩
             replace H : (base_Unhex.l0 kj10 a0 y110 (Go.bits .or .i64 (Go.bits .and .i64 (wrap64 (x5_1 * 16)) 240) x7_10) (a0.size : Int) (wrap64 (x10_1 + 1))) = some (r1, r2) := by first | (rw [hy110]; with_reducible exact H) | (have H2_ := (Option.bind_some _ _).symm.trans H; rw [hy110]; with_reducible exact H2_) | (have H2_ := (Option.bind_some _ _).symm.trans H; with_reducible exact H2_) | with_reducible exact H | (rw [hy110]; exact H) | exact H
             have Ny110 := Aside0.mk hy110
             clear hy110
             have H' := Aside0.mk H
             clear H
             go_wp2_with (first | ((with_reducible refine gate_builtin (b := .append) (xs := #[.tmp 43, .tmp 46]) rfl ?_); at_builtin; refine Kd.R_append (Kd.int .u8) (w0 := w) w.heap.size rfl (.tmp 43) (.tmp 46) 47 5 (.int .u8 0) 1 rfl Tryd.underlying47 info5 rfl (by decide) (by omega) u4 x4_1 ((Go.bits .or .i64 (Go.bits .and .i64 (wrap64 (x5_1 * 16)) 240) x7_10) % 256) [.int .u8 ((Go.bits .or .i64 (Go.bits .and .i64 (wrap64 (x5_1 * 16)) 240) x7_10) % 256)] (fun _ => True) (fun _ => False) rfl rfl ?aP (fun _ hk => hk.elim) ?aF ?aO ?aB ?aS ?aL ?_; (case aP => exact rfl); (case aB => exact (Bu HB)); (case aF => exact (fun _ _ => trivial)); (case aO => exact (Ru HO_4)); (case aS => exact (Bz HB)); (case aL => have := LMc18.out; omega); intro v111 w19 ho hb hg hat; rw [← Ny110.out] at ho; have n0_ := Aside0.mk (hb); have n1_ := Aside0.mk (ho); clear HB HO_4; revert n0_ n1_; intro HB HO112; clear ho hb hg hat))
             go_roundg kj10
             case measure => have := HK1.out; have := HJ6.out; have := HJ10.out; omega
             case rel => exact ⟨(y110), (Go.bits .or .i64 (Go.bits .and .i64 (wrap64 (x5_1 * 16)) 240) x7_10), (wrap64 (x10_1 + 1)), (by first | rfl | (simp; done) | (simp [*]; done)), (by first | rfl | (simp; done) | (simp [*]; done)), H', ⟨by have := HK1.out; have := HJ6.out; have := HJ10.out; omega⟩, ⟨Ru HO112⟩, ⟨Bu HB⟩⟩
            ·rw [if_neg c18] at H
             exact absurd H (by simp)
           ·rw [if_neg c17] at H
            have c17b0 : ((Int.tmod x10_1 2) == 1) = false := beq_eq_false_iff_ne.mpr c17
            have c17b1 : ((Int.tmod x10_1 2) != 1) = true := bne_iff_ne.mpr c17
            have H' := Aside0.mk H
            clear H
            go_wp2
            go_roundg kj10
            case measure => have := HK1.out; have := HJ6.out; have := HJ10.out; omega
            case rel => exact ⟨(x4_1), (Go.bits .or .i64 (Go.bits .and .i64 (wrap64 (x5_1 * 16)) 240) x7_10), (wrap64 (x10_1 + 1)), (by first | rfl | (simp; done) | (simp [*]; done)), (by first | rfl | (simp; done) | (simp [*]; done)), H', ⟨by have := HK1.out; have := HJ6.out; have := HJ10.out; omega⟩, ⟨Ru HO_4⟩, ⟨Bu HB⟩⟩
     ·rw [if_neg c4] at H
      exact absurd H (by simp)
    ·rw [if_neg c3] at H
     exact absurd H (by simp)
   ·rw [if_neg c2] at H
    have c2b0 : decide (x10_1 < (a0.size : Int)) = false := decide_eq_false c2
    clear c2
    by_cases c20 : ((a0.size : Int) % 2) = 1
    ·rw [if_pos c20] at H
     have c20b0 : (((a0.size : Int) % 2) == 1) = true := beq_iff_eq.mpr c20
     have c20b1 : (((a0.size : Int) % 2) != 1) = false := bne_eq_false_iff_eq.mpr c20
     clear c20
     simp only [Option.some.injEq, Prod.mk.injEq] at H
     obtain ⟨rfl, rfl⟩ := H
     go_wp2
     go_ret2
     exact ⟨_, rfl_, by first | exact Kd.R_nil _ _ _ _ _ | exact Kd.N_nil _ _ _ _ _ | exact Kd.V_nil _ _ _ _ _ | exact Kd.Q_nil _ _ _ _ _ | exact Kd.S_nil _ _ _ _ _, Bu HB⟩
    ·rw [if_neg c20] at H
     have c20b0 : (((a0.size : Int) % 2) == 1) = false := beq_eq_false_iff_ne.mpr c20
     have c20b1 : (((a0.size : Int) % 2) != 1) = true := bne_iff_ne.mpr c20
     simp only [Option.some.injEq, Prod.mk.injEq] at H
     obtain ⟨rfl, rfl⟩ := H
     go_wp2
     go_ret2
     exact ⟨_, rfl_, Ru HO_4, Bu HB⟩

/-! ### escape_Unpercent: function 10 -/
def escape_Unpercent.go (k : Nat) : Bool → List ByteArray → Option (Option (List UInt8))
  | _, [] => some (some [])
  | true, p :: ps => (escape_Unpercent.go k false ps).bind fun o => some (o.map (p.data.toList ++ ·))
  | false, p :: ps => (base_Unhex.f k (p.extract 0 (min 2 p.size))).bind fun be =>
    if be.2 = 0 ∧ be.1.length = 1 then if 2 ≤ p.size then (escape_Unpercent.go k false ps).bind fun o => some (o.map (((strOfNums be.1).data.toList ++ (p.extract 2 p.size).data.toList) ++ ·)) else none else some none
def escape_Unpercent.f (k : Nat) (a0 : ByteArray) (a1 : Bool) : Option (ByteArray × Int) :=
  (if a1 = true then strings_ReplaceAll.f a0 ⟨#[43]⟩ ⟨#[32]⟩ else some a0).bind fun s => (strings_Split.f s ⟨#[37]⟩).bind fun ps =>
    if (ps.map (fun p => p.size + 1)).sum ≤ 1099511627776 then (escape_Unpercent.go k true ps).bind fun o => some (match o with | some l => (⟨l.toArray⟩, 0) | none => (⟨#[]⟩, 10)) else none
theorem escape_Unpercent.mono_go (k : Nat) : ∀ (ps : List ByteArray) (b : Bool), LeO (escape_Unpercent.go k b ps) (escape_Unpercent.go (k + 1) b ps) := by
  intro ps
  induction ps with
  | nil => intro b; cases b <;> exact LeO.refl _
  | cons p ps ih =>
    intro b
    cases b with
    | true => exact LeO.bind (ih false) (fun _ => LeO.refl _)
    | false =>
      refine LeO.bind (base_Unhex.mono _ _) (fun _ => ?_)
      exact LeO.ite (LeO.ite (LeO.bind (ih false) (fun _ => LeO.refl _)) (LeO.refl _)) (LeO.refl _)
theorem escape_Unpercent.mono : ∀ a0 a1 k, LeO (escape_Unpercent.f k a0 a1) (escape_Unpercent.f (k + 1) a0 a1) := by
  intro a0 a1 k
  unfold escape_Unpercent.f
  exact LeO.bind (LeO.refl _) (fun _ => LeO.bind (LeO.refl _) (fun ps => LeO.ite (LeO.bind (escape_Unpercent.mono_go k ps true) (fun _ => LeO.refl _)) (LeO.refl _)))
/-- A row of texts made beside a builder that was just made. -/
theorem pieces_beside (w : World) (ps : List ByteArray) : Bld w.heap.size w.heap.size (fun i => i ≠ w.heap.size + 1) [] ((w.alloc (.cells #[.pointer none, .slice none 0 0] 49)).alloc (.cells (ps.map Value.string).toArray 9)) ∧
    (∀ j x, ps[j]? = some x → ((w.alloc (.cells #[.pointer none, .slice none 0 0] 49)).alloc (.cells (ps.map Value.string).toArray 9)).cell? ⟨w.heap.size + 1, j, none⟩ = some (.string x)) ∧
    w.heap.size + 1 < ((w.alloc (.cells #[.pointer none, .slice none 0 0] 49)).alloc (.cells (ps.map Value.string).toArray 9)).heap.size ∧ Below w.heap.size w ((w.alloc (.cells #[.pointer none, .slice none 0 0] 49)).alloc (.cells (ps.map Value.string).toArray 9)) := by
  have hz : (w.alloc (.cells #[.pointer none, .slice none 0 0] 49)).heap.size = w.heap.size + 1 := by simp
  refine ⟨(Bld.new w (fun _ => True)).step ?_ ?_ ?_ ?_, ?_, ?_, ?_⟩
  · exact heap_alloc_old _ _ (by omega)
  · intro k _ hk
    exact heap_alloc_old _ _ hk
  · intro k _ hk
    omega
  · simp
  · intro j x hj
    have := heap_alloc_new (w.alloc (.cells #[.pointer none, .slice none 0 0] 49)) (.cells (ps.map Value.string).toArray 9)
    rw [hz] at this
    rw [Lib.cell_of_heap this]
    simp [hj]
  · simp
  · exact ((Below.refl _ _).alloc (Nat.le_refl _) _).alloc (by omega) _
def escape_Unpercent.Inv (k0 : Nat) (ps : List ByteArray) (o : Option (List UInt8)) (w wr : World) (v : Value) : Prop :=
  ∃ (i : Nat) (acc : List UInt8) (oi : Option (List UInt8)), i ≤ ps.length ∧ v = .int .i64 i ∧ escape_Unpercent.go k0 (decide (i = 0)) (ps.drop i) = some oi ∧ oi.map (acc ++ ·) = o ∧ acc.length ≤ ((ps.take i).map (fun p => p.size + 1)).sum ∧ Bld w.heap.size w.heap.size (fun i => i ≠ w.heap.size + 1) (Lib.byteCells acc) wr ∧
    (∀ j x, ps[j]? = some x → wr.cell? ⟨w.heap.size + 1, j, none⟩ = some (.string x)) ∧ w.heap.size + 1 < wr.heap.size ∧ Below w.heap.size w wr
theorem Bld.below {B b : Nat} {ok : Nat → Prop} {bs : List Value} {w w' : World} (h : Bld B b ok bs w) (hb : Below w.heap.size w w') : Bld B b ok bs w' := h.step (hb.block _ h.lt) (fun k _ hk => hb.block k hk) (fun _ h _ => h) hb.size
theorem escape_Unpercent.step {k0 : Nat} {ps : List ByteArray} {o oi : Option (List UInt8)} {w wr w' : World} {i : Nat} {acc add : List UInt8} {p : ByteArray} (hp : ps[i]? = some p) (hg : escape_Unpercent.go k0 false (ps.drop (i + 1)) = some oi) (hl : (oi.map (add ++ ·)).map (acc ++ ·) = o) (ha : acc.length ≤ ((ps.take i).map (fun p => p.size + 1)).sum) (hadd : add.length ≤ p.size + 1)
    (hb : Bld w.heap.size w.heap.size (fun i => i ≠ w.heap.size + 1) (Lib.byteCells acc ++ Lib.byteCells add) w') (hc : ∀ j x, ps[j]? = some x → wr.cell? ⟨w.heap.size + 1, j, none⟩ = some (.string x)) (hz : w.heap.size + 1 < wr.heap.size) (hB : Below w.heap.size w wr)
    (hk : Kept wr w' (fun k => k = w.heap.size ∨ k ≠ w.heap.size + 1)) (hB' : Below w.heap.size wr w') : escape_Unpercent.Inv k0 ps o w w' (.int .i64 ((i : Int) + 1)) := by
  obtain ⟨hi, rfl⟩ := List.getElem?_eq_some_iff.1 hp
  refine ⟨i + 1, acc ++ add, oi, hi, by push_cast; rfl, by simpa using hg, ?_, ?_, by simpa [Lib.byteCells] using hb, fun j x hj => cell_kept (hc j x hj) hk (by simp), Nat.lt_of_lt_of_le hz hk.1, hB.trans hB'⟩
  · rw [← hl, Option.map_map]; congr 1; funext l; simp
  · rw [List.take_succ_eq_append_getElem hi, List.map_append, List.sum_append, List.length_append]; simp only [List.map_cons, List.map_nil, List.sum_cons, List.sum_nil]; omega
theorem nat_less {i n : Nat} (h : i < n) : n - ((i : Int) + 1).toNat < n - (i : Int).toNat := by omega
theorem escape_Unpercent.num : ∀ ps : List ByteArray, ps.length ≤ (ps.map (fun p => p.size + 1)).sum
  | [] => Nat.le_refl _
  | p :: ps => by have := escape_Unpercent.num ps; simp only [List.length_cons, List.map_cons, List.sum_cons]; omega
theorem escape_Unpercent.len {ps : List ByteArray} {i : Nat} {p : ByteArray} {acc : List UInt8} (hp : ps[i]? = some p) (ha : acc.length ≤ ((ps.take i).map (fun p => p.size + 1)).sum) (hs : (ps.map (fun p => p.size + 1)).sum ≤ 1099511627776) : acc.length + (p.size + 1) ≤ 140737488355328 := by
  obtain ⟨hi, rfl⟩ := List.getElem?_eq_some_iff.1 hp
  have h1 : ((ps.take (i + 1) ++ ps.drop (i + 1)).map (fun p => p.size + 1)).sum ≤ 1099511627776 := by rw [List.take_append_drop]; exact hs
  rw [List.map_append, List.sum_append, List.take_succ_eq_append_getElem hi, List.map_append, List.sum_append] at h1
  simp only [List.map_cons, List.map_nil, List.sum_cons, List.sum_nil] at h1
  omega
set_option maxHeartbeats 8000000 in
set_option maxRecDepth 100000 in
theorem escape_Unpercent.calls (k : Nat) (a0 : ByteArray) (a1 : Bool) (r1 : ByteArray) (r2 : Int) (w : World) (hU : Uni w) (h : escape_Unpercent.f k a0 a1 = some (r1, r2)) :
    Calls Tryd.prog 10 #[.string a0, .bool a1] w fun e w' => e = .returned (.tuple #[.string r1, .int .i64 r2]) ∧ Below w.heap.size w w' := by
  have HU := Aside0.mk hU
  clear hU
  obtain ⟨s, hs, h⟩ := Option.bind_eq_some_iff.1 h
  obtain ⟨ps, hp, h⟩ := Option.bind_eq_some_iff.1 h
  unfold strings_Split.f at hp
  split at hp
  · rename_i hsz
    have hp := Option.some.inj hp
    split at h
    · rename_i hsum
      obtain ⟨o, ho, h⟩ := Option.bind_eq_some_iff.1 h
      have HS := Aside0.mk hsz.1
      have HP := Aside0.mk hp
      have HO := Aside0.mk ho
      have HR := Aside0.mk (Option.some.inj h)
      clear hsz hp ho h
      cases a1 with
      | false =>
        obtain rfl : a0 = s := Option.some.inj hs
        clear hs
        obtain ⟨m, hm⟩ := (HU.out).below ((Below.refl w.heap.size w).alloc (Nat.le_refl _) (.cells #[.pointer none, .slice none 0 0] 49))
        have HM := Aside0.mk hm
        clear hm
        go_enter Tryd.func10, Tryd.ntmps10
        go_wp2_with (go_at_call 29; refine (strings_Split.raw a0 ⟨#[37]⟩ m _ HS.out HM.out (by decide) ps HP.out).mono ?_; rintro e w2 ⟨rfl, rfl⟩)
        have ST := Aside0.mk (pieces_beside w ps)
        generalize World.alloc (World.alloc _ _) _ = W0 at ST ⊢
        go_loopw [7, 8, 9, 10, 17] (fun _ _ _ _ v17 wr => Aside0 (escape_Unpercent.Inv k ps o w wr v17)) (fun _ _ _ _ v17 _ => ps.length - (intOf v17).toNat)
        case atStart => exact ⟨0, [], o, Nat.zero_le _, rfl, HO.out, by cases o <;> simp, by simp, ST.out⟩
        case round =>
          obtain ⟨i, acc, oi, hi, rfl, hg, hacc, hal, hb, hc, hz, hB⟩ := hrel.out
          clear hrel ST HO
          by_cases hlt : i < ps.length
          · obtain ⟨p, hp⟩ : ∃ p, ps[i]? = some p := ⟨ps[i], List.getElem?_eq_getElem hlt⟩
            have hdr : ps.drop i = p :: ps.drop (i + 1) := by
              obtain ⟨_, rfl⟩ := List.getElem?_eq_some_iff.1 hp
              exact List.drop_eq_getElem_cons hlt
            rw [hdr] at hg
            have hck := hc i p hp
            have h1 := Aside0.mk hp
            have h3 := Aside0.mk hacc
            have h4 := Aside0.mk hb
            have h5 := Aside0.mk hc
            have h6 := Aside0.mk hB
            clear hdr hacc hb hc hB hp
            by_cases h0 : i = 0
            · subst h0
              obtain ⟨oj, hgj, rfl⟩ : ∃ oj, escape_Unpercent.go k false (ps.drop (0 + 1)) = some oj ∧ oi = oj.map (p.data.toList ++ ·) := by
                simp only [decide_true, escape_Unpercent.go] at hg
                obtain ⟨oj, h1, h2⟩ := Option.bind_eq_some_iff.1 hg
                exact ⟨oj, h1, (Option.some.inj h2).symm⟩
              have h2 := Aside0.mk hgj
              clear hgj hg
              go_wp2_with (go_at_call 26; go_loud (refine (strings_Builder_WriteString.any w.heap.size w.heap.size _ _ _ _ h4.out ?ok ?len).mono ?_; (case ok => intro i hi; exact Nat.ne_of_gt (Nat.lt_of_lt_of_le hz hi)); (case len => rw [show (Lib.byteCells acc).length = acc.length by simp [Lib.byteCells]]; exact Nat.le_trans (by omega) (escape_Unpercent.len h1.out hal hsum)); rintro e w2 ⟨rfl, hb2, hk2, hB2⟩; have g1 := Aside0.mk hb2; have g2 := Aside0.mk hk2; have g3 := Aside0.mk hB2; clear hb2 hk2 hB2))
              go_roundw
              case rel => exact ⟨escape_Unpercent.step (add := p.data.toList) (oi := oj) h1.out h2.out h3.out hal (by simp) g1.out h5.out hz h6.out g2.out g3.out⟩
              case measure => simp [intOf]; omega
            · rw [show decide (i = 0) = false by simp [h0]] at hg
              obtain ⟨⟨b1, e1⟩, hbe, hg⟩ := Option.bind_eq_some_iff.1 hg
              have hlen := escape_Unpercent.len h1.out hal hsum
              have h7 := Aside0.mk hbe
              have hgg := Aside0.mk hg
              clear hbe
              by_cases hok : e1 = 0 ∧ b1.length = 1
              · rw [if_pos hok] at hg
                obtain ⟨rfl, hb1⟩ := hok
                by_cases h2 : 2 ≤ p.size
                · rw [if_pos h2] at hg
                  obtain ⟨oj, hgj, rfl⟩ : ∃ oj, escape_Unpercent.go k false (ps.drop (i + 1)) = some oj ∧ oi = oj.map (((strOfNums b1).data.toList ++ (p.extract 2 p.size).data.toList) ++ ·) := by
                    obtain ⟨oj, h1, h2⟩ := Option.bind_eq_some_iff.1 hg
                    exact ⟨oj, h1, (Option.some.inj h2).symm⟩
                  have h2' := Aside0.mk hgj
                  have hmin : min 2 p.size = 2 := by omega
                  rw [hmin] at h7
                  clear hgj hg
                  go_wp2_with (go_at_call 30; refine (base_Unhex.calls k _ b1 0 _ h7.out).mono ?_; rintro e w2 ⟨v2, rfl, hv2, hB2⟩; have g8 := Aside0.mk hv2; have g9 := Aside0.mk hB2; obtain ⟨ad2, cp2, e2⟩ := Kd.R_slice hv2; rw [hb1] at e2; subst e2; clear hv2 hB2)
                  have hcv := own_string (P := Tryd.prog) Tryd.underlying47 Tryd.underlying5 Tryd.underlying9 (Kd.own_of_R (Kd.R_drew g8.out))
                  have hl3 : (Lib.byteCells acc).length + (strOfNums b1 ++ p.extract 2 p.size).size ≤ 140737488355328 := by
                    rw [show (Lib.byteCells acc).length = acc.length by simp [Lib.byteCells]]; simp only [ByteArray.size_append, strOfNums_size, ByteArray.size_extract]; omega
                  have hok3 : ∀ i, w2.drew.heap.size ≤ i → i ≠ w.heap.size + 1 := fun i hi => Nat.ne_of_gt (Nat.lt_of_lt_of_le hz (Nat.le_trans g9.out.size hi))
                  have hwr : wrap64 ((i : Int) + 1) = (i : Int) + 1 := by
                    have := escape_Unpercent.num ps
                    unfold wrap64; omega
                  have hA : (9223372036854775807 < (strOfNums b1).size + (p.extract 2 p.size).size) = False := eq_false (by simp only [strOfNums_size, ByteArray.size_extract]; omega)
                  have hA1 : (9223372036854775807 < (strOfNums b1).size + (p.size - 2)) = False := eq_false (by simp only [strOfNums_size]; omega)
                  have hA2 : (9223372036854775807 < b1.length + (p.size - 2)) = False := eq_false (by omega)
                  have hA3 : (9223372036854775807 < 1 + (p.size - 2)) = False := eq_false (by omega)
                  have hA4 : (9223372036854775807 < (strOfNums b1).size + (min p.size p.size - 2)) = False := eq_false (by simp only [strOfNums_size]; omega)
                  have hA5 : (9223372036854775807 < b1.length + (min p.size p.size - 2)) = False := eq_false (by omega)
                  have hcl := (strings_Builder_WriteString.any w.heap.size w.heap.size _ _ _ _ (Bld.drewN (Bld.below h4.out g9.out) 1) hok3 hl3)
                  go_region_with (refine hcl.mono ?_; rintro e w3 ⟨rfl, hb2, hk2, hB2⟩; have g1 := Aside0.mk hb2; have g2 := Aside0.mk hk2; have g3 := Aside0.mk hB2; clear hb2 hk2 hB2)
                  all_goals
                    clear hcv
                    go_wp2
                    go_roundw
                    case rel => rw [hwr]; exact ⟨escape_Unpercent.step (add := (strOfNums b1).data.toList ++ (p.extract 2 p.size).data.toList) (oi := oj) h1.out h2'.out h3.out hal (by simp [strOfNums_data, hb1]; omega) (by simpa [Lib.byteCells, Lib.strCells] using g1.out) h5.out hz h6.out (((Kept.of_below g9.out _).drewN 1).then_ g2.out (fun _ hk => .inl hk)) (Below.trans (g9.out.mono (by omega)) ((pw_below_drewN (Below.refl _ _) 1).trans g3.out))⟩
                    case measure => rw [hwr]; exact nat_less hlt
                · rw [if_neg h2] at hg
                  exact absurd hg (by simp)
              · rw [if_neg hok] at hg
                obtain rfl := Option.some.inj hg
                obtain ⟨rfl, rfl⟩ : r1 = ⟨#[]⟩ ∧ r2 = 10 := by
                  have hr := HR.out
                  rw [← h3.out] at hr
                  simp at hr
                  exact ⟨hr.1.symm, hr.2.symm⟩
                have hblen : (decide (b1.length = 1)) = false ∨ e1 ≠ 0 := by
                  by_cases he : e1 = 0
                  · exact .inl (by simpa using fun h => hok ⟨he, h⟩)
                  · exact .inr he
                clear hg
                by_cases h2 : p.size < 2
                · have hmin : min 2 p.size = p.size := by omega
                  rw [hmin, ByteArray.extract_zero_size] at h7
                  go_wp2_with (go_at_call 30; refine (base_Unhex.calls k _ b1 e1 _ h7.out).mono ?_; rintro e w2 ⟨v2, rfl, hv2, hB2⟩; have g9 := Aside0.mk hB2; obtain ⟨ad2, cp2, e2⟩ := Kd.R_slice hv2; subst e2; clear hv2 hB2)
                  all_goals (go_ret2; exact ⟨rfl, (Bs h6 g9.out).out⟩)
                · have hmin : min 2 p.size = 2 := by omega
                  rw [hmin] at h7
                  go_wp2_with (go_at_call 30; refine (base_Unhex.calls k _ b1 e1 _ h7.out).mono ?_; rintro e w2 ⟨v2, rfl, hv2, hB2⟩; have g9 := Aside0.mk hB2; obtain ⟨ad2, cp2, e2⟩ := Kd.R_slice hv2; subst e2; clear hv2 hB2)
                  all_goals (go_ret2; exact ⟨rfl, (Bs h6 g9.out).out⟩)
          · obtain rfl : i = ps.length := by omega
            obtain rfl : oi = some [] := by
              rw [List.drop_length] at hg
              cases hd : decide (ps.length = 0) <;> rw [hd] at hg <;> exact (Option.some.inj hg).symm
            have hr := HR.out
            rw [← hacc] at hr
            simp only [Option.map_some, List.append_nil, Prod.mk.injEq] at hr
            obtain ⟨rfl, rfl⟩ := hr
            have h4 := Aside0.mk hb
            have h6 := Aside0.mk hB
            clear hg hacc hb hc hB
            go_wp2_with (go_at_call 27; refine (Tryd.Builder_String_any w.heap.size w.heap.size acc _ (Bld.is h4.out) ?hBw).mono ?_; (case hBw => omega); rintro e w2 ⟨rfl, hB2⟩; have g3 := Aside0.mk hB2; clear hB2)
            go_ret2
            exact ⟨rfl, h6.out.trans g3.out⟩
      | true =>
        have HRA := Aside0.mk hs
        clear hs
        go_enter Tryd.func10, Tryd.ntmps10
        go_wp2_with (first | (go_at_call 28; refine (strings_ReplaceAll.calls a0 ⟨#[43]⟩ ⟨#[32]⟩ s w HU.out HRA.out).mono ?_; rintro e w1 ⟨rfl, hB1⟩; obtain ⟨m, hm⟩ := (HU.out).below (hB1.alloc hB1.size (.cells #[.pointer none, .slice none 0 0] 49)); have HB1 := Aside0.mk hB1; have HM := Aside0.mk hm; clear hB1 hm) | (go_at_call 29; refine (strings_Split.raw s ⟨#[37]⟩ m _ HS.out HM.out (by decide) ps HP.out).mono ?_; rintro e w2 ⟨rfl, rfl⟩))
        have ST := Aside0.mk (pieces_beside w1 ps)
        generalize World.alloc (World.alloc _ _) _ = W0 at ST ⊢
        go_loopw [7, 8, 9, 10, 17] (fun _ _ _ _ v17 wr => Aside0 (escape_Unpercent.Inv k ps o w1 wr v17)) (fun _ _ _ _ v17 _ => ps.length - (intOf v17).toNat)
        case atStart => exact ⟨0, [], o, Nat.zero_le _, rfl, HO.out, by cases o <;> simp, by simp, ST.out⟩
        case round =>
          obtain ⟨i, acc, oi, hi, rfl, hg, hacc, hal, hb, hc, hz, hB⟩ := hrel.out
          clear hrel ST HO
          by_cases hlt : i < ps.length
          · obtain ⟨p, hp⟩ : ∃ p, ps[i]? = some p := ⟨ps[i], List.getElem?_eq_getElem hlt⟩
            have hdr : ps.drop i = p :: ps.drop (i + 1) := by
              obtain ⟨_, rfl⟩ := List.getElem?_eq_some_iff.1 hp
              exact List.drop_eq_getElem_cons hlt
            rw [hdr] at hg
            have hck := hc i p hp
            have h1 := Aside0.mk hp
            have h3 := Aside0.mk hacc
            have h4 := Aside0.mk hb
            have h5 := Aside0.mk hc
            have h6 := Aside0.mk hB
            clear hdr hacc hb hc hB hp
            by_cases h0 : i = 0
            · subst h0
              obtain ⟨oj, hgj, rfl⟩ : ∃ oj, escape_Unpercent.go k false (ps.drop (0 + 1)) = some oj ∧ oi = oj.map (p.data.toList ++ ·) := by
                simp only [decide_true, escape_Unpercent.go] at hg
                obtain ⟨oj, h1, h2⟩ := Option.bind_eq_some_iff.1 hg
                exact ⟨oj, h1, (Option.some.inj h2).symm⟩
              have h2 := Aside0.mk hgj
              clear hgj hg
              go_wp2_with (go_at_call 26; go_loud (refine (strings_Builder_WriteString.any w1.heap.size w1.heap.size _ _ _ _ h4.out ?ok ?len).mono ?_; (case ok => intro i hi; exact Nat.ne_of_gt (Nat.lt_of_lt_of_le hz hi)); (case len => rw [show (Lib.byteCells acc).length = acc.length by simp [Lib.byteCells]]; exact Nat.le_trans (by omega) (escape_Unpercent.len h1.out hal hsum)); rintro e w2 ⟨rfl, hb2, hk2, hB2⟩; have g1 := Aside0.mk hb2; have g2 := Aside0.mk hk2; have g3 := Aside0.mk hB2; clear hb2 hk2 hB2))
              go_roundw
              case rel => exact ⟨escape_Unpercent.step (add := p.data.toList) (oi := oj) h1.out h2.out h3.out hal (by simp) g1.out h5.out hz h6.out g2.out g3.out⟩
              case measure => simp [intOf]; omega
            · rw [show decide (i = 0) = false by simp [h0]] at hg
              obtain ⟨⟨b1, e1⟩, hbe, hg⟩ := Option.bind_eq_some_iff.1 hg
              have hlen := escape_Unpercent.len h1.out hal hsum
              have h7 := Aside0.mk hbe
              have hgg := Aside0.mk hg
              clear hbe
              by_cases hok : e1 = 0 ∧ b1.length = 1
              · rw [if_pos hok] at hg
                obtain ⟨rfl, hb1⟩ := hok
                by_cases h2 : 2 ≤ p.size
                · rw [if_pos h2] at hg
                  obtain ⟨oj, hgj, rfl⟩ : ∃ oj, escape_Unpercent.go k false (ps.drop (i + 1)) = some oj ∧ oi = oj.map (((strOfNums b1).data.toList ++ (p.extract 2 p.size).data.toList) ++ ·) := by
                    obtain ⟨oj, h1, h2⟩ := Option.bind_eq_some_iff.1 hg
                    exact ⟨oj, h1, (Option.some.inj h2).symm⟩
                  have h2' := Aside0.mk hgj
                  have hmin : min 2 p.size = 2 := by omega
                  rw [hmin] at h7
                  clear hgj hg
                  go_wp2_with (go_at_call 30; refine (base_Unhex.calls k _ b1 0 _ h7.out).mono ?_; rintro e w2 ⟨v2, rfl, hv2, hB2⟩; have g8 := Aside0.mk hv2; have g9 := Aside0.mk hB2; obtain ⟨ad2, cp2, e2⟩ := Kd.R_slice hv2; rw [hb1] at e2; subst e2; clear hv2 hB2)
                  have hcv := own_string (P := Tryd.prog) Tryd.underlying47 Tryd.underlying5 Tryd.underlying9 (Kd.own_of_R (Kd.R_drew g8.out))
                  have hl3 : (Lib.byteCells acc).length + (strOfNums b1 ++ p.extract 2 p.size).size ≤ 140737488355328 := by
                    rw [show (Lib.byteCells acc).length = acc.length by simp [Lib.byteCells]]; simp only [ByteArray.size_append, strOfNums_size, ByteArray.size_extract]; omega
                  have hok3 : ∀ i, w2.drew.heap.size ≤ i → i ≠ w1.heap.size + 1 := fun i hi => Nat.ne_of_gt (Nat.lt_of_lt_of_le hz (Nat.le_trans g9.out.size hi))
                  have hwr : wrap64 ((i : Int) + 1) = (i : Int) + 1 := by
                    have := escape_Unpercent.num ps
                    unfold wrap64; omega
                  have hA : (9223372036854775807 < (strOfNums b1).size + (p.extract 2 p.size).size) = False := eq_false (by simp only [strOfNums_size, ByteArray.size_extract]; omega)
                  have hA1 : (9223372036854775807 < (strOfNums b1).size + (p.size - 2)) = False := eq_false (by simp only [strOfNums_size]; omega)
                  have hA2 : (9223372036854775807 < b1.length + (p.size - 2)) = False := eq_false (by omega)
                  have hA3 : (9223372036854775807 < 1 + (p.size - 2)) = False := eq_false (by omega)
                  have hA4 : (9223372036854775807 < (strOfNums b1).size + (min p.size p.size - 2)) = False := eq_false (by simp only [strOfNums_size]; omega)
                  have hA5 : (9223372036854775807 < b1.length + (min p.size p.size - 2)) = False := eq_false (by omega)
                  have hcl := (strings_Builder_WriteString.any w1.heap.size w1.heap.size _ _ _ _ (Bld.drewN (Bld.below h4.out g9.out) 1) hok3 hl3)
                  go_region_with (refine hcl.mono ?_; rintro e w3 ⟨rfl, hb2, hk2, hB2⟩; have g1 := Aside0.mk hb2; have g2 := Aside0.mk hk2; have g3 := Aside0.mk hB2; clear hb2 hk2 hB2)
                  all_goals
                    clear hcv
                    go_wp2
                    go_roundw
                    case rel => rw [hwr]; exact ⟨escape_Unpercent.step (add := (strOfNums b1).data.toList ++ (p.extract 2 p.size).data.toList) (oi := oj) h1.out h2'.out h3.out hal (by simp [strOfNums_data, hb1]; omega) (by simpa [Lib.byteCells, Lib.strCells] using g1.out) h5.out hz h6.out (((Kept.of_below g9.out _).drewN 1).then_ g2.out (fun _ hk => .inl hk)) (Below.trans (g9.out.mono (by omega)) ((pw_below_drewN (Below.refl _ _) 1).trans g3.out))⟩
                    case measure => rw [hwr]; exact nat_less hlt
                · rw [if_neg h2] at hg
                  exact absurd hg (by simp)
              · rw [if_neg hok] at hg
                obtain rfl := Option.some.inj hg
                obtain ⟨rfl, rfl⟩ : r1 = ⟨#[]⟩ ∧ r2 = 10 := by
                  have hr := HR.out
                  rw [← h3.out] at hr
                  simp at hr
                  exact ⟨hr.1.symm, hr.2.symm⟩
                have hblen : (decide (b1.length = 1)) = false ∨ e1 ≠ 0 := by
                  by_cases he : e1 = 0
                  · exact .inl (by simpa using fun h => hok ⟨he, h⟩)
                  · exact .inr he
                clear hg
                by_cases h2 : p.size < 2
                · have hmin : min 2 p.size = p.size := by omega
                  rw [hmin, ByteArray.extract_zero_size] at h7
                  go_wp2_with (go_at_call 30; refine (base_Unhex.calls k _ b1 e1 _ h7.out).mono ?_; rintro e w2 ⟨v2, rfl, hv2, hB2⟩; have g9 := Aside0.mk hB2; obtain ⟨ad2, cp2, e2⟩ := Kd.R_slice hv2; subst e2; clear hv2 hB2)
                  all_goals (go_ret2; exact ⟨rfl, HB1.out.trans ((Bs h6 g9.out).out.mono HB1.out.size)⟩)
                · have hmin : min 2 p.size = 2 := by omega
                  rw [hmin] at h7
                  go_wp2_with (go_at_call 30; refine (base_Unhex.calls k _ b1 e1 _ h7.out).mono ?_; rintro e w2 ⟨v2, rfl, hv2, hB2⟩; have g9 := Aside0.mk hB2; obtain ⟨ad2, cp2, e2⟩ := Kd.R_slice hv2; subst e2; clear hv2 hB2)
                  all_goals (go_ret2; exact ⟨rfl, HB1.out.trans ((Bs h6 g9.out).out.mono HB1.out.size)⟩)
          · obtain rfl : i = ps.length := by omega
            obtain rfl : oi = some [] := by
              rw [List.drop_length] at hg
              cases hd : decide (ps.length = 0) <;> rw [hd] at hg <;> exact (Option.some.inj hg).symm
            have hr := HR.out
            rw [← hacc] at hr
            simp only [Option.map_some, List.append_nil, Prod.mk.injEq] at hr
            obtain ⟨rfl, rfl⟩ := hr
            have h4 := Aside0.mk hb
            have h6 := Aside0.mk hB
            clear hg hacc hb hc hB
            go_wp2_with (go_at_call 27; refine (Tryd.Builder_String_any w1.heap.size w1.heap.size acc _ (Bld.is h4.out) ?hBw).mono ?_; (case hBw => omega); rintro e w2 ⟨rfl, hB2⟩; have g3 := Aside0.mk hB2; clear hB2)
            go_ret2
            exact ⟨rfl, HB1.out.trans ((h6.out.trans g3.out).mono HB1.out.size)⟩
    · exact absurd h (by simp)
  · exact absurd hp (by simp)

-- NOT PRINTED: function 45 (slices_IndexFunc_string_string)

-- NOT PRINTED: function 32 (slices_DeleteFunc_string_string)

/-! ### slices_DeleteFunc_string_string: function 32 -/
def slices_DeleteFunc_string_string.f (a0 : List ByteArray) : Option (List ByteArray) := some (a0.filter fun x => !decide (x = (⟨#[]⟩ : ByteArray)))
def delRen : Go.Shelf.Ren := ⟨fun | 6 => 45 | 10 => 32 | n => n, fun | 22 => 59 | 23 => 9 | 25 => 45 | n => n, fun | n => n⟩
theorem delLaid : Go.Proofs.SlLaysH.n10 Tryd.prog delRen := {
  mixed := by kernel_rfl
  f6 := ⟨Tryd.f45.name, by decide, Tryd.func45.trans (congrArg some (by kernel_rfl))⟩
  f10 := ⟨Tryd.f32.name, by decide, Tryd.func32.trans (congrArg some (by kernel_rfl))⟩
  t0 := Tryd.underlying0
  a0 := Tryd.isAgg0
  z0 := Tryd.sizeOf0
  v0 := Tryd.zeroValue0
  t3 := Tryd.underlying3
  a3 := Tryd.isAgg3
  z3 := Tryd.sizeOf3
  v3 := Tryd.zeroValue3
  t4 := Tryd.underlying4
  a4 := Tryd.isAgg4
  z4 := Tryd.sizeOf4
  v4 := Tryd.zeroValue4
  t22 := Tryd.underlying59
  a22 := Tryd.isAgg59
  z22 := Tryd.sizeOf59
  v22 := Tryd.zeroValue59
  a23 := Tryd.isAgg9
  z23 := Tryd.sizeOf9
  t25 := Tryd.underlying45
  a25 := Tryd.isAgg45
  z25 := Tryd.sizeOf45
  v25 := Tryd.zeroValue45 }
theorem isEmpty_is (x : ByteArray) : x.toList.isEmpty = decide (x = ⟨#[]⟩) := by
  rw [ByteArray.toList_eq]
  rcases x with ⟨⟨_ | ⟨a, l⟩⟩⟩
  · rfl
  · simp
theorem noText (x : ByteArray) (W : World) : FnGives Tryd.prog 33 #[] #[.string x] (.bool (decide (x = ⟨#[]⟩))) W := by
  show Calls Tryd.prog 33 #[.string x] W _
  go_enter Tryd.func33, Tryd.ntmps33
  go_wp2
  all_goals (go_ret; exact ⟨by rw [← isEmpty_is]; rfl, 0, rfl⟩)
theorem del_block (w : World) (ps : List ByteArray) (q : Nat) (d : Array ByteArray) (hd : d.size = ps.length) :
    (Sort.putRow Value.string (Sort.ahead (w.alloc (.cells (ps.map Value.string).toArray 9)) q) w.heap.size 0 d).heap[w.heap.size]? = some (.cells (d.toList.map Value.string).toArray 9) ∧
    Below w.heap.size w (Sort.putRow Value.string (Sort.ahead (w.alloc (.cells (ps.map Value.string).toArray 9)) q) w.heap.size 0 d) := by
  have hb : (Sort.ahead (w.alloc (.cells (ps.map Value.string).toArray 9)) q).heap[w.heap.size]? = some (.cells (ps.map Value.string).toArray 9) := heap_alloc_new w _
  refine ⟨?_, rfl, rfl, rfl, ?_, ?_⟩
  · show (Array.modify _ _ _)[_]? = _
    rw [Array.getElem?_modify, if_pos rfl, hb]
    simp only [Option.map_some, Sort.onCells]
    congr 2
    apply Array.ext
    · simp [Sort.putCells, hd]
    · intro i h1 h2
      simp [Sort.putCells] at h1 h2 ⊢
      rw [if_pos (by omega), getElem!_pos d i (by omega)]
  · rw [Sort.size_putRow]
    show w.heap.size ≤ (w.heap.push _).size
    simp
  · intro k hk
    show (Array.modify _ _ _)[_]? = _
    rw [Array.getElem?_modify, if_neg (by omega)]
    exact heap_alloc_old _ _ hk
theorem slices_DeleteFunc_string_string.split (w : World) (ps : List ByteArray) (hn : ps.length ≤ 140737488355328) : Calls Tryd.prog 32 #[.slice (some ⟨w.heap.size, 0, none⟩) ps.length ps.length, .func (.func 33) #[] #[]] (w.alloc (.cells (ps.map Value.string).toArray 9))
    fun e w' => ∃ v, e = .returned v ∧ Kd.R Kd.string 9 w' w.heap.size (fun _ => True) v (ps.filter fun x => !decide (x = (⟨#[]⟩ : ByteArray))) ∧ Below w.heap.size w w' := by
  have hH : Sort.Holds Value.string (w.alloc (.cells (ps.map Value.string).toArray 9)) w.heap.size 0 ps.toArray := by
    intro j hj
    have hb := heap_alloc_new w (.cells (ps.map Value.string).toArray 9)
    have hj' : j < ps.length := by simpa using hj
    refine ⟨?_, ?_⟩
    · rw [Nat.zero_add]
      refine (Lib.cell_of_heap (fr := (0, 0)) hb j).trans ?_
      simp [hj', getElem!_pos]
    · simp only [World.frozen?, hb]
      simp
  have h := AnyE.slices_DeleteFunc delLaid Value.string (fun _ => rfl) (fun x => decide (x = ⟨#[]⟩)) 33 #[] (enters_of Tryd.func33 (by kernel_rfl) rfl) (⟨#[]⟩ : ByteArray) Tryd.zeroValue9 w.heap.size 0 ps.length ps.toArray (w.alloc (.cells (ps.map Value.string).toArray 9))
    (fun W x _ => noText x W) (fun n os dk x _ => noText x _) hH (by simp; omega) (by simp)
  simp only [List.size_toArray] at h
  change Calls Tryd.prog 32 _ _ _ at h
  refine h.mono ?_
  rintro e w' ⟨rfl, q, rfl⟩
  have hle := List.length_filter_le (fun x => !decide (x = (⟨#[]⟩ : ByteArray))) ps
  obtain ⟨hb, hB⟩ := del_block w ps q ((ps.filter fun x => !decide (x = (⟨#[]⟩ : ByteArray))) ++ List.replicate (ps.length - (ps.filter fun x => !decide (x = (⟨#[]⟩ : ByteArray))).length) (⟨#[]⟩ : ByteArray)).toArray (by simp; omega)
  refine ⟨_, rfl, Kd.R_of_own (h1 := fun _ => rfl) ?_ (fun _ _ => trivial), hB⟩
  refine ⟨by simp [encs_length], .inr ⟨w.heap.size, ps.length, _, rfl, Nat.le_refl _, hb, hle, by unfold maxLen; omega, ?_, ?_⟩⟩
  · simp; omega
  · simp [encs]
theorem slices_DeleteFunc_string_string.calls {w w1 : World} {ps r : List ByteArray} {v : Value} (hF : Fresh w ps v w1) (h : slices_DeleteFunc_string_string.f ps = some r) :
    Calls Tryd.prog 32 #[v, .func (.func 33) #[] #[]] w1 fun e w' => ∃ v0_ : Value, e = .returned (v0_) ∧ Kd.R Kd.string 9 w' w.heap.size (fun _ => True) v0_ r ∧ Below w.heap.size w w' := by
  obtain ⟨rfl, rfl, hn⟩ := hF
  obtain rfl := Option.some.inj h
  exact slices_DeleteFunc_string_string.split w ps (by omega)

/-! ### strings_Cut: function 34 -/
def strings_Cut.f (a0 a1 : ByteArray) : Option (ByteArray × ByteArray × Bool) := if a0.size < 4294967281 then some (⟨(Lib.cut a0.data.toList a1.data.toList).1.toArray⟩, ⟨(Lib.cut a0.data.toList a1.data.toList).2.1.toArray⟩, (Lib.cut a0.data.toList a1.data.toList).2.2) else none
theorem strings_Cut.calls (a0 a1 : ByteArray) (r1 r2 : ByteArray) (r3 : Bool) (w : World) (hU : Uni w) (h : strings_Cut.f a0 a1 = some (r1, r2, r3)) :
    Calls Tryd.prog 34 #[.string a0, .string a1] w fun e w' => e = .returned (.tuple #[.string r1, .string r2, .bool r3]) ∧ Drawn0 w w' := by
  unfold strings_Cut.f at h
  split at h
  · rename_i hc
    have h := Option.some.inj h
    simp only [Prod.mk.injEq] at h
    obtain ⟨rfl, rfl, rfl⟩ := h
    obtain ⟨m, hm⟩ := hU
    refine (Tryd.strings_Cut a0 a1 m w hc hm).mono ?_
    rintro e w' ⟨rfl, hn⟩
    exact ⟨rfl, ⟨hn⟩⟩
  · exact absurd h (by simp)

end Go.Proofs.YtjmcdocoogdbiaaDoor.Hp
