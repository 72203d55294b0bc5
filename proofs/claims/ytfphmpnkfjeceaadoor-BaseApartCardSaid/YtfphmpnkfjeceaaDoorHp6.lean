/- Go functions of this seat as Lean functions, and their contracts: what the Go code computes, for every input. (By hp.py, a program of this repo, over the kit's print.py.) -/
import Derived.Test.YtfphmpnkfjeceaaDoorHp0
namespace Go.Proofs.YtfphmpnkfjeceaaDoor.Hp
open Go.RowKit Go.Proofs.YtfphmpnkfjeceaaDoorW.PrintWords Go.Proofs.YtfphmpnkfjeceaaDoorW.PrintLast Go.Proofs.YtfphmpnkfjeceaaDoorW.PrintMore
attribute [local go_sem] max2_int min2_int max_two min_two max_three min_three max_four min_four   -- for this text's walks alone
set_option linter.unusedVariables false
set_option linter.unusedSimpArgs false

/-! ### lanyardref02_digit: function 31 -/
mutual
def lanyardref02_digit.j0 : Nat → Int → Bool → Option (Int)
 | 0, _, _ => none
 | k + 1, x0, x8 => if x8 = true then (some (wrap64 ((wrap64 (x0)) - 48))) else (if x0 ≥ 97 then (lanyardref02_digit.j1 k x0 (decide (x0 ≤ 102))) else (lanyardref02_digit.j1 k x0 false))
def lanyardref02_digit.j1 : Nat → Int → Bool → Option (Int)
 | 0, _, _ => none
 | k + 1, x0, x17 => if x17 = true then (some (wrap64 ((wrap64 (x0)) - 87))) else (if x0 ≥ 65 then (if x0 ≤ 70 then (some (wrap64 ((wrap64 (x0)) - 55))) else (some (-1))) else (some (-1)))
end
def lanyardref02_digit.f (k : Nat) (a0 : Int) : Option (Int) := if a0 ≥ 48 then (lanyardref02_digit.j0 k a0 (decide (a0 ≤ 57))) else (lanyardref02_digit.j0 k a0 false)
theorem lanyardref02_digit.mono_l : ∀ k, (∀ y0 y1, LeO (lanyardref02_digit.j0 k y0 y1) (lanyardref02_digit.j0 (k + 1) y0 y1)) ∧ (∀ y0 y1, LeO (lanyardref02_digit.j1 k y0 y1) (lanyardref02_digit.j1 (k + 1) y0 y1))
 | 0 => ⟨fun _ _ r h => by simp [lanyardref02_digit.j0] at h, fun _ _ r h => by simp [lanyardref02_digit.j1] at h⟩
 | k + 1 => by
  obtain ⟨ih0, ih1⟩ := lanyardref02_digit.mono_l k
  refine ⟨?_, ?_⟩
  ·intro y0 y1
   unfold lanyardref02_digit.j0
   repeat' first
   | (with_reducible exact ih0 _ _)
   | (with_reducible exact ih1 _ _)
   | (with_reducible exact LeO.refl _)
   | (with_reducible exact LeO.none _)
   | (with_reducible refine LeO.ite ?_ ?_)
   | (with_reducible refine LeO.bind ?_ (fun _ => ?_))
   | exact ih0 _ _
   | exact ih1 _ _
   | exact LeO.none _
   | refine LeO.ite ?_ ?_
   | refine LeO.bind ?_ (fun _ => ?_)
  ·intro y0 y1
   unfold lanyardref02_digit.j1
   repeat' first
   | (with_reducible exact ih0 _ _)
   | (with_reducible exact ih1 _ _)
   | (with_reducible exact LeO.refl _)
   | (with_reducible exact LeO.none _)
   | (with_reducible refine LeO.ite ?_ ?_)
   | (with_reducible refine LeO.bind ?_ (fun _ => ?_))
   | exact ih0 _ _
   | exact ih1 _ _
   | exact LeO.none _
   | refine LeO.ite ?_ ?_
   | refine LeO.bind ?_ (fun _ => ?_)
theorem lanyardref02_digit.mono : ∀ a0 k, LeO (lanyardref02_digit.f k a0) (lanyardref02_digit.f (k + 1) a0) := by
 intro a0 k
 obtain ⟨ih0, ih1⟩ := lanyardref02_digit.mono_l k
 unfold lanyardref02_digit.f
 repeat' first
   | (with_reducible exact ih0 _ _)
   | (with_reducible exact ih1 _ _)
   | (with_reducible exact LeO.refl _)
   | (with_reducible exact LeO.none _)
   | (with_reducible refine LeO.ite ?_ ?_)
   | (with_reducible refine LeO.bind ?_ (fun _ => ?_))
   | exact ih0 _ _
   | exact ih1 _ _
   | exact LeO.none _
   | refine LeO.ite ?_ ?_
   | refine LeO.bind ?_ (fun _ => ?_)
set_option maxHeartbeats 8000000 in
set_option maxRecDepth 100000 in
theorem lanyardref02_digit.calls (k : Nat) (a0 : Int) (r : Int) (w : World) (h : lanyardref02_digit.f k a0 = some r) :
  Calls Tryd.prog 31 #[.int .u8 a0] w fun e w' => e = .returned (.int .i64 r) ∧ Drawn0 w w' := by
 have H : (if a0 ≥ 48 then (lanyardref02_digit.j0 k a0 (decide (a0 ≤ 57))) else (lanyardref02_digit.j0 k a0 false)) = some r := h
 clear h
 have HC2 := Aside0.mk H
 clear H
 go_enter Tryd.func31, Tryd.ntmps31
 go_upto_region 1 with (fail)
 go_cut [8] (fun v8 wc => ∃ (kq : Nat) (x8_1 : Bool), v8 = .bool x8_1 ∧ Aside0 (lanyardref02_digit.j0 kq a0 x8_1 = some r) ∧ Aside0 (kq ≤ k) ∧ Drawn0 w wc)
 case first =>
  have H := HC2.out
  clear HC2
  by_cases c3 : a0 ≥ 48
  ·rw [if_pos c3] at H
   have c3b0 : decide (48 ≤ a0) = true := decide_eq_true c3
   clear c3
   (first | rw [c3b0] | (simp only [i64_w, i32_w]; rw [c3b0]) | skip)
   have H' := Aside0.mk H
   clear H
   go_wp2
   go_meet
   case rel => exact ⟨_, (decide (a0 ≤ 57)), (by first | rfl | (simp; done) | (simp [*]; done)), H', ⟨by first | omega | exact Nat.le_refl _⟩, by repeat (first | exact Drawn0.refl _ | apply Drawn0.step)⟩
  ·rw [if_neg c3] at H
   have c3b0 : decide (48 ≤ a0) = false := decide_eq_false c3
   clear c3
   (first | rw [c3b0] | (simp only [i64_w, i32_w]; rw [c3b0]) | skip)
   have H' := Aside0.mk H
   clear H
   go_wp2
   go_meet
   case rel => exact ⟨_, (false), (by first | rfl | (simp; done) | (simp [*]; done)), H', ⟨by first | omega | exact Nat.le_refl _⟩, by repeat (first | exact Drawn0.refl _ | apply Drawn0.step)⟩
 case rest =>
  clear HC2
  try clear p2
  try clear c3
  try clear c3b0
  obtain ⟨kq, x8_1, rfl, HA, HJ1, ⟨mc1, rfl⟩⟩ := hcut
  cases kq with
  | zero => exact absurd HA.out (by simp [lanyardref02_digit.j0])
  | succ kj1 =>
   have H := HA.out
   clear HA
   simp only [lanyardref02_digit.j0] at H
   by_cases c4 : x8_1 = true
   ·subst c4
    have H1 : (some (wrap64 ((wrap64 (a0)) - 48))) = some r := by rw [if_pos rfl] at H; exact H
    clear H
    have H := H1
    clear H1
    obtain rfl := Option.some.inj H
    go_wp2
    go_ret
    exact ⟨by first | rfl | (simp; done) | (simp [*]; done), by repeat (first | exact Drawn0.refl _ | apply Drawn0.step)⟩
   ·replace c4 := Bool.eq_false_iff.mpr c4
    subst c4
    have H1 : (if a0 ≥ 97 then (lanyardref02_digit.j1 kj1 a0 (decide (a0 ≤ 102))) else (lanyardref02_digit.j1 kj1 a0 false)) = some r := by rw [if_neg (show ¬ (false = true) by decide)] at H; exact H
    clear H
    have H := H1
    clear H1
    have HC5 := Aside0.mk H
    clear H
    go_upto_region 3 with (fail)
    go_cut [17] (fun v17 wc => ∃ (kq : Nat) (x17_4 : Bool), v17 = .bool x17_4 ∧ Aside0 (lanyardref02_digit.j1 kq a0 x17_4 = some r) ∧ Aside0 (kq ≤ kj1) ∧ Drawn0 w wc)
    case first =>
     have H := HC5.out
     clear HC5
     by_cases c6 : a0 ≥ 97
     ·rw [if_pos c6] at H
      have c6b0 : decide (97 ≤ a0) = true := decide_eq_true c6
      clear c6
      (first | rw [c6b0] | (simp only [i64_w, i32_w]; rw [c6b0]) | skip)
      have H' := Aside0.mk H
      clear H
      go_wp2
      go_meet
      case rel => exact ⟨_, (decide (a0 ≤ 102)), (by first | rfl | (simp; done) | (simp [*]; done)), H', ⟨by have := HJ1.out; first | omega | exact Nat.le_refl _⟩, by repeat (first | exact Drawn0.refl _ | apply Drawn0.step)⟩
     ·rw [if_neg c6] at H
      have c6b0 : decide (97 ≤ a0) = false := decide_eq_false c6
      clear c6
      (first | rw [c6b0] | (simp only [i64_w, i32_w]; rw [c6b0]) | skip)
      have H' := Aside0.mk H
      clear H
      go_wp2
      go_meet
      case rel => exact ⟨_, (false), (by first | rfl | (simp; done) | (simp [*]; done)), H', ⟨by have := HJ1.out; first | omega | exact Nat.le_refl _⟩, by repeat (first | exact Drawn0.refl _ | apply Drawn0.step)⟩
    case rest =>
     clear HC5
     try clear c1
     try clear p2
     try clear c3
     try clear c3b0
     try clear c4
     try clear c6
     try clear c6b0
     try clear p6
     try clear p2
     obtain ⟨kq, x17_4, rfl, HA, HJ4, ⟨mc4, rfl⟩⟩ := hcut
     cases kq with
     | zero => exact absurd HA.out (by simp [lanyardref02_digit.j1])
     | succ kj4 =>
      have H := HA.out
      clear HA
      simp only [lanyardref02_digit.j1] at H
      refine (Classical.em (x17_4 = true)).elim (fun c7 => ?a14_) (fun c7 => ?b14_)
      case' a14_ =>
       subst c7
       have H1 : (some (wrap64 ((wrap64 (a0)) - 87))) = some r := by rw [if_pos rfl] at H; exact H
       clear H
       have H := H1
       clear H1
       obtain rfl := Option.some.inj H
      case' b14_ =>
       replace c7 := Bool.eq_false_iff.mpr c7
       subst c7
       have H1 : (if a0 ≥ 65 then (if a0 ≤ 70 then (some (wrap64 ((wrap64 (a0)) - 55))) else (some (-1))) else (some (-1))) = some r := by rw [if_neg (show ¬ (false = true) by decide)] at H; exact H
       clear H
       have H := H1
       clear H1
       refine (Classical.em (a0 ≥ 65)).elim (fun c8 => ?a15_) (fun c8 => ?b15_)
       case' a15_ =>
        rw [if_pos c8] at H
        have c8b0 : decide (65 ≤ a0) = true := decide_eq_true c8
        clear c8
        refine (Classical.em (a0 ≤ 70)).elim (fun c9 => ?a16_) (fun c9 => ?b16_)
        case' a16_ =>
         rw [if_pos c9] at H
         have c9b0 : decide (a0 ≤ 70) = true := decide_eq_true c9
         clear c9
         obtain rfl := Option.some.inj H
        case' b16_ =>
         rw [if_neg c9] at H
         have c9b0 : decide (a0 ≤ 70) = false := decide_eq_false c9
         clear c9
         obtain rfl := Option.some.inj H
       case' b15_ =>
        rw [if_neg c8] at H
        have c8b0 : decide (65 ≤ a0) = false := decide_eq_false c8
        clear c8
        obtain rfl := Option.some.inj H
        go_wp2
        go_ret
        exact ⟨by first | rfl | (simp; done) | (simp [*]; done), by repeat (first | exact Drawn0.refl _ | apply Drawn0.step)⟩

      case a14_ | a16_ | b16_ =>
       go_wp2
       go_ret
       exact ⟨by first | rfl | (simp; done) | (simp [*]; done), by repeat (first | exact Drawn0.refl _ | apply Drawn0.step)⟩
/-! ### lanyardref02_Unhex: function 16 -/
mutual
def lanyardref02_Unhex.l0 : Nat → ByteArray → Int → Option (List Int × Int)
 | 0, _, _ => none
 | k + 1, x0, x4 => if x4 < (x0.size : Int) then (if 0 ≤ x4 then ((lanyardref02_digit.f k (bt x0 x4)).bind fun t171 => (if t171 < 0 then (some (([] : List Int), 13)) else (lanyardref02_Unhex.l0 k x0 (wrap64 (x4 + 1))))) else (none)) else (if ((x0.size : Int) % 2) = 0 then (lanyardref02_Unhex.l1 k x0 ([] : List Int) 0) else (some (([] : List Int), 10)))
def lanyardref02_Unhex.l1 : Nat → ByteArray → List Int → Int → Option (List Int × Int)
 | 0, _, _, _ => none
 | k + 1, x0, x5, x6 => if x6 < (x0.size : Int) then (if 0 ≤ x6 then ((lanyardref02_digit.f k (bt x0 x6)).bind fun t172 => (if 0 ≤ (wrap64 (x6 + 1)) then (if (wrap64 (x6 + 1)) < (x0.size : Int) then ((lanyardref02_digit.f k (bt x0 (wrap64 (x6 + 1)))).bind fun t173 => (if x5.length < 140737488355328 then (lanyardref02_Unhex.l1 k x0 (x5 ++ [(wrap64 ((wrap64 (16 * t172)) + t173)) % 256]) (wrap64 (x6 + 2))) else (none))) else (none)) else (none))) else (none)) else (some (x5, 0))
end
def lanyardref02_Unhex.f (k : Nat) (a0 : ByteArray) : Option (List Int × Int) := lanyardref02_Unhex.l0 k a0 0
theorem lanyardref02_Unhex.mono_l : ∀ k, (∀ y0 y1, LeO (lanyardref02_Unhex.l0 k y0 y1) (lanyardref02_Unhex.l0 (k + 1) y0 y1)) ∧ (∀ y0 y1 y2, LeO (lanyardref02_Unhex.l1 k y0 y1 y2) (lanyardref02_Unhex.l1 (k + 1) y0 y1 y2))
 | 0 => ⟨fun _ _ r h => by simp [lanyardref02_Unhex.l0] at h, fun _ _ _ r h => by simp [lanyardref02_Unhex.l1] at h⟩
 | k + 1 => by
  obtain ⟨ih0, ih1⟩ := lanyardref02_Unhex.mono_l k
  refine ⟨?_, ?_⟩
  ·intro y0 y1
   unfold lanyardref02_Unhex.l0
   repeat' first
   | (with_reducible exact ih0 _ _)
   | (with_reducible exact ih1 _ _ _)
   | (with_reducible exact lanyardref02_digit.mono _ _)
   | (with_reducible exact LeO.refl _)
   | (with_reducible exact LeO.none _)
   | (with_reducible refine LeO.ite ?_ ?_)
   | (with_reducible refine LeO.bind ?_ (fun _ => ?_))
   | exact ih0 _ _
   | exact ih1 _ _ _
   | exact lanyardref02_digit.mono _ _
   | exact LeO.none _
   | refine LeO.ite ?_ ?_
   | refine LeO.bind ?_ (fun _ => ?_)
  ·intro y0 y1 y2
   unfold lanyardref02_Unhex.l1
   repeat' first
   | (with_reducible exact ih0 _ _)
   | (with_reducible exact ih1 _ _ _)
   | (with_reducible exact lanyardref02_digit.mono _ _)
   | (with_reducible exact LeO.refl _)
   | (with_reducible exact LeO.none _)
   | (with_reducible refine LeO.ite ?_ ?_)
   | (with_reducible refine LeO.bind ?_ (fun _ => ?_))
   | exact ih0 _ _
   | exact ih1 _ _ _
   | exact lanyardref02_digit.mono _ _
   | exact LeO.none _
   | refine LeO.ite ?_ ?_
   | refine LeO.bind ?_ (fun _ => ?_)
theorem lanyardref02_Unhex.mono : ∀ a0 k, LeO (lanyardref02_Unhex.f k a0) (lanyardref02_Unhex.f (k + 1) a0) := by
 intro a0 k
 obtain ⟨ih0, ih1⟩ := lanyardref02_Unhex.mono_l k
 unfold lanyardref02_Unhex.f
 repeat' first
   | (with_reducible exact ih0 _ _)
   | (with_reducible exact ih1 _ _ _)
   | (with_reducible exact lanyardref02_digit.mono _ _)
   | (with_reducible exact LeO.refl _)
   | (with_reducible exact LeO.none _)
   | (with_reducible refine LeO.ite ?_ ?_)
   | (with_reducible refine LeO.bind ?_ (fun _ => ?_))
   | exact ih0 _ _
   | exact ih1 _ _ _
   | exact lanyardref02_digit.mono _ _
   | exact LeO.none _
   | refine LeO.ite ?_ ?_
   | refine LeO.bind ?_ (fun _ => ?_)
def lanyardref02_Unhex.T12 : Bool × List (List Nat × List Nat) := (true, [([], []), ([], []), ([], []), ([1, 2], [1, 2]), ([3], [3]), ([4], [4]), ([], []), ([], []), ([7], [7]), ([6, 8], [6, 8]), ([9, 4], [9]), ([5, 10], [5, 10]), ([11], [11]), ([12], [12]), ([0, 13, 10], [0, 13]), ([14, 14, 0, 1, 2, 3, 4, 5, 6, 7, 8, 9, 10, 11, 12, 13, 14], [0, 14])])
def lanyardref02_Unhex.B12 : List Nat := [0, 0, 0, 6, 14, 30, 0, 0, 128, 448, 990, 2046, 4094, 8190, 16383, 32767]
theorem lanyardref02_Unhex.tab12 : rtab .any (opsOf Tryd.f16 12) = lanyardref02_Unhex.T12 := by kernel_rfl
theorem lanyardref02_Unhex.bits12 : waitsOk lanyardref02_Unhex.T12.2 lanyardref02_Unhex.B12 = true := by kernel_rfl
set_option maxHeartbeats 8000000 in
set_option maxRecDepth 100000 in
theorem lanyardref02_Unhex.calls (k : Nat) (a0 : ByteArray) (r1 : List Int) (r2 : Int) (w : World) (h : lanyardref02_Unhex.f k a0 = some (r1, r2)) :
  Calls Tryd.prog 16 #[.string a0] w fun e w' => ∃ v0_ : Value, e = .returned (.tuple #[v0_, .int .i64 r2]) ∧ Kd.R (Kd.int .u8) 5 w' w.heap.size (fun _ => True) v0_ r1 ∧ Below w.heap.size w w' := by
 have HB := Aside0.mk (Below.refl w.heap.size w)
 have H : (lanyardref02_Unhex.l0 k a0 0) = some (r1, r2) := h
 clear h
 have H' := Aside0.mk H
 clear H
 go_enter Tryd.func16, Tryd.ntmps16
 go_wp2
 go_loopg [4] k (fun kq v4 w' => ∃ (x4_1 : Int), v4 = .int .i64 x4_1 ∧ Aside0 (lanyardref02_Unhex.l0 kq a0 x4_1 = some (r1, r2)) ∧ Aside0 (kq ≤ k) ∧ Aside0 (Below w.heap.size w w'))
 case atStart => exact ⟨(0), (by first | rfl | (simp; done) | (simp [*]; done)), H', ⟨Nat.le_refl _⟩, ⟨Bu HB⟩⟩
 case round =>
  clear H'
  try clear c1
  obtain ⟨x4_1, rfl, HA, HK1, HB⟩ := hrel
  cases gk with
  | zero => exact absurd HA.out (by simp [lanyardref02_Unhex.l0])
  | succ k1 =>
   have H := HA.out
   clear HA
   simp only [lanyardref02_Unhex.l0] at H
   by_cases c2 : x4_1 < (a0.size : Int)
   ·rw [if_pos c2] at H
    have c2b0 : decide (x4_1 < (a0.size : Int)) = true := decide_eq_true c2
    clear c2
    by_cases c3 : 0 ≤ x4_1
    ·rw [if_pos c3] at H
     have c3b0 : decide (0 ≤ x4_1) = true := decide_eq_true c3
     clear c3
     replace H := Option.bind_eq_some_iff.mp H
     obtain ⟨t171, A50, H⟩ := H
     replace H : (if t171 < 0 then (some (([] : List Int), 13)) else (lanyardref02_Unhex.l0 k1 a0 (wrap64 (x4_1 + 1)))) = some (r1, r2) := H
     have A5 := Aside0.mk A50
     clear A50
     by_cases c6 : t171 < 0
     ·rw [if_pos c6] at H
      have c6b0 : decide (t171 < 0) = true := decide_eq_true c6
      clear c6
      simp only [Option.some.injEq, Prod.mk.injEq] at H
      obtain ⟨rfl, rfl⟩ := H
      have p4 : 0 ≤ (x4_1 : Int) := of_decide_eq_true (by first | (with_reducible assumption) | assumption)
      have q4 : x4_1 < (a0.size : Int) := of_decide_eq_true (by first | (with_reducible assumption) | assumption)
      have hx4 := bt_at a0 x4_1
      replace p4 := eq_true p4
      replace q4 := eq_true q4
      go_wp2_with (first | ((with_reducible refine gate_callee (f := 31) rfl ?_); refine goesA (some 16) Tryd.func31 #[.int .u8 (bt a0 x4_1)] rfl ?_; (with_reducible refine (lanyardref02_digit.calls k1 (bt a0 x4_1) t171 _ A5.out).mono ?_); rintro e w' ⟨rfl, ⟨nd, rfl⟩⟩; refine ⟨_, rfl, ?_⟩))
      go_ret2
      exact ⟨_, rfl_, by first | exact Kd.R_nil _ _ _ _ _ | exact Kd.N_nil _ _ _ _ _ | exact Kd.V_nil _ _ _ _ _ | exact Kd.Q_nil _ _ _ _ _ | exact Kd.S_nil _ _ _ _ _, Bu HB⟩
     ·rw [if_neg c6] at H
      have c6b0 : decide (t171 < 0) = false := decide_eq_false c6
      clear c6
      have H' := Aside0.mk H
      clear H
      have p4 : 0 ≤ (x4_1 : Int) := of_decide_eq_true (by first | (with_reducible assumption) | assumption)
      have q4 : x4_1 < (a0.size : Int) := of_decide_eq_true (by first | (with_reducible assumption) | assumption)
      have hx4 := bt_at a0 x4_1
      replace p4 := eq_true p4
      replace q4 := eq_true q4
      go_wp2_with (first | ((with_reducible refine gate_callee (f := 31) rfl ?_); refine goesA (some 16) Tryd.func31 #[.int .u8 (bt a0 x4_1)] rfl ?_; (with_reducible refine (lanyardref02_digit.calls k1 (bt a0 x4_1) t171 _ A5.out).mono ?_); rintro e w' ⟨rfl, ⟨nd, rfl⟩⟩; refine ⟨_, rfl, ?_⟩))
      go_roundg k1
      case measure => have := HK1.out; omega
      case rel => exact ⟨(wrap64 (x4_1 + 1)), (by first | rfl | (simp; done) | (simp [*]; done)), H', ⟨by have := HK1.out; omega⟩, ⟨Bu HB⟩⟩
    ·rw [if_neg c3] at H
     exact absurd H (by simp)
   ·rw [if_neg c2] at H
    have c2b0 : decide (x4_1 < (a0.size : Int)) = false := decide_eq_false c2
    clear c2
    by_cases c7 : ((a0.size : Int) % 2) = 0
    ·rw [if_pos c7] at H
     have c7b0 : (((a0.size : Int) % 2) == 0) = true := beq_iff_eq.mpr c7
     have c7b1 : (((a0.size : Int) % 2) != 0) = false := bne_eq_false_iff_eq.mpr c7
     clear c7
     have H' := Aside0.mk H
     clear H
     go_wp2
     go_loopg [5, 6] k1 (fun kq v5 v6 w' => ∃ (x5_2 : List Int) (x6_2 : Int), v6 = .int .i64 x6_2 ∧ Aside0 (lanyardref02_Unhex.l1 kq a0 x5_2 x6_2 = some (r1, r2)) ∧ Aside0 (kq ≤ k1) ∧ Aside0 (Kd.R (Kd.int .u8) 5 w' w.heap.size (fun _ => True) v5 x5_2) ∧ Aside0 (Below w.heap.size w w'))
     case atStart => exact ⟨(([] : List Int)), (0), (by first | rfl | (simp; done) | (simp [*]; done)), H', ⟨Nat.le_refl _⟩, ⟨by first | exact Kd.R_nil _ _ _ _ _ | exact Kd.N_nil _ _ _ _ _ | exact Kd.V_nil _ _ _ _ _ | exact Kd.Q_nil _ _ _ _ _ | exact Kd.S_nil _ _ _ _ _⟩, ⟨Bu HB⟩⟩
     case round =>
      clear H'
      try clear c1
      try clear c2
      try clear c2b0
      try clear p2
      try clear c3
      try clear c3b0
      try clear p4
      try clear q4
      try clear hx4
      try clear c6
      try clear c6b0
      try clear p6
      try clear c7
      try clear c7b0
      try clear c7b1
      try clear p4
      try clear q4
      obtain ⟨x5_2, x6_2, rfl, HA, HK2, HO_5, HB⟩ := hrel
      cases gk with
      | zero => exact absurd HA.out (by simp [lanyardref02_Unhex.l1])
      | succ k2 =>
       have H := HA.out
       clear HA
       simp only [lanyardref02_Unhex.l1] at H
       by_cases c8 : x6_2 < (a0.size : Int)
       ·rw [if_pos c8] at H
        have c8b0 : decide (x6_2 < (a0.size : Int)) = true := decide_eq_true c8
        clear c8
        by_cases c9 : 0 ≤ x6_2
        ·rw [if_pos c9] at H
         have c9b0 : decide (0 ≤ x6_2) = true := decide_eq_true c9
         clear c9
         replace H := Option.bind_eq_some_iff.mp H
         obtain ⟨t172, A110, H⟩ := H
         replace H : (if 0 ≤ (wrap64 (x6_2 + 1)) then (if (wrap64 (x6_2 + 1)) < (a0.size : Int) then ((lanyardref02_digit.f k2 (bt a0 (wrap64 (x6_2 + 1)))).bind fun t173 => (if x5_2.length < 140737488355328 then (lanyardref02_Unhex.l1 k2 a0 (x5_2 ++ [(wrap64 ((wrap64 (16 * t172)) + t173)) % 256]) (wrap64 (x6_2 + 2))) else (none))) else (none)) else (none)) = some (r1, r2) := H
         have A11 := Aside0.mk A110
         clear A110
         obtain ⟨ji12, hji12⟩ : ∃ j_ : Int, (wrap64 (x6_2 + 1)) = j_ := ⟨_, rfl⟩
         replace H : (if 0 ≤ (ji12) then (if (ji12) < (a0.size : Int) then ((lanyardref02_digit.f k2 (bt a0 (ji12))).bind fun t173 => (if x5_2.length < 140737488355328 then (lanyardref02_Unhex.l1 k2 a0 (x5_2 ++ [(wrap64 ((wrap64 (16 * t172)) + t173)) % 256]) (wrap64 (x6_2 + 2))) else (none))) else (none)) else (none)) = some (r1, r2) := by first | (rw [hji12] at H; exact H) | (simp only [hji12] at H ⊢; exact H)
         (try rw [hji12] at A11)
         have hji12w : (IntKind.i64.wrap (x6_2 + 1)) = ji12 := (i64_w _).trans hji12
         by_cases c13 : 0 ≤ (ji12)
         ·rw [if_pos c13] at H
          have c13b0 : decide (0 ≤ (ji12)) = true := decide_eq_true c13
          clear c13
          by_cases c14 : (ji12) < (a0.size : Int)
          ·rw [if_pos c14] at H
           have c14b0 : decide ((ji12) < (a0.size : Int)) = true := decide_eq_true c14
           clear c14
           replace H := Option.bind_eq_some_iff.mp H
           obtain ⟨t173, A160, H⟩ := H
           replace H : (if x5_2.length < 140737488355328 then (lanyardref02_Unhex.l1 k2 a0 (x5_2 ++ [(wrap64 ((wrap64 (16 * t172)) + t173)) % 256]) (wrap64 (x6_2 + 2))) else (none)) = some (r1, r2) := H
           have A16 := Aside0.mk A160
           clear A160
           by_cases c17 : x5_2.length < 140737488355328
           ·rw [if_pos c17] at H
            have LMc17 := Aside0.mk c17
            clear c17
            obtain ⟨y174, hy174⟩ : ∃ y_ : List Int, y_ = (x5_2 ++ [(wrap64 ((wrap64 (16 * t172)) + t173)) % 256]) := ⟨_, rfl⟩
            replace H : (lanyardref02_Unhex.l1 k2 a0 y174 (wrap64 (x6_2 + 2))) = some (r1, r2) := by first | (rw [hy174]; with_reducible exact H) | (have H2_ := (Option.bind_some _ _).symm.trans H; rw [hy174]; with_reducible exact H2_) | (have H2_ := (Option.bind_some _ _).symm.trans H; with_reducible exact H2_) | with_reducible exact H | (rw [hy174]; exact H) | exact H
            have Ny174 := Aside0.mk hy174
            clear hy174
            have H' := Aside0.mk H
            clear H
            try go_wp2
            have n0_ := Aside0.mk (Kd.R_drew HO_5.out)
            have n1_ := Aside0.mk (below_drew1 HB.out)
            clear HO_5
            clear HB
            have HO_5 := n0_
            have HB := n1_
            clear n0_ n1_
            have p10 : 0 ≤ (x6_2 : Int) := of_decide_eq_true (by first | (with_reducible assumption) | assumption)
            have q10 : x6_2 < (a0.size : Int) := of_decide_eq_true (by first | (with_reducible assumption) | assumption)
            have hx10 := bt_at a0 x6_2
            replace p10 := eq_true p10
            replace q10 := eq_true q10
            have p15 : 0 ≤ ((ji12) : Int) := of_decide_eq_true (by first | (with_reducible assumption) | assumption)
            have q15 : (ji12) < (a0.size : Int) := of_decide_eq_true (by first | (with_reducible assumption) | assumption)
            have hx15 := bt_at a0 (ji12)
            replace p15 := eq_true p15
            replace q15 := eq_true q15
            refine start_ (n := 16) (S := fun w' => True) (ds := []) #[false, false, false, false, false, false, false, false, false, false, false, false, false, false, false, false] (by kernel_rfl) rfl rfl trivial (fun hHeld => ?_); refine with_tabW lanyardref02_Unhex.tab12 lanyardref02_Unhex.bits12 (fun HT_ HW_ => ?_)
            generalize wr.drew = w18 at HO_5 HB hHeld ⊢
            refine pure_ (i := 0) (N := some 28) (v := ?_) (a' := ?_) #[true, false, false, false, false, false, false, false, false, false, false, false, false, false, false, false] rfl rfl (any_of HT_.out (by kernel_rfl)) (fun _ _ _ h => h) (Or.inl ⟨by rfl, ?_⟩) ?_ ?_
            rotate_left
            ·intro w'
             go_simp
             with_reducible rfl
            rotate_left
            ·simp only [Act.put, List.setIfInBounds_toArray, List.set_cons_zero, List.set_cons_succ, i64_w, i32_w]
             rfl
            refine pure_ (i := 1) (N := some 29) (v := ?_) (a' := ?_) #[true, true, false, false, false, false, false, false, false, false, false, false, false, false, false, false] rfl rfl (any_of HT_.out (by kernel_rfl)) (fun _ _ _ h => h) (Or.inl ⟨by rfl, ?_⟩) ?_ ?_
            rotate_left
            ·intro w'
             go_simp
             with_reducible rfl
            rotate_left
            ·simp only [Act.put, List.setIfInBounds_toArray, List.set_cons_zero, List.set_cons_succ, i64_w, i32_w]
             rfl
            refine pure_ (i := 2) (N := some 30) (v := ?_) (a' := ?_) #[true, true, true, false, false, false, false, false, false, false, false, false, false, false, false, false] rfl rfl (any_of HT_.out (by kernel_rfl)) (fun _ _ _ h => h) (Or.inl ⟨by rfl, ?_⟩) ?_ ?_
            rotate_left
            ·intro w'
             go_simp
             with_reducible rfl
            rotate_left
            ·simp only [Act.put, List.setIfInBounds_toArray, List.set_cons_zero, List.set_cons_succ, i64_w, i32_w]
             rfl
            refine pure_ (i := 6) (N := some 34) (v := ?_) (a' := ?_) #[true, true, true, false, false, false, true, false, false, false, false, false, false, false, false, false] rfl rfl (any_of HT_.out (by kernel_rfl)) (fun _ _ _ h => h) (Or.inl ⟨by rfl, ?_⟩) ?_ ?_
            rotate_left
            ·intro w'
             go_simp
             with_reducible rfl
            rotate_left
            ·simp only [Act.put, List.setIfInBounds_toArray, List.set_cons_zero, List.set_cons_succ, i64_w, i32_w]
             rfl
            refine pure_ (i := 7) (N := some 35) (v := ?_) (a' := ?_) #[true, true, true, false, false, false, true, true, false, false, false, false, false, false, false, false] rfl rfl (any_of HT_.out (by kernel_rfl)) (fun _ _ _ h => h) (Or.inl ⟨by rfl, ?_⟩) ?_ ?_
            rotate_left
            ·intro w'
             go_simp
             with_reducible rfl
            rotate_left
            ·simp only [Act.put, List.setIfInBounds_toArray, List.set_cons_zero, List.set_cons_succ, i64_w, i32_w]
             rfl
            refine pure_ (i := 8) (N := some 36) (v := ?_) (a' := ?_) #[true, true, true, false, false, false, true, true, true, false, false, false, false, false, false, false] rfl rfl (any_of HT_.out (by kernel_rfl)) (fun _ _ _ h => h) (Or.inl ⟨by rfl, ?_⟩) ?_ ?_
            rotate_left
            ·intro w'
             go_simp
             with_reducible rfl
            rotate_left
            ·simp only [Act.put, List.setIfInBounds_toArray, List.set_cons_zero, List.set_cons_succ, i64_w, i32_w]
             rfl
            refine take_ (i := 3) (N := some 31) (v := ?_) (a' := ?_) #[true, true, true, true, false, false, true, true, true, false, false, false, false, false, false, false] rfl rfl (take_ofW HT_.out HW_.out (by kernel_rfl)) (fun _ _ _ h => h) (Or.inl ⟨by rfl, ?_⟩) hHeld ?_ ?_
            rotate_left
            ·intro w' _
             go_simp
             with_reducible rfl
            rotate_left
            ·simp only [Act.put, List.setIfInBounds_toArray, List.set_cons_zero, List.set_cons_succ, i64_w, i32_w]
             rfl
            refine take_ (i := 9) (N := some 37) (v := ?_) (a' := ?_) #[true, true, true, true, false, false, true, true, true, true, false, false, false, false, false, false] rfl rfl (take_ofW HT_.out HW_.out (by kernel_rfl)) (fun _ _ _ h => h) (Or.inl ⟨by rfl, ?_⟩) hHeld ?_ ?_
            rotate_left
            ·intro w' _
             go_simp
             with_reducible rfl
            rotate_left
            ·simp only [Act.put, List.setIfInBounds_toArray, List.set_cons_zero, List.set_cons_succ, i64_w, i32_w]
             rfl
            refine one_ (i := 4) (N := some 32) #[true, true, true, true, true, false, true, true, true, true, false, false, false, false, false, false] rfl rfl (one_of HT_.out (by kernel_rfl)) (by decide) (fun K hK => ?_)
            refine goes_ Tryd.func31 (by kernel_rfl) rfl #[.int .u8 (bt a0 x6_2)] (by rfl) rfl rfl (by (try simp only [List.map_toArray, List.map_cons, List.map_nil]); first | done | rfl | (simp only [List.length_drop, List.length_take]; rfl)) ?_
            with_reducible refine (lanyardref02_digit.calls k2 (bt a0 x6_2) t172 _ A11.out).mono ?_
            rintro e w' ⟨rfl, ⟨nd, rfl⟩⟩
            refine ⟨_, rfl, ?_⟩
            refine hK.out _ _ trivial (fun hHeld => ?_)
            clear hK K
            refine norm_ (a' := ?_) ?_ ?_
            rotate_left
            ·show Act.put _ (some 32) _ = _
             simp only [Act.put, List.setIfInBounds_toArray, List.set_cons_zero, List.set_cons_succ, i64_w, i32_w]
             rfl
            refine pure_ (i := 5) (N := some 33) (v := ?_) (a' := ?_) #[true, true, true, true, true, true, true, true, true, true, false, false, false, false, false, false] rfl rfl (any_of HT_.out (by kernel_rfl)) (fun _ _ _ h => h) (Or.inl ⟨by rfl, ?_⟩) ?_ ?_
            rotate_left
            ·intro w'
             go_simp
             with_reducible rfl
            rotate_left
            ·simp only [Act.put, List.setIfInBounds_toArray, List.set_cons_zero, List.set_cons_succ, i64_w, i32_w]
             rfl
            refine one_ (i := 10) (N := some 38) #[true, true, true, true, true, true, true, true, true, true, true, false, false, false, false, false] rfl rfl (one_of HT_.out (by kernel_rfl)) (by decide) (fun K hK => ?_)
            refine goes_ Tryd.func31 (by kernel_rfl) rfl #[.int .u8 (bt a0 (ji12))] (by rfl) rfl rfl (by (try simp only [List.map_toArray, List.map_cons, List.map_nil]); first | done | (simp only [hji12]; rfl) | rfl | (simp only [List.length_drop, List.length_take]; rfl)) ?_
            with_reducible refine (lanyardref02_digit.calls k2 (bt a0 (ji12)) t173 _ A16.out).mono ?_
            rintro e w' ⟨rfl, ⟨nd, rfl⟩⟩
            refine ⟨_, rfl, ?_⟩
            refine hK.out _ _ trivial (fun hHeld => ?_)
            clear hK K
            refine norm_ (a' := ?_) ?_ ?_
            rotate_left
            ·show Act.put _ (some 38) _ = _
             simp only [Act.put, List.setIfInBounds_toArray, List.set_cons_zero, List.set_cons_succ, i64_w, i32_w]
             rfl
            refine pure_ (i := 11) (N := some 39) (v := ?_) (a' := ?_) #[true, true, true, true, true, true, true, true, true, true, true, true, false, false, false, false] rfl rfl (any_of HT_.out (by kernel_rfl)) (fun _ _ _ h => h) (Or.inl ⟨by rfl, ?_⟩) ?_ ?_
            rotate_left
            ·intro w'
             go_simp
             with_reducible rfl
            rotate_left
            ·simp only [Act.put, List.setIfInBounds_toArray, List.set_cons_zero, List.set_cons_succ, i64_w, i32_w]
             rfl
            refine pure_ (i := 12) (N := some 40) (v := ?_) (a' := ?_) #[true, true, true, true, true, true, true, true, true, true, true, true, true, false, false, false] rfl rfl (any_of HT_.out (by kernel_rfl)) (fun _ _ _ h => h) (Or.inl ⟨by rfl, ?_⟩) ?_ ?_
            rotate_left
            ·intro w'
             go_simp
             with_reducible rfl
            rotate_left
            ·simp only [Act.put, List.setIfInBounds_toArray, List.set_cons_zero, List.set_cons_succ, i64_w, i32_w]
             rfl
            refine one_ (i := 13) (N := some 41) #[true, true, true, true, true, true, true, true, true, true, true, true, true, true, false, false] rfl rfl (one_of HT_.out (by kernel_rfl)) (by decide) (fun K hK => ?_)
            refine value_ (w1 := ?_) (v := ?_) (by rfl) rfl ?_ ?_
            rotate_left 2
            ·go_simp
             constructor
             ·rfl
             ·rfl
            refine hK.out _ _ trivial (fun hHeld => ?_)
            clear hK K
            refine norm_ (a' := ?_) ?_ ?_
            rotate_left
            ·show Act.put _ (some 41) _ = _
             simp only [Act.put, List.setIfInBounds_toArray, List.set_cons_zero, List.set_cons_succ, i64_w, i32_w]
             rfl
            refine one_ (i := 14) (N := some 42) #[true, true, true, true, true, true, true, true, true, true, true, true, true, true, true, false] rfl rfl (one_of HT_.out (by kernel_rfl)) (by decide) (fun K hK => ?_)
            refine Kd.R_append_step (Kd.int .u8) (w0 := w) w.heap.size (by rfl) (.tmp 28) (.tmp 41) 23 5 (.int .u8 0) 1 rfl Tryd.underlying23 info5 rfl (by decide) (by omega) u5 x5_2 ((wrap64 ((wrap64 (16 * t172)) + t173)) % 256) [.int .u8 ((wrap64 ((wrap64 (16 * t172)) + t173)) % 256)] (fun _ => True) (fun _ => False) rfl rfl ?aP (fun _ hk => hk.elim) ?aF ?aO ?aB ?aS ?aL ?_
            (case aP => exact rfl)
            (case aB => exact (Bu HB))
            (case aF => exact (fun _ _ => trivial))
            (case aO => exact (Ru HO_5))
            (case aS => exact (Bz HB))
            (case aL => have := LMc17.out; omega)
            intro v175 w19 ho hb hg hat
            rw [← Ny174.out] at ho
            have n0_ := Aside0.mk (hb)
            have n1_ := Aside0.mk (ho)
            clear HB
            clear HO_5
            have HB := n0_
            have HO176 := n1_
            clear n0_ n1_
            clear ho hb hg hat
            refine hK.out _ _ trivial (fun hHeld => ?_)
            clear hK K
            refine norm_ (a' := ?_) ?_ ?_
            rotate_left
            ·show Act.put _ (some 42) _ = _
             simp only [Act.put, List.setIfInBounds_toArray, List.set_cons_zero, List.set_cons_succ, i64_w, i32_w]
             rfl
            refine pure_ (i := 15) (N := some 5) (v := ?_) (a' := ?_) #[true, true, true, true, true, true, true, true, true, true, true, true, true, true, true, true] rfl rfl (any_of HT_.out (by kernel_rfl)) (fun _ _ _ h => h) (Or.inl ⟨by rfl, ?_⟩) ?_ ?_
            rotate_left
            ·intro w'
             go_simp
             with_reducible rfl
            rotate_left
            ·simp only [Act.put, List.setIfInBounds_toArray, List.set_cons_zero, List.set_cons_succ, i64_w, i32_w]
             rfl
            refine done_ (done_of HT_.out (by kernel_rfl)) ?_
            try go_wp2
            go_roundg k2
            case measure => have := HK1.out; have := HK2.out; omega
            case rel => exact ⟨(y174), (wrap64 (x6_2 + 2)), (by first | rfl | (simp; done) | (simp [*]; done)), H', ⟨by have := HK1.out; have := HK2.out; omega⟩, ⟨Ru HO176⟩, ⟨Bu HB⟩⟩
           ·rw [if_neg c17] at H
            exact absurd H (by simp)
          ·rw [if_neg c14] at H
           exact absurd H (by simp)
         ·rw [if_neg c13] at H
          exact absurd H (by simp)
        ·rw [if_neg c9] at H
         exact absurd H (by simp)
       ·rw [if_neg c8] at H
        have c8b0 : decide (x6_2 < (a0.size : Int)) = false := decide_eq_false c8
        clear c8
        simp only [Option.some.injEq, Prod.mk.injEq] at H
        obtain ⟨rfl, rfl⟩ := H
        go_wp2
        go_ret2
        exact ⟨_, rfl_, Ru HO_5, Bu HB⟩
    ·rw [if_neg c7] at H
     have c7b0 : (((a0.size : Int) % 2) == 0) = false := beq_eq_false_iff_ne.mpr c7
     have c7b1 : (((a0.size : Int) % 2) != 0) = true := bne_iff_ne.mpr c7
     simp only [Option.some.injEq, Prod.mk.injEq] at H
     obtain ⟨rfl, rfl⟩ := H
     go_wp2
     go_ret2
     exact ⟨_, rfl_, by first | exact Kd.R_nil _ _ _ _ _ | exact Kd.N_nil _ _ _ _ _ | exact Kd.V_nil _ _ _ _ _ | exact Kd.Q_nil _ _ _ _ _ | exact Kd.S_nil _ _ _ _ _, Bu HB⟩

/-! ### lanyardref02_Hex: function 18 -/
mutual
def lanyardref02_Hex.l0 : Nat → List Int → List Int → Int → Option (ByteArray)
 | 0, _, _, _ => none
 | k + 1, x0, x3, x4 => if x4 < (x0.length : Int) then (lanyardref02_Hex.l1 k x0 x3 x4 0) else (some (strOfNums x3))
def lanyardref02_Hex.l1 : Nat → List Int → List Int → Int → Int → Option (ByteArray)
 | 0, _, _, _, _ => none
 | k + 1, x0, x3, x4, x5 => if x5 < 2 then (if 0 ≤ x4 then (if x4 < (x0.length : Int) then (if x5 = 1 then (if (Int.tmod (wrap64 (rd x0 x4)) 16) < 10 then (if x3.length < 140737488355328 then (lanyardref02_Hex.l1 k x0 (x3 ++ [(wrap64 (48 + (Int.tmod (wrap64 (rd x0 x4)) 16))) % 256]) x4 (wrap64 (x5 + 1))) else (none)) else (if x3.length < 140737488355328 then (lanyardref02_Hex.l1 k x0 (x3 ++ [(wrap64 (87 + (Int.tmod (wrap64 (rd x0 x4)) 16))) % 256]) x4 (wrap64 (x5 + 1))) else (none))) else (if (wrap64 (Int.tdiv (wrap64 (rd x0 x4)) 16)) < 10 then (if x3.length < 140737488355328 then (lanyardref02_Hex.l1 k x0 (x3 ++ [(wrap64 (48 + (wrap64 (Int.tdiv (wrap64 (rd x0 x4)) 16)))) % 256]) x4 (wrap64 (x5 + 1))) else (none)) else (if x3.length < 140737488355328 then (lanyardref02_Hex.l1 k x0 (x3 ++ [(wrap64 (87 + (wrap64 (Int.tdiv (wrap64 (rd x0 x4)) 16)))) % 256]) x4 (wrap64 (x5 + 1))) else (none)))) else (none)) else (none)) else (lanyardref02_Hex.l0 k x0 x3 (wrap64 (x4 + 1)))
end
def lanyardref02_Hex.f (k : Nat) (l0 : List Int) : Option (ByteArray) := lanyardref02_Hex.l0 k l0 ([] : List Int) 0
theorem lanyardref02_Hex.mono_l : ∀ k, (∀ y0 y1 y2, LeO (lanyardref02_Hex.l0 k y0 y1 y2) (lanyardref02_Hex.l0 (k + 1) y0 y1 y2)) ∧ (∀ y0 y1 y2 y3, LeO (lanyardref02_Hex.l1 k y0 y1 y2 y3) (lanyardref02_Hex.l1 (k + 1) y0 y1 y2 y3))
 | 0 => ⟨fun _ _ _ r h => by simp [lanyardref02_Hex.l0] at h, fun _ _ _ _ r h => by simp [lanyardref02_Hex.l1] at h⟩
 | k + 1 => by
  obtain ⟨ih0, ih1⟩ := lanyardref02_Hex.mono_l k
  refine ⟨?_, ?_⟩
  ·intro y0 y1 y2
   unfold lanyardref02_Hex.l0
   repeat' first
   | (with_reducible exact ih0 _ _ _)
   | (with_reducible exact ih1 _ _ _ _)
   | (with_reducible exact LeO.refl _)
   | (with_reducible exact LeO.none _)
   | (with_reducible refine LeO.ite ?_ ?_)
   | (with_reducible refine LeO.bind ?_ (fun _ => ?_))
   | exact ih0 _ _ _
   | exact ih1 _ _ _ _
   | exact LeO.none _
   | refine LeO.ite ?_ ?_
   | refine LeO.bind ?_ (fun _ => ?_)
  ·intro y0 y1 y2 y3
   unfold lanyardref02_Hex.l1
   repeat' first
   | (with_reducible exact ih0 _ _ _)
   | (with_reducible exact ih1 _ _ _ _)
   | (with_reducible exact LeO.refl _)
   | (with_reducible exact LeO.none _)
   | (with_reducible refine LeO.ite ?_ ?_)
   | (with_reducible refine LeO.bind ?_ (fun _ => ?_))
   | exact ih0 _ _ _
   | exact ih1 _ _ _ _
   | exact LeO.none _
   | refine LeO.ite ?_ ?_
   | refine LeO.bind ?_ (fun _ => ?_)
theorem lanyardref02_Hex.mono : ∀ a0 k, LeO (lanyardref02_Hex.f k a0) (lanyardref02_Hex.f (k + 1) a0) := by
 intro a0 k
 obtain ⟨ih0, ih1⟩ := lanyardref02_Hex.mono_l k
 unfold lanyardref02_Hex.f
 repeat' first
   | (with_reducible exact ih0 _ _ _)
   | (with_reducible exact ih1 _ _ _ _)
   | (with_reducible exact LeO.refl _)
   | (with_reducible exact LeO.none _)
   | (with_reducible refine LeO.ite ?_ ?_)
   | (with_reducible refine LeO.bind ?_ (fun _ => ?_))
   | exact ih0 _ _ _
   | exact ih1 _ _ _ _
   | exact LeO.none _
   | refine LeO.ite ?_ ?_
   | refine LeO.bind ?_ (fun _ => ?_)
set_option maxHeartbeats 8000000 in
set_option maxRecDepth 100000 in
theorem lanyardref02_Hex.calls (k : Nat) (A0 : Option Addr) (c0 : Nat) (l0 : List Int) (r : ByteArray) (w : World) (hr0 : Kd.C (Kd.int .u8) w A0 l0.length l0) (hc0 : l0.length ≤ c0) (h : lanyardref02_Hex.f k l0 = some r) :
  Calls Tryd.prog 18 #[.slice A0 l0.length c0] w fun e w' => e = .returned (.string r) ∧ Below w.heap.size w w' := by
 have HR0 := Aside0.mk hr0
 have HC0 := Aside0.mk hc0
 clear hr0 hc0
 have HB := Aside0.mk (Below.refl w.heap.size w)
 have H : (lanyardref02_Hex.l0 k l0 ([] : List Int) 0) = some r := h
 clear h
 have H' := Aside0.mk H
 clear H
 go_enter Tryd.func18, Tryd.ntmps18
 go_wp2
 go_loopg [3, 4] k (fun kq v3 v4 w' => ∃ (x3_1 : List Int) (x4_1 : Int), v4 = .int .i64 x4_1 ∧ Aside0 (lanyardref02_Hex.l0 kq l0 x3_1 x4_1 = some r) ∧ Aside0 (kq ≤ k) ∧ Aside0 (Kd.R (Kd.int .u8) 5 w' w.heap.size (fun _ => True) v3 x3_1) ∧ Aside0 (Below w.heap.size w w'))
 case atStart => exact ⟨(([] : List Int)), (0), (by first | rfl | (simp; done) | (simp [*]; done)), H', ⟨Nat.le_refl _⟩, ⟨by first | exact Kd.R_nil _ _ _ _ _ | exact Kd.N_nil _ _ _ _ _ | exact Kd.V_nil _ _ _ _ _ | exact Kd.Q_nil _ _ _ _ _ | exact Kd.S_nil _ _ _ _ _⟩, ⟨Bu HB⟩⟩
 case round =>
  clear H'
  try clear c1
  obtain ⟨x3_1, x4_1, rfl, HA, HK1, HO_3, HB⟩ := hrel
  cases gk with
  | zero => exact absurd HA.out (by simp [lanyardref02_Hex.l0])
  | succ k1 =>
   have H := HA.out
   clear HA
   simp only [lanyardref02_Hex.l0] at H
   by_cases c2 : x4_1 < (l0.length : Int)
   ·rw [if_pos c2] at H
    have c2b0 : decide (x4_1 < (l0.length : Int)) = true := decide_eq_true c2
    clear c2
    have H' := Aside0.mk H
    clear H
    go_wp2
    go_loopg [3, 5] k1 (fun kq v3 v5 w' => ∃ (x3_2 : List Int) (x5_2 : Int), v5 = .int .i64 x5_2 ∧ Aside0 (lanyardref02_Hex.l1 kq l0 x3_2 x4_1 x5_2 = some r) ∧ Aside0 (kq ≤ k1) ∧ Aside0 (Kd.R (Kd.int .u8) 5 w' w.heap.size (fun _ => True) v3 x3_2) ∧ Aside0 (Below w.heap.size w w'))
    case atStart => exact ⟨(x3_1), (0), (by first | rfl | (simp; done) | (simp [*]; done)), H', ⟨Nat.le_refl _⟩, ⟨Ru HO_3⟩, ⟨Bu HB⟩⟩
    case round =>
     clear H'
     try clear c1
     try clear c2
     try clear c2b0
     try clear p2
     obtain ⟨x3_2, x5_2, rfl, HA, HK2, HO_3, HB⟩ := hrel
     cases gk with
     | zero => exact absurd HA.out (by simp [lanyardref02_Hex.l1])
     | succ k2 =>
      have H := HA.out
      clear HA
      simp only [lanyardref02_Hex.l1] at H
      by_cases c3 : x5_2 < 2
      ·rw [if_pos c3] at H
       have c3b0 : decide (x5_2 < 2) = true := decide_eq_true c3
       clear c3
       by_cases c4 : 0 ≤ x4_1
       ·rw [if_pos c4] at H
        have c4b0 : decide (0 ≤ x4_1) = true := decide_eq_true c4
        clear c4
        by_cases c5 : x4_1 < (l0.length : Int)
        ·rw [if_pos c5] at H
         have c5b0 : decide (x4_1 < (l0.length : Int)) = true := decide_eq_true c5
         clear c5
         by_cases c6 : x5_2 = 1
         ·rw [if_pos c6] at H
          have c6b0 : (x5_2 == 1) = true := beq_iff_eq.mpr c6
          have c6b1 : (x5_2 != 1) = false := bne_eq_false_iff_eq.mpr c6
          clear c6
          by_cases c7 : (Int.tmod (wrap64 (rd l0 x4_1)) 16) < 10
          ·rw [if_pos c7] at H
           have c7b0 : decide ((Int.tmod (wrap64 (rd l0 x4_1)) 16) < 10) = true := decide_eq_true c7
           clear c7
           by_cases c8 : x3_2.length < 140737488355328
           ·rw [if_pos c8] at H
            have LMc8 := Aside0.mk c8
            clear c8
            obtain ⟨y179, hy179⟩ : ∃ y_ : List Int, y_ = (x3_2 ++ [(wrap64 (48 + (Int.tmod (wrap64 (rd l0 x4_1)) 16))) % 256]) := ⟨_, rfl⟩
            replace H : (lanyardref02_Hex.l1 k2 l0 y179 x4_1 (wrap64 (x5_2 + 1))) = some r := by first | (rw [hy179]; with_reducible exact H) | (have H2_ := (Option.bind_some _ _).symm.trans H; rw [hy179]; with_reducible exact H2_) | (have H2_ := (Option.bind_some _ _).symm.trans H; with_reducible exact H2_) | with_reducible exact H | (rw [hy179]; exact H) | exact H
            have Ny179 := Aside0.mk hy179
            clear hy179
            have H' := Aside0.mk H
            clear H
            have p177 : 0 ≤ (x4_1 : Int) := of_decide_eq_true (by first | (with_reducible assumption) | assumption)
            have q177 : x4_1 < (l0.length : Int) := of_decide_eq_true (by first | (with_reducible assumption) | assumption)
            obtain ⟨ad177, e177, hx177_0⟩ := Kd.at_int HR0.out x4_1 p177 q177
            cases e177
            replace hx177_0 := (HB.out.cell (World.block_lt_of_cell? w _ hx177_0)).trans hx177_0
            replace p177 := eq_true p177
            replace q177 := eq_true q177
            have p178 : 0 ≤ (x4_1 : Int) := of_decide_eq_true (by first | (with_reducible assumption) | assumption)
            have q178 : x4_1 < (l0.length : Int) := of_decide_eq_true (by first | (with_reducible assumption) | assumption)
            obtain ⟨ad178, e178, hx178_0⟩ := Kd.at_int HR0.out x4_1 p178 q178
            obtain rfl : ad177 = ad178 := (by injection e178)
            replace hx178_0 := (HB.out.cell (World.block_lt_of_cell? w _ hx178_0)).trans hx178_0
            replace p178 := eq_true p178
            replace q178 := eq_true q178
            go_wp2_with (first | ((with_reducible refine gate_builtin (b := .append) (xs := #[.tmp 33, .tmp 37]) rfl ?_); at_builtin; refine Kd.R_append (Kd.int .u8) (w0 := w) w.heap.size rfl (.tmp 33) (.tmp 37) 23 5 (.int .u8 0) 1 rfl Tryd.underlying23 info5 rfl (by decide) (by omega) u3 x3_2 ((wrap64 (48 + (Int.tmod (wrap64 (rd l0 x4_1)) 16))) % 256) [.int .u8 ((wrap64 (48 + (Int.tmod (wrap64 (rd l0 x4_1)) 16))) % 256)] (fun _ => True) (fun _ => False) rfl rfl ?aP (fun _ hk => hk.elim) ?aF ?aO ?aB ?aS ?aL ?_; (case aP => exact rfl); (case aB => exact (Bu HB)); (case aF => exact (fun _ _ => trivial)); (case aO => exact (Ru HO_3)); (case aS => exact (Bz HB)); (case aL => have := LMc8.out; omega); intro v180 w9 ho hb hg hat; rw [← Ny179.out] at ho; have n0_ := Aside0.mk (hb); have n1_ := Aside0.mk (ho); clear HB HO_3; revert n0_ n1_; intro HB HO181; clear ho hb hg hat))
            go_roundg k2
            case measure => have := HK1.out; have := HK2.out; omega
            case rel => exact ⟨(y179), (wrap64 (x5_2 + 1)), (by first | rfl | (simp; done) | (simp [*]; done)), H', ⟨by have := HK1.out; have := HK2.out; omega⟩, ⟨Ru HO181⟩, ⟨Bu HB⟩⟩
           ·rw [if_neg c8] at H
            exact absurd H (by simp)
          ·rw [if_neg c7] at H
           have c7b0 : decide ((Int.tmod (wrap64 (rd l0 x4_1)) 16) < 10) = false := decide_eq_false c7
           clear c7
           by_cases c10 : x3_2.length < 140737488355328
           ·rw [if_pos c10] at H
            have LMc10 := Aside0.mk c10
            clear c10
            obtain ⟨y182, hy182⟩ : ∃ y_ : List Int, y_ = (x3_2 ++ [(wrap64 (87 + (Int.tmod (wrap64 (rd l0 x4_1)) 16))) % 256]) := ⟨_, rfl⟩
            replace H : (lanyardref02_Hex.l1 k2 l0 y182 x4_1 (wrap64 (x5_2 + 1))) = some r := by first | (rw [hy182]; with_reducible exact H) | (have H2_ := (Option.bind_some _ _).symm.trans H; rw [hy182]; with_reducible exact H2_) | (have H2_ := (Option.bind_some _ _).symm.trans H; with_reducible exact H2_) | with_reducible exact H | (rw [hy182]; exact H) | exact H
            have Ny182 := Aside0.mk hy182
            clear hy182
            have H' := Aside0.mk H
            clear H
            have p177 : 0 ≤ (x4_1 : Int) := of_decide_eq_true (by first | (with_reducible assumption) | assumption)
            have q177 : x4_1 < (l0.length : Int) := of_decide_eq_true (by first | (with_reducible assumption) | assumption)
            obtain ⟨ad177, e177, hx177_0⟩ := Kd.at_int HR0.out x4_1 p177 q177
            cases e177
            replace hx177_0 := (HB.out.cell (World.block_lt_of_cell? w _ hx177_0)).trans hx177_0
            replace p177 := eq_true p177
            replace q177 := eq_true q177
            have p178 : 0 ≤ (x4_1 : Int) := of_decide_eq_true (by first | (with_reducible assumption) | assumption)
            have q178 : x4_1 < (l0.length : Int) := of_decide_eq_true (by first | (with_reducible assumption) | assumption)
            obtain ⟨ad178, e178, hx178_0⟩ := Kd.at_int HR0.out x4_1 p178 q178
            obtain rfl : ad177 = ad178 := (by injection e178)
            replace hx178_0 := (HB.out.cell (World.block_lt_of_cell? w _ hx178_0)).trans hx178_0
            replace p178 := eq_true p178
            replace q178 := eq_true q178
            go_wp2_with (first | ((with_reducible refine gate_builtin (b := .append) (xs := #[.tmp 39, .tmp 43]) rfl ?_); at_builtin; refine Kd.R_append (Kd.int .u8) (w0 := w) w.heap.size rfl (.tmp 39) (.tmp 43) 23 5 (.int .u8 0) 1 rfl Tryd.underlying23 info5 rfl (by decide) (by omega) u3 x3_2 ((wrap64 (87 + (Int.tmod (wrap64 (rd l0 x4_1)) 16))) % 256) [.int .u8 ((wrap64 (87 + (Int.tmod (wrap64 (rd l0 x4_1)) 16))) % 256)] (fun _ => True) (fun _ => False) rfl rfl ?aP (fun _ hk => hk.elim) ?aF ?aO ?aB ?aS ?aL ?_; (case aP => exact rfl); (case aB => exact (Bu HB)); (case aF => exact (fun _ _ => trivial)); (case aO => exact (Ru HO_3)); (case aS => exact (Bz HB)); (case aL => have := LMc10.out; omega); intro v183 w11 ho hb hg hat; rw [← Ny182.out] at ho; have n0_ := Aside0.mk (hb); have n1_ := Aside0.mk (ho); clear HB HO_3; revert n0_ n1_; intro HB HO184; clear ho hb hg hat))
            go_roundg k2
            case measure => have := HK1.out; have := HK2.out; omega
            case rel => exact ⟨(y182), (wrap64 (x5_2 + 1)), (by first | rfl | (simp; done) | (simp [*]; done)), H', ⟨by have := HK1.out; have := HK2.out; omega⟩, ⟨Ru HO184⟩, ⟨Bu HB⟩⟩
           ·rw [if_neg c10] at H
            exact absurd H (by simp)
         ·rw [if_neg c6] at H
          have c6b0 : (x5_2 == 1) = false := beq_eq_false_iff_ne.mpr c6
          have c6b1 : (x5_2 != 1) = true := bne_iff_ne.mpr c6
          by_cases c12 : (wrap64 (Int.tdiv (wrap64 (rd l0 x4_1)) 16)) < 10
          ·rw [if_pos c12] at H
           have c12b0 : decide ((wrap64 (Int.tdiv (wrap64 (rd l0 x4_1)) 16)) < 10) = true := decide_eq_true c12
           clear c12
           by_cases c13 : x3_2.length < 140737488355328
           ·rw [if_pos c13] at H
            have LMc13 := Aside0.mk c13
            clear c13
            obtain ⟨y185, hy185⟩ : ∃ y_ : List Int, y_ = (x3_2 ++ [(wrap64 (48 + (wrap64 (Int.tdiv (wrap64 (rd l0 x4_1)) 16)))) % 256]) := ⟨_, rfl⟩
            replace H : (lanyardref02_Hex.l1 k2 l0 y185 x4_1 (wrap64 (x5_2 + 1))) = some r := by first | (rw [hy185]; with_reducible exact H) | (have H2_ := (Option.bind_some _ _).symm.trans H; rw [hy185]; with_reducible exact H2_) | (have H2_ := (Option.bind_some _ _).symm.trans H; with_reducible exact H2_) | with_reducible exact H | (rw [hy185]; exact H) | exact H
            have Ny185 := Aside0.mk hy185
            clear hy185
            have H' := Aside0.mk H
            clear H
            have p177 : 0 ≤ (x4_1 : Int) := of_decide_eq_true (by first | (with_reducible assumption) | assumption)
            have q177 : x4_1 < (l0.length : Int) := of_decide_eq_true (by first | (with_reducible assumption) | assumption)
            obtain ⟨ad177, e177, hx177_0⟩ := Kd.at_int HR0.out x4_1 p177 q177
            cases e177
            replace hx177_0 := (HB.out.cell (World.block_lt_of_cell? w _ hx177_0)).trans hx177_0
            replace p177 := eq_true p177
            replace q177 := eq_true q177
            go_wp2_with (first | ((with_reducible refine gate_builtin (b := .append) (xs := #[.tmp 33, .tmp 37]) rfl ?_); at_builtin; refine Kd.R_append (Kd.int .u8) (w0 := w) w.heap.size rfl (.tmp 33) (.tmp 37) 23 5 (.int .u8 0) 1 rfl Tryd.underlying23 info5 rfl (by decide) (by omega) u3 x3_2 ((wrap64 (48 + (wrap64 (Int.tdiv (wrap64 (rd l0 x4_1)) 16)))) % 256) [.int .u8 ((wrap64 (48 + (wrap64 (Int.tdiv (wrap64 (rd l0 x4_1)) 16)))) % 256)] (fun _ => True) (fun _ => False) rfl rfl ?aP (fun _ hk => hk.elim) ?aF ?aO ?aB ?aS ?aL ?_; (case aP => exact rfl); (case aB => exact (Bu HB)); (case aF => exact (fun _ _ => trivial)); (case aO => exact (Ru HO_3)); (case aS => exact (Bz HB)); (case aL => have := LMc13.out; omega); intro v186 w14 ho hb hg hat; rw [← Ny185.out] at ho; have n0_ := Aside0.mk (hb); have n1_ := Aside0.mk (ho); clear HB HO_3; revert n0_ n1_; intro HB HO187; clear ho hb hg hat))
            go_roundg k2
            case measure => have := HK1.out; have := HK2.out; omega
            case rel => exact ⟨(y185), (wrap64 (x5_2 + 1)), (by first | rfl | (simp; done) | (simp [*]; done)), H', ⟨by have := HK1.out; have := HK2.out; omega⟩, ⟨Ru HO187⟩, ⟨Bu HB⟩⟩
           ·rw [if_neg c13] at H
            exact absurd H (by simp)
          ·rw [if_neg c12] at H
           have c12b0 : decide ((wrap64 (Int.tdiv (wrap64 (rd l0 x4_1)) 16)) < 10) = false := decide_eq_false c12
           clear c12
           by_cases c15 : x3_2.length < 140737488355328
           ·rw [if_pos c15] at H
            have LMc15 := Aside0.mk c15
            clear c15
            obtain ⟨y188, hy188⟩ : ∃ y_ : List Int, y_ = (x3_2 ++ [(wrap64 (87 + (wrap64 (Int.tdiv (wrap64 (rd l0 x4_1)) 16)))) % 256]) := ⟨_, rfl⟩
            replace H : (lanyardref02_Hex.l1 k2 l0 y188 x4_1 (wrap64 (x5_2 + 1))) = some r := by first | (rw [hy188]; with_reducible exact H) | (have H2_ := (Option.bind_some _ _).symm.trans H; rw [hy188]; with_reducible exact H2_) | (have H2_ := (Option.bind_some _ _).symm.trans H; with_reducible exact H2_) | with_reducible exact H | (rw [hy188]; exact H) | exact H
            have Ny188 := Aside0.mk hy188
            clear hy188
            have H' := Aside0.mk H
            clear H
            have p177 : 0 ≤ (x4_1 : Int) := of_decide_eq_true (by first | (with_reducible assumption) | assumption)
            have q177 : x4_1 < (l0.length : Int) := of_decide_eq_true (by first | (with_reducible assumption) | assumption)
            obtain ⟨ad177, e177, hx177_0⟩ := Kd.at_int HR0.out x4_1 p177 q177
            cases e177
            replace hx177_0 := (HB.out.cell (World.block_lt_of_cell? w _ hx177_0)).trans hx177_0
            replace p177 := eq_true p177
            replace q177 := eq_true q177
            go_wp2_with (first | ((with_reducible refine gate_builtin (b := .append) (xs := #[.tmp 39, .tmp 43]) rfl ?_); at_builtin; refine Kd.R_append (Kd.int .u8) (w0 := w) w.heap.size rfl (.tmp 39) (.tmp 43) 23 5 (.int .u8 0) 1 rfl Tryd.underlying23 info5 rfl (by decide) (by omega) u3 x3_2 ((wrap64 (87 + (wrap64 (Int.tdiv (wrap64 (rd l0 x4_1)) 16)))) % 256) [.int .u8 ((wrap64 (87 + (wrap64 (Int.tdiv (wrap64 (rd l0 x4_1)) 16)))) % 256)] (fun _ => True) (fun _ => False) rfl rfl ?aP (fun _ hk => hk.elim) ?aF ?aO ?aB ?aS ?aL ?_; (case aP => exact rfl); (case aB => exact (Bu HB)); (case aF => exact (fun _ _ => trivial)); (case aO => exact (Ru HO_3)); (case aS => exact (Bz HB)); (case aL => have := LMc15.out; omega); intro v189 w16 ho hb hg hat; rw [← Ny188.out] at ho; have n0_ := Aside0.mk (hb); have n1_ := Aside0.mk (ho); clear HB HO_3; revert n0_ n1_; intro HB HO190; clear ho hb hg hat))
            go_roundg k2
            case measure => have := HK1.out; have := HK2.out; omega
            case rel => exact ⟨(y188), (wrap64 (x5_2 + 1)), (by first | rfl | (simp; done) | (simp [*]; done)), H', ⟨by have := HK1.out; have := HK2.out; omega⟩, ⟨Ru HO190⟩, ⟨Bu HB⟩⟩
           ·rw [if_neg c15] at H
            exact absurd H (by simp)
        ·rw [if_neg c5] at H
         exact absurd H (by simp)
       ·rw [if_neg c4] at H
        exact absurd H (by simp)
      ·rw [if_neg c3] at H
       have c3b0 : decide (x5_2 < 2) = false := decide_eq_false c3
       clear c3
       have H' := Aside0.mk H
       clear H
       go_wp2
       go_roundg k2
       case measure => have := HK1.out; have := HK2.out; omega
       case rel => exact ⟨(x3_2), (wrap64 (x4_1 + 1)), (by first | rfl | (simp; done) | (simp [*]; done)), H', ⟨by have := HK1.out; have := HK2.out; omega⟩, ⟨Ru HO_3⟩, ⟨Bu HB⟩⟩
   ·rw [if_neg c2] at H
    have c2b0 : decide (x4_1 < (l0.length : Int)) = false := decide_eq_false c2
    clear c2
    obtain rfl := Option.some.inj H
    have hcv17 := own_string (P := Tryd.prog) Tryd.underlying23 Tryd.underlying5 Tryd.underlying9 (Kd.own_of_R HO_3.out)
    have hcv18 := fun n_ : Nat => own_string (P := Tryd.prog) Tryd.underlying23 Tryd.underlying5 Tryd.underlying9 (Kd.own_of_R (Kd.R_drewN HO_3.out n_))
    go_wp2
    go_ret
    exact ⟨rfl_, Bu HB⟩

end Go.Proofs.YtfphmpnkfjeceaaDoor.Hp
