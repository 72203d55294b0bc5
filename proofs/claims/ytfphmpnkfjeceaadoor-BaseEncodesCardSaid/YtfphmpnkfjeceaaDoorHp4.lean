/- Go functions of this seat as Lean functions, and their contracts: what the Go code computes, for every input. (By hp.py, a program of this repo, over the kit's print.py.) -/
import Derived.Test.YtfphmpnkfjeceaaDoorHp0
import Derived.Test.YtfphmpnkfjeceaaDoorHp2
import Derived.Test.YtfphmpnkfjeceaaDoorHp3
namespace Go.Proofs.YtfphmpnkfjeceaaDoor.Hp
open Go.RowKit Go.Proofs.YtfphmpnkfjeceaaDoorW.PrintWords Go.Proofs.YtfphmpnkfjeceaaDoorW.PrintLast Go.Proofs.YtfphmpnkfjeceaaDoorW.PrintMore
attribute [local go_sem] max2_int min2_int max_two min_two max_three min_three max_four min_four   -- for this text's walks alone
set_option linter.unusedVariables false
set_option linter.unusedSimpArgs false

/-! ### lanyardref02_Decode: function 10 -/
mutual
def lanyardref02_Decode.l0 : Nat → ByteArray → List Int → Int → Option (List Int × Int)
 | 0, _, _, _ => none
 | k + 1, x0, x4, x5 => if x5 < (x0.size : Int) then (if 0 ≤ x5 then ((lanyardref01_Blank.f (bt x0 x5)).bind fun t132 => (if t132 = true then (lanyardref02_Decode.l0 k x0 x4 (wrap64 (x5 + 1))) else (if (bt x0 x5) = 61 then (if x4.length < 140737488355328 then (lanyardref02_Decode.l0 k x0 (x4 ++ [bt x0 x5]) (wrap64 (x5 + 1))) else (none)) else ((lanyardref02_six.f k (bt x0 x5)).bind fun t136 => (if t136 < 0 then (some (([] : List Int), 13)) else (if x4.length < 140737488355328 then (lanyardref02_Decode.l0 k x0 (x4 ++ [bt x0 x5]) (wrap64 (x5 + 1))) else (none))))))) else (none)) else (lanyardref02_Decode.l1 k x4 ([] : List Int) 0)
def lanyardref02_Decode.l1 : Nat → List Int → List Int → Int → Option (List Int × Int)
 | 0, _, _, _ => none
 | k + 1, x4, x6, x7 => if x7 < (x4.length : Int) then (if 0 ≤ x7 then (lanyardref02_Decode.j2 k x4 x6 x7 ((rd x4 x7) != 61)) else (none)) else (lanyardref02_Decode.j2 k x4 x6 x7 false)
def lanyardref02_Decode.j2 : Nat → List Int → List Int → Int → Bool → Option (List Int × Int)
 | 0, _, _, _, _ => none
 | k + 1, x4, x6, x7, x51 => if x51 = true then (if 0 ≤ x7 then (if x7 < (x4.length : Int) then ((lanyardref02_six.f k (rd x4 x7)).bind fun t142 => (lanyardref02_Decode.l2 k x4 x6 x7 t142 5)) else (none)) else (none)) else (lanyardref02_Decode.l3 k x4 x6 ([] : List Int) 0)
def lanyardref02_Decode.l2 : Nat → List Int → List Int → Int → Int → Int → Option (List Int × Int)
 | 0, _, _, _, _, _ => none
 | k + 1, x4, x6, x7, x8, x9 => if x9 ≥ 0 then ((lanyardref02_pow.f k x9).bind fun t143 => (if t143 = 0 then (none) else (if x6.length < 17592186044416 then (lanyardref02_Decode.l2 k x4 (x6 ++ [Int.tmod (wrap64 (Int.tdiv x8 t143)) 2]) x7 x8 (wrap64 (x9 - 1))) else (none)))) else (lanyardref02_Decode.l1 k x4 x6 (wrap64 (x7 + 1)))
def lanyardref02_Decode.l3 : Nat → List Int → List Int → List Int → Int → Option (List Int × Int)
 | 0, _, _, _, _ => none
 | k + 1, x4, x6, x10, x11 => if (wrap64 (x11 + 8)) ≤ (x6.length : Int) then (lanyardref02_Decode.l4 k x4 x6 x10 x11 0 0) else ((lanyardref02_Encode.f k x10).bind fun t147 => (if t147.toList = (strOfNums x4).toList then (some (x10, 0)) else (some (([] : List Int), 10))))
def lanyardref02_Decode.l4 : Nat → List Int → List Int → List Int → Int → Int → Int → Option (List Int × Int)
 | 0, _, _, _, _, _, _ => none
 | k + 1, x4, x6, x10, x11, x12, x13 => if x13 < 8 then (if 0 ≤ (wrap64 (x11 + x13)) then (if (wrap64 (x11 + x13)) < (x6.length : Int) then (lanyardref02_Decode.l4 k x4 x6 x10 x11 (wrap64 ((wrap64 (x12 * 2)) + (rd x6 (wrap64 (x11 + x13))))) (wrap64 (x13 + 1))) else (none)) else (none)) else (if x10.length < 140737488355328 then (lanyardref02_Decode.l3 k x4 x6 (x10 ++ [(x12) % 256]) (wrap64 (x11 + 8))) else (none))
end
def lanyardref02_Decode.f (k : Nat) (a0 : ByteArray) : Option (List Int × Int) := lanyardref02_Decode.l0 k a0 ([] : List Int) 0
theorem lanyardref02_Decode.mono_l : ∀ k, (∀ y0 y1 y2, LeO (lanyardref02_Decode.l0 k y0 y1 y2) (lanyardref02_Decode.l0 (k + 1) y0 y1 y2)) ∧ (∀ y0 y1 y2, LeO (lanyardref02_Decode.l1 k y0 y1 y2) (lanyardref02_Decode.l1 (k + 1) y0 y1 y2)) ∧ (∀ y0 y1 y2 y3, LeO (lanyardref02_Decode.j2 k y0 y1 y2 y3) (lanyardref02_Decode.j2 (k + 1) y0 y1 y2 y3)) ∧ (∀ y0 y1 y2 y3 y4, LeO (lanyardref02_Decode.l2 k y0 y1 y2 y3 y4) (lanyardref02_Decode.l2 (k + 1) y0 y1 y2 y3 y4)) ∧ (∀ y0 y1 y2 y3, LeO (lanyardref02_Decode.l3 k y0 y1 y2 y3) (lanyardref02_Decode.l3 (k + 1) y0 y1 y2 y3)) ∧ (∀ y0 y1 y2 y3 y4 y5, LeO (lanyardref02_Decode.l4 k y0 y1 y2 y3 y4 y5) (lanyardref02_Decode.l4 (k + 1) y0 y1 y2 y3 y4 y5))
 | 0 => ⟨fun _ _ _ r h => by simp [lanyardref02_Decode.l0] at h, fun _ _ _ r h => by simp [lanyardref02_Decode.l1] at h, fun _ _ _ _ r h => by simp [lanyardref02_Decode.j2] at h, fun _ _ _ _ _ r h => by simp [lanyardref02_Decode.l2] at h, fun _ _ _ _ r h => by simp [lanyardref02_Decode.l3] at h, fun _ _ _ _ _ _ r h => by simp [lanyardref02_Decode.l4] at h⟩
 | k + 1 => by
  obtain ⟨ih0, ih1, ih2, ih3, ih4, ih5⟩ := lanyardref02_Decode.mono_l k
  refine ⟨?_, ?_, ?_, ?_, ?_, ?_⟩
  ·intro y0 y1 y2
   unfold lanyardref02_Decode.l0
   repeat' first
   | (with_reducible exact ih0 _ _ _)
   | (with_reducible exact ih1 _ _ _)
   | (with_reducible exact ih2 _ _ _ _)
   | (with_reducible exact ih3 _ _ _ _ _)
   | (with_reducible exact ih4 _ _ _ _)
   | (with_reducible exact ih5 _ _ _ _ _ _)
   | (with_reducible exact lanyardref02_Encode.mono _ _)
   | (with_reducible exact lanyardref02_pow.mono _ _)
   | (with_reducible exact lanyardref02_six.mono _ _)
   | (with_reducible exact LeO.refl _)
   | (with_reducible exact LeO.none _)
   | (with_reducible refine LeO.ite ?_ ?_)
   | (with_reducible refine LeO.bind ?_ (fun _ => ?_))
   | exact ih0 _ _ _
   | exact ih1 _ _ _
   | exact ih2 _ _ _ _
   | exact ih3 _ _ _ _ _
   | exact ih4 _ _ _ _
   | exact ih5 _ _ _ _ _ _
   | exact lanyardref02_Encode.mono _ _
   | exact lanyardref02_pow.mono _ _
   | exact lanyardref02_six.mono _ _
   | exact LeO.none _
   | refine LeO.ite ?_ ?_
   | refine LeO.bind ?_ (fun _ => ?_)
  ·intro y0 y1 y2
   unfold lanyardref02_Decode.l1
   repeat' first
   | (with_reducible exact ih0 _ _ _)
   | (with_reducible exact ih1 _ _ _)
   | (with_reducible exact ih2 _ _ _ _)
   | (with_reducible exact ih3 _ _ _ _ _)
   | (with_reducible exact ih4 _ _ _ _)
   | (with_reducible exact ih5 _ _ _ _ _ _)
   | (with_reducible exact lanyardref02_Encode.mono _ _)
   | (with_reducible exact lanyardref02_pow.mono _ _)
   | (with_reducible exact lanyardref02_six.mono _ _)
   | (with_reducible exact LeO.refl _)
   | (with_reducible exact LeO.none _)
   | (with_reducible refine LeO.ite ?_ ?_)
   | (with_reducible refine LeO.bind ?_ (fun _ => ?_))
   | exact ih0 _ _ _
   | exact ih1 _ _ _
   | exact ih2 _ _ _ _
   | exact ih3 _ _ _ _ _
   | exact ih4 _ _ _ _
   | exact ih5 _ _ _ _ _ _
   | exact lanyardref02_Encode.mono _ _
   | exact lanyardref02_pow.mono _ _
   | exact lanyardref02_six.mono _ _
   | exact LeO.none _
   | refine LeO.ite ?_ ?_
   | refine LeO.bind ?_ (fun _ => ?_)
  ·intro y0 y1 y2 y3
   unfold lanyardref02_Decode.j2
   repeat' first
   | (with_reducible exact ih0 _ _ _)
   | (with_reducible exact ih1 _ _ _)
   | (with_reducible exact ih2 _ _ _ _)
   | (with_reducible exact ih3 _ _ _ _ _)
   | (with_reducible exact ih4 _ _ _ _)
   | (with_reducible exact ih5 _ _ _ _ _ _)
   | (with_reducible exact lanyardref02_Encode.mono _ _)
   | (with_reducible exact lanyardref02_pow.mono _ _)
   | (with_reducible exact lanyardref02_six.mono _ _)
   | (with_reducible exact LeO.refl _)
   | (with_reducible exact LeO.none _)
   | (with_reducible refine LeO.ite ?_ ?_)
   | (with_reducible refine LeO.bind ?_ (fun _ => ?_))
   | exact ih0 _ _ _
   | exact ih1 _ _ _
   | exact ih2 _ _ _ _
   | exact ih3 _ _ _ _ _
   | exact ih4 _ _ _ _
   | exact ih5 _ _ _ _ _ _
   | exact lanyardref02_Encode.mono _ _
   | exact lanyardref02_pow.mono _ _
   | exact lanyardref02_six.mono _ _
   | exact LeO.none _
   | refine LeO.ite ?_ ?_
   | refine LeO.bind ?_ (fun _ => ?_)
  ·intro y0 y1 y2 y3 y4
   unfold lanyardref02_Decode.l2
   repeat' first
   | (with_reducible exact ih0 _ _ _)
   | (with_reducible exact ih1 _ _ _)
   | (with_reducible exact ih2 _ _ _ _)
   | (with_reducible exact ih3 _ _ _ _ _)
   | (with_reducible exact ih4 _ _ _ _)
   | (with_reducible exact ih5 _ _ _ _ _ _)
   | (with_reducible exact lanyardref02_Encode.mono _ _)
   | (with_reducible exact lanyardref02_pow.mono _ _)
   | (with_reducible exact lanyardref02_six.mono _ _)
   | (with_reducible exact LeO.refl _)
   | (with_reducible exact LeO.none _)
   | (with_reducible refine LeO.ite ?_ ?_)
   | (with_reducible refine LeO.bind ?_ (fun _ => ?_))
   | exact ih0 _ _ _
   | exact ih1 _ _ _
   | exact ih2 _ _ _ _
   | exact ih3 _ _ _ _ _
   | exact ih4 _ _ _ _
   | exact ih5 _ _ _ _ _ _
   | exact lanyardref02_Encode.mono _ _
   | exact lanyardref02_pow.mono _ _
   | exact lanyardref02_six.mono _ _
   | exact LeO.none _
   | refine LeO.ite ?_ ?_
   | refine LeO.bind ?_ (fun _ => ?_)
  ·intro y0 y1 y2 y3
   unfold lanyardref02_Decode.l3
   repeat' first
   | (with_reducible exact ih0 _ _ _)
   | (with_reducible exact ih1 _ _ _)
   | (with_reducible exact ih2 _ _ _ _)
   | (with_reducible exact ih3 _ _ _ _ _)
   | (with_reducible exact ih4 _ _ _ _)
   | (with_reducible exact ih5 _ _ _ _ _ _)
   | (with_reducible exact lanyardref02_Encode.mono _ _)
   | (with_reducible exact lanyardref02_pow.mono _ _)
   | (with_reducible exact lanyardref02_six.mono _ _)
   | (with_reducible exact LeO.refl _)
   | (with_reducible exact LeO.none _)
   | (with_reducible refine LeO.ite ?_ ?_)
   | (with_reducible refine LeO.bind ?_ (fun _ => ?_))
   | exact ih0 _ _ _
   | exact ih1 _ _ _
   | exact ih2 _ _ _ _
   | exact ih3 _ _ _ _ _
   | exact ih4 _ _ _ _
   | exact ih5 _ _ _ _ _ _
   | exact lanyardref02_Encode.mono _ _
   | exact lanyardref02_pow.mono _ _
   | exact lanyardref02_six.mono _ _
   | exact LeO.none _
   | refine LeO.ite ?_ ?_
   | refine LeO.bind ?_ (fun _ => ?_)
  ·intro y0 y1 y2 y3 y4 y5
   unfold lanyardref02_Decode.l4
   repeat' first
   | (with_reducible exact ih0 _ _ _)
   | (with_reducible exact ih1 _ _ _)
   | (with_reducible exact ih2 _ _ _ _)
   | (with_reducible exact ih3 _ _ _ _ _)
   | (with_reducible exact ih4 _ _ _ _)
   | (with_reducible exact ih5 _ _ _ _ _ _)
   | (with_reducible exact lanyardref02_Encode.mono _ _)
   | (with_reducible exact lanyardref02_pow.mono _ _)
   | (with_reducible exact lanyardref02_six.mono _ _)
   | (with_reducible exact LeO.refl _)
   | (with_reducible exact LeO.none _)
   | (with_reducible refine LeO.ite ?_ ?_)
   | (with_reducible refine LeO.bind ?_ (fun _ => ?_))
   | exact ih0 _ _ _
   | exact ih1 _ _ _
   | exact ih2 _ _ _ _
   | exact ih3 _ _ _ _ _
   | exact ih4 _ _ _ _
   | exact ih5 _ _ _ _ _ _
   | exact lanyardref02_Encode.mono _ _
   | exact lanyardref02_pow.mono _ _
   | exact lanyardref02_six.mono _ _
   | exact LeO.none _
   | refine LeO.ite ?_ ?_
   | refine LeO.bind ?_ (fun _ => ?_)
theorem lanyardref02_Decode.mono : ∀ a0 k, LeO (lanyardref02_Decode.f k a0) (lanyardref02_Decode.f (k + 1) a0) := by
 intro a0 k
 obtain ⟨ih0, ih1, ih2, ih3, ih4, ih5⟩ := lanyardref02_Decode.mono_l k
 unfold lanyardref02_Decode.f
 repeat' first
   | (with_reducible exact ih0 _ _ _)
   | (with_reducible exact ih1 _ _ _)
   | (with_reducible exact ih2 _ _ _ _)
   | (with_reducible exact ih3 _ _ _ _ _)
   | (with_reducible exact ih4 _ _ _ _)
   | (with_reducible exact ih5 _ _ _ _ _ _)
   | (with_reducible exact lanyardref02_Encode.mono _ _)
   | (with_reducible exact lanyardref02_pow.mono _ _)
   | (with_reducible exact lanyardref02_six.mono _ _)
   | (with_reducible exact LeO.refl _)
   | (with_reducible exact LeO.none _)
   | (with_reducible refine LeO.ite ?_ ?_)
   | (with_reducible refine LeO.bind ?_ (fun _ => ?_))
   | exact ih0 _ _ _
   | exact ih1 _ _ _
   | exact ih2 _ _ _ _
   | exact ih3 _ _ _ _ _
   | exact ih4 _ _ _ _
   | exact ih5 _ _ _ _ _ _
   | exact lanyardref02_Encode.mono _ _
   | exact lanyardref02_pow.mono _ _
   | exact lanyardref02_six.mono _ _
   | exact LeO.none _
   | refine LeO.ite ?_ ?_
   | refine LeO.bind ?_ (fun _ => ?_)
set_option maxHeartbeats 8000000 in
set_option maxRecDepth 100000 in
theorem lanyardref02_Decode.calls (k : Nat) (a0 : ByteArray) (r1 : List Int) (r2 : Int) (w : World) (h : lanyardref02_Decode.f k a0 = some (r1, r2)) :
  Calls Tryd.prog 10 #[.string a0] w fun e w' => ∃ v0_ : Value, e = .returned (.tuple #[v0_, .int .i64 r2]) ∧ Kd.R (Kd.int .u8) 5 w' w.heap.size (fun _ => True) v0_ r1 ∧ Below w.heap.size w w' := by
 have HB := Aside0.mk (Below.refl w.heap.size w)
 have H : (lanyardref02_Decode.l0 k a0 ([] : List Int) 0) = some (r1, r2) := h
 clear h
 have H' := Aside0.mk H
 clear H
 go_enter Tryd.func10, Tryd.ntmps10
 go_wp2
 go_loopg [4, 5] k (fun kq v4 v5 w' => ∃ (x4_1 : List Int) (x5_1 : Int), v5 = .int .i64 x5_1 ∧ Aside0 (lanyardref02_Decode.l0 kq a0 x4_1 x5_1 = some (r1, r2)) ∧ Aside0 (kq ≤ k) ∧ Aside0 (Kd.R (Kd.int .u8) 5 w' w.heap.size (fun _ => True) v4 x4_1) ∧ Aside0 (Below w.heap.size w w'))
 case atStart => exact ⟨(([] : List Int)), (0), (by first | rfl | (simp; done) | (simp [*]; done)), H', ⟨Nat.le_refl _⟩, ⟨by first | exact Kd.R_nil _ _ _ _ _ | exact Kd.N_nil _ _ _ _ _ | exact Kd.V_nil _ _ _ _ _ | exact Kd.Q_nil _ _ _ _ _ | exact Kd.S_nil _ _ _ _ _⟩, ⟨Bu HB⟩⟩
 case round =>
  clear H'
  try clear c1
  obtain ⟨x4_1, x5_1, rfl, HA, HK1, HO_4, HB⟩ := hrel
  cases gk with
  | zero => exact absurd HA.out (by simp [lanyardref02_Decode.l0])
  | succ k1 =>
   have H := HA.out
   clear HA
   simp only [lanyardref02_Decode.l0] at H
   by_cases c2 : x5_1 < (a0.size : Int)
   ·rw [if_pos c2] at H
    have c2b0 : decide (x5_1 < (a0.size : Int)) = true := decide_eq_true c2
    clear c2
    by_cases c3 : 0 ≤ x5_1
    ·rw [if_pos c3] at H
     have c3b0 : decide (0 ≤ x5_1) = true := decide_eq_true c3
     clear c3
     replace H := Option.bind_eq_some_iff.mp H
     obtain ⟨t132, A50, H⟩ := H
     replace H : (if t132 = true then (lanyardref02_Decode.l0 k1 a0 x4_1 (wrap64 (x5_1 + 1))) else (if (bt a0 x5_1) = 61 then (if x4_1.length < 140737488355328 then (lanyardref02_Decode.l0 k1 a0 (x4_1 ++ [bt a0 x5_1]) (wrap64 (x5_1 + 1))) else (none)) else ((lanyardref02_six.f k1 (bt a0 x5_1)).bind fun t136 => (if t136 < 0 then (some (([] : List Int), 13)) else (if x4_1.length < 140737488355328 then (lanyardref02_Decode.l0 k1 a0 (x4_1 ++ [bt a0 x5_1]) (wrap64 (x5_1 + 1))) else (none)))))) = some (r1, r2) := H
     have A5 := Aside0.mk A50
     clear A50
     by_cases c6 : t132 = true
     ·subst c6
      have H1 : (lanyardref02_Decode.l0 k1 a0 x4_1 (wrap64 (x5_1 + 1))) = some (r1, r2) := by rw [if_pos rfl] at H; exact H
      clear H
      have H := H1
      clear H1
      have H' := Aside0.mk H
      clear H
      have p4 : 0 ≤ (x5_1 : Int) := of_decide_eq_true (by first | (with_reducible assumption) | assumption)
      have q4 : x5_1 < (a0.size : Int) := of_decide_eq_true (by first | (with_reducible assumption) | assumption)
      have hx4 := bt_at a0 x5_1
      replace p4 := eq_true p4
      replace q4 := eq_true q4
      go_wp2_with (first | ((with_reducible refine gate_callee (f := 24) rfl ?_); refine goesA (some 23) Tryd.func24 #[.int .u8 (bt a0 x5_1)] rfl ?_; (with_reducible refine (lanyardref01_Blank.calls (bt a0 x5_1) true _ A5.out).mono ?_); rintro e w' ⟨rfl, ⟨nd, rfl⟩⟩; refine ⟨_, rfl, ?_⟩))
      go_roundg k1
      case measure => have := HK1.out; omega
      case rel => exact ⟨(x4_1), (wrap64 (x5_1 + 1)), (by first | rfl | (simp; done) | (simp [*]; done)), H', ⟨by have := HK1.out; omega⟩, ⟨Ru HO_4⟩, ⟨Bu HB⟩⟩
     ·replace c6 := Bool.eq_false_iff.mpr c6
      subst c6
      have H1 : (if (bt a0 x5_1) = 61 then (if x4_1.length < 140737488355328 then (lanyardref02_Decode.l0 k1 a0 (x4_1 ++ [bt a0 x5_1]) (wrap64 (x5_1 + 1))) else (none)) else ((lanyardref02_six.f k1 (bt a0 x5_1)).bind fun t136 => (if t136 < 0 then (some (([] : List Int), 13)) else (if x4_1.length < 140737488355328 then (lanyardref02_Decode.l0 k1 a0 (x4_1 ++ [bt a0 x5_1]) (wrap64 (x5_1 + 1))) else (none))))) = some (r1, r2) := by rw [if_neg (show ¬ (false = true) by decide)] at H; exact H
      clear H
      have H := H1
      clear H1
      by_cases c8 : (bt a0 x5_1) = 61
      ·rw [if_pos c8] at H
       have c8b0 : ((bt a0 x5_1) == 61) = true := beq_iff_eq.mpr c8
       have c8b1 : ((bt a0 x5_1) != 61) = false := bne_eq_false_iff_eq.mpr c8
       clear c8
       by_cases c10 : x4_1.length < 140737488355328
       ·rw [if_pos c10] at H
        have LMc10 := Aside0.mk c10
        clear c10
        obtain ⟨y133, hy133⟩ : ∃ y_ : List Int, y_ = (x4_1 ++ [bt a0 x5_1]) := ⟨_, rfl⟩
        replace H : (lanyardref02_Decode.l0 k1 a0 y133 (wrap64 (x5_1 + 1))) = some (r1, r2) := by first | (rw [hy133]; with_reducible exact H) | (have H2_ := (Option.bind_some _ _).symm.trans H; rw [hy133]; with_reducible exact H2_) | (have H2_ := (Option.bind_some _ _).symm.trans H; with_reducible exact H2_) | with_reducible exact H | (rw [hy133]; exact H) | exact H
        have Ny133 := Aside0.mk hy133
        clear hy133
        have H' := Aside0.mk H
        clear H
        have p4 : 0 ≤ (x5_1 : Int) := of_decide_eq_true (by first | (with_reducible assumption) | assumption)
        have q4 : x5_1 < (a0.size : Int) := of_decide_eq_true (by first | (with_reducible assumption) | assumption)
        have hx4 := bt_at a0 x5_1
        replace p4 := eq_true p4
        replace q4 := eq_true q4
        go_wp2_with (first | ((with_reducible refine gate_callee (f := 24) rfl ?_); refine goesA (some 23) Tryd.func24 #[.int .u8 (bt a0 x5_1)] rfl ?_; (with_reducible refine (lanyardref01_Blank.calls (bt a0 x5_1) false _ A5.out).mono ?_); rintro e w' ⟨rfl, ⟨nd, rfl⟩⟩; refine ⟨_, rfl, ?_⟩; have p7 : 0 ≤ (x5_1 : Int) := of_decide_eq_true (by first | (with_reducible assumption) | assumption); have q7 : x5_1 < (a0.size : Int) := of_decide_eq_true (by first | (with_reducible assumption) | assumption); have hx7 := bt_at a0 x5_1; replace p7 := eq_true p7; replace q7 := eq_true q7; have p9 : 0 ≤ (x5_1 : Int) := of_decide_eq_true (by first | (with_reducible assumption) | assumption); have q9 : x5_1 < (a0.size : Int) := of_decide_eq_true (by first | (with_reducible assumption) | assumption); have hx9 := bt_at a0 x5_1; replace p9 := eq_true p9; replace q9 := eq_true q9) | ((with_reducible refine gate_builtin (b := .append) (xs := #[.tmp 35, .tmp 39]) rfl ?_); at_builtin; refine Kd.R_append (Kd.int .u8) (w0 := w) w.heap.size rfl (.tmp 35) (.tmp 39) 23 5 (.int .u8 0) 1 rfl Tryd.underlying23 info5 rfl (by decide) (by omega) u4 x4_1 (bt a0 x5_1) [.int .u8 (bt a0 x5_1)] (fun _ => True) (fun _ => False) rfl rfl ?aP (fun _ hk => hk.elim) ?aF ?aO ?aB ?aS ?aL ?_; (case aP => exact rfl); (case aB => exact (Bu HB)); (case aF => exact (fun _ _ => trivial)); (case aO => exact (Ru HO_4)); (case aS => exact (Bz HB)); (case aL => have := LMc10.out; omega); intro v134 w11 ho hb hg hat; rw [← Ny133.out] at ho; have n0_ := Aside0.mk (hb); have n1_ := Aside0.mk (ho); clear HB HO_4; revert n0_ n1_; intro HB HO135; clear ho hb hg hat))
        go_roundg k1
        case measure => have := HK1.out; omega
        case rel => exact ⟨(y133), (wrap64 (x5_1 + 1)), (by first | rfl | (simp; done) | (simp [*]; done)), H', ⟨by have := HK1.out; omega⟩, ⟨Ru HO135⟩, ⟨Bu HB⟩⟩
       ·rw [if_neg c10] at H
        exact absurd H (by simp)
      ·rw [if_neg c8] at H
       have c8b0 : ((bt a0 x5_1) == 61) = false := beq_eq_false_iff_ne.mpr c8
       have c8b1 : ((bt a0 x5_1) != 61) = true := bne_iff_ne.mpr c8
       replace H := Option.bind_eq_some_iff.mp H
       obtain ⟨t136, A130, H⟩ := H
       replace H : (if t136 < 0 then (some (([] : List Int), 13)) else (if x4_1.length < 140737488355328 then (lanyardref02_Decode.l0 k1 a0 (x4_1 ++ [bt a0 x5_1]) (wrap64 (x5_1 + 1))) else (none))) = some (r1, r2) := H
       have A13 := Aside0.mk A130
       clear A130
       by_cases c14 : t136 < 0
       ·rw [if_pos c14] at H
        have c14b0 : decide (t136 < 0) = true := decide_eq_true c14
        clear c14
        simp only [Option.some.injEq, Prod.mk.injEq] at H
        obtain ⟨rfl, rfl⟩ := H
        have p4 : 0 ≤ (x5_1 : Int) := of_decide_eq_true (by first | (with_reducible assumption) | assumption)
        have q4 : x5_1 < (a0.size : Int) := of_decide_eq_true (by first | (with_reducible assumption) | assumption)
        have hx4 := bt_at a0 x5_1
        replace p4 := eq_true p4
        replace q4 := eq_true q4
        go_wp2_with (first | ((with_reducible refine gate_callee (f := 24) rfl ?_); refine goesA (some 23) Tryd.func24 #[.int .u8 (bt a0 x5_1)] rfl ?_; (with_reducible refine (lanyardref01_Blank.calls (bt a0 x5_1) false _ A5.out).mono ?_); rintro e w' ⟨rfl, ⟨nd, rfl⟩⟩; refine ⟨_, rfl, ?_⟩; have p7 : 0 ≤ (x5_1 : Int) := of_decide_eq_true (by first | (with_reducible assumption) | assumption); have q7 : x5_1 < (a0.size : Int) := of_decide_eq_true (by first | (with_reducible assumption) | assumption); have hx7 := bt_at a0 x5_1; replace p7 := eq_true p7; replace q7 := eq_true q7; have p12 : 0 ≤ (x5_1 : Int) := of_decide_eq_true (by first | (with_reducible assumption) | assumption); have q12 : x5_1 < (a0.size : Int) := of_decide_eq_true (by first | (with_reducible assumption) | assumption); have hx12 := bt_at a0 x5_1; replace p12 := eq_true p12; replace q12 := eq_true q12) | (go_at_call 25; (with_reducible refine (lanyardref02_six.calls k1 (bt a0 x5_1) t136 _ A13.out).mono ?_); rintro e w' ⟨rfl, ⟨nd, rfl⟩⟩))
        go_ret2
        exact ⟨_, rfl_, by first | exact Kd.R_nil _ _ _ _ _ | exact Kd.N_nil _ _ _ _ _ | exact Kd.V_nil _ _ _ _ _ | exact Kd.Q_nil _ _ _ _ _ | exact Kd.S_nil _ _ _ _ _, Bu HB⟩
       ·rw [if_neg c14] at H
        have c14b0 : decide (t136 < 0) = false := decide_eq_false c14
        clear c14
        by_cases c16 : x4_1.length < 140737488355328
        ·rw [if_pos c16] at H
         have LMc16 := Aside0.mk c16
         clear c16
         obtain ⟨y137, hy137⟩ : ∃ y_ : List Int, y_ = (x4_1 ++ [bt a0 x5_1]) := ⟨_, rfl⟩
         replace H : (lanyardref02_Decode.l0 k1 a0 y137 (wrap64 (x5_1 + 1))) = some (r1, r2) := by first | (rw [hy137]; with_reducible exact H) | (have H2_ := (Option.bind_some _ _).symm.trans H; rw [hy137]; with_reducible exact H2_) | (have H2_ := (Option.bind_some _ _).symm.trans H; with_reducible exact H2_) | with_reducible exact H | (rw [hy137]; exact H) | exact H
         have Ny137 := Aside0.mk hy137
         clear hy137
         have H' := Aside0.mk H
         clear H
         have p4 : 0 ≤ (x5_1 : Int) := of_decide_eq_true (by first | (with_reducible assumption) | assumption)
         have q4 : x5_1 < (a0.size : Int) := of_decide_eq_true (by first | (with_reducible assumption) | assumption)
         have hx4 := bt_at a0 x5_1
         replace p4 := eq_true p4
         replace q4 := eq_true q4
         go_wp2_with (first | ((with_reducible refine gate_callee (f := 24) rfl ?_); refine goesA (some 23) Tryd.func24 #[.int .u8 (bt a0 x5_1)] rfl ?_; (with_reducible refine (lanyardref01_Blank.calls (bt a0 x5_1) false _ A5.out).mono ?_); rintro e w' ⟨rfl, ⟨nd, rfl⟩⟩; refine ⟨_, rfl, ?_⟩; have p7 : 0 ≤ (x5_1 : Int) := of_decide_eq_true (by first | (with_reducible assumption) | assumption); have q7 : x5_1 < (a0.size : Int) := of_decide_eq_true (by first | (with_reducible assumption) | assumption); have hx7 := bt_at a0 x5_1; replace p7 := eq_true p7; replace q7 := eq_true q7; have p12 : 0 ≤ (x5_1 : Int) := of_decide_eq_true (by first | (with_reducible assumption) | assumption); have q12 : x5_1 < (a0.size : Int) := of_decide_eq_true (by first | (with_reducible assumption) | assumption); have hx12 := bt_at a0 x5_1; replace p12 := eq_true p12; replace q12 := eq_true q12) | (go_at_call 25; (with_reducible refine (lanyardref02_six.calls k1 (bt a0 x5_1) t136 _ A13.out).mono ?_); rintro e w' ⟨rfl, ⟨nd, rfl⟩⟩; have p15 : 0 ≤ (x5_1 : Int) := of_decide_eq_true (by first | (with_reducible assumption) | assumption); have q15 : x5_1 < (a0.size : Int) := of_decide_eq_true (by first | (with_reducible assumption) | assumption); have hx15 := bt_at a0 x5_1; replace p15 := eq_true p15; replace q15 := eq_true q15) | ((with_reducible refine gate_builtin (b := .append) (xs := #[.tmp 35, .tmp 39]) rfl ?_); at_builtin; refine Kd.R_append (Kd.int .u8) (w0 := w) w.heap.size rfl (.tmp 35) (.tmp 39) 23 5 (.int .u8 0) 1 rfl Tryd.underlying23 info5 rfl (by decide) (by omega) u4 x4_1 (bt a0 x5_1) [.int .u8 (bt a0 x5_1)] (fun _ => True) (fun _ => False) rfl rfl ?aP (fun _ hk => hk.elim) ?aF ?aO ?aB ?aS ?aL ?_; (case aP => exact rfl); (case aB => exact (Bu HB)); (case aF => exact (fun _ _ => trivial)); (case aO => exact (Ru HO_4)); (case aS => exact (Bz HB)); (case aL => have := LMc16.out; omega); intro v138 w17 ho hb hg hat; rw [← Ny137.out] at ho; have n0_ := Aside0.mk (hb); have n1_ := Aside0.mk (ho); clear HB HO_4; revert n0_ n1_; intro HB HO139; clear ho hb hg hat))
         go_roundg k1
         case measure => have := HK1.out; omega
         case rel => exact ⟨(y137), (wrap64 (x5_1 + 1)), (by first | rfl | (simp; done) | (simp [*]; done)), H', ⟨by have := HK1.out; omega⟩, ⟨Ru HO139⟩, ⟨Bu HB⟩⟩
        ·rw [if_neg c16] at H
         exact absurd H (by simp)
    ·rw [if_neg c3] at H
     exact absurd H (by simp)
   ·rw [if_neg c2] at H
    have c2b0 : decide (x5_1 < (a0.size : Int)) = false := decide_eq_false c2
    clear c2
    have H' := Aside0.mk H
    clear H
    go_wp2
    go_loopg [6, 7] k1 (fun kq v6 v7 w' => ∃ (x6_2 : List Int) (x7_2 : Int), v7 = .int .i64 x7_2 ∧ Aside0 (lanyardref02_Decode.l1 kq x4_1 x6_2 x7_2 = some (r1, r2)) ∧ Aside0 (kq ≤ k1) ∧ Aside0 (Kd.R (Kd.int .u8) 5 w' w.heap.size (fun _ => True) u4 x4_1) ∧ Aside0 (Kd.R (Kd.int .i64) 3 w' w.heap.size (fun _ => True) v6 x6_2) ∧ Aside0 (Below w.heap.size w w'))
    case atStart => exact ⟨(([] : List Int)), (0), (by first | rfl | (simp; done) | (simp [*]; done)), H', ⟨Nat.le_refl _⟩, ⟨Ru HO_4⟩, ⟨by first | exact Kd.R_nil _ _ _ _ _ | exact Kd.N_nil _ _ _ _ _ | exact Kd.V_nil _ _ _ _ _ | exact Kd.Q_nil _ _ _ _ _ | exact Kd.S_nil _ _ _ _ _⟩, ⟨Bu HB⟩⟩
    case round =>
     clear H'
     try clear c1
     try clear p1
     try clear q1
     try clear hx1
     try clear c2
     try clear c2b0
     try clear p2
     try clear c3
     try clear c3b0
     try clear p4
     try clear q4
     try clear hx4
     try clear c6
     try clear p6
     try clear p7
     try clear q7
     try clear hx7
     try clear c8
     try clear c8b0
     try clear c8b1
     try clear p9
     try clear q9
     try clear hx9
     try clear c10
     try clear p12
     try clear q12
     try clear hx12
     try clear c14
     try clear c14b0
     try clear p15
     try clear q15
     try clear hx15
     try clear c16
     try clear p12
     try clear p15
     try clear p4
     try clear p7
     try clear p9
     try clear q12
     try clear q15
     try clear q4
     try clear q7
     try clear q9
     obtain ⟨x6_2, x7_2, rfl, HA, HK2, HO_4, HO_6, HB⟩ := hrel
     cases gk with
     | zero => exact absurd HA.out (by simp [lanyardref02_Decode.l1])
     | succ k2 =>
      have H := HA.out
      clear HA
      simp only [lanyardref02_Decode.l1] at H
      have HC18 := Aside0.mk H
      clear H
      go_upto_region 11 with (fail)
      go_cut [51] (fun v51 wc => ∃ (kq : Nat) (x51_17 : Bool), v51 = .bool x51_17 ∧ Aside0 (lanyardref02_Decode.j2 kq x4_1 x6_2 x7_2 x51_17 = some (r1, r2)) ∧ Aside0 (kq ≤ k2) ∧ Aside0 (Kd.R (Kd.int .u8) 5 wc w.heap.size (fun _ => True) u4 x4_1) ∧ Aside0 (Kd.R (Kd.int .i64) 3 wc w.heap.size (fun _ => True) u6 x6_2) ∧ Aside0 (Below w.heap.size w wc))
      case first =>
       have H := HC18.out
       clear HC18
       by_cases c19 : x7_2 < (x4_1.length : Int)
       ·rw [if_pos c19] at H
        have c19b0 : decide (x7_2 < (x4_1.length : Int)) = true := decide_eq_true c19
        clear c19
        (first | rw [c19b0] | (simp only [i64_w, i32_w]; rw [c19b0]) | skip)
        by_cases c20 : 0 ≤ x7_2
        ·rw [if_pos c20] at H
         have c20b0 : decide (0 ≤ x7_2) = true := decide_eq_true c20
         clear c20
         have H' := Aside0.mk H
         clear H
         obtain ⟨Ao21, co21, eo21⟩ := Kd.R_slice HO_4.out
         subst eo21
         have p140 : 0 ≤ (x7_2 : Int) := of_decide_eq_true (by first | (with_reducible assumption) | assumption)
         have q140 : x7_2 < (x4_1.length : Int) := of_decide_eq_true (by first | (with_reducible assumption) | assumption)
         obtain ⟨ad140, e140, hx140_0⟩ := Kd.at_int (Kd.R_reads' HO_4.out).2.2 x7_2 p140 q140
         cases e140
         replace p140 := eq_true p140
         replace q140 := eq_true q140
         go_wp2
         go_meet
         case rel => exact ⟨_, (((rd x4_1 x7_2) != 61)), (by first | rfl | (simp; done) | (simp [*]; done)), H', ⟨by have := HK1.out; have := HK2.out; first | omega | exact Nat.le_refl _⟩, ⟨Ru HO_4⟩, ⟨Ru HO_6⟩, ⟨Bu HB⟩⟩
        ·rw [if_neg c20] at H
         exact absurd H (by simp)
       ·rw [if_neg c19] at H
        have c19b0 : decide (x7_2 < (x4_1.length : Int)) = false := decide_eq_false c19
        clear c19
        (first | rw [c19b0] | (simp only [i64_w, i32_w]; rw [c19b0]) | skip)
        have H' := Aside0.mk H
        clear H
        obtain ⟨Ao22, co22, eo22⟩ := Kd.R_slice HO_4.out
        subst eo22
        go_wp2
        go_meet
        case rel => exact ⟨_, (false), (by first | rfl | (simp; done) | (simp [*]; done)), H', ⟨by have := HK1.out; have := HK2.out; first | omega | exact Nat.le_refl _⟩, ⟨Ru HO_4⟩, ⟨Ru HO_6⟩, ⟨Bu HB⟩⟩
      case rest =>
       clear HC18
       try clear c1
       try clear p1
       try clear q1
       try clear hx1
       try clear c2
       try clear c2b0
       try clear p2
       try clear c3
       try clear c3b0
       try clear p4
       try clear q4
       try clear hx4
       try clear c6
       try clear p6
       try clear p7
       try clear q7
       try clear hx7
       try clear c8
       try clear c8b0
       try clear c8b1
       try clear p9
       try clear q9
       try clear hx9
       try clear c10
       try clear p12
       try clear q12
       try clear hx12
       try clear c14
       try clear c14b0
       try clear p14
       try clear q14
       try clear hx14
       try clear p15
       try clear q15
       try clear hx15
       try clear c16
       try clear c19
       try clear c19b0
       try clear c20
       try clear c20b0
       try clear hx140_0
       try clear p1
       try clear p12
       try clear p140
       try clear p15
       try clear p2
       try clear p4
       try clear p6
       try clear p7
       try clear p9
       try clear q1
       try clear q12
       try clear q140
       try clear q15
       try clear q4
       try clear q7
       try clear q9
       obtain ⟨kq, x51_17, rfl, HA, HJ17, HO_4, HO_6, HB⟩ := hcut
       cases kq with
       | zero => exact absurd HA.out (by simp [lanyardref02_Decode.j2])
       | succ kj17 =>
        have H := HA.out
        clear HA
        simp only [lanyardref02_Decode.j2] at H
        by_cases c23 : x51_17 = true
        ·subst c23
         have H1 : (if 0 ≤ x7_2 then (if x7_2 < (x4_1.length : Int) then ((lanyardref02_six.f kj17 (rd x4_1 x7_2)).bind fun t142 => (lanyardref02_Decode.l2 kj17 x4_1 x6_2 x7_2 t142 5)) else (none)) else (none)) = some (r1, r2) := by rw [if_pos rfl] at H; exact H
         clear H
         have H := H1
         clear H1
         by_cases c24 : 0 ≤ x7_2
         ·rw [if_pos c24] at H
          have c24b0 : decide (0 ≤ x7_2) = true := decide_eq_true c24
          clear c24
          by_cases c25 : x7_2 < (x4_1.length : Int)
          ·rw [if_pos c25] at H
           have c25b0 : decide (x7_2 < (x4_1.length : Int)) = true := decide_eq_true c25
           clear c25
           replace H := Option.bind_eq_some_iff.mp H
           obtain ⟨t142, A260, H⟩ := H
           replace H : (lanyardref02_Decode.l2 kj17 x4_1 x6_2 x7_2 t142 5) = some (r1, r2) := H
           have A26 := Aside0.mk A260
           clear A260
           have H' := Aside0.mk H
           clear H
           obtain ⟨Ao27, co27, eo27⟩ := Kd.R_slice HO_4.out
           subst eo27
           have p141 : 0 ≤ (x7_2 : Int) := of_decide_eq_true (by first | (with_reducible assumption) | assumption)
           have q141 : x7_2 < (x4_1.length : Int) := of_decide_eq_true (by first | (with_reducible assumption) | assumption)
           obtain ⟨ad141, e141, hx141_0⟩ := Kd.at_int (Kd.R_reads' HO_4.out).2.2 x7_2 p141 q141
           cases e141
           replace p141 := eq_true p141
           replace q141 := eq_true q141
           go_wp2_with (first | ((with_reducible refine gate_callee (f := 25) rfl ?_); refine goesA (some 58) Tryd.func25 #[.int .u8 (rd x4_1 x7_2)] rfl ?_; (with_reducible refine (lanyardref02_six.calls kj17 (rd x4_1 x7_2) t142 _ A26.out).mono ?_); rintro e w' ⟨rfl, ⟨nd, rfl⟩⟩; refine ⟨_, rfl, ?_⟩))
           go_loopg [6, 9] kj17 (fun kq v6 v9 w' => ∃ (x6_4 : List Int) (x9_4 : Int), v9 = .int .i64 x9_4 ∧ Aside0 (lanyardref02_Decode.l2 kq x4_1 x6_4 x7_2 t142 x9_4 = some (r1, r2)) ∧ Aside0 (kq ≤ kj17) ∧ Aside0 (Kd.R (Kd.int .u8) 5 w' w.heap.size (fun _ => True) (.slice (some ad141) x4_1.length co27) x4_1) ∧ Aside0 (Kd.R (Kd.int .i64) 3 w' w.heap.size (fun _ => True) v6 x6_4) ∧ Aside0 (Below w.heap.size w w'))
           case atStart => exact ⟨(x6_2), (5), (by first | rfl | (simp; done) | (simp [*]; done)), H', ⟨Nat.le_refl _⟩, ⟨Ru HO_4⟩, ⟨Ru HO_6⟩, ⟨Bu HB⟩⟩
           case round =>
            clear H'
            try clear c1
            try clear p1
            try clear q1
            try clear hx1
            try clear c2
            try clear c2b0
            try clear p2
            try clear c3
            try clear c3b0
            try clear p4
            try clear q4
            try clear hx4
            try clear c6
            try clear p6
            try clear p7
            try clear q7
            try clear hx7
            try clear c8
            try clear c8b0
            try clear c8b1
            try clear p9
            try clear q9
            try clear hx9
            try clear c10
            try clear p12
            try clear q12
            try clear hx12
            try clear c14
            try clear c14b0
            try clear p14
            try clear q14
            try clear hx14
            try clear p15
            try clear q15
            try clear hx15
            try clear c16
            try clear c19
            try clear c19b0
            try clear c20
            try clear c20b0
            try clear c23
            try clear c24
            try clear c24b0
            try clear c25
            try clear c25b0
            try clear hx140_0
            try clear hx141_0
            try clear p1
            try clear p12
            try clear p14
            try clear p140
            try clear p141
            try clear p15
            try clear p2
            try clear p4
            try clear p6
            try clear p7
            try clear p9
            try clear q1
            try clear q12
            try clear q14
            try clear q140
            try clear q141
            try clear q15
            try clear q4
            try clear q7
            try clear q9
            obtain ⟨x6_4, x9_4, rfl, HA, HK4, HO_4, HO_6, HB⟩ := hrel
            cases gk with
            | zero => exact absurd HA.out (by simp [lanyardref02_Decode.l2])
            | succ k4 =>
             have H := HA.out
             clear HA
             simp only [lanyardref02_Decode.l2] at H
             by_cases c28 : x9_4 ≥ 0
             ·rw [if_pos c28] at H
              have c28b0 : decide (0 ≤ x9_4) = true := decide_eq_true c28
              clear c28
              replace H := Option.bind_eq_some_iff.mp H
              obtain ⟨t143, A290, H⟩ := H
              replace H : (if t143 = 0 then (none) else (if x6_4.length < 17592186044416 then (lanyardref02_Decode.l2 k4 x4_1 (x6_4 ++ [Int.tmod (wrap64 (Int.tdiv t142 t143)) 2]) x7_2 t142 (wrap64 (x9_4 - 1))) else (none))) = some (r1, r2) := H
              have A29 := Aside0.mk A290
              clear A290
              by_cases c30 : t143 = 0
              ·rw [if_pos c30] at H
               exact absurd H (by simp)
              ·rw [if_neg c30] at H
               have c30b0 : (t143 == 0) = false := beq_eq_false_iff_ne.mpr c30
               have c30b1 : (t143 != 0) = true := bne_iff_ne.mpr c30
               by_cases c31 : x6_4.length < 17592186044416
               ·rw [if_pos c31] at H
                have LMc31 := Aside0.mk c31
                clear c31
                obtain ⟨y144, hy144⟩ : ∃ y_ : List Int, y_ = (x6_4 ++ [Int.tmod (wrap64 (Int.tdiv t142 t143)) 2]) := ⟨_, rfl⟩
                replace H : (lanyardref02_Decode.l2 k4 x4_1 y144 x7_2 t142 (wrap64 (x9_4 - 1))) = some (r1, r2) := by first | (rw [hy144]; with_reducible exact H) | (have H2_ := (Option.bind_some _ _).symm.trans H; rw [hy144]; with_reducible exact H2_) | (have H2_ := (Option.bind_some _ _).symm.trans H; with_reducible exact H2_) | with_reducible exact H | (rw [hy144]; exact H) | exact H
                have Ny144 := Aside0.mk hy144
                clear hy144
                have H' := Aside0.mk H
                clear H
                go_wp2_with (first | ((with_reducible refine gate_callee (f := 26) rfl ?_); refine goesA (some 66) Tryd.func26 #[.int .i64 x9_4] rfl ?_; (with_reducible refine (lanyardref02_pow.calls k4 x9_4 t143 _ A29.out).mono ?_); rintro e w' ⟨rfl, ⟨nd, rfl⟩⟩; refine ⟨_, rfl, ?_⟩) | ((with_reducible refine gate_builtin (b := .append) (xs := #[.tmp 63, .tmp 69]) rfl ?_); at_builtin; refine Kd.R_append (Kd.int .i64) (w0 := w) w.heap.size rfl (.tmp 63) (.tmp 69) 44 3 (.int .i64 0) 8 rfl Tryd.underlying44 info3 rfl (by decide) (by omega) u6 x6_4 (Int.tmod (wrap64 (Int.tdiv t142 t143)) 2) [.int .i64 (Int.tmod (wrap64 (Int.tdiv t142 t143)) 2)] (fun _ => True) (fun _ => False) rfl rfl ?aP (fun _ hk => hk.elim) ?aF ?aO ?aB ?aS ?aL ?_; (case aP => exact rfl); (case aB => exact (Bu HB)); (case aF => exact (fun _ _ => trivial)); (case aO => exact (Ru HO_6)); (case aS => exact (Bz HB)); (case aL => have := LMc31.out; omega); intro v145 w32 ho hb hg hat; rw [← Ny144.out] at ho; have n0_ := Aside0.mk (Kd.R_over' (Ru HO_4) (Kd.R_typed (Ru HO_6)) (by decide) hg); have n1_ := Aside0.mk (hb); have n2_ := Aside0.mk (ho); clear HO_4 HB HO_6; revert n0_ n1_ n2_; intro HO_4 HB HO146; clear ho hb hg hat))
                go_roundg k4
                case measure => have := HK1.out; have := HK2.out; have := HJ17.out; have := HK4.out; omega
                case rel => exact ⟨(y144), (wrap64 (x9_4 - 1)), (by first | rfl | (simp; done) | (simp [*]; done)), H', ⟨by have := HK1.out; have := HK2.out; have := HJ17.out; have := HK4.out; omega⟩, ⟨Ru HO_4⟩, ⟨Ru HO146⟩, ⟨Bu HB⟩⟩
               ·rw [if_neg c31] at H
                exact absurd H (by simp)
             ·rw [if_neg c28] at H
              have c28b0 : decide (0 ≤ x9_4) = false := decide_eq_false c28
              clear c28
              have H' := Aside0.mk H
              clear H
              go_wp2
              go_roundg k4
              case measure => have := HK1.out; have := HK2.out; have := HJ17.out; have := HK4.out; omega
              case rel => exact ⟨(x6_4), (wrap64 (x7_2 + 1)), (by first | rfl | (simp; done) | (simp [*]; done)), H', ⟨by have := HK1.out; have := HK2.out; have := HJ17.out; have := HK4.out; omega⟩, ⟨Ru HO_4⟩, ⟨Ru HO_6⟩, ⟨Bu HB⟩⟩
          ·rw [if_neg c25] at H
           exact absurd H (by simp)
         ·rw [if_neg c24] at H
          exact absurd H (by simp)
        ·replace c23 := Bool.eq_false_iff.mpr c23
         subst c23
         have H1 : (lanyardref02_Decode.l3 kj17 x4_1 x6_2 ([] : List Int) 0) = some (r1, r2) := by rw [if_neg (show ¬ (false = true) by decide)] at H; exact H
         clear H
         have H := H1
         clear H1
         have H' := Aside0.mk H
         clear H
         go_wp2
         go_loopg [10, 11] kj17 (fun kq v10 v11 w' => ∃ (x10_4 : List Int) (x11_4 : Int), v11 = .int .i64 x11_4 ∧ Aside0 (lanyardref02_Decode.l3 kq x4_1 x6_2 x10_4 x11_4 = some (r1, r2)) ∧ Aside0 (kq ≤ kj17) ∧ Aside0 (Kd.R (Kd.int .u8) 5 w' w.heap.size (fun k_ => some k_ ≠ (v10 : Value).ownBlock) u4 x4_1) ∧ Aside0 (Kd.R (Kd.int .i64) 3 w' w.heap.size (fun _ => True) u6 x6_2) ∧ Aside0 (Kd.R (Kd.int .u8) 5 w' w.heap.size (fun k_ => some k_ ≠ (u4 : Value).ownBlock) v10 x10_4) ∧ Aside0 (Below w.heap.size w w'))
         case atStart => exact ⟨(([] : List Int)), (0), (by first | rfl | (simp; done) | (simp [*]; done)), H', ⟨Nat.le_refl _⟩, ⟨by (with_reducible repeat (first | apply Kd.R_alloc | apply Kd.R_drewN | apply Kd.R_drew)); exact Kd.R_mono HO_4.out (fun _ hk => (by simp [Value.ownBlock]))⟩, ⟨Ru HO_6⟩, ⟨by first | exact Kd.R_nil _ _ _ _ _ | exact Kd.N_nil _ _ _ _ _ | exact Kd.V_nil _ _ _ _ _ | exact Kd.Q_nil _ _ _ _ _ | exact Kd.S_nil _ _ _ _ _⟩, ⟨Bu HB⟩⟩
         case round =>
          clear H'
          try clear c1
          try clear p1
          try clear q1
          try clear hx1
          try clear c2
          try clear c2b0
          try clear p2
          try clear c3
          try clear c3b0
          try clear p4
          try clear q4
          try clear hx4
          try clear c6
          try clear p6
          try clear p7
          try clear q7
          try clear hx7
          try clear c8
          try clear c8b0
          try clear c8b1
          try clear p9
          try clear q9
          try clear hx9
          try clear c10
          try clear p12
          try clear q12
          try clear hx12
          try clear c14
          try clear c14b0
          try clear p14
          try clear q14
          try clear hx14
          try clear p15
          try clear q15
          try clear hx15
          try clear c16
          try clear c19
          try clear c19b0
          try clear c20
          try clear c20b0
          try clear c23
          try clear c24
          try clear c24b0
          try clear c25
          try clear c25b0
          try clear c26
          try clear c28
          try clear c28b0
          try clear c30
          try clear c30b0
          try clear c30b1
          try clear c31
          try clear hx140_0
          try clear hx141_0
          try clear p1
          try clear p12
          try clear p14
          try clear p140
          try clear p141
          try clear p15
          try clear p2
          try clear p4
          try clear p6
          try clear p7
          try clear p9
          try clear q1
          try clear q12
          try clear q14
          try clear q140
          try clear q141
          try clear q15
          try clear q4
          try clear q7
          try clear q9
          obtain ⟨x10_4, x11_4, rfl, HA, HK4, HO_4, HO_6, HO_10, HB⟩ := hrel
          cases gk with
          | zero => exact absurd HA.out (by simp [lanyardref02_Decode.l3])
          | succ k4 =>
           have H := HA.out
           clear HA
           simp only [lanyardref02_Decode.l3] at H
           by_cases c33 : (wrap64 (x11_4 + 8)) ≤ (x6_2.length : Int)
           ·rw [if_pos c33] at H
            have c33b0 : decide ((wrap64 (x11_4 + 8)) ≤ (x6_2.length : Int)) = true := decide_eq_true c33
            clear c33
            have H' := Aside0.mk H
            clear H
            obtain ⟨Ao34, co34, eo34⟩ := Kd.R_slice HO_6.out
            subst eo34
            go_wp2
            go_loopg [12, 13] k4 (fun kq v12 v13 w' => ∃ (x12_5 : Int) (x13_5 : Int), v12 = .int .i64 x12_5 ∧ v13 = .int .i64 x13_5 ∧ Aside0 (lanyardref02_Decode.l4 kq x4_1 x6_2 x10_4 x11_4 x12_5 x13_5 = some (r1, r2)) ∧ Aside0 (kq ≤ k4) ∧ Aside0 (Kd.R (Kd.int .u8) 5 w' w.heap.size (fun k_ => some k_ ≠ (u10 : Value).ownBlock) u4 x4_1) ∧ Aside0 (Kd.R (Kd.int .i64) 3 w' w.heap.size (fun _ => True) (.slice Ao34 x6_2.length co34) x6_2) ∧ Aside0 (Kd.R (Kd.int .u8) 5 w' w.heap.size (fun k_ => some k_ ≠ (u4 : Value).ownBlock) u10 x10_4) ∧ Aside0 (Below w.heap.size w w'))
            case atStart => exact ⟨(0), (0), (by first | rfl | (simp; done) | (simp [*]; done)), (by first | rfl | (simp; done) | (simp [*]; done)), H', ⟨Nat.le_refl _⟩, ⟨Ru HO_4⟩, ⟨Ru HO_6⟩, ⟨Ru HO_10⟩, ⟨Bu HB⟩⟩
            case round =>
             clear H'
             try clear c1
             try clear p1
             try clear q1
             try clear hx1
             try clear c2
             try clear c2b0
             try clear p2
             try clear c3
             try clear c3b0
             try clear p4
             try clear q4
             try clear hx4
             try clear c6
             try clear p6
             try clear p7
             try clear q7
             try clear hx7
             try clear c8
             try clear c8b0
             try clear c8b1
             try clear p9
             try clear q9
             try clear hx9
             try clear c10
             try clear p12
             try clear q12
             try clear hx12
             try clear c14
             try clear c14b0
             try clear p14
             try clear q14
             try clear hx14
             try clear p15
             try clear q15
             try clear hx15
             try clear c16
             try clear c19
             try clear c19b0
             try clear c20
             try clear c20b0
             try clear c23
             try clear c24
             try clear c24b0
             try clear c25
             try clear c25b0
             try clear c26
             try clear c28
             try clear c28b0
             try clear c30
             try clear c30b0
             try clear c30b1
             try clear c31
             try clear c33
             try clear c33b0
             try clear hx140_0
             try clear hx141_0
             try clear p1
             try clear p12
             try clear p14
             try clear p140
             try clear p141
             try clear p15
             try clear p2
             try clear p4
             try clear p6
             try clear p7
             try clear p9
             try clear q1
             try clear q12
             try clear q14
             try clear q140
             try clear q141
             try clear q15
             try clear q4
             try clear q7
             try clear q9
             obtain ⟨x12_5, x13_5, rfl, rfl, HA, HK5, HO_4, HO_6, HO_10, HB⟩ := hrel
             cases gk with
             | zero => exact absurd HA.out (by simp [lanyardref02_Decode.l4])
             | succ k5 =>
              have H := HA.out
              clear HA
              simp only [lanyardref02_Decode.l4] at H
              by_cases c35 : x13_5 < 8
              ·rw [if_pos c35] at H
               have c35b0 : decide (x13_5 < 8) = true := decide_eq_true c35
               clear c35
               obtain ⟨ji36, hji36⟩ : ∃ j_ : Int, (wrap64 (x11_4 + x13_5)) = j_ := ⟨_, rfl⟩
               replace H : (if 0 ≤ (ji36) then (if (ji36) < (x6_2.length : Int) then (lanyardref02_Decode.l4 k5 x4_1 x6_2 x10_4 x11_4 (wrap64 ((wrap64 (x12_5 * 2)) + (rd x6_2 (ji36)))) (wrap64 (x13_5 + 1))) else (none)) else (none)) = some (r1, r2) := by first | (rw [hji36] at H; exact H) | (simp only [hji36] at H ⊢; exact H)
               have hji36w : (IntKind.i64.wrap (x11_4 + x13_5)) = ji36 := (i64_w _).trans hji36
               by_cases c37 : 0 ≤ (ji36)
               ·rw [if_pos c37] at H
                have c37b0 : decide (0 ≤ (ji36)) = true := decide_eq_true c37
                clear c37
                by_cases c38 : (ji36) < (x6_2.length : Int)
                ·rw [if_pos c38] at H
                 have c38b0 : decide ((ji36) < (x6_2.length : Int)) = true := decide_eq_true c38
                 clear c38
                 have H' := Aside0.mk H
                 clear H
                 have p148 : 0 ≤ ((ji36) : Int) := of_decide_eq_true (by first | (with_reducible assumption) | assumption)
                 have q148 : (ji36) < (x6_2.length : Int) := of_decide_eq_true (by first | (with_reducible assumption) | assumption)
                 obtain ⟨ad148, e148, hx148_0⟩ := Kd.at_int (Kd.R_reads' HO_6.out).2.2 (ji36) p148 q148
                 cases e148
                 replace p148 := eq_true p148
                 replace q148 := eq_true q148
                 go_wp2
                 go_roundg k5
                 case measure => have := HK1.out; have := HK2.out; have := HJ17.out; have := HK4.out; have := HK5.out; omega
                 case rel => exact ⟨(wrap64 ((wrap64 (x12_5 * 2)) + (rd x6_2 (ji36)))), (wrap64 (x13_5 + 1)), (by first | rfl | (simp; done) | (simp only [← hji36] <;> (first | rfl | simp)) | (simp [*]; done)), (by first | rfl | (simp; done) | (simp [*]; done)), H', ⟨by have := HK1.out; have := HK2.out; have := HJ17.out; have := HK4.out; have := HK5.out; omega⟩, ⟨Ru HO_4⟩, ⟨Ru HO_6⟩, ⟨Ru HO_10⟩, ⟨Bu HB⟩⟩
                ·rw [if_neg c38] at H
                 exact absurd H (by simp)
               ·rw [if_neg c37] at H
                exact absurd H (by simp)
              ·rw [if_neg c35] at H
               have c35b0 : decide (x13_5 < 8) = false := decide_eq_false c35
               clear c35
               by_cases c39 : x10_4.length < 140737488355328
               ·rw [if_pos c39] at H
                have LMc39 := Aside0.mk c39
                clear c39
                obtain ⟨y149, hy149⟩ : ∃ y_ : List Int, y_ = (x10_4 ++ [(x12_5) % 256]) := ⟨_, rfl⟩
                replace H : (lanyardref02_Decode.l3 k5 x4_1 x6_2 y149 (wrap64 (x11_4 + 8))) = some (r1, r2) := by first | (rw [hy149]; with_reducible exact H) | (have H2_ := (Option.bind_some _ _).symm.trans H; rw [hy149]; with_reducible exact H2_) | (have H2_ := (Option.bind_some _ _).symm.trans H; with_reducible exact H2_) | with_reducible exact H | (rw [hy149]; exact H) | exact H
                have Ny149 := Aside0.mk hy149
                clear hy149
                have H' := Aside0.mk H
                clear H
                go_wp2_with (first | ((with_reducible refine gate_builtin (b := .append) (xs := #[.tmp 91, .tmp 94]) rfl ?_); at_builtin; refine Kd.R_append (Kd.int .u8) (w0 := w) w.heap.size rfl (.tmp 91) (.tmp 94) 23 5 (.int .u8 0) 1 rfl Tryd.underlying23 info5 rfl (by decide) (by omega) u10 x10_4 ((x12_5) % 256) [.int .u8 ((x12_5) % 256)] (fun k_ => some k_ ≠ (u4 : Value).ownBlock) (fun _ => False) rfl rfl ?aP (fun _ hk => hk.elim) ?aF ?aO ?aB ?aS ?aL ?_; (case aP => exact rfl); (case aB => exact (Bu HB)); (case aF => exact (fun k_ hk => Kd.fresh' (Kd.R_lt (Ru HO_4)) k_ hk)); (case aO => exact (Ru HO_10)); (case aS => exact (Bz HB)); (case aL => have := LMc39.out; omega); intro v150 w40 ho hb hg hat; rw [← Ny149.out] at ho; have n0_ := Aside0.mk (Kd.R_after (ok := (fun _ => True)) (by (with_reducible repeat (first | apply Kd.R_alloc | apply Kd.R_drewN | apply Kd.R_drew)); exact Kd.R_mono HO_4.out (fun _ hk => ⟨trivial, hk⟩)) hg hat); have n1_ := Aside0.mk (Kd.R_over' (Ru HO_6) (Kd.R_typed (Ru HO_10)) (by decide) hg); have n2_ := Aside0.mk (hb); have n3_ := Aside0.mk (ho); clear HO_4 HO_6 HB HO_10; revert n0_ n1_ n2_ n3_; intro HO_4 HO_6 HB HO151; clear ho hb hg hat))
                go_roundg k5
                case measure => have := HK1.out; have := HK2.out; have := HJ17.out; have := HK4.out; have := HK5.out; omega
                case rel => exact ⟨(y149), (wrap64 (x11_4 + 8)), (by first | rfl | (simp; done) | (simp [*]; done)), H', ⟨by have := HK1.out; have := HK2.out; have := HJ17.out; have := HK4.out; have := HK5.out; omega⟩, ⟨by (with_reducible repeat (first | apply Kd.R_alloc | apply Kd.R_drewN | apply Kd.R_drew)); exact Kd.R_mono HO_4.out (fun _ hk => hk.2)⟩, ⟨Ru HO_6⟩, ⟨Ru HO151⟩, ⟨Bu HB⟩⟩
               ·rw [if_neg c39] at H
                exact absurd H (by simp)
           ·rw [if_neg c33] at H
            have c33b0 : decide ((wrap64 (x11_4 + 8)) ≤ (x6_2.length : Int)) = false := decide_eq_false c33
            clear c33
            replace H := Option.bind_eq_some_iff.mp H
            obtain ⟨t147, A410, H⟩ := H
            replace H : (if t147.toList = (strOfNums x4_1).toList then (some (x10_4, 0)) else (some (([] : List Int), 10))) = some (r1, r2) := H
            have A41 := Aside0.mk A410
            clear A410
            by_cases c42 : t147.toList = (strOfNums x4_1).toList
            ·rw [if_pos c42] at H
             have c42b0 : (t147.toList == (strOfNums x4_1).toList) = true := beq_iff_eq.mpr c42
             have c42b1 : (t147.toList != (strOfNums x4_1).toList) = false := bne_eq_false_iff_eq.mpr c42
             clear c42
             simp only [Option.some.injEq, Prod.mk.injEq] at H
             obtain ⟨rfl, rfl⟩ := H
             obtain ⟨Ao43, co43, eo43⟩ := Kd.R_slice HO_6.out
             subst eo43
             obtain ⟨Ao44, co44, eo44⟩ := Kd.R_slice HO_10.out
             subst eo44
             try go_wp2
             have n0_ := Aside0.mk (Kd.R_drew HO_4.out)
             have n1_ := Aside0.mk (Kd.R_drew HO_6.out)
             have n2_ := Aside0.mk (Kd.R_drew HO_10.out)
             have n3_ := Aside0.mk (below_drew1 HB.out)
             clear HO_4
             clear HO_6
             clear HO_10
             clear HB
             have HO_4 := n0_
             have HO_6 := n1_
             have HO_10 := n2_
             have HB := n3_
             clear n0_ n1_ n2_ n3_
             refine start_ (n := 5) (S := fun w' => (convert 23 9 u4).run Tryd.prog w' = .ok (.string (strOfNums x4_1)) w') (ds := []) #[false, false, false, false, false] (by kernel_rfl) rfl rfl (own_string (P := Tryd.prog) Tryd.underlying23 Tryd.underlying5 Tryd.underlying9 (Kd.own_of_R HO_4.out)) (fun hHeld => ?_)
             generalize wr.drew = w45 at HO_4 HO_6 HO_10 HB hHeld ⊢
             refine pure_ (i := 0) (N := some 96) (v := ?_) (a' := ?_) #[true, false, false, false, false] rfl rfl (by kernel_rfl) (fun _ _ _ h => h) (Or.inl ⟨by rfl, ?_⟩) ?_ ?_
             rotate_left
             ·intro w'
              go_simp
              with_reducible rfl
             rotate_left
             ·simp only [Act.put, List.setIfInBounds_toArray, List.set_cons_zero, List.set_cons_succ, i64_w, i32_w]
              rfl
             refine pure_ (i := 2) (N := some 98) (v := ?_) (a' := ?_) #[true, false, true, false, false] rfl rfl (by kernel_rfl) (fun _ _ _ h => h) (Or.inl ⟨by rfl, ?_⟩) ?_ ?_
             rotate_left
             ·intro w'
              go_simp
              with_reducible rfl
             rotate_left
             ·simp only [Act.put, List.setIfInBounds_toArray, List.set_cons_zero, List.set_cons_succ, i64_w, i32_w]
              rfl
             refine take_ (i := 3) (N := some 99) (v := ?_) (a' := ?_) #[true, false, true, true, false] rfl rfl (by kernel_rfl) (fun _ _ _ h => h) (Or.inl ⟨by rfl, ?_⟩) hHeld ?_ ?_
             rotate_left
             ·intro w' s0
              go_simp
              with_reducible rfl
             rotate_left
             ·simp only [Act.put, List.setIfInBounds_toArray, List.set_cons_zero, List.set_cons_succ, i64_w, i32_w]
              rfl
             refine one_ (i := 1) (N := some 97) #[true, true, true, true, false] rfl rfl (by kernel_rfl) (by decide) (fun K hK => ?_)
             refine goes_ Tryd.func17 (by kernel_rfl) rfl #[.slice Ao44 x10_4.length co44] (by rfl) rfl rfl (by (try simp only [List.map_toArray, List.map_cons, List.map_nil]); first | done | rfl | (simp only [List.length_drop, List.length_take]; rfl)) ?_
             with_reducible refine (lanyardref02_Encode.calls k4 _ _ x10_4 t147 _ ?side1 ?side2 A41.out).mono ?_
             (case side1 => exact Cu (Kd.R_reads' HO_10.out).2.2)
             (case side2 => exact (Kd.R_reads' HO_10.out).2.1)
             rintro e w46 ⟨rfl, hb⟩
             refine ⟨_, rfl, ?_⟩
             have n0_ := Rb HO_4 hb
             have n1_ := Rb HO_6 hb
             have n2_ := Rb HO_10 hb
             have n3_ := Bs HB hb
             clear HO_4
             clear HO_6
             clear HO_10
             clear HB
             have HO_4 := n0_
             have HO_6 := n1_
             have HO_10 := n2_
             have HB := n3_
             clear n0_ n1_ n2_ n3_
             (try clear hb)
             (try clear hb2)
             (try clear hk)
             (try clear hi)
             refine hK.out _ _ (own_string (P := Tryd.prog) Tryd.underlying23 Tryd.underlying5 Tryd.underlying9 (Kd.own_of_R HO_4.out)) (fun hHeld => ?_)
             clear hK K
             refine norm_ (a' := ?_) ?_ ?_
             rotate_left
             ·show Act.put _ (some 97) _ = _
              simp only [Act.put, List.setIfInBounds_toArray, List.set_cons_zero, List.set_cons_succ, i64_w, i32_w]
              rfl
             refine pure_ (i := 4) (N := some 100) (v := ?_) (a' := ?_) #[true, true, true, true, true] rfl rfl (by kernel_rfl) (fun _ _ _ h => h) (Or.inl ⟨by rfl, ?_⟩) ?_ ?_
             rotate_left
             ·intro w'
              go_simp
              with_reducible rfl
             rotate_left
             ·simp only [Act.put, List.setIfInBounds_toArray, List.set_cons_zero, List.set_cons_succ, i64_w, i32_w]
              rfl
             refine done_ (by kernel_rfl) ?_
             try go_wp2
             go_ret2
             exact ⟨_, rfl_, by (with_reducible repeat (first | apply Kd.R_alloc | apply Kd.R_drewN | apply Kd.R_drew)); exact Kd.R_mono HO_10.out (fun _ hk => trivial), Bu HB⟩
            ·rw [if_neg c42] at H
             have c42b0 : (t147.toList == (strOfNums x4_1).toList) = false := beq_eq_false_iff_ne.mpr c42
             have c42b1 : (t147.toList != (strOfNums x4_1).toList) = true := bne_iff_ne.mpr c42
             simp only [Option.some.injEq, Prod.mk.injEq] at H
             obtain ⟨rfl, rfl⟩ := H
             obtain ⟨Ao48, co48, eo48⟩ := Kd.R_slice HO_6.out
             subst eo48
             obtain ⟨Ao49, co49, eo49⟩ := Kd.R_slice HO_10.out
             subst eo49
             try go_wp2
             have n0_ := Aside0.mk (Kd.R_drew HO_4.out)
             have n1_ := Aside0.mk (Kd.R_drew HO_6.out)
             have n2_ := Aside0.mk (Kd.R_drew HO_10.out)
             have n3_ := Aside0.mk (below_drew1 HB.out)
             clear HO_4
             clear HO_6
             clear HO_10
             clear HB
             have HO_4 := n0_
             have HO_6 := n1_
             have HO_10 := n2_
             have HB := n3_
             clear n0_ n1_ n2_ n3_
             refine start_ (n := 5) (S := fun w' => (convert 23 9 u4).run Tryd.prog w' = .ok (.string (strOfNums x4_1)) w') (ds := []) #[false, false, false, false, false] (by kernel_rfl) rfl rfl (own_string (P := Tryd.prog) Tryd.underlying23 Tryd.underlying5 Tryd.underlying9 (Kd.own_of_R HO_4.out)) (fun hHeld => ?_)
             generalize wr.drew = w50 at HO_4 HO_6 HO_10 HB hHeld ⊢
             refine pure_ (i := 0) (N := some 96) (v := ?_) (a' := ?_) #[true, false, false, false, false] rfl rfl (by kernel_rfl) (fun _ _ _ h => h) (Or.inl ⟨by rfl, ?_⟩) ?_ ?_
             rotate_left
             ·intro w'
              go_simp
              with_reducible rfl
             rotate_left
             ·simp only [Act.put, List.setIfInBounds_toArray, List.set_cons_zero, List.set_cons_succ, i64_w, i32_w]
              rfl
             refine pure_ (i := 2) (N := some 98) (v := ?_) (a' := ?_) #[true, false, true, false, false] rfl rfl (by kernel_rfl) (fun _ _ _ h => h) (Or.inl ⟨by rfl, ?_⟩) ?_ ?_
             rotate_left
             ·intro w'
              go_simp
              with_reducible rfl
             rotate_left
             ·simp only [Act.put, List.setIfInBounds_toArray, List.set_cons_zero, List.set_cons_succ, i64_w, i32_w]
              rfl
             refine take_ (i := 3) (N := some 99) (v := ?_) (a' := ?_) #[true, false, true, true, false] rfl rfl (by kernel_rfl) (fun _ _ _ h => h) (Or.inl ⟨by rfl, ?_⟩) hHeld ?_ ?_
             rotate_left
             ·intro w' s0
              go_simp
              with_reducible rfl
             rotate_left
             ·simp only [Act.put, List.setIfInBounds_toArray, List.set_cons_zero, List.set_cons_succ, i64_w, i32_w]
              rfl
             refine one_ (i := 1) (N := some 97) #[true, true, true, true, false] rfl rfl (by kernel_rfl) (by decide) (fun K hK => ?_)
             refine goes_ Tryd.func17 (by kernel_rfl) rfl #[.slice Ao49 x10_4.length co49] (by rfl) rfl rfl (by (try simp only [List.map_toArray, List.map_cons, List.map_nil]); first | done | rfl | (simp only [List.length_drop, List.length_take]; rfl)) ?_
             with_reducible refine (lanyardref02_Encode.calls k4 _ _ x10_4 t147 _ ?side1 ?side2 A41.out).mono ?_
             (case side1 => exact Cu (Kd.R_reads' HO_10.out).2.2)
             (case side2 => exact (Kd.R_reads' HO_10.out).2.1)
             rintro e w51 ⟨rfl, hb⟩
             refine ⟨_, rfl, ?_⟩
             have n0_ := Rb HO_4 hb
             have n1_ := Rb HO_6 hb
             have n2_ := Rb HO_10 hb
             have n3_ := Bs HB hb
             clear HO_4
             clear HO_6
             clear HO_10
             clear HB
             have HO_4 := n0_
             have HO_6 := n1_
             have HO_10 := n2_
             have HB := n3_
             clear n0_ n1_ n2_ n3_
             (try clear hb)
             (try clear hb2)
             (try clear hk)
             (try clear hi)
             refine hK.out _ _ (own_string (P := Tryd.prog) Tryd.underlying23 Tryd.underlying5 Tryd.underlying9 (Kd.own_of_R HO_4.out)) (fun hHeld => ?_)
             clear hK K
             refine norm_ (a' := ?_) ?_ ?_
             rotate_left
             ·show Act.put _ (some 97) _ = _
              simp only [Act.put, List.setIfInBounds_toArray, List.set_cons_zero, List.set_cons_succ, i64_w, i32_w]
              rfl
             refine pure_ (i := 4) (N := some 100) (v := ?_) (a' := ?_) #[true, true, true, true, true] rfl rfl (by kernel_rfl) (fun _ _ _ h => h) (Or.inl ⟨by rfl, ?_⟩) ?_ ?_
             rotate_left
             ·intro w'
              go_simp
              with_reducible rfl
             rotate_left
             ·simp only [Act.put, List.setIfInBounds_toArray, List.set_cons_zero, List.set_cons_succ, i64_w, i32_w]
              rfl
             refine done_ (by kernel_rfl) ?_
             try go_wp2
             go_ret2
             exact ⟨_, rfl_, by first | exact Kd.R_nil _ _ _ _ _ | exact Kd.N_nil _ _ _ _ _ | exact Kd.V_nil _ _ _ _ _ | exact Kd.Q_nil _ _ _ _ _ | exact Kd.S_nil _ _ _ _ _, Bu HB⟩

end Go.Proofs.YtfphmpnkfjeceaaDoor.Hp
