/- Go functions of this seat as Lean functions, and their contracts: what the Go code computes, for every input. (By hp.py, a program of this repo, over the kit's print.py.) -/
import Derived.Test.YtjmcdocoogdbiaaDoorHp0
namespace Go.Proofs.YtjmcdocoogdbiaaDoor.Hp
open Go.RowKit Go.Proofs.YtjmcdocoogdbiaaDoorW.PrintWords Go.Proofs.YtjmcdocoogdbiaaDoorW.PrintLast Go.Proofs.YtjmcdocoogdbiaaDoorW.PrintMore
attribute [local go_sem] max2_int min2_int max_two min_two max_three min_three max_four min_four   -- for this text's walks alone
set_option linter.unusedVariables false
set_option linter.unusedSimpArgs false

/-! ### lanyardref03_Turned: function 23 -/
mutual
def lanyardref03_Turned.l0 : Nat → ByteArray → Int → ByteArray → Int → Option (ByteArray)
 | 0, _, _, _, _ => none
 | k + 1, x0, x1, x5, x6 => if x6 < (x0.size : Int) then (if 0 ≤ x6 then ((some (([bt x0 x6] : List Int) : List Int)).bind fun y211 => (if (bt x0 x6) = 38 then (if x5.size + 5 ≤ 9223372036854775807 then (lanyardref03_Turned.l0 k x0 x1 (x5 ++ (⟨#[38, 97, 109, 112, 59]⟩ : ByteArray)) (wrap64 (x6 + 1))) else (none)) else (if (bt x0 x6) = 60 then (if x5.size + 4 ≤ 9223372036854775807 then (lanyardref03_Turned.l0 k x0 x1 (x5 ++ (⟨#[38, 108, 116, 59]⟩ : ByteArray)) (wrap64 (x6 + 1))) else (none)) else (if (bt x0 x6) = 62 then (lanyardref03_Turned.j1 k x0 x1 x5 x6 (bt x0 x6) (strOfNums y211) (decide (x1 > 1))) else (lanyardref03_Turned.j1 k x0 x1 x5 x6 (bt x0 x6) (strOfNums y211) false))))) else (none)) else (some x5)
def lanyardref03_Turned.j1 : Nat → ByteArray → Int → ByteArray → Int → Int → ByteArray → Bool → Option (ByteArray)
 | 0, _, _, _, _, _, _, _ => none
 | k + 1, x0, x1, x5, x6, x7, x8, x30 => if x30 = true then (if x5.size + 4 ≤ 9223372036854775807 then (lanyardref03_Turned.l0 k x0 x1 (x5 ++ (⟨#[38, 103, 116, 59]⟩ : ByteArray)) (wrap64 (x6 + 1))) else (none)) else (if x7 = 34 then (lanyardref03_Turned.j2 k x0 x1 x5 x6 x7 x8 (x1 != 2)) else (lanyardref03_Turned.j2 k x0 x1 x5 x6 x7 x8 false))
def lanyardref03_Turned.j2 : Nat → ByteArray → Int → ByteArray → Int → Int → ByteArray → Bool → Option (ByteArray)
 | 0, _, _, _, _, _, _, _ => none
 | k + 1, x0, x1, x5, x6, x7, x8, x36 => if x36 = true then (if x5.size + 6 ≤ 9223372036854775807 then (lanyardref03_Turned.l0 k x0 x1 (x5 ++ (⟨#[38, 113, 117, 111, 116, 59]⟩ : ByteArray)) (wrap64 (x6 + 1))) else (none)) else (if x7 = 39 then (lanyardref03_Turned.j3 k x0 x1 x5 x6 x7 x8 (x1 == 3)) else (lanyardref03_Turned.j3 k x0 x1 x5 x6 x7 x8 false))
def lanyardref03_Turned.j3 : Nat → ByteArray → Int → ByteArray → Int → Int → ByteArray → Bool → Option (ByteArray)
 | 0, _, _, _, _, _, _, _ => none
 | k + 1, x0, x1, x5, x6, x7, x8, x42 => if x42 = true then (if x5.size + 5 ≤ 9223372036854775807 then (lanyardref03_Turned.l0 k x0 x1 (x5 ++ (⟨#[38, 35, 51, 57, 59]⟩ : ByteArray)) (wrap64 (x6 + 1))) else (none)) else (if x7 = 13 then (lanyardref03_Turned.j4 k x0 x1 x5 x6 x7 x8 (decide (x1 < 3))) else (lanyardref03_Turned.j4 k x0 x1 x5 x6 x7 x8 false))
def lanyardref03_Turned.j4 : Nat → ByteArray → Int → ByteArray → Int → Int → ByteArray → Bool → Option (ByteArray)
 | 0, _, _, _, _, _, _, _ => none
 | k + 1, x0, x1, x5, x6, x7, x8, x48 => if x48 = true then (if x5.size + 5 ≤ 9223372036854775807 then (lanyardref03_Turned.l0 k x0 x1 (x5 ++ (⟨#[38, 35, 120, 68, 59]⟩ : ByteArray)) (wrap64 (x6 + 1))) else (none)) else (if x7 = 9 then (lanyardref03_Turned.j5 k x0 x1 x5 x6 x7 x8 (x1 == 1)) else (lanyardref03_Turned.j5 k x0 x1 x5 x6 x7 x8 false))
def lanyardref03_Turned.j5 : Nat → ByteArray → Int → ByteArray → Int → Int → ByteArray → Bool → Option (ByteArray)
 | 0, _, _, _, _, _, _, _ => none
 | k + 1, x0, x1, x5, x6, x7, x8, x54 => if x54 = true then (if x5.size + 5 ≤ 9223372036854775807 then (lanyardref03_Turned.l0 k x0 x1 (x5 ++ (⟨#[38, 35, 120, 57, 59]⟩ : ByteArray)) (wrap64 (x6 + 1))) else (none)) else (if x7 = 10 then (if x1 = 1 then (if x5.size + 5 ≤ 9223372036854775807 then (lanyardref03_Turned.l0 k x0 x1 (x5 ++ (⟨#[38, 35, 120, 65, 59]⟩ : ByteArray)) (wrap64 (x6 + 1))) else (none)) else (if x5.size + x8.size ≤ 9223372036854775807 then (lanyardref03_Turned.l0 k x0 x1 (x5 ++ x8) (wrap64 (x6 + 1))) else (none))) else (if x5.size + x8.size ≤ 9223372036854775807 then (lanyardref03_Turned.l0 k x0 x1 (x5 ++ x8) (wrap64 (x6 + 1))) else (none)))
end
def lanyardref03_Turned.f (k : Nat) (a0 : ByteArray) (a1 : Int) : Option (ByteArray) := lanyardref03_Turned.l0 k a0 a1 (⟨#[]⟩ : ByteArray) 0
theorem lanyardref03_Turned.mono_l : ∀ k, (∀ y0 y1 y2 y3, LeO (lanyardref03_Turned.l0 k y0 y1 y2 y3) (lanyardref03_Turned.l0 (k + 1) y0 y1 y2 y3)) ∧ (∀ y0 y1 y2 y3 y4 y5 y6, LeO (lanyardref03_Turned.j1 k y0 y1 y2 y3 y4 y5 y6) (lanyardref03_Turned.j1 (k + 1) y0 y1 y2 y3 y4 y5 y6)) ∧ (∀ y0 y1 y2 y3 y4 y5 y6, LeO (lanyardref03_Turned.j2 k y0 y1 y2 y3 y4 y5 y6) (lanyardref03_Turned.j2 (k + 1) y0 y1 y2 y3 y4 y5 y6)) ∧ (∀ y0 y1 y2 y3 y4 y5 y6, LeO (lanyardref03_Turned.j3 k y0 y1 y2 y3 y4 y5 y6) (lanyardref03_Turned.j3 (k + 1) y0 y1 y2 y3 y4 y5 y6)) ∧ (∀ y0 y1 y2 y3 y4 y5 y6, LeO (lanyardref03_Turned.j4 k y0 y1 y2 y3 y4 y5 y6) (lanyardref03_Turned.j4 (k + 1) y0 y1 y2 y3 y4 y5 y6)) ∧ (∀ y0 y1 y2 y3 y4 y5 y6, LeO (lanyardref03_Turned.j5 k y0 y1 y2 y3 y4 y5 y6) (lanyardref03_Turned.j5 (k + 1) y0 y1 y2 y3 y4 y5 y6))
 | 0 => ⟨fun _ _ _ _ r h => by simp [lanyardref03_Turned.l0] at h, fun _ _ _ _ _ _ _ r h => by simp [lanyardref03_Turned.j1] at h, fun _ _ _ _ _ _ _ r h => by simp [lanyardref03_Turned.j2] at h, fun _ _ _ _ _ _ _ r h => by simp [lanyardref03_Turned.j3] at h, fun _ _ _ _ _ _ _ r h => by simp [lanyardref03_Turned.j4] at h, fun _ _ _ _ _ _ _ r h => by simp [lanyardref03_Turned.j5] at h⟩
 | k + 1 => by
  obtain ⟨ih0, ih1, ih2, ih3, ih4, ih5⟩ := lanyardref03_Turned.mono_l k
  refine ⟨?_, ?_, ?_, ?_, ?_, ?_⟩
  ·intro y0 y1 y2 y3
   unfold lanyardref03_Turned.l0
   repeat' first
   | (with_reducible exact ih0 _ _ _ _)
   | (with_reducible exact ih1 _ _ _ _ _ _ _)
   | (with_reducible exact ih2 _ _ _ _ _ _ _)
   | (with_reducible exact ih3 _ _ _ _ _ _ _)
   | (with_reducible exact ih4 _ _ _ _ _ _ _)
   | (with_reducible exact ih5 _ _ _ _ _ _ _)
   | (with_reducible exact LeO.refl _)
   | (with_reducible exact LeO.none _)
   | (with_reducible refine LeO.ite ?_ ?_)
   | (with_reducible refine LeO.bind ?_ (fun _ => ?_))
   | exact ih0 _ _ _ _
   | exact ih1 _ _ _ _ _ _ _
   | exact ih2 _ _ _ _ _ _ _
   | exact ih3 _ _ _ _ _ _ _
   | exact ih4 _ _ _ _ _ _ _
   | exact ih5 _ _ _ _ _ _ _
   | exact LeO.none _
   | refine LeO.ite ?_ ?_
   | refine LeO.bind ?_ (fun _ => ?_)
  ·intro y0 y1 y2 y3 y4 y5 y6
   unfold lanyardref03_Turned.j1
   repeat' first
   | (with_reducible exact ih0 _ _ _ _)
   | (with_reducible exact ih1 _ _ _ _ _ _ _)
   | (with_reducible exact ih2 _ _ _ _ _ _ _)
   | (with_reducible exact ih3 _ _ _ _ _ _ _)
   | (with_reducible exact ih4 _ _ _ _ _ _ _)
   | (with_reducible exact ih5 _ _ _ _ _ _ _)
   | (with_reducible exact LeO.refl _)
   | (with_reducible exact LeO.none _)
   | (with_reducible refine LeO.ite ?_ ?_)
   | (with_reducible refine LeO.bind ?_ (fun _ => ?_))
   | exact ih0 _ _ _ _
   | exact ih1 _ _ _ _ _ _ _
   | exact ih2 _ _ _ _ _ _ _
   | exact ih3 _ _ _ _ _ _ _
   | exact ih4 _ _ _ _ _ _ _
   | exact ih5 _ _ _ _ _ _ _
   | exact LeO.none _
   | refine LeO.ite ?_ ?_
   | refine LeO.bind ?_ (fun _ => ?_)
  ·intro y0 y1 y2 y3 y4 y5 y6
   unfold lanyardref03_Turned.j2
   repeat' first
   | (with_reducible exact ih0 _ _ _ _)
   | (with_reducible exact ih1 _ _ _ _ _ _ _)
   | (with_reducible exact ih2 _ _ _ _ _ _ _)
   | (with_reducible exact ih3 _ _ _ _ _ _ _)
   | (with_reducible exact ih4 _ _ _ _ _ _ _)
   | (with_reducible exact ih5 _ _ _ _ _ _ _)
   | (with_reducible exact LeO.refl _)
   | (with_reducible exact LeO.none _)
   | (with_reducible refine LeO.ite ?_ ?_)
   | (with_reducible refine LeO.bind ?_ (fun _ => ?_))
   | exact ih0 _ _ _ _
   | exact ih1 _ _ _ _ _ _ _
   | exact ih2 _ _ _ _ _ _ _
   | exact ih3 _ _ _ _ _ _ _
   | exact ih4 _ _ _ _ _ _ _
   | exact ih5 _ _ _ _ _ _ _
   | exact LeO.none _
   | refine LeO.ite ?_ ?_
   | refine LeO.bind ?_ (fun _ => ?_)
  ·intro y0 y1 y2 y3 y4 y5 y6
   unfold lanyardref03_Turned.j3
   repeat' first
   | (with_reducible exact ih0 _ _ _ _)
   | (with_reducible exact ih1 _ _ _ _ _ _ _)
   | (with_reducible exact ih2 _ _ _ _ _ _ _)
   | (with_reducible exact ih3 _ _ _ _ _ _ _)
   | (with_reducible exact ih4 _ _ _ _ _ _ _)
   | (with_reducible exact ih5 _ _ _ _ _ _ _)
   | (with_reducible exact LeO.refl _)
   | (with_reducible exact LeO.none _)
   | (with_reducible refine LeO.ite ?_ ?_)
   | (with_reducible refine LeO.bind ?_ (fun _ => ?_))
   | exact ih0 _ _ _ _
   | exact ih1 _ _ _ _ _ _ _
   | exact ih2 _ _ _ _ _ _ _
   | exact ih3 _ _ _ _ _ _ _
   | exact ih4 _ _ _ _ _ _ _
   | exact ih5 _ _ _ _ _ _ _
   | exact LeO.none _
   | refine LeO.ite ?_ ?_
   | refine LeO.bind ?_ (fun _ => ?_)
  ·intro y0 y1 y2 y3 y4 y5 y6
   unfold lanyardref03_Turned.j4
   repeat' first
   | (with_reducible exact ih0 _ _ _ _)
   | (with_reducible exact ih1 _ _ _ _ _ _ _)
   | (with_reducible exact ih2 _ _ _ _ _ _ _)
   | (with_reducible exact ih3 _ _ _ _ _ _ _)
   | (with_reducible exact ih4 _ _ _ _ _ _ _)
   | (with_reducible exact ih5 _ _ _ _ _ _ _)
   | (with_reducible exact LeO.refl _)
   | (with_reducible exact LeO.none _)
   | (with_reducible refine LeO.ite ?_ ?_)
   | (with_reducible refine LeO.bind ?_ (fun _ => ?_))
   | exact ih0 _ _ _ _
   | exact ih1 _ _ _ _ _ _ _
   | exact ih2 _ _ _ _ _ _ _
   | exact ih3 _ _ _ _ _ _ _
   | exact ih4 _ _ _ _ _ _ _
   | exact ih5 _ _ _ _ _ _ _
   | exact LeO.none _
   | refine LeO.ite ?_ ?_
   | refine LeO.bind ?_ (fun _ => ?_)
  ·intro y0 y1 y2 y3 y4 y5 y6
   unfold lanyardref03_Turned.j5
   repeat' first
   | (with_reducible exact ih0 _ _ _ _)
   | (with_reducible exact ih1 _ _ _ _ _ _ _)
   | (with_reducible exact ih2 _ _ _ _ _ _ _)
   | (with_reducible exact ih3 _ _ _ _ _ _ _)
   | (with_reducible exact ih4 _ _ _ _ _ _ _)
   | (with_reducible exact ih5 _ _ _ _ _ _ _)
   | (with_reducible exact LeO.refl _)
   | (with_reducible exact LeO.none _)
   | (with_reducible refine LeO.ite ?_ ?_)
   | (with_reducible refine LeO.bind ?_ (fun _ => ?_))
   | exact ih0 _ _ _ _
   | exact ih1 _ _ _ _ _ _ _
   | exact ih2 _ _ _ _ _ _ _
   | exact ih3 _ _ _ _ _ _ _
   | exact ih4 _ _ _ _ _ _ _
   | exact ih5 _ _ _ _ _ _ _
   | exact LeO.none _
   | refine LeO.ite ?_ ?_
   | refine LeO.bind ?_ (fun _ => ?_)
theorem lanyardref03_Turned.mono : ∀ a0 a1 k, LeO (lanyardref03_Turned.f k a0 a1) (lanyardref03_Turned.f (k + 1) a0 a1) := by
 intro a0 a1 k
 obtain ⟨ih0, ih1, ih2, ih3, ih4, ih5⟩ := lanyardref03_Turned.mono_l k
 unfold lanyardref03_Turned.f
 repeat' first
   | (with_reducible exact ih0 _ _ _ _)
   | (with_reducible exact ih1 _ _ _ _ _ _ _)
   | (with_reducible exact ih2 _ _ _ _ _ _ _)
   | (with_reducible exact ih3 _ _ _ _ _ _ _)
   | (with_reducible exact ih4 _ _ _ _ _ _ _)
   | (with_reducible exact ih5 _ _ _ _ _ _ _)
   | (with_reducible exact LeO.refl _)
   | (with_reducible exact LeO.none _)
   | (with_reducible refine LeO.ite ?_ ?_)
   | (with_reducible refine LeO.bind ?_ (fun _ => ?_))
   | exact ih0 _ _ _ _
   | exact ih1 _ _ _ _ _ _ _
   | exact ih2 _ _ _ _ _ _ _
   | exact ih3 _ _ _ _ _ _ _
   | exact ih4 _ _ _ _ _ _ _
   | exact ih5 _ _ _ _ _ _ _
   | exact LeO.none _
   | refine LeO.ite ?_ ?_
   | refine LeO.bind ?_ (fun _ => ?_)
set_option maxHeartbeats 8000000 in
set_option maxRecDepth 100000 in
theorem lanyardref03_Turned.calls (k : Nat) (a0 : ByteArray) (a1 : Int) (r : ByteArray) (w : World) (h : lanyardref03_Turned.f k a0 a1 = some r) :
  Calls Tryd.prog 23 #[.string a0, .int .i64 a1] w fun e w' => e = .returned (.string r) ∧ Below w.heap.size w w' := by
 have HB := Aside0.mk (Below.refl w.heap.size w)
 have H : (lanyardref03_Turned.l0 k a0 a1 (⟨#[]⟩ : ByteArray) 0) = some r := h
 clear h
 have H' := Aside0.mk H
 clear H
 go_enter Tryd.func23, Tryd.ntmps23
 go_wp2
 go_loopg [5, 6] k (fun kq v5 v6 w' => ∃ (x5_1 : ByteArray) (x6_1 : Int), v5 = .string x5_1 ∧ v6 = .int .i64 x6_1 ∧ Aside0 (lanyardref03_Turned.l0 kq a0 a1 x5_1 x6_1 = some r) ∧ Aside0 (kq ≤ k) ∧ Aside0 (Below w.heap.size w w'))
 case atStart => exact ⟨((⟨#[]⟩ : ByteArray)), (0), (by first | rfl | (simp; done) | (simp [*]; done)), (by first | rfl | (simp; done) | (simp [*]; done)), H', ⟨Nat.le_refl _⟩, ⟨Bu HB⟩⟩
 case round =>
  clear H'
  try clear c2
  try clear p2
  obtain ⟨x5_1, x6_1, rfl, rfl, HA, HK1, HB⟩ := hrel
  cases gk with
  | zero => exact absurd HA.out (by simp [lanyardref03_Turned.l0])
  | succ k1 =>
   have H := HA.out
   clear HA
   simp only [lanyardref03_Turned.l0] at H
   by_cases c3 : x6_1 < (a0.size : Int)
   ·rw [if_pos c3] at H
    have c3b0 : decide (x6_1 < (a0.size : Int)) = true := decide_eq_true c3
    clear c3
    by_cases c4 : 0 ≤ x6_1
    ·rw [if_pos c4] at H
     have c4b0 : decide (0 ≤ x6_1) = true := decide_eq_true c4
     clear c4
     obtain ⟨y211, hy211⟩ : ∃ y_ : List Int, y_ = (([bt a0 x6_1] : List Int)) := ⟨_, rfl⟩
     replace H : (if (bt a0 x6_1) = 38 then (if x5_1.size + 5 ≤ 9223372036854775807 then (lanyardref03_Turned.l0 k1 a0 a1 (x5_1 ++ (⟨#[38, 97, 109, 112, 59]⟩ : ByteArray)) (wrap64 (x6_1 + 1))) else (none)) else (if (bt a0 x6_1) = 60 then (if x5_1.size + 4 ≤ 9223372036854775807 then (lanyardref03_Turned.l0 k1 a0 a1 (x5_1 ++ (⟨#[38, 108, 116, 59]⟩ : ByteArray)) (wrap64 (x6_1 + 1))) else (none)) else (if (bt a0 x6_1) = 62 then (lanyardref03_Turned.j1 k1 a0 a1 x5_1 x6_1 (bt a0 x6_1) (strOfNums y211) (decide (a1 > 1))) else (lanyardref03_Turned.j1 k1 a0 a1 x5_1 x6_1 (bt a0 x6_1) (strOfNums y211) false)))) = some r := by first | (rw [hy211]; with_reducible exact H) | (have H2_ := (Option.bind_some _ _).symm.trans H; rw [hy211]; with_reducible exact H2_) | (have H2_ := (Option.bind_some _ _).symm.trans H; with_reducible exact H2_) | with_reducible exact H | (rw [hy211]; exact H) | exact H
     have Ny211 := Aside0.mk hy211
     clear hy211
     by_cases c6 : (bt a0 x6_1) = 38
     ·rw [if_pos c6] at H
      have c6b0 : ((bt a0 x6_1) == 38) = true := beq_iff_eq.mpr c6
      have c6b1 : ((bt a0 x6_1) != 38) = false := bne_eq_false_iff_eq.mpr c6
      clear c6
      by_cases c7 : x5_1.size + 5 ≤ 9223372036854775807
      ·rw [if_pos c7] at H
       have c7b0 := eq_true c7
       have c7b1 : decide (x5_1.size + 5 ≤ 9223372036854775807) = true := decide_eq_true c7
       try have c7b2 : (9223372036854775807 < x5_1.size + 5) = False := eq_false (Nat.not_lt.2 c7)
       have H' := Aside0.mk H
       clear H
       have p5 : 0 ≤ (x6_1 : Int) := of_decide_eq_true (by first | (with_reducible assumption) | assumption)
       have q5 : x6_1 < (a0.size : Int) := of_decide_eq_true (by first | (with_reducible assumption) | assumption)
       have hx5 := bt_at a0 x6_1
       replace p5 := eq_true p5
       replace q5 := eq_true q5
       go_wp2_with (first | ((with_reducible refine gate_dst (N := 19) rfl ?_); refine Kd.R_lit (Kd.int .u8) _ 5 ?hg (N := 19) ?hd (xs := ([bt a0 x6_1] : List Int)) (inner := [.int .u8 (bt a0 x6_1)]) (ok := fun _ => True) (okp := fun _ => True) ?hr ?hp (fun _ hk => hk) trivial (Below.refl _ _) (Nat.le_refl _) (by simp) ?_; (case hd => rfl); (case hg => rfl); (case hr => first | (go_simp; done) | (go_simp; rfl)); (case hp => exact (Reps.one (show Kd.M (Kd.int .u8) _ _ _ (bt a0 x6_1) [.int .u8 (bt a0 x6_1)] from rfl) (Reps.none _ _))); intro v212 w8 ho9 hb hg_ hnew_; clear hg_ hnew_; (first | rw [← Ny211.out] at ho9 | (simp only [Int.reduceToNat] at ho9; rw [← Ny211.out] at ho9)); have n0_ := Aside0.mk (Kd.R_lower ho9 (Bz HB)); have n1_ := Bs HB hb; clear HB; revert n0_ n1_; intro HO213 HB; clear hb ho9; have hcv10 := own_string (P := Tryd.prog) Tryd.underlying47 Tryd.underlying5 Tryd.underlying9 (Kd.own_of_R HO213.out); have hcv11 := fun n_ : Nat => own_string (P := Tryd.prog) Tryd.underlying47 Tryd.underlying5 Tryd.underlying9 (Kd.own_of_R (Kd.R_drewN HO213.out n_))))
       go_roundg k1
       case measure => have := HK1.out; omega
       case rel => exact ⟨(x5_1 ++ (⟨#[38, 97, 109, 112, 59]⟩ : ByteArray)), (wrap64 (x6_1 + 1)), (by first | rfl | (simp; done) | (simp [*]; done)), (by first | rfl | (simp; done) | (simp [*]; done)), H', ⟨by have := HK1.out; omega⟩, ⟨Bu HB⟩⟩
      ·rw [if_neg c7] at H
       exact absurd H (by simp)
     ·rw [if_neg c6] at H
      have c6b0 : ((bt a0 x6_1) == 38) = false := beq_eq_false_iff_ne.mpr c6
      have c6b1 : ((bt a0 x6_1) != 38) = true := bne_iff_ne.mpr c6
      by_cases c12 : (bt a0 x6_1) = 60
      ·rw [if_pos c12] at H
       have c12b0 : ((bt a0 x6_1) == 60) = true := beq_iff_eq.mpr c12
       have c12b1 : ((bt a0 x6_1) != 60) = false := bne_eq_false_iff_eq.mpr c12
       clear c12
       by_cases c13 : x5_1.size + 4 ≤ 9223372036854775807
       ·rw [if_pos c13] at H
        have c13b0 := eq_true c13
        have c13b1 : decide (x5_1.size + 4 ≤ 9223372036854775807) = true := decide_eq_true c13
        try have c13b2 : (9223372036854775807 < x5_1.size + 4) = False := eq_false (Nat.not_lt.2 c13)
        have H' := Aside0.mk H
        clear H
        have p5 : 0 ≤ (x6_1 : Int) := of_decide_eq_true (by first | (with_reducible assumption) | assumption)
        have q5 : x6_1 < (a0.size : Int) := of_decide_eq_true (by first | (with_reducible assumption) | assumption)
        have hx5 := bt_at a0 x6_1
        replace p5 := eq_true p5
        replace q5 := eq_true q5
        go_wp2_with (first | ((with_reducible refine gate_dst (N := 19) rfl ?_); refine Kd.R_lit (Kd.int .u8) _ 5 ?hg (N := 19) ?hd (xs := ([bt a0 x6_1] : List Int)) (inner := [.int .u8 (bt a0 x6_1)]) (ok := fun _ => True) (okp := fun _ => True) ?hr ?hp (fun _ hk => hk) trivial (Below.refl _ _) (Nat.le_refl _) (by simp) ?_; (case hd => rfl); (case hg => rfl); (case hr => first | (go_simp; done) | (go_simp; rfl)); (case hp => exact (Reps.one (show Kd.M (Kd.int .u8) _ _ _ (bt a0 x6_1) [.int .u8 (bt a0 x6_1)] from rfl) (Reps.none _ _))); intro v212 w14 ho15 hb hg_ hnew_; clear hg_ hnew_; (first | rw [← Ny211.out] at ho15 | (simp only [Int.reduceToNat] at ho15; rw [← Ny211.out] at ho15)); have n0_ := Aside0.mk (Kd.R_lower ho15 (Bz HB)); have n1_ := Bs HB hb; clear HB; revert n0_ n1_; intro HO213 HB; clear hb ho15; have hcv16 := own_string (P := Tryd.prog) Tryd.underlying47 Tryd.underlying5 Tryd.underlying9 (Kd.own_of_R HO213.out); have hcv17 := fun n_ : Nat => own_string (P := Tryd.prog) Tryd.underlying47 Tryd.underlying5 Tryd.underlying9 (Kd.own_of_R (Kd.R_drewN HO213.out n_))))
        go_roundg k1
        case measure => have := HK1.out; omega
        case rel => exact ⟨(x5_1 ++ (⟨#[38, 108, 116, 59]⟩ : ByteArray)), (wrap64 (x6_1 + 1)), (by first | rfl | (simp; done) | (simp [*]; done)), (by first | rfl | (simp; done) | (simp [*]; done)), H', ⟨by have := HK1.out; omega⟩, ⟨Bu HB⟩⟩
       ·rw [if_neg c13] at H
        exact absurd H (by simp)
      ·rw [if_neg c12] at H
       have c12b0 : ((bt a0 x6_1) == 60) = false := beq_eq_false_iff_ne.mpr c12
       have c12b1 : ((bt a0 x6_1) != 60) = true := bne_iff_ne.mpr c12
       have HC18 := Aside0.mk H
       clear H
       have p5 : 0 ≤ (x6_1 : Int) := of_decide_eq_true (by first | (with_reducible assumption) | assumption)
       have q5 : x6_1 < (a0.size : Int) := of_decide_eq_true (by first | (with_reducible assumption) | assumption)
       have hx5 := bt_at a0 x6_1
       replace p5 := eq_true p5
       replace q5 := eq_true q5
       go_upto_region 11 with (first | ((with_reducible refine gate_dst (N := 19) rfl ?_); refine Kd.R_lit (Kd.int .u8) _ 5 ?hg (N := 19) ?hd (xs := ([bt a0 x6_1] : List Int)) (inner := [.int .u8 (bt a0 x6_1)]) (ok := fun _ => True) (okp := fun _ => True) ?hr ?hp (fun _ hk => hk) trivial (Below.refl _ _) (Nat.le_refl _) (by simp) ?_; (case hd => rfl); (case hg => rfl); (case hr => first | (go_simp; done) | (go_simp; rfl)); (case hp => exact (Reps.one (show Kd.M (Kd.int .u8) _ _ _ (bt a0 x6_1) [.int .u8 (bt a0 x6_1)] from rfl) (Reps.none _ _))); intro v212 w19 ho20 hb hg_ hnew_; clear hg_ hnew_; (first | rw [← Ny211.out] at ho20 | (simp only [Int.reduceToNat] at ho20; rw [← Ny211.out] at ho20)); have n0_ := Aside0.mk (Kd.R_lower ho20 (Bz HB)); have n1_ := Bs HB hb; clear HB; revert n0_ n1_; intro HO213 HB; clear hb ho20; have hcv21 := own_string (P := Tryd.prog) Tryd.underlying47 Tryd.underlying5 Tryd.underlying9 (Kd.own_of_R HO213.out); have hcv22 := fun n_ : Nat => own_string (P := Tryd.prog) Tryd.underlying47 Tryd.underlying5 Tryd.underlying9 (Kd.own_of_R (Kd.R_drewN HO213.out n_))))
       (try simp only [Act.put, List.setIfInBounds_toArray, List.set_cons_zero, List.set_cons_succ])
       go_cut [30] (fun v30 wc => ∃ (kq : Nat) (x30_17 : Bool), v30 = .bool x30_17 ∧ Aside0 (lanyardref03_Turned.j1 kq a0 a1 x5_1 x6_1 (bt a0 x6_1) (strOfNums y211) x30_17 = some r) ∧ Aside0 (kq ≤ k1) ∧ Aside0 (Below w.heap.size w wc))
       case first =>
        have H := HC18.out
        clear HC18
        by_cases c23 : (bt a0 x6_1) = 62
        ·rw [if_pos c23] at H
         have c23b0 : ((bt a0 x6_1) == 62) = true := beq_iff_eq.mpr c23
         have c23b1 : ((bt a0 x6_1) != 62) = false := bne_eq_false_iff_eq.mpr c23
         clear c23
         (first | rw [c23b0] | (simp only [i64_w, i32_w]; rw [c23b0]) | skip)
         have H' := Aside0.mk H
         clear H
         go_wp2
         go_meet
         case rel => exact ⟨_, (decide (a1 > 1)), (by first | rfl | (simp; done) | (simp [*]; done)), H', ⟨by have := HK1.out; first | omega | exact Nat.le_refl _⟩, ⟨Bu HB⟩⟩
        ·rw [if_neg c23] at H
         have c23b0 : ((bt a0 x6_1) == 62) = false := beq_eq_false_iff_ne.mpr c23
         have c23b1 : ((bt a0 x6_1) != 62) = true := bne_iff_ne.mpr c23
         (first | rw [c23b0] | (simp only [i64_w, i32_w]; rw [c23b0]) | skip)
         have H' := Aside0.mk H
         clear H
         go_wp2
         go_meet
         case rel => exact ⟨_, (false), (by first | rfl | (simp; done) | (simp [*]; done)), H', ⟨by have := HK1.out; first | omega | exact Nat.le_refl _⟩, ⟨Bu HB⟩⟩
       case rest =>
        clear HC18
        try clear c1
        try clear hcv1
        try clear c2
        try clear p2
        try clear hcv2
        try clear c3
        try clear c3b0
        try clear c4
        try clear c4b0
        try clear p5
        try clear q5
        try clear hx5
        try clear c6
        try clear c6b0
        try clear c6b1
        try clear p6
        try clear c7
        try clear c7b0
        try clear c7b1
        try clear c7b2
        try clear hcv10
        try clear hcv11
        try clear c12
        try clear c12b0
        try clear c12b1
        try clear c13
        try clear c13b0
        try clear c13b1
        try clear c13b2
        try clear hcv16
        try clear hcv17
        try clear hcv21
        try clear hcv22
        try clear c23
        try clear c23b0
        try clear c23b1
        try clear p2
        try clear p5
        try clear q5
        obtain ⟨kq, x30_17, rfl, HA, HJ17, HB⟩ := hcut
        cases kq with
        | zero => exact absurd HA.out (by simp [lanyardref03_Turned.j1])
        | succ kj17 =>
         have H := HA.out
         clear HA
         simp only [lanyardref03_Turned.j1] at H
         by_cases c24 : x30_17 = true
         ·subst c24
          have H1 : (if x5_1.size + 4 ≤ 9223372036854775807 then (lanyardref03_Turned.l0 kj17 a0 a1 (x5_1 ++ (⟨#[38, 103, 116, 59]⟩ : ByteArray)) (wrap64 (x6_1 + 1))) else (none)) = some r := by rw [if_pos rfl] at H; exact H
          clear H
          have H := H1
          clear H1
          by_cases c25 : x5_1.size + 4 ≤ 9223372036854775807
          ·rw [if_pos c25] at H
           have c25b0 := eq_true c25
           have c25b1 : decide (x5_1.size + 4 ≤ 9223372036854775807) = true := decide_eq_true c25
           try have c25b2 : (9223372036854775807 < x5_1.size + 4) = False := eq_false (Nat.not_lt.2 c25)
           have H' := Aside0.mk H
           clear H
           go_wp2
           go_roundg kj17
           case measure => have := HK1.out; have := HJ17.out; omega
           case rel => exact ⟨(x5_1 ++ (⟨#[38, 103, 116, 59]⟩ : ByteArray)), (wrap64 (x6_1 + 1)), (by first | rfl | (simp; done) | (simp [*]; done)), (by first | rfl | (simp; done) | (simp [*]; done)), H', ⟨by have := HK1.out; have := HJ17.out; omega⟩, ⟨Bu HB⟩⟩
          ·rw [if_neg c25] at H
           exact absurd H (by simp)
         ·replace c24 := Bool.eq_false_iff.mpr c24
          subst c24
          have H1 : (if (bt a0 x6_1) = 34 then (lanyardref03_Turned.j2 kj17 a0 a1 x5_1 x6_1 (bt a0 x6_1) (strOfNums y211) (a1 != 2)) else (lanyardref03_Turned.j2 kj17 a0 a1 x5_1 x6_1 (bt a0 x6_1) (strOfNums y211) false)) = some r := by rw [if_neg (show ¬ (false = true) by decide)] at H; exact H
          clear H
          have H := H1
          clear H1
          have HC26 := Aside0.mk H
          clear H
          go_upto_region 13 with (fail)
          go_cut [36] (fun v36 wc => ∃ (kq : Nat) (x36_25 : Bool), v36 = .bool x36_25 ∧ Aside0 (lanyardref03_Turned.j2 kq a0 a1 x5_1 x6_1 (bt a0 x6_1) (strOfNums y211) x36_25 = some r) ∧ Aside0 (kq ≤ kj17) ∧ Aside0 (Below w.heap.size w wc))
          case first =>
           have H := HC26.out
           clear HC26
           by_cases c27 : (bt a0 x6_1) = 34
           ·rw [if_pos c27] at H
            have c27b0 : ((bt a0 x6_1) == 34) = true := beq_iff_eq.mpr c27
            have c27b1 : ((bt a0 x6_1) != 34) = false := bne_eq_false_iff_eq.mpr c27
            clear c27
            (first | rw [c27b0] | (simp only [i64_w, i32_w]; rw [c27b0]) | skip)
            have H' := Aside0.mk H
            clear H
            go_wp2
            go_meet
            case rel => exact ⟨_, ((a1 != 2)), (by first | rfl | (simp; done) | (simp [*]; done)), H', ⟨by have := HK1.out; have := HJ17.out; first | omega | exact Nat.le_refl _⟩, ⟨Bu HB⟩⟩
           ·rw [if_neg c27] at H
            have c27b0 : ((bt a0 x6_1) == 34) = false := beq_eq_false_iff_ne.mpr c27
            have c27b1 : ((bt a0 x6_1) != 34) = true := bne_iff_ne.mpr c27
            (first | rw [c27b0] | (simp only [i64_w, i32_w]; rw [c27b0]) | skip)
            have H' := Aside0.mk H
            clear H
            go_wp2
            go_meet
            case rel => exact ⟨_, (false), (by first | rfl | (simp; done) | (simp [*]; done)), H', ⟨by have := HK1.out; have := HJ17.out; first | omega | exact Nat.le_refl _⟩, ⟨Bu HB⟩⟩
          case rest =>
           clear HC26
           try clear c1
           try clear hcv1
           try clear c2
           try clear p2
           try clear hcv2
           try clear c3
           try clear c3b0
           try clear c4
           try clear c4b0
           try clear p5
           try clear q5
           try clear hx5
           try clear c6
           try clear c6b0
           try clear c6b1
           try clear p6
           try clear c7
           try clear c7b0
           try clear c7b1
           try clear c7b2
           try clear hcv10
           try clear hcv11
           try clear c12
           try clear c12b0
           try clear c12b1
           try clear c13
           try clear c13b0
           try clear c13b1
           try clear c13b2
           try clear hcv16
           try clear hcv17
           try clear hcv21
           try clear hcv22
           try clear c23
           try clear c23b0
           try clear c23b1
           try clear c24
           try clear c25
           try clear c25b0
           try clear c25b1
           try clear c25b2
           try clear c27
           try clear c27b0
           try clear c27b1
           try clear p2
           try clear p5
           try clear p6
           try clear q5
           obtain ⟨kq, x36_25, rfl, HA, HJ25, HB⟩ := hcut
           cases kq with
           | zero => exact absurd HA.out (by simp [lanyardref03_Turned.j2])
           | succ kj25 =>
            have H := HA.out
            clear HA
            simp only [lanyardref03_Turned.j2] at H
            by_cases c28 : x36_25 = true
            ·subst c28
             have H1 : (if x5_1.size + 6 ≤ 9223372036854775807 then (lanyardref03_Turned.l0 kj25 a0 a1 (x5_1 ++ (⟨#[38, 113, 117, 111, 116, 59]⟩ : ByteArray)) (wrap64 (x6_1 + 1))) else (none)) = some r := by rw [if_pos rfl] at H; exact H
             clear H
             have H := H1
             clear H1
             by_cases c29 : x5_1.size + 6 ≤ 9223372036854775807
             ·rw [if_pos c29] at H
              have c29b0 := eq_true c29
              have c29b1 : decide (x5_1.size + 6 ≤ 9223372036854775807) = true := decide_eq_true c29
              try have c29b2 : (9223372036854775807 < x5_1.size + 6) = False := eq_false (Nat.not_lt.2 c29)
              have H' := Aside0.mk H
              clear H
              go_wp2
              go_roundg kj25
              case measure => have := HK1.out; have := HJ17.out; have := HJ25.out; omega
              case rel => exact ⟨(x5_1 ++ (⟨#[38, 113, 117, 111, 116, 59]⟩ : ByteArray)), (wrap64 (x6_1 + 1)), (by first | rfl | (simp; done) | (simp [*]; done)), (by first | rfl | (simp; done) | (simp [*]; done)), H', ⟨by have := HK1.out; have := HJ17.out; have := HJ25.out; omega⟩, ⟨Bu HB⟩⟩
             ·rw [if_neg c29] at H
              exact absurd H (by simp)
            ·replace c28 := Bool.eq_false_iff.mpr c28
             subst c28
             have H1 : (if (bt a0 x6_1) = 39 then (lanyardref03_Turned.j3 kj25 a0 a1 x5_1 x6_1 (bt a0 x6_1) (strOfNums y211) (a1 == 3)) else (lanyardref03_Turned.j3 kj25 a0 a1 x5_1 x6_1 (bt a0 x6_1) (strOfNums y211) false)) = some r := by rw [if_neg (show ¬ (false = true) by decide)] at H; exact H
             clear H
             have H := H1
             clear H1
             have HC30 := Aside0.mk H
             clear H
             go_upto_region 15 with (fail)
             go_cut [42] (fun v42 wc => ∃ (kq : Nat) (x42_29 : Bool), v42 = .bool x42_29 ∧ Aside0 (lanyardref03_Turned.j3 kq a0 a1 x5_1 x6_1 (bt a0 x6_1) (strOfNums y211) x42_29 = some r) ∧ Aside0 (kq ≤ kj25) ∧ Aside0 (Below w.heap.size w wc))
             case first =>
              have H := HC30.out
              clear HC30
              by_cases c31 : (bt a0 x6_1) = 39
              ·rw [if_pos c31] at H
               have c31b0 : ((bt a0 x6_1) == 39) = true := beq_iff_eq.mpr c31
               have c31b1 : ((bt a0 x6_1) != 39) = false := bne_eq_false_iff_eq.mpr c31
               clear c31
               (first | rw [c31b0] | (simp only [i64_w, i32_w]; rw [c31b0]) | skip)
               have H' := Aside0.mk H
               clear H
               go_wp2
               go_meet
               case rel => exact ⟨_, ((a1 == 3)), (by first | rfl | (simp; done) | (simp [*]; done)), H', ⟨by have := HK1.out; have := HJ17.out; have := HJ25.out; first | omega | exact Nat.le_refl _⟩, ⟨Bu HB⟩⟩
              ·rw [if_neg c31] at H
               have c31b0 : ((bt a0 x6_1) == 39) = false := beq_eq_false_iff_ne.mpr c31
               have c31b1 : ((bt a0 x6_1) != 39) = true := bne_iff_ne.mpr c31
               (first | rw [c31b0] | (simp only [i64_w, i32_w]; rw [c31b0]) | skip)
               have H' := Aside0.mk H
               clear H
               go_wp2
               go_meet
               case rel => exact ⟨_, (false), (by first | rfl | (simp; done) | (simp [*]; done)), H', ⟨by have := HK1.out; have := HJ17.out; have := HJ25.out; first | omega | exact Nat.le_refl _⟩, ⟨Bu HB⟩⟩
             case rest =>
              clear HC30
              try clear c1
              try clear hcv1
              try clear c2
              try clear p2
              try clear hcv2
              try clear c3
              try clear c3b0
              try clear c4
              try clear c4b0
              try clear p5
              try clear q5
              try clear hx5
              try clear c6
              try clear c6b0
              try clear c6b1
              try clear p6
              try clear c7
              try clear c7b0
              try clear c7b1
              try clear c7b2
              try clear hcv10
              try clear hcv11
              try clear c12
              try clear c12b0
              try clear c12b1
              try clear c13
              try clear c13b0
              try clear c13b1
              try clear c13b2
              try clear hcv16
              try clear hcv17
              try clear hcv21
              try clear hcv22
              try clear c23
              try clear c23b0
              try clear c23b1
              try clear c24
              try clear c25
              try clear c25b0
              try clear c25b1
              try clear c25b2
              try clear c27
              try clear c27b0
              try clear c27b1
              try clear c28
              try clear c29
              try clear c29b0
              try clear c29b1
              try clear c29b2
              try clear c31
              try clear c31b0
              try clear c31b1
              try clear p2
              try clear p5
              try clear p6
              try clear q5
              obtain ⟨kq, x42_29, rfl, HA, HJ29, HB⟩ := hcut
              cases kq with
              | zero => exact absurd HA.out (by simp [lanyardref03_Turned.j3])
              | succ kj29 =>
               have H := HA.out
               clear HA
               simp only [lanyardref03_Turned.j3] at H
               by_cases c32 : x42_29 = true
               ·subst c32
                have H1 : (if x5_1.size + 5 ≤ 9223372036854775807 then (lanyardref03_Turned.l0 kj29 a0 a1 (x5_1 ++ (⟨#[38, 35, 51, 57, 59]⟩ : ByteArray)) (wrap64 (x6_1 + 1))) else (none)) = some r := by rw [if_pos rfl] at H; exact H
                clear H
                have H := H1
                clear H1
                by_cases c33 : x5_1.size + 5 ≤ 9223372036854775807
                ·rw [if_pos c33] at H
                 have c33b0 := eq_true c33
                 have c33b1 : decide (x5_1.size + 5 ≤ 9223372036854775807) = true := decide_eq_true c33
                 try have c33b2 : (9223372036854775807 < x5_1.size + 5) = False := eq_false (Nat.not_lt.2 c33)
                 have H' := Aside0.mk H
                 clear H
                 go_wp2
                 go_roundg kj29
                 case measure => have := HK1.out; have := HJ17.out; have := HJ25.out; have := HJ29.out; omega
                 case rel => exact ⟨(x5_1 ++ (⟨#[38, 35, 51, 57, 59]⟩ : ByteArray)), (wrap64 (x6_1 + 1)), (by first | rfl | (simp; done) | (simp [*]; done)), (by first | rfl | (simp; done) | (simp [*]; done)), H', ⟨by have := HK1.out; have := HJ17.out; have := HJ25.out; have := HJ29.out; omega⟩, ⟨Bu HB⟩⟩
                ·rw [if_neg c33] at H
                 exact absurd H (by simp)
               ·replace c32 := Bool.eq_false_iff.mpr c32
                subst c32
                have H1 : (if (bt a0 x6_1) = 13 then (lanyardref03_Turned.j4 kj29 a0 a1 x5_1 x6_1 (bt a0 x6_1) (strOfNums y211) (decide (a1 < 3))) else (lanyardref03_Turned.j4 kj29 a0 a1 x5_1 x6_1 (bt a0 x6_1) (strOfNums y211) false)) = some r := by rw [if_neg (show ¬ (false = true) by decide)] at H; exact H
                clear H
                have H := H1
                clear H1
                have HC34 := Aside0.mk H
                clear H
                go_upto_region 17 with (fail)
                go_cut [48] (fun v48 wc => ∃ (kq : Nat) (x48_33 : Bool), v48 = .bool x48_33 ∧ Aside0 (lanyardref03_Turned.j4 kq a0 a1 x5_1 x6_1 (bt a0 x6_1) (strOfNums y211) x48_33 = some r) ∧ Aside0 (kq ≤ kj29) ∧ Aside0 (Below w.heap.size w wc))
                case first =>
                 have H := HC34.out
                 clear HC34
                 by_cases c35 : (bt a0 x6_1) = 13
                 ·rw [if_pos c35] at H
                  have c35b0 : ((bt a0 x6_1) == 13) = true := beq_iff_eq.mpr c35
                  have c35b1 : ((bt a0 x6_1) != 13) = false := bne_eq_false_iff_eq.mpr c35
                  clear c35
                  (first | rw [c35b0] | (simp only [i64_w, i32_w]; rw [c35b0]) | skip)
                  have H' := Aside0.mk H
                  clear H
                  go_wp2
                  go_meet
                  case rel => exact ⟨_, (decide (a1 < 3)), (by first | rfl | (simp; done) | (simp [*]; done)), H', ⟨by have := HK1.out; have := HJ17.out; have := HJ25.out; have := HJ29.out; first | omega | exact Nat.le_refl _⟩, ⟨Bu HB⟩⟩
                 ·rw [if_neg c35] at H
                  have c35b0 : ((bt a0 x6_1) == 13) = false := beq_eq_false_iff_ne.mpr c35
                  have c35b1 : ((bt a0 x6_1) != 13) = true := bne_iff_ne.mpr c35
                  (first | rw [c35b0] | (simp only [i64_w, i32_w]; rw [c35b0]) | skip)
                  have H' := Aside0.mk H
                  clear H
                  go_wp2
                  go_meet
                  case rel => exact ⟨_, (false), (by first | rfl | (simp; done) | (simp [*]; done)), H', ⟨by have := HK1.out; have := HJ17.out; have := HJ25.out; have := HJ29.out; first | omega | exact Nat.le_refl _⟩, ⟨Bu HB⟩⟩
                case rest =>
                 clear HC34
                 try clear c1
                 try clear hcv1
                 try clear c2
                 try clear p2
                 try clear hcv2
                 try clear c3
                 try clear c3b0
                 try clear c4
                 try clear c4b0
                 try clear p5
                 try clear q5
                 try clear hx5
                 try clear c6
                 try clear c6b0
                 try clear c6b1
                 try clear p6
                 try clear c7
                 try clear c7b0
                 try clear c7b1
                 try clear c7b2
                 try clear hcv10
                 try clear hcv11
                 try clear c12
                 try clear c12b0
                 try clear c12b1
                 try clear c13
                 try clear c13b0
                 try clear c13b1
                 try clear c13b2
                 try clear hcv16
                 try clear hcv17
                 try clear hcv21
                 try clear hcv22
                 try clear c23
                 try clear c23b0
                 try clear c23b1
                 try clear c24
                 try clear c25
                 try clear c25b0
                 try clear c25b1
                 try clear c25b2
                 try clear c27
                 try clear c27b0
                 try clear c27b1
                 try clear c28
                 try clear c29
                 try clear c29b0
                 try clear c29b1
                 try clear c29b2
                 try clear c31
                 try clear c31b0
                 try clear c31b1
                 try clear c32
                 try clear c33
                 try clear c33b0
                 try clear c33b1
                 try clear c33b2
                 try clear c35
                 try clear c35b0
                 try clear c35b1
                 try clear p2
                 try clear p5
                 try clear p6
                 try clear q5
                 obtain ⟨kq, x48_33, rfl, HA, HJ33, HB⟩ := hcut
                 cases kq with
                 | zero => exact absurd HA.out (by simp [lanyardref03_Turned.j4])
                 | succ kj33 =>
                  have H := HA.out
                  clear HA
                  simp only [lanyardref03_Turned.j4] at H
                  by_cases c36 : x48_33 = true
                  ·subst c36
                   have H1 : (if x5_1.size + 5 ≤ 9223372036854775807 then (lanyardref03_Turned.l0 kj33 a0 a1 (x5_1 ++ (⟨#[38, 35, 120, 68, 59]⟩ : ByteArray)) (wrap64 (x6_1 + 1))) else (none)) = some r := by rw [if_pos rfl] at H; exact H
                   clear H
                   have H := H1
                   clear H1
                   by_cases c37 : x5_1.size + 5 ≤ 9223372036854775807
                   ·rw [if_pos c37] at H
                    have c37b0 := eq_true c37
                    have c37b1 : decide (x5_1.size + 5 ≤ 9223372036854775807) = true := decide_eq_true c37
                    try have c37b2 : (9223372036854775807 < x5_1.size + 5) = False := eq_false (Nat.not_lt.2 c37)
                    have H' := Aside0.mk H
                    clear H
                    go_wp2
                    go_roundg kj33
                    case measure => have := HK1.out; have := HJ17.out; have := HJ25.out; have := HJ29.out; have := HJ33.out; omega
                    case rel => exact ⟨(x5_1 ++ (⟨#[38, 35, 120, 68, 59]⟩ : ByteArray)), (wrap64 (x6_1 + 1)), (by first | rfl | (simp; done) | (simp [*]; done)), (by first | rfl | (simp; done) | (simp [*]; done)), H', ⟨by have := HK1.out; have := HJ17.out; have := HJ25.out; have := HJ29.out; have := HJ33.out; omega⟩, ⟨Bu HB⟩⟩
                   ·rw [if_neg c37] at H
                    exact absurd H (by simp)
                  ·replace c36 := Bool.eq_false_iff.mpr c36
                   subst c36
                   have H1 : (if (bt a0 x6_1) = 9 then (lanyardref03_Turned.j5 kj33 a0 a1 x5_1 x6_1 (bt a0 x6_1) (strOfNums y211) (a1 == 1)) else (lanyardref03_Turned.j5 kj33 a0 a1 x5_1 x6_1 (bt a0 x6_1) (strOfNums y211) false)) = some r := by rw [if_neg (show ¬ (false = true) by decide)] at H; exact H
                   clear H
                   have H := H1
                   clear H1
                   have HC38 := Aside0.mk H
                   clear H
                   go_upto_region 19 with (fail)
                   go_cut [54] (fun v54 wc => ∃ (kq : Nat) (x54_37 : Bool), v54 = .bool x54_37 ∧ Aside0 (lanyardref03_Turned.j5 kq a0 a1 x5_1 x6_1 (bt a0 x6_1) (strOfNums y211) x54_37 = some r) ∧ Aside0 (kq ≤ kj33) ∧ Aside0 (Below w.heap.size w wc))
                   case first =>
                    have H := HC38.out
                    clear HC38
                    by_cases c39 : (bt a0 x6_1) = 9
                    ·rw [if_pos c39] at H
                     have c39b0 : ((bt a0 x6_1) == 9) = true := beq_iff_eq.mpr c39
                     have c39b1 : ((bt a0 x6_1) != 9) = false := bne_eq_false_iff_eq.mpr c39
                     clear c39
                     (first | rw [c39b0] | (simp only [i64_w, i32_w]; rw [c39b0]) | skip)
                     have H' := Aside0.mk H
                     clear H
                     go_wp2
                     go_meet
                     case rel => exact ⟨_, ((a1 == 1)), (by first | rfl | (simp; done) | (simp [*]; done)), H', ⟨by have := HK1.out; have := HJ17.out; have := HJ25.out; have := HJ29.out; have := HJ33.out; first | omega | exact Nat.le_refl _⟩, ⟨Bu HB⟩⟩
                    ·rw [if_neg c39] at H
                     have c39b0 : ((bt a0 x6_1) == 9) = false := beq_eq_false_iff_ne.mpr c39
                     have c39b1 : ((bt a0 x6_1) != 9) = true := bne_iff_ne.mpr c39
                     (first | rw [c39b0] | (simp only [i64_w, i32_w]; rw [c39b0]) | skip)
                     have H' := Aside0.mk H
                     clear H
                     go_wp2
                     go_meet
                     case rel => exact ⟨_, (false), (by first | rfl | (simp; done) | (simp [*]; done)), H', ⟨by have := HK1.out; have := HJ17.out; have := HJ25.out; have := HJ29.out; have := HJ33.out; first | omega | exact Nat.le_refl _⟩, ⟨Bu HB⟩⟩
                   case rest =>
                    clear HC38
                    try clear c1
                    try clear hcv1
                    try clear c2
                    try clear p2
                    try clear hcv2
                    try clear c3
                    try clear c3b0
                    try clear c4
                    try clear c4b0
                    try clear p5
                    try clear q5
                    try clear hx5
                    try clear c6
                    try clear c6b0
                    try clear c6b1
                    try clear p6
                    try clear c7
                    try clear c7b0
                    try clear c7b1
                    try clear c7b2
                    try clear hcv10
                    try clear hcv11
                    try clear c12
                    try clear c12b0
                    try clear c12b1
                    try clear c13
                    try clear c13b0
                    try clear c13b1
                    try clear c13b2
                    try clear hcv16
                    try clear hcv17
                    try clear hcv21
                    try clear hcv22
                    try clear c23
                    try clear c23b0
                    try clear c23b1
                    try clear c24
                    try clear c25
                    try clear c25b0
                    try clear c25b1
                    try clear c25b2
                    try clear c27
                    try clear c27b0
                    try clear c27b1
                    try clear c28
                    try clear c29
                    try clear c29b0
                    try clear c29b1
                    try clear c29b2
                    try clear c31
                    try clear c31b0
                    try clear c31b1
                    try clear c32
                    try clear c33
                    try clear c33b0
                    try clear c33b1
                    try clear c33b2
                    try clear c35
                    try clear c35b0
                    try clear c35b1
                    try clear c36
                    try clear c37
                    try clear c37b0
                    try clear c37b1
                    try clear c37b2
                    try clear c39
                    try clear c39b0
                    try clear c39b1
                    try clear p2
                    try clear p5
                    try clear p6
                    try clear q5
                    obtain ⟨kq, x54_37, rfl, HA, HJ37, HB⟩ := hcut
                    cases kq with
                    | zero => exact absurd HA.out (by simp [lanyardref03_Turned.j5])
                    | succ kj37 =>
                     have H := HA.out
                     clear HA
                     simp only [lanyardref03_Turned.j5] at H
                     refine (Classical.em (x54_37 = true)).elim (fun c40 => ?a81_) (fun c40 => ?b81_)
                     case' a81_ =>
                      subst c40
                      have H1 : (if x5_1.size + 5 ≤ 9223372036854775807 then (lanyardref03_Turned.l0 kj37 a0 a1 (x5_1 ++ (⟨#[38, 35, 120, 57, 59]⟩ : ByteArray)) (wrap64 (x6_1 + 1))) else (none)) = some r := by rw [if_pos rfl] at H; exact H
                      clear H
                      have H := H1
                      clear H1
                      by_cases c41 : x5_1.size + 5 ≤ 9223372036854775807
                      ·rw [if_pos c41] at H
                       have c41b0 := eq_true c41
                       have c41b1 : decide (x5_1.size + 5 ≤ 9223372036854775807) = true := decide_eq_true c41
                       try have c41b2 : (9223372036854775807 < x5_1.size + 5) = False := eq_false (Nat.not_lt.2 c41)
                       have H' := Aside0.mk H
                       clear H
                       go_wp2
                       go_roundg kj37
                       case measure => have := HK1.out; have := HJ17.out; have := HJ25.out; have := HJ29.out; have := HJ33.out; have := HJ37.out; omega
                       case rel => exact ⟨(x5_1 ++ (⟨#[38, 35, 120, 57, 59]⟩ : ByteArray)), (wrap64 (x6_1 + 1)), (by first | rfl | (simp; done) | (simp [*]; done)), (by first | rfl | (simp; done) | (simp [*]; done)), H', ⟨by have := HK1.out; have := HJ17.out; have := HJ25.out; have := HJ29.out; have := HJ33.out; have := HJ37.out; omega⟩, ⟨Bu HB⟩⟩
                      ·rw [if_neg c41] at H
                       exact absurd H (by simp)
                     case' b81_ =>
                      replace c40 := Bool.eq_false_iff.mpr c40
                      subst c40
                      have H1 : (if (bt a0 x6_1) = 10 then (if a1 = 1 then (if x5_1.size + 5 ≤ 9223372036854775807 then (lanyardref03_Turned.l0 kj37 a0 a1 (x5_1 ++ (⟨#[38, 35, 120, 65, 59]⟩ : ByteArray)) (wrap64 (x6_1 + 1))) else (none)) else (if x5_1.size + (strOfNums y211).size ≤ 9223372036854775807 then (lanyardref03_Turned.l0 kj37 a0 a1 (x5_1 ++ (strOfNums y211)) (wrap64 (x6_1 + 1))) else (none))) else (if x5_1.size + (strOfNums y211).size ≤ 9223372036854775807 then (lanyardref03_Turned.l0 kj37 a0 a1 (x5_1 ++ (strOfNums y211)) (wrap64 (x6_1 + 1))) else (none))) = some r := by rw [if_neg (show ¬ (false = true) by decide)] at H; exact H
                      clear H
                      have H := H1
                      clear H1
                      refine (Classical.em ((bt a0 x6_1) = 10)).elim (fun c42 => ?a82_) (fun c42 => ?b82_)
                      case' a82_ =>
                       rw [if_pos c42] at H
                       have c42b0 : ((bt a0 x6_1) == 10) = true := beq_iff_eq.mpr c42
                       have c42b1 : ((bt a0 x6_1) != 10) = false := bne_eq_false_iff_eq.mpr c42
                       clear c42
                       refine (Classical.em (a1 = 1)).elim (fun c43 => ?a83_) (fun c43 => ?b83_)
                       case' a83_ =>
                        rw [if_pos c43] at H
                        have c43b0 : (a1 == 1) = true := beq_iff_eq.mpr c43
                        have c43b1 : (a1 != 1) = false := bne_eq_false_iff_eq.mpr c43
                        clear c43
                        by_cases c44 : x5_1.size + 5 ≤ 9223372036854775807
                        ·rw [if_pos c44] at H
                         have c44b0 := eq_true c44
                         have c44b1 : decide (x5_1.size + 5 ≤ 9223372036854775807) = true := decide_eq_true c44
                         try have c44b2 : (9223372036854775807 < x5_1.size + 5) = False := eq_false (Nat.not_lt.2 c44)
                         have H' := Aside0.mk H
                         clear H
                         go_wp2
                         go_roundg kj37
                         case measure => have := HK1.out; have := HJ17.out; have := HJ25.out; have := HJ29.out; have := HJ33.out; have := HJ37.out; omega
                         case rel => exact ⟨(x5_1 ++ (⟨#[38, 35, 120, 65, 59]⟩ : ByteArray)), (wrap64 (x6_1 + 1)), (by first | rfl | (simp; done) | (simp [*]; done)), (by first | rfl | (simp; done) | (simp [*]; done)), H', ⟨by have := HK1.out; have := HJ17.out; have := HJ25.out; have := HJ29.out; have := HJ33.out; have := HJ37.out; omega⟩, ⟨Bu HB⟩⟩
                        ·rw [if_neg c44] at H
                         exact absurd H (by simp)
                       case' b83_ =>
                        rw [if_neg c43] at H
                        have c43b0 : (a1 == 1) = false := beq_eq_false_iff_ne.mpr c43
                        have c43b1 : (a1 != 1) = true := bne_iff_ne.mpr c43
                        refine (Classical.em (x5_1.size + (strOfNums y211).size ≤ 9223372036854775807)).elim (fun c45 => ?a84_) (fun c45 => ?b84_)
                        case' a84_ =>
                         rw [if_pos c45] at H
                         have c45b0 := eq_true c45
                         have c45b1 : decide (x5_1.size + (strOfNums y211).size ≤ 9223372036854775807) = true := decide_eq_true c45
                         try have c45b2 : (9223372036854775807 < x5_1.size + (strOfNums y211).size) = False := eq_false (Nat.not_lt.2 c45)
                         have H' := Aside0.mk H
                         clear H
                        case' b84_ =>
                         rw [if_neg c45] at H
                         exact absurd H (by simp)
                      case' b82_ =>
                       rw [if_neg c42] at H
                       have c42b0 : ((bt a0 x6_1) == 10) = false := beq_eq_false_iff_ne.mpr c42
                       have c42b1 : ((bt a0 x6_1) != 10) = true := bne_iff_ne.mpr c42
                       refine (Classical.em (x5_1.size + (strOfNums y211).size ≤ 9223372036854775807)).elim (fun c46 => ?a85_) (fun c46 => ?b85_)
                       case' a85_ =>
                        rw [if_pos c46] at H
                        have c46b0 := eq_true c46
                        have c46b1 : decide (x5_1.size + (strOfNums y211).size ≤ 9223372036854775807) = true := decide_eq_true c46
                        try have c46b2 : (9223372036854775807 < x5_1.size + (strOfNums y211).size) = False := eq_false (Nat.not_lt.2 c46)
                        have H' := Aside0.mk H
                        clear H
                       case' b85_ =>
                        rw [if_neg c46] at H
                        exact absurd H (by simp)
                     case a82_ | b82_ =>
                      go_wp2
                      go_roundg kj37
                      case measure => have := HK1.out; have := HJ17.out; have := HJ25.out; have := HJ29.out; have := HJ33.out; have := HJ37.out; omega
                      case rel => exact ⟨(x5_1 ++ (strOfNums y211)), (wrap64 (x6_1 + 1)), (by first | rfl | (simp; done) | (simp [*]; done)), (by first | rfl | (simp; done) | (simp [*]; done)), H', ⟨by have := HK1.out; have := HJ17.out; have := HJ25.out; have := HJ29.out; have := HJ33.out; have := HJ37.out; omega⟩, ⟨Bu HB⟩⟩
    ·rw [if_neg c4] at H
     exact absurd H (by simp)
   ·rw [if_neg c3] at H
    have c3b0 : decide (x6_1 < (a0.size : Int)) = false := decide_eq_false c3
    clear c3
    obtain rfl := Option.some.inj H
    go_wp2
    go_ret
    exact ⟨rfl_, Bu HB⟩

end Go.Proofs.YtjmcdocoogdbiaaDoor.Hp
