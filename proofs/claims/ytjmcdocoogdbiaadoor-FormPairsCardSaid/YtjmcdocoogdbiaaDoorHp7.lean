/- Go functions of this seat as Lean functions, and their contracts: what the Go code computes, for every input. (By hp.py, a program of this repo, over the kit's print.py.) -/
import Derived.Test.YtjmcdocoogdbiaaDoorHp0
import Derived.Test.YtjmcdocoogdbiaaDoorHp5
namespace Go.Proofs.YtjmcdocoogdbiaaDoor.Hp
open Go.RowKit Go.Proofs.YtjmcdocoogdbiaaDoorW.PrintWords Go.Proofs.YtjmcdocoogdbiaaDoorW.PrintLast Go.Proofs.YtjmcdocoogdbiaaDoorW.PrintMore
attribute [local go_sem] max2_int min2_int max_two min_two max_three min_three max_four min_four   -- for this text's walks alone
set_option linter.unusedVariables false
set_option linter.unusedSimpArgs false

/-! ### lanyardref03_ParseQuery: function 14 -/
mutual
def lanyardref03_ParseQuery.l0 : Nat → ByteArray → List ByteArray → Int → Int → Option ((List (S40)) × Int)
 | 0, _, _, _, _ => none
 | k + 1, x0, x4, x5, x6 => if x6 ≤ (x0.size : Int) then (if x6 = (x0.size : Int) then (lanyardref03_ParseQuery.j1 k x0 x4 x5 x6 true) else (if 0 ≤ x6 then (if x6 < (x0.size : Int) then (lanyardref03_ParseQuery.j1 k x0 x4 x5 x6 ((bt x0 x6) == 38)) else (none)) else (none))) else (if (x4.length : Int) > 64 then (some (([] : List (S40)), 12)) else (lanyardref03_ParseQuery.l1 k x4 ([] : List (S40)) 0))
def lanyardref03_ParseQuery.j1 : Nat → ByteArray → List ByteArray → Int → Int → Bool → Option ((List (S40)) × Int)
 | 0, _, _, _, _, _ => none
 | k + 1, x0, x4, x5, x6, x29 => if x29 = true then (if x6 > x5 then (if 0 ≤ x5 then (if x5 ≤ x6 then (if x6 ≤ (x0.size : Int) then (if x4.length < 8796093022208 then (lanyardref03_ParseQuery.l0 k x0 (x4 ++ [x0.extract (x5 : Int).toNat (x6 : Int).toNat]) (wrap64 (x6 + 1)) (wrap64 (x6 + 1))) else (none)) else (none)) else (none)) else (none)) else (lanyardref03_ParseQuery.l0 k x0 x4 (wrap64 (x6 + 1)) (wrap64 (x6 + 1)))) else (lanyardref03_ParseQuery.l0 k x0 x4 x5 (wrap64 (x6 + 1)))
def lanyardref03_ParseQuery.l1 : Nat → List ByteArray → List (S40) → Int → Option ((List (S40)) × Int)
 | 0, _, _, _ => none
 | k + 1, x4, x7, x8 => if x8 < (x4.length : Int) then (lanyardref03_ParseQuery.l2 k x4 x7 x8 0) else (some (x7, 0))
def lanyardref03_ParseQuery.j4 : Nat → List ByteArray → List (S40) → Int → Int → Option ((List (S40)) × Int)
 | 0, _, _, _, _ => none
 | k + 1, x4, x7, x8, x9 => if 0 ≤ x8 then (if x8 < (x4.length : Int) then (if 0 ≤ x9 then (if x9 ≤ ((rdOf ByteArray.empty x4 x8).size : Int) then ((lanyardref03_Unpercent.f k ((rdOf ByteArray.empty x4 x8).extract 0 (x9 : Int).toNat) true).bind fun bt176 => (if x9 < ((rdOf ByteArray.empty x4 x8).size : Int) then (if 0 ≤ (wrap64 (x9 + 1)) then (if (wrap64 (x9 + 1)) ≤ ((rdOf ByteArray.empty x4 x8).size : Int) then ((lanyardref03_Unpercent.f k ((rdOf ByteArray.empty x4 x8).extract ((wrap64 (x9 + 1)) : Int).toNat (rdOf ByteArray.empty x4 x8).size) true).bind fun bt180 => (if bt176.2 = true then (if bt180.2 = true then (if x7.length < 4398046511104 then (lanyardref03_ParseQuery.l1 k x4 (x7 ++ [(⟨bt176.1, bt180.1⟩ : S40)]) (wrap64 (x8 + 1))) else (none)) else (some (([] : List (S40)), 10))) else (some (([] : List (S40)), 10)))) else (none)) else (none)) else (if bt176.2 = true then (if x7.length < 4398046511104 then (lanyardref03_ParseQuery.l1 k x4 (x7 ++ [(⟨bt176.1, (⟨#[]⟩ : ByteArray)⟩ : S40)]) (wrap64 (x8 + 1))) else (none)) else (some (([] : List (S40)), 10))))) else (none)) else (none)) else (none)) else (none)
def lanyardref03_ParseQuery.l2 : Nat → List ByteArray → List (S40) → Int → Int → Option ((List (S40)) × Int)
 | 0, _, _, _, _ => none
 | k + 1, x4, x7, x8, x9 => if 0 ≤ x8 then (if x8 < (x4.length : Int) then (if x9 < ((rdOf ByteArray.empty x4 x8).size : Int) then (if 0 ≤ x9 then (if (bt (rdOf ByteArray.empty x4 x8) x9) = 61 then (lanyardref03_ParseQuery.j4 k x4 x7 x8 x9) else (lanyardref03_ParseQuery.l2 k x4 x7 x8 (wrap64 (x9 + 1)))) else (none)) else (lanyardref03_ParseQuery.j4 k x4 x7 x8 x9)) else (none)) else (none)
end
def lanyardref03_ParseQuery.f (k : Nat) (a0 : ByteArray) : Option ((List (S40)) × Int) := lanyardref03_ParseQuery.l0 k a0 ([] : List ByteArray) 0 0
theorem lanyardref03_ParseQuery.mono_l : ∀ k, (∀ y0 y1 y2 y3, LeO (lanyardref03_ParseQuery.l0 k y0 y1 y2 y3) (lanyardref03_ParseQuery.l0 (k + 1) y0 y1 y2 y3)) ∧ (∀ y0 y1 y2 y3 y4, LeO (lanyardref03_ParseQuery.j1 k y0 y1 y2 y3 y4) (lanyardref03_ParseQuery.j1 (k + 1) y0 y1 y2 y3 y4)) ∧ (∀ y0 y1 y2, LeO (lanyardref03_ParseQuery.l1 k y0 y1 y2) (lanyardref03_ParseQuery.l1 (k + 1) y0 y1 y2)) ∧ (∀ y0 y1 y2 y3, LeO (lanyardref03_ParseQuery.j4 k y0 y1 y2 y3) (lanyardref03_ParseQuery.j4 (k + 1) y0 y1 y2 y3)) ∧ (∀ y0 y1 y2 y3, LeO (lanyardref03_ParseQuery.l2 k y0 y1 y2 y3) (lanyardref03_ParseQuery.l2 (k + 1) y0 y1 y2 y3))
 | 0 => ⟨fun _ _ _ _ r h => by simp [lanyardref03_ParseQuery.l0] at h, fun _ _ _ _ _ r h => by simp [lanyardref03_ParseQuery.j1] at h, fun _ _ _ r h => by simp [lanyardref03_ParseQuery.l1] at h, fun _ _ _ _ r h => by simp [lanyardref03_ParseQuery.j4] at h, fun _ _ _ _ r h => by simp [lanyardref03_ParseQuery.l2] at h⟩
 | k + 1 => by
  obtain ⟨ih0, ih1, ih2, ih3, ih4⟩ := lanyardref03_ParseQuery.mono_l k
  refine ⟨?_, ?_, ?_, ?_, ?_⟩
  ·intro y0 y1 y2 y3
   unfold lanyardref03_ParseQuery.l0
   repeat' first
   | (with_reducible exact ih0 _ _ _ _)
   | (with_reducible exact ih1 _ _ _ _ _)
   | (with_reducible exact ih2 _ _ _)
   | (with_reducible exact ih3 _ _ _ _)
   | (with_reducible exact ih4 _ _ _ _)
   | (with_reducible exact lanyardref03_Unpercent.mono _ _ _)
   | (with_reducible exact LeO.refl _)
   | (with_reducible exact LeO.none _)
   | (with_reducible refine LeO.ite ?_ ?_)
   | (with_reducible refine LeO.bind ?_ (fun _ => ?_))
   | exact ih0 _ _ _ _
   | exact ih1 _ _ _ _ _
   | exact ih2 _ _ _
   | exact ih3 _ _ _ _
   | exact ih4 _ _ _ _
   | exact lanyardref03_Unpercent.mono _ _ _
   | exact LeO.none _
   | refine LeO.ite ?_ ?_
   | refine LeO.bind ?_ (fun _ => ?_)
  ·intro y0 y1 y2 y3 y4
   unfold lanyardref03_ParseQuery.j1
   repeat' first
   | (with_reducible exact ih0 _ _ _ _)
   | (with_reducible exact ih1 _ _ _ _ _)
   | (with_reducible exact ih2 _ _ _)
   | (with_reducible exact ih3 _ _ _ _)
   | (with_reducible exact ih4 _ _ _ _)
   | (with_reducible exact lanyardref03_Unpercent.mono _ _ _)
   | (with_reducible exact LeO.refl _)
   | (with_reducible exact LeO.none _)
   | (with_reducible refine LeO.ite ?_ ?_)
   | (with_reducible refine LeO.bind ?_ (fun _ => ?_))
   | exact ih0 _ _ _ _
   | exact ih1 _ _ _ _ _
   | exact ih2 _ _ _
   | exact ih3 _ _ _ _
   | exact ih4 _ _ _ _
   | exact lanyardref03_Unpercent.mono _ _ _
   | exact LeO.none _
   | refine LeO.ite ?_ ?_
   | refine LeO.bind ?_ (fun _ => ?_)
  ·intro y0 y1 y2
   unfold lanyardref03_ParseQuery.l1
   repeat' first
   | (with_reducible exact ih0 _ _ _ _)
   | (with_reducible exact ih1 _ _ _ _ _)
   | (with_reducible exact ih2 _ _ _)
   | (with_reducible exact ih3 _ _ _ _)
   | (with_reducible exact ih4 _ _ _ _)
   | (with_reducible exact lanyardref03_Unpercent.mono _ _ _)
   | (with_reducible exact LeO.refl _)
   | (with_reducible exact LeO.none _)
   | (with_reducible refine LeO.ite ?_ ?_)
   | (with_reducible refine LeO.bind ?_ (fun _ => ?_))
   | exact ih0 _ _ _ _
   | exact ih1 _ _ _ _ _
   | exact ih2 _ _ _
   | exact ih3 _ _ _ _
   | exact ih4 _ _ _ _
   | exact lanyardref03_Unpercent.mono _ _ _
   | exact LeO.none _
   | refine LeO.ite ?_ ?_
   | refine LeO.bind ?_ (fun _ => ?_)
  ·intro y0 y1 y2 y3
   unfold lanyardref03_ParseQuery.j4
   repeat' first
   | (with_reducible exact ih0 _ _ _ _)
   | (with_reducible exact ih1 _ _ _ _ _)
   | (with_reducible exact ih2 _ _ _)
   | (with_reducible exact ih3 _ _ _ _)
   | (with_reducible exact ih4 _ _ _ _)
   | (with_reducible exact lanyardref03_Unpercent.mono _ _ _)
   | (with_reducible exact LeO.refl _)
   | (with_reducible exact LeO.none _)
   | (with_reducible refine LeO.ite ?_ ?_)
   | (with_reducible refine LeO.bind ?_ (fun _ => ?_))
   | exact ih0 _ _ _ _
   | exact ih1 _ _ _ _ _
   | exact ih2 _ _ _
   | exact ih3 _ _ _ _
   | exact ih4 _ _ _ _
   | exact lanyardref03_Unpercent.mono _ _ _
   | exact LeO.none _
   | refine LeO.ite ?_ ?_
   | refine LeO.bind ?_ (fun _ => ?_)
  ·intro y0 y1 y2 y3
   unfold lanyardref03_ParseQuery.l2
   repeat' first
   | (with_reducible exact ih0 _ _ _ _)
   | (with_reducible exact ih1 _ _ _ _ _)
   | (with_reducible exact ih2 _ _ _)
   | (with_reducible exact ih3 _ _ _ _)
   | (with_reducible exact ih4 _ _ _ _)
   | (with_reducible exact lanyardref03_Unpercent.mono _ _ _)
   | (with_reducible exact LeO.refl _)
   | (with_reducible exact LeO.none _)
   | (with_reducible refine LeO.ite ?_ ?_)
   | (with_reducible refine LeO.bind ?_ (fun _ => ?_))
   | exact ih0 _ _ _ _
   | exact ih1 _ _ _ _ _
   | exact ih2 _ _ _
   | exact ih3 _ _ _ _
   | exact ih4 _ _ _ _
   | exact lanyardref03_Unpercent.mono _ _ _
   | exact LeO.none _
   | refine LeO.ite ?_ ?_
   | refine LeO.bind ?_ (fun _ => ?_)
theorem lanyardref03_ParseQuery.mono : ∀ a0 k, LeO (lanyardref03_ParseQuery.f k a0) (lanyardref03_ParseQuery.f (k + 1) a0) := by
 intro a0 k
 obtain ⟨ih0, ih1, ih2, ih3, ih4⟩ := lanyardref03_ParseQuery.mono_l k
 unfold lanyardref03_ParseQuery.f
 repeat' first
   | (with_reducible exact ih0 _ _ _ _)
   | (with_reducible exact ih1 _ _ _ _ _)
   | (with_reducible exact ih2 _ _ _)
   | (with_reducible exact ih3 _ _ _ _)
   | (with_reducible exact ih4 _ _ _ _)
   | (with_reducible exact lanyardref03_Unpercent.mono _ _ _)
   | (with_reducible exact LeO.refl _)
   | (with_reducible exact LeO.none _)
   | (with_reducible refine LeO.ite ?_ ?_)
   | (with_reducible refine LeO.bind ?_ (fun _ => ?_))
   | exact ih0 _ _ _ _
   | exact ih1 _ _ _ _ _
   | exact ih2 _ _ _
   | exact ih3 _ _ _ _
   | exact ih4 _ _ _ _
   | exact lanyardref03_Unpercent.mono _ _ _
   | exact LeO.none _
   | refine LeO.ite ?_ ?_
   | refine LeO.bind ?_ (fun _ => ?_)
set_option maxHeartbeats 8000000 in
set_option maxRecDepth 100000 in
theorem lanyardref03_ParseQuery.calls (k : Nat) (a0 : ByteArray) (r1 : List (S40)) (r2 : Int) (w : World) (h : lanyardref03_ParseQuery.f k a0 = some (r1, r2)) :
  Calls Tryd.prog 14 #[.string a0] w fun e w' => ∃ v0_ : Value, e = .returned (.tuple #[v0_, .int .i64 r2]) ∧ Kd.R k40 40 w' w.heap.size (fun _ => True) v0_ r1 ∧ Below w.heap.size w w' := by
 have hu40 := Tryd.underlying40
 have HB := Aside0.mk (Below.refl w.heap.size w)
 have H : (lanyardref03_ParseQuery.l0 k a0 ([] : List ByteArray) 0 0) = some (r1, r2) := h
 clear h
 have H' := Aside0.mk H
 clear H
 go_enter Tryd.func14, Tryd.ntmps14
 go_wp2
 go_loopg [4, 5, 6] k (fun kq v4 v5 v6 w' => ∃ (x4_1 : List ByteArray) (x5_1 : Int) (x6_1 : Int), v5 = .int .i64 x5_1 ∧ v6 = .int .i64 x6_1 ∧ Aside0 (lanyardref03_ParseQuery.l0 kq a0 x4_1 x5_1 x6_1 = some (r1, r2)) ∧ Aside0 (kq ≤ k) ∧ Aside0 (Kd.R Kd.string 9 w' w.heap.size (fun _ => True) v4 x4_1) ∧ Aside0 (Below w.heap.size w w'))
 case atStart => exact ⟨(([] : List ByteArray)), (0), (0), (by first | rfl | (simp; done) | (simp [*]; done)), (by first | rfl | (simp; done) | (simp [*]; done)), H', ⟨Nat.le_refl _⟩, ⟨by first | exact Kd.R_nil _ _ _ _ _ | exact Kd.N_nil _ _ _ _ _ | exact Kd.V_nil _ _ _ _ _ | exact Kd.Q_nil _ _ _ _ _ | exact Kd.S_nil _ _ _ _ _⟩, ⟨Bu HB⟩⟩
 case round =>
  clear H'
  try clear c1
  obtain ⟨x4_1, x5_1, x6_1, rfl, rfl, HA, HK1, HO_4, HB⟩ := hrel
  cases gk with
  | zero => exact absurd HA.out (by simp [lanyardref03_ParseQuery.l0])
  | succ k1 =>
   have H := HA.out
   clear HA
   simp only [lanyardref03_ParseQuery.l0] at H
   by_cases c2 : x6_1 ≤ (a0.size : Int)
   ·rw [if_pos c2] at H
    have c2b0 : decide (x6_1 ≤ (a0.size : Int)) = true := decide_eq_true c2
    clear c2
    have HC3 := Aside0.mk H
    clear H
    go_upto_region 6 with (fail)
    go_cut [29] (fun v29 wc => ∃ (kq : Nat) (x29_2 : Bool), v29 = .bool x29_2 ∧ Aside0 (lanyardref03_ParseQuery.j1 kq a0 x4_1 x5_1 x6_1 x29_2 = some (r1, r2)) ∧ Aside0 (kq ≤ k1) ∧ Aside0 (Kd.R Kd.string 9 wc w.heap.size (fun _ => True) u4 x4_1) ∧ Aside0 (Below w.heap.size w wc))
    case first =>
     have H := HC3.out
     clear HC3
     by_cases c4 : x6_1 = (a0.size : Int)
     ·rw [if_pos c4] at H
      have c4b0 : (x6_1 == (a0.size : Int)) = true := beq_iff_eq.mpr c4
      have c4b1 : (x6_1 != (a0.size : Int)) = false := bne_eq_false_iff_eq.mpr c4
      clear c4
      (first | rw [c4b0] | (simp only [i64_w, i32_w]; rw [c4b0]) | skip)
      have H' := Aside0.mk H
      clear H
      go_wp2
      go_meet
      case rel => exact ⟨_, (true), (by first | rfl | (simp; done) | (simp [*]; done)), H', ⟨by have := HK1.out; first | omega | exact Nat.le_refl _⟩, ⟨Ru HO_4⟩, ⟨Bu HB⟩⟩
     ·rw [if_neg c4] at H
      have c4b0 : (x6_1 == (a0.size : Int)) = false := beq_eq_false_iff_ne.mpr c4
      have c4b1 : (x6_1 != (a0.size : Int)) = true := bne_iff_ne.mpr c4
      (first | rw [c4b0] | (simp only [i64_w, i32_w]; rw [c4b0]) | skip)
      by_cases c5 : 0 ≤ x6_1
      ·rw [if_pos c5] at H
       have c5b0 : decide (0 ≤ x6_1) = true := decide_eq_true c5
       clear c5
       by_cases c6 : x6_1 < (a0.size : Int)
       ·rw [if_pos c6] at H
        have c6b0 : decide (x6_1 < (a0.size : Int)) = true := decide_eq_true c6
        clear c6
        have H' := Aside0.mk H
        clear H
        have p7 : 0 ≤ (x6_1 : Int) := of_decide_eq_true (by first | (with_reducible assumption) | assumption)
        have q7 : x6_1 < (a0.size : Int) := of_decide_eq_true (by first | (with_reducible assumption) | assumption)
        have hx7 := bt_at a0 x6_1
        replace p7 := eq_true p7
        replace q7 := eq_true q7
        go_wp2
        go_meet
        case rel => exact ⟨_, (((bt a0 x6_1) == 38)), (by first | rfl | (simp; done) | (simp [*]; done)), H', ⟨by have := HK1.out; first | omega | exact Nat.le_refl _⟩, ⟨Ru HO_4⟩, ⟨Bu HB⟩⟩
       ·rw [if_neg c6] at H
        exact absurd H (by simp)
      ·rw [if_neg c5] at H
       exact absurd H (by simp)
    case rest =>
     clear HC3
     try clear c1
     try clear c2
     try clear c2b0
     try clear p2
     try clear c4
     try clear c4b0
     try clear c4b1
     try clear c5
     try clear c5b0
     try clear c6
     try clear c6b0
     try clear p7
     try clear q7
     try clear hx7
     try clear p7
     try clear q7
     obtain ⟨kq, x29_2, rfl, HA, HJ2, HO_4, HB⟩ := hcut
     cases kq with
     | zero => exact absurd HA.out (by simp [lanyardref03_ParseQuery.j1])
     | succ kj2 =>
      have H := HA.out
      clear HA
      simp only [lanyardref03_ParseQuery.j1] at H
      by_cases c8 : x29_2 = true
      ·subst c8
       have H1 : (if x6_1 > x5_1 then (if 0 ≤ x5_1 then (if x5_1 ≤ x6_1 then (if x6_1 ≤ (a0.size : Int) then (if x4_1.length < 8796093022208 then (lanyardref03_ParseQuery.l0 kj2 a0 (x4_1 ++ [a0.extract (x5_1 : Int).toNat (x6_1 : Int).toNat]) (wrap64 (x6_1 + 1)) (wrap64 (x6_1 + 1))) else (none)) else (none)) else (none)) else (none)) else (lanyardref03_ParseQuery.l0 kj2 a0 x4_1 (wrap64 (x6_1 + 1)) (wrap64 (x6_1 + 1)))) = some (r1, r2) := by rw [if_pos rfl] at H; exact H
       clear H
       have H := H1
       clear H1
       by_cases c9 : x6_1 > x5_1
       ·rw [if_pos c9] at H
        have c9b0 : decide (x5_1 < x6_1) = true := decide_eq_true c9
        clear c9
        by_cases c10 : 0 ≤ x5_1
        ·rw [if_pos c10] at H
         have c10b0 := eq_true c10
         have c10b1 : decide (0 ≤ x5_1) = true := decide_eq_true c10
         clear c10
         by_cases c11 : x5_1 ≤ x6_1
         ·rw [if_pos c11] at H
          have c11b0 := eq_true c11
          have c11b1 : decide (x5_1 ≤ x6_1) = true := decide_eq_true c11
          clear c11
          by_cases c12 : x6_1 ≤ (a0.size : Int)
          ·rw [if_pos c12] at H
           have c12b0 := eq_true c12
           have c12b1 : decide (x6_1 ≤ (a0.size : Int)) = true := decide_eq_true c12
           clear c12
           by_cases c13 : x4_1.length < 8796093022208
           ·rw [if_pos c13] at H
            have LMc13 := Aside0.mk c13
            clear c13
            obtain ⟨y170, hy170⟩ : ∃ y_ : List ByteArray, y_ = (x4_1 ++ [a0.extract (x5_1 : Int).toNat (x6_1 : Int).toNat]) := ⟨_, rfl⟩
            replace H : (lanyardref03_ParseQuery.l0 kj2 a0 y170 (wrap64 (x6_1 + 1)) (wrap64 (x6_1 + 1))) = some (r1, r2) := by first | (rw [hy170]; with_reducible exact H) | (have H2_ := (Option.bind_some _ _).symm.trans H; rw [hy170]; with_reducible exact H2_) | (have H2_ := (Option.bind_some _ _).symm.trans H; with_reducible exact H2_) | with_reducible exact H | (rw [hy170]; exact H) | exact H
            have Ny170 := Aside0.mk hy170
            clear hy170
            have H' := Aside0.mk H
            clear H
            go_wp2_with (first | ((with_reducible refine gate_builtin (b := .append) (xs := #[.tmp 33, .tmp 38]) rfl ?_); at_builtin; refine Kd.R_append Kd.string (w0 := w) w.heap.size rfl (.tmp 33) (.tmp 38) 59 9 (.string ⟨#[]⟩) 16 rfl Tryd.underlying59 info9 rfl (by decide) (by omega) u4 x4_1 (a0.extract (x5_1 : Int).toNat (x6_1 : Int).toNat) [.string (a0.extract (x5_1 : Int).toNat (x6_1 : Int).toNat)] (fun _ => True) (fun _ => False) rfl rfl ?aP (fun _ hk => hk.elim) ?aF ?aO ?aB ?aS ?aL ?_; (case aP => exact rfl); (case aB => exact (Bu HB)); (case aF => exact (fun _ _ => trivial)); (case aO => exact (Ru HO_4)); (case aS => exact (Bz HB)); (case aL => have := LMc13.out; omega); intro v171 w14 ho hb hg hat; rw [← Ny170.out] at ho; have n0_ := Aside0.mk (hb); have n1_ := Aside0.mk (ho); clear HB HO_4; revert n0_ n1_; intro HB HO172; clear ho hb hg hat))
            go_roundg kj2
            case measure => have := HK1.out; have := HJ2.out; omega
            case rel => exact ⟨(y170), (wrap64 (x6_1 + 1)), (wrap64 (x6_1 + 1)), (by first | rfl | (simp; done) | (simp [*]; done)), (by first | rfl | (simp; done) | (simp [*]; done)), H', ⟨by have := HK1.out; have := HJ2.out; omega⟩, ⟨Ru HO172⟩, ⟨Bu HB⟩⟩
           ·rw [if_neg c13] at H
            exact absurd H (by simp)
          ·rw [if_neg c12] at H
           exact absurd H (by simp)
         ·rw [if_neg c11] at H
          exact absurd H (by simp)
        ·rw [if_neg c10] at H
         exact absurd H (by simp)
       ·rw [if_neg c9] at H
        have c9b0 : decide (x5_1 < x6_1) = false := decide_eq_false c9
        clear c9
        have H' := Aside0.mk H
        clear H
        go_wp2
        go_roundg kj2
        case measure => have := HK1.out; have := HJ2.out; omega
        case rel => exact ⟨(x4_1), (wrap64 (x6_1 + 1)), (wrap64 (x6_1 + 1)), (by first | rfl | (simp; done) | (simp [*]; done)), (by first | rfl | (simp; done) | (simp [*]; done)), H', ⟨by have := HK1.out; have := HJ2.out; omega⟩, ⟨Ru HO_4⟩, ⟨Bu HB⟩⟩
      ·replace c8 := Bool.eq_false_iff.mpr c8
       subst c8
       have H1 : (lanyardref03_ParseQuery.l0 kj2 a0 x4_1 x5_1 (wrap64 (x6_1 + 1))) = some (r1, r2) := by rw [if_neg (show ¬ (false = true) by decide)] at H; exact H
       clear H
       have H := H1
       clear H1
       have H' := Aside0.mk H
       clear H
       go_wp2
       go_roundg kj2
       case measure => have := HK1.out; have := HJ2.out; omega
       case rel => exact ⟨(x4_1), (x5_1), (wrap64 (x6_1 + 1)), (by first | rfl | (simp; done) | (simp [*]; done)), (by first | rfl | (simp; done) | (simp [*]; done)), H', ⟨by have := HK1.out; have := HJ2.out; omega⟩, ⟨Ru HO_4⟩, ⟨Bu HB⟩⟩
   ·rw [if_neg c2] at H
    have c2b0 : decide (x6_1 ≤ (a0.size : Int)) = false := decide_eq_false c2
    clear c2
    by_cases c15 : (x4_1.length : Int) > 64
    ·rw [if_pos c15] at H
     have c15b0 : decide (64 < (x4_1.length : Int)) = true := decide_eq_true c15
     have c15b1 : decide (64 < x4_1.length) = true := decide_eq_true (by omega)
     clear c15
     simp only [Option.some.injEq, Prod.mk.injEq] at H
     obtain ⟨rfl, rfl⟩ := H
     obtain ⟨Ao16, co16, eo16⟩ := Kd.R_slice HO_4.out
     subst eo16
     go_wp2
     go_ret2
     exact ⟨_, rfl_, by first | exact Kd.R_nil _ _ _ _ _ | exact Kd.N_nil _ _ _ _ _ | exact Kd.V_nil _ _ _ _ _ | exact Kd.Q_nil _ _ _ _ _ | exact Kd.S_nil _ _ _ _ _, Bu HB⟩
    ·rw [if_neg c15] at H
     have c15b0 : decide (64 < (x4_1.length : Int)) = false := decide_eq_false c15
     have c15b1 : decide (64 < x4_1.length) = false := decide_eq_false (by omega)
     clear c15
     have H' := Aside0.mk H
     clear H
     obtain ⟨Ao17, co17, eo17⟩ := Kd.R_slice HO_4.out
     subst eo17
     go_wp2
     go_loopg [7, 8] k1 (fun kq v7 v8 w' => ∃ (x7_2 : List (S40)) (x8_2 : Int), v8 = .int .i64 x8_2 ∧ Aside0 (lanyardref03_ParseQuery.l1 kq x4_1 x7_2 x8_2 = some (r1, r2)) ∧ Aside0 (kq ≤ k1) ∧ Aside0 (Kd.R Kd.string 9 w' w.heap.size (fun _ => True) (.slice Ao17 x4_1.length co17) x4_1) ∧ Aside0 (Kd.R k40 40 w' w.heap.size (fun _ => True) v7 x7_2) ∧ Aside0 (Below w.heap.size w w'))
     case atStart => exact ⟨(([] : List (S40))), (0), (by first | rfl | (simp; done) | (simp [*]; done)), H', ⟨Nat.le_refl _⟩, ⟨Ru HO_4⟩, ⟨by first | exact Kd.R_nil _ _ _ _ _ | exact Kd.N_nil _ _ _ _ _ | exact Kd.V_nil _ _ _ _ _ | exact Kd.Q_nil _ _ _ _ _ | exact Kd.S_nil _ _ _ _ _⟩, ⟨Bu HB⟩⟩
     case round =>
      clear H'
      try clear c1
      try clear c2
      try clear c2b0
      try clear p2
      try clear c4
      try clear c4b0
      try clear c4b1
      try clear c5
      try clear c5b0
      try clear c6
      try clear c6b0
      try clear p6
      try clear p7
      try clear q7
      try clear hx7
      try clear c8
      try clear c9
      try clear c9b0
      try clear c10
      try clear c10b0
      try clear c10b1
      try clear c11
      try clear c11b0
      try clear c11b1
      try clear c12
      try clear c12b0
      try clear c12b1
      try clear c13
      try clear c14
      try clear c15
      try clear c15b0
      try clear c15b1
      try clear p2
      try clear p7
      try clear q7
      obtain ⟨x7_2, x8_2, rfl, HA, HK2, HO_4, HO_7, HB⟩ := hrel
      cases gk with
      | zero => exact absurd HA.out (by simp [lanyardref03_ParseQuery.l1])
      | succ k2 =>
       have H := HA.out
       clear HA
       simp only [lanyardref03_ParseQuery.l1] at H
       by_cases c18 : x8_2 < (x4_1.length : Int)
       ·rw [if_pos c18] at H
        have c18b0 : decide (x8_2 < (x4_1.length : Int)) = true := decide_eq_true c18
        clear c18
        have HC19 := Aside0.mk H
        clear H
        go_upto_block 4 with (fail)
        go_cut [9] (fun v9 wc => ∃ (kq : Nat) (x9_18 : Int), v9 = .int .i64 x9_18 ∧ Aside0 (lanyardref03_ParseQuery.j4 kq x4_1 x7_2 x8_2 x9_18 = some (r1, r2)) ∧ Aside0 (kq ≤ k2) ∧ Aside0 (Kd.R Kd.string 9 wc w.heap.size (fun _ => True) (.slice Ao17 x4_1.length co17) x4_1) ∧ Aside0 (Kd.R k40 40 wc w.heap.size (fun _ => True) u7 x7_2) ∧ Aside0 (Below w.heap.size w wc))
        case first =>
         have H := HC19.out
         clear HC19
         have H' := Aside0.mk H
         clear H
         go_wp2
         go_loopg [9] k2 (fun kq v9 w' => ∃ (x9_3 : Int), v9 = .int .i64 x9_3 ∧ Aside0 (lanyardref03_ParseQuery.l2 kq x4_1 x7_2 x8_2 x9_3 = some (r1, r2)) ∧ Aside0 (kq ≤ k2) ∧ Aside0 (Kd.R Kd.string 9 w' w.heap.size (fun _ => True) (.slice Ao17 x4_1.length co17) x4_1) ∧ Aside0 (Kd.R k40 40 w' w.heap.size (fun _ => True) u7 x7_2) ∧ Aside0 (Below w.heap.size w w'))
         case atStart => exact ⟨(0), (by first | rfl | (simp; done) | (simp [*]; done)), H', ⟨Nat.le_refl _⟩, ⟨Ru HO_4⟩, ⟨Ru HO_7⟩, ⟨Bu HB⟩⟩
         case round =>
          clear H'
          try clear c1
          try clear c2
          try clear c2b0
          try clear p2
          try clear c4
          try clear c4b0
          try clear c4b1
          try clear c5
          try clear c5b0
          try clear c6
          try clear c6b0
          try clear p6
          try clear p7
          try clear q7
          try clear hx7
          try clear c8
          try clear c9
          try clear c9b0
          try clear c10
          try clear c10b0
          try clear c10b1
          try clear c11
          try clear c11b0
          try clear c11b1
          try clear c12
          try clear c12b0
          try clear c12b1
          try clear c13
          try clear c14
          try clear c15
          try clear c15b0
          try clear c15b1
          try clear c18
          try clear c18b0
          try clear p2
          try clear p6
          try clear p7
          try clear q7
          obtain ⟨x9_3, rfl, HA, HK3, HO_4, HO_7, HB⟩ := hrel
          cases gk with
          | zero => exact absurd HA.out (by simp [lanyardref03_ParseQuery.l2])
          | succ k3 =>
           have H := HA.out
           clear HA
           simp only [lanyardref03_ParseQuery.l2] at H
           refine (Classical.em (0 ≤ x8_2)).elim (fun c20 => ?a65_) (fun c20 => ?b65_)
           case' a65_ =>
            rw [if_pos c20] at H
            have c20b0 : decide (0 ≤ x8_2) = true := decide_eq_true c20
            clear c20
            (first | rw [c20b0] | (simp only [i64_w, i32_w]; rw [c20b0]) | skip)
            refine (Classical.em (x8_2 < (x4_1.length : Int))).elim (fun c21 => ?a66_) (fun c21 => ?b66_)
            case' a66_ =>
             rw [if_pos c21] at H
             have c21b0 : decide (x8_2 < (x4_1.length : Int)) = true := decide_eq_true c21
             clear c21
             refine (Classical.em (x9_3 < ((rdOf ByteArray.empty x4_1 x8_2).size : Int))).elim (fun c22 => ?a67_) (fun c22 => ?b67_)
             case' a67_ =>
              rw [if_pos c22] at H
              have c22b0 : decide (x9_3 < ((rdOf ByteArray.empty x4_1 x8_2).size : Int)) = true := decide_eq_true c22
              clear c22
              refine (Classical.em (0 ≤ x9_3)).elim (fun c23 => ?a68_) (fun c23 => ?b68_)
              case' a68_ =>
               rw [if_pos c23] at H
               have c23b0 : decide (0 ≤ x9_3) = true := decide_eq_true c23
               clear c23
               refine (Classical.em ((bt (rdOf ByteArray.empty x4_1 x8_2) x9_3) = 61)).elim (fun c25 => ?a69_) (fun c25 => ?b69_)
               case' a69_ =>
                rw [if_pos c25] at H
                have c25b0 : ((bt (rdOf ByteArray.empty x4_1 x8_2) x9_3) == 61) = true := beq_iff_eq.mpr c25
                have c25b1 : ((bt (rdOf ByteArray.empty x4_1 x8_2) x9_3) != 61) = false := bne_eq_false_iff_eq.mpr c25
                clear c25
                have H' := Aside0.mk H
                clear H
                have p173 : 0 ≤ (x8_2 : Int) := of_decide_eq_true (by first | (with_reducible assumption) | assumption)
                have q173 : x8_2 < (x4_1.length : Int) := of_decide_eq_true (by first | (with_reducible assumption) | assumption)
                obtain ⟨ad173, e173, hx173_0⟩ := Kd.at_string (Kd.R_reads' HO_4.out).2.2 x8_2 p173 q173
                cases e173
                replace p173 := eq_true p173
                replace q173 := eq_true q173
                have p174 : 0 ≤ (x8_2 : Int) := of_decide_eq_true (by first | (with_reducible assumption) | assumption)
                have q174 : x8_2 < (x4_1.length : Int) := of_decide_eq_true (by first | (with_reducible assumption) | assumption)
                obtain ⟨ad174, e174, hx174_0⟩ := Kd.at_string (Kd.R_reads' HO_4.out).2.2 x8_2 p174 q174
                obtain rfl : ad173 = ad174 := (by injection e174)
                replace p174 := eq_true p174
                replace q174 := eq_true q174
                have p24 : 0 ≤ (x9_3 : Int) := of_decide_eq_true (by first | (with_reducible assumption) | assumption)
                have q24 : x9_3 < ((rdOf ByteArray.empty x4_1 x8_2).size : Int) := of_decide_eq_true (by first | (with_reducible assumption) | assumption)
                have hx24 := bt_at (rdOf ByteArray.empty x4_1 x8_2) x9_3
                replace p24 := eq_true p24
                replace q24 := eq_true q24
               case' b69_ =>
                rw [if_neg c25] at H
                have c25b0 : ((bt (rdOf ByteArray.empty x4_1 x8_2) x9_3) == 61) = false := beq_eq_false_iff_ne.mpr c25
                have c25b1 : ((bt (rdOf ByteArray.empty x4_1 x8_2) x9_3) != 61) = true := bne_iff_ne.mpr c25
                have H' := Aside0.mk H
                clear H
                have p173 : 0 ≤ (x8_2 : Int) := of_decide_eq_true (by first | (with_reducible assumption) | assumption)
                have q173 : x8_2 < (x4_1.length : Int) := of_decide_eq_true (by first | (with_reducible assumption) | assumption)
                obtain ⟨ad173, e173, hx173_0⟩ := Kd.at_string (Kd.R_reads' HO_4.out).2.2 x8_2 p173 q173
                cases e173
                replace p173 := eq_true p173
                replace q173 := eq_true q173
                have p174 : 0 ≤ (x8_2 : Int) := of_decide_eq_true (by first | (with_reducible assumption) | assumption)
                have q174 : x8_2 < (x4_1.length : Int) := of_decide_eq_true (by first | (with_reducible assumption) | assumption)
                obtain ⟨ad174, e174, hx174_0⟩ := Kd.at_string (Kd.R_reads' HO_4.out).2.2 x8_2 p174 q174
                obtain rfl : ad173 = ad174 := (by injection e174)
                replace p174 := eq_true p174
                replace q174 := eq_true q174
                have p24 : 0 ≤ (x9_3 : Int) := of_decide_eq_true (by first | (with_reducible assumption) | assumption)
                have q24 : x9_3 < ((rdOf ByteArray.empty x4_1 x8_2).size : Int) := of_decide_eq_true (by first | (with_reducible assumption) | assumption)
                have hx24 := bt_at (rdOf ByteArray.empty x4_1 x8_2) x9_3
                replace p24 := eq_true p24
                replace q24 := eq_true q24
                go_wp2
                go_roundg k3
                case measure => have := HK1.out; have := HK2.out; have := HK3.out; omega
                case rel => exact ⟨(wrap64 (x9_3 + 1)), (by first | rfl | (simp; done) | (simp [*]; done)), H', ⟨by have := HK1.out; have := HK2.out; have := HK3.out; omega⟩, ⟨Ru HO_4⟩, ⟨Ru HO_7⟩, ⟨Bu HB⟩⟩
              case' b68_ =>
               rw [if_neg c23] at H
               exact absurd H (by simp)
             case' b67_ =>
              rw [if_neg c22] at H
              have c22b0 : decide (x9_3 < ((rdOf ByteArray.empty x4_1 x8_2).size : Int)) = false := decide_eq_false c22
              clear c22
              have H' := Aside0.mk H
              clear H
              have p173 : 0 ≤ (x8_2 : Int) := of_decide_eq_true (by first | (with_reducible assumption) | assumption)
              have q173 : x8_2 < (x4_1.length : Int) := of_decide_eq_true (by first | (with_reducible assumption) | assumption)
              obtain ⟨ad173, e173, hx173_0⟩ := Kd.at_string (Kd.R_reads' HO_4.out).2.2 x8_2 p173 q173
              cases e173
              replace p173 := eq_true p173
              replace q173 := eq_true q173
            case' b66_ =>
             rw [if_neg c21] at H
             exact absurd H (by simp)
           case' b65_ =>
            rw [if_neg c20] at H
            exact absurd H (by simp)
           case a67_ | b67_ =>
            go_wp2
            go_meet
            case rel => exact ⟨_, (x9_3), (by first | rfl | (simp; done) | (simp [*]; done)), H', ⟨by have := HK1.out; have := HK2.out; have := HK3.out; first | omega | exact Nat.le_refl _⟩, ⟨Ru HO_4⟩, ⟨Ru HO_7⟩, ⟨Bu HB⟩⟩
        case rest =>
         clear HC19
         try clear c1
         try clear p1
         try clear q1
         try clear hx1
         try clear c2
         try clear c2b0
         try clear p2
         try clear q2
         try clear hx2
         try clear c4
         try clear c4b0
         try clear c4b1
         try clear c5
         try clear c5b0
         try clear c6
         try clear c6b0
         try clear p6
         try clear p7
         try clear q7
         try clear hx7
         try clear c8
         try clear c9
         try clear c9b0
         try clear c10
         try clear c10b0
         try clear c10b1
         try clear c11
         try clear c11b0
         try clear c11b1
         try clear c12
         try clear c12b0
         try clear c12b1
         try clear c13
         try clear c14
         try clear c15
         try clear c15b0
         try clear c15b1
         try clear p17
         try clear q17
         try clear hx17
         try clear c18
         try clear c18b0
         try clear c20
         try clear c20b0
         try clear c21
         try clear c21b0
         try clear c22
         try clear c22b0
         try clear c23
         try clear c23b0
         try clear p24
         try clear q24
         try clear hx24
         try clear c25
         try clear c25b0
         try clear c25b1
         try clear hx173_0
         try clear hx174_0
         try clear p173
         try clear p174
         try clear p2
         try clear p24
         try clear p6
         try clear p7
         try clear q173
         try clear q174
         try clear q24
         try clear q7
         obtain ⟨kq, x9_18, rfl, HA, HJ18, HO_4, HO_7, HB⟩ := hcut
         cases kq with
         | zero => exact absurd HA.out (by simp [lanyardref03_ParseQuery.j4])
         | succ kj18 =>
          have H := HA.out
          clear HA
          simp only [lanyardref03_ParseQuery.j4] at H
          by_cases c26 : 0 ≤ x8_2
          ·rw [if_pos c26] at H
           have c26b0 : decide (0 ≤ x8_2) = true := decide_eq_true c26
           clear c26
           by_cases c27 : x8_2 < (x4_1.length : Int)
           ·rw [if_pos c27] at H
            have c27b0 : decide (x8_2 < (x4_1.length : Int)) = true := decide_eq_true c27
            clear c27
            by_cases c28 : 0 ≤ x9_18
            ·rw [if_pos c28] at H
             have c28b0 := eq_true c28
             have c28b1 : decide (0 ≤ x9_18) = true := decide_eq_true c28
             clear c28
             by_cases c29 : x9_18 ≤ ((rdOf ByteArray.empty x4_1 x8_2).size : Int)
             ·rw [if_pos c29] at H
              have c29b0 := eq_true c29
              have c29b1 : decide (x9_18 ≤ ((rdOf ByteArray.empty x4_1 x8_2).size : Int)) = true := decide_eq_true c29
              clear c29
              replace H := Option.bind_eq_some_iff.mp H
              obtain ⟨⟨t176, t177⟩, A300, H⟩ := H
              replace H : (if x9_18 < ((rdOf ByteArray.empty x4_1 x8_2).size : Int) then (if 0 ≤ (wrap64 (x9_18 + 1)) then (if (wrap64 (x9_18 + 1)) ≤ ((rdOf ByteArray.empty x4_1 x8_2).size : Int) then ((lanyardref03_Unpercent.f kj18 ((rdOf ByteArray.empty x4_1 x8_2).extract ((wrap64 (x9_18 + 1)) : Int).toNat (rdOf ByteArray.empty x4_1 x8_2).size) true).bind fun bt180 => (if t177 = true then (if bt180.2 = true then (if x7_2.length < 4398046511104 then (lanyardref03_ParseQuery.l1 kj18 x4_1 (x7_2 ++ [(⟨t176, bt180.1⟩ : S40)]) (wrap64 (x8_2 + 1))) else (none)) else (some (([] : List (S40)), 10))) else (some (([] : List (S40)), 10)))) else (none)) else (none)) else (if t177 = true then (if x7_2.length < 4398046511104 then (lanyardref03_ParseQuery.l1 kj18 x4_1 (x7_2 ++ [(⟨t176, (⟨#[]⟩ : ByteArray)⟩ : S40)]) (wrap64 (x8_2 + 1))) else (none)) else (some (([] : List (S40)), 10)))) = some (r1, r2) := H
              have A30 := Aside0.mk A300
              clear A300
              by_cases c31 : x9_18 < ((rdOf ByteArray.empty x4_1 x8_2).size : Int)
              ·rw [if_pos c31] at H
               have c31b0 : decide (x9_18 < ((rdOf ByteArray.empty x4_1 x8_2).size : Int)) = true := decide_eq_true c31
               clear c31
               obtain ⟨ji32, hji32⟩ : ∃ j_ : Int, (wrap64 (x9_18 + 1)) = j_ := ⟨_, rfl⟩
               replace H : (if 0 ≤ (ji32) then (if (ji32) ≤ ((rdOf ByteArray.empty x4_1 x8_2).size : Int) then ((lanyardref03_Unpercent.f kj18 ((rdOf ByteArray.empty x4_1 x8_2).extract ((ji32) : Int).toNat (rdOf ByteArray.empty x4_1 x8_2).size) true).bind fun bt180 => (if t177 = true then (if bt180.2 = true then (if x7_2.length < 4398046511104 then (lanyardref03_ParseQuery.l1 kj18 x4_1 (x7_2 ++ [(⟨t176, bt180.1⟩ : S40)]) (wrap64 (x8_2 + 1))) else (none)) else (some (([] : List (S40)), 10))) else (some (([] : List (S40)), 10)))) else (none)) else (none)) = some (r1, r2) := by first | (rw [hji32] at H; exact H) | (simp only [hji32] at H ⊢; exact H)
               (try rw [hji32] at A30)
               have hji32w : (IntKind.i64.wrap (x9_18 + 1)) = ji32 := (i64_w _).trans hji32
               by_cases c33 : 0 ≤ (ji32)
               ·rw [if_pos c33] at H
                have c33b0 := eq_true c33
                have c33b1 : decide (0 ≤ (ji32)) = true := decide_eq_true c33
                clear c33
                by_cases c34 : (ji32) ≤ ((rdOf ByteArray.empty x4_1 x8_2).size : Int)
                ·rw [if_pos c34] at H
                 have c34b0 := eq_true c34
                 have c34b1 : decide ((ji32) ≤ ((rdOf ByteArray.empty x4_1 x8_2).size : Int)) = true := decide_eq_true c34
                 clear c34
                 replace H := Option.bind_eq_some_iff.mp H
                 obtain ⟨⟨t180, t181⟩, A350, H⟩ := H
                 replace H : (if t177 = true then (if t181 = true then (if x7_2.length < 4398046511104 then (lanyardref03_ParseQuery.l1 kj18 x4_1 (x7_2 ++ [(⟨t176, t180⟩ : S40)]) (wrap64 (x8_2 + 1))) else (none)) else (some (([] : List (S40)), 10))) else (some (([] : List (S40)), 10))) = some (r1, r2) := H
                 have A35 := Aside0.mk A350
                 clear A350
                 by_cases c36 : t177 = true
                 ·subst c36
                  have H1 : (if t181 = true then (if x7_2.length < 4398046511104 then (lanyardref03_ParseQuery.l1 kj18 x4_1 (x7_2 ++ [(⟨t176, t180⟩ : S40)]) (wrap64 (x8_2 + 1))) else (none)) else (some (([] : List (S40)), 10))) = some (r1, r2) := by rw [if_pos rfl] at H; exact H
                  clear H
                  have H := H1
                  clear H1
                  by_cases c37 : t181 = true
                  ·subst c37
                   have H1 : (if x7_2.length < 4398046511104 then (lanyardref03_ParseQuery.l1 kj18 x4_1 (x7_2 ++ [(⟨t176, t180⟩ : S40)]) (wrap64 (x8_2 + 1))) else (none)) = some (r1, r2) := by rw [if_pos rfl] at H; exact H
                   clear H
                   have H := H1
                   clear H1
                   by_cases c38 : x7_2.length < 4398046511104
                   ·rw [if_pos c38] at H
                    have LMc38 := Aside0.mk c38
                    clear c38
                    obtain ⟨y182, hy182⟩ : ∃ y_ : List (S40), y_ = (x7_2 ++ [(⟨t176, t180⟩ : S40)]) := ⟨_, rfl⟩
                    replace H : (lanyardref03_ParseQuery.l1 kj18 x4_1 y182 (wrap64 (x8_2 + 1))) = some (r1, r2) := by first | (rw [hy182]; with_reducible exact H) | (have H2_ := (Option.bind_some _ _).symm.trans H; rw [hy182]; with_reducible exact H2_) | (have H2_ := (Option.bind_some _ _).symm.trans H; with_reducible exact H2_) | with_reducible exact H | (rw [hy182]; exact H) | exact H
                    have Ny182 := Aside0.mk hy182
                    clear hy182
                    have H' := Aside0.mk H
                    clear H
                    have p175 : 0 ≤ (x8_2 : Int) := of_decide_eq_true (by first | (with_reducible assumption) | assumption)
                    have q175 : x8_2 < (x4_1.length : Int) := of_decide_eq_true (by first | (with_reducible assumption) | assumption)
                    obtain ⟨ad175, e175, hx175_0⟩ := Kd.at_string (Kd.R_reads' HO_4.out).2.2 x8_2 p175 q175
                    cases e175
                    replace p175 := eq_true p175
                    replace q175 := eq_true q175
                    go_wp2_with (first | ((with_reducible refine gate_callee (f := 11) rfl ?_); refine goesA (some 76) Tryd.func11 #[.string ((rdOf ByteArray.empty x4_1 x8_2).extract 0 (x9_18 : Int).toNat), .bool true] rfl ?_; (with_reducible refine (lanyardref03_Unpercent.calls kj18 ((rdOf ByteArray.empty x4_1 x8_2).extract 0 (x9_18 : Int).toNat) true t176 true _ A30.out).mono ?_); rintro e w39 ⟨rfl, hb⟩; refine ⟨_, rfl, ?_⟩; have n0_ := Rb HO_4 hb; have n1_ := Rb HO_7 hb; have n2_ := Bs HB hb; clear HO_4 HO_7 HB; revert n0_ n1_ n2_; intro HO_4 HO_7 HB; (try clear hb); (try clear hb2); (try clear hk); (try clear hi); have p178 : 0 ≤ (x8_2 : Int) := of_decide_eq_true (by first | (with_reducible assumption) | assumption); have q178 : x8_2 < (x4_1.length : Int) := of_decide_eq_true (by first | (with_reducible assumption) | assumption); obtain ⟨ad178, e178, hx178_0⟩ := Kd.at_string (Kd.R_reads' HO_4.out).2.2 x8_2 p178 q178; obtain rfl : ad175 = ad178 := (by injection e178); replace p178 := eq_true p178; replace q178 := eq_true q178; have p179 : 0 ≤ (x8_2 : Int) := of_decide_eq_true (by first | (with_reducible assumption) | assumption); have q179 : x8_2 < (x4_1.length : Int) := of_decide_eq_true (by first | (with_reducible assumption) | assumption); obtain ⟨ad179, e179, hx179_0⟩ := Kd.at_string (Kd.R_reads' HO_4.out).2.2 x8_2 p179 q179; obtain rfl : ad175 = ad179 := (by injection e179); replace p179 := eq_true p179; replace q179 := eq_true q179) | ((with_reducible refine gate_callee (f := 11) rfl ?_); refine goesL_ (some 94) rfl rfl Tryd.func11 (by kernel_rfl) rfl #[.string ((rdOf ByteArray.empty x4_1 x8_2).extract ((ji32) : Int).toNat (rdOf ByteArray.empty x4_1 x8_2).size), .bool true] rfl (by (try simp only [List.map_toArray, List.map_cons, List.map_nil]); first | done | (simp only [hji32]; rfl) | rfl | (simp only [List.length_drop, List.length_take]; rfl)) ?_; (with_reducible refine (lanyardref03_Unpercent.calls kj18 ((rdOf ByteArray.empty x4_1 x8_2).extract ((ji32) : Int).toNat (rdOf ByteArray.empty x4_1 x8_2).size) true t180 true _ A35.out).mono ?_); rintro e w40 ⟨rfl, hb⟩; refine ⟨_, rfl, ?_⟩; have n0_ := Rb HO_4 hb; have n1_ := Rb HO_7 hb; have n2_ := Bs HB hb; clear HO_4 HO_7 HB; revert n0_ n1_ n2_; intro HO_4 HO_7 HB; (try clear hb); (try clear hb2); (try clear hk); (try clear hi)) | ((with_reducible refine gate_builtin (b := .append) (xs := #[.tmp 103, .tmp 107]) rfl ?_); at_builtin; refine Kd.R_append k40 (w0 := w) w.heap.size rfl (.tmp 103) (.tmp 107) 30 40 (.agg #[(.string ⟨#[]⟩), (.string ⟨#[]⟩)]) 32 rfl Tryd.underlying30 info40 rfl (by decide) (by omega) u7 x7_2 (⟨t176, t180⟩ : S40) [.string t176, .string t180] (fun _ => True) (fun _ => False) rfl rfl ?aP (fun _ hk => hk.elim) ?aF ?aO ?aB ?aS ?aL ?_; (case aP => exact k40_mkM _ _ _ (⟨t176, t180⟩ : S40)); (case aB => exact (Bu HB)); (case aF => exact (fun _ _ => trivial)); (case aO => exact (Ru HO_7)); (case aS => exact (Bz HB)); (case aL => have := LMc38.out; omega); intro v183 w41 ho hb hg hat; rw [← Ny182.out] at ho; have n0_ := Aside0.mk (Kd.R_over' (Ru HO_4) (Kd.R_typed (Ru HO_7)) (by decide) hg); have n1_ := Aside0.mk (hb); have n2_ := Aside0.mk (ho); clear HO_4 HB HO_7; revert n0_ n1_ n2_; intro HO_4 HB HO184; clear ho hb hg hat))
                    go_roundg kj18
                    case measure => have := HK1.out; have := HK2.out; have := HJ18.out; omega
                    case rel => exact ⟨(y182), (wrap64 (x8_2 + 1)), (by first | rfl | (simp; done) | (simp [*]; done)), H', ⟨by have := HK1.out; have := HK2.out; have := HJ18.out; omega⟩, ⟨Ru HO_4⟩, ⟨Ru HO184⟩, ⟨Bu HB⟩⟩
                   ·rw [if_neg c38] at H
                    exact absurd H (by simp)
                  ·replace c37 := Bool.eq_false_iff.mpr c37
                   subst c37
                   have H1 : (some (([] : List (S40)), 10)) = some (r1, r2) := by rw [if_neg (show ¬ (false = true) by decide)] at H; exact H
                   clear H
                   have H := H1
                   clear H1
                   simp only [Option.some.injEq, Prod.mk.injEq] at H
                   obtain ⟨rfl, rfl⟩ := H
                   have p175 : 0 ≤ (x8_2 : Int) := of_decide_eq_true (by first | (with_reducible assumption) | assumption)
                   have q175 : x8_2 < (x4_1.length : Int) := of_decide_eq_true (by first | (with_reducible assumption) | assumption)
                   obtain ⟨ad175, e175, hx175_0⟩ := Kd.at_string (Kd.R_reads' HO_4.out).2.2 x8_2 p175 q175
                   cases e175
                   replace p175 := eq_true p175
                   replace q175 := eq_true q175
                   go_wp2_with (first | ((with_reducible refine gate_callee (f := 11) rfl ?_); refine goesA (some 76) Tryd.func11 #[.string ((rdOf ByteArray.empty x4_1 x8_2).extract 0 (x9_18 : Int).toNat), .bool true] rfl ?_; (with_reducible refine (lanyardref03_Unpercent.calls kj18 ((rdOf ByteArray.empty x4_1 x8_2).extract 0 (x9_18 : Int).toNat) true t176 true _ A30.out).mono ?_); rintro e w42 ⟨rfl, hb⟩; refine ⟨_, rfl, ?_⟩; have n0_ := Rb HO_4 hb; have n1_ := Rb HO_7 hb; have n2_ := Bs HB hb; clear HO_4 HO_7 HB; revert n0_ n1_ n2_; intro HO_4 HO_7 HB; (try clear hb); (try clear hb2); (try clear hk); (try clear hi); have p178 : 0 ≤ (x8_2 : Int) := of_decide_eq_true (by first | (with_reducible assumption) | assumption); have q178 : x8_2 < (x4_1.length : Int) := of_decide_eq_true (by first | (with_reducible assumption) | assumption); obtain ⟨ad178, e178, hx178_0⟩ := Kd.at_string (Kd.R_reads' HO_4.out).2.2 x8_2 p178 q178; obtain rfl : ad175 = ad178 := (by injection e178); replace p178 := eq_true p178; replace q178 := eq_true q178; have p179 : 0 ≤ (x8_2 : Int) := of_decide_eq_true (by first | (with_reducible assumption) | assumption); have q179 : x8_2 < (x4_1.length : Int) := of_decide_eq_true (by first | (with_reducible assumption) | assumption); obtain ⟨ad179, e179, hx179_0⟩ := Kd.at_string (Kd.R_reads' HO_4.out).2.2 x8_2 p179 q179; obtain rfl : ad175 = ad179 := (by injection e179); replace p179 := eq_true p179; replace q179 := eq_true q179) | ((with_reducible refine gate_callee (f := 11) rfl ?_); refine goesL_ (some 94) rfl rfl Tryd.func11 (by kernel_rfl) rfl #[.string ((rdOf ByteArray.empty x4_1 x8_2).extract ((ji32) : Int).toNat (rdOf ByteArray.empty x4_1 x8_2).size), .bool true] rfl (by (try simp only [List.map_toArray, List.map_cons, List.map_nil]); first | done | (simp only [hji32]; rfl) | rfl | (simp only [List.length_drop, List.length_take]; rfl)) ?_; (with_reducible refine (lanyardref03_Unpercent.calls kj18 ((rdOf ByteArray.empty x4_1 x8_2).extract ((ji32) : Int).toNat (rdOf ByteArray.empty x4_1 x8_2).size) true t180 false _ A35.out).mono ?_); rintro e w43 ⟨rfl, hb⟩; refine ⟨_, rfl, ?_⟩; have n0_ := Rb HO_4 hb; have n1_ := Rb HO_7 hb; have n2_ := Bs HB hb; clear HO_4 HO_7 HB; revert n0_ n1_ n2_; intro HO_4 HO_7 HB; (try clear hb); (try clear hb2); (try clear hk); (try clear hi)))
                   go_ret2
                   exact ⟨_, by first | rfl | (simp [errW_none, errW_some] <;> rfl) | (simp only [← hji32]; first | rfl | (simp [errW_none, errW_some] <;> rfl)) | (simp [*, errW_none, errW_some] <;> rfl), by first | exact Kd.R_nil _ _ _ _ _ | exact Kd.N_nil _ _ _ _ _ | exact Kd.V_nil _ _ _ _ _ | exact Kd.Q_nil _ _ _ _ _ | exact Kd.S_nil _ _ _ _ _, Bu HB⟩
                 ·replace c36 := Bool.eq_false_iff.mpr c36
                  subst c36
                  have H1 : (some (([] : List (S40)), 10)) = some (r1, r2) := by rw [if_neg (show ¬ (false = true) by decide)] at H; exact H
                  clear H
                  have H := H1
                  clear H1
                  simp only [Option.some.injEq, Prod.mk.injEq] at H
                  obtain ⟨rfl, rfl⟩ := H
                  have p175 : 0 ≤ (x8_2 : Int) := of_decide_eq_true (by first | (with_reducible assumption) | assumption)
                  have q175 : x8_2 < (x4_1.length : Int) := of_decide_eq_true (by first | (with_reducible assumption) | assumption)
                  obtain ⟨ad175, e175, hx175_0⟩ := Kd.at_string (Kd.R_reads' HO_4.out).2.2 x8_2 p175 q175
                  cases e175
                  replace p175 := eq_true p175
                  replace q175 := eq_true q175
                  go_wp2_with (first | ((with_reducible refine gate_callee (f := 11) rfl ?_); refine goesA (some 76) Tryd.func11 #[.string ((rdOf ByteArray.empty x4_1 x8_2).extract 0 (x9_18 : Int).toNat), .bool true] rfl ?_; (with_reducible refine (lanyardref03_Unpercent.calls kj18 ((rdOf ByteArray.empty x4_1 x8_2).extract 0 (x9_18 : Int).toNat) true t176 false _ A30.out).mono ?_); rintro e w44 ⟨rfl, hb⟩; refine ⟨_, rfl, ?_⟩; have n0_ := Rb HO_4 hb; have n1_ := Rb HO_7 hb; have n2_ := Bs HB hb; clear HO_4 HO_7 HB; revert n0_ n1_ n2_; intro HO_4 HO_7 HB; (try clear hb); (try clear hb2); (try clear hk); (try clear hi); have p178 : 0 ≤ (x8_2 : Int) := of_decide_eq_true (by first | (with_reducible assumption) | assumption); have q178 : x8_2 < (x4_1.length : Int) := of_decide_eq_true (by first | (with_reducible assumption) | assumption); obtain ⟨ad178, e178, hx178_0⟩ := Kd.at_string (Kd.R_reads' HO_4.out).2.2 x8_2 p178 q178; obtain rfl : ad175 = ad178 := (by injection e178); replace p178 := eq_true p178; replace q178 := eq_true q178; have p179 : 0 ≤ (x8_2 : Int) := of_decide_eq_true (by first | (with_reducible assumption) | assumption); have q179 : x8_2 < (x4_1.length : Int) := of_decide_eq_true (by first | (with_reducible assumption) | assumption); obtain ⟨ad179, e179, hx179_0⟩ := Kd.at_string (Kd.R_reads' HO_4.out).2.2 x8_2 p179 q179; obtain rfl : ad175 = ad179 := (by injection e179); replace p179 := eq_true p179; replace q179 := eq_true q179) | ((with_reducible refine gate_callee (f := 11) rfl ?_); refine goesL_ (some 94) rfl rfl Tryd.func11 (by kernel_rfl) rfl #[.string ((rdOf ByteArray.empty x4_1 x8_2).extract ((ji32) : Int).toNat (rdOf ByteArray.empty x4_1 x8_2).size), .bool true] rfl (by (try simp only [List.map_toArray, List.map_cons, List.map_nil]); first | done | (simp only [hji32]; rfl) | rfl | (simp only [List.length_drop, List.length_take]; rfl)) ?_; (with_reducible refine (lanyardref03_Unpercent.calls kj18 ((rdOf ByteArray.empty x4_1 x8_2).extract ((ji32) : Int).toNat (rdOf ByteArray.empty x4_1 x8_2).size) true t180 t181 _ A35.out).mono ?_); rintro e w45 ⟨rfl, hb⟩; refine ⟨_, rfl, ?_⟩; have n0_ := Rb HO_4 hb; have n1_ := Rb HO_7 hb; have n2_ := Bs HB hb; clear HO_4 HO_7 HB; revert n0_ n1_ n2_; intro HO_4 HO_7 HB; (try clear hb); (try clear hb2); (try clear hk); (try clear hi)))
                  go_ret2
                  exact ⟨_, by first | rfl | (simp [errW_none, errW_some] <;> rfl) | (simp only [← hji32]; first | rfl | (simp [errW_none, errW_some] <;> rfl)) | (simp [*, errW_none, errW_some] <;> rfl), by first | exact Kd.R_nil _ _ _ _ _ | exact Kd.N_nil _ _ _ _ _ | exact Kd.V_nil _ _ _ _ _ | exact Kd.Q_nil _ _ _ _ _ | exact Kd.S_nil _ _ _ _ _, Bu HB⟩
                ·rw [if_neg c34] at H
                 exact absurd H (by simp)
               ·rw [if_neg c33] at H
                exact absurd H (by simp)
              ·rw [if_neg c31] at H
               have c31b0 : decide (x9_18 < ((rdOf ByteArray.empty x4_1 x8_2).size : Int)) = false := decide_eq_false c31
               clear c31
               by_cases c46 : t177 = true
               ·subst c46
                have H1 : (if x7_2.length < 4398046511104 then (lanyardref03_ParseQuery.l1 kj18 x4_1 (x7_2 ++ [(⟨t176, (⟨#[]⟩ : ByteArray)⟩ : S40)]) (wrap64 (x8_2 + 1))) else (none)) = some (r1, r2) := by rw [if_pos rfl] at H; exact H
                clear H
                have H := H1
                clear H1
                by_cases c47 : x7_2.length < 4398046511104
                ·rw [if_pos c47] at H
                 have LMc47 := Aside0.mk c47
                 clear c47
                 obtain ⟨y185, hy185⟩ : ∃ y_ : List (S40), y_ = (x7_2 ++ [(⟨t176, (⟨#[]⟩ : ByteArray)⟩ : S40)]) := ⟨_, rfl⟩
                 replace H : (lanyardref03_ParseQuery.l1 kj18 x4_1 y185 (wrap64 (x8_2 + 1))) = some (r1, r2) := by first | (rw [hy185]; with_reducible exact H) | (have H2_ := (Option.bind_some _ _).symm.trans H; rw [hy185]; with_reducible exact H2_) | (have H2_ := (Option.bind_some _ _).symm.trans H; with_reducible exact H2_) | with_reducible exact H | (rw [hy185]; exact H) | exact H
                 have Ny185 := Aside0.mk hy185
                 clear hy185
                 have H' := Aside0.mk H
                 clear H
                 have p175 : 0 ≤ (x8_2 : Int) := of_decide_eq_true (by first | (with_reducible assumption) | assumption)
                 have q175 : x8_2 < (x4_1.length : Int) := of_decide_eq_true (by first | (with_reducible assumption) | assumption)
                 obtain ⟨ad175, e175, hx175_0⟩ := Kd.at_string (Kd.R_reads' HO_4.out).2.2 x8_2 p175 q175
                 cases e175
                 replace p175 := eq_true p175
                 replace q175 := eq_true q175
                 go_wp2_with (first | ((with_reducible refine gate_callee (f := 11) rfl ?_); refine goesA (some 76) Tryd.func11 #[.string ((rdOf ByteArray.empty x4_1 x8_2).extract 0 (x9_18 : Int).toNat), .bool true] rfl ?_; (with_reducible refine (lanyardref03_Unpercent.calls kj18 ((rdOf ByteArray.empty x4_1 x8_2).extract 0 (x9_18 : Int).toNat) true t176 true _ A30.out).mono ?_); rintro e w48 ⟨rfl, hb⟩; refine ⟨_, rfl, ?_⟩; have n0_ := Rb HO_4 hb; have n1_ := Rb HO_7 hb; have n2_ := Bs HB hb; clear HO_4 HO_7 HB; revert n0_ n1_ n2_; intro HO_4 HO_7 HB; (try clear hb); (try clear hb2); (try clear hk); (try clear hi); have p178 : 0 ≤ (x8_2 : Int) := of_decide_eq_true (by first | (with_reducible assumption) | assumption); have q178 : x8_2 < (x4_1.length : Int) := of_decide_eq_true (by first | (with_reducible assumption) | assumption); obtain ⟨ad178, e178, hx178_0⟩ := Kd.at_string (Kd.R_reads' HO_4.out).2.2 x8_2 p178 q178; obtain rfl : ad175 = ad178 := (by injection e178); replace p178 := eq_true p178; replace q178 := eq_true q178) | ((with_reducible refine gate_builtin (b := .append) (xs := #[.tmp 103, .tmp 107]) rfl ?_); at_builtin; refine Kd.R_append k40 (w0 := w) w.heap.size rfl (.tmp 103) (.tmp 107) 30 40 (.agg #[(.string ⟨#[]⟩), (.string ⟨#[]⟩)]) 32 rfl Tryd.underlying30 info40 rfl (by decide) (by omega) u7 x7_2 (⟨t176, (⟨#[]⟩ : ByteArray)⟩ : S40) [.string t176, .string (⟨#[]⟩ : ByteArray)] (fun _ => True) (fun _ => False) rfl rfl ?aP (fun _ hk => hk.elim) ?aF ?aO ?aB ?aS ?aL ?_; (case aP => exact k40_mkM _ _ _ (⟨t176, (⟨#[]⟩ : ByteArray)⟩ : S40)); (case aB => exact (Bu HB)); (case aF => exact (fun _ _ => trivial)); (case aO => exact (Ru HO_7)); (case aS => exact (Bz HB)); (case aL => have := LMc47.out; omega); intro v186 w49 ho hb hg hat; rw [← Ny185.out] at ho; have n0_ := Aside0.mk (Kd.R_over' (Ru HO_4) (Kd.R_typed (Ru HO_7)) (by decide) hg); have n1_ := Aside0.mk (hb); have n2_ := Aside0.mk (ho); clear HO_4 HB HO_7; revert n0_ n1_ n2_; intro HO_4 HB HO187; clear ho hb hg hat))
                 go_roundg kj18
                 case measure => have := HK1.out; have := HK2.out; have := HJ18.out; omega
                 case rel => exact ⟨(y185), (wrap64 (x8_2 + 1)), (by first | rfl | (simp; done) | (simp [*]; done)), H', ⟨by have := HK1.out; have := HK2.out; have := HJ18.out; omega⟩, ⟨Ru HO_4⟩, ⟨Ru HO187⟩, ⟨Bu HB⟩⟩
                ·rw [if_neg c47] at H
                 exact absurd H (by simp)
               ·replace c46 := Bool.eq_false_iff.mpr c46
                subst c46
                have H1 : (some (([] : List (S40)), 10)) = some (r1, r2) := by rw [if_neg (show ¬ (false = true) by decide)] at H; exact H
                clear H
                have H := H1
                clear H1
                simp only [Option.some.injEq, Prod.mk.injEq] at H
                obtain ⟨rfl, rfl⟩ := H
                have p175 : 0 ≤ (x8_2 : Int) := of_decide_eq_true (by first | (with_reducible assumption) | assumption)
                have q175 : x8_2 < (x4_1.length : Int) := of_decide_eq_true (by first | (with_reducible assumption) | assumption)
                obtain ⟨ad175, e175, hx175_0⟩ := Kd.at_string (Kd.R_reads' HO_4.out).2.2 x8_2 p175 q175
                cases e175
                replace p175 := eq_true p175
                replace q175 := eq_true q175
                go_wp2_with (first | ((with_reducible refine gate_callee (f := 11) rfl ?_); refine goesA (some 76) Tryd.func11 #[.string ((rdOf ByteArray.empty x4_1 x8_2).extract 0 (x9_18 : Int).toNat), .bool true] rfl ?_; (with_reducible refine (lanyardref03_Unpercent.calls kj18 ((rdOf ByteArray.empty x4_1 x8_2).extract 0 (x9_18 : Int).toNat) true t176 false _ A30.out).mono ?_); rintro e w50 ⟨rfl, hb⟩; refine ⟨_, rfl, ?_⟩; have n0_ := Rb HO_4 hb; have n1_ := Rb HO_7 hb; have n2_ := Bs HB hb; clear HO_4 HO_7 HB; revert n0_ n1_ n2_; intro HO_4 HO_7 HB; (try clear hb); (try clear hb2); (try clear hk); (try clear hi); have p178 : 0 ≤ (x8_2 : Int) := of_decide_eq_true (by first | (with_reducible assumption) | assumption); have q178 : x8_2 < (x4_1.length : Int) := of_decide_eq_true (by first | (with_reducible assumption) | assumption); obtain ⟨ad178, e178, hx178_0⟩ := Kd.at_string (Kd.R_reads' HO_4.out).2.2 x8_2 p178 q178; obtain rfl : ad175 = ad178 := (by injection e178); replace p178 := eq_true p178; replace q178 := eq_true q178))
                go_ret2
                exact ⟨_, rfl_, by first | exact Kd.R_nil _ _ _ _ _ | exact Kd.N_nil _ _ _ _ _ | exact Kd.V_nil _ _ _ _ _ | exact Kd.Q_nil _ _ _ _ _ | exact Kd.S_nil _ _ _ _ _, Bu HB⟩
             ·rw [if_neg c29] at H
              exact absurd H (by simp)
            ·rw [if_neg c28] at H
             exact absurd H (by simp)
           ·rw [if_neg c27] at H
            exact absurd H (by simp)
          ·rw [if_neg c26] at H
           exact absurd H (by simp)
       ·rw [if_neg c18] at H
        have c18b0 : decide (x8_2 < (x4_1.length : Int)) = false := decide_eq_false c18
        clear c18
        simp only [Option.some.injEq, Prod.mk.injEq] at H
        obtain ⟨rfl, rfl⟩ := H
        go_wp2
        go_ret2
        exact ⟨_, rfl_, Ru HO_7, Bu HB⟩

end Go.Proofs.YtjmcdocoogdbiaaDoor.Hp
