/- Go functions of this seat as Lean functions, and their contracts: what the Go code computes, for every input. (By hp.py, a program of this repo, over the kit's print.py.) -/
import Derived.Test.YtfphmpnkfjeceaaDoorHp0
import Derived.Test.YtfphmpnkfjeceaaDoorHp2
namespace Go.Proofs.YtfphmpnkfjeceaaDoor.Hp
open Go.RowKit Go.Proofs.YtfphmpnkfjeceaaDoorW.PrintWords Go.Proofs.YtfphmpnkfjeceaaDoorW.PrintLast Go.Proofs.YtfphmpnkfjeceaaDoorW.PrintMore
attribute [local go_sem] max2_int min2_int max_two min_two max_three min_three max_four min_four   -- for this text's walks alone
set_option linter.unusedVariables false
set_option linter.unusedSimpArgs false

/-! ### lanyardref02_Encode: function 17 -/
mutual
def lanyardref02_Encode.l0 : Nat → List Int → List Int → Int → Option (ByteArray)
 | 0, _, _, _ => none
 | k + 1, x0, x3, x4 => if x4 < (wrap64 (8 * (x0.length : Int))) then (lanyardref02_Encode.l1 k x0 x3 x4 0 0) else (lanyardref02_Encode.l2 k x3)
def lanyardref02_Encode.l1 : Nat → List Int → List Int → Int → Int → Int → Option (ByteArray)
 | 0, _, _, _, _, _ => none
 | k + 1, x0, x3, x4, x5, x6 => if x6 < 6 then ((lanyardref02_bit.f k x0 (wrap64 (x4 + x6))).bind fun t123 => (lanyardref02_Encode.l1 k x0 x3 x4 (wrap64 ((wrap64 (x5 * 2)) + t123)) (wrap64 (x6 + 1)))) else ((lanyardref02_sign.f x5).bind fun t124 => (if x3.length < 140737488355328 then (lanyardref02_Encode.l0 k x0 (x3 ++ [t124]) (wrap64 (x4 + 6))) else (none)))
def lanyardref02_Encode.l2 : Nat → List Int → Option (ByteArray)
 | 0, _ => none
 | k + 1, x3 => if ((x3.length : Int) % 4) = 0 then (some (strOfNums x3)) else (if x3.length < 140737488355328 then (lanyardref02_Encode.l2 k (x3 ++ [61])) else (none))
end
def lanyardref02_Encode.f (k : Nat) (l0 : List Int) : Option (ByteArray) := lanyardref02_Encode.l0 k l0 ([] : List Int) 0
theorem lanyardref02_Encode.mono_l : ∀ k, (∀ y0 y1 y2, LeO (lanyardref02_Encode.l0 k y0 y1 y2) (lanyardref02_Encode.l0 (k + 1) y0 y1 y2)) ∧ (∀ y0 y1 y2 y3 y4, LeO (lanyardref02_Encode.l1 k y0 y1 y2 y3 y4) (lanyardref02_Encode.l1 (k + 1) y0 y1 y2 y3 y4)) ∧ (∀ y0, LeO (lanyardref02_Encode.l2 k y0) (lanyardref02_Encode.l2 (k + 1) y0))
 | 0 => ⟨fun _ _ _ r h => by simp [lanyardref02_Encode.l0] at h, fun _ _ _ _ _ r h => by simp [lanyardref02_Encode.l1] at h, fun _ r h => by simp [lanyardref02_Encode.l2] at h⟩
 | k + 1 => by
  obtain ⟨ih0, ih1, ih2⟩ := lanyardref02_Encode.mono_l k
  refine ⟨?_, ?_, ?_⟩
  ·intro y0 y1 y2
   unfold lanyardref02_Encode.l0
   repeat' first
   | (with_reducible exact ih0 _ _ _)
   | (with_reducible exact ih1 _ _ _ _ _)
   | (with_reducible exact ih2 _)
   | (with_reducible exact lanyardref02_bit.mono _ _ _)
   | (with_reducible exact LeO.refl _)
   | (with_reducible exact LeO.none _)
   | (with_reducible refine LeO.ite ?_ ?_)
   | (with_reducible refine LeO.bind ?_ (fun _ => ?_))
   | exact ih0 _ _ _
   | exact ih1 _ _ _ _ _
   | exact ih2 _
   | exact lanyardref02_bit.mono _ _ _
   | exact LeO.none _
   | refine LeO.ite ?_ ?_
   | refine LeO.bind ?_ (fun _ => ?_)
  ·intro y0 y1 y2 y3 y4
   unfold lanyardref02_Encode.l1
   repeat' first
   | (with_reducible exact ih0 _ _ _)
   | (with_reducible exact ih1 _ _ _ _ _)
   | (with_reducible exact ih2 _)
   | (with_reducible exact lanyardref02_bit.mono _ _ _)
   | (with_reducible exact LeO.refl _)
   | (with_reducible exact LeO.none _)
   | (with_reducible refine LeO.ite ?_ ?_)
   | (with_reducible refine LeO.bind ?_ (fun _ => ?_))
   | exact ih0 _ _ _
   | exact ih1 _ _ _ _ _
   | exact ih2 _
   | exact lanyardref02_bit.mono _ _ _
   | exact LeO.none _
   | refine LeO.ite ?_ ?_
   | refine LeO.bind ?_ (fun _ => ?_)
  ·intro y0
   unfold lanyardref02_Encode.l2
   repeat' first
   | (with_reducible exact ih0 _ _ _)
   | (with_reducible exact ih1 _ _ _ _ _)
   | (with_reducible exact ih2 _)
   | (with_reducible exact lanyardref02_bit.mono _ _ _)
   | (with_reducible exact LeO.refl _)
   | (with_reducible exact LeO.none _)
   | (with_reducible refine LeO.ite ?_ ?_)
   | (with_reducible refine LeO.bind ?_ (fun _ => ?_))
   | exact ih0 _ _ _
   | exact ih1 _ _ _ _ _
   | exact ih2 _
   | exact lanyardref02_bit.mono _ _ _
   | exact LeO.none _
   | refine LeO.ite ?_ ?_
   | refine LeO.bind ?_ (fun _ => ?_)
theorem lanyardref02_Encode.mono : ∀ a0 k, LeO (lanyardref02_Encode.f k a0) (lanyardref02_Encode.f (k + 1) a0) := by
 intro a0 k
 obtain ⟨ih0, ih1, ih2⟩ := lanyardref02_Encode.mono_l k
 unfold lanyardref02_Encode.f
 repeat' first
   | (with_reducible exact ih0 _ _ _)
   | (with_reducible exact ih1 _ _ _ _ _)
   | (with_reducible exact ih2 _)
   | (with_reducible exact lanyardref02_bit.mono _ _ _)
   | (with_reducible exact LeO.refl _)
   | (with_reducible exact LeO.none _)
   | (with_reducible refine LeO.ite ?_ ?_)
   | (with_reducible refine LeO.bind ?_ (fun _ => ?_))
   | exact ih0 _ _ _
   | exact ih1 _ _ _ _ _
   | exact ih2 _
   | exact lanyardref02_bit.mono _ _ _
   | exact LeO.none _
   | refine LeO.ite ?_ ?_
   | refine LeO.bind ?_ (fun _ => ?_)
set_option maxHeartbeats 8000000 in
set_option maxRecDepth 100000 in
theorem lanyardref02_Encode.calls (k : Nat) (A0 : Option Addr) (c0 : Nat) (l0 : List Int) (r : ByteArray) (w : World) (hr0 : Kd.C (Kd.int .u8) w A0 l0.length l0) (hc0 : l0.length ≤ c0) (h : lanyardref02_Encode.f k l0 = some r) :
  Calls Tryd.prog 17 #[.slice A0 l0.length c0] w fun e w' => e = .returned (.string r) ∧ Below w.heap.size w w' := by
 have HR0 := Aside0.mk hr0
 have HC0 := Aside0.mk hc0
 clear hr0 hc0
 have HB := Aside0.mk (Below.refl w.heap.size w)
 have H : (lanyardref02_Encode.l0 k l0 ([] : List Int) 0) = some r := h
 clear h
 have H' := Aside0.mk H
 clear H
 go_enter Tryd.func17, Tryd.ntmps17
 go_wp2
 go_loopg [3, 4] k (fun kq v3 v4 w' => ∃ (x3_1 : List Int) (x4_1 : Int), v4 = .int .i64 x4_1 ∧ Aside0 (lanyardref02_Encode.l0 kq l0 x3_1 x4_1 = some r) ∧ Aside0 (kq ≤ k) ∧ Aside0 (Kd.R (Kd.int .u8) 5 w' w.heap.size (fun _ => True) v3 x3_1) ∧ Aside0 (Below w.heap.size w w'))
 case atStart => exact ⟨(([] : List Int)), (0), (by first | rfl | (simp; done) | (simp [*]; done)), H', ⟨Nat.le_refl _⟩, ⟨by first | exact Kd.R_nil _ _ _ _ _ | exact Kd.N_nil _ _ _ _ _ | exact Kd.V_nil _ _ _ _ _ | exact Kd.Q_nil _ _ _ _ _ | exact Kd.S_nil _ _ _ _ _⟩, ⟨Bu HB⟩⟩
 case round =>
  clear H'
  try clear c1
  obtain ⟨x3_1, x4_1, rfl, HA, HK1, HO_3, HB⟩ := hrel
  cases gk with
  | zero => exact absurd HA.out (by simp [lanyardref02_Encode.l0])
  | succ k1 =>
   have H := HA.out
   clear HA
   simp only [lanyardref02_Encode.l0] at H
   by_cases c2 : x4_1 < (wrap64 (8 * (l0.length : Int)))
   ·rw [if_pos c2] at H
    have c2b0 : decide (x4_1 < (wrap64 (8 * (l0.length : Int)))) = true := decide_eq_true c2
    clear c2
    have H' := Aside0.mk H
    clear H
    go_wp2
    go_loopg [5, 6] k1 (fun kq v5 v6 w' => ∃ (x5_2 : Int) (x6_2 : Int), v5 = .int .i64 x5_2 ∧ v6 = .int .i64 x6_2 ∧ Aside0 (lanyardref02_Encode.l1 kq l0 x3_1 x4_1 x5_2 x6_2 = some r) ∧ Aside0 (kq ≤ k1) ∧ Aside0 (Kd.R (Kd.int .u8) 5 w' w.heap.size (fun _ => True) u3 x3_1) ∧ Aside0 (Below w.heap.size w w'))
    case atStart => exact ⟨(0), (0), (by first | rfl | (simp; done) | (simp [*]; done)), (by first | rfl | (simp; done) | (simp [*]; done)), H', ⟨Nat.le_refl _⟩, ⟨Ru HO_3⟩, ⟨Bu HB⟩⟩
    case round =>
     clear H'
     try clear c1
     try clear c2
     try clear c2b0
     try clear p2
     obtain ⟨x5_2, x6_2, rfl, rfl, HA, HK2, HO_3, HB⟩ := hrel
     cases gk with
     | zero => exact absurd HA.out (by simp [lanyardref02_Encode.l1])
     | succ k2 =>
      have H := HA.out
      clear HA
      simp only [lanyardref02_Encode.l1] at H
      by_cases c3 : x6_2 < 6
      ·rw [if_pos c3] at H
       have c3b0 : decide (x6_2 < 6) = true := decide_eq_true c3
       clear c3
       replace H := Option.bind_eq_some_iff.mp H
       obtain ⟨t123, A40, H⟩ := H
       replace H : (lanyardref02_Encode.l1 k2 l0 x3_1 x4_1 (wrap64 ((wrap64 (x5_2 * 2)) + t123)) (wrap64 (x6_2 + 1))) = some r := H
       have A4 := Aside0.mk A40
       clear A40
       have H' := Aside0.mk H
       clear H
       go_wp2_with (first | ((with_reducible refine gate_callee (f := 32) rfl ?_); refine goesA (some 24) Tryd.func32 #[.slice A0 l0.length c0, .int .i64 (wrap64 (x4_1 + x6_2))] rfl ?_; (with_reducible refine (lanyardref02_bit.calls k2 _ _ l0 (wrap64 (x4_1 + x6_2)) t123 _ ?side1 ?side2 A4.out).mono ?_); (case side1 => exact Cu (Kd.C_below HR0.out HB.out)); (case side2 => exact HC0.out); rintro e w' ⟨rfl, ⟨nd, rfl⟩⟩; refine ⟨_, rfl, ?_⟩))
       go_roundg k2
       case measure => have := HK1.out; have := HK2.out; omega
       case rel => exact ⟨(wrap64 ((wrap64 (x5_2 * 2)) + t123)), (wrap64 (x6_2 + 1)), (by first | rfl | (simp; done) | (simp [*]; done)), (by first | rfl | (simp; done) | (simp [*]; done)), H', ⟨by have := HK1.out; have := HK2.out; omega⟩, ⟨Ru HO_3⟩, ⟨Bu HB⟩⟩
      ·rw [if_neg c3] at H
       have c3b0 : decide (x6_2 < 6) = false := decide_eq_false c3
       clear c3
       replace H := Option.bind_eq_some_iff.mp H
       obtain ⟨t124, A50, H⟩ := H
       replace H : (if x3_1.length < 140737488355328 then (lanyardref02_Encode.l0 k2 l0 (x3_1 ++ [t124]) (wrap64 (x4_1 + 6))) else (none)) = some r := H
       have A5 := Aside0.mk A50
       clear A50
       by_cases c6 : x3_1.length < 140737488355328
       ·rw [if_pos c6] at H
        have LMc6 := Aside0.mk c6
        clear c6
        obtain ⟨y125, hy125⟩ : ∃ y_ : List Int, y_ = (x3_1 ++ [t124]) := ⟨_, rfl⟩
        replace H : (lanyardref02_Encode.l0 k2 l0 y125 (wrap64 (x4_1 + 6))) = some r := by first | (rw [hy125]; with_reducible exact H) | (have H2_ := (Option.bind_some _ _).symm.trans H; rw [hy125]; with_reducible exact H2_) | (have H2_ := (Option.bind_some _ _).symm.trans H; with_reducible exact H2_) | with_reducible exact H | (rw [hy125]; exact H) | exact H
        have Ny125 := Aside0.mk hy125
        clear hy125
        have H' := Aside0.mk H
        clear H
        go_wp2_with (first | ((with_reducible refine gate_callee (f := 33) rfl ?_); refine goesA (some 28) Tryd.func33 #[.int .i64 x5_2] rfl ?_; (with_reducible refine (lanyardref02_sign.calls x5_2 t124 _ A5.out).mono ?_); rintro e w' ⟨rfl, ⟨nd, rfl⟩⟩; refine ⟨_, rfl, ?_⟩) | ((with_reducible refine gate_builtin (b := .append) (xs := #[.tmp 26, .tmp 29]) rfl ?_); at_builtin; refine Kd.R_append (Kd.int .u8) (w0 := w) w.heap.size rfl (.tmp 26) (.tmp 29) 23 5 (.int .u8 0) 1 rfl Tryd.underlying23 info5 rfl (by decide) (by omega) u3 x3_1 t124 [.int .u8 t124] (fun _ => True) (fun _ => False) rfl rfl ?aP (fun _ hk => hk.elim) ?aF ?aO ?aB ?aS ?aL ?_; (case aP => exact rfl); (case aB => exact (Bu HB)); (case aF => exact (fun _ _ => trivial)); (case aO => exact (Ru HO_3)); (case aS => exact (Bz HB)); (case aL => have := LMc6.out; omega); intro v126 w7 ho hb hg hat; rw [← Ny125.out] at ho; have n0_ := Aside0.mk (hb); have n1_ := Aside0.mk (ho); clear HB HO_3; revert n0_ n1_; intro HB HO127; clear ho hb hg hat))
        go_roundg k2
        case measure => have := HK1.out; have := HK2.out; omega
        case rel => exact ⟨(y125), (wrap64 (x4_1 + 6)), (by first | rfl | (simp; done) | (simp [*]; done)), H', ⟨by have := HK1.out; have := HK2.out; omega⟩, ⟨Ru HO127⟩, ⟨Bu HB⟩⟩
       ·rw [if_neg c6] at H
        exact absurd H (by simp)
   ·rw [if_neg c2] at H
    have c2b0 : decide (x4_1 < (wrap64 (8 * (l0.length : Int)))) = false := decide_eq_false c2
    clear c2
    have H' := Aside0.mk H
    clear H
    go_wp2
    go_loopg [3] k1 (fun kq v3 w' => ∃ (x3_2 : List Int), Aside0 (lanyardref02_Encode.l2 kq x3_2 = some r) ∧ Aside0 (kq ≤ k1) ∧ Aside0 (Kd.R (Kd.int .u8) 5 w' w.heap.size (fun _ => True) v3 x3_2) ∧ Aside0 (Below w.heap.size w w'))
    case atStart => exact ⟨(x3_1), H', ⟨Nat.le_refl _⟩, ⟨Ru HO_3⟩, ⟨Bu HB⟩⟩
    case round =>
     clear H'
     try clear c1
     try clear c2
     try clear c2b0
     try clear p2
     try clear c3
     try clear c3b0
     try clear c6
     try clear p6
     try clear p2
     obtain ⟨x3_2, HA, HK2, HO_3, HB⟩ := hrel
     cases gk with
     | zero => exact absurd HA.out (by simp [lanyardref02_Encode.l2])
     | succ k2 =>
      have H := HA.out
      clear HA
      simp only [lanyardref02_Encode.l2] at H
      by_cases c8 : ((x3_2.length : Int) % 4) = 0
      ·rw [if_pos c8] at H
       have c8b0 : (((x3_2.length : Int) % 4) == 0) = true := beq_iff_eq.mpr c8
       have c8b1 : (((x3_2.length : Int) % 4) != 0) = false := bne_eq_false_iff_eq.mpr c8
       clear c8
       obtain rfl := Option.some.inj H
       obtain ⟨Ao9, co9, eo9⟩ := Kd.R_slice HO_3.out
       subst eo9
       have hcv10 := own_string (P := Tryd.prog) Tryd.underlying23 Tryd.underlying5 Tryd.underlying9 (Kd.own_of_R HO_3.out)
       have hcv11 := fun n_ : Nat => own_string (P := Tryd.prog) Tryd.underlying23 Tryd.underlying5 Tryd.underlying9 (Kd.own_of_R (Kd.R_drewN HO_3.out n_))
       go_wp2
       go_ret
       exact ⟨rfl_, Bu HB⟩
      ·rw [if_neg c8] at H
       have c8b0 : (((x3_2.length : Int) % 4) == 0) = false := beq_eq_false_iff_ne.mpr c8
       have c8b1 : (((x3_2.length : Int) % 4) != 0) = true := bne_iff_ne.mpr c8
       by_cases c12 : x3_2.length < 140737488355328
       ·rw [if_pos c12] at H
        have LMc12 := Aside0.mk c12
        clear c12
        obtain ⟨y128, hy128⟩ : ∃ y_ : List Int, y_ = (x3_2 ++ [61]) := ⟨_, rfl⟩
        replace H : (lanyardref02_Encode.l2 k2 y128) = some r := by first | (rw [hy128]; with_reducible exact H) | (have H2_ := (Option.bind_some _ _).symm.trans H; rw [hy128]; with_reducible exact H2_) | (have H2_ := (Option.bind_some _ _).symm.trans H; with_reducible exact H2_) | with_reducible exact H | (rw [hy128]; exact H) | exact H
        have Ny128 := Aside0.mk hy128
        clear hy128
        have H' := Aside0.mk H
        clear H
        obtain ⟨Ao13, co13, eo13⟩ := Kd.R_slice HO_3.out
        subst eo13
        go_wp2_with (first | ((with_reducible refine gate_builtin (b := .append) (xs := #[.tmp 35, .tmp 36]) rfl ?_); at_builtin; refine Kd.R_append (Kd.int .u8) (w0 := w) w.heap.size rfl (.tmp 35) (.tmp 36) 23 5 (.int .u8 0) 1 rfl Tryd.underlying23 info5 rfl (by decide) (by omega) (.slice Ao13 x3_2.length co13) x3_2 61 [.int .u8 61] (fun _ => True) (fun _ => False) rfl rfl ?aP (fun _ hk => hk.elim) ?aF ?aO ?aB ?aS ?aL ?_; (case aP => exact rfl); (case aB => exact (Bu HB)); (case aF => exact (fun _ _ => trivial)); (case aO => exact (Ru HO_3)); (case aS => exact (Bz HB)); (case aL => have := LMc12.out; omega); intro v129 w14 ho hb hg hat; rw [← Ny128.out] at ho; have n0_ := Aside0.mk (hb); have n1_ := Aside0.mk (ho); clear HB HO_3; revert n0_ n1_; intro HB HO130; clear ho hb hg hat))
        go_roundg k2
        case measure => have := HK1.out; have := HK2.out; omega
        case rel => exact ⟨(y128), H', ⟨by have := HK1.out; have := HK2.out; omega⟩, ⟨Ru HO130⟩, ⟨Bu HB⟩⟩
       ·rw [if_neg c12] at H
        exact absurd H (by simp)

/-! ### lanyardref01_Blank: function 24 -/
def lanyardref01_Blank.f (a0 : Int) : Option (Bool) := if a0 = 32 then (some true) else (if a0 = 9 then (some true) else (if a0 = 10 then (some true) else (some (a0 == 13))))
set_option maxHeartbeats 8000000 in
set_option maxRecDepth 100000 in
theorem lanyardref01_Blank.calls (a0 : Int) (r : Bool) (w : World) (h : lanyardref01_Blank.f a0 = some r) :
  Calls Tryd.prog 24 #[.int .u8 a0] w fun e w' => e = .returned (.bool r) ∧ Drawn0 w w' := by
 have H : (if a0 = 32 then (some true) else (if a0 = 9 then (some true) else (if a0 = 10 then (some true) else (some (a0 == 13))))) = some r := h
 clear h
 refine (Classical.em (a0 = 32)).elim (fun c2 => ?a11_) (fun c2 => ?b11_)
 case' a11_ =>
  rw [if_pos c2] at H
  have c2b0 : (a0 == 32) = true := beq_iff_eq.mpr c2
  have c2b1 : (a0 != 32) = false := bne_eq_false_iff_eq.mpr c2
  clear c2
  obtain rfl := Option.some.inj H
 case' b11_ =>
  rw [if_neg c2] at H
  have c2b0 : (a0 == 32) = false := beq_eq_false_iff_ne.mpr c2
  have c2b1 : (a0 != 32) = true := bne_iff_ne.mpr c2
  refine (Classical.em (a0 = 9)).elim (fun c3 => ?a12_) (fun c3 => ?b12_)
  case' a12_ =>
   rw [if_pos c3] at H
   have c3b0 : (a0 == 9) = true := beq_iff_eq.mpr c3
   have c3b1 : (a0 != 9) = false := bne_eq_false_iff_eq.mpr c3
   clear c3
   obtain rfl := Option.some.inj H
  case' b12_ =>
   rw [if_neg c3] at H
   have c3b0 : (a0 == 9) = false := beq_eq_false_iff_ne.mpr c3
   have c3b1 : (a0 != 9) = true := bne_iff_ne.mpr c3
   refine (Classical.em (a0 = 10)).elim (fun c4 => ?a13_) (fun c4 => ?b13_)
   case' a13_ =>
    rw [if_pos c4] at H
    have c4b0 : (a0 == 10) = true := beq_iff_eq.mpr c4
    have c4b1 : (a0 != 10) = false := bne_eq_false_iff_eq.mpr c4
    clear c4
    obtain rfl := Option.some.inj H
   case' b13_ =>
    rw [if_neg c4] at H
    have c4b0 : (a0 == 10) = false := beq_eq_false_iff_ne.mpr c4
    have c4b1 : (a0 != 10) = true := bne_iff_ne.mpr c4
    obtain rfl := Option.some.inj H
    go_enter Tryd.func24, Tryd.ntmps24
    go_wp2
    go_ret
    exact ⟨by first | rfl | (simp; done) | (simp [*]; done), by repeat (first | exact Drawn0.refl _ | apply Drawn0.step)⟩

 case a11_ | a12_ | b12_ =>
  go_enter Tryd.func24, Tryd.ntmps24
  go_wp2
  go_ret
  exact ⟨by first | rfl | (simp; done) | (simp [*]; done), by repeat (first | exact Drawn0.refl _ | apply Drawn0.step)⟩
/-! ### lanyardref02_six: function 25 -/
def lanyardref02_six.l0 : Nat → Int → Int → Option (Int)
 | 0, _, _ => none
 | k + 1, x0, x3 => if x3 < 64 then ((lanyardref02_sign.f x3).bind fun t131 => (if t131 = x0 then (some x3) else (lanyardref02_six.l0 k x0 (wrap64 (x3 + 1))))) else (some (-1))
def lanyardref02_six.f (k : Nat) (a0 : Int) : Option (Int) := lanyardref02_six.l0 k a0 0
theorem lanyardref02_six.mono_l : ∀ k, (∀ y0 y1, LeO (lanyardref02_six.l0 k y0 y1) (lanyardref02_six.l0 (k + 1) y0 y1))
 | 0 => fun _ _ r h => by simp [lanyardref02_six.l0] at h
 | k + 1 => by
  have ih0 := lanyardref02_six.mono_l k
  ·intro y0 y1
   unfold lanyardref02_six.l0
   repeat' first
   | (with_reducible exact ih0 _ _)
   | (with_reducible exact LeO.refl _)
   | (with_reducible exact LeO.none _)
   | (with_reducible refine LeO.ite ?_ ?_)
   | (with_reducible refine LeO.bind ?_ (fun _ => ?_))
   | exact ih0 _ _
   | exact LeO.none _
   | refine LeO.ite ?_ ?_
   | refine LeO.bind ?_ (fun _ => ?_)
theorem lanyardref02_six.mono : ∀ a0 k, LeO (lanyardref02_six.f k a0) (lanyardref02_six.f (k + 1) a0) := by
 intro a0 k
 have ih0 := lanyardref02_six.mono_l k
 unfold lanyardref02_six.f
 repeat' first
   | (with_reducible exact ih0 _ _)
   | (with_reducible exact LeO.refl _)
   | (with_reducible exact LeO.none _)
   | (with_reducible refine LeO.ite ?_ ?_)
   | (with_reducible refine LeO.bind ?_ (fun _ => ?_))
   | exact ih0 _ _
   | exact LeO.none _
   | refine LeO.ite ?_ ?_
   | refine LeO.bind ?_ (fun _ => ?_)
set_option maxHeartbeats 8000000 in
set_option maxRecDepth 100000 in
theorem lanyardref02_six.calls (k : Nat) (a0 : Int) (r : Int) (w : World) (h : lanyardref02_six.f k a0 = some r) :
  Calls Tryd.prog 25 #[.int .u8 a0] w fun e w' => e = .returned (.int .i64 r) ∧ Drawn0 w w' := by
 have H : (lanyardref02_six.l0 k a0 0) = some r := h
 clear h
 have H' := Aside0.mk H
 clear H
 go_enter Tryd.func25, Tryd.ntmps25
 go_wp2
 go_loopg [3] k (fun kq v3 w' => ∃ (x3_1 : Int), v3 = .int .i64 x3_1 ∧ Aside0 (lanyardref02_six.l0 kq a0 x3_1 = some r) ∧ Aside0 (kq ≤ k) ∧ Drawn0 w w')
 case atStart => exact ⟨(0), (by first | rfl | (simp; done) | (simp [*]; done)), H', ⟨Nat.le_refl _⟩, by repeat (first | exact Drawn0.refl _ | apply Drawn0.step)⟩
 case round =>
  clear H'
  obtain ⟨x3_1, rfl, HA, HK1, ⟨m1, rfl⟩⟩ := hrel
  cases gk with
  | zero => exact absurd HA.out (by simp [lanyardref02_six.l0])
  | succ k1 =>
   have H := HA.out
   clear HA
   simp only [lanyardref02_six.l0] at H
   by_cases c2 : x3_1 < 64
   ·rw [if_pos c2] at H
    have c2b0 : decide (x3_1 < 64) = true := decide_eq_true c2
    clear c2
    replace H := Option.bind_eq_some_iff.mp H
    obtain ⟨t131, A30, H⟩ := H
    replace H : (if t131 = a0 then (some x3_1) else (lanyardref02_six.l0 k1 a0 (wrap64 (x3_1 + 1)))) = some r := H
    have A3 := Aside0.mk A30
    clear A30
    by_cases c4 : t131 = a0
    ·rw [if_pos c4] at H
     have c4b0 : (t131 == a0) = true := beq_iff_eq.mpr c4
     have c4b1 : (t131 != a0) = false := bne_eq_false_iff_eq.mpr c4
     clear c4
     obtain rfl := Option.some.inj H
     go_wp2_with (first | ((with_reducible refine gate_callee (f := 33) rfl ?_); refine goesA (some 9) Tryd.func33 #[.int .i64 x3_1] rfl ?_; (with_reducible refine (lanyardref02_sign.calls x3_1 t131 _ A3.out).mono ?_); rintro e w' ⟨rfl, ⟨nd, rfl⟩⟩; refine ⟨_, rfl, ?_⟩))
     go_ret
     exact ⟨by first | rfl | (simp; done) | (simp [*]; done), by repeat (first | exact Drawn0.refl _ | apply Drawn0.step)⟩
    ·rw [if_neg c4] at H
     have c4b0 : (t131 == a0) = false := beq_eq_false_iff_ne.mpr c4
     have c4b1 : (t131 != a0) = true := bne_iff_ne.mpr c4
     have H' := Aside0.mk H
     clear H
     go_wp2_with (first | ((with_reducible refine gate_callee (f := 33) rfl ?_); refine goesA (some 9) Tryd.func33 #[.int .i64 x3_1] rfl ?_; (with_reducible refine (lanyardref02_sign.calls x3_1 t131 _ A3.out).mono ?_); rintro e w' ⟨rfl, ⟨nd, rfl⟩⟩; refine ⟨_, rfl, ?_⟩))
     go_roundg k1
     case measure => have := HK1.out; omega
     case rel => exact ⟨(wrap64 (x3_1 + 1)), (by first | rfl | (simp; done) | (simp [*]; done)), H', ⟨by have := HK1.out; omega⟩, by repeat (first | exact Drawn0.refl _ | apply Drawn0.step)⟩
   ·rw [if_neg c2] at H
    have c2b0 : decide (x3_1 < 64) = false := decide_eq_false c2
    clear c2
    obtain rfl := Option.some.inj H
    go_wp2
    go_ret
    exact ⟨by first | rfl | (simp; done) | (simp [*]; done), by repeat (first | exact Drawn0.refl _ | apply Drawn0.step)⟩

end Go.Proofs.YtfphmpnkfjeceaaDoor.Hp
