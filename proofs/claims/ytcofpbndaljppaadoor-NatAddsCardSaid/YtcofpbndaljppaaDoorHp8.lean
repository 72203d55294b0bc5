/- Go functions of this seat as Lean functions, and their contracts: what the Go code computes, for every input. (By hp.py, a program of this repo, over the kit's print.py.) -/
import Derived.Test.YtcofpbndaljppaaDoorHp0
import Derived.Test.YtcofpbndaljppaaDoorHp7
namespace Go.Proofs.YtcofpbndaljppaaDoor.Hp
open Go.RowKit Go.Proofs.YtcofpbndaljppaaDoorW.PrintWords Go.Proofs.YtcofpbndaljppaaDoorW.PrintLast Go.Proofs.YtcofpbndaljppaaDoorW.PrintMore
attribute [local go_sem] max2_int min2_int max_two min_two max_three min_three max_four min_four   -- for this text's walks alone
set_option linter.unusedVariables false
set_option linter.unusedSimpArgs false

/-! ### lanyardref06_Sub: function 29 -/
def lanyardref06_Sub.l0 : Nat → List Int → List Int → List Int → Int → Int → Option (List Int)
 | 0, _, _, _, _, _ => none
 | k + 1, x0, x1, x5, x6, x7 => if x7 < (x0.length : Int) then (if 0 ≤ x7 then ((lanyardref06_at.f x1 x7).bind fun t468 => (if (wrap64 ((wrap64 ((rd x0 x7) - t468)) - x6)) < 0 then (if x5.length < 17592186044416 then (lanyardref06_Sub.l0 k x0 x1 (x5 ++ [wrap64 ((wrap64 ((wrap64 ((rd x0 x7) - t468)) - x6)) + 256)]) 1 (wrap64 (x7 + 1))) else (none)) else (if x5.length < 17592186044416 then (lanyardref06_Sub.l0 k x0 x1 (x5 ++ [wrap64 ((wrap64 ((rd x0 x7) - t468)) - x6)]) 0 (wrap64 (x7 + 1))) else (none)))) else (none)) else ((lanyardref06_trim.f k x5).bind fun t475 => (some t475))
def lanyardref06_Sub.f (k : Nat) (l0 : List Int) (l1 : List Int) : Option (List Int) := lanyardref06_Sub.l0 k l0 l1 ([] : List Int) 0 0
theorem lanyardref06_Sub.mono_l : ∀ k, (∀ y0 y1 y2 y3 y4, LeO (lanyardref06_Sub.l0 k y0 y1 y2 y3 y4) (lanyardref06_Sub.l0 (k + 1) y0 y1 y2 y3 y4))
 | 0 => fun _ _ _ _ _ r h => by simp [lanyardref06_Sub.l0] at h
 | k + 1 => by
  have ih0 := lanyardref06_Sub.mono_l k
  ·intro y0 y1 y2 y3 y4
   unfold lanyardref06_Sub.l0
   repeat' first
   | (with_reducible exact ih0 _ _ _ _ _)
   | (with_reducible exact lanyardref06_trim.mono _ _)
   | (with_reducible exact LeO.refl _)
   | (with_reducible exact LeO.none _)
   | (with_reducible refine LeO.ite ?_ ?_)
   | (with_reducible refine LeO.bind ?_ (fun _ => ?_))
   | exact ih0 _ _ _ _ _
   | exact lanyardref06_trim.mono _ _
   | exact LeO.none _
   | refine LeO.ite ?_ ?_
   | refine LeO.bind ?_ (fun _ => ?_)
theorem lanyardref06_Sub.mono : ∀ a0 a1 k, LeO (lanyardref06_Sub.f k a0 a1) (lanyardref06_Sub.f (k + 1) a0 a1) := by
 intro a0 a1 k
 have ih0 := lanyardref06_Sub.mono_l k
 unfold lanyardref06_Sub.f
 repeat' first
   | (with_reducible exact ih0 _ _ _ _ _)
   | (with_reducible exact lanyardref06_trim.mono _ _)
   | (with_reducible exact LeO.refl _)
   | (with_reducible exact LeO.none _)
   | (with_reducible refine LeO.ite ?_ ?_)
   | (with_reducible refine LeO.bind ?_ (fun _ => ?_))
   | exact ih0 _ _ _ _ _
   | exact lanyardref06_trim.mono _ _
   | exact LeO.none _
   | refine LeO.ite ?_ ?_
   | refine LeO.bind ?_ (fun _ => ?_)
set_option maxHeartbeats 8000000 in
set_option maxRecDepth 100000 in
theorem lanyardref06_Sub.calls (k : Nat) (A0 : Option Addr) (c0 : Nat) (l0 : List Int) (A1 : Option Addr) (c1 : Nat) (l1 : List Int) (r : List Int) (w : World) (hr0 : Kd.C (Kd.int .i64) w A0 l0.length l0) (hc0 : l0.length ≤ c0) (hr1 : Kd.C (Kd.int .i64) w A1 l1.length l1) (hc1 : l1.length ≤ c1) (h : lanyardref06_Sub.f k l0 l1 = some r) :
  Calls Tryd.prog 29 #[.slice A0 l0.length c0, .slice A1 l1.length c1] w fun e w' => ∃ v0_ : Value, e = .returned (v0_) ∧ Kd.V (Kd.int .i64) 3 w' w.heap.size (fun k_ => (w.heap.size ≤ k_)) v0_ r ∧ Below w.heap.size w w' := by
 have HR0 := Aside0.mk hr0
 have HC0 := Aside0.mk hc0
 clear hr0 hc0
 have HR1 := Aside0.mk hr1
 have HC1 := Aside0.mk hc1
 clear hr1 hc1
 have HB := Aside0.mk (Below.refl w.heap.size w)
 have H : (lanyardref06_Sub.l0 k l0 l1 ([] : List Int) 0 0) = some r := h
 clear h
 have H' := Aside0.mk H
 clear H
 go_enter Tryd.func29, Tryd.ntmps29
 go_wp2
 repeat (go_quiet (fail); try go_wp2)
 go_loopg [5, 6, 7] k (fun kq v5 v6 v7 w' => ∃ (x5_1 : List Int) (x6_1 : Int) (x7_1 : Int), v6 = .int .i64 x6_1 ∧ v7 = .int .i64 x7_1 ∧ Aside0 (lanyardref06_Sub.l0 kq l0 l1 x5_1 x6_1 x7_1 = some r) ∧ Aside0 (kq ≤ k) ∧ Aside0 (Kd.R (Kd.int .i64) 3 w' w.heap.size (fun k_ => (w.heap.size ≤ k_)) v5 x5_1) ∧ Aside0 (Below w.heap.size w w'))
 case atStart => exact ⟨(([] : List Int)), (0), (0), (by first | rfl | (simp; done) | (simp [*]; done)), (by first | rfl | (simp; done) | (simp [*]; done)), H', ⟨Nat.le_refl _⟩, ⟨by first | exact Kd.R_nil _ _ _ _ _ | exact Kd.N_nil _ _ _ _ _ | exact Kd.V_nil _ _ _ _ _ | exact Kd.Q_nil _ _ _ _ _ | exact Kd.S_nil _ _ _ _ _⟩, ⟨Bu HB⟩⟩
 case round =>
  clear H'
  try clear c1
  try clear c2
  try clear p2
  obtain ⟨x5_1, x6_1, x7_1, rfl, rfl, HA, HK1, HO_5, HB⟩ := hrel
  cases gk with
  | zero => exact absurd HA.out (by simp [lanyardref06_Sub.l0])
  | succ k1 =>
   have H := HA.out
   clear HA
   simp only [lanyardref06_Sub.l0] at H
   by_cases c3 : x7_1 < (l0.length : Int)
   ·rw [if_pos c3] at H
    have c3b0 : decide (x7_1 < (l0.length : Int)) = true := decide_eq_true c3
    clear c3
    by_cases c4 : 0 ≤ x7_1
    ·rw [if_pos c4] at H
     have c4b0 : decide (0 ≤ x7_1) = true := decide_eq_true c4
     clear c4
     replace H := Option.bind_eq_some_iff.mp H
     obtain ⟨t468, A50, H⟩ := H
     replace H : (if (wrap64 ((wrap64 ((rd l0 x7_1) - t468)) - x6_1)) < 0 then (if x5_1.length < 17592186044416 then (lanyardref06_Sub.l0 k1 l0 l1 (x5_1 ++ [wrap64 ((wrap64 ((wrap64 ((rd l0 x7_1) - t468)) - x6_1)) + 256)]) 1 (wrap64 (x7_1 + 1))) else (none)) else (if x5_1.length < 17592186044416 then (lanyardref06_Sub.l0 k1 l0 l1 (x5_1 ++ [wrap64 ((wrap64 ((rd l0 x7_1) - t468)) - x6_1)]) 0 (wrap64 (x7_1 + 1))) else (none))) = some r := H
     have A5 := Aside0.mk A50
     clear A50
     by_cases c6 : (wrap64 ((wrap64 ((rd l0 x7_1) - t468)) - x6_1)) < 0
     ·rw [if_pos c6] at H
      have c6b0 : decide ((wrap64 ((wrap64 ((rd l0 x7_1) - t468)) - x6_1)) < 0) = true := decide_eq_true c6
      clear c6
      by_cases c7 : x5_1.length < 17592186044416
      ·rw [if_pos c7] at H
       have LMc7 := Aside0.mk c7
       clear c7
       obtain ⟨y469, hy469⟩ : ∃ y_ : List Int, y_ = (x5_1 ++ [wrap64 ((wrap64 ((wrap64 ((rd l0 x7_1) - t468)) - x6_1)) + 256)]) := ⟨_, rfl⟩
       replace H : (lanyardref06_Sub.l0 k1 l0 l1 y469 1 (wrap64 (x7_1 + 1))) = some r := by first | (rw [hy469]; with_reducible exact H) | (have H2_ := (Option.bind_some _ _).symm.trans H; rw [hy469]; with_reducible exact H2_) | (have H2_ := (Option.bind_some _ _).symm.trans H; with_reducible exact H2_) | with_reducible exact H | (rw [hy469]; exact H) | exact H
       have Ny469 := Aside0.mk hy469
       clear hy469
       have H' := Aside0.mk H
       clear H
       have p467 : 0 ≤ (x7_1 : Int) := of_decide_eq_true (by first | (with_reducible assumption) | assumption)
       have q467 : x7_1 < (l0.length : Int) := of_decide_eq_true (by first | (with_reducible assumption) | assumption)
       obtain ⟨ad467, e467, hx467_0⟩ := Kd.at_int HR0.out x7_1 p467 q467
       cases e467
       replace hx467_0 := (HB.out.cell (World.block_lt_of_cell? w _ hx467_0)).trans hx467_0
       replace p467 := eq_true p467
       replace q467 := eq_true q467
       go_wp2_with (first | (go_at_call 43; (with_reducible refine (lanyardref06_at.calls _ _ l1 x7_1 t468 _ ?side1 ?side2 A5.out).mono ?_); (case side1 => exact Cu (Kd.C_below HR1.out HB.out)); (case side2 => exact HC1.out); rintro e w' ⟨rfl, ⟨nd, rfl⟩⟩; (try first | exact ⟨rfl, _, World.drewN_drewN _ _ _⟩ | exact ⟨rfl, _, Eq.trans (World.drewN_drewN _ _ _) (congrArg (World.drewN _) (Nat.add_assoc _ _ _))⟩)) | ((with_reducible refine gate_builtin (b := .append) (xs := #[.tmp 29, .tmp 31]) rfl ?_); at_builtin; refine Kd.R_append (Kd.int .i64) (w0 := w) w.heap.size rfl (.tmp 29) (.tmp 31) 24 3 (.int .i64 0) 8 rfl Tryd.underlying24 info3 rfl (by decide) (by omega) u5 x5_1 (wrap64 ((wrap64 ((wrap64 ((rd l0 x7_1) - t468)) - x6_1)) + 256)) [.int .i64 (wrap64 ((wrap64 ((wrap64 ((rd l0 x7_1) - t468)) - x6_1)) + 256))] (fun k_ => (w.heap.size ≤ k_)) (fun _ => False) rfl rfl ?aP (fun _ hk => hk.elim) ?aF ?aO ?aB ?aS ?aL ?_; (case aP => exact rfl); (case aB => exact (Bu HB)); (case aF => exact (fun k_ hk => (Nat.le_trans (Bz HB) hk))); (case aO => exact (Ru HO_5)); (case aS => exact (Bz HB)); (case aL => have := LMc7.out; omega); intro v470 w8 ho hb hg hat; rw [← Ny469.out] at ho; have n0_ := Aside0.mk (hb); have n1_ := Aside0.mk (ho); clear HB HO_5; revert n0_ n1_; intro HB HO471; clear ho hb hg hat))
       repeat (go_quiet (first | (go_at_call 43; (with_reducible refine (lanyardref06_at.calls _ _ l1 x7_1 t468 _ ?side1 ?side2 A5.out).mono ?_); (case side1 => exact Cu (Kd.C_below HR1.out HB.out)); (case side2 => exact HC1.out); rintro e w' ⟨rfl, ⟨nd, rfl⟩⟩; (try first | exact ⟨rfl, _, World.drewN_drewN _ _ _⟩ | exact ⟨rfl, _, Eq.trans (World.drewN_drewN _ _ _) (congrArg (World.drewN _) (Nat.add_assoc _ _ _))⟩)) | ((with_reducible refine gate_builtin (b := .append) (xs := #[.tmp 29, .tmp 31]) rfl ?_); at_builtin; refine Kd.R_append (Kd.int .i64) (w0 := w) w.heap.size rfl (.tmp 29) (.tmp 31) 24 3 (.int .i64 0) 8 rfl Tryd.underlying24 info3 rfl (by decide) (by omega) u5 x5_1 (wrap64 ((wrap64 ((wrap64 ((rd l0 x7_1) - t468)) - x6_1)) + 256)) [.int .i64 (wrap64 ((wrap64 ((wrap64 ((rd l0 x7_1) - t468)) - x6_1)) + 256))] (fun k_ => (w.heap.size ≤ k_)) (fun _ => False) rfl rfl ?aP (fun _ hk => hk.elim) ?aF ?aO ?aB ?aS ?aL ?_; (case aP => exact rfl); (case aB => exact (Bu HB)); (case aF => exact (fun k_ hk => (Nat.le_trans (Bz HB) hk))); (case aO => exact (Ru HO_5)); (case aS => exact (Bz HB)); (case aL => have := LMc7.out; omega); intro v470 w8 ho hb hg hat; rw [← Ny469.out] at ho; have n0_ := Aside0.mk (hb); have n1_ := Aside0.mk (ho); clear HB HO_5; revert n0_ n1_; intro HB HO471; clear ho hb hg hat)); try go_wp2_with (first | (go_at_call 43; (with_reducible refine (lanyardref06_at.calls _ _ l1 x7_1 t468 _ ?side1 ?side2 A5.out).mono ?_); (case side1 => exact Cu (Kd.C_below HR1.out HB.out)); (case side2 => exact HC1.out); rintro e w' ⟨rfl, ⟨nd, rfl⟩⟩; (try first | exact ⟨rfl, _, World.drewN_drewN _ _ _⟩ | exact ⟨rfl, _, Eq.trans (World.drewN_drewN _ _ _) (congrArg (World.drewN _) (Nat.add_assoc _ _ _))⟩)) | ((with_reducible refine gate_builtin (b := .append) (xs := #[.tmp 29, .tmp 31]) rfl ?_); at_builtin; refine Kd.R_append (Kd.int .i64) (w0 := w) w.heap.size rfl (.tmp 29) (.tmp 31) 24 3 (.int .i64 0) 8 rfl Tryd.underlying24 info3 rfl (by decide) (by omega) u5 x5_1 (wrap64 ((wrap64 ((wrap64 ((rd l0 x7_1) - t468)) - x6_1)) + 256)) [.int .i64 (wrap64 ((wrap64 ((wrap64 ((rd l0 x7_1) - t468)) - x6_1)) + 256))] (fun k_ => (w.heap.size ≤ k_)) (fun _ => False) rfl rfl ?aP (fun _ hk => hk.elim) ?aF ?aO ?aB ?aS ?aL ?_; (case aP => exact rfl); (case aB => exact (Bu HB)); (case aF => exact (fun k_ hk => (Nat.le_trans (Bz HB) hk))); (case aO => exact (Ru HO_5)); (case aS => exact (Bz HB)); (case aL => have := LMc7.out; omega); intro v470 w8 ho hb hg hat; rw [← Ny469.out] at ho; have n0_ := Aside0.mk (hb); have n1_ := Aside0.mk (ho); clear HB HO_5; revert n0_ n1_; intro HB HO471; clear ho hb hg hat)))
       go_roundg k1
       case measure => have := HK1.out; omega
       case rel => exact ⟨(y469), (1), (wrap64 (x7_1 + 1)), (by first | rfl | (simp; done) | (simp [*]; done)), (by first | rfl | (simp; done) | (simp [*]; done)), H', ⟨by have := HK1.out; omega⟩, ⟨Ru HO471⟩, ⟨Bu HB⟩⟩
      ·rw [if_neg c7] at H
       exact absurd H (by simp)
     ·rw [if_neg c6] at H
      have c6b0 : decide ((wrap64 ((wrap64 ((rd l0 x7_1) - t468)) - x6_1)) < 0) = false := decide_eq_false c6
      clear c6
      by_cases c9 : x5_1.length < 17592186044416
      ·rw [if_pos c9] at H
       have LMc9 := Aside0.mk c9
       clear c9
       obtain ⟨y472, hy472⟩ : ∃ y_ : List Int, y_ = (x5_1 ++ [wrap64 ((wrap64 ((rd l0 x7_1) - t468)) - x6_1)]) := ⟨_, rfl⟩
       replace H : (lanyardref06_Sub.l0 k1 l0 l1 y472 0 (wrap64 (x7_1 + 1))) = some r := by first | (rw [hy472]; with_reducible exact H) | (have H2_ := (Option.bind_some _ _).symm.trans H; rw [hy472]; with_reducible exact H2_) | (have H2_ := (Option.bind_some _ _).symm.trans H; with_reducible exact H2_) | with_reducible exact H | (rw [hy472]; exact H) | exact H
       have Ny472 := Aside0.mk hy472
       clear hy472
       have H' := Aside0.mk H
       clear H
       have p467 : 0 ≤ (x7_1 : Int) := of_decide_eq_true (by first | (with_reducible assumption) | assumption)
       have q467 : x7_1 < (l0.length : Int) := of_decide_eq_true (by first | (with_reducible assumption) | assumption)
       obtain ⟨ad467, e467, hx467_0⟩ := Kd.at_int HR0.out x7_1 p467 q467
       cases e467
       replace hx467_0 := (HB.out.cell (World.block_lt_of_cell? w _ hx467_0)).trans hx467_0
       replace p467 := eq_true p467
       replace q467 := eq_true q467
       go_wp2_with (first | (go_at_call 43; (with_reducible refine (lanyardref06_at.calls _ _ l1 x7_1 t468 _ ?side1 ?side2 A5.out).mono ?_); (case side1 => exact Cu (Kd.C_below HR1.out HB.out)); (case side2 => exact HC1.out); rintro e w' ⟨rfl, ⟨nd, rfl⟩⟩; (try first | exact ⟨rfl, _, World.drewN_drewN _ _ _⟩ | exact ⟨rfl, _, Eq.trans (World.drewN_drewN _ _ _) (congrArg (World.drewN _) (Nat.add_assoc _ _ _))⟩)) | ((with_reducible refine gate_builtin (b := .append) (xs := #[.tmp 29, .tmp 31]) rfl ?_); at_builtin; refine Kd.R_append (Kd.int .i64) (w0 := w) w.heap.size rfl (.tmp 29) (.tmp 31) 24 3 (.int .i64 0) 8 rfl Tryd.underlying24 info3 rfl (by decide) (by omega) u5 x5_1 (wrap64 ((wrap64 ((rd l0 x7_1) - t468)) - x6_1)) [.int .i64 (wrap64 ((wrap64 ((rd l0 x7_1) - t468)) - x6_1))] (fun k_ => (w.heap.size ≤ k_)) (fun _ => False) rfl rfl ?aP (fun _ hk => hk.elim) ?aF ?aO ?aB ?aS ?aL ?_; (case aP => exact rfl); (case aB => exact (Bu HB)); (case aF => exact (fun k_ hk => (Nat.le_trans (Bz HB) hk))); (case aO => exact (Ru HO_5)); (case aS => exact (Bz HB)); (case aL => have := LMc9.out; omega); intro v473 w10 ho hb hg hat; rw [← Ny472.out] at ho; have n0_ := Aside0.mk (hb); have n1_ := Aside0.mk (ho); clear HB HO_5; revert n0_ n1_; intro HB HO474; clear ho hb hg hat))
       repeat (go_quiet (first | (go_at_call 43; (with_reducible refine (lanyardref06_at.calls _ _ l1 x7_1 t468 _ ?side1 ?side2 A5.out).mono ?_); (case side1 => exact Cu (Kd.C_below HR1.out HB.out)); (case side2 => exact HC1.out); rintro e w' ⟨rfl, ⟨nd, rfl⟩⟩; (try first | exact ⟨rfl, _, World.drewN_drewN _ _ _⟩ | exact ⟨rfl, _, Eq.trans (World.drewN_drewN _ _ _) (congrArg (World.drewN _) (Nat.add_assoc _ _ _))⟩)) | ((with_reducible refine gate_builtin (b := .append) (xs := #[.tmp 29, .tmp 31]) rfl ?_); at_builtin; refine Kd.R_append (Kd.int .i64) (w0 := w) w.heap.size rfl (.tmp 29) (.tmp 31) 24 3 (.int .i64 0) 8 rfl Tryd.underlying24 info3 rfl (by decide) (by omega) u5 x5_1 (wrap64 ((wrap64 ((rd l0 x7_1) - t468)) - x6_1)) [.int .i64 (wrap64 ((wrap64 ((rd l0 x7_1) - t468)) - x6_1))] (fun k_ => (w.heap.size ≤ k_)) (fun _ => False) rfl rfl ?aP (fun _ hk => hk.elim) ?aF ?aO ?aB ?aS ?aL ?_; (case aP => exact rfl); (case aB => exact (Bu HB)); (case aF => exact (fun k_ hk => (Nat.le_trans (Bz HB) hk))); (case aO => exact (Ru HO_5)); (case aS => exact (Bz HB)); (case aL => have := LMc9.out; omega); intro v473 w10 ho hb hg hat; rw [← Ny472.out] at ho; have n0_ := Aside0.mk (hb); have n1_ := Aside0.mk (ho); clear HB HO_5; revert n0_ n1_; intro HB HO474; clear ho hb hg hat)); try go_wp2_with (first | (go_at_call 43; (with_reducible refine (lanyardref06_at.calls _ _ l1 x7_1 t468 _ ?side1 ?side2 A5.out).mono ?_); (case side1 => exact Cu (Kd.C_below HR1.out HB.out)); (case side2 => exact HC1.out); rintro e w' ⟨rfl, ⟨nd, rfl⟩⟩; (try first | exact ⟨rfl, _, World.drewN_drewN _ _ _⟩ | exact ⟨rfl, _, Eq.trans (World.drewN_drewN _ _ _) (congrArg (World.drewN _) (Nat.add_assoc _ _ _))⟩)) | ((with_reducible refine gate_builtin (b := .append) (xs := #[.tmp 29, .tmp 31]) rfl ?_); at_builtin; refine Kd.R_append (Kd.int .i64) (w0 := w) w.heap.size rfl (.tmp 29) (.tmp 31) 24 3 (.int .i64 0) 8 rfl Tryd.underlying24 info3 rfl (by decide) (by omega) u5 x5_1 (wrap64 ((wrap64 ((rd l0 x7_1) - t468)) - x6_1)) [.int .i64 (wrap64 ((wrap64 ((rd l0 x7_1) - t468)) - x6_1))] (fun k_ => (w.heap.size ≤ k_)) (fun _ => False) rfl rfl ?aP (fun _ hk => hk.elim) ?aF ?aO ?aB ?aS ?aL ?_; (case aP => exact rfl); (case aB => exact (Bu HB)); (case aF => exact (fun k_ hk => (Nat.le_trans (Bz HB) hk))); (case aO => exact (Ru HO_5)); (case aS => exact (Bz HB)); (case aL => have := LMc9.out; omega); intro v473 w10 ho hb hg hat; rw [← Ny472.out] at ho; have n0_ := Aside0.mk (hb); have n1_ := Aside0.mk (ho); clear HB HO_5; revert n0_ n1_; intro HB HO474; clear ho hb hg hat)))
       go_roundg k1
       case measure => have := HK1.out; omega
       case rel => exact ⟨(y472), (0), (wrap64 (x7_1 + 1)), (by first | rfl | (simp; done) | (simp [*]; done)), (by first | rfl | (simp; done) | (simp [*]; done)), H', ⟨by have := HK1.out; omega⟩, ⟨Ru HO474⟩, ⟨Bu HB⟩⟩
      ·rw [if_neg c9] at H
       exact absurd H (by simp)
    ·rw [if_neg c4] at H
     exact absurd H (by simp)
   ·rw [if_neg c3] at H
    have c3b0 : decide (x7_1 < (l0.length : Int)) = false := decide_eq_false c3
    clear c3
    replace H := Option.bind_eq_some_iff.mp H
    obtain ⟨t475, A110, H⟩ := H
    replace H : (some t475) = some r := H
    have A11 := Aside0.mk A110
    clear A110
    obtain rfl := Option.some.inj H
    obtain ⟨Ao12, co12, eo12⟩ := Kd.R_slice HO_5.out
    subst eo12
    go_wp2_with (first | (go_at_call 30; (with_reducible refine (lanyardref06_trim.calls k1 (fun k_ => some k_ = (.slice Ao12 x5_1.length co12 : Value).ownBlock) _ _ x5_1 t475 _ ?side1 A11.out).mono ?_); (case side1 => exact Kd.R_V (Kd.R_tight rfl (HO_5.out))); rintro e w13 ⟨v476, rfl, ho0, hb⟩; have n0_ := Rb HO_5 hb; have n1_ := Aside0.mk (Kd.V_lower (Kd.V_mono (ok' := fun k_ => (w.heap.size ≤ k_)) ho0 (fun k_ hk_ => Or.elim hk_ (fun hs_ => ((HO_5.out).1 k_ hs_.symm)) (fun hn_ => (Nat.le_trans (Bz HB) hn_)))) (Bz HB)); have n2_ := Bs HB hb; clear HO_5 HB; revert n0_ n1_ n2_; intro HO_5 HO477 HB; (try clear hb); (try clear hb2); (try clear hk); (try clear hi); (try clear ho0)))
    repeat (go_quiet (first | (go_at_call 30; (with_reducible refine (lanyardref06_trim.calls k1 (fun k_ => some k_ = (.slice Ao12 x5_1.length co12 : Value).ownBlock) _ _ x5_1 t475 _ ?side1 A11.out).mono ?_); (case side1 => exact Kd.R_V (Kd.R_tight rfl (HO_5.out))); rintro e w13 ⟨v476, rfl, ho0, hb⟩; have n0_ := Rb HO_5 hb; have n1_ := Aside0.mk (Kd.V_lower (Kd.V_mono (ok' := fun k_ => (w.heap.size ≤ k_)) ho0 (fun k_ hk_ => Or.elim hk_ (fun hs_ => ((HO_5.out).1 k_ hs_.symm)) (fun hn_ => (Nat.le_trans (Bz HB) hn_)))) (Bz HB)); have n2_ := Bs HB hb; clear HO_5 HB; revert n0_ n1_ n2_; intro HO_5 HO477 HB; (try clear hb); (try clear hb2); (try clear hk); (try clear hi); (try clear ho0))); try go_wp2_with (first | (go_at_call 30; (with_reducible refine (lanyardref06_trim.calls k1 (fun k_ => some k_ = (.slice Ao12 x5_1.length co12 : Value).ownBlock) _ _ x5_1 t475 _ ?side1 A11.out).mono ?_); (case side1 => exact Kd.R_V (Kd.R_tight rfl (HO_5.out))); rintro e w13 ⟨v476, rfl, ho0, hb⟩; have n0_ := Rb HO_5 hb; have n1_ := Aside0.mk (Kd.V_lower (Kd.V_mono (ok' := fun k_ => (w.heap.size ≤ k_)) ho0 (fun k_ hk_ => Or.elim hk_ (fun hs_ => ((HO_5.out).1 k_ hs_.symm)) (fun hn_ => (Nat.le_trans (Bz HB) hn_)))) (Bz HB)); have n2_ := Bs HB hb; clear HO_5 HB; revert n0_ n1_ n2_; intro HO_5 HO477 HB; (try clear hb); (try clear hb2); (try clear hk); (try clear hi); (try clear ho0))))
    go_ret
    exact ⟨_, rfl_, Vu HO477, Bu HB⟩

/-! ### lanyardref06_Div: function 14 -/
mutual
def lanyardref06_Div.l0 : Nat → List Int → List (List Int) → Int → Option (List Int × List Int)
 | 0, _, _, _ => none
 | k + 1, x0, x6, x7 => if x7 < 8 then (if 0 ≤ (wrap64 (x7 - 1)) then (if (wrap64 (x7 - 1)) < (x6.length : Int) then ((lanyardref06_Add.f k (rd_L7 x6 (wrap64 (x7 - 1))) (rd_L7 x6 (wrap64 (x7 - 1)))).bind fun t483 => (if x6.length < 5864062014805 then (lanyardref06_Div.l0 k x0 (x6 ++ [t483]) (wrap64 (x7 + 1))) else (none))) else (none)) else (none)) else (if 0 ≤ (x0.length : Int) then (if ((x0.length : Int) : Int).toNat ≤ 35184372088832 then (lanyardref06_Div.l1 k x0 x6 (List.replicate ((x0.length : Int) : Int).toNat 0) ([] : List Int) (wrap64 ((x0.length : Int) - 1))) else (none)) else (none))
def lanyardref06_Div.l1 : Nat → List Int → List (List Int) → List Int → List Int → Int → Option (List Int × List Int)
 | 0, _, _, _, _, _ => none
 | k + 1, x0, x6, x8, x9, x10 => if x10 ≥ 0 then (if 0 ≤ x10 then (if x10 < (x0.length : Int) then ((some (([rd x0 x10] : List Int) : List Int)).bind fun y496 => (if y496.length + x9.length < 17592186044416 then ((lanyardref06_trim.f k (y496 ++ x9)).bind fun t502 => (lanyardref06_Div.l2 k x0 x6 x8 t502 x10 128 7)) else (none))) else (none)) else (none)) else ((lanyardref06_trim.f k x8).bind fun t492 => (some (t492, x9)))
def lanyardref06_Div.l2 : Nat → List Int → List (List Int) → List Int → List Int → Int → Int → Int → Option (List Int × List Int)
 | 0, _, _, _, _, _, _, _ => none
 | k + 1, x0, x6, x8, x9, x10, x11, x12 => if x12 ≥ 0 then (if 0 ≤ x12 then (if x12 < (x6.length : Int) then ((lanyardref06_Cmp.f k x9 (rd_L7 x6 x12)).bind fun t506 => (if t506 ≥ 0 then ((lanyardref06_Sub.f k x9 (rd_L7 x6 x12)).bind fun t508 => (if 0 ≤ x10 then (if x10 < (x8.length : Int) then (lanyardref06_Div.l2 k x0 x6 (x8.set (x10 : Int).toNat (wrap64 ((rd x8 x10) + x11))) t508 x10 (wrap64 (Int.tdiv x11 2)) (wrap64 (x12 - 1))) else (none)) else (none))) else (lanyardref06_Div.l2 k x0 x6 x8 x9 x10 (wrap64 (Int.tdiv x11 2)) (wrap64 (x12 - 1))))) else (none)) else (none)) else (lanyardref06_Div.l1 k x0 x6 x8 x9 (wrap64 (x10 - 1)))
end
def lanyardref06_Div.f (k : Nat) (l0 : List Int) (l1 : List Int) : Option (List Int × List Int) := lanyardref06_Div.l0 k l0 (([l1] : List (List Int))) 1
theorem lanyardref06_Div.mono_l : ∀ k, (∀ y0 y1 y2, LeO (lanyardref06_Div.l0 k y0 y1 y2) (lanyardref06_Div.l0 (k + 1) y0 y1 y2)) ∧ (∀ y0 y1 y2 y3 y4, LeO (lanyardref06_Div.l1 k y0 y1 y2 y3 y4) (lanyardref06_Div.l1 (k + 1) y0 y1 y2 y3 y4)) ∧ (∀ y0 y1 y2 y3 y4 y5 y6, LeO (lanyardref06_Div.l2 k y0 y1 y2 y3 y4 y5 y6) (lanyardref06_Div.l2 (k + 1) y0 y1 y2 y3 y4 y5 y6))
 | 0 => ⟨fun _ _ _ r h => by simp [lanyardref06_Div.l0] at h, fun _ _ _ _ _ r h => by simp [lanyardref06_Div.l1] at h, fun _ _ _ _ _ _ _ r h => by simp [lanyardref06_Div.l2] at h⟩
 | k + 1 => by
  obtain ⟨ih0, ih1, ih2⟩ := lanyardref06_Div.mono_l k
  refine ⟨?_, ?_, ?_⟩
  ·intro y0 y1 y2
   unfold lanyardref06_Div.l0
   repeat' first
   | (with_reducible exact ih0 _ _ _)
   | (with_reducible exact ih1 _ _ _ _ _)
   | (with_reducible exact ih2 _ _ _ _ _ _ _)
   | (with_reducible exact lanyardref06_Add.mono _ _ _)
   | (with_reducible exact lanyardref06_Cmp.mono _ _ _)
   | (with_reducible exact lanyardref06_Sub.mono _ _ _)
   | (with_reducible exact lanyardref06_trim.mono _ _)
   | (with_reducible exact LeO.refl _)
   | (with_reducible exact LeO.none _)
   | (with_reducible refine LeO.ite ?_ ?_)
   | (with_reducible refine LeO.bind ?_ (fun _ => ?_))
   | exact ih0 _ _ _
   | exact ih1 _ _ _ _ _
   | exact ih2 _ _ _ _ _ _ _
   | exact lanyardref06_Add.mono _ _ _
   | exact lanyardref06_Cmp.mono _ _ _
   | exact lanyardref06_Sub.mono _ _ _
   | exact lanyardref06_trim.mono _ _
   | exact LeO.none _
   | refine LeO.ite ?_ ?_
   | refine LeO.bind ?_ (fun _ => ?_)
  ·intro y0 y1 y2 y3 y4
   unfold lanyardref06_Div.l1
   repeat' first
   | (with_reducible exact ih0 _ _ _)
   | (with_reducible exact ih1 _ _ _ _ _)
   | (with_reducible exact ih2 _ _ _ _ _ _ _)
   | (with_reducible exact lanyardref06_Add.mono _ _ _)
   | (with_reducible exact lanyardref06_Cmp.mono _ _ _)
   | (with_reducible exact lanyardref06_Sub.mono _ _ _)
   | (with_reducible exact lanyardref06_trim.mono _ _)
   | (with_reducible exact LeO.refl _)
   | (with_reducible exact LeO.none _)
   | (with_reducible refine LeO.ite ?_ ?_)
   | (with_reducible refine LeO.bind ?_ (fun _ => ?_))
   | exact ih0 _ _ _
   | exact ih1 _ _ _ _ _
   | exact ih2 _ _ _ _ _ _ _
   | exact lanyardref06_Add.mono _ _ _
   | exact lanyardref06_Cmp.mono _ _ _
   | exact lanyardref06_Sub.mono _ _ _
   | exact lanyardref06_trim.mono _ _
   | exact LeO.none _
   | refine LeO.ite ?_ ?_
   | refine LeO.bind ?_ (fun _ => ?_)
  ·intro y0 y1 y2 y3 y4 y5 y6
   unfold lanyardref06_Div.l2
   repeat' first
   | (with_reducible exact ih0 _ _ _)
   | (with_reducible exact ih1 _ _ _ _ _)
   | (with_reducible exact ih2 _ _ _ _ _ _ _)
   | (with_reducible exact lanyardref06_Add.mono _ _ _)
   | (with_reducible exact lanyardref06_Cmp.mono _ _ _)
   | (with_reducible exact lanyardref06_Sub.mono _ _ _)
   | (with_reducible exact lanyardref06_trim.mono _ _)
   | (with_reducible exact LeO.refl _)
   | (with_reducible exact LeO.none _)
   | (with_reducible refine LeO.ite ?_ ?_)
   | (with_reducible refine LeO.bind ?_ (fun _ => ?_))
   | exact ih0 _ _ _
   | exact ih1 _ _ _ _ _
   | exact ih2 _ _ _ _ _ _ _
   | exact lanyardref06_Add.mono _ _ _
   | exact lanyardref06_Cmp.mono _ _ _
   | exact lanyardref06_Sub.mono _ _ _
   | exact lanyardref06_trim.mono _ _
   | exact LeO.none _
   | refine LeO.ite ?_ ?_
   | refine LeO.bind ?_ (fun _ => ?_)
theorem lanyardref06_Div.mono : ∀ a0 a1 k, LeO (lanyardref06_Div.f k a0 a1) (lanyardref06_Div.f (k + 1) a0 a1) := by
 intro a0 a1 k
 obtain ⟨ih0, ih1, ih2⟩ := lanyardref06_Div.mono_l k
 unfold lanyardref06_Div.f
 repeat' first
   | (with_reducible exact ih0 _ _ _)
   | (with_reducible exact ih1 _ _ _ _ _)
   | (with_reducible exact ih2 _ _ _ _ _ _ _)
   | (with_reducible exact lanyardref06_Add.mono _ _ _)
   | (with_reducible exact lanyardref06_Cmp.mono _ _ _)
   | (with_reducible exact lanyardref06_Sub.mono _ _ _)
   | (with_reducible exact lanyardref06_trim.mono _ _)
   | (with_reducible exact LeO.refl _)
   | (with_reducible exact LeO.none _)
   | (with_reducible refine LeO.ite ?_ ?_)
   | (with_reducible refine LeO.bind ?_ (fun _ => ?_))
   | exact ih0 _ _ _
   | exact ih1 _ _ _ _ _
   | exact ih2 _ _ _ _ _ _ _
   | exact lanyardref06_Add.mono _ _ _
   | exact lanyardref06_Cmp.mono _ _ _
   | exact lanyardref06_Sub.mono _ _ _
   | exact lanyardref06_trim.mono _ _
   | exact LeO.none _
   | refine LeO.ite ?_ ?_
   | refine LeO.bind ?_ (fun _ => ?_)
def lanyardref06_Div.T5 : Bool × List (List Nat × List Nat) := (true, [([], []), ([], []), ([], []), ([2], [2]), ([1, 3], [1, 3]), ([4], [4]), ([], []), ([], []), ([7], [7]), ([6, 8], [6, 8]), ([9], [9]), ([5, 10], [5, 10]), ([11], [11]), ([0, 12, 11], [0, 12]), ([13, 13, 0, 1, 2, 3, 4, 5, 6, 7, 8, 9, 10, 11, 12, 13], [0, 1, 6, 13])])
def lanyardref06_Div.B5 : List Nat := [0, 0, 0, 4, 14, 30, 0, 0, 128, 448, 960, 2046, 4094, 8191, 16383]
theorem lanyardref06_Div.tab5 : rtab .any (opsOf Tryd.f14 5) = lanyardref06_Div.T5 := by kernel_rfl
theorem lanyardref06_Div.bits5 : waitsOk lanyardref06_Div.T5.2 lanyardref06_Div.B5 = true := by kernel_rfl
set_option maxHeartbeats 8000000 in
set_option maxRecDepth 100000 in
theorem lanyardref06_Div.calls (k : Nat) (A0 : Option Addr) (c0 : Nat) (l0 : List Int) (P1_ : Nat → Prop) (A1 : Option Addr) (c1 : Nat) (l1 : List Int) (r1 : List Int) (r2 : List Int) (w : World) (hr0 : Kd.C (Kd.int .i64) w A0 l0.length l0) (hc0 : l0.length ≤ c0) (hs1 : Kd.V (Kd.int .i64) 3 w w.heap.size (fun k_ => P1_ k_) (.slice A1 l1.length c1) l1) (h : lanyardref06_Div.f k l0 l1 = some (r1, r2)) :
  Calls Tryd.prog 14 #[.slice A0 l0.length c0, .slice A1 l1.length c1] w fun e w' => ∃ v0_ v1_ : Value, e = .returned (.tuple #[v0_, v1_]) ∧ Kd.V (Kd.int .i64) 3 w' w.heap.size (fun k_ => (P1_ k_ ∨ w.heap.size ≤ k_)) v0_ r1 ∧ Kd.V (Kd.int .i64) 3 w' w.heap.size (fun k_ => (P1_ k_ ∨ w.heap.size ≤ k_)) v1_ r2 ∧ Below w.heap.size w w' := by
 have HR0 := Aside0.mk hr0
 have HC0 := Aside0.mk hc0
 clear hr0 hc0
 have HO1 := Aside0.mk (show Kd.V (Kd.int .i64) 3 w w.heap.size (fun k_ => (P1_ k_ ∨ w.heap.size ≤ k_)) (.slice A1 l1.length c1) l1 from Kd.V_mono hs1 (fun k_ hk => .inl hk))
 have HB := Aside0.mk (Below.refl w.heap.size w)
 have H : (lanyardref06_Div.l0 k l0 (([l1] : List (List Int))) 1) = some (r1, r2) := h
 clear h
 obtain ⟨y478, hy478⟩ : ∃ y_ : List (List Int), y_ = (([l1] : List (List Int))) := ⟨_, rfl⟩
 replace H : (lanyardref06_Div.l0 k l0 y478 1) = some (r1, r2) := by first | (rw [hy478]; with_reducible exact H) | (have H2_ := (Option.bind_some _ _).symm.trans H; rw [hy478]; with_reducible exact H2_) | (have H2_ := (Option.bind_some _ _).symm.trans H; with_reducible exact H2_) | with_reducible exact H | (rw [hy478]; exact H) | exact H
 have Ny478 := Aside0.mk hy478
 clear hy478
 have H' := Aside0.mk H
 clear H
 go_enter Tryd.func14, Tryd.ntmps14
 go_wp2_with (first | ((with_reducible refine gate_dst (N := 14) rfl ?_); refine Kd.N_lit (Kd.slice 3 (Kd.int .i64)) _ 24 ?hg (N' := 14) ?hd (xs := ([l1] : List (List Int))) (inner := [.slice A1 l1.length c1]) (ok := (fun k_ => (P1_ k_ ∨ w.heap.size ≤ k_))) (okp := (fun k_ => (P1_ k_ ∨ w.heap.size ≤ k_))) ?hr ?hp (fun _ hk => hk) ((show ∀ k_, w.heap.size ≤ k_ → (fun k_ => (P1_ k_ ∨ w.heap.size ≤ k_)) k_ from fun k_ hk => (.inr (Nat.le_trans (Bz HB) hk))) _ (Nat.le_refl _)) (Below.refl _ _) (Nat.le_refl _) (by simp) ?_; (case hd => rfl); (case hg => rfl); (case hr => first | (go_simp; done) | (go_simp; rfl)); (case hp => exact (Reps.one (show Kd.FK (Kd.slice 3 (Kd.int .i64)) _ _ l1 [.slice A1 l1.length c1] from (Kd.FK_slice_mk (Kd.V_reads' (Kd.V_mono (ok' := (fun k_ => (P1_ k_ ∨ w.heap.size ≤ k_))) (HO1.out) (fun k_ hk => hk))).2.1 (Kd.V_F (Kd.V_mono (ok' := (fun k_ => (P1_ k_ ∨ w.heap.size ≤ k_))) (HO1.out) (fun k_ hk => hk))))) (Reps.none _ _))); intro v479 w3 ho4 hb hg_ hnew_; clear hg_ hnew_; (first | rw [← Ny478.out] at ho4 | (simp only [Int.reduceToNat] at ho4; rw [← Ny478.out] at ho4)); have n0_ := Aside0.mk (Kd.V_elder' (Vu HO1) (Kd.N_base (by first | exact ho4 | exact Kd.S_N ho4)) hb); have n1_ := Aside0.mk (Kd.N_lower ho4 (Bz HB)); have n2_ := Bs HB hb; clear HO1 HB; revert n0_ n1_ n2_; intro HO1 HO480 HB; clear hb ho4))
 go_loopg [6, 7] k (fun kq v6 v7 w' => ∃ (x6_1 : List (List Int)) (x7_1 : Int), v7 = .int .i64 x7_1 ∧ Aside0 (lanyardref06_Div.l0 kq l0 x6_1 x7_1 = some (r1, r2)) ∧ Aside0 (kq ≤ k) ∧ Aside0 (Kd.N (Kd.slice 3 (Kd.int .i64)) 24 w' w.heap.size (fun k_ => (P1_ k_ ∨ w.heap.size ≤ k_)) v6 x6_1) ∧ Aside0 (Below w.heap.size w w'))
 case atStart => exact ⟨(y478), (1), (by first | rfl | (simp; done) | (simp [*]; done)), H', ⟨Nat.le_refl _⟩, ⟨Nu HO480⟩, ⟨Bu HB⟩⟩
 case round =>
  clear H'
  try clear c1
  try clear p2
  obtain ⟨x6_1, x7_1, rfl, HA, HK1, HO_6, HB⟩ := hrel
  cases gk with
  | zero => exact absurd HA.out (by simp [lanyardref06_Div.l0])
  | succ k1 =>
   have H := HA.out
   clear HA
   simp only [lanyardref06_Div.l0] at H
   by_cases c5 : x7_1 < 8
   ·rw [if_pos c5] at H
    have c5b0 : decide (x7_1 < 8) = true := decide_eq_true c5
    clear c5
    obtain ⟨ji6, hji6⟩ : ∃ j_ : Int, (wrap64 (x7_1 - 1)) = j_ := ⟨_, rfl⟩
    replace H : (if 0 ≤ (ji6) then (if (ji6) < (x6_1.length : Int) then ((lanyardref06_Add.f k1 (rd_L7 x6_1 (ji6)) (rd_L7 x6_1 (ji6))).bind fun t483 => (if x6_1.length < 5864062014805 then (lanyardref06_Div.l0 k1 l0 (x6_1 ++ [t483]) (wrap64 (x7_1 + 1))) else (none))) else (none)) else (none)) = some (r1, r2) := by first | (rw [hji6] at H; exact H) | (simp only [hji6] at H ⊢; exact H)
    have hji6w : (IntKind.i64.wrap (x7_1 - 1)) = ji6 := (i64_w _).trans hji6
    by_cases c7 : 0 ≤ (ji6)
    ·rw [if_pos c7] at H
     have c7b0 : decide (0 ≤ (ji6)) = true := decide_eq_true c7
     clear c7
     by_cases c8 : (ji6) < (x6_1.length : Int)
     ·rw [if_pos c8] at H
      have c8b0 : decide ((ji6) < (x6_1.length : Int)) = true := decide_eq_true c8
      clear c8
      replace H := Option.bind_eq_some_iff.mp H
      obtain ⟨t483, A90, H⟩ := H
      replace H : (if x6_1.length < 5864062014805 then (lanyardref06_Div.l0 k1 l0 (x6_1 ++ [t483]) (wrap64 (x7_1 + 1))) else (none)) = some (r1, r2) := H
      have A9 := Aside0.mk A90
      clear A90
      by_cases c10 : x6_1.length < 5864062014805
      ·rw [if_pos c10] at H
       have LMc10 := Aside0.mk c10
       clear c10
       obtain ⟨y486, hy486⟩ : ∃ y_ : List (List Int), y_ = (x6_1 ++ [t483]) := ⟨_, rfl⟩
       replace H : (lanyardref06_Div.l0 k1 l0 y486 (wrap64 (x7_1 + 1))) = some (r1, r2) := by first | (rw [hy486]; with_reducible exact H) | (have H2_ := (Option.bind_some _ _).symm.trans H; rw [hy486]; with_reducible exact H2_) | (have H2_ := (Option.bind_some _ _).symm.trans H; with_reducible exact H2_) | with_reducible exact H | (rw [hy486]; exact H) | exact H
       have Ny486 := Aside0.mk hy486
       clear hy486
       have H' := Aside0.mk H
       clear H
       try go_wp2
       have n0_ := Aside0.mk (Kd.N_drew HO_6.out)
       have n1_ := Aside0.mk (below_drew1 HB.out)
       clear HO_6
       clear HB
       have HO_6 := n0_
       have HB := n1_
       clear n0_ n1_
       obtain ⟨Ao12, co12, eo12⟩ := Kd.N_slice HO_6.out
       (first | subst eo12 | (injection eo12 with f1_ f2_ f3_; have f4_ := f1_.symm; have f5_ := f3_.symm; clear f1_ f2_ f3_; subst f4_; subst f5_))
       have p481 : 0 ≤ ((ji6) : Int) := of_decide_eq_true (by first | (with_reducible assumption) | assumption)
       have q481 : (ji6) < (x6_1.length : Int) := of_decide_eq_true (by first | (with_reducible assumption) | assumption)
       obtain ⟨ad481, A481_0, c481_0, e481, hx481_0, hl481_0, hi481_0⟩ := at_L7 (Kd.N_reads' HO_6.out).2.2 (ji6) p481 q481
       cases e481
       obtain ⟨ce481, hce481, hMe481, hcc481⟩ := Kd.N_get HO_6.out [] (ji6) p481 (by first | exact q481 | exact of_decide_eq_true (by first | (with_reducible assumption) | assumption) | (have e_ := (Kd.N_reads' HO_6.out).1; omega))
       obtain ⟨ua481_0, uc481_0, rfl, ul481_0, ge481_0⟩ := Kd.FK_slice_open hMe481
       have hv481_0 := hcc481 0 _ rfl
       rw [Nat.add_zero, show ((Kd.slice 3 (Kd.int .i64))).sz = 1 from rfl, Nat.mul_one] at hv481_0
       replace hv481_0 := Option.some.inj (hv481_0.symm.trans hx481_0)
       injection hv481_0 with hva_ hvn_ hvc_
       rw [hva_] at ge481_0
       rw [hvc_] at ul481_0
       have HL481_0 := Aside0.mk (show Kd.V (Kd.int .i64) 3 _ w.heap.size _ _ (rd_L7 x6_1 (ji6)) from Kd.V_mk ul481_0 ge481_0)
       clear hva_ hvn_ hvc_ ge481_0 ul481_0
       clear hcc481 hce481
       have HR481_0 := Aside0.mk hi481_0
       have HC481_0 := Aside0.mk hl481_0
       clear hi481_0 hl481_0
       replace p481 := eq_true p481
       replace q481 := eq_true q481
       have p482 : 0 ≤ ((ji6) : Int) := of_decide_eq_true (by first | (with_reducible assumption) | assumption)
       have q482 : (ji6) < (x6_1.length : Int) := of_decide_eq_true (by first | (with_reducible assumption) | assumption)
       obtain ⟨ad482, A482_0, c482_0, e482, hx482_0, hl482_0, hi482_0⟩ := at_L7 (Kd.N_reads' HO_6.out).2.2 (ji6) p482 q482
       obtain rfl : ad481 = ad482 := (by injection e482)
       obtain ⟨ce482, hce482, hMe482, hcc482⟩ := Kd.N_get HO_6.out [] (ji6) p482 (by first | exact q482 | exact of_decide_eq_true (by first | (with_reducible assumption) | assumption) | (have e_ := (Kd.N_reads' HO_6.out).1; omega))
       obtain ⟨ua482_0, uc482_0, rfl, ul482_0, ge482_0⟩ := Kd.FK_slice_open hMe482
       have hv482_0 := hcc482 0 _ rfl
       rw [Nat.add_zero, show ((Kd.slice 3 (Kd.int .i64))).sz = 1 from rfl, Nat.mul_one] at hv482_0
       replace hv482_0 := Option.some.inj (hv482_0.symm.trans hx482_0)
       injection hv482_0 with hva_ hvn_ hvc_
       rw [hva_] at ge482_0
       rw [hvc_] at ul482_0
       have HL482_0 := Aside0.mk (show Kd.V (Kd.int .i64) 3 _ w.heap.size _ _ (rd_L7 x6_1 (ji6)) from Kd.V_mk ul482_0 ge482_0)
       clear hva_ hvn_ hvc_ ge482_0 ul482_0
       clear hcc482 hce482
       have HR482_0 := Aside0.mk hi482_0
       have HC482_0 := Aside0.mk hl482_0
       clear hi482_0 hl482_0
       replace p482 := eq_true p482
       replace q482 := eq_true q482
       have ea_ := Option.some.inj (hx481_0.symm.trans hx482_0)
       injection ea_ with ea_ en_ ec_
       subst ea_
       subst ec_
       clear en_
       refine start_ (n := 15) (S := fun w' => w'.cell? (ad481.add ((ji6)).toNat) = some (.slice A481_0 (rd_L7 x6_1 (ji6)).length c481_0) ∧ w'.cell? (ad481.add ((ji6)).toNat) = some (.slice A481_0 (rd_L7 x6_1 (ji6)).length c481_0)) (ds := [12, 13]) #[false, false, false, false, false, false, false, false, false, false, false, false, false, false, false] (by kernel_rfl) rfl rfl ⟨hx481_0, hx482_0⟩ (fun hHeld => ?_); refine with_tabW lanyardref06_Div.tab5 lanyardref06_Div.bits5 (fun HT_ HW_ => ?_)
       generalize wr.drew = w11 at HO_6 HB HL481_0 HL482_0 HR481_0 HR482_0 hx481_0 hx482_0 hHeld ⊢
       refine pure_ (i := 0) (N := some 19) (v := ?_) (a' := ?_) #[true, false, false, false, false, false, false, false, false, false, false, false, false, false, false] rfl rfl (any_of HT_.out (by kernel_rfl)) (fun _ _ _ h => h) (Or.inl ⟨by rfl, ?_⟩) ?_ ?_
       rotate_left
       ·intro w'
        go_simp
        with_reducible rfl
       rotate_left
       ·simp only [Act.put, List.setIfInBounds_toArray, List.set_cons_zero, List.set_cons_succ, i64_w, i32_w]
        rfl
       refine pure_ (i := 1) (N := some 20) (v := ?_) (a' := ?_) #[true, true, false, false, false, false, false, false, false, false, false, false, false, false, false] rfl rfl (any_of HT_.out (by kernel_rfl)) (fun _ _ _ h => h) (Or.inl ⟨by rfl, ?_⟩) ?_ ?_
       rotate_left
       ·intro w'
        go_simp
        with_reducible rfl
       rotate_left
       ·simp only [Act.put, List.setIfInBounds_toArray, List.set_cons_zero, List.set_cons_succ, i64_w, i32_w]
        rfl
       refine pure_ (i := 2) (N := some 21) (v := ?_) (a' := ?_) #[true, true, true, false, false, false, false, false, false, false, false, false, false, false, false] rfl rfl (any_of HT_.out (by kernel_rfl)) (fun _ _ _ h => h) (Or.inl ⟨by rfl, ?_⟩) ?_ ?_
       rotate_left
       ·intro w'
        go_simp
        with_reducible rfl
       rotate_left
       ·simp only [Act.put, List.setIfInBounds_toArray, List.set_cons_zero, List.set_cons_succ, i64_w, i32_w]
        rfl
       refine pure_ (i := 3) (N := some 22) (v := ?_) (a' := ?_) #[true, true, true, true, false, false, false, false, false, false, false, false, false, false, false] rfl rfl (any_of HT_.out (by kernel_rfl)) (fun _ _ _ h => h) (Or.inl ⟨by rfl, ?_⟩) ?_ ?_
       rotate_left
       ·intro w'
        go_simp
        with_reducible rfl
       rotate_left
       ·simp only [Act.put, List.setIfInBounds_toArray, List.set_cons_zero, List.set_cons_succ, i64_w, i32_w]
        rfl
       refine pure_ (i := 4) (N := some 23) (v := ?_) (a' := ?_) #[true, true, true, true, true, false, false, false, false, false, false, false, false, false, false] rfl rfl (any_of HT_.out (by kernel_rfl)) (fun _ _ _ h => h) (Or.inl ⟨by rfl, ?_⟩) ?_ ?_
       rotate_left
       ·intro w'
        go_simp
        with_reducible rfl
       rotate_left
       ·simp only [Act.put, List.setIfInBounds_toArray, List.set_cons_zero, List.set_cons_succ, i64_w, i32_w]
        rfl
       refine pure_ (i := 6) (N := some 25) (v := ?_) (a' := ?_) #[true, true, true, true, true, false, true, false, false, false, false, false, false, false, false] rfl rfl (any_of HT_.out (by kernel_rfl)) (fun _ _ _ h => h) (Or.inl ⟨by rfl, ?_⟩) ?_ ?_
       rotate_left
       ·intro w'
        go_simp
        with_reducible rfl
       rotate_left
       ·simp only [Act.put, List.setIfInBounds_toArray, List.set_cons_zero, List.set_cons_succ, i64_w, i32_w]
        rfl
       refine pure_ (i := 7) (N := some 26) (v := ?_) (a' := ?_) #[true, true, true, true, true, false, true, true, false, false, false, false, false, false, false] rfl rfl (any_of HT_.out (by kernel_rfl)) (fun _ _ _ h => h) (Or.inl ⟨by rfl, ?_⟩) ?_ ?_
       rotate_left
       ·intro w'
        go_simp
        with_reducible rfl
       rotate_left
       ·simp only [Act.put, List.setIfInBounds_toArray, List.set_cons_zero, List.set_cons_succ, i64_w, i32_w]
        rfl
       refine pure_ (i := 8) (N := some 27) (v := ?_) (a' := ?_) #[true, true, true, true, true, false, true, true, true, false, false, false, false, false, false] rfl rfl (any_of HT_.out (by kernel_rfl)) (fun _ _ _ h => h) (Or.inl ⟨by rfl, ?_⟩) ?_ ?_
       rotate_left
       ·intro w'
        go_simp
        with_reducible rfl
       rotate_left
       ·simp only [Act.put, List.setIfInBounds_toArray, List.set_cons_zero, List.set_cons_succ, i64_w, i32_w]
        rfl
       refine pure_ (i := 9) (N := some 28) (v := ?_) (a' := ?_) #[true, true, true, true, true, false, true, true, true, true, false, false, false, false, false] rfl rfl (any_of HT_.out (by kernel_rfl)) (fun _ _ _ h => h) (Or.inl ⟨by rfl, ?_⟩) ?_ ?_
       rotate_left
       ·intro w'
        go_simp
        with_reducible rfl
       rotate_left
       ·simp only [Act.put, List.setIfInBounds_toArray, List.set_cons_zero, List.set_cons_succ, i64_w, i32_w]
        rfl
       refine take_ (i := 5) (N := some 24) (v := ?_) (a' := ?_) #[true, true, true, true, true, true, true, true, true, true, false, false, false, false, false] rfl rfl (take_ofW HT_.out HW_.out (by kernel_rfl)) (fun _ _ _ h => h) (Or.inl ⟨by rfl, ?_⟩) hHeld ?_ ?_
       rotate_left
       ·rintro w' ⟨s0, s1⟩
        go_simp
        with_reducible rfl
       rotate_left
       ·simp only [Act.put, List.setIfInBounds_toArray, List.set_cons_zero, List.set_cons_succ, i64_w, i32_w]
        rfl
       refine take_ (i := 10) (N := some 29) (v := ?_) (a' := ?_) #[true, true, true, true, true, true, true, true, true, true, true, false, false, false, false] rfl rfl (take_ofW HT_.out HW_.out (by kernel_rfl)) (fun _ _ _ h => h) (Or.inl ⟨by rfl, ?_⟩) hHeld ?_ ?_
       rotate_left
       ·rintro w' ⟨s0, s1⟩
        go_simp
        with_reducible rfl
       rotate_left
       ·simp only [Act.put, List.setIfInBounds_toArray, List.set_cons_zero, List.set_cons_succ, i64_w, i32_w]
        rfl
       refine one_ (i := 11) (N := some 30) #[true, true, true, true, true, true, true, true, true, true, true, true, false, false, false] rfl rfl (one_of HT_.out (by kernel_rfl)) (by decide) (fun K hK => ?_)
       refine goes_ Tryd.func28 (by kernel_rfl) rfl #[.slice A481_0 (rd_L7 x6_1 (ji6)).length c481_0, .slice A481_0 (rd_L7 x6_1 (ji6)).length c481_0] (by rfl) rfl rfl (by (try simp only [List.map_toArray, List.map_cons, List.map_nil]); first | done | (simp only [hji6]; rfl) | rfl | (simp only [List.length_drop, List.length_take]; rfl)) ?_
       with_reducible refine (lanyardref06_Add.calls k1 _ _ (rd_L7 x6_1 (ji6)) _ _ (rd_L7 x6_1 (ji6)) t483 _ ?side1 ?side2 ?side3 ?side4 A9.out).mono ?_
       (case side1 => repeat (first | exact (by repeat (first | (with_reducible exact HR481_0.out) | (with_reducible refine Kd.C_alloc ?_ _) | (with_reducible refine Kd.C_drewN ?_ _) | (with_reducible refine Kd.C_drew ?_) | exact HR481_0.out)) | (with_reducible refine Kd.C_alloc ?_ _) | (with_reducible refine Kd.C_drewN ?_ _) | (with_reducible refine Kd.C_drew ?_)))
       (case side2 => exact HC481_0.out)
       (case side3 => repeat (first | exact (by repeat (first | (with_reducible exact HR482_0.out) | (with_reducible refine Kd.C_alloc ?_ _) | (with_reducible refine Kd.C_drewN ?_ _) | (with_reducible refine Kd.C_drew ?_) | exact HR482_0.out)) | (with_reducible refine Kd.C_alloc ?_ _) | (with_reducible refine Kd.C_drewN ?_ _) | (with_reducible refine Kd.C_drew ?_)))
       (case side4 => exact HC482_0.out)
       rintro e w13 ⟨v484, rfl, ho0, hb⟩
       have HS0_ := (hb.cell (World.block_lt_of_cell? _ _ (hHeld.1))).trans (hHeld.1)
       have HS1_ := (hb.cell (World.block_lt_of_cell? _ _ (hHeld.2))).trans (hHeld.2)
       refine ⟨_, rfl, ?_⟩
       have n0_ := Nb HO_6 hb
       have n1_ := Vb HL481_0 hb
       have n2_ := Vb HL482_0 hb
       have n3_ := Aside0.mk (Kd.V_lower (Kd.V_mono (ok' := fun k_ => (P1_ k_ ∨ w.heap.size ≤ k_) ∧ some k_ ≠ (.slice (some ad481) x6_1.length co12 : Value).ownBlock) ho0 (fun k_ hk_ => ⟨(.inr (Nat.le_trans (Bz HB) hk_)), (Kd.fresh' (Kd.N_lt (Nu HO_6)) k_ hk_)⟩)) (Bz HB))
       have n4_ := Aside0.mk (Kd.C_below (by repeat (first | (with_reducible exact HR481_0.out) | (with_reducible refine Kd.C_alloc ?_ _) | (with_reducible refine Kd.C_drewN ?_ _) | (with_reducible refine Kd.C_drew ?_) | exact HR481_0.out)) hb)
       have n5_ := Aside0.mk (Kd.C_below (by repeat (first | (with_reducible exact HR482_0.out) | (with_reducible refine Kd.C_alloc ?_ _) | (with_reducible refine Kd.C_drewN ?_ _) | (with_reducible refine Kd.C_drew ?_) | exact HR482_0.out)) hb)
       have n6_ := Bs HB hb
       clear HO_6
       clear HL481_0
       clear HL482_0
       clear HR481_0
       clear HR482_0
       clear HB
       have HO_6 := n0_
       have HL481_0 := n1_
       have HL482_0 := n2_
       have HO485 := n3_
       have HR481_0 := n4_
       have HR482_0 := n5_
       have HB := n6_
       clear n0_ n1_ n2_ n3_ n4_ n5_ n6_
       (try clear hb)
       (try clear hb2)
       (try clear hk)
       (try clear hi)
       (try clear ho0)
       obtain ⟨Ao15, co15, eo15⟩ := Kd.V_slice HO485.out
       (first | subst eo15 | (injection eo15 with f1_ f2_ f3_; have f4_ := f1_.symm; have f5_ := f3_.symm; clear f1_ f2_ f3_; subst f4_; subst f5_))
       refine hK.out _ _ ⟨HS0_, HS1_⟩ (fun hHeld => ?_)
       clear hK K
       refine norm_ (a' := ?_) ?_ ?_
       rotate_left
       ·show Act.put _ (some 30) _ = _
        simp only [Act.put, List.setIfInBounds_toArray, List.set_cons_zero, List.set_cons_succ, i64_w, i32_w]
        rfl
       refine last_ (i := 12) (N := some 31) #[true, true, true, true, true, true, true, true, true, true, true, true, true, false, false] rfl rfl (one_of HT_.out (by kernel_rfl)) (by decide) (fun K hK => ?_)
       refine value_ (w1 := ?_) (v := ?_) (by rfl) rfl ?_ ?_
       rotate_left 2
       ·go_simp
        constructor
        ·rfl
        ·rfl
       refine hK.out _ _ ?_
       clear hK K
       refine norm_ (a' := ?_) ?_ ?_
       rotate_left
       ·show Act.put _ (some 31) _ = _
        simp only [Act.put, List.setIfInBounds_toArray, List.set_cons_zero, List.set_cons_succ, i64_w, i32_w]
        rfl
       refine last_ (i := 13) (N := some 32) #[true, true, true, true, true, true, true, true, true, true, true, true, true, true, false] rfl rfl (one_of HT_.out (by kernel_rfl)) (by decide) (fun K hK => ?_)
       refine Kd.N_append_step (Kd.slice 3 (Kd.int .i64)) (w0 := w) w.heap.size (by rfl) (.tmp 19) (.tmp 31) 53 24 (.slice none 0 0) 24 rfl Tryd.underlying53 info24 rfl (by decide) (by omega) (.slice (some ad481) x6_1.length co12) x6_1 t483 [.slice Ao15 t483.length co15] (fun k_ => (P1_ k_ ∨ w.heap.size ≤ k_)) (fun k_ => ((fun k_ => (P1_ k_ ∨ w.heap.size ≤ k_))) k_ ∧ some k_ ≠ (.slice (some ad481) x6_1.length co12 : Value).ownBlock) rfl rfl ?aP (fun _ hk => hk) ?aF ?aO ?aB ?aS ?aL ?_
       (case aP => exact (Kd.FK_slice_mk (Kd.V_reads' (Kd.V_mono (ok' := (fun k_ => ((fun k_ => (P1_ k_ ∨ w.heap.size ≤ k_))) k_ ∧ some k_ ≠ (.slice (some ad481) x6_1.length co12 : Value).ownBlock)) (HO485.out) (fun k_ hk => ⟨hk.1, hk.2⟩))).2.1 (Kd.V_F (Kd.V_mono (ok' := (fun k_ => ((fun k_ => (P1_ k_ ∨ w.heap.size ≤ k_))) k_ ∧ some k_ ≠ (.slice (some ad481) x6_1.length co12 : Value).ownBlock)) (HO485.out) (fun k_ hk => ⟨hk.1, hk.2⟩)))))
       (case aB => exact (Bu HB))
       (case aF => exact (fun k_ hk => (.inr (Nat.le_trans (Bz HB) hk))))
       (case aO => exact (Nu HO_6))
       (case aS => exact (Bz HB))
       (case aL => have := LMc10.out; omega)
       intro v487 w14 ho hb hg hat
       rw [← Ny486.out] at ho
       have n0_ := Aside0.mk (Kd.V_afterv (ok := (fun k_ => (P1_ k_ ∨ w.heap.size ≤ k_))) (Vu HL481_0) hg hat)
       have n1_ := Aside0.mk (Kd.V_afterv (ok := (fun k_ => (P1_ k_ ∨ w.heap.size ≤ k_))) (Vu HL482_0) hg hat)
       have n2_ := Aside0.mk (Kd.V_afterv (ok := (fun k_ => (P1_ k_ ∨ w.heap.size ≤ k_))) (Vu HO485) hg hat)
       have n3_ := Aside0.mk (hb)
       have n4_ := Aside0.mk (ho)
       clear HL481_0
       clear HL482_0
       clear HO485
       clear HB
       clear HO_6
       have HL481_0 := n0_
       have HL482_0 := n1_
       have HO485 := n2_
       have HB := n3_
       have HO488 := n4_
       clear n0_ n1_ n2_ n3_ n4_
       clear ho hb hg hat
       refine hK.out _ _ ?_
       clear hK K
       refine norm_ (a' := ?_) ?_ ?_
       rotate_left
       ·show Act.put _ (some 32) _ = _
        simp only [Act.put, List.setIfInBounds_toArray, List.set_cons_zero, List.set_cons_succ, i64_w, i32_w]
        rfl
       refine pure_ (i := 14) (N := some 6) (v := ?_) (a' := ?_) #[true, true, true, true, true, true, true, true, true, true, true, true, true, true, true] rfl rfl (any_of HT_.out (by kernel_rfl)) (fun _ _ _ h => h) (Or.inl ⟨by rfl, ?_⟩) ?_ ?_
       rotate_left
       ·intro w'
        go_simp
        with_reducible rfl
       rotate_left
       ·simp only [Act.put, List.setIfInBounds_toArray, List.set_cons_zero, List.set_cons_succ, i64_w, i32_w]
        rfl
       refine done_ (done_of HT_.out (by kernel_rfl)) ?_
       try go_wp2
       go_roundg k1
       case measure => have := HK1.out; omega
       case rel => exact ⟨(y486), (wrap64 (x7_1 + 1)), (by first | rfl | (simp; done) | (simp [*]; done)), H', ⟨by have := HK1.out; omega⟩, ⟨Nu HO488⟩, ⟨Bu HB⟩⟩
      ·rw [if_neg c10] at H
       exact absurd H (by simp)
     ·rw [if_neg c8] at H
      exact absurd H (by simp)
    ·rw [if_neg c7] at H
     exact absurd H (by simp)
   ·rw [if_neg c5] at H
    have c5b0 : decide (x7_1 < 8) = false := decide_eq_false c5
    clear c5
    by_cases c16 : 0 ≤ (l0.length : Int)
    ·rw [if_pos c16] at H
     have c16b0 := eq_true c16
     have c16b1 : decide (0 ≤ (l0.length : Int)) = true := decide_eq_true c16
     clear c16
     by_cases c17 : ((l0.length : Int) : Int).toNat ≤ 35184372088832
     ·rw [if_pos c17] at H
      have c17b0 := eq_true c17
      have c17b1 : decide (((l0.length : Int) : Int).toNat ≤ 35184372088832) = true := decide_eq_true c17
      clear c17
      obtain ⟨y489, hy489⟩ : ∃ y_ : List Int, y_ = (List.replicate ((l0.length : Int) : Int).toNat 0) := ⟨_, rfl⟩
      replace H : (lanyardref06_Div.l1 k1 l0 x6_1 y489 ([] : List Int) (wrap64 ((l0.length : Int) - 1))) = some (r1, r2) := by first | (rw [hy489]; with_reducible exact H) | (have H2_ := (Option.bind_some _ _).symm.trans H; rw [hy489]; with_reducible exact H2_) | (have H2_ := (Option.bind_some _ _).symm.trans H; with_reducible exact H2_) | with_reducible exact H | (rw [hy489]; exact H) | exact H
      have Ny489 := Aside0.mk hy489
      clear hy489
      have H' := Aside0.mk H
      clear H
      go_wp2_with (first | ((with_reducible refine gate_dst (N := 35) rfl ?_); refine Kd.R_make (Kd.int .i64) _ 3 rfl (N := 35) rfl 24 _ _ rfl (l0.length : Int) rfl rfl Tryd.underlying24 (.int .i64 0) 8 info3 rfl (by decide) (by omega) 0 (ok := fun _ => True) (okp := fun _ => True) rfl (fun _ hk => hk) trivial (of_decide_eq_true (by first | (with_reducible assumption) | assumption)) (Nat.le_trans (Nat.mul_le_mul_right _ (of_decide_eq_true (by first | (with_reducible assumption) | assumption) : (l0.length : Int).toNat ≤ 35184372088832)) (by omega)) (Below.refl _ _) (Nat.le_refl _) ?_; intro v490 w18 ho19 hb hg_ hnew_; clear hg_ hnew_; (first | rw [← Ny489.out] at ho19 | (simp only [Int.reduceToNat] at ho19; rw [← Ny489.out] at ho19)); have n0_ := Ne HO_6 (Kd.R_base ho19) hb; have n1_ := Aside0.mk (Kd.R_lower (Kd.R_newM (M := fun k_ => (w.heap.size ≤ k_)) ho19 (Bz HB) (fun k_ h_ => h_)) (Bz HB)); have n2_ := Bs HB hb; clear HO_6 HB; revert n0_ n1_ n2_; intro HO_6 HO491 HB; clear hb ho19))
      go_loopg [9, 10] k1 (fun kq v9 v10 w' => ∃ (x8_2 : List Int) (x9_2 : List Int) (x10_2 : Int), v10 = .int .i64 x10_2 ∧ Aside0 (lanyardref06_Div.l1 kq l0 x6_1 x8_2 x9_2 x10_2 = some (r1, r2)) ∧ Aside0 (kq ≤ k1) ∧ Aside0 (Kd.N (Kd.slice 3 (Kd.int .i64)) 24 w' w.heap.size (fun k_ => (P1_ k_ ∨ w.heap.size ≤ k_) ∧ some k_ ≠ (v490 : Value).ownBlock) u6 x6_1) ∧ Aside0 (Kd.R (Kd.int .i64) 3 w' w.heap.size (fun k_ => (w.heap.size ≤ k_)) v490 x8_2) ∧ Aside0 (Kd.V (Kd.int .i64) 3 w' w.heap.size (fun k_ => (P1_ k_ ∨ w.heap.size ≤ k_) ∧ some k_ ≠ (u6 : Value).ownBlock ∧ some k_ ≠ (v490 : Value).ownBlock) v9 x9_2) ∧ Aside0 (Below w.heap.size w w'))
      case atStart => exact ⟨(y489), (([] : List Int)), (wrap64 ((l0.length : Int) - 1)), (by first | rfl | (simp; done) | (simp [*]; done)), H', ⟨Nat.le_refl _⟩, ⟨Nu HO_6⟩, ⟨by (with_reducible repeat (first | apply Kd.R_alloc | apply Kd.R_drewN | apply Kd.R_drew)); exact Kd.R_mono HO491.out (fun _ hk => hk.1)⟩, ⟨Kd.V_nil _ _ _ _ _⟩, ⟨Bu HB⟩⟩
      case round =>
       clear H'
       try clear c1
       try clear c2
       try clear p2
       try clear c4
       try clear p4
       try clear q4
       try clear hx4
       try clear c5
       try clear c5b0
       try clear p6
       try clear c7
       try clear c7b0
       try clear c8
       try clear c8b0
       try clear c10
       try clear c14
       try clear c16
       try clear c16b0
       try clear c16b1
       try clear c17
       try clear c17b0
       try clear c17b1
       try clear hx481_0
       try clear hx482_0
       try clear p2
       try clear p481
       try clear p482
       try clear q481
       try clear q482
       obtain ⟨x8_2, x9_2, x10_2, rfl, HA, HK2, HO_6, HO_8, HO_9, HB⟩ := hrel
       cases gk with
       | zero => exact absurd HA.out (by simp [lanyardref06_Div.l1])
       | succ k2 =>
        have H := HA.out
        clear HA
        simp only [lanyardref06_Div.l1] at H
        by_cases c20 : x10_2 ≥ 0
        ·rw [if_pos c20] at H
         have c20b0 : decide (0 ≤ x10_2) = true := decide_eq_true c20
         clear c20
         by_cases c21 : 0 ≤ x10_2
         ·rw [if_pos c21] at H
          have c21b0 : decide (0 ≤ x10_2) = true := decide_eq_true c21
          clear c21
          by_cases c22 : x10_2 < (l0.length : Int)
          ·rw [if_pos c22] at H
           have c22b0 : decide (x10_2 < (l0.length : Int)) = true := decide_eq_true c22
           clear c22
           obtain ⟨y496, hy496⟩ : ∃ y_ : List Int, y_ = (([rd l0 x10_2] : List Int)) := ⟨_, rfl⟩
           replace H : (if y496.length + x9_2.length < 17592186044416 then ((lanyardref06_trim.f k2 (y496 ++ x9_2)).bind fun t502 => (lanyardref06_Div.l2 k2 l0 x6_1 x8_2 t502 x10_2 128 7)) else (none)) = some (r1, r2) := by first | (rw [hy496]; with_reducible exact H) | (have H2_ := (Option.bind_some _ _).symm.trans H; rw [hy496]; with_reducible exact H2_) | (have H2_ := (Option.bind_some _ _).symm.trans H; with_reducible exact H2_) | with_reducible exact H | (rw [hy496]; exact H) | exact H
           have Ny496 := Aside0.mk hy496
           clear hy496
           by_cases c23 : y496.length + x9_2.length < 17592186044416
           ·rw [if_pos c23] at H
            have LMc23 := Aside0.mk c23
            clear c23
            obtain ⟨y499, hy499⟩ : ∃ y_ : List Int, y_ = (y496 ++ x9_2) := ⟨_, rfl⟩
            replace H : ((lanyardref06_trim.f k2 y499).bind fun t502 => (lanyardref06_Div.l2 k2 l0 x6_1 x8_2 t502 x10_2 128 7)) = some (r1, r2) := by first | (rw [hy499]; with_reducible exact H) | (have H2_ := (Option.bind_some _ _).symm.trans H; rw [hy499]; with_reducible exact H2_) | (have H2_ := (Option.bind_some _ _).symm.trans H; with_reducible exact H2_) | with_reducible exact H | (rw [hy499]; exact H) | exact H
            have Ny499 := Aside0.mk hy499
            clear hy499
            replace H := Option.bind_eq_some_iff.mp H
            obtain ⟨t502, A240, H⟩ := H
            replace H : (lanyardref06_Div.l2 k2 l0 x6_1 x8_2 t502 x10_2 128 7) = some (r1, r2) := H
            have A24 := Aside0.mk A240
            clear A240
            have H' := Aside0.mk H
            clear H
            have p495 : 0 ≤ (x10_2 : Int) := of_decide_eq_true (by first | (with_reducible assumption) | assumption)
            have q495 : x10_2 < (l0.length : Int) := of_decide_eq_true (by first | (with_reducible assumption) | assumption)
            obtain ⟨ad495, e495, hx495_0⟩ := Kd.at_int HR0.out x10_2 p495 q495
            cases e495
            replace hx495_0 := (HB.out.cell (World.block_lt_of_cell? w _ hx495_0)).trans hx495_0
            replace p495 := eq_true p495
            replace q495 := eq_true q495
            go_wp2_with (first | ((with_reducible refine gate_dst (N := 47) rfl ?_); refine Kd.R_lit (Kd.int .i64) _ 3 ?hg (N := 47) ?hd (xs := ([rd l0 x10_2] : List Int)) (inner := [.int .i64 (rd l0 x10_2)]) (ok := fun _ => True) (okp := fun _ => True) ?hr ?hp (fun _ hk => hk) trivial (Below.refl _ _) (Nat.le_refl _) (by simp) ?_; (case hd => rfl); (case hg => rfl); (case hr => first | (go_simp; done) | (go_simp; rfl)); (case hp => exact (Reps.one (show Kd.M (Kd.int .i64) _ _ _ (rd l0 x10_2) [.int .i64 (rd l0 x10_2)] from rfl) (Reps.none _ _))); intro v497 w25 ho26 hb hg_ hnew_; clear hg_ hnew_; (first | rw [← Ny496.out] at ho26 | (simp only [Int.reduceToNat] at ho26; rw [← Ny496.out] at ho26)); have n0_ := Ne HO_6 (Kd.R_base ho26) hb; have n1_ := Re HO_8 (Kd.R_base ho26) hb; have n2_ := Ve HO_9 (Kd.R_base ho26) hb; have n3_ := Aside0.mk (Kd.R_lower (Kd.R_new' (Kd.R_newM (M := fun k_ => (w.heap.size ≤ k_)) ho26 (Bz HB) (fun k_ h_ => h_)) (Kd.R_lt (Ru HO_8))) (Bz HB)); have n4_ := Bs HB hb; clear HO_6 HO_8 HO_9 HB; revert n0_ n1_ n2_ n3_ n4_; intro HO_6 HO_8 HO_9 HO498 HB; clear hb ho26; obtain ⟨Ao28, co28, eo28⟩ := Kd.V_slice HO_9.out; subst eo28) | ((with_reducible refine gate_builtin (b := .append) (xs := #[.tmp 47, .tmp 48]) rfl ?_); at_builtin; refine Kd.R_append_rows (Kd.int .i64) (w0 := w) w.heap.size rfl (.tmp 47) (.tmp 48) 24 3 (.int .i64 0) 8 rfl Tryd.underlying24 info3 rfl (by decide) (by omega) v497 y496 x9_2 _ _ _ (fun k_ => (w.heap.size ≤ k_) ∧ some k_ ≠ (v490 : Value).ownBlock) (fun _ => False) rfl rfl ?aO ?aR (fun _ _ h => h) (fun _ h => h.elim) ?aF ?aB ?aS ?aL ?_; (case aR => repeat (first | exact (Kd.V_reads' HO_9.out).2.2 | (with_reducible refine Kd.C_alloc ?_ _) | (with_reducible refine Kd.C_drewN ?_ _) | (with_reducible refine Kd.C_drew ?_))); (case aB => exact (Bu HB)); (case aF => exact (fun k_ hk => ⟨(Nat.le_trans (Bz HB) hk), Kd.fresh' (Kd.R_lt (Ru HO_8)) k_ hk⟩)); (case aO => exact (by (with_reducible repeat (first | apply Kd.R_alloc | apply Kd.R_drewN | apply Kd.R_drew)); exact Kd.R_mono HO498.out (fun _ hk => ⟨hk.1.1, hk.2⟩))); (case aS => exact (Bz HB)); (case aL => have := LMc23.out; omega); intro v500 w27 ho hb hg hat; rw [← Ny499.out] at ho; have n0_ := Aside0.mk (Kd.N_afterv (ok := (fun k_ => (P1_ k_ ∨ w.heap.size ≤ k_) ∧ some k_ ≠ (v490 : Value).ownBlock)) (Nu HO_6) hg hat); have n1_ := Aside0.mk (Kd.R_after (ok := (fun k_ => (w.heap.size ≤ k_))) (Ru HO_8) hg hat); have n2_ := Aside0.mk (Kd.V_afterv (ok := (fun k_ => (P1_ k_ ∨ w.heap.size ≤ k_) ∧ some k_ ≠ (u6 : Value).ownBlock ∧ some k_ ≠ (v490 : Value).ownBlock)) (Vu HO_9) hg hat); have n3_ := Aside0.mk (hb); have n4_ := Aside0.mk (ho); clear HO_6 HO_8 HO_9 HB HO498; revert n0_ n1_ n2_ n3_ n4_; intro HO_6 HO_8 HO_9 HB HO501; clear ho hb hg hat; obtain ⟨Ao29, co29, eo29⟩ := Kd.R_slice HO501.out; subst eo29) | ((with_reducible refine gate_callee (f := 30) rfl ?_); refine goesA (some 50) Tryd.func30 #[.slice Ao29 y499.length co29] rfl ?_; (with_reducible refine (lanyardref06_trim.calls k2 (fun k_ => some k_ = (.slice Ao29 y499.length co29 : Value).ownBlock) _ _ y499 t502 _ ?side1 A24.out).mono ?_); (case side1 => exact Kd.R_V (Kd.R_tight rfl (Kd.R_apart' (HO501.out) (Kd.N_typed HO_6.out) (by decide)))); rintro e w30 ⟨v503, rfl, ho0, hb⟩; refine ⟨_, rfl, ?_⟩; have n0_ := Nb HO_6 hb; have n1_ := Rb HO_8 hb; have n2_ := Vb HO_9 hb; have n3_ := Rb HO501 hb; have n4_ := Aside0.mk (Kd.V_lower (Kd.V_mono (ok' := fun k_ => (P1_ k_ ∨ w.heap.size ≤ k_) ∧ some k_ ≠ (u6 : Value).ownBlock ∧ some k_ ≠ (v490 : Value).ownBlock) ho0 (fun k_ hk_ => ⟨Or.elim hk_ (fun hs_ => (.inr (((Kd.R_apart' (HO501.out) (Kd.N_typed HO_6.out) (by decide)).1 k_ hs_.symm).1.1))) (fun hn_ => (.inr (Nat.le_trans (Bz HB) hn_))), Or.elim hk_ (fun hs_ => ((Kd.R_apart' (HO501.out) (Kd.N_typed HO_6.out) (by decide)).1 k_ hs_.symm).2) (fun hn_ => (Kd.fresh' (Kd.N_lt (Nu HO_6)) k_ hn_)), Or.elim hk_ (fun hs_ => ((Kd.R_apart' (HO501.out) (Kd.N_typed HO_6.out) (by decide)).1 k_ hs_.symm).1.2) (fun hn_ => (Kd.fresh' (Kd.R_lt (Ru HO_8)) k_ hn_))⟩)) (Bz HB)); have n5_ := Bs HB hb; clear HO_6 HO_8 HO_9 HO501 HB; revert n0_ n1_ n2_ n3_ n4_ n5_; intro HO_6 HO_8 HO_9 HO501 HO504 HB; (try clear hb); (try clear hb2); (try clear hk); (try clear hi); (try clear ho0)))
            go_loopg [9, 11, 12] k2 (fun kq v9 v11 v12 w' => ∃ (x8_3 : List Int) (x9_3 : List Int) (x11_3 : Int) (x12_3 : Int), v11 = .int .i64 x11_3 ∧ v12 = .int .i64 x12_3 ∧ Aside0 (lanyardref06_Div.l2 kq l0 x6_1 x8_3 x9_3 x10_2 x11_3 x12_3 = some (r1, r2)) ∧ Aside0 (kq ≤ k2) ∧ Aside0 (Kd.N (Kd.slice 3 (Kd.int .i64)) 24 w' w.heap.size (fun k_ => (P1_ k_ ∨ w.heap.size ≤ k_) ∧ some k_ ≠ (v490 : Value).ownBlock) u6 x6_1) ∧ Aside0 (Kd.R (Kd.int .i64) 3 w' w.heap.size (fun k_ => (w.heap.size ≤ k_)) v490 x8_3) ∧ Aside0 (Kd.V (Kd.int .i64) 3 w' w.heap.size (fun k_ => (P1_ k_ ∨ w.heap.size ≤ k_) ∧ some k_ ≠ (u6 : Value).ownBlock ∧ some k_ ≠ (v490 : Value).ownBlock) v9 x9_3) ∧ Aside0 (Below w.heap.size w w'))
            case atStart => exact ⟨(x8_2), (t502), (128), (7), (by first | rfl | (simp; done) | (simp [*]; done)), (by first | rfl | (simp; done) | (simp [*]; done)), H', ⟨Nat.le_refl _⟩, ⟨by (with_reducible repeat (first | apply Kd.N_alloc | apply Kd.N_drewN | apply Kd.N_drew)); exact Kd.N_mono HO_6.out (fun _ hk => ⟨hk.1.1, hk.1.2⟩)⟩, ⟨by (with_reducible repeat (first | apply Kd.R_alloc | apply Kd.R_drewN | apply Kd.R_drew)); exact Kd.R_mono HO_8.out (fun _ hk => hk.1)⟩, ⟨Vu HO504⟩, ⟨Bu HB⟩⟩
            case round =>
             clear H'
             try clear c1
             try clear c2
             try clear p2
             try clear c3
             try clear c4
             try clear p4
             try clear q4
             try clear hx4
             try clear c5
             try clear c5b0
             try clear p6
             try clear c7
             try clear c7b0
             try clear c8
             try clear c8b0
             try clear c10
             try clear c14
             try clear c16
             try clear c16b0
             try clear c16b1
             try clear c17
             try clear c17b0
             try clear c17b1
             try clear c20
             try clear c20b0
             try clear c21
             try clear c21b0
             try clear c22
             try clear c22b0
             try clear c23
             try clear c28
             try clear c30
             try clear hx481_0
             try clear hx482_0
             try clear hx495_0
             try clear p2
             try clear p4
             try clear p481
             try clear p482
             try clear p495
             try clear p6
             try clear q4
             try clear q481
             try clear q482
             try clear q495
             obtain ⟨x8_3, x9_3, x11_3, x12_3, rfl, rfl, HA, HK3, HO_6, HO_8, HO_9, HB⟩ := hrel
             cases gk with
             | zero => exact absurd HA.out (by simp [lanyardref06_Div.l2])
             | succ k3 =>
              have H := HA.out
              clear HA
              simp only [lanyardref06_Div.l2] at H
              by_cases c31 : x12_3 ≥ 0
              ·rw [if_pos c31] at H
               have c31b0 : decide (0 ≤ x12_3) = true := decide_eq_true c31
               clear c31
               by_cases c32 : 0 ≤ x12_3
               ·rw [if_pos c32] at H
                have c32b0 : decide (0 ≤ x12_3) = true := decide_eq_true c32
                clear c32
                by_cases c33 : x12_3 < (x6_1.length : Int)
                ·rw [if_pos c33] at H
                 have c33b0 : decide (x12_3 < (x6_1.length : Int)) = true := decide_eq_true c33
                 clear c33
                 replace H := Option.bind_eq_some_iff.mp H
                 obtain ⟨t506, A340, H⟩ := H
                 replace H : (if t506 ≥ 0 then ((lanyardref06_Sub.f k3 x9_3 (rd_L7 x6_1 x12_3)).bind fun t508 => (if 0 ≤ x10_2 then (if x10_2 < (x8_3.length : Int) then (lanyardref06_Div.l2 k3 l0 x6_1 (x8_3.set (x10_2 : Int).toNat (wrap64 ((rd x8_3 x10_2) + x11_3))) t508 x10_2 (wrap64 (Int.tdiv x11_3 2)) (wrap64 (x12_3 - 1))) else (none)) else (none))) else (lanyardref06_Div.l2 k3 l0 x6_1 x8_3 x9_3 x10_2 (wrap64 (Int.tdiv x11_3 2)) (wrap64 (x12_3 - 1)))) = some (r1, r2) := H
                 have A34 := Aside0.mk A340
                 clear A340
                 by_cases c35 : t506 ≥ 0
                 ·rw [if_pos c35] at H
                  have c35b0 : decide (0 ≤ t506) = true := decide_eq_true c35
                  clear c35
                  replace H := Option.bind_eq_some_iff.mp H
                  obtain ⟨t508, A360, H⟩ := H
                  replace H : (if 0 ≤ x10_2 then (if x10_2 < (x8_3.length : Int) then (lanyardref06_Div.l2 k3 l0 x6_1 (x8_3.set (x10_2 : Int).toNat (wrap64 ((rd x8_3 x10_2) + x11_3))) t508 x10_2 (wrap64 (Int.tdiv x11_3 2)) (wrap64 (x12_3 - 1))) else (none)) else (none)) = some (r1, r2) := H
                  have A36 := Aside0.mk A360
                  clear A360
                  by_cases c37 : 0 ≤ x10_2
                  ·rw [if_pos c37] at H
                   have c37b0 : decide (0 ≤ x10_2) = true := decide_eq_true c37
                   clear c37
                   by_cases c38 : x10_2 < (x8_3.length : Int)
                   ·rw [if_pos c38] at H
                    have c38b0 : decide (x10_2 < (x8_3.length : Int)) = true := decide_eq_true c38
                    clear c38
                    obtain ⟨y512, hy512⟩ : ∃ y_ : List Int, y_ = (x8_3.set (x10_2 : Int).toNat (wrap64 ((rd x8_3 x10_2) + x11_3))) := ⟨_, rfl⟩
                    replace H : (lanyardref06_Div.l2 k3 l0 x6_1 y512 t508 x10_2 (wrap64 (Int.tdiv x11_3 2)) (wrap64 (x12_3 - 1))) = some (r1, r2) := by first | (rw [hy512]; with_reducible exact H) | (have H2_ := (Option.bind_some _ _).symm.trans H; rw [hy512]; with_reducible exact H2_) | (have H2_ := (Option.bind_some _ _).symm.trans H; with_reducible exact H2_) | with_reducible exact H | (rw [hy512]; exact H) | exact H
                    have Ny512 := Aside0.mk hy512
                    clear hy512
                    have H' := Aside0.mk H
                    clear H
                    obtain ⟨Ao40, co40, eo40⟩ := Kd.N_slice HO_6.out
                    subst eo40
                    have p505 : 0 ≤ (x12_3 : Int) := of_decide_eq_true (by first | (with_reducible assumption) | assumption)
                    have q505 : x12_3 < (x6_1.length : Int) := of_decide_eq_true (by first | (with_reducible assumption) | assumption)
                    obtain ⟨ad505, A505_0, c505_0, e505, hx505_0, hl505_0, hi505_0⟩ := at_L7 (Kd.N_reads' HO_6.out).2.2 x12_3 p505 q505
                    cases e505
                    obtain ⟨ce505, hce505, hMe505, hcc505⟩ := Kd.N_get HO_6.out [] x12_3 p505 (by first | exact q505 | exact of_decide_eq_true (by first | (with_reducible assumption) | assumption) | (have e_ := (Kd.N_reads' HO_6.out).1; omega))
                    obtain ⟨ua505_0, uc505_0, rfl, ul505_0, ge505_0⟩ := Kd.FK_slice_open hMe505
                    have hv505_0 := hcc505 0 _ rfl
                    rw [Nat.add_zero, show ((Kd.slice 3 (Kd.int .i64))).sz = 1 from rfl, Nat.mul_one] at hv505_0
                    replace hv505_0 := Option.some.inj (hv505_0.symm.trans hx505_0)
                    injection hv505_0 with hva_ hvn_ hvc_
                    rw [hva_] at ge505_0
                    rw [hvc_] at ul505_0
                    have HL505_0 := Aside0.mk (show Kd.V (Kd.int .i64) 3 _ w.heap.size _ _ (rd_L7 x6_1 x12_3) from Kd.V_mk ul505_0 ge505_0)
                    clear hva_ hvn_ hvc_ ge505_0 ul505_0
                    clear hcc505 hce505
                    have HR505_0 := Aside0.mk hi505_0
                    have HC505_0 := Aside0.mk hl505_0
                    clear hi505_0 hl505_0
                    replace p505 := eq_true p505
                    replace q505 := eq_true q505
                    obtain ⟨Ao41, co41, eo41⟩ := Kd.V_slice HO_9.out
                    subst eo41
                    go_wp2_with (first | ((with_reducible refine gate_callee (f := 21) rfl ?_); refine goesA (some 60) Tryd.func21 #[.slice Ao41 x9_3.length co41, .slice A505_0 (rd_L7 x6_1 x12_3).length c505_0] rfl ?_; (with_reducible refine (lanyardref06_Cmp.calls k3 _ _ x9_3 _ _ (rd_L7 x6_1 x12_3) t506 _ ?side1 ?side2 ?side3 ?side4 A34.out).mono ?_); (case side1 => exact Cu (Kd.V_reads' HO_9.out).2.2); (case side2 => exact (Kd.V_reads' HO_9.out).2.1); (case side3 => repeat (first | exact (by repeat (first | (with_reducible exact HR505_0.out) | (with_reducible refine Kd.C_alloc ?_ _) | (with_reducible refine Kd.C_drewN ?_ _) | (with_reducible refine Kd.C_drew ?_) | exact HR505_0.out)) | (with_reducible refine Kd.C_alloc ?_ _) | (with_reducible refine Kd.C_drewN ?_ _) | (with_reducible refine Kd.C_drew ?_))); (case side4 => exact HC505_0.out); rintro e w' ⟨rfl, ⟨nd, rfl⟩⟩; refine ⟨_, rfl, ?_⟩; (try (rw [drewN_self wr]; generalize hq_ : World.drewN wr _ = wr; (try (replace hx505_0 := cell_at hq_ hx505_0)); have n0_ : Aside0 (Kd.V (Kd.int .i64) 3 wr w.heap.size (fun k_ => (P1_ k_ ∨ w.heap.size ≤ k_) ∧ some k_ ≠ (.slice (some ad505) x6_1.length co40 : Value).ownBlock ∧ some k_ ≠ (v490 : Value).ownBlock) (.slice A505_0 (rd_L7 x6_1 x12_3).length c505_0) (rd_L7 x6_1 x12_3)) := ⟨by rw [← hq_]; exact (by (with_reducible repeat (first | apply Kd.V_alloc | apply Kd.V_drewN | apply Kd.V_drew)); first | exact Kd.V_mono HL505_0.out (fun _ hk => ⟨hk.1.1, ⟨hk.2, hk.1.2⟩⟩) | exact Kd.V_mono HL505_0.out (fun _ hk => by grind))⟩; have n1_ : Aside0 (Kd.N (Kd.slice 3 (Kd.int .i64)) 24 wr w.heap.size (fun k_ => (P1_ k_ ∨ w.heap.size ≤ k_) ∧ some k_ ≠ (v490 : Value).ownBlock) (.slice (some ad505) x6_1.length co40) x6_1) := ⟨by rw [← hq_]; exact (Nu HO_6)⟩; have n2_ : Aside0 (Kd.R (Kd.int .i64) 3 wr w.heap.size (fun k_ => (w.heap.size ≤ k_)) v490 x8_3) := ⟨by rw [← hq_]; exact (Ru HO_8)⟩; have n3_ : Aside0 (Kd.V (Kd.int .i64) 3 wr w.heap.size (fun k_ => (P1_ k_ ∨ w.heap.size ≤ k_) ∧ some k_ ≠ (.slice (some ad505) x6_1.length co40 : Value).ownBlock ∧ some k_ ≠ (v490 : Value).ownBlock) (.slice Ao41 x9_3.length co41) x9_3) := ⟨by rw [← hq_]; exact (Vu HO_9)⟩; have n4_ : Aside0 (Below w.heap.size w wr) := ⟨by rw [← hq_]; exact (Bu HB)⟩; have n5_ : Aside0 (Kd.C (Kd.int .i64) wr A505_0 (rd_L7 x6_1 x12_3).length (rd_L7 x6_1 x12_3)) := ⟨by rw [← hq_]; exact (by repeat (first | (with_reducible exact HR505_0.out) | (with_reducible refine Kd.C_alloc ?_ _) | (with_reducible refine Kd.C_drewN ?_ _) | (with_reducible refine Kd.C_drew ?_) | exact HR505_0.out))⟩; clear HL505_0 HO_6 HO_8 HO_9 HB HR505_0 hq_; have HL505_0 := n0_; have HO_6 := n1_; have HO_8 := n2_; have HO_9 := n3_; have HB := n4_; have HR505_0 := n5_; clear n0_ n1_ n2_ n3_ n4_ n5_)); have p507 : 0 ≤ (x12_3 : Int) := of_decide_eq_true (by first | (with_reducible assumption) | assumption); have q507 : x12_3 < (x6_1.length : Int) := of_decide_eq_true (by first | (with_reducible assumption) | assumption); obtain ⟨ad507, A507_0, c507_0, e507, hx507_0, hl507_0, hi507_0⟩ := at_L7 (Kd.N_reads' HO_6.out).2.2 x12_3 p507 q507; obtain rfl : ad505 = ad507 := (by injection e507); obtain ⟨ce507, hce507, hMe507, hcc507⟩ := Kd.N_get HO_6.out [] x12_3 p507 (by first | exact q507 | exact of_decide_eq_true (by first | (with_reducible assumption) | assumption) | (have e_ := (Kd.N_reads' HO_6.out).1; omega)); obtain ⟨ua507_0, uc507_0, rfl, ul507_0, ge507_0⟩ := Kd.FK_slice_open hMe507; have hv507_0 := hcc507 0 _ rfl; rw [Nat.add_zero, show ((Kd.slice 3 (Kd.int .i64))).sz = 1 from rfl, Nat.mul_one] at hv507_0; replace hv507_0 := Option.some.inj (hv507_0.symm.trans hx507_0); injection hv507_0 with hva_ hvn_ hvc_; rw [hva_] at ge507_0; rw [hvc_] at ul507_0; have HL507_0 := Aside0.mk (show Kd.V (Kd.int .i64) 3 _ w.heap.size _ _ (rd_L7 x6_1 x12_3) from Kd.V_mk ul507_0 ge507_0); clear hva_ hvn_ hvc_ ge507_0 ul507_0; clear hcc507 hce507; have HR507_0 := Aside0.mk hi507_0; have HC507_0 := Aside0.mk hl507_0; clear hi507_0 hl507_0; replace p507 := eq_true p507; replace q507 := eq_true q507; have ea_ := Option.some.inj (hx505_0.symm.trans hx507_0); injection ea_ with ea_ en_ ec_; subst ea_; subst ec_; clear en_) | ((with_reducible refine gate_callee (f := 29) rfl ?_); refine goesA (some 67) Tryd.func29 #[.slice Ao41 x9_3.length co41, .slice A505_0 (rd_L7 x6_1 x12_3).length c505_0] rfl ?_; (with_reducible refine (lanyardref06_Sub.calls k3 _ _ x9_3 _ _ (rd_L7 x6_1 x12_3) t508 _ ?side1 ?side2 ?side3 ?side4 A36.out).mono ?_); (case side1 => exact Cu (Kd.V_reads' HO_9.out).2.2); (case side2 => exact (Kd.V_reads' HO_9.out).2.1); (case side3 => repeat (first | exact (by repeat (first | (with_reducible exact HR507_0.out) | (with_reducible refine Kd.C_alloc ?_ _) | (with_reducible refine Kd.C_drewN ?_ _) | (with_reducible refine Kd.C_drew ?_) | exact HR507_0.out)) | (with_reducible refine Kd.C_alloc ?_ _) | (with_reducible refine Kd.C_drewN ?_ _) | (with_reducible refine Kd.C_drew ?_))); (case side4 => exact HC507_0.out); rintro e w42 ⟨v509, rfl, ho0, hb⟩; refine ⟨_, rfl, ?_⟩; have n0_ := Nb HO_6 hb; have n1_ := Rb HO_8 hb; have n2_ := Vb HO_9 hb; have n3_ := Vb HL505_0 hb; have n4_ := Vb HL507_0 hb; have n5_ := Aside0.mk (Kd.V_lower (Kd.V_mono (ok' := fun k_ => (P1_ k_ ∨ w.heap.size ≤ k_) ∧ some k_ ≠ (.slice (some ad505) x6_1.length co40 : Value).ownBlock ∧ some k_ ≠ (v490 : Value).ownBlock) ho0 (fun k_ hk_ => ⟨(.inr (Nat.le_trans (Bz HB) hk_)), (Kd.fresh' (Kd.N_lt (Nu HO_6)) k_ hk_), (Kd.fresh' (Kd.R_lt (Ru HO_8)) k_ hk_)⟩)) (Bz HB)); have n6_ := Aside0.mk (Kd.C_below (by repeat (first | (with_reducible exact HR505_0.out) | (with_reducible refine Kd.C_alloc ?_ _) | (with_reducible refine Kd.C_drewN ?_ _) | (with_reducible refine Kd.C_drew ?_) | exact HR505_0.out)) hb); have n7_ := Aside0.mk (Kd.C_below (by repeat (first | (with_reducible exact HR507_0.out) | (with_reducible refine Kd.C_alloc ?_ _) | (with_reducible refine Kd.C_drewN ?_ _) | (with_reducible refine Kd.C_drew ?_) | exact HR507_0.out)) hb); have n8_ := Bs HB hb; clear HO_6 HO_8 HO_9 HL505_0 HL507_0 HR505_0 HR507_0 HB; revert n0_ n1_ n2_ n3_ n4_ n5_ n6_ n7_ n8_; intro HO_6 HO_8 HO_9 HL505_0 HL507_0 HO510 HR505_0 HR507_0 HB; (try clear hb); (try clear hb2); (try clear hk); (try clear hi); (try clear ho0); obtain ⟨Ao43, co43, eo43⟩ := Kd.R_slice HO_8.out; subst eo43; have p511 : 0 ≤ (x10_2 : Int) := of_decide_eq_true (by first | (with_reducible assumption) | assumption); have q511 : x10_2 < (x8_3.length : Int) := of_decide_eq_true (by first | (with_reducible assumption) | assumption); obtain ⟨ad511, e511, hx511_0⟩ := Kd.at_int (Kd.R_reads' HO_8.out).2.2 x10_2 p511 q511; cases e511; replace p511 := eq_true p511; replace q511 := eq_true q511; have p39 : 0 ≤ (x10_2 : Int) := of_decide_eq_true (by first | (with_reducible assumption) | assumption); have q39 : (x10_2 : Int) < ((x8_3.length : Int) : Int) := of_decide_eq_true (by first | (with_reducible assumption) | assumption); obtain ⟨go39, co39, eo39, gb39, gl39, cl39, HG39⟩ := Kd.R_form HO_8.out (by omega); (first | cases eo39 | (injection eo39 with ea_ en_ ec_; (first | subst ea_ | (injection ea_ with ea_; subst ea_)); subst ec_; clear en_)); have GB39 := Aside0.mk gb39; have GG39 := Aside0.mk HG39; clear gb39 gl39 HG39; (first | simp only [add_plain] at hx511_0 | skip); obtain ⟨hx39_0, hf39_0⟩ := Kd.R_celln 0 HO_8.out (x10_2 : Int) p39 q39; replace p39 := eq_true p39; replace q39 := eq_true q39; obtain ⟨hy44_, hz44_⟩ := Kd.R_celln 0 HO_8.out (x10_2 : Int) (of_decide_eq_true (by first | (with_reducible assumption) | assumption)) (of_decide_eq_true (by first | (with_reducible assumption) | assumption)); have HP44 := Kd.R_putg HO_8.out (x10_2 : Int) (wrap64 ((rd x8_3 x10_2) + x11_3))) | ((with_reducible refine gate_store (t := 3) (p := 76) rfl ?_); refine store_event (t := 3) (p := 76) (v := ?vo_w45) (w1 := (w42.setCell ⟨go39, (x10_2 : Int).toNat, none⟩ (.int .i64 (wrap64 ((rd x8_3 x10_2) + x11_3))))) ?hg ?ho ?hn ?hr ?_; (case ho => rfl); (case hg => rfl); (case hn => rfl); (case hr => first | (go_simp; done) | (go_simp; rfl)); intro w45 hw; have hg : w42.grownBy w45 (some go39) := (by rw [hw]; exact HP44.2); have hp_ : Kd.R (Kd.int .i64) 3 w45 w.heap.size (fun k_ => (w.heap.size ≤ k_)) (.slice (some ⟨go39, 0, none⟩) x8_3.length co43) y512 := (by rw [hw, Ny512.out]; exact HP44.1); clear HP44; have n0_ := Aside0.mk (Kd.N_afterv (v := (.slice (some ⟨go39, 0, none⟩) x8_3.length co43)) (v1 := (.slice (some ⟨go39, 0, none⟩) x8_3.length co43)) (ok := (fun k_ => (P1_ k_ ∨ w.heap.size ≤ k_))) (Nu HO_6) hg (.inl rfl)); have n1_ := Aside0.mk (hp_); have n2_ := Aside0.mk (Kd.V_afterv (v := (.slice (some ⟨go39, 0, none⟩) x8_3.length co43)) (v1 := (.slice (some ⟨go39, 0, none⟩) x8_3.length co43)) (ok := (fun k_ => (P1_ k_ ∨ w.heap.size ≤ k_) ∧ some k_ ≠ (.slice (some ad505) x6_1.length co40 : Value).ownBlock)) (by (with_reducible repeat (first | apply Kd.V_alloc | apply Kd.V_drewN | apply Kd.V_drew)); exact Kd.V_mono HO_9.out (fun _ hk => ⟨⟨hk.1, hk.2.1⟩, hk.2.2⟩)) hg (.inl rfl)); have n3_ := Aside0.mk (Kd.V_afterv (v := (.slice (some ⟨go39, 0, none⟩) x8_3.length co43)) (v1 := (.slice (some ⟨go39, 0, none⟩) x8_3.length co43)) (ok := (fun k_ => (P1_ k_ ∨ w.heap.size ≤ k_) ∧ some k_ ≠ (.slice (some ad505) x6_1.length co40 : Value).ownBlock)) (by (with_reducible repeat (first | apply Kd.V_alloc | apply Kd.V_drewN | apply Kd.V_drew)); first | exact Kd.V_mono HL505_0.out (fun _ hk => ⟨⟨hk.1.1, hk.2⟩, hk.1.2⟩) | exact Kd.V_mono HL505_0.out (fun _ hk => by grind)) hg (.inl rfl)); have n4_ := Aside0.mk (Kd.V_afterv (v := (.slice (some ⟨go39, 0, none⟩) x8_3.length co43)) (v1 := (.slice (some ⟨go39, 0, none⟩) x8_3.length co43)) (ok := (fun k_ => (P1_ k_ ∨ w.heap.size ≤ k_) ∧ some k_ ≠ (.slice (some ad505) x6_1.length co40 : Value).ownBlock)) (by (with_reducible repeat (first | apply Kd.V_alloc | apply Kd.V_drewN | apply Kd.V_drew)); first | exact Kd.V_mono HL507_0.out (fun _ hk => ⟨⟨hk.1.1, hk.2⟩, hk.1.2⟩) | exact Kd.V_mono HL507_0.out (fun _ hk => by grind)) hg (.inl rfl)); have n5_ := Aside0.mk (Kd.V_afterv (v := (.slice (some ⟨go39, 0, none⟩) x8_3.length co43)) (v1 := (.slice (some ⟨go39, 0, none⟩) x8_3.length co43)) (ok := (fun k_ => (P1_ k_ ∨ w.heap.size ≤ k_) ∧ some k_ ≠ (.slice (some ad505) x6_1.length co40 : Value).ownBlock)) (by (with_reducible repeat (first | apply Kd.V_alloc | apply Kd.V_drewN | apply Kd.V_drew)); exact Kd.V_mono HO510.out (fun _ hk => ⟨⟨hk.1, hk.2.1⟩, hk.2.2⟩)) hg (.inl rfl)); have n6_ := Aside0.mk ((by rw [hw]; exact below_set (HB.out) GB39.out : Below w.heap.size w w45)); clear HO_6 HO_8 HO_9 HL505_0 HL507_0 HO510 HB; revert n0_ n1_ n2_ n3_ n4_ n5_ n6_; intro HO_6 HO_8 HO_9 HL505_0 HL507_0 HO510 HB; clear hg hw hp_))
                    go_roundg k3
                    case measure => have := HK1.out; have := HK2.out; have := HK3.out; omega
                    case rel => exact ⟨(y512), (t508), (wrap64 (Int.tdiv x11_3 2)), (wrap64 (x12_3 - 1)), (by first | rfl | (simp; done) | (simp [*]; done)), (by first | rfl | (simp; done) | (simp [*]; done)), H', ⟨by have := HK1.out; have := HK2.out; have := HK3.out; omega⟩, ⟨Nu HO_6⟩, ⟨Ru HO_8⟩, ⟨by (with_reducible repeat (first | apply Kd.V_alloc | apply Kd.V_drewN | apply Kd.V_drew)); exact Kd.V_mono HO510.out (fun _ hk => ⟨hk.1.1, ⟨hk.1.2, hk.2⟩⟩)⟩, ⟨Bu HB⟩⟩
                   ·rw [if_neg c38] at H
                    exact absurd H (by simp)
                  ·rw [if_neg c37] at H
                   exact absurd H (by simp)
                 ·rw [if_neg c35] at H
                  have c35b0 : decide (0 ≤ t506) = false := decide_eq_false c35
                  clear c35
                  have H' := Aside0.mk H
                  clear H
                  obtain ⟨Ao46, co46, eo46⟩ := Kd.N_slice HO_6.out
                  subst eo46
                  have p505 : 0 ≤ (x12_3 : Int) := of_decide_eq_true (by first | (with_reducible assumption) | assumption)
                  have q505 : x12_3 < (x6_1.length : Int) := of_decide_eq_true (by first | (with_reducible assumption) | assumption)
                  obtain ⟨ad505, A505_0, c505_0, e505, hx505_0, hl505_0, hi505_0⟩ := at_L7 (Kd.N_reads' HO_6.out).2.2 x12_3 p505 q505
                  cases e505
                  obtain ⟨ce505, hce505, hMe505, hcc505⟩ := Kd.N_get HO_6.out [] x12_3 p505 (by first | exact q505 | exact of_decide_eq_true (by first | (with_reducible assumption) | assumption) | (have e_ := (Kd.N_reads' HO_6.out).1; omega))
                  obtain ⟨ua505_0, uc505_0, rfl, ul505_0, ge505_0⟩ := Kd.FK_slice_open hMe505
                  have hv505_0 := hcc505 0 _ rfl
                  rw [Nat.add_zero, show ((Kd.slice 3 (Kd.int .i64))).sz = 1 from rfl, Nat.mul_one] at hv505_0
                  replace hv505_0 := Option.some.inj (hv505_0.symm.trans hx505_0)
                  injection hv505_0 with hva_ hvn_ hvc_
                  rw [hva_] at ge505_0
                  rw [hvc_] at ul505_0
                  have HL505_0 := Aside0.mk (show Kd.V (Kd.int .i64) 3 _ w.heap.size _ _ (rd_L7 x6_1 x12_3) from Kd.V_mk ul505_0 ge505_0)
                  clear hva_ hvn_ hvc_ ge505_0 ul505_0
                  clear hcc505 hce505
                  have HR505_0 := Aside0.mk hi505_0
                  have HC505_0 := Aside0.mk hl505_0
                  clear hi505_0 hl505_0
                  replace p505 := eq_true p505
                  replace q505 := eq_true q505
                  obtain ⟨Ao47, co47, eo47⟩ := Kd.V_slice HO_9.out
                  subst eo47
                  go_wp2_with (first | ((with_reducible refine gate_callee (f := 21) rfl ?_); refine goesA (some 60) Tryd.func21 #[.slice Ao47 x9_3.length co47, .slice A505_0 (rd_L7 x6_1 x12_3).length c505_0] rfl ?_; (with_reducible refine (lanyardref06_Cmp.calls k3 _ _ x9_3 _ _ (rd_L7 x6_1 x12_3) t506 _ ?side1 ?side2 ?side3 ?side4 A34.out).mono ?_); (case side1 => exact Cu (Kd.V_reads' HO_9.out).2.2); (case side2 => exact (Kd.V_reads' HO_9.out).2.1); (case side3 => repeat (first | exact (by repeat (first | (with_reducible exact HR505_0.out) | (with_reducible refine Kd.C_alloc ?_ _) | (with_reducible refine Kd.C_drewN ?_ _) | (with_reducible refine Kd.C_drew ?_) | exact HR505_0.out)) | (with_reducible refine Kd.C_alloc ?_ _) | (with_reducible refine Kd.C_drewN ?_ _) | (with_reducible refine Kd.C_drew ?_))); (case side4 => exact HC505_0.out); rintro e w' ⟨rfl, ⟨nd, rfl⟩⟩; refine ⟨_, rfl, ?_⟩))
                  go_roundg k3
                  case measure => have := HK1.out; have := HK2.out; have := HK3.out; omega
                  case rel => exact ⟨(x8_3), (x9_3), (wrap64 (Int.tdiv x11_3 2)), (wrap64 (x12_3 - 1)), (by first | rfl | (simp; done) | (simp [*]; done)), (by first | rfl | (simp; done) | (simp [*]; done)), H', ⟨by have := HK1.out; have := HK2.out; have := HK3.out; omega⟩, ⟨Nu HO_6⟩, ⟨Ru HO_8⟩, ⟨Vu HO_9⟩, ⟨Bu HB⟩⟩
                ·rw [if_neg c33] at H
                 exact absurd H (by simp)
               ·rw [if_neg c32] at H
                exact absurd H (by simp)
              ·rw [if_neg c31] at H
               have c31b0 : decide (0 ≤ x12_3) = false := decide_eq_false c31
               clear c31
               have H' := Aside0.mk H
               clear H
               go_wp2
               go_roundg k3
               case measure => have := HK1.out; have := HK2.out; have := HK3.out; omega
               case rel => exact ⟨(x8_3), (x9_3), (wrap64 (x10_2 - 1)), (by first | rfl | (simp; done) | (simp [*]; done)), H', ⟨by have := HK1.out; have := HK2.out; have := HK3.out; omega⟩, ⟨Nu HO_6⟩, ⟨Ru HO_8⟩, ⟨Vu HO_9⟩, ⟨Bu HB⟩⟩
           ·rw [if_neg c23] at H
            exact absurd H (by simp)
          ·rw [if_neg c22] at H
           exact absurd H (by simp)
         ·rw [if_neg c21] at H
          exact absurd H (by simp)
        ·rw [if_neg c20] at H
         have c20b0 : decide (0 ≤ x10_2) = false := decide_eq_false c20
         clear c20
         replace H := Option.bind_eq_some_iff.mp H
         obtain ⟨t492, A480, H⟩ := H
         replace H : (some (t492, x9_2)) = some (r1, r2) := H
         have A48 := Aside0.mk A480
         clear A480
         simp only [Option.some.injEq, Prod.mk.injEq] at H
         obtain ⟨rfl, rfl⟩ := H
         obtain ⟨Ao49, co49, eo49⟩ := Kd.R_slice HO_8.out
         subst eo49
         go_wp2_with (first | ((with_reducible refine gate_callee (f := 30) rfl ?_); refine goesA (some 80) Tryd.func30 #[.slice Ao49 x8_2.length co49] rfl ?_; (with_reducible refine (lanyardref06_trim.calls k2 (fun k_ => some k_ = (.slice Ao49 x8_2.length co49 : Value).ownBlock) _ _ x8_2 t492 _ ?side1 A48.out).mono ?_); (case side1 => exact Kd.R_V (Kd.R_tight rfl (Kd.R_apart' (HO_8.out) (Kd.N_typed HO_6.out) (by decide)))); rintro e w50 ⟨v493, rfl, ho0, hb⟩; refine ⟨_, rfl, ?_⟩; have n0_ := Nb HO_6 hb; have n1_ := Rb HO_8 hb; have n2_ := Vb HO_9 hb; have n3_ := Aside0.mk (Kd.V_lower (Kd.V_mono (ok' := fun k_ => (P1_ k_ ∨ w.heap.size ≤ k_) ∧ some k_ ≠ (u6 : Value).ownBlock) ho0 (fun k_ hk_ => ⟨Or.elim hk_ (fun hs_ => (.inr (((Kd.R_apart' (HO_8.out) (Kd.N_typed HO_6.out) (by decide)).1 k_ hs_.symm).1))) (fun hn_ => (.inr (Nat.le_trans (Bz HB) hn_))), Or.elim hk_ (fun hs_ => ((Kd.R_apart' (HO_8.out) (Kd.N_typed HO_6.out) (by decide)).1 k_ hs_.symm).2) (fun hn_ => (Kd.fresh' (Kd.N_lt (Nu HO_6)) k_ hn_))⟩)) (Bz HB)); have n4_ := Bs HB hb; clear HO_6 HO_8 HO_9 HB; revert n0_ n1_ n2_ n3_ n4_; intro HO_6 HO_8 HO_9 HO494 HB; (try clear hb); (try clear hb2); (try clear hk); (try clear hi); (try clear ho0)))
         go_ret2
         exact ⟨_, _, rfl_, by (with_reducible repeat (first | apply Kd.V_alloc | apply Kd.V_drewN | apply Kd.V_drew)); exact Kd.V_mono HO494.out (fun _ hk => hk.1), by (with_reducible repeat (first | apply Kd.V_alloc | apply Kd.V_drewN | apply Kd.V_drew)); exact Kd.V_mono HO_9.out (fun _ hk => hk.1), Bu HB⟩
     ·rw [if_neg c17] at H
      exact absurd H (by simp)
    ·rw [if_neg c16] at H
     exact absurd H (by simp)

end Go.Proofs.YtcofpbndaljppaaDoor.Hp
