/- Go functions of this seat as Lean functions, and their contracts: what the Go code computes, for every input. (By hp.py, a program of this repo, over the kit's print.py.) -/
import Derived.Test.YtbokeoncpilgpaaHp0
namespace Go.Proofs.Ytbokeoncpilgpaa.Hp
open Go.RowKit Go.Proofs.YtbokeoncpilgpaaW.PrintWords Go.Proofs.YtbokeoncpilgpaaW.PrintLast Go.Proofs.YtbokeoncpilgpaaW.PrintMore
attribute [local go_sem] max2_int min2_int max_two min_two max_three min_three max_four min_four   -- for this text's walks alone
set_option linter.unusedVariables false
set_option linter.unusedSimpArgs false

/-! ### lanyardref04_fixed: function 21 -/
mutual
def lanyardref04_fixed.l0 : Nat → List Int → Int → Option (List Int × List Int)
 | 0, _, _ => none
 | k + 1, x2, x4 => if x4 < 288 then (if x4 < 144 then (lanyardref04_fixed.j1 k x2 x4 true) else (lanyardref04_fixed.j1 k x2 x4 (decide (x4 ≥ 280)))) else (lanyardref04_fixed.l1 k x2 ([] : List Int) 0)
def lanyardref04_fixed.j1 : Nat → List Int → Int → Bool → Option (List Int × List Int)
 | 0, _, _, _ => none
 | k + 1, x2, x4, x15 => if x15 = true then (if x2.length < 17592186044416 then (lanyardref04_fixed.l0 k (x2 ++ [8]) (wrap64 (x4 + 1))) else (none)) else (if x4 < 256 then (if x2.length < 17592186044416 then (lanyardref04_fixed.l0 k (x2 ++ [9]) (wrap64 (x4 + 1))) else (none)) else (if x2.length < 17592186044416 then (lanyardref04_fixed.l0 k (x2 ++ [7]) (wrap64 (x4 + 1))) else (none)))
def lanyardref04_fixed.l1 : Nat → List Int → List Int → Int → Option (List Int × List Int)
 | 0, _, _, _ => none
 | k + 1, x2, x3, x5 => if x5 < 32 then (if x3.length < 17592186044416 then (lanyardref04_fixed.l1 k x2 (x3 ++ [5]) (wrap64 (x5 + 1))) else (none)) else (some (x2, x3))
end
def lanyardref04_fixed.f (k : Nat)  : Option (List Int × List Int) := lanyardref04_fixed.l0 k ([] : List Int) 0
theorem lanyardref04_fixed.mono_l : ∀ k, (∀ y0 y1, LeO (lanyardref04_fixed.l0 k y0 y1) (lanyardref04_fixed.l0 (k + 1) y0 y1)) ∧ (∀ y0 y1 y2, LeO (lanyardref04_fixed.j1 k y0 y1 y2) (lanyardref04_fixed.j1 (k + 1) y0 y1 y2)) ∧ (∀ y0 y1 y2, LeO (lanyardref04_fixed.l1 k y0 y1 y2) (lanyardref04_fixed.l1 (k + 1) y0 y1 y2))
 | 0 => ⟨fun _ _ r h => by simp [lanyardref04_fixed.l0] at h, fun _ _ _ r h => by simp [lanyardref04_fixed.j1] at h, fun _ _ _ r h => by simp [lanyardref04_fixed.l1] at h⟩
 | k + 1 => by
  obtain ⟨ih0, ih1, ih2⟩ := lanyardref04_fixed.mono_l k
  refine ⟨?_, ?_, ?_⟩
  ·intro y0 y1
   unfold lanyardref04_fixed.l0
   repeat' first
   | (with_reducible exact ih0 _ _)
   | (with_reducible exact ih1 _ _ _)
   | (with_reducible exact ih2 _ _ _)
   | (with_reducible exact LeO.refl _)
   | (with_reducible exact LeO.none _)
   | (with_reducible refine LeO.ite ?_ ?_)
   | (with_reducible refine LeO.bind ?_ (fun _ => ?_))
   | exact ih0 _ _
   | exact ih1 _ _ _
   | exact ih2 _ _ _
   | exact LeO.none _
   | refine LeO.ite ?_ ?_
   | refine LeO.bind ?_ (fun _ => ?_)
  ·intro y0 y1 y2
   unfold lanyardref04_fixed.j1
   repeat' first
   | (with_reducible exact ih0 _ _)
   | (with_reducible exact ih1 _ _ _)
   | (with_reducible exact ih2 _ _ _)
   | (with_reducible exact LeO.refl _)
   | (with_reducible exact LeO.none _)
   | (with_reducible refine LeO.ite ?_ ?_)
   | (with_reducible refine LeO.bind ?_ (fun _ => ?_))
   | exact ih0 _ _
   | exact ih1 _ _ _
   | exact ih2 _ _ _
   | exact LeO.none _
   | refine LeO.ite ?_ ?_
   | refine LeO.bind ?_ (fun _ => ?_)
  ·intro y0 y1 y2
   unfold lanyardref04_fixed.l1
   repeat' first
   | (with_reducible exact ih0 _ _)
   | (with_reducible exact ih1 _ _ _)
   | (with_reducible exact ih2 _ _ _)
   | (with_reducible exact LeO.refl _)
   | (with_reducible exact LeO.none _)
   | (with_reducible refine LeO.ite ?_ ?_)
   | (with_reducible refine LeO.bind ?_ (fun _ => ?_))
   | exact ih0 _ _
   | exact ih1 _ _ _
   | exact ih2 _ _ _
   | exact LeO.none _
   | refine LeO.ite ?_ ?_
   | refine LeO.bind ?_ (fun _ => ?_)
theorem lanyardref04_fixed.mono : ∀ k, LeO (lanyardref04_fixed.f k ) (lanyardref04_fixed.f (k + 1) ) := by
 intro  k
 obtain ⟨ih0, ih1, ih2⟩ := lanyardref04_fixed.mono_l k
 unfold lanyardref04_fixed.f
 repeat' first
   | (with_reducible exact ih0 _ _)
   | (with_reducible exact ih1 _ _ _)
   | (with_reducible exact ih2 _ _ _)
   | (with_reducible exact LeO.refl _)
   | (with_reducible exact LeO.none _)
   | (with_reducible refine LeO.ite ?_ ?_)
   | (with_reducible refine LeO.bind ?_ (fun _ => ?_))
   | exact ih0 _ _
   | exact ih1 _ _ _
   | exact ih2 _ _ _
   | exact LeO.none _
   | refine LeO.ite ?_ ?_
   | refine LeO.bind ?_ (fun _ => ?_)
set_option maxHeartbeats 8000000 in
set_option maxRecDepth 100000 in
theorem lanyardref04_fixed.calls (k : Nat)  (r1 : List Int) (r2 : List Int) (w : World) (h : lanyardref04_fixed.f k  = some (r1, r2)) :
  Calls Try.prog 21 #[] w fun e w' => ∃ v0_ v1_ : Value, e = .returned (.tuple #[v0_, v1_]) ∧ Kd.R (Kd.int .i64) 3 w' w.heap.size (fun k_ => some k_ ≠ (v1_ : Value).ownBlock) v0_ r1 ∧ Kd.R (Kd.int .i64) 3 w' w.heap.size (fun k_ => some k_ ≠ (v0_ : Value).ownBlock) v1_ r2 ∧ Below w.heap.size w w' := by
 have HB := Aside0.mk (Below.refl w.heap.size w)
 have H : (lanyardref04_fixed.l0 k ([] : List Int) 0) = some (r1, r2) := h
 clear h
 have H' := Aside0.mk H
 clear H
 go_enter Try.func21, Try.ntmps21
 go_wp2
 go_loopg [2, 4] k (fun kq v2 v4 w' => ∃ (x2_1 : List Int) (x4_1 : Int), v4 = .int .i64 x4_1 ∧ Aside0 (lanyardref04_fixed.l0 kq x2_1 x4_1 = some (r1, r2)) ∧ Aside0 (kq ≤ k) ∧ Aside0 (Kd.R (Kd.int .i64) 3 w' w.heap.size (fun _ => True) v2 x2_1) ∧ Aside0 (Below w.heap.size w w'))
 case atStart => exact ⟨(([] : List Int)), (0), (by first | rfl | (simp; done) | (simp [*]; done)), H', ⟨Nat.le_refl _⟩, ⟨by first | exact Kd.R_nil _ _ _ _ _ | exact Kd.N_nil _ _ _ _ _ | exact Kd.V_nil _ _ _ _ _ | exact Kd.Q_nil _ _ _ _ _ | exact Kd.S_nil _ _ _ _ _⟩, ⟨Bu HB⟩⟩
 case round =>
  clear H'
  obtain ⟨x2_1, x4_1, rfl, HA, HK1, HO_2, HB⟩ := hrel
  cases gk with
  | zero => exact absurd HA.out (by simp [lanyardref04_fixed.l0])
  | succ k1 =>
   have H := HA.out
   clear HA
   simp only [lanyardref04_fixed.l0] at H
   by_cases c1 : x4_1 < 288
   ·rw [if_pos c1] at H
    have c1b0 : decide (x4_1 < 288) = true := decide_eq_true c1
    clear c1
    have HC2 := Aside0.mk H
    clear H
    go_upto_region 6 with (fail)
    go_cut [15] (fun v15 wc => ∃ (kq : Nat) (x15_1 : Bool), v15 = .bool x15_1 ∧ Aside0 (lanyardref04_fixed.j1 kq x2_1 x4_1 x15_1 = some (r1, r2)) ∧ Aside0 (kq ≤ k1) ∧ Aside0 (Kd.R (Kd.int .i64) 3 wc w.heap.size (fun _ => True) u2 x2_1) ∧ Aside0 (Below w.heap.size w wc))
    case first =>
     have H := HC2.out
     clear HC2
     by_cases c3 : x4_1 < 144
     ·rw [if_pos c3] at H
      have c3b0 : decide (x4_1 < 144) = true := decide_eq_true c3
      clear c3
      (first | rw [c3b0] | (simp only [i64_w, i32_w]; rw [c3b0]) | skip)
      have H' := Aside0.mk H
      clear H
      go_wp2
      go_meet
      case rel => exact ⟨_, (true), (by first | rfl | (simp; done) | (simp [*]; done)), H', ⟨by have := HK1.out; first | omega | exact Nat.le_refl _⟩, ⟨Ru HO_2⟩, ⟨Bu HB⟩⟩
     ·rw [if_neg c3] at H
      have c3b0 : decide (x4_1 < 144) = false := decide_eq_false c3
      clear c3
      (first | rw [c3b0] | (simp only [i64_w, i32_w]; rw [c3b0]) | skip)
      have H' := Aside0.mk H
      clear H
      go_wp2
      go_meet
      case rel => exact ⟨_, (decide (x4_1 ≥ 280)), (by first | rfl | (simp; done) | (simp [*]; done)), H', ⟨by have := HK1.out; first | omega | exact Nat.le_refl _⟩, ⟨Ru HO_2⟩, ⟨Bu HB⟩⟩
    case rest =>
     clear HC2
     try clear c1
     try clear c1b0
     try clear c2
     try clear p2
     try clear c3
     try clear c3b0
     obtain ⟨kq, x15_1, rfl, HA, HJ1, HO_2, HB⟩ := hcut
     cases kq with
     | zero => exact absurd HA.out (by simp [lanyardref04_fixed.j1])
     | succ kj1 =>
      have H := HA.out
      clear HA
      simp only [lanyardref04_fixed.j1] at H
      by_cases c4 : x15_1 = true
      ·subst c4
       have H1 : (if x2_1.length < 17592186044416 then (lanyardref04_fixed.l0 kj1 (x2_1 ++ [8]) (wrap64 (x4_1 + 1))) else (none)) = some (r1, r2) := by rw [if_pos rfl] at H; exact H
       clear H
       have H := H1
       clear H1
       by_cases c5 : x2_1.length < 17592186044416
       ·rw [if_pos c5] at H
        have LMc5 := Aside0.mk c5
        clear c5
        obtain ⟨y103, hy103⟩ : ∃ y_ : List Int, y_ = (x2_1 ++ [8]) := ⟨_, rfl⟩
        replace H : (lanyardref04_fixed.l0 kj1 y103 (wrap64 (x4_1 + 1))) = some (r1, r2) := by first | (rw [hy103]; with_reducible exact H) | (have H2_ := (Option.bind_some _ _).symm.trans H; rw [hy103]; with_reducible exact H2_) | (have H2_ := (Option.bind_some _ _).symm.trans H; with_reducible exact H2_) | with_reducible exact H | (rw [hy103]; exact H) | exact H
        have Ny103 := Aside0.mk hy103
        clear hy103
        have H' := Aside0.mk H
        clear H
        go_wp2_with (first | ((with_reducible refine gate_builtin (b := .append) (xs := #[.tmp 16, .tmp 17]) rfl ?_); at_builtin; refine Kd.R_append (Kd.int .i64) (w0 := w) w.heap.size rfl (.tmp 16) (.tmp 17) 35 3 (.int .i64 0) 8 rfl Try.underlying35 info3 rfl (by decide) (by omega) u2 x2_1 8 [.int .i64 8] (fun _ => True) (fun _ => False) rfl rfl ?aP (fun _ hk => hk.elim) ?aF ?aO ?aB ?aS ?aL ?_; (case aP => exact rfl); (case aB => exact (Bu HB)); (case aF => exact (fun _ _ => trivial)); (case aO => exact (Ru HO_2)); (case aS => exact (Bz HB)); (case aL => have := LMc5.out; omega); intro v104 w6 ho hb hg hat; rw [← Ny103.out] at ho; have n0_ := Aside0.mk (hb); have n1_ := Aside0.mk (ho); clear HB HO_2; revert n0_ n1_; intro HB HO105; clear ho hb hg hat))
        go_roundg kj1
        case measure => have := HK1.out; have := HJ1.out; omega
        case rel => exact ⟨(y103), (wrap64 (x4_1 + 1)), (by first | rfl | (simp; done) | (simp [*]; done)), H', ⟨by have := HK1.out; have := HJ1.out; omega⟩, ⟨Ru HO105⟩, ⟨Bu HB⟩⟩
       ·rw [if_neg c5] at H
        exact absurd H (by simp)
      ·replace c4 := Bool.eq_false_iff.mpr c4
       subst c4
       have H1 : (if x4_1 < 256 then (if x2_1.length < 17592186044416 then (lanyardref04_fixed.l0 kj1 (x2_1 ++ [9]) (wrap64 (x4_1 + 1))) else (none)) else (if x2_1.length < 17592186044416 then (lanyardref04_fixed.l0 kj1 (x2_1 ++ [7]) (wrap64 (x4_1 + 1))) else (none))) = some (r1, r2) := by rw [if_neg (show ¬ (false = true) by decide)] at H; exact H
       clear H
       have H := H1
       clear H1
       by_cases c7 : x4_1 < 256
       ·rw [if_pos c7] at H
        have c7b0 : decide (x4_1 < 256) = true := decide_eq_true c7
        clear c7
        by_cases c8 : x2_1.length < 17592186044416
        ·rw [if_pos c8] at H
         have LMc8 := Aside0.mk c8
         clear c8
         obtain ⟨y106, hy106⟩ : ∃ y_ : List Int, y_ = (x2_1 ++ [9]) := ⟨_, rfl⟩
         replace H : (lanyardref04_fixed.l0 kj1 y106 (wrap64 (x4_1 + 1))) = some (r1, r2) := by first | (rw [hy106]; with_reducible exact H) | (have H2_ := (Option.bind_some _ _).symm.trans H; rw [hy106]; with_reducible exact H2_) | (have H2_ := (Option.bind_some _ _).symm.trans H; with_reducible exact H2_) | with_reducible exact H | (rw [hy106]; exact H) | exact H
         have Ny106 := Aside0.mk hy106
         clear hy106
         have H' := Aside0.mk H
         clear H
         go_wp2_with (first | ((with_reducible refine gate_builtin (b := .append) (xs := #[.tmp 21, .tmp 22]) rfl ?_); at_builtin; refine Kd.R_append (Kd.int .i64) (w0 := w) w.heap.size rfl (.tmp 21) (.tmp 22) 35 3 (.int .i64 0) 8 rfl Try.underlying35 info3 rfl (by decide) (by omega) u2 x2_1 9 [.int .i64 9] (fun _ => True) (fun _ => False) rfl rfl ?aP (fun _ hk => hk.elim) ?aF ?aO ?aB ?aS ?aL ?_; (case aP => exact rfl); (case aB => exact (Bu HB)); (case aF => exact (fun _ _ => trivial)); (case aO => exact (Ru HO_2)); (case aS => exact (Bz HB)); (case aL => have := LMc8.out; omega); intro v107 w9 ho hb hg hat; rw [← Ny106.out] at ho; have n0_ := Aside0.mk (hb); have n1_ := Aside0.mk (ho); clear HB HO_2; revert n0_ n1_; intro HB HO108; clear ho hb hg hat))
         go_roundg kj1
         case measure => have := HK1.out; have := HJ1.out; omega
         case rel => exact ⟨(y106), (wrap64 (x4_1 + 1)), (by first | rfl | (simp; done) | (simp [*]; done)), H', ⟨by have := HK1.out; have := HJ1.out; omega⟩, ⟨Ru HO108⟩, ⟨Bu HB⟩⟩
        ·rw [if_neg c8] at H
         exact absurd H (by simp)
       ·rw [if_neg c7] at H
        have c7b0 : decide (x4_1 < 256) = false := decide_eq_false c7
        clear c7
        by_cases c10 : x2_1.length < 17592186044416
        ·rw [if_pos c10] at H
         have LMc10 := Aside0.mk c10
         clear c10
         obtain ⟨y109, hy109⟩ : ∃ y_ : List Int, y_ = (x2_1 ++ [7]) := ⟨_, rfl⟩
         replace H : (lanyardref04_fixed.l0 kj1 y109 (wrap64 (x4_1 + 1))) = some (r1, r2) := by first | (rw [hy109]; with_reducible exact H) | (have H2_ := (Option.bind_some _ _).symm.trans H; rw [hy109]; with_reducible exact H2_) | (have H2_ := (Option.bind_some _ _).symm.trans H; with_reducible exact H2_) | with_reducible exact H | (rw [hy109]; exact H) | exact H
         have Ny109 := Aside0.mk hy109
         clear hy109
         have H' := Aside0.mk H
         clear H
         go_wp2_with (first | ((with_reducible refine gate_builtin (b := .append) (xs := #[.tmp 24, .tmp 25]) rfl ?_); at_builtin; refine Kd.R_append (Kd.int .i64) (w0 := w) w.heap.size rfl (.tmp 24) (.tmp 25) 35 3 (.int .i64 0) 8 rfl Try.underlying35 info3 rfl (by decide) (by omega) u2 x2_1 7 [.int .i64 7] (fun _ => True) (fun _ => False) rfl rfl ?aP (fun _ hk => hk.elim) ?aF ?aO ?aB ?aS ?aL ?_; (case aP => exact rfl); (case aB => exact (Bu HB)); (case aF => exact (fun _ _ => trivial)); (case aO => exact (Ru HO_2)); (case aS => exact (Bz HB)); (case aL => have := LMc10.out; omega); intro v110 w11 ho hb hg hat; rw [← Ny109.out] at ho; have n0_ := Aside0.mk (hb); have n1_ := Aside0.mk (ho); clear HB HO_2; revert n0_ n1_; intro HB HO111; clear ho hb hg hat))
         go_roundg kj1
         case measure => have := HK1.out; have := HJ1.out; omega
         case rel => exact ⟨(y109), (wrap64 (x4_1 + 1)), (by first | rfl | (simp; done) | (simp [*]; done)), H', ⟨by have := HK1.out; have := HJ1.out; omega⟩, ⟨Ru HO111⟩, ⟨Bu HB⟩⟩
        ·rw [if_neg c10] at H
         exact absurd H (by simp)
   ·rw [if_neg c1] at H
    have c1b0 : decide (x4_1 < 288) = false := decide_eq_false c1
    clear c1
    have H' := Aside0.mk H
    clear H
    go_wp2
    go_loopg [3, 5] k1 (fun kq v3 v5 w' => ∃ (x3_2 : List Int) (x5_2 : Int), v5 = .int .i64 x5_2 ∧ Aside0 (lanyardref04_fixed.l1 kq x2_1 x3_2 x5_2 = some (r1, r2)) ∧ Aside0 (kq ≤ k1) ∧ Aside0 (Kd.R (Kd.int .i64) 3 w' w.heap.size (fun k_ => some k_ ≠ (v3 : Value).ownBlock) u2 x2_1) ∧ Aside0 (Kd.R (Kd.int .i64) 3 w' w.heap.size (fun k_ => some k_ ≠ (u2 : Value).ownBlock) v3 x3_2) ∧ Aside0 (Below w.heap.size w w'))
    case atStart => exact ⟨(([] : List Int)), (0), (by first | rfl | (simp; done) | (simp [*]; done)), H', ⟨Nat.le_refl _⟩, ⟨by (with_reducible repeat (first | apply Kd.R_alloc | apply Kd.R_drewN | apply Kd.R_drew)); exact Kd.R_mono HO_2.out (fun _ hk => (by simp [Value.ownBlock]))⟩, ⟨by first | exact Kd.R_nil _ _ _ _ _ | exact Kd.N_nil _ _ _ _ _ | exact Kd.V_nil _ _ _ _ _ | exact Kd.Q_nil _ _ _ _ _ | exact Kd.S_nil _ _ _ _ _⟩, ⟨Bu HB⟩⟩
    case round =>
     clear H'
     try clear c1
     try clear c1b0
     try clear c2
     try clear p2
     try clear c3
     try clear c3b0
     try clear c4
     try clear c5
     try clear p6
     try clear c7
     try clear c7b0
     try clear c8
     try clear c10
     try clear p2
     obtain ⟨x3_2, x5_2, rfl, HA, HK2, HO_2, HO_3, HB⟩ := hrel
     cases gk with
     | zero => exact absurd HA.out (by simp [lanyardref04_fixed.l1])
     | succ k2 =>
      have H := HA.out
      clear HA
      simp only [lanyardref04_fixed.l1] at H
      by_cases c12 : x5_2 < 32
      ·rw [if_pos c12] at H
       have c12b0 : decide (x5_2 < 32) = true := decide_eq_true c12
       clear c12
       by_cases c13 : x3_2.length < 17592186044416
       ·rw [if_pos c13] at H
        have LMc13 := Aside0.mk c13
        clear c13
        obtain ⟨y112, hy112⟩ : ∃ y_ : List Int, y_ = (x3_2 ++ [5]) := ⟨_, rfl⟩
        replace H : (lanyardref04_fixed.l1 k2 x2_1 y112 (wrap64 (x5_2 + 1))) = some (r1, r2) := by first | (rw [hy112]; with_reducible exact H) | (have H2_ := (Option.bind_some _ _).symm.trans H; rw [hy112]; with_reducible exact H2_) | (have H2_ := (Option.bind_some _ _).symm.trans H; with_reducible exact H2_) | with_reducible exact H | (rw [hy112]; exact H) | exact H
        have Ny112 := Aside0.mk hy112
        clear hy112
        have H' := Aside0.mk H
        clear H
        go_wp2_with (first | ((with_reducible refine gate_builtin (b := .append) (xs := #[.tmp 31, .tmp 32]) rfl ?_); at_builtin; refine Kd.R_append (Kd.int .i64) (w0 := w) w.heap.size rfl (.tmp 31) (.tmp 32) 35 3 (.int .i64 0) 8 rfl Try.underlying35 info3 rfl (by decide) (by omega) u3 x3_2 5 [.int .i64 5] (fun k_ => some k_ ≠ (u2 : Value).ownBlock) (fun _ => False) rfl rfl ?aP (fun _ hk => hk.elim) ?aF ?aO ?aB ?aS ?aL ?_; (case aP => exact rfl); (case aB => exact (Bu HB)); (case aF => exact (fun k_ hk => Kd.fresh' (Kd.R_lt (Ru HO_2)) k_ hk)); (case aO => exact (Ru HO_3)); (case aS => exact (Bz HB)); (case aL => have := LMc13.out; omega); intro v113 w14 ho hb hg hat; rw [← Ny112.out] at ho; have n0_ := Aside0.mk (Kd.R_after (ok := (fun _ => True)) (by (with_reducible repeat (first | apply Kd.R_alloc | apply Kd.R_drewN | apply Kd.R_drew)); exact Kd.R_mono HO_2.out (fun _ hk => ⟨trivial, hk⟩)) hg hat); have n1_ := Aside0.mk (hb); have n2_ := Aside0.mk (ho); clear HO_2 HB HO_3; revert n0_ n1_ n2_; intro HO_2 HB HO114; clear ho hb hg hat))
        go_roundg k2
        case measure => have := HK1.out; have := HK2.out; omega
        case rel => exact ⟨(y112), (wrap64 (x5_2 + 1)), (by first | rfl | (simp; done) | (simp [*]; done)), H', ⟨by have := HK1.out; have := HK2.out; omega⟩, ⟨by (with_reducible repeat (first | apply Kd.R_alloc | apply Kd.R_drewN | apply Kd.R_drew)); exact Kd.R_mono HO_2.out (fun _ hk => hk.2)⟩, ⟨Ru HO114⟩, ⟨Bu HB⟩⟩
       ·rw [if_neg c13] at H
        exact absurd H (by simp)
      ·rw [if_neg c12] at H
       have c12b0 : decide (x5_2 < 32) = false := decide_eq_false c12
       clear c12
       simp only [Option.some.injEq, Prod.mk.injEq] at H
       obtain ⟨rfl, rfl⟩ := H
       go_wp2
       go_ret2
       exact ⟨_, _, rfl_, Ru HO_2, Ru HO_3, Bu HB⟩

/-! ### lanyardref04_Codes: function 22 -/
mutual
def lanyardref04_Codes.l0 : Nat → List Int → List (S52) → Int → Int → Option ((List (S52)))
 | 0, _, _, _, _ => none
 | k + 1, x0, x3, x4, x5 => if x5 ≤ 15 then (lanyardref04_Codes.l1 k x0 x3 (wrap64 (x4 * 2)) x5 0) else (some x3)
def lanyardref04_Codes.l1 : Nat → List Int → List (S52) → Int → Int → Int → Option ((List (S52)))
 | 0, _, _, _, _, _ => none
 | k + 1, x0, x3, x4, x5, x6 => if x6 < (x0.length : Int) then (if 0 ≤ x6 then (if (rd x0 x6) = x5 then (if x6 < (x3.length : Int) then (lanyardref04_Codes.l1 k x0 (x3.set (x6 : Int).toNat (⟨x4, x5⟩ : S52)) (wrap64 (x4 + 1)) x5 (wrap64 (x6 + 1))) else (none)) else (lanyardref04_Codes.l1 k x0 x3 x4 x5 (wrap64 (x6 + 1)))) else (none)) else (lanyardref04_Codes.l0 k x0 x3 x4 (wrap64 (x5 + 1)))
end
def lanyardref04_Codes.f (k : Nat) (l0 : List Int) : Option ((List (S52))) := if 0 ≤ (l0.length : Int) then (if ((l0.length : Int) : Int).toNat ≤ 17592186044416 then (lanyardref04_Codes.l0 k l0 (List.replicate ((l0.length : Int) : Int).toNat z52) 0 1) else (none)) else (none)
theorem lanyardref04_Codes.mono_l : ∀ k, (∀ y0 y1 y2 y3, LeO (lanyardref04_Codes.l0 k y0 y1 y2 y3) (lanyardref04_Codes.l0 (k + 1) y0 y1 y2 y3)) ∧ (∀ y0 y1 y2 y3 y4, LeO (lanyardref04_Codes.l1 k y0 y1 y2 y3 y4) (lanyardref04_Codes.l1 (k + 1) y0 y1 y2 y3 y4))
 | 0 => ⟨fun _ _ _ _ r h => by simp [lanyardref04_Codes.l0] at h, fun _ _ _ _ _ r h => by simp [lanyardref04_Codes.l1] at h⟩
 | k + 1 => by
  obtain ⟨ih0, ih1⟩ := lanyardref04_Codes.mono_l k
  refine ⟨?_, ?_⟩
  ·intro y0 y1 y2 y3
   unfold lanyardref04_Codes.l0
   repeat' first
   | (with_reducible exact ih0 _ _ _ _)
   | (with_reducible exact ih1 _ _ _ _ _)
   | (with_reducible exact LeO.refl _)
   | (with_reducible exact LeO.none _)
   | (with_reducible refine LeO.ite ?_ ?_)
   | (with_reducible refine LeO.bind ?_ (fun _ => ?_))
   | exact ih0 _ _ _ _
   | exact ih1 _ _ _ _ _
   | exact LeO.none _
   | refine LeO.ite ?_ ?_
   | refine LeO.bind ?_ (fun _ => ?_)
  ·intro y0 y1 y2 y3 y4
   unfold lanyardref04_Codes.l1
   repeat' first
   | (with_reducible exact ih0 _ _ _ _)
   | (with_reducible exact ih1 _ _ _ _ _)
   | (with_reducible exact LeO.refl _)
   | (with_reducible exact LeO.none _)
   | (with_reducible refine LeO.ite ?_ ?_)
   | (with_reducible refine LeO.bind ?_ (fun _ => ?_))
   | exact ih0 _ _ _ _
   | exact ih1 _ _ _ _ _
   | exact LeO.none _
   | refine LeO.ite ?_ ?_
   | refine LeO.bind ?_ (fun _ => ?_)
theorem lanyardref04_Codes.mono : ∀ a0 k, LeO (lanyardref04_Codes.f k a0) (lanyardref04_Codes.f (k + 1) a0) := by
 intro a0 k
 obtain ⟨ih0, ih1⟩ := lanyardref04_Codes.mono_l k
 unfold lanyardref04_Codes.f
 repeat' first
   | (with_reducible exact ih0 _ _ _ _)
   | (with_reducible exact ih1 _ _ _ _ _)
   | (with_reducible exact LeO.refl _)
   | (with_reducible exact LeO.none _)
   | (with_reducible refine LeO.ite ?_ ?_)
   | (with_reducible refine LeO.bind ?_ (fun _ => ?_))
   | exact ih0 _ _ _ _
   | exact ih1 _ _ _ _ _
   | exact LeO.none _
   | refine LeO.ite ?_ ?_
   | refine LeO.bind ?_ (fun _ => ?_)
set_option maxHeartbeats 8000000 in
set_option maxRecDepth 100000 in
theorem lanyardref04_Codes.calls (k : Nat) (A0 : Option Addr) (c0 : Nat) (l0 : List Int) (r : List (S52)) (w : World) (hr0 : Kd.C (Kd.int .i64) w A0 l0.length l0) (hc0 : l0.length ≤ c0) (h : lanyardref04_Codes.f k l0 = some r) :
  Calls Try.prog 22 #[.slice A0 l0.length c0] w fun e w' => ∃ v0_ : Value, e = .returned (v0_) ∧ Kd.R k52 52 w' w.heap.size (fun _ => True) v0_ r ∧ Below w.heap.size w w' := by
 have hu52 := Try.underlying52
 have HR0 := Aside0.mk hr0
 have HC0 := Aside0.mk hc0
 clear hr0 hc0
 have HB := Aside0.mk (Below.refl w.heap.size w)
 have H : (if 0 ≤ (l0.length : Int) then (if ((l0.length : Int) : Int).toNat ≤ 17592186044416 then (lanyardref04_Codes.l0 k l0 (List.replicate ((l0.length : Int) : Int).toNat z52) 0 1) else (none)) else (none)) = some r := h
 clear h
 by_cases c2 : 0 ≤ (l0.length : Int)
 ·rw [if_pos c2] at H
  have c2b0 := eq_true c2
  have c2b1 : decide (0 ≤ (l0.length : Int)) = true := decide_eq_true c2
  clear c2
  by_cases c3 : ((l0.length : Int) : Int).toNat ≤ 17592186044416
  ·rw [if_pos c3] at H
   have c3b0 := eq_true c3
   have c3b1 : decide (((l0.length : Int) : Int).toNat ≤ 17592186044416) = true := decide_eq_true c3
   clear c3
   obtain ⟨y115, hy115⟩ : ∃ y_ : List (S52), y_ = (List.replicate ((l0.length : Int) : Int).toNat z52) := ⟨_, rfl⟩
   replace H : (lanyardref04_Codes.l0 k l0 y115 0 1) = some r := by first | (rw [hy115]; with_reducible exact H) | (have H2_ := (Option.bind_some _ _).symm.trans H; rw [hy115]; with_reducible exact H2_) | (have H2_ := (Option.bind_some _ _).symm.trans H; with_reducible exact H2_) | with_reducible exact H | (rw [hy115]; exact H) | exact H
   have Ny115 := Aside0.mk hy115
   clear hy115
   have H' := Aside0.mk H
   clear H
   go_enter Try.func22, Try.ntmps22
   go_wp2_with (first | ((with_reducible refine gate_dst (N := 9) rfl ?_); refine Kd.R_make k52 _ 52 rfl (N := 9) rfl 48 _ _ rfl (l0.length : Int) rfl rfl Try.underlying48 (.agg #[(.int .i64 0), (.int .i64 0)]) 16 info52 rfl (by decide) (by omega) z52 (ok := fun _ => True) (okp := fun _ => True) (k52_mkM _ _ _ z52 ) (fun _ hk => hk) trivial (of_decide_eq_true (by first | (with_reducible assumption) | assumption)) (Nat.le_trans (Nat.mul_le_mul_right _ (of_decide_eq_true (by first | (with_reducible assumption) | assumption) : (l0.length : Int).toNat ≤ 17592186044416)) (by omega)) (Below.refl _ _) (Nat.le_refl _) ?_; intro v116 w4 ho5 hb hg_ hnew_; clear hg_ hnew_; (first | rw [← Ny115.out] at ho5 | (simp only [Int.reduceToNat] at ho5; rw [← Ny115.out] at ho5)); have n0_ := Aside0.mk (Kd.R_lower ho5 (Bz HB)); have n1_ := Bs HB hb; clear HB; revert n0_ n1_; intro HO117 HB; clear hb ho5))
   go_loopg [4, 5] k (fun kq v4 v5 w' => ∃ (x3_1 : List (S52)) (x4_1 : Int) (x5_1 : Int), v4 = .int .i64 x4_1 ∧ v5 = .int .i64 x5_1 ∧ Aside0 (lanyardref04_Codes.l0 kq l0 x3_1 x4_1 x5_1 = some r) ∧ Aside0 (kq ≤ k) ∧ Aside0 (Kd.R k52 52 w' w.heap.size (fun _ => True) v116 x3_1) ∧ Aside0 (Below w.heap.size w w'))
   case atStart => exact ⟨(y115), (0), (1), (by first | rfl | (simp; done) | (simp [*]; done)), (by first | rfl | (simp; done) | (simp [*]; done)), H', ⟨Nat.le_refl _⟩, ⟨Ru HO117⟩, ⟨Bu HB⟩⟩
   case round =>
    clear H'
    try clear c2
    try clear c2b0
    try clear c2b1
    try clear p2
    try clear c3
    try clear c3b0
    try clear c3b1
    obtain ⟨x3_1, x4_1, x5_1, rfl, rfl, HA, HK1, HO_3, HB⟩ := hrel
    cases gk with
    | zero => exact absurd HA.out (by simp [lanyardref04_Codes.l0])
    | succ k1 =>
     have H := HA.out
     clear HA
     simp only [lanyardref04_Codes.l0] at H
     by_cases c6 : x5_1 ≤ 15
     ·rw [if_pos c6] at H
      have c6b0 : decide (x5_1 ≤ 15) = true := decide_eq_true c6
      clear c6
      have H' := Aside0.mk H
      clear H
      go_wp2
      go_loopg [4, 6] k1 (fun kq v4 v6 w' => ∃ (x3_2 : List (S52)) (x4_2 : Int) (x6_2 : Int), v4 = .int .i64 x4_2 ∧ v6 = .int .i64 x6_2 ∧ Aside0 (lanyardref04_Codes.l1 kq l0 x3_2 x4_2 x5_1 x6_2 = some r) ∧ Aside0 (kq ≤ k1) ∧ Aside0 (Kd.R k52 52 w' w.heap.size (fun _ => True) v116 x3_2) ∧ Aside0 (Below w.heap.size w w'))
      case atStart => exact ⟨(x3_1), (wrap64 (x4_1 * 2)), (0), (by first | rfl | (simp; done) | (simp [*]; done)), (by first | rfl | (simp; done) | (simp [*]; done)), H', ⟨Nat.le_refl _⟩, ⟨Ru HO_3⟩, ⟨Bu HB⟩⟩
      case round =>
       clear H'
       try clear c2
       try clear c2b0
       try clear c2b1
       try clear p2
       try clear c3
       try clear c3b0
       try clear c3b1
       try clear c6
       try clear c6b0
       try clear p6
       try clear p2
       obtain ⟨x3_2, x4_2, x6_2, rfl, rfl, HA, HK2, HO_3, HB⟩ := hrel
       cases gk with
       | zero => exact absurd HA.out (by simp [lanyardref04_Codes.l1])
       | succ k2 =>
        have H := HA.out
        clear HA
        simp only [lanyardref04_Codes.l1] at H
        by_cases c7 : x6_2 < (l0.length : Int)
        ·rw [if_pos c7] at H
         have c7b0 : decide (x6_2 < (l0.length : Int)) = true := decide_eq_true c7
         clear c7
         by_cases c8 : 0 ≤ x6_2
         ·rw [if_pos c8] at H
          have c8b0 : decide (0 ≤ x6_2) = true := decide_eq_true c8
          clear c8
          by_cases c9 : (rd l0 x6_2) = x5_1
          ·rw [if_pos c9] at H
           have c9b0 : ((rd l0 x6_2) == x5_1) = true := beq_iff_eq.mpr c9
           have c9b1 : ((rd l0 x6_2) != x5_1) = false := bne_eq_false_iff_eq.mpr c9
           clear c9
           by_cases c10 : x6_2 < (x3_2.length : Int)
           ·rw [if_pos c10] at H
            have c10b0 : decide (x6_2 < (x3_2.length : Int)) = true := decide_eq_true c10
            clear c10
            obtain ⟨y119, hy119⟩ : ∃ y_ : List (S52), y_ = (x3_2.set (x6_2 : Int).toNat (⟨x4_2, x5_1⟩ : S52)) := ⟨_, rfl⟩
            replace H : (lanyardref04_Codes.l1 k2 l0 y119 (wrap64 (x4_2 + 1)) x5_1 (wrap64 (x6_2 + 1))) = some r := by first | (rw [hy119]; with_reducible exact H) | (have H2_ := (Option.bind_some _ _).symm.trans H; rw [hy119]; with_reducible exact H2_) | (have H2_ := (Option.bind_some _ _).symm.trans H; with_reducible exact H2_) | with_reducible exact H | (rw [hy119]; exact H) | exact H
            have Ny119 := Aside0.mk hy119
            clear hy119
            have H' := Aside0.mk H
            clear H
            have p118 : 0 ≤ (x6_2 : Int) := of_decide_eq_true (by first | (with_reducible assumption) | assumption)
            have q118 : x6_2 < (l0.length : Int) := of_decide_eq_true (by first | (with_reducible assumption) | assumption)
            obtain ⟨ad118, e118, hx118_0⟩ := Kd.at_int HR0.out x6_2 p118 q118
            cases e118
            replace hx118_0 := (HB.out.cell (World.block_lt_of_cell? w _ hx118_0)).trans hx118_0
            replace p118 := eq_true p118
            replace q118 := eq_true q118
            have p11 : 0 ≤ (x6_2 : Int) := of_decide_eq_true (by first | (with_reducible assumption) | assumption)
            have q11 : (x6_2 : Int) < ((x3_2.length : Int) : Int) := of_decide_eq_true (by first | (with_reducible assumption) | assumption)
            obtain ⟨go11, co11, eo11, gb11, gl11, cl11, HG11⟩ := Kd.R_form HO_3.out (by omega)
            (first | cases eo11 | (injection eo11 with ea_ en_ ec_; (first | subst ea_ | (injection ea_ with ea_; subst ea_)); subst ec_; clear en_))
            have GB11 := Aside0.mk gb11
            have GG11 := Aside0.mk HG11
            clear gb11 gl11 HG11
            obtain ⟨ce11, hcl11, hM11, hcc11, hfr11⟩ := Kd.R_elem HO_3.out z52 (x6_2 : Int) p11 q11
            obtain rfl := k52_openM hM11
            have hx11_0 : wr.cell? ⟨go11, (x6_2 : Int).toNat * 2, none⟩ = some (.int .i64 ((rd_T52 x3_2 x6_2).f0)) := hcc11 0 _ rfl
            have hx11_1 : wr.cell? ⟨go11, (x6_2 : Int).toNat * 2 + 1, none⟩ = some (.int .i64 ((rd_T52 x3_2 x6_2).f1)) := hcc11 1 _ rfl
            have hf11_0 : wr.frozen? ⟨go11, (x6_2 : Int).toNat * 2, none⟩ = false := hfr11 0
            have hf11_1 : wr.frozen? ⟨go11, (x6_2 : Int).toNat * 2 + 1, none⟩ = false := hfr11 1
            clear hcl11 hcc11 hfr11 hM11
            replace p11 := eq_true p11
            replace q11 := eq_true q11
            have HX12 := Aside0.mk (show Kd.R k52 52 wr w.heap.size (fun _ => True) (.slice (some ⟨go11, 0, none⟩) x3_2.length co11) x3_2 from (Ru HO_3))
            obtain ⟨ce12, hcl12, hM12, hcc12, hfr12⟩ := Kd.R_elem HX12.out z52 (x6_2 : Int) (of_decide_eq_true (by first | (with_reducible assumption) | assumption)) (by have h_ : (x6_2 : Int) < ((x3_2.length : Int) : Int) := of_decide_eq_true (by first | (with_reducible assumption) | assumption); first | exact h_ | (have e_ := (Kd.R_reads' HO_3.out).1; omega) | simpa using h_)
            obtain rfl := k52_openM hM12
            have HP12 := Kd.R_seg HX12.out (x6_2 : Int) (of_decide_eq_true (by first | (with_reducible assumption) | assumption)) (by have h_ : (x6_2 : Int) < ((x3_2.length : Int) : Int) := of_decide_eq_true (by first | (with_reducible assumption) | assumption); first | exact h_ | (have e_ := (Kd.R_reads' HO_3.out).1; omega) | simpa using h_) (seg := [.int .i64 x4_2, .int .i64 x5_1]) (j := 0) hcl12 hcc12 (show 2 ≤ 2 from by decide) (x' := (⟨x4_2, x5_1⟩ : S52)) (k52_mkM _ _ _ (⟨x4_2, x5_1⟩ : S52) ) (fun _ hk => hk)
            have hx12_0 := hcc12 0 _ rfl
            (try simp only [show (k52).sz = 2 from rfl, Nat.mul_one, Nat.add_zero] at hx12_0)
            have hf12_0 := hfr12 0
            (try simp only [show (k52).sz = 2 from rfl, Nat.mul_one, Nat.add_zero] at hf12_0)
            have hx12_1 := hcc12 1 _ rfl
            (try simp only [show (k52).sz = 2 from rfl, Nat.mul_one, Nat.add_zero] at hx12_1)
            have hf12_1 := hfr12 1
            (try simp only [show (k52).sz = 2 from rfl, Nat.mul_one, Nat.add_zero] at hf12_1)
            clear hcl12 hcc12 hfr12 hM12
            go_wp2_with (first | ((with_reducible refine gate_store (t := 52) (p := 33) rfl ?_); refine store_event (t := 52) (p := 33) (v := ?vo_w13) (w1 := ((wr.setCell ⟨go11, (x6_2 : Int).toNat * 2, none⟩ (.int .i64 x4_2)).setCell ⟨go11, (x6_2 : Int).toNat * 2 + 1, none⟩ (.int .i64 x5_1))) ?hg ?ho ?hn ?hr ?_; (case ho => rfl); (case hg => rfl); (case hn => rfl); (case hr => first | (go_simp; done) | (go_simp; rfl)); intro w13 hw; have hg : wr.grownBy w13 (some go11) := (by rw [hw]; exact HP12.2); have hp_ : Kd.R k52 52 w13 w.heap.size (fun _ => True) (.slice (some ⟨go11, 0, none⟩) x3_2.length co11) y119 := (by rw [hw, Ny119.out]; exact HP12.1); clear HP12; have n0_ := Aside0.mk (hp_); have n1_ := Aside0.mk ((by rw [hw]; exact below_set (below_set (HB.out) GB11.out) GB11.out : Below w.heap.size w w13)); clear HO_3 HB; revert n0_ n1_; intro HO_3 HB; clear hg hw hp_))
            go_roundg k2
            case measure => have := HK1.out; have := HK2.out; omega
            case rel => exact ⟨(y119), (wrap64 (x4_2 + 1)), (wrap64 (x6_2 + 1)), (by first | rfl | (simp; done) | (simp [*]; done)), (by first | rfl | (simp; done) | (simp [*]; done)), H', ⟨by have := HK1.out; have := HK2.out; omega⟩, ⟨Ru HO_3⟩, ⟨Bu HB⟩⟩
           ·rw [if_neg c10] at H
            exact absurd H (by simp)
          ·rw [if_neg c9] at H
           have c9b0 : ((rd l0 x6_2) == x5_1) = false := beq_eq_false_iff_ne.mpr c9
           have c9b1 : ((rd l0 x6_2) != x5_1) = true := bne_iff_ne.mpr c9
           have H' := Aside0.mk H
           clear H
           have p118 : 0 ≤ (x6_2 : Int) := of_decide_eq_true (by first | (with_reducible assumption) | assumption)
           have q118 : x6_2 < (l0.length : Int) := of_decide_eq_true (by first | (with_reducible assumption) | assumption)
           obtain ⟨ad118, e118, hx118_0⟩ := Kd.at_int HR0.out x6_2 p118 q118
           cases e118
           replace hx118_0 := (HB.out.cell (World.block_lt_of_cell? w _ hx118_0)).trans hx118_0
           replace p118 := eq_true p118
           replace q118 := eq_true q118
           go_wp2
           go_roundg k2
           case measure => have := HK1.out; have := HK2.out; omega
           case rel => exact ⟨(x3_2), (x4_2), (wrap64 (x6_2 + 1)), (by first | rfl | (simp; done) | (simp [*]; done)), (by first | rfl | (simp; done) | (simp [*]; done)), H', ⟨by have := HK1.out; have := HK2.out; omega⟩, ⟨Ru HO_3⟩, ⟨Bu HB⟩⟩
         ·rw [if_neg c8] at H
          exact absurd H (by simp)
        ·rw [if_neg c7] at H
         have c7b0 : decide (x6_2 < (l0.length : Int)) = false := decide_eq_false c7
         clear c7
         have H' := Aside0.mk H
         clear H
         go_wp2
         go_roundg k2
         case measure => have := HK1.out; have := HK2.out; omega
         case rel => exact ⟨(x3_2), (x4_2), (wrap64 (x5_1 + 1)), (by first | rfl | (simp; done) | (simp [*]; done)), (by first | rfl | (simp; done) | (simp [*]; done)), H', ⟨by have := HK1.out; have := HK2.out; omega⟩, ⟨Ru HO_3⟩, ⟨Bu HB⟩⟩
     ·rw [if_neg c6] at H
      have c6b0 : decide (x5_1 ≤ 15) = false := decide_eq_false c6
      clear c6
      obtain rfl := Option.some.inj H
      go_wp2
      go_ret
      exact ⟨_, rfl_, Ru HO_3, Bu HB⟩
  ·rw [if_neg c3] at H
   exact absurd H (by simp)
 ·rw [if_neg c2] at H
  exact absurd H (by simp)

/-! ### lanyardref04_word: function 23 -/
def lanyardref04_word.l0 : Nat → List Int → List Int → Int → Int → Int → Int → Option (List Int)
 | 0, _, _, _, _, _, _ => none
 | k + 1, x0, x5, x6, x7, x121000, x121001 => if x7 < x121001 then ((some (([Int.tmod x6 2] : List Int) : List Int)).bind fun y121 => (if y121.length + x5.length < 17592186044416 then (lanyardref04_word.l0 k x0 (y121 ++ x5) (wrap64 (Int.tdiv x6 2)) (wrap64 (x7 + 1)) x121000 x121001) else (none))) else (if x0.length + x5.length < 17592186044416 then (some (x0 ++ x5)) else (none))
def lanyardref04_word.f (k : Nat) (l0 : List Int) (a1_0 : Int) (a1_1 : Int) : Option (List Int) := lanyardref04_word.l0 k l0 ([] : List Int) a1_0 0 a1_0 a1_1
theorem lanyardref04_word.mono_l : ∀ k, (∀ y0 y1 y2 y3 y4 y5, LeO (lanyardref04_word.l0 k y0 y1 y2 y3 y4 y5) (lanyardref04_word.l0 (k + 1) y0 y1 y2 y3 y4 y5))
 | 0 => fun _ _ _ _ _ _ r h => by simp [lanyardref04_word.l0] at h
 | k + 1 => by
  have ih0 := lanyardref04_word.mono_l k
  ·intro y0 y1 y2 y3 y4 y5
   unfold lanyardref04_word.l0
   repeat' first
   | (with_reducible exact ih0 _ _ _ _ _ _)
   | (with_reducible exact LeO.refl _)
   | (with_reducible exact LeO.none _)
   | (with_reducible refine LeO.ite ?_ ?_)
   | (with_reducible refine LeO.bind ?_ (fun _ => ?_))
   | exact ih0 _ _ _ _ _ _
   | exact LeO.none _
   | refine LeO.ite ?_ ?_
   | refine LeO.bind ?_ (fun _ => ?_)
theorem lanyardref04_word.mono : ∀ a0 a1 a2 k, LeO (lanyardref04_word.f k a0 a1 a2) (lanyardref04_word.f (k + 1) a0 a1 a2) := by
 intro a0 a1 a2 k
 have ih0 := lanyardref04_word.mono_l k
 unfold lanyardref04_word.f
 repeat' first
   | (with_reducible exact ih0 _ _ _ _ _ _)
   | (with_reducible exact LeO.refl _)
   | (with_reducible exact LeO.none _)
   | (with_reducible refine LeO.ite ?_ ?_)
   | (with_reducible refine LeO.bind ?_ (fun _ => ?_))
   | exact ih0 _ _ _ _ _ _
   | exact LeO.none _
   | refine LeO.ite ?_ ?_
   | refine LeO.bind ?_ (fun _ => ?_)
set_option maxHeartbeats 8000000 in
set_option maxRecDepth 100000 in
theorem lanyardref04_word.calls (k : Nat) (P0_ : Nat → Prop) (u9000_ : Value) (l0 : List Int) (a1_0 : Int) (a1_1 : Int) (r : List Int) (w0 w : World) (hB : Below w0.heap.size w0 w) (ho0 : Kd.R (Kd.int .i64) 3 w w0.heap.size P0_ u9000_ l0) (h : lanyardref04_word.f k l0 a1_0 a1_1 = some r) :
  Calls Try.prog 23 #[u9000_, .agg #[.int .i64 a1_0, .int .i64 a1_1]] w fun e w' => ∃ v0_ : Value, e = .returned (v0_) ∧ Kd.R (Kd.int .i64) 3 w' w0.heap.size (fun k_ => (P0_ k_ ∨ w.heap.size ≤ k_)) v0_ r ∧ Below w0.heap.size w0 w' ∧ Kept w w' (fun k_ => P0_ k_) := by
 have hu52 := Try.underlying52
 have HO0 := Aside0.mk (show Kd.R (Kd.int .i64) 3 w w0.heap.size (fun k_ => (P0_ k_ ∨ w.heap.size ≤ k_)) u9000_ l0 from Kd.R_mono ho0 (fun k_ hk => (.inl hk)))
 have HK := Aside0.mk (Kept.refl w (fun k_ => P0_ k_))
 have HW0 := Aside0.mk hB.size
 have HB := Aside0.mk hB
 clear hB
 have H : (lanyardref04_word.l0 k l0 ([] : List Int) a1_0 0 a1_0 a1_1) = some r := h
 clear h
 have H' := Aside0.mk H
 clear H
 go_enter Try.func23, Try.ntmps23
 go_wp2_with (first | ((with_reducible refine gate_dst (N := 3) rfl ?_); refine box_event ?hg (N := 3) ?hd (cs := #[.int .i64 a1_0, .int .i64 a1_1]) (t := 52) ?hr ?_; (case hd => rfl); (case hg => rfl); (case hr => first | (go_simp; done) | (go_simp; rfl)); intro gb120 hg w3 hbox hb; have n0_ := Rb HO0 hb; have n1_ := Aside0.mk (Kept.below (S := (fun k_ => P0_ k_)) (by repeat (first | (with_reducible first | exact HK.out | apply Kept.alloc | apply Kept.drewN | apply Kept.drew) | exact HK.out)) hb); have n2_ := Bs HB hb; have n3_ := Aside0.mk (hbox); have n4_ := Aside0.mk ((by rw [hg]; exact (by first | exact HK.out.1 | exact (show Kept w _ (fun k_ => P0_ k_) from by repeat (first | (with_reducible first | exact HK.out | apply Kept.alloc | apply Kept.drewN | apply Kept.drew) | exact HK.out)).1) : w.heap.size ≤ gb120)); have n5_ := Aside0.mk ((by rw [hg]; exact (Bz HB) : w0.heap.size ≤ gb120)); clear HO0; clear HK; clear HB; have HO0 := n0_; have HK := n1_; have HB := n2_; have BK120 := n3_; have GW120 := n4_; have GE120 := n5_; clear n0_ n1_ n2_ n3_ n4_ n5_; clear hb hbox hg; have hcz4_0 : w3.cell? ⟨gb120, 0, none⟩ = some (.int .i64 a1_0) := (blk_cell BK120.out 0).trans rfl; have hcz4_1 : w3.cell? ⟨gb120, 1, none⟩ = some (.int .i64 a1_1) := (blk_cell BK120.out 1).trans rfl; have hfz4_0 := blk_frozen BK120.out 0; have hfz4_1 := blk_frozen BK120.out 1))
 go_loopg [5, 6, 7] k (fun kq v5 v6 v7 w' => ∃ (x5_1 : List Int) (x6_1 : Int) (x7_1 : Int), v6 = .int .i64 x6_1 ∧ v7 = .int .i64 x7_1 ∧ Aside0 (lanyardref04_word.l0 kq l0 x5_1 x6_1 x7_1 a1_0 a1_1 = some r) ∧ Aside0 (kq ≤ k) ∧ Aside0 (Kd.R (Kd.int .i64) 3 w' w0.heap.size (fun k_ => (P0_ k_ ∨ w.heap.size ≤ k_) ∧ some k_ ≠ (v5 : Value).ownBlock) u9000_ l0) ∧ Aside0 (Kd.R (Kd.int .i64) 3 w' w0.heap.size (fun k_ => (P0_ k_ ∨ w.heap.size ≤ k_) ∧ some k_ ≠ (u9000_ : Value).ownBlock) v5 x5_1) ∧ Aside0 (w'.heap[gb120]? = some (.cells #[.int .i64 a1_0, .int .i64 a1_1] 52 (0, 0))) ∧ Aside0 (Kept w w' (fun k_ => P0_ k_)) ∧ Aside0 (Below w0.heap.size w0 w'))
 case atStart => exact ⟨(([] : List Int)), (a1_0), (0), (by first | rfl | (simp; done) | (simp [*]; done)), (by first | rfl | (simp; done) | (simp [*]; done)), H', ⟨Nat.le_refl _⟩, ⟨by (with_reducible repeat (first | apply Kd.R_alloc | apply Kd.R_drewN | apply Kd.R_drew)); exact Kd.R_mono HO0.out (fun _ hk => ⟨hk, (by simp [Value.ownBlock])⟩)⟩, ⟨by first | exact Kd.R_nil _ _ _ _ _ | exact Kd.N_nil _ _ _ _ _ | exact Kd.V_nil _ _ _ _ _ | exact Kd.Q_nil _ _ _ _ _ | exact Kd.S_nil _ _ _ _ _⟩, ⟨by (with_reducible repeat (first | refine blk_drewN ?_ _ | refine blk_drew ?_ | refine blk_alloc ?_ _)); exact BK120.out⟩, ⟨by repeat (first | (with_reducible first | exact HK.out | apply Kept.alloc | apply Kept.drewN | apply Kept.drew | refine Kept.setCell ?_ (.inr GW120.out) _) | exact HK.out)⟩, ⟨by repeat (first | (with_reducible first | exact HB.out | apply below_alloc | apply pw_below_drewN | apply below_drew1 | refine below_set ?_ GE120.out) | exact HB.out)⟩⟩
 case round =>
  clear H'
  try clear c2
  try clear p2
  try clear hcz4_0
  try clear hcz4_1
  try clear hfz4_0
  try clear hfz4_1
  obtain ⟨x5_1, x6_1, x7_1, rfl, rfl, HA, HK1, HO_0, HO_5, BK120, HK, HB⟩ := hrel
  cases gk with
  | zero => exact absurd HA.out (by simp [lanyardref04_word.l0])
  | succ k1 =>
   have H := HA.out
   clear HA
   simp only [lanyardref04_word.l0] at H
   by_cases c5 : x7_1 < a1_1
   ·rw [if_pos c5] at H
    have c5b0 : decide (x7_1 < a1_1) = true := decide_eq_true c5
    clear c5
    obtain ⟨y121, hy121⟩ : ∃ y_ : List Int, y_ = (([Int.tmod x6_1 2] : List Int)) := ⟨_, rfl⟩
    replace H : (if y121.length + x5_1.length < 17592186044416 then (lanyardref04_word.l0 k1 l0 (y121 ++ x5_1) (wrap64 (Int.tdiv x6_1 2)) (wrap64 (x7_1 + 1)) a1_0 a1_1) else (none)) = some r := by first | (rw [hy121]; with_reducible exact H) | (have H2_ := (Option.bind_some _ _).symm.trans H; rw [hy121]; with_reducible exact H2_) | (have H2_ := (Option.bind_some _ _).symm.trans H; with_reducible exact H2_) | with_reducible exact H | (rw [hy121]; exact H) | exact H
    have Ny121 := Aside0.mk hy121
    clear hy121
    by_cases c6 : y121.length + x5_1.length < 17592186044416
    ·rw [if_pos c6] at H
     have LMc6 := Aside0.mk c6
     clear c6
     obtain ⟨y124, hy124⟩ : ∃ y_ : List Int, y_ = (y121 ++ x5_1) := ⟨_, rfl⟩
     replace H : (lanyardref04_word.l0 k1 l0 y124 (wrap64 (Int.tdiv x6_1 2)) (wrap64 (x7_1 + 1)) a1_0 a1_1) = some r := by first | (rw [hy124]; with_reducible exact H) | (have H2_ := (Option.bind_some _ _).symm.trans H; rw [hy124]; with_reducible exact H2_) | (have H2_ := (Option.bind_some _ _).symm.trans H; with_reducible exact H2_) | with_reducible exact H | (rw [hy124]; exact H) | exact H
     have Ny124 := Aside0.mk hy124
     clear hy124
     have H' := Aside0.mk H
     clear H
     have hcz7_0 : wr.cell? ⟨gb120, 0, none⟩ = some (.int .i64 a1_0) := (blk_cell BK120.out 0).trans rfl
     have hcz7_1 : wr.cell? ⟨gb120, 1, none⟩ = some (.int .i64 a1_1) := (blk_cell BK120.out 1).trans rfl
     have hfz7_0 := blk_frozen BK120.out 0
     have hfz7_1 := blk_frozen BK120.out 1
     go_wp2_with (first | ((with_reducible refine gate_dst (N := 18) rfl ?_); refine Kd.R_lit (Kd.int .i64) _ 3 ?hg (N := 18) ?hd (xs := ([Int.tmod x6_1 2] : List Int)) (inner := [.int .i64 (Int.tmod x6_1 2)]) (ok := fun _ => True) (okp := fun _ => True) ?hr ?hp (fun _ hk => hk) trivial (Below.refl _ _) (Nat.le_refl _) (by simp) ?_; (case hd => rfl); (case hg => rfl); (case hr => first | (go_simp; done) | (go_simp; rfl)); (case hp => exact (Reps.one (show Kd.M (Kd.int .i64) _ _ _ (Int.tmod x6_1 2) [.int .i64 (Int.tmod x6_1 2)] from rfl) (Reps.none _ _))); intro v122 w8 ho9 hb hg_ hnew_; clear hg_ hnew_; (first | rw [← Ny121.out] at ho9 | (simp only [Int.reduceToNat] at ho9; rw [← Ny121.out] at ho9)); have n0_ := Re HO_0 (Kd.R_base ho9) hb; have n1_ := Re HO_5 (Kd.R_base ho9) hb; have n2_ := Aside0.mk (Kd.R_lower (Kd.R_new' (Kd.R_new' (Kd.R_newM (M := fun k_ => (P0_ k_ ∨ w.heap.size ≤ k_)) ho9 (by first | exact HK.out.1 | exact (show Kept w _ (fun k_ => P0_ k_) from by repeat (first | (with_reducible first | exact HK.out | apply Kept.alloc | apply Kept.drewN | apply Kept.drew | refine Kept.setCell ?_ (.inr GW120.out) _) | exact HK.out)).1) (fun k_ h_ => .inr h_)) (Kd.R_lt (Ru HO_0))) (Kd.R_lt (Ru HO_5))) (below_size (by repeat (first | (with_reducible first | exact HB.out | apply below_alloc | apply pw_below_drewN | apply below_drew1 | refine below_set ?_ GE120.out) | exact HB.out)))); have n3_ := Aside0.mk (blk_below (g := gb120) (o := .cells #[.int .i64 a1_0, .int .i64 a1_1] 52 (0, 0)) (by (with_reducible repeat (first | refine blk_drewN ?_ _ | refine blk_drew ?_ | refine blk_alloc ?_ _)); exact BK120.out) hb); have n4_ := Aside0.mk (Kept.below (S := (fun k_ => P0_ k_)) (by repeat (first | (with_reducible first | exact HK.out | apply Kept.alloc | apply Kept.drewN | apply Kept.drew | refine Kept.setCell ?_ (.inr GW120.out) _) | exact HK.out)) hb); have n5_ := Aside0.mk (below_step (by repeat (first | (with_reducible first | exact HB.out | apply below_alloc | apply pw_below_drewN | apply below_drew1 | refine below_set ?_ GE120.out) | exact HB.out)) hb); clear HO_0; clear HO_5; clear BK120; clear HK; clear HB; have HO_0 := n0_; have HO_5 := n1_; have HO123 := n2_; have BK120 := n3_; have HK := n4_; have HB := n5_; clear n0_ n1_ n2_ n3_ n4_ n5_; clear hb ho9; obtain ⟨Ao11, co11, eo11⟩ := Kd.R_slice HO_5.out; subst eo11) | ((with_reducible refine gate_builtin (b := .append) (xs := #[.tmp 18, .tmp 19]) rfl ?_); at_builtin; refine Kd.R_append_rows (Kd.int .i64) (w0 := w0) w0.heap.size rfl (.tmp 18) (.tmp 19) 35 3 (.int .i64 0) 8 rfl Try.underlying35 info3 rfl (by decide) (by omega) v122 y121 x5_1 _ _ _ (fun k_ => (P0_ k_ ∨ w.heap.size ≤ k_) ∧ some k_ ≠ (u9000_ : Value).ownBlock ∧ some k_ ≠ (.slice Ao11 x5_1.length co11 : Value).ownBlock) (fun _ => False) rfl rfl ?aO ?aR (fun _ _ h => h) (fun _ h => h.elim) ?aF ?aB ?aS ?aL ?_; (case aR => repeat (first | exact (Kd.R_reads' HO_5.out).2.2 | (with_reducible refine Kd.C_alloc ?_ _) | (with_reducible refine Kd.C_drewN ?_ _) | (with_reducible refine Kd.C_drew ?_))); (case aB => exact (by repeat (first | (with_reducible first | exact HB.out | apply below_alloc | apply pw_below_drewN | apply below_drew1 | refine below_set ?_ GE120.out) | exact HB.out))); (case aF => exact (fun k_ hk => ⟨(.inr (Nat.le_trans (by first | exact HK.out.1 | exact (show Kept w _ (fun k_ => P0_ k_) from by repeat (first | (with_reducible first | exact HK.out | apply Kept.alloc | apply Kept.drewN | apply Kept.drew | refine Kept.setCell ?_ (.inr GW120.out) _) | exact HK.out)).1) hk)), Kd.fresh' (Kd.R_lt (Ru HO_0)) k_ hk, Kd.fresh' (Kd.R_lt (Ru HO_5)) k_ hk⟩)); (case aO => exact (by (with_reducible repeat (first | apply Kd.R_alloc | apply Kd.R_drewN | apply Kd.R_drew)); exact Kd.R_mono HO123.out (fun _ hk => ⟨hk.1.1.1, ⟨hk.1.2, hk.2⟩⟩))); (case aS => exact (below_size (by repeat (first | (with_reducible first | exact HB.out | apply below_alloc | apply pw_below_drewN | apply below_drew1 | refine below_set ?_ GE120.out) | exact HB.out)))); (case aL => have := LMc6.out; omega); intro v125 w10 ho hb hg hat; rw [← Ny124.out] at ho; have n0_ := Aside0.mk (Kd.R_after (ok := (fun k_ => (P0_ k_ ∨ w.heap.size ≤ k_) ∧ some k_ ≠ (.slice Ao11 x5_1.length co11 : Value).ownBlock)) (Ru HO_0) hg hat); have n1_ := Aside0.mk (Kd.R_after (ok := (fun k_ => (P0_ k_ ∨ w.heap.size ≤ k_) ∧ some k_ ≠ (u9000_ : Value).ownBlock)) (Ru HO_5) hg hat); have n2_ := Aside0.mk (blk_grown (g := gb120) (o := .cells #[.int .i64 a1_0, .int .i64 a1_1] 52 (0, 0)) (by (with_reducible repeat (first | refine blk_drewN ?_ _ | refine blk_drew ?_ | refine blk_alloc ?_ _)); exact BK120.out) hg (Kd.R_ne HO123.out BK120.out (by decide))); have n3_ := Aside0.mk (hb); have n4_ := Aside0.mk (Kept.of_grown (S := (fun k_ => P0_ k_)) hg (by repeat (first | (with_reducible first | exact HK.out | apply Kept.alloc | apply Kept.drewN | apply Kept.drew | refine Kept.setCell ?_ (.inr GW120.out) _) | exact HK.out)) (fun k_ e_ => (HO123.out.1 k_ e_).1.1.1)); have n5_ := Aside0.mk (ho); clear HO_0; clear HO_5; clear BK120; clear HB; clear HK; clear HO123; have HO_0 := n0_; have HO_5 := n1_; have BK120 := n2_; have HB := n3_; have HK := n4_; have HO126 := n5_; clear n0_ n1_ n2_ n3_ n4_ n5_; clear ho hb hg hat))
     go_roundg k1
     case measure => have := HK1.out; omega
     case rel => exact ⟨(y124), (wrap64 (Int.tdiv x6_1 2)), (wrap64 (x7_1 + 1)), (by first | rfl | (simp; done) | (simp [*]; done)), (by first | rfl | (simp; done) | (simp [*]; done)), H', ⟨by have := HK1.out; omega⟩, ⟨by (with_reducible repeat (first | apply Kd.R_alloc | apply Kd.R_drewN | apply Kd.R_drew)); exact Kd.R_mono HO_0.out (fun _ hk => ⟨hk.1.1, hk.2⟩)⟩, ⟨by (with_reducible repeat (first | apply Kd.R_alloc | apply Kd.R_drewN | apply Kd.R_drew)); exact Kd.R_mono HO126.out (fun _ hk => ⟨hk.1, hk.2.1⟩)⟩, ⟨by (with_reducible repeat (first | refine blk_drewN ?_ _ | refine blk_drew ?_ | refine blk_alloc ?_ _)); exact BK120.out⟩, ⟨by repeat (first | (with_reducible first | exact HK.out | apply Kept.alloc | apply Kept.drewN | apply Kept.drew | refine Kept.setCell ?_ (.inr GW120.out) _) | exact HK.out)⟩, ⟨by repeat (first | (with_reducible first | exact HB.out | apply below_alloc | apply pw_below_drewN | apply below_drew1 | refine below_set ?_ GE120.out) | exact HB.out)⟩⟩
    ·rw [if_neg c6] at H
     exact absurd H (by simp)
   ·rw [if_neg c5] at H
    have c5b0 : decide (x7_1 < a1_1) = false := decide_eq_false c5
    clear c5
    by_cases c12 : l0.length + x5_1.length < 17592186044416
    ·rw [if_pos c12] at H
     have LMc12 := Aside0.mk c12
     clear c12
     obtain ⟨y127, hy127⟩ : ∃ y_ : List Int, y_ = (l0 ++ x5_1) := ⟨_, rfl⟩
     replace H : (some y127) = some r := by first | (rw [hy127]; with_reducible exact H) | (have H2_ := (Option.bind_some _ _).symm.trans H; rw [hy127]; with_reducible exact H2_) | (have H2_ := (Option.bind_some _ _).symm.trans H; with_reducible exact H2_) | with_reducible exact H | (rw [hy127]; exact H) | exact H
     have Ny127 := Aside0.mk hy127
     clear hy127
     obtain rfl := Option.some.inj H
     have hcz13_0 : wr.cell? ⟨gb120, 0, none⟩ = some (.int .i64 a1_0) := (blk_cell BK120.out 0).trans rfl
     have hcz13_1 : wr.cell? ⟨gb120, 1, none⟩ = some (.int .i64 a1_1) := (blk_cell BK120.out 1).trans rfl
     have hfz13_0 := blk_frozen BK120.out 0
     have hfz13_1 := blk_frozen BK120.out 1
     obtain ⟨Ao15, co15, eo15⟩ := Kd.R_slice HO_5.out
     subst eo15
     go_wp2_with (first | ((with_reducible refine gate_builtin (b := .append) (xs := #[.tmp 23, .tmp 24]) rfl ?_); at_builtin; refine Kd.R_append_rows (Kd.int .i64) (w0 := w0) w0.heap.size rfl (.tmp 23) (.tmp 24) 35 3 (.int .i64 0) 8 rfl Try.underlying35 info3 rfl (by decide) (by omega) u9000_ l0 x5_1 _ _ _ (fun k_ => (P0_ k_ ∨ w.heap.size ≤ k_) ∧ some k_ ≠ (.slice Ao15 x5_1.length co15 : Value).ownBlock) (fun _ => False) rfl rfl ?aO ?aR (fun _ _ h => h) (fun _ h => h.elim) ?aF ?aB ?aS ?aL ?_; (case aR => repeat (first | exact (Kd.R_reads' HO_5.out).2.2 | (with_reducible refine Kd.C_alloc ?_ _) | (with_reducible refine Kd.C_drewN ?_ _) | (with_reducible refine Kd.C_drew ?_))); (case aB => exact (by repeat (first | (with_reducible first | exact HB.out | apply below_alloc | apply pw_below_drewN | apply below_drew1 | refine below_set ?_ GE120.out) | exact HB.out))); (case aF => exact (fun k_ hk => ⟨(.inr (Nat.le_trans (by first | exact HK.out.1 | exact (show Kept w _ (fun k_ => P0_ k_) from by repeat (first | (with_reducible first | exact HK.out | apply Kept.alloc | apply Kept.drewN | apply Kept.drew | refine Kept.setCell ?_ (.inr GW120.out) _) | exact HK.out)).1) hk)), Kd.fresh' (Kd.R_lt (Ru HO_5)) k_ hk⟩)); (case aO => exact (Ru HO_0)); (case aS => exact (below_size (by repeat (first | (with_reducible first | exact HB.out | apply below_alloc | apply pw_below_drewN | apply below_drew1 | refine below_set ?_ GE120.out) | exact HB.out)))); (case aL => have := LMc12.out; omega); intro v128 w14 ho hb hg hat; rw [← Ny127.out] at ho; have n0_ := Aside0.mk (Kd.R_after (ok := (fun k_ => (P0_ k_ ∨ w.heap.size ≤ k_))) (Ru HO_5) hg hat); have n1_ := Aside0.mk (blk_grown (g := gb120) (o := .cells #[.int .i64 a1_0, .int .i64 a1_1] 52 (0, 0)) (by (with_reducible repeat (first | refine blk_drewN ?_ _ | refine blk_drew ?_ | refine blk_alloc ?_ _)); exact BK120.out) hg (Kd.R_ne HO_0.out BK120.out (by decide))); have n2_ := Aside0.mk (hb); have n3_ := Aside0.mk (Kept.of_grown (S := (fun k_ => P0_ k_)) hg (by repeat (first | (with_reducible first | exact HK.out | apply Kept.alloc | apply Kept.drewN | apply Kept.drew | refine Kept.setCell ?_ (.inr GW120.out) _) | exact HK.out)) (fun k_ e_ => (HO_0.out.1 k_ e_).1)); have n4_ := Aside0.mk (ho); clear HO_5; clear BK120; clear HB; clear HK; clear HO_0; have HO_5 := n0_; have BK120 := n1_; have HB := n2_; have HK := n3_; have HO129 := n4_; clear n0_ n1_ n2_ n3_ n4_; clear ho hb hg hat))
     go_ret
     exact ⟨_, rfl_, by (with_reducible repeat (first | apply Kd.R_alloc | apply Kd.R_drewN | apply Kd.R_drew)); exact Kd.R_mono HO129.out (fun _ hk => hk.1), by repeat (first | (with_reducible first | exact HB.out | apply below_alloc | apply pw_below_drewN | apply below_drew1 | refine below_set ?_ GE120.out) | exact HB.out), by repeat (first | (with_reducible first | exact HK.out | apply Kept.alloc | apply Kept.drewN | apply Kept.drew | refine Kept.setCell ?_ (.inr GW120.out) _) | exact HK.out)⟩
    ·rw [if_neg c12] at H
     exact absurd H (by simp)

/-! ### lanyardref04_least: function 24 -/
def lanyardref04_least.f (a0 : Int) : Option (Int × Int) := (some (([3, 4, 5, 6, 7, 8, 9, 10, 11, 13, 15, 17, 19, 23, 27, 31, 35, 43, 51, 59, 67, 83, 99, 115, 131, 163, 195, 227, 258] : List Int) : List Int)).bind fun y130 => ((some (([0, 0, 0, 0, 0, 0, 0, 0, 1, 1, 1, 1, 2, 2, 2, 2, 3, 3, 3, 3, 4, 4, 4, 4, 5, 5, 5, 5, 0] : List Int) : List Int)).bind fun y133 => (if 0 ≤ (wrap64 (a0 - 257)) then (if (wrap64 (a0 - 257)) < (y130.length : Int) then (if (wrap64 (a0 - 257)) < (y133.length : Int) then (some (rd y130 (wrap64 (a0 - 257)), rd y133 (wrap64 (a0 - 257)))) else (none)) else (none)) else (none)))
set_option maxHeartbeats 8000000 in
set_option maxRecDepth 100000 in
theorem lanyardref04_least.calls (a0 : Int) (r1 : Int) (r2 : Int) (w : World) (h : lanyardref04_least.f a0 = some (r1, r2)) :
  Calls Try.prog 24 #[.int .i64 a0] w fun e w' => e = .returned (.tuple #[.int .i64 r1, .int .i64 r2]) ∧ Below w.heap.size w w' := by
 have HB := Aside0.mk (Below.refl w.heap.size w)
 have H : ((some (([3, 4, 5, 6, 7, 8, 9, 10, 11, 13, 15, 17, 19, 23, 27, 31, 35, 43, 51, 59, 67, 83, 99, 115, 131, 163, 195, 227, 258] : List Int) : List Int)).bind fun y130 => ((some (([0, 0, 0, 0, 0, 0, 0, 0, 1, 1, 1, 1, 2, 2, 2, 2, 3, 3, 3, 3, 4, 4, 4, 4, 5, 5, 5, 5, 0] : List Int) : List Int)).bind fun y133 => (if 0 ≤ (wrap64 (a0 - 257)) then (if (wrap64 (a0 - 257)) < (y130.length : Int) then (if (wrap64 (a0 - 257)) < (y133.length : Int) then (some (rd y130 (wrap64 (a0 - 257)), rd y133 (wrap64 (a0 - 257)))) else (none)) else (none)) else (none)))) = some (r1, r2) := h
 clear h
 obtain ⟨y130, hy130⟩ : ∃ y_ : List Int, y_ = (([3, 4, 5, 6, 7, 8, 9, 10, 11, 13, 15, 17, 19, 23, 27, 31, 35, 43, 51, 59, 67, 83, 99, 115, 131, 163, 195, 227, 258] : List Int)) := ⟨_, rfl⟩
 replace H : ((some (([0, 0, 0, 0, 0, 0, 0, 0, 1, 1, 1, 1, 2, 2, 2, 2, 3, 3, 3, 3, 4, 4, 4, 4, 5, 5, 5, 5, 0] : List Int) : List Int)).bind fun y133 => (if 0 ≤ (wrap64 (a0 - 257)) then (if (wrap64 (a0 - 257)) < (y130.length : Int) then (if (wrap64 (a0 - 257)) < (y133.length : Int) then (some (rd y130 (wrap64 (a0 - 257)), rd y133 (wrap64 (a0 - 257)))) else (none)) else (none)) else (none))) = some (r1, r2) := by first | (rw [hy130]; with_reducible exact H) | (have H2_ := (Option.bind_some _ _).symm.trans H; rw [hy130]; with_reducible exact H2_) | (have H2_ := (Option.bind_some _ _).symm.trans H; with_reducible exact H2_) | with_reducible exact H | (rw [hy130]; exact H) | exact H
 have Ny130 := Aside0.mk hy130
 clear hy130
 obtain ⟨y133, hy133⟩ : ∃ y_ : List Int, y_ = (([0, 0, 0, 0, 0, 0, 0, 0, 1, 1, 1, 1, 2, 2, 2, 2, 3, 3, 3, 3, 4, 4, 4, 4, 5, 5, 5, 5, 0] : List Int)) := ⟨_, rfl⟩
 replace H : (if 0 ≤ (wrap64 (a0 - 257)) then (if (wrap64 (a0 - 257)) < (y130.length : Int) then (if (wrap64 (a0 - 257)) < (y133.length : Int) then (some (rd y130 (wrap64 (a0 - 257)), rd y133 (wrap64 (a0 - 257)))) else (none)) else (none)) else (none)) = some (r1, r2) := by first | (rw [hy133]; with_reducible exact H) | (have H2_ := (Option.bind_some _ _).symm.trans H; rw [hy133]; with_reducible exact H2_) | (have H2_ := (Option.bind_some _ _).symm.trans H; with_reducible exact H2_) | with_reducible exact H | (rw [hy133]; exact H) | exact H
 have Ny133 := Aside0.mk hy133
 clear hy133
 obtain ⟨ji2, hji2⟩ : ∃ j_ : Int, (wrap64 (a0 - 257)) = j_ := ⟨_, rfl⟩
 replace H : (if 0 ≤ (ji2) then (if (ji2) < (y130.length : Int) then (if (ji2) < (y133.length : Int) then (some (rd y130 (ji2), rd y133 (ji2))) else (none)) else (none)) else (none)) = some (r1, r2) := by first | (rw [hji2] at H; exact H) | (simp only [hji2] at H ⊢; exact H)
 have hji2w : (IntKind.i64.wrap (a0 - 257)) = ji2 := (i64_w _).trans hji2
 by_cases c3 : 0 ≤ (ji2)
 ·rw [if_pos c3] at H
  have c3b0 : decide (0 ≤ (ji2)) = true := decide_eq_true c3
  clear c3
  by_cases c4 : (ji2) < (y130.length : Int)
  ·rw [if_pos c4] at H
   have c4b0 : decide ((ji2) < (y130.length : Int)) = true := decide_eq_true c4
   clear c4
   by_cases c5 : (ji2) < (y133.length : Int)
   ·rw [if_pos c5] at H
    have c5b0 : decide ((ji2) < (y133.length : Int)) = true := decide_eq_true c5
    clear c5
    simp only [Option.some.injEq, Prod.mk.injEq] at H
    obtain ⟨rfl, rfl⟩ := H
    go_enter Try.func24, Try.ntmps24
    go_wp2_with (first | ((with_reducible refine gate_dst (N := 6) rfl ?_); refine litI .i64 3 6 [3, 4, 5, 6, 7, 8, 9, 10, 11, 13, 15, 17, 19, 23, 27, 31, 35, 43, 51, 59, 67, 83, 99, 115, 131, 163, 195, 227, 258] [.int .i64 3, .int .i64 4, .int .i64 5, .int .i64 6, .int .i64 7, .int .i64 8, .int .i64 9, .int .i64 10, .int .i64 11, .int .i64 13, .int .i64 15, .int .i64 17, .int .i64 19, .int .i64 23, .int .i64 27, .int .i64 31, .int .i64 35, .int .i64 43, .int .i64 51, .int .i64 59, .int .i64 67, .int .i64 83, .int .i64 99, .int .i64 115, .int .i64 131, .int .i64 163, .int .i64 195, .int .i64 227, .int .i64 258] ?hr ?_; (case hr => first | (go_simp; done) | (go_simp; rfl)); intro v131 w6 ho7 hb; (first | rw [← Ny130.out] at ho7 | (simp only [Int.reduceToNat] at ho7; rw [← Ny130.out] at ho7)); have n0_ := Aside0.mk (Kd.R_lower ho7 (Bz HB)); have n1_ := Bs HB hb; clear HB; revert n0_ n1_; intro HO132 HB; clear hb ho7) | ((with_reducible refine gate_dst (N := 7) rfl ?_); refine litI .i64 3 7 [0, 0, 0, 0, 0, 0, 0, 0, 1, 1, 1, 1, 2, 2, 2, 2, 3, 3, 3, 3, 4, 4, 4, 4, 5, 5, 5, 5, 0] [.int .i64 0, .int .i64 0, .int .i64 0, .int .i64 0, .int .i64 0, .int .i64 0, .int .i64 0, .int .i64 0, .int .i64 1, .int .i64 1, .int .i64 1, .int .i64 1, .int .i64 2, .int .i64 2, .int .i64 2, .int .i64 2, .int .i64 3, .int .i64 3, .int .i64 3, .int .i64 3, .int .i64 4, .int .i64 4, .int .i64 4, .int .i64 4, .int .i64 5, .int .i64 5, .int .i64 5, .int .i64 5, .int .i64 0] ?hr ?_; (case hr => first | (go_simp; done) | (go_simp; rfl)); intro v134 w8 ho9 hb; (first | rw [← Ny133.out] at ho9 | (simp only [Int.reduceToNat] at ho9; rw [← Ny133.out] at ho9)); have n0_ := Re HO132 (Kd.R_base ho9) hb; have n1_ := Aside0.mk (Kd.R_lower (Kd.R_new' ho9 (Kd.R_lt (Ru HO132))) (Bz HB)); have n2_ := Bs HB hb; clear HO132 HB; revert n0_ n1_ n2_; intro HO132 HO135 HB; clear hb ho9; obtain ⟨Ao10, co10, eo10⟩ := Kd.R_slice HO132.out; subst eo10; have p136 : 0 ≤ ((ji2) : Int) := of_decide_eq_true (by first | (with_reducible assumption) | assumption); have q136 : (ji2) < (y130.length : Int) := of_decide_eq_true (by first | (with_reducible assumption) | assumption); obtain ⟨ad136, e136, hx136_0⟩ := Kd.at_int (Kd.R_reads' HO132.out).2.2 (ji2) p136 q136; cases e136; replace p136 := eq_true p136; replace q136 := eq_true q136; obtain ⟨Ao11, co11, eo11⟩ := Kd.R_slice HO135.out; subst eo11; have p137 : 0 ≤ ((ji2) : Int) := of_decide_eq_true (by first | (with_reducible assumption) | assumption); have q137 : (ji2) < (y133.length : Int) := of_decide_eq_true (by first | (with_reducible assumption) | assumption); obtain ⟨ad137, e137, hx137_0⟩ := Kd.at_int (Kd.R_reads' HO135.out).2.2 (ji2) p137 q137; cases e137; replace p137 := eq_true p137; replace q137 := eq_true q137))
    repeat (go_quiet (first | ((with_reducible refine gate_dst (N := 6) rfl ?_); refine litI .i64 3 6 [3, 4, 5, 6, 7, 8, 9, 10, 11, 13, 15, 17, 19, 23, 27, 31, 35, 43, 51, 59, 67, 83, 99, 115, 131, 163, 195, 227, 258] [.int .i64 3, .int .i64 4, .int .i64 5, .int .i64 6, .int .i64 7, .int .i64 8, .int .i64 9, .int .i64 10, .int .i64 11, .int .i64 13, .int .i64 15, .int .i64 17, .int .i64 19, .int .i64 23, .int .i64 27, .int .i64 31, .int .i64 35, .int .i64 43, .int .i64 51, .int .i64 59, .int .i64 67, .int .i64 83, .int .i64 99, .int .i64 115, .int .i64 131, .int .i64 163, .int .i64 195, .int .i64 227, .int .i64 258] ?hr ?_; (case hr => first | (go_simp; done) | (go_simp; rfl)); intro v131 w6 ho7 hb; (first | rw [← Ny130.out] at ho7 | (simp only [Int.reduceToNat] at ho7; rw [← Ny130.out] at ho7)); have n0_ := Aside0.mk (Kd.R_lower ho7 (Bz HB)); have n1_ := Bs HB hb; clear HB; revert n0_ n1_; intro HO132 HB; clear hb ho7) | ((with_reducible refine gate_dst (N := 7) rfl ?_); refine litI .i64 3 7 [0, 0, 0, 0, 0, 0, 0, 0, 1, 1, 1, 1, 2, 2, 2, 2, 3, 3, 3, 3, 4, 4, 4, 4, 5, 5, 5, 5, 0] [.int .i64 0, .int .i64 0, .int .i64 0, .int .i64 0, .int .i64 0, .int .i64 0, .int .i64 0, .int .i64 0, .int .i64 1, .int .i64 1, .int .i64 1, .int .i64 1, .int .i64 2, .int .i64 2, .int .i64 2, .int .i64 2, .int .i64 3, .int .i64 3, .int .i64 3, .int .i64 3, .int .i64 4, .int .i64 4, .int .i64 4, .int .i64 4, .int .i64 5, .int .i64 5, .int .i64 5, .int .i64 5, .int .i64 0] ?hr ?_; (case hr => first | (go_simp; done) | (go_simp; rfl)); intro v134 w8 ho9 hb; (first | rw [← Ny133.out] at ho9 | (simp only [Int.reduceToNat] at ho9; rw [← Ny133.out] at ho9)); have n0_ := Re HO132 (Kd.R_base ho9) hb; have n1_ := Aside0.mk (Kd.R_lower (Kd.R_new' ho9 (Kd.R_lt (Ru HO132))) (Bz HB)); have n2_ := Bs HB hb; clear HO132 HB; revert n0_ n1_ n2_; intro HO132 HO135 HB; clear hb ho9; obtain ⟨Ao10, co10, eo10⟩ := Kd.R_slice HO132.out; subst eo10; have p136 : 0 ≤ ((ji2) : Int) := of_decide_eq_true (by first | (with_reducible assumption) | assumption); have q136 : (ji2) < (y130.length : Int) := of_decide_eq_true (by first | (with_reducible assumption) | assumption); obtain ⟨ad136, e136, hx136_0⟩ := Kd.at_int (Kd.R_reads' HO132.out).2.2 (ji2) p136 q136; cases e136; replace p136 := eq_true p136; replace q136 := eq_true q136; obtain ⟨Ao11, co11, eo11⟩ := Kd.R_slice HO135.out; subst eo11; have p137 : 0 ≤ ((ji2) : Int) := of_decide_eq_true (by first | (with_reducible assumption) | assumption); have q137 : (ji2) < (y133.length : Int) := of_decide_eq_true (by first | (with_reducible assumption) | assumption); obtain ⟨ad137, e137, hx137_0⟩ := Kd.at_int (Kd.R_reads' HO135.out).2.2 (ji2) p137 q137; cases e137; replace p137 := eq_true p137; replace q137 := eq_true q137)); try go_wp2_with (first | ((with_reducible refine gate_dst (N := 6) rfl ?_); refine litI .i64 3 6 [3, 4, 5, 6, 7, 8, 9, 10, 11, 13, 15, 17, 19, 23, 27, 31, 35, 43, 51, 59, 67, 83, 99, 115, 131, 163, 195, 227, 258] [.int .i64 3, .int .i64 4, .int .i64 5, .int .i64 6, .int .i64 7, .int .i64 8, .int .i64 9, .int .i64 10, .int .i64 11, .int .i64 13, .int .i64 15, .int .i64 17, .int .i64 19, .int .i64 23, .int .i64 27, .int .i64 31, .int .i64 35, .int .i64 43, .int .i64 51, .int .i64 59, .int .i64 67, .int .i64 83, .int .i64 99, .int .i64 115, .int .i64 131, .int .i64 163, .int .i64 195, .int .i64 227, .int .i64 258] ?hr ?_; (case hr => first | (go_simp; done) | (go_simp; rfl)); intro v131 w6 ho7 hb; (first | rw [← Ny130.out] at ho7 | (simp only [Int.reduceToNat] at ho7; rw [← Ny130.out] at ho7)); have n0_ := Aside0.mk (Kd.R_lower ho7 (Bz HB)); have n1_ := Bs HB hb; clear HB; revert n0_ n1_; intro HO132 HB; clear hb ho7) | ((with_reducible refine gate_dst (N := 7) rfl ?_); refine litI .i64 3 7 [0, 0, 0, 0, 0, 0, 0, 0, 1, 1, 1, 1, 2, 2, 2, 2, 3, 3, 3, 3, 4, 4, 4, 4, 5, 5, 5, 5, 0] [.int .i64 0, .int .i64 0, .int .i64 0, .int .i64 0, .int .i64 0, .int .i64 0, .int .i64 0, .int .i64 0, .int .i64 1, .int .i64 1, .int .i64 1, .int .i64 1, .int .i64 2, .int .i64 2, .int .i64 2, .int .i64 2, .int .i64 3, .int .i64 3, .int .i64 3, .int .i64 3, .int .i64 4, .int .i64 4, .int .i64 4, .int .i64 4, .int .i64 5, .int .i64 5, .int .i64 5, .int .i64 5, .int .i64 0] ?hr ?_; (case hr => first | (go_simp; done) | (go_simp; rfl)); intro v134 w8 ho9 hb; (first | rw [← Ny133.out] at ho9 | (simp only [Int.reduceToNat] at ho9; rw [← Ny133.out] at ho9)); have n0_ := Re HO132 (Kd.R_base ho9) hb; have n1_ := Aside0.mk (Kd.R_lower (Kd.R_new' ho9 (Kd.R_lt (Ru HO132))) (Bz HB)); have n2_ := Bs HB hb; clear HO132 HB; revert n0_ n1_ n2_; intro HO132 HO135 HB; clear hb ho9; obtain ⟨Ao10, co10, eo10⟩ := Kd.R_slice HO132.out; subst eo10; have p136 : 0 ≤ ((ji2) : Int) := of_decide_eq_true (by first | (with_reducible assumption) | assumption); have q136 : (ji2) < (y130.length : Int) := of_decide_eq_true (by first | (with_reducible assumption) | assumption); obtain ⟨ad136, e136, hx136_0⟩ := Kd.at_int (Kd.R_reads' HO132.out).2.2 (ji2) p136 q136; cases e136; replace p136 := eq_true p136; replace q136 := eq_true q136; obtain ⟨Ao11, co11, eo11⟩ := Kd.R_slice HO135.out; subst eo11; have p137 : 0 ≤ ((ji2) : Int) := of_decide_eq_true (by first | (with_reducible assumption) | assumption); have q137 : (ji2) < (y133.length : Int) := of_decide_eq_true (by first | (with_reducible assumption) | assumption); obtain ⟨ad137, e137, hx137_0⟩ := Kd.at_int (Kd.R_reads' HO135.out).2.2 (ji2) p137 q137; cases e137; replace p137 := eq_true p137; replace q137 := eq_true q137)))
    go_ret2
    exact ⟨by first | rfl | (simp [errW_none, errW_some] <;> rfl) | (simp only [← hji2]; first | rfl | (simp [errW_none, errW_some] <;> rfl)) | (simp [*, errW_none, errW_some] <;> rfl), Bu HB⟩
   ·rw [if_neg c5] at H
    exact absurd H (by simp)
  ·rw [if_neg c4] at H
   exact absurd H (by simp)
 ·rw [if_neg c3] at H
  exact absurd H (by simp)

/-! ### lanyardref04_num: function 25 -/
def lanyardref04_num.l0 : Nat → List Int → Int → Int → Int → Option (List Int)
 | 0, _, _, _, _ => none
 | k + 1, x0, x1, x2, x7 => if x7 < x2 then (if x0.length < 17592186044416 then (lanyardref04_num.l0 k (x0 ++ [Int.tmod x1 2]) (wrap64 (Int.tdiv x1 2)) x2 (wrap64 (x7 + 1))) else (none)) else (some x0)
def lanyardref04_num.f (k : Nat) (l0 : List Int) (a1 : Int) (a2 : Int) : Option (List Int) := lanyardref04_num.l0 k l0 a1 a2 0
theorem lanyardref04_num.mono_l : ∀ k, (∀ y0 y1 y2 y3, LeO (lanyardref04_num.l0 k y0 y1 y2 y3) (lanyardref04_num.l0 (k + 1) y0 y1 y2 y3))
 | 0 => fun _ _ _ _ r h => by simp [lanyardref04_num.l0] at h
 | k + 1 => by
  have ih0 := lanyardref04_num.mono_l k
  ·intro y0 y1 y2 y3
   unfold lanyardref04_num.l0
   repeat' first
   | (with_reducible exact ih0 _ _ _ _)
   | (with_reducible exact LeO.refl _)
   | (with_reducible exact LeO.none _)
   | (with_reducible refine LeO.ite ?_ ?_)
   | (with_reducible refine LeO.bind ?_ (fun _ => ?_))
   | exact ih0 _ _ _ _
   | exact LeO.none _
   | refine LeO.ite ?_ ?_
   | refine LeO.bind ?_ (fun _ => ?_)
theorem lanyardref04_num.mono : ∀ a0 a1 a2 k, LeO (lanyardref04_num.f k a0 a1 a2) (lanyardref04_num.f (k + 1) a0 a1 a2) := by
 intro a0 a1 a2 k
 have ih0 := lanyardref04_num.mono_l k
 unfold lanyardref04_num.f
 repeat' first
   | (with_reducible exact ih0 _ _ _ _)
   | (with_reducible exact LeO.refl _)
   | (with_reducible exact LeO.none _)
   | (with_reducible refine LeO.ite ?_ ?_)
   | (with_reducible refine LeO.bind ?_ (fun _ => ?_))
   | exact ih0 _ _ _ _
   | exact LeO.none _
   | refine LeO.ite ?_ ?_
   | refine LeO.bind ?_ (fun _ => ?_)
set_option maxHeartbeats 8000000 in
set_option maxRecDepth 100000 in
theorem lanyardref04_num.calls (k : Nat) (P0_ : Nat → Prop) (u9000_ : Value) (l0 : List Int) (a1 : Int) (a2 : Int) (r : List Int) (w0 w : World) (hB : Below w0.heap.size w0 w) (ho0 : Kd.R (Kd.int .i64) 3 w w0.heap.size P0_ u9000_ l0) (h : lanyardref04_num.f k l0 a1 a2 = some r) :
  Calls Try.prog 25 #[u9000_, .int .i64 a1, .int .i64 a2] w fun e w' => ∃ v0_ : Value, e = .returned (v0_) ∧ Kd.R (Kd.int .i64) 3 w' w0.heap.size (fun k_ => (P0_ k_ ∨ w.heap.size ≤ k_)) v0_ r ∧ Below w0.heap.size w0 w' ∧ Kept w w' (fun k_ => P0_ k_) := by
 have HO0 := Aside0.mk (show Kd.R (Kd.int .i64) 3 w w0.heap.size (fun k_ => (P0_ k_ ∨ w.heap.size ≤ k_)) u9000_ l0 from Kd.R_mono ho0 (fun k_ hk => (.inl hk)))
 have HK := Aside0.mk (Kept.refl w (fun k_ => P0_ k_))
 have HW0 := Aside0.mk hB.size
 have HB := Aside0.mk hB
 clear hB
 have H : (lanyardref04_num.l0 k l0 a1 a2 0) = some r := h
 clear h
 have H' := Aside0.mk H
 clear H
 go_enter Try.func25, Try.ntmps25
 go_wp2
 go_loopg [0, 1, 7] k (fun kq v0 v1 v7 w' => ∃ (x0_1 : List Int) (x1_1 : Int) (x7_1 : Int), v1 = .int .i64 x1_1 ∧ v7 = .int .i64 x7_1 ∧ Aside0 (lanyardref04_num.l0 kq x0_1 x1_1 a2 x7_1 = some r) ∧ Aside0 (kq ≤ k) ∧ Aside0 (Kd.R (Kd.int .i64) 3 w' w0.heap.size (fun k_ => (P0_ k_ ∨ w.heap.size ≤ k_)) v0 x0_1) ∧ Aside0 (Kept w w' (fun k_ => P0_ k_)) ∧ Aside0 (Below w0.heap.size w0 w'))
 case atStart => exact ⟨(l0), (a1), (0), (by first | rfl | (simp; done) | (simp [*]; done)), (by first | rfl | (simp; done) | (simp [*]; done)), H', ⟨Nat.le_refl _⟩, ⟨Ru HO0⟩, ⟨by repeat (first | (with_reducible first | exact HK.out | apply Kept.alloc | apply Kept.drewN | apply Kept.drew) | exact HK.out)⟩, ⟨Bu HB⟩⟩
 case round =>
  clear H'
  try clear c2
  try clear p2
  obtain ⟨x0_1, x1_1, x7_1, rfl, rfl, HA, HK1, HO_0, HK, HB⟩ := hrel
  cases gk with
  | zero => exact absurd HA.out (by simp [lanyardref04_num.l0])
  | succ k1 =>
   have H := HA.out
   clear HA
   simp only [lanyardref04_num.l0] at H
   by_cases c4 : x7_1 < a2
   ·rw [if_pos c4] at H
    have c4b0 : decide (x7_1 < a2) = true := decide_eq_true c4
    clear c4
    by_cases c5 : x0_1.length < 17592186044416
    ·rw [if_pos c5] at H
     have LMc5 := Aside0.mk c5
     clear c5
     obtain ⟨y138, hy138⟩ : ∃ y_ : List Int, y_ = (x0_1 ++ [Int.tmod x1_1 2]) := ⟨_, rfl⟩
     replace H : (lanyardref04_num.l0 k1 y138 (wrap64 (Int.tdiv x1_1 2)) a2 (wrap64 (x7_1 + 1))) = some r := by first | (rw [hy138]; with_reducible exact H) | (have H2_ := (Option.bind_some _ _).symm.trans H; rw [hy138]; with_reducible exact H2_) | (have H2_ := (Option.bind_some _ _).symm.trans H; with_reducible exact H2_) | with_reducible exact H | (rw [hy138]; exact H) | exact H
     have Ny138 := Aside0.mk hy138
     clear hy138
     have H' := Aside0.mk H
     clear H
     go_wp2_with (first | ((with_reducible refine gate_builtin (b := .append) (xs := #[.tmp 13, .tmp 16]) rfl ?_); at_builtin; refine Kd.R_append (Kd.int .i64) (w0 := w0) w0.heap.size rfl (.tmp 13) (.tmp 16) 35 3 (.int .i64 0) 8 rfl Try.underlying35 info3 rfl (by decide) (by omega) u0 x0_1 (Int.tmod x1_1 2) [.int .i64 (Int.tmod x1_1 2)] (fun k_ => (P0_ k_ ∨ w.heap.size ≤ k_)) (fun _ => False) rfl rfl ?aP (fun _ hk => hk.elim) ?aF ?aO ?aB ?aS ?aL ?_; (case aP => exact rfl); (case aB => exact (Bu HB)); (case aF => exact (fun k_ hk => (.inr (Nat.le_trans (by first | exact HK.out.1 | exact (show Kept w _ (fun k_ => P0_ k_) from by repeat (first | (with_reducible first | exact HK.out | apply Kept.alloc | apply Kept.drewN | apply Kept.drew) | exact HK.out)).1) hk)))); (case aO => exact (Ru HO_0)); (case aS => exact (Bz HB)); (case aL => have := LMc5.out; omega); intro v139 w6 ho hb hg hat; rw [← Ny138.out] at ho; have n0_ := Aside0.mk (hb); have n1_ := Aside0.mk (Kept.of_grown (S := (fun k_ => P0_ k_)) hg (by repeat (first | (with_reducible first | exact HK.out | apply Kept.alloc | apply Kept.drewN | apply Kept.drew) | exact HK.out)) (fun k_ e_ => (HO_0.out.1 k_ e_))); have n2_ := Aside0.mk (ho); clear HB HK HO_0; revert n0_ n1_ n2_; intro HB HK HO140; clear ho hb hg hat))
     go_roundg k1
     case measure => have := HK1.out; omega
     case rel => exact ⟨(y138), (wrap64 (Int.tdiv x1_1 2)), (wrap64 (x7_1 + 1)), (by first | rfl | (simp; done) | (simp [*]; done)), (by first | rfl | (simp; done) | (simp [*]; done)), H', ⟨by have := HK1.out; omega⟩, ⟨Ru HO140⟩, ⟨by repeat (first | (with_reducible first | exact HK.out | apply Kept.alloc | apply Kept.drewN | apply Kept.drew) | exact HK.out)⟩, ⟨Bu HB⟩⟩
    ·rw [if_neg c5] at H
     exact absurd H (by simp)
   ·rw [if_neg c4] at H
    have c4b0 : decide (x7_1 < a2) = false := decide_eq_false c4
    clear c4
    obtain rfl := Option.some.inj H
    go_wp2
    go_ret
    exact ⟨_, rfl_, Ru HO_0, by repeat (first | (with_reducible first | exact HB.out | apply below_alloc | apply pw_below_drewN | apply below_drew1) | exact HB.out), by repeat (first | (with_reducible first | exact HK.out | apply Kept.alloc | apply Kept.drewN | apply Kept.drew) | exact HK.out)⟩

/-! ### lanyardref04_far: function 26 -/
def lanyardref04_far.f (a0 : Int) : Option (Int × Int) := (some (([1, 2, 3, 4, 5, 7, 9, 13, 17, 25, 33, 49, 65, 97, 129, 193, 257, 385, 513, 769, 1025, 1537, 2049, 3073, 4097, 6145, 8193, 12289, 16385, 24577] : List Int) : List Int)).bind fun y141 => ((some (([0, 0, 0, 0, 1, 1, 2, 2, 3, 3, 4, 4, 5, 5, 6, 6, 7, 7, 8, 8, 9, 9, 10, 10, 11, 11, 12, 12, 13, 13] : List Int) : List Int)).bind fun y144 => (if 0 ≤ a0 then (if a0 < (y141.length : Int) then (if a0 < (y144.length : Int) then (some (rd y141 a0, rd y144 a0)) else (none)) else (none)) else (none)))
set_option maxHeartbeats 8000000 in
set_option maxRecDepth 100000 in
theorem lanyardref04_far.calls (a0 : Int) (r1 : Int) (r2 : Int) (w : World) (h : lanyardref04_far.f a0 = some (r1, r2)) :
  Calls Try.prog 26 #[.int .i64 a0] w fun e w' => e = .returned (.tuple #[.int .i64 r1, .int .i64 r2]) ∧ Below w.heap.size w w' := by
 have HB := Aside0.mk (Below.refl w.heap.size w)
 have H : ((some (([1, 2, 3, 4, 5, 7, 9, 13, 17, 25, 33, 49, 65, 97, 129, 193, 257, 385, 513, 769, 1025, 1537, 2049, 3073, 4097, 6145, 8193, 12289, 16385, 24577] : List Int) : List Int)).bind fun y141 => ((some (([0, 0, 0, 0, 1, 1, 2, 2, 3, 3, 4, 4, 5, 5, 6, 6, 7, 7, 8, 8, 9, 9, 10, 10, 11, 11, 12, 12, 13, 13] : List Int) : List Int)).bind fun y144 => (if 0 ≤ a0 then (if a0 < (y141.length : Int) then (if a0 < (y144.length : Int) then (some (rd y141 a0, rd y144 a0)) else (none)) else (none)) else (none)))) = some (r1, r2) := h
 clear h
 obtain ⟨y141, hy141⟩ : ∃ y_ : List Int, y_ = (([1, 2, 3, 4, 5, 7, 9, 13, 17, 25, 33, 49, 65, 97, 129, 193, 257, 385, 513, 769, 1025, 1537, 2049, 3073, 4097, 6145, 8193, 12289, 16385, 24577] : List Int)) := ⟨_, rfl⟩
 replace H : ((some (([0, 0, 0, 0, 1, 1, 2, 2, 3, 3, 4, 4, 5, 5, 6, 6, 7, 7, 8, 8, 9, 9, 10, 10, 11, 11, 12, 12, 13, 13] : List Int) : List Int)).bind fun y144 => (if 0 ≤ a0 then (if a0 < (y141.length : Int) then (if a0 < (y144.length : Int) then (some (rd y141 a0, rd y144 a0)) else (none)) else (none)) else (none))) = some (r1, r2) := by first | (rw [hy141]; with_reducible exact H) | (have H2_ := (Option.bind_some _ _).symm.trans H; rw [hy141]; with_reducible exact H2_) | (have H2_ := (Option.bind_some _ _).symm.trans H; with_reducible exact H2_) | with_reducible exact H | (rw [hy141]; exact H) | exact H
 have Ny141 := Aside0.mk hy141
 clear hy141
 obtain ⟨y144, hy144⟩ : ∃ y_ : List Int, y_ = (([0, 0, 0, 0, 1, 1, 2, 2, 3, 3, 4, 4, 5, 5, 6, 6, 7, 7, 8, 8, 9, 9, 10, 10, 11, 11, 12, 12, 13, 13] : List Int)) := ⟨_, rfl⟩
 replace H : (if 0 ≤ a0 then (if a0 < (y141.length : Int) then (if a0 < (y144.length : Int) then (some (rd y141 a0, rd y144 a0)) else (none)) else (none)) else (none)) = some (r1, r2) := by first | (rw [hy144]; with_reducible exact H) | (have H2_ := (Option.bind_some _ _).symm.trans H; rw [hy144]; with_reducible exact H2_) | (have H2_ := (Option.bind_some _ _).symm.trans H; with_reducible exact H2_) | with_reducible exact H | (rw [hy144]; exact H) | exact H
 have Ny144 := Aside0.mk hy144
 clear hy144
 by_cases c2 : 0 ≤ a0
 ·rw [if_pos c2] at H
  have c2b0 : decide (0 ≤ a0) = true := decide_eq_true c2
  clear c2
  by_cases c3 : a0 < (y141.length : Int)
  ·rw [if_pos c3] at H
   have c3b0 : decide (a0 < (y141.length : Int)) = true := decide_eq_true c3
   clear c3
   by_cases c4 : a0 < (y144.length : Int)
   ·rw [if_pos c4] at H
    have c4b0 : decide (a0 < (y144.length : Int)) = true := decide_eq_true c4
    clear c4
    simp only [Option.some.injEq, Prod.mk.injEq] at H
    obtain ⟨rfl, rfl⟩ := H
    go_enter Try.func26, Try.ntmps26
    go_wp2_with (first | ((with_reducible refine gate_dst (N := 6) rfl ?_); refine litI .i64 3 6 [1, 2, 3, 4, 5, 7, 9, 13, 17, 25, 33, 49, 65, 97, 129, 193, 257, 385, 513, 769, 1025, 1537, 2049, 3073, 4097, 6145, 8193, 12289, 16385, 24577] [.int .i64 1, .int .i64 2, .int .i64 3, .int .i64 4, .int .i64 5, .int .i64 7, .int .i64 9, .int .i64 13, .int .i64 17, .int .i64 25, .int .i64 33, .int .i64 49, .int .i64 65, .int .i64 97, .int .i64 129, .int .i64 193, .int .i64 257, .int .i64 385, .int .i64 513, .int .i64 769, .int .i64 1025, .int .i64 1537, .int .i64 2049, .int .i64 3073, .int .i64 4097, .int .i64 6145, .int .i64 8193, .int .i64 12289, .int .i64 16385, .int .i64 24577] ?hr ?_; (case hr => first | (go_simp; done) | (go_simp; rfl)); intro v142 w5 ho6 hb; (first | rw [← Ny141.out] at ho6 | (simp only [Int.reduceToNat] at ho6; rw [← Ny141.out] at ho6)); have n0_ := Aside0.mk (Kd.R_lower ho6 (Bz HB)); have n1_ := Bs HB hb; clear HB; revert n0_ n1_; intro HO143 HB; clear hb ho6) | ((with_reducible refine gate_dst (N := 7) rfl ?_); refine litI .i64 3 7 [0, 0, 0, 0, 1, 1, 2, 2, 3, 3, 4, 4, 5, 5, 6, 6, 7, 7, 8, 8, 9, 9, 10, 10, 11, 11, 12, 12, 13, 13] [.int .i64 0, .int .i64 0, .int .i64 0, .int .i64 0, .int .i64 1, .int .i64 1, .int .i64 2, .int .i64 2, .int .i64 3, .int .i64 3, .int .i64 4, .int .i64 4, .int .i64 5, .int .i64 5, .int .i64 6, .int .i64 6, .int .i64 7, .int .i64 7, .int .i64 8, .int .i64 8, .int .i64 9, .int .i64 9, .int .i64 10, .int .i64 10, .int .i64 11, .int .i64 11, .int .i64 12, .int .i64 12, .int .i64 13, .int .i64 13] ?hr ?_; (case hr => first | (go_simp; done) | (go_simp; rfl)); intro v145 w7 ho8 hb; (first | rw [← Ny144.out] at ho8 | (simp only [Int.reduceToNat] at ho8; rw [← Ny144.out] at ho8)); have n0_ := Re HO143 (Kd.R_base ho8) hb; have n1_ := Aside0.mk (Kd.R_lower (Kd.R_new' ho8 (Kd.R_lt (Ru HO143))) (Bz HB)); have n2_ := Bs HB hb; clear HO143 HB; revert n0_ n1_ n2_; intro HO143 HO146 HB; clear hb ho8; obtain ⟨Ao9, co9, eo9⟩ := Kd.R_slice HO143.out; subst eo9; have p147 : 0 ≤ (a0 : Int) := of_decide_eq_true (by first | (with_reducible assumption) | assumption); have q147 : a0 < (y141.length : Int) := of_decide_eq_true (by first | (with_reducible assumption) | assumption); obtain ⟨ad147, e147, hx147_0⟩ := Kd.at_int (Kd.R_reads' HO143.out).2.2 a0 p147 q147; cases e147; replace p147 := eq_true p147; replace q147 := eq_true q147; obtain ⟨Ao10, co10, eo10⟩ := Kd.R_slice HO146.out; subst eo10; have p148 : 0 ≤ (a0 : Int) := of_decide_eq_true (by first | (with_reducible assumption) | assumption); have q148 : a0 < (y144.length : Int) := of_decide_eq_true (by first | (with_reducible assumption) | assumption); obtain ⟨ad148, e148, hx148_0⟩ := Kd.at_int (Kd.R_reads' HO146.out).2.2 a0 p148 q148; cases e148; replace p148 := eq_true p148; replace q148 := eq_true q148))
    repeat (go_quiet (first | ((with_reducible refine gate_dst (N := 6) rfl ?_); refine litI .i64 3 6 [1, 2, 3, 4, 5, 7, 9, 13, 17, 25, 33, 49, 65, 97, 129, 193, 257, 385, 513, 769, 1025, 1537, 2049, 3073, 4097, 6145, 8193, 12289, 16385, 24577] [.int .i64 1, .int .i64 2, .int .i64 3, .int .i64 4, .int .i64 5, .int .i64 7, .int .i64 9, .int .i64 13, .int .i64 17, .int .i64 25, .int .i64 33, .int .i64 49, .int .i64 65, .int .i64 97, .int .i64 129, .int .i64 193, .int .i64 257, .int .i64 385, .int .i64 513, .int .i64 769, .int .i64 1025, .int .i64 1537, .int .i64 2049, .int .i64 3073, .int .i64 4097, .int .i64 6145, .int .i64 8193, .int .i64 12289, .int .i64 16385, .int .i64 24577] ?hr ?_; (case hr => first | (go_simp; done) | (go_simp; rfl)); intro v142 w5 ho6 hb; (first | rw [← Ny141.out] at ho6 | (simp only [Int.reduceToNat] at ho6; rw [← Ny141.out] at ho6)); have n0_ := Aside0.mk (Kd.R_lower ho6 (Bz HB)); have n1_ := Bs HB hb; clear HB; revert n0_ n1_; intro HO143 HB; clear hb ho6) | ((with_reducible refine gate_dst (N := 7) rfl ?_); refine litI .i64 3 7 [0, 0, 0, 0, 1, 1, 2, 2, 3, 3, 4, 4, 5, 5, 6, 6, 7, 7, 8, 8, 9, 9, 10, 10, 11, 11, 12, 12, 13, 13] [.int .i64 0, .int .i64 0, .int .i64 0, .int .i64 0, .int .i64 1, .int .i64 1, .int .i64 2, .int .i64 2, .int .i64 3, .int .i64 3, .int .i64 4, .int .i64 4, .int .i64 5, .int .i64 5, .int .i64 6, .int .i64 6, .int .i64 7, .int .i64 7, .int .i64 8, .int .i64 8, .int .i64 9, .int .i64 9, .int .i64 10, .int .i64 10, .int .i64 11, .int .i64 11, .int .i64 12, .int .i64 12, .int .i64 13, .int .i64 13] ?hr ?_; (case hr => first | (go_simp; done) | (go_simp; rfl)); intro v145 w7 ho8 hb; (first | rw [← Ny144.out] at ho8 | (simp only [Int.reduceToNat] at ho8; rw [← Ny144.out] at ho8)); have n0_ := Re HO143 (Kd.R_base ho8) hb; have n1_ := Aside0.mk (Kd.R_lower (Kd.R_new' ho8 (Kd.R_lt (Ru HO143))) (Bz HB)); have n2_ := Bs HB hb; clear HO143 HB; revert n0_ n1_ n2_; intro HO143 HO146 HB; clear hb ho8; obtain ⟨Ao9, co9, eo9⟩ := Kd.R_slice HO143.out; subst eo9; have p147 : 0 ≤ (a0 : Int) := of_decide_eq_true (by first | (with_reducible assumption) | assumption); have q147 : a0 < (y141.length : Int) := of_decide_eq_true (by first | (with_reducible assumption) | assumption); obtain ⟨ad147, e147, hx147_0⟩ := Kd.at_int (Kd.R_reads' HO143.out).2.2 a0 p147 q147; cases e147; replace p147 := eq_true p147; replace q147 := eq_true q147; obtain ⟨Ao10, co10, eo10⟩ := Kd.R_slice HO146.out; subst eo10; have p148 : 0 ≤ (a0 : Int) := of_decide_eq_true (by first | (with_reducible assumption) | assumption); have q148 : a0 < (y144.length : Int) := of_decide_eq_true (by first | (with_reducible assumption) | assumption); obtain ⟨ad148, e148, hx148_0⟩ := Kd.at_int (Kd.R_reads' HO146.out).2.2 a0 p148 q148; cases e148; replace p148 := eq_true p148; replace q148 := eq_true q148)); try go_wp2_with (first | ((with_reducible refine gate_dst (N := 6) rfl ?_); refine litI .i64 3 6 [1, 2, 3, 4, 5, 7, 9, 13, 17, 25, 33, 49, 65, 97, 129, 193, 257, 385, 513, 769, 1025, 1537, 2049, 3073, 4097, 6145, 8193, 12289, 16385, 24577] [.int .i64 1, .int .i64 2, .int .i64 3, .int .i64 4, .int .i64 5, .int .i64 7, .int .i64 9, .int .i64 13, .int .i64 17, .int .i64 25, .int .i64 33, .int .i64 49, .int .i64 65, .int .i64 97, .int .i64 129, .int .i64 193, .int .i64 257, .int .i64 385, .int .i64 513, .int .i64 769, .int .i64 1025, .int .i64 1537, .int .i64 2049, .int .i64 3073, .int .i64 4097, .int .i64 6145, .int .i64 8193, .int .i64 12289, .int .i64 16385, .int .i64 24577] ?hr ?_; (case hr => first | (go_simp; done) | (go_simp; rfl)); intro v142 w5 ho6 hb; (first | rw [← Ny141.out] at ho6 | (simp only [Int.reduceToNat] at ho6; rw [← Ny141.out] at ho6)); have n0_ := Aside0.mk (Kd.R_lower ho6 (Bz HB)); have n1_ := Bs HB hb; clear HB; revert n0_ n1_; intro HO143 HB; clear hb ho6) | ((with_reducible refine gate_dst (N := 7) rfl ?_); refine litI .i64 3 7 [0, 0, 0, 0, 1, 1, 2, 2, 3, 3, 4, 4, 5, 5, 6, 6, 7, 7, 8, 8, 9, 9, 10, 10, 11, 11, 12, 12, 13, 13] [.int .i64 0, .int .i64 0, .int .i64 0, .int .i64 0, .int .i64 1, .int .i64 1, .int .i64 2, .int .i64 2, .int .i64 3, .int .i64 3, .int .i64 4, .int .i64 4, .int .i64 5, .int .i64 5, .int .i64 6, .int .i64 6, .int .i64 7, .int .i64 7, .int .i64 8, .int .i64 8, .int .i64 9, .int .i64 9, .int .i64 10, .int .i64 10, .int .i64 11, .int .i64 11, .int .i64 12, .int .i64 12, .int .i64 13, .int .i64 13] ?hr ?_; (case hr => first | (go_simp; done) | (go_simp; rfl)); intro v145 w7 ho8 hb; (first | rw [← Ny144.out] at ho8 | (simp only [Int.reduceToNat] at ho8; rw [← Ny144.out] at ho8)); have n0_ := Re HO143 (Kd.R_base ho8) hb; have n1_ := Aside0.mk (Kd.R_lower (Kd.R_new' ho8 (Kd.R_lt (Ru HO143))) (Bz HB)); have n2_ := Bs HB hb; clear HO143 HB; revert n0_ n1_ n2_; intro HO143 HO146 HB; clear hb ho8; obtain ⟨Ao9, co9, eo9⟩ := Kd.R_slice HO143.out; subst eo9; have p147 : 0 ≤ (a0 : Int) := of_decide_eq_true (by first | (with_reducible assumption) | assumption); have q147 : a0 < (y141.length : Int) := of_decide_eq_true (by first | (with_reducible assumption) | assumption); obtain ⟨ad147, e147, hx147_0⟩ := Kd.at_int (Kd.R_reads' HO143.out).2.2 a0 p147 q147; cases e147; replace p147 := eq_true p147; replace q147 := eq_true q147; obtain ⟨Ao10, co10, eo10⟩ := Kd.R_slice HO146.out; subst eo10; have p148 : 0 ≤ (a0 : Int) := of_decide_eq_true (by first | (with_reducible assumption) | assumption); have q148 : a0 < (y144.length : Int) := of_decide_eq_true (by first | (with_reducible assumption) | assumption); obtain ⟨ad148, e148, hx148_0⟩ := Kd.at_int (Kd.R_reads' HO146.out).2.2 a0 p148 q148; cases e148; replace p148 := eq_true p148; replace q148 := eq_true q148)))
    go_ret2
    exact ⟨rfl_, Bu HB⟩
   ·rw [if_neg c4] at H
    exact absurd H (by simp)
  ·rw [if_neg c3] at H
   exact absurd H (by simp)
 ·rw [if_neg c2] at H
  exact absurd H (by simp)

end Go.Proofs.Ytbokeoncpilgpaa.Hp
