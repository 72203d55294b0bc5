/- Go functions of this seat as Lean functions, and their contracts: what the Go code computes, for every input. (By hp.py, a program of this repo, over the kit's print.py.) -/
import Derived.Test.YthakidcnlkbbgaaDoorHp0
import Derived.Test.YthakidcnlkbbgaaDoorHp3
namespace Go.Proofs.YthakidcnlkbbgaaDoor.Hp
open Go.RowKit Go.Proofs.YthakidcnlkbbgaaDoorW.PrintWords Go.Proofs.YthakidcnlkbbgaaDoorW.PrintLast Go.Proofs.YthakidcnlkbbgaaDoorW.PrintMore
attribute [local go_sem] max2_int min2_int max_two min_two max_three min_three max_four min_four   -- for this text's walks alone
set_option linter.unusedVariables false
set_option linter.unusedSimpArgs false

/-! ### lanyardref01_Bad: function 10 -/
def lanyardref01_Bad.l0 : Nat → List Int → Int → Option (Int)
 | 0, _, _ => none
 | k + 1, x0, x3 => if x3 < (x0.length : Int) then (if 0 ≤ x3 then (if x3 ≤ (x0.length : Int) then ((lanyardref01_One.f k (x0.drop (x3 : Int).toNat)).bind fun bt157 => (if bt157.2 = 0 then (some x3) else ((lanyardref01_Char.f bt157.1).bind fun t159 => (if t159 = true then (lanyardref01_Bad.l0 k x0 (wrap64 (x3 + bt157.2))) else (some x3))))) else (none)) else (none)) else (some (-1))
def lanyardref01_Bad.f (k : Nat) (l0 : List Int) : Option (Int) := lanyardref01_Bad.l0 k l0 0
theorem lanyardref01_Bad.mono_l : ∀ k, (∀ y0 y1, LeO (lanyardref01_Bad.l0 k y0 y1) (lanyardref01_Bad.l0 (k + 1) y0 y1))
 | 0 => fun _ _ r h => by simp [lanyardref01_Bad.l0] at h
 | k + 1 => by
  have ih0 := lanyardref01_Bad.mono_l k
  ·intro y0 y1
   unfold lanyardref01_Bad.l0
   repeat' first
   | (with_reducible exact ih0 _ _)
   | (with_reducible exact lanyardref01_One.mono _ _)
   | (with_reducible exact LeO.refl _)
   | (with_reducible exact LeO.none _)
   | (with_reducible refine LeO.ite ?_ ?_)
   | (with_reducible refine LeO.bind ?_ (fun _ => ?_))
   | exact ih0 _ _
   | exact lanyardref01_One.mono _ _
   | exact LeO.none _
   | refine LeO.ite ?_ ?_
   | refine LeO.bind ?_ (fun _ => ?_)
theorem lanyardref01_Bad.mono : ∀ a0 k, LeO (lanyardref01_Bad.f k a0) (lanyardref01_Bad.f (k + 1) a0) := by
 intro a0 k
 have ih0 := lanyardref01_Bad.mono_l k
 unfold lanyardref01_Bad.f
 repeat' first
   | (with_reducible exact ih0 _ _)
   | (with_reducible exact lanyardref01_One.mono _ _)
   | (with_reducible exact LeO.refl _)
   | (with_reducible exact LeO.none _)
   | (with_reducible refine LeO.ite ?_ ?_)
   | (with_reducible refine LeO.bind ?_ (fun _ => ?_))
   | exact ih0 _ _
   | exact lanyardref01_One.mono _ _
   | exact LeO.none _
   | refine LeO.ite ?_ ?_
   | refine LeO.bind ?_ (fun _ => ?_)
set_option maxHeartbeats 8000000 in
set_option maxRecDepth 100000 in
theorem lanyardref01_Bad.calls (k : Nat) (A0 : Option Addr) (c0 : Nat) (l0 : List Int) (r : Int) (w : World) (hr0 : Kd.C (Kd.int .u8) w A0 l0.length l0) (hc0 : l0.length ≤ c0) (h : lanyardref01_Bad.f k l0 = some r) :
  Calls Tryd.prog 10 #[.slice A0 l0.length c0] w fun e w' => e = .returned (.int .i64 r) ∧ Drawn0 w w' := by
 have HR0 := Aside0.mk hr0
 have HC0 := Aside0.mk hc0
 clear hr0 hc0
 have H : (lanyardref01_Bad.l0 k l0 0) = some r := h
 clear h
 have H' := Aside0.mk H
 clear H
 go_enter Tryd.func10, Tryd.ntmps10
 go_wp2
 go_loopg [3] k (fun kq v3 w' => ∃ (x3_1 : Int), v3 = .int .i64 x3_1 ∧ Aside0 (lanyardref01_Bad.l0 kq l0 x3_1 = some r) ∧ Aside0 (kq ≤ k) ∧ Drawn0 w w')
 case atStart => exact ⟨(0), (by first | rfl | (simp; done) | (simp [*]; done)), H', ⟨Nat.le_refl _⟩, by repeat (first | exact Drawn0.refl _ | apply Drawn0.step)⟩
 case round =>
  clear H'
  try clear c1
  obtain ⟨x3_1, rfl, HA, HK1, ⟨m1, rfl⟩⟩ := hrel
  cases gk with
  | zero => exact absurd HA.out (by simp [lanyardref01_Bad.l0])
  | succ k1 =>
   have H := HA.out
   clear HA
   simp only [lanyardref01_Bad.l0] at H
   by_cases c2 : x3_1 < (l0.length : Int)
   ·rw [if_pos c2] at H
    have c2b0 : decide (x3_1 < (l0.length : Int)) = true := decide_eq_true c2
    clear c2
    by_cases c3 : 0 ≤ x3_1
    ·rw [if_pos c3] at H
     have c3b0 := eq_true c3
     have c3b1 : decide (0 ≤ x3_1) = true := decide_eq_true c3
     clear c3
     by_cases c4 : x3_1 ≤ (l0.length : Int)
     ·rw [if_pos c4] at H
      have c4b0 := eq_true c4
      have c4b1 : decide (x3_1 ≤ (l0.length : Int)) = true := decide_eq_true c4
      clear c4
      replace H := Option.bind_eq_some_iff.mp H
      obtain ⟨⟨t157, t158⟩, A50, H⟩ := H
      replace H : (if t158 = 0 then (some x3_1) else ((lanyardref01_Char.f t157).bind fun t159 => (if t159 = true then (lanyardref01_Bad.l0 k1 l0 (wrap64 (x3_1 + t158))) else (some x3_1)))) = some r := H
      have A5 := Aside0.mk A50
      clear A50
      by_cases c6 : t158 = 0
      ·rw [if_pos c6] at H
       have c6b0 : (t158 == 0) = true := beq_iff_eq.mpr c6
       have c6b1 : (t158 != 0) = false := bne_eq_false_iff_eq.mpr c6
       clear c6
       obtain rfl := Option.some.inj H
       obtain ⟨i07, hi07, _, hsz7, _⟩ := info_parts info5
       obtain ⟨A7, hcut7, hA7, hC7⟩ := print_drop_of (P := Tryd.prog) (Value.int .u8) 0 22 5 .i64 Tryd.underlying22 hi07 hsz7 A0 c0 l0 x3_1 (of_decide_eq_true (by first | (with_reducible assumption) | assumption)) (of_decide_eq_true (by first | (with_reducible assumption) | assumption)) HC0.out
       have HR156 := Aside0.mk (Kd.C_of_reads (h1 := fun _ => rfl) (hA7 _ (Kd.reads_of_C HR0.out)))
       have HC156 := Aside0.mk hC7
       clear hA7 hC7 hi07 hsz7
       go_wp2_with (first | ((with_reducible refine gate_callee (f := 24) rfl ?_); refine goesL_ (some 14) rfl rfl Tryd.func24 (by kernel_rfl) rfl #[.slice A7 (l0.drop (x3_1 : Int).toNat).length (c0 - x3_1.toNat)] rfl (by (try simp only [List.map_toArray, List.map_cons, List.map_nil]); first | done | (rw [show (l0.drop (x3_1 : Int).toNat).length = (l0.length - x3_1.toNat) from List.length_drop] <;> rfl) | rfl | (simp only [List.length_drop, List.length_take]; rfl)) ?_; (with_reducible refine (lanyardref01_One.calls k1 _ _ (l0.drop (x3_1 : Int).toNat) t157 t158 _ ?side1 ?side2 A5.out).mono ?_); (case side1 => exact Cu HR156.out); (case side2 => exact HC156.out); rintro e w' ⟨rfl, ⟨nd, rfl⟩⟩; refine ⟨_, rfl, ?_⟩))
       go_ret
       exact ⟨by first | rfl | (simp; done) | (simp [*]; done), by repeat (first | exact Drawn0.refl _ | apply Drawn0.step)⟩
      ·rw [if_neg c6] at H
       have c6b0 : (t158 == 0) = false := beq_eq_false_iff_ne.mpr c6
       have c6b1 : (t158 != 0) = true := bne_iff_ne.mpr c6
       replace H := Option.bind_eq_some_iff.mp H
       obtain ⟨t159, A80, H⟩ := H
       replace H : (if t159 = true then (lanyardref01_Bad.l0 k1 l0 (wrap64 (x3_1 + t158))) else (some x3_1)) = some r := H
       have A8 := Aside0.mk A80
       clear A80
       by_cases c9 : t159 = true
       ·subst c9
        have H1 : (lanyardref01_Bad.l0 k1 l0 (wrap64 (x3_1 + t158))) = some r := by rw [if_pos rfl] at H; exact H
        clear H
        have H := H1
        clear H1
        have H' := Aside0.mk H
        clear H
        obtain ⟨i010, hi010, _, hsz10, _⟩ := info_parts info5
        obtain ⟨A10, hcut10, hA10, hC10⟩ := print_drop_of (P := Tryd.prog) (Value.int .u8) 0 22 5 .i64 Tryd.underlying22 hi010 hsz10 A0 c0 l0 x3_1 (of_decide_eq_true (by first | (with_reducible assumption) | assumption)) (of_decide_eq_true (by first | (with_reducible assumption) | assumption)) HC0.out
        have HR156 := Aside0.mk (Kd.C_of_reads (h1 := fun _ => rfl) (hA10 _ (Kd.reads_of_C HR0.out)))
        have HC156 := Aside0.mk hC10
        clear hA10 hC10 hi010 hsz10
        go_wp2_with (first | ((with_reducible refine gate_callee (f := 24) rfl ?_); refine goesL_ (some 14) rfl rfl Tryd.func24 (by kernel_rfl) rfl #[.slice A10 (l0.drop (x3_1 : Int).toNat).length (c0 - x3_1.toNat)] rfl (by (try simp only [List.map_toArray, List.map_cons, List.map_nil]); first | done | (rw [show (l0.drop (x3_1 : Int).toNat).length = (l0.length - x3_1.toNat) from List.length_drop] <;> rfl) | rfl | (simp only [List.length_drop, List.length_take]; rfl)) ?_; (with_reducible refine (lanyardref01_One.calls k1 _ _ (l0.drop (x3_1 : Int).toNat) t157 t158 _ ?side1 ?side2 A5.out).mono ?_); (case side1 => exact Cu HR156.out); (case side2 => exact HC156.out); rintro e w' ⟨rfl, ⟨nd, rfl⟩⟩; refine ⟨_, rfl, ?_⟩) | (go_at_call 25; (with_reducible refine (lanyardref01_Char.calls t157 true _ A8.out).mono ?_); rintro e w' ⟨rfl, ⟨nd, rfl⟩⟩))
        go_roundg k1
        case measure => have := HK1.out; omega
        case rel => exact ⟨(wrap64 (x3_1 + t158)), (by first | rfl | (simp; done) | (simp [*]; done)), H', ⟨by have := HK1.out; omega⟩, by repeat (first | exact Drawn0.refl _ | apply Drawn0.step)⟩
       ·replace c9 := Bool.eq_false_iff.mpr c9
        subst c9
        have H1 : (some x3_1) = some r := by rw [if_neg (show ¬ (false = true) by decide)] at H; exact H
        clear H
        have H := H1
        clear H1
        obtain rfl := Option.some.inj H
        obtain ⟨i011, hi011, _, hsz11, _⟩ := info_parts info5
        obtain ⟨A11, hcut11, hA11, hC11⟩ := print_drop_of (P := Tryd.prog) (Value.int .u8) 0 22 5 .i64 Tryd.underlying22 hi011 hsz11 A0 c0 l0 x3_1 (of_decide_eq_true (by first | (with_reducible assumption) | assumption)) (of_decide_eq_true (by first | (with_reducible assumption) | assumption)) HC0.out
        have HR156 := Aside0.mk (Kd.C_of_reads (h1 := fun _ => rfl) (hA11 _ (Kd.reads_of_C HR0.out)))
        have HC156 := Aside0.mk hC11
        clear hA11 hC11 hi011 hsz11
        go_wp2_with (first | ((with_reducible refine gate_callee (f := 24) rfl ?_); refine goesL_ (some 14) rfl rfl Tryd.func24 (by kernel_rfl) rfl #[.slice A11 (l0.drop (x3_1 : Int).toNat).length (c0 - x3_1.toNat)] rfl (by (try simp only [List.map_toArray, List.map_cons, List.map_nil]); first | done | (rw [show (l0.drop (x3_1 : Int).toNat).length = (l0.length - x3_1.toNat) from List.length_drop] <;> rfl) | rfl | (simp only [List.length_drop, List.length_take]; rfl)) ?_; (with_reducible refine (lanyardref01_One.calls k1 _ _ (l0.drop (x3_1 : Int).toNat) t157 t158 _ ?side1 ?side2 A5.out).mono ?_); (case side1 => exact Cu HR156.out); (case side2 => exact HC156.out); rintro e w' ⟨rfl, ⟨nd, rfl⟩⟩; refine ⟨_, rfl, ?_⟩) | (go_at_call 25; (with_reducible refine (lanyardref01_Char.calls t157 false _ A8.out).mono ?_); rintro e w' ⟨rfl, ⟨nd, rfl⟩⟩))
        go_ret
        exact ⟨by first | rfl | (simp; done) | (simp [*]; done), by repeat (first | exact Drawn0.refl _ | apply Drawn0.step)⟩
     ·rw [if_neg c4] at H
      exact absurd H (by simp)
    ·rw [if_neg c3] at H
     exact absurd H (by simp)
   ·rw [if_neg c2] at H
    have c2b0 : decide (x3_1 < (l0.length : Int)) = false := decide_eq_false c2
    clear c2
    obtain rfl := Option.some.inj H
    go_wp2
    go_ret
    exact ⟨by first | rfl | (simp; done) | (simp [*]; done), by repeat (first | exact Drawn0.refl _ | apply Drawn0.step)⟩

/-! ### lanyardref01_first: function 26 -/
def lanyardref01_first.l0 : Nat → Int → List Int → List Int → Int → Option (Bool)
 | 0, _, _, _, _ => none
 | k + 1, x0, x3, x4, x5 => if x5 < (x3.length : Int) then (if 0 ≤ x5 then (if x0 ≥ (rd x3 x5) then (if x5 < (x4.length : Int) then (if x0 ≤ (rd x4 x5) then (some true) else (lanyardref01_first.l0 k x0 x3 x4 (wrap64 (x5 + 1)))) else (none)) else (lanyardref01_first.l0 k x0 x3 x4 (wrap64 (x5 + 1)))) else (none)) else (some false)
def lanyardref01_first.f (k : Nat) (a0 : Int) : Option (Bool) := lanyardref01_first.l0 k a0 (([65, 97, 95, 192, 216, 248, 880, 895, 8204, 8304, 11264, 12289, 63744, 65008, 65536] : List Int)) (([90, 122, 95, 214, 246, 767, 893, 8191, 8205, 8591, 12271, 55295, 64975, 65533, 983039] : List Int)) 0
theorem lanyardref01_first.mono_l : ∀ k, (∀ y0 y1 y2 y3, LeO (lanyardref01_first.l0 k y0 y1 y2 y3) (lanyardref01_first.l0 (k + 1) y0 y1 y2 y3))
 | 0 => fun _ _ _ _ r h => by simp [lanyardref01_first.l0] at h
 | k + 1 => by
  have ih0 := lanyardref01_first.mono_l k
  ·intro y0 y1 y2 y3
   unfold lanyardref01_first.l0
   repeat' first
   | (with_reducible exact ih0 _ _ _ _)
   | (with_reducible exact LeO.refl _)
   | (with_reducible exact LeO.none _)
   | (with_reducible refine LeO.ite ?_ ?_)
   | (with_reducible refine LeO.bind ?_ (fun _ => ?_))
   | exact ih0 _ _ _ _
   | exact LeO.none _
   | refine LeO.ite ?_ ?_
   | refine LeO.bind ?_ (fun _ => ?_)
theorem lanyardref01_first.mono : ∀ a0 k, LeO (lanyardref01_first.f k a0) (lanyardref01_first.f (k + 1) a0) := by
 intro a0 k
 have ih0 := lanyardref01_first.mono_l k
 unfold lanyardref01_first.f
 repeat' first
   | (with_reducible exact ih0 _ _ _ _)
   | (with_reducible exact LeO.refl _)
   | (with_reducible exact LeO.none _)
   | (with_reducible refine LeO.ite ?_ ?_)
   | (with_reducible refine LeO.bind ?_ (fun _ => ?_))
   | exact ih0 _ _ _ _
   | exact LeO.none _
   | refine LeO.ite ?_ ?_
   | refine LeO.bind ?_ (fun _ => ?_)
set_option maxHeartbeats 8000000 in
set_option maxRecDepth 100000 in
theorem lanyardref01_first.calls (k : Nat) (a0 : Int) (r : Bool) (w : World) (h : lanyardref01_first.f k a0 = some r) :
  Calls Tryd.prog 26 #[.int .i64 a0] w fun e w' => e = .returned (.bool r) ∧ Below w.heap.size w w' := by
 have HB := Aside0.mk (Below.refl w.heap.size w)
 have H : (lanyardref01_first.l0 k a0 (([65, 97, 95, 192, 216, 248, 880, 895, 8204, 8304, 11264, 12289, 63744, 65008, 65536] : List Int)) (([90, 122, 95, 214, 246, 767, 893, 8191, 8205, 8591, 12271, 55295, 64975, 65533, 983039] : List Int)) 0) = some r := h
 clear h
 obtain ⟨y160, hy160⟩ : ∃ y_ : List Int, y_ = (([65, 97, 95, 192, 216, 248, 880, 895, 8204, 8304, 11264, 12289, 63744, 65008, 65536] : List Int)) := ⟨_, rfl⟩
 replace H : (lanyardref01_first.l0 k a0 y160 (([90, 122, 95, 214, 246, 767, 893, 8191, 8205, 8591, 12271, 55295, 64975, 65533, 983039] : List Int)) 0) = some r := by first | (rw [hy160]; with_reducible exact H) | (have H2_ := (Option.bind_some _ _).symm.trans H; rw [hy160]; with_reducible exact H2_) | (have H2_ := (Option.bind_some _ _).symm.trans H; with_reducible exact H2_) | with_reducible exact H | (rw [hy160]; exact H) | exact H
 have Ny160 := Aside0.mk hy160
 clear hy160
 obtain ⟨y163, hy163⟩ : ∃ y_ : List Int, y_ = (([90, 122, 95, 214, 246, 767, 893, 8191, 8205, 8591, 12271, 55295, 64975, 65533, 983039] : List Int)) := ⟨_, rfl⟩
 replace H : (lanyardref01_first.l0 k a0 y160 y163 0) = some r := by first | (rw [hy163]; with_reducible exact H) | (have H2_ := (Option.bind_some _ _).symm.trans H; rw [hy163]; with_reducible exact H2_) | (have H2_ := (Option.bind_some _ _).symm.trans H; with_reducible exact H2_) | with_reducible exact H | (rw [hy163]; exact H) | exact H
 have Ny163 := Aside0.mk hy163
 clear hy163
 have H' := Aside0.mk H
 clear H
 go_enter Tryd.func26, Tryd.ntmps26
 go_wp2_with (first | ((with_reducible refine gate_dst (N := 6) rfl ?_); refine litI .i64 3 6 [65, 97, 95, 192, 216, 248, 880, 895, 8204, 8304, 11264, 12289, 63744, 65008, 65536] [.int .i64 65, .int .i64 97, .int .i64 95, .int .i64 192, .int .i64 216, .int .i64 248, .int .i64 880, .int .i64 895, .int .i64 8204, .int .i64 8304, .int .i64 11264, .int .i64 12289, .int .i64 63744, .int .i64 65008, .int .i64 65536] ?hr ?_; (case hr => first | (go_simp; done) | (go_simp; rfl)); intro v161 w2 ho3 hb; (first | rw [← Ny160.out] at ho3 | (simp only [Int.reduceToNat] at ho3; rw [← Ny160.out] at ho3)); have n0_ := Aside0.mk (Kd.R_lower ho3 (Bz HB)); have n1_ := Bs HB hb; clear HB; revert n0_ n1_; intro HO162 HB; clear hb ho3) | ((with_reducible refine gate_dst (N := 7) rfl ?_); refine litI .i64 3 7 [90, 122, 95, 214, 246, 767, 893, 8191, 8205, 8591, 12271, 55295, 64975, 65533, 983039] [.int .i64 90, .int .i64 122, .int .i64 95, .int .i64 214, .int .i64 246, .int .i64 767, .int .i64 893, .int .i64 8191, .int .i64 8205, .int .i64 8591, .int .i64 12271, .int .i64 55295, .int .i64 64975, .int .i64 65533, .int .i64 983039] ?hr ?_; (case hr => first | (go_simp; done) | (go_simp; rfl)); intro v164 w4 ho5 hb; (first | rw [← Ny163.out] at ho5 | (simp only [Int.reduceToNat] at ho5; rw [← Ny163.out] at ho5)); have n0_ := Re HO162 (Kd.R_base ho5) hb; have n1_ := Aside0.mk (Kd.R_lower (Kd.R_new' ho5 (Kd.R_lt (Ru HO162))) (Bz HB)); have n2_ := Bs HB hb; clear HO162 HB; revert n0_ n1_ n2_; intro HO162 HO165 HB; clear hb ho5))
 go_loopg [5] k (fun kq v5 w' => ∃ (x5_1 : Int), v5 = .int .i64 x5_1 ∧ Aside0 (lanyardref01_first.l0 kq a0 y160 y163 x5_1 = some r) ∧ Aside0 (kq ≤ k) ∧ Aside0 (Kd.R (Kd.int .i64) 3 w' w.heap.size (fun k_ => some k_ ≠ (v164 : Value).ownBlock) v161 y160) ∧ Aside0 (Kd.R (Kd.int .i64) 3 w' w.heap.size (fun k_ => some k_ ≠ (v161 : Value).ownBlock) v164 y163) ∧ Aside0 (Below w.heap.size w w'))
 case atStart => exact ⟨(0), (by first | rfl | (simp; done) | (simp [*]; done)), H', ⟨Nat.le_refl _⟩, ⟨by (with_reducible repeat (first | apply Kd.R_alloc | apply Kd.R_drewN | apply Kd.R_drew)); exact Kd.R_mono HO162.out (fun _ hk => hk.2)⟩, ⟨by (with_reducible repeat (first | apply Kd.R_alloc | apply Kd.R_drewN | apply Kd.R_drew)); exact Kd.R_mono HO165.out (fun _ hk => hk.2)⟩, ⟨Bu HB⟩⟩
 case round =>
  clear H'
  try clear c2
  try clear p2
  obtain ⟨x5_1, rfl, HA, HK1, HO_3, HO_4, HB⟩ := hrel
  cases gk with
  | zero => exact absurd HA.out (by simp [lanyardref01_first.l0])
  | succ k1 =>
   have H := HA.out
   clear HA
   simp only [lanyardref01_first.l0] at H
   refine (Classical.em (x5_1 < (y160.length : Int))).elim (fun c6 => ?a20_) (fun c6 => ?b20_)
   case' a20_ =>
    rw [if_pos c6] at H
    have c6b0 : decide (x5_1 < (y160.length : Int)) = true := decide_eq_true c6
    clear c6
    refine (Classical.em (0 ≤ x5_1)).elim (fun c7 => ?a21_) (fun c7 => ?b21_)
    case' a21_ =>
     rw [if_pos c7] at H
     have c7b0 : decide (0 ≤ x5_1) = true := decide_eq_true c7
     clear c7
     refine (Classical.em (a0 ≥ (rd y160 x5_1))).elim (fun c8 => ?a22_) (fun c8 => ?b22_)
     case' a22_ =>
      rw [if_pos c8] at H
      have c8b0 : decide ((rd y160 x5_1) ≤ a0) = true := decide_eq_true c8
      clear c8
      refine (Classical.em (x5_1 < (y163.length : Int))).elim (fun c9 => ?a23_) (fun c9 => ?b23_)
      case' a23_ =>
       rw [if_pos c9] at H
       have c9b0 : decide (x5_1 < (y163.length : Int)) = true := decide_eq_true c9
       clear c9
       refine (Classical.em (a0 ≤ (rd y163 x5_1))).elim (fun c10 => ?a24_) (fun c10 => ?b24_)
       case' a24_ =>
        rw [if_pos c10] at H
        have c10b0 : decide (a0 ≤ (rd y163 x5_1)) = true := decide_eq_true c10
        clear c10
        obtain rfl := Option.some.inj H
        obtain ⟨Ao11, co11, eo11⟩ := Kd.R_slice HO_3.out
        subst eo11
        have p166 : 0 ≤ (x5_1 : Int) := of_decide_eq_true (by first | (with_reducible assumption) | assumption)
        have q166 : x5_1 < (y160.length : Int) := of_decide_eq_true (by first | (with_reducible assumption) | assumption)
        obtain ⟨ad166, e166, hx166_0⟩ := Kd.at_int (Kd.R_reads' HO_3.out).2.2 x5_1 p166 q166
        cases e166
        replace p166 := eq_true p166
        replace q166 := eq_true q166
        obtain ⟨Ao12, co12, eo12⟩ := Kd.R_slice HO_4.out
        subst eo12
        have p167 : 0 ≤ (x5_1 : Int) := of_decide_eq_true (by first | (with_reducible assumption) | assumption)
        have q167 : x5_1 < (y163.length : Int) := of_decide_eq_true (by first | (with_reducible assumption) | assumption)
        obtain ⟨ad167, e167, hx167_0⟩ := Kd.at_int (Kd.R_reads' HO_4.out).2.2 x5_1 p167 q167
        cases e167
        replace p167 := eq_true p167
        replace q167 := eq_true q167
        go_wp2
        go_ret
        exact ⟨rfl_, Bu HB⟩
       case' b24_ =>
        rw [if_neg c10] at H
        have c10b0 : decide (a0 ≤ (rd y163 x5_1)) = false := decide_eq_false c10
        clear c10
        have H' := Aside0.mk H
        clear H
        obtain ⟨Ao13, co13, eo13⟩ := Kd.R_slice HO_3.out
        subst eo13
        have p166 : 0 ≤ (x5_1 : Int) := of_decide_eq_true (by first | (with_reducible assumption) | assumption)
        have q166 : x5_1 < (y160.length : Int) := of_decide_eq_true (by first | (with_reducible assumption) | assumption)
        obtain ⟨ad166, e166, hx166_0⟩ := Kd.at_int (Kd.R_reads' HO_3.out).2.2 x5_1 p166 q166
        cases e166
        replace p166 := eq_true p166
        replace q166 := eq_true q166
        obtain ⟨Ao14, co14, eo14⟩ := Kd.R_slice HO_4.out
        subst eo14
        have p167 : 0 ≤ (x5_1 : Int) := of_decide_eq_true (by first | (with_reducible assumption) | assumption)
        have q167 : x5_1 < (y163.length : Int) := of_decide_eq_true (by first | (with_reducible assumption) | assumption)
        obtain ⟨ad167, e167, hx167_0⟩ := Kd.at_int (Kd.R_reads' HO_4.out).2.2 x5_1 p167 q167
        cases e167
        replace p167 := eq_true p167
        replace q167 := eq_true q167
      case' b23_ =>
       rw [if_neg c9] at H
       exact absurd H (by simp)
     case' b22_ =>
      rw [if_neg c8] at H
      have c8b0 : decide ((rd y160 x5_1) ≤ a0) = false := decide_eq_false c8
      clear c8
      have H' := Aside0.mk H
      clear H
      obtain ⟨Ao15, co15, eo15⟩ := Kd.R_slice HO_3.out
      subst eo15
      have p166 : 0 ≤ (x5_1 : Int) := of_decide_eq_true (by first | (with_reducible assumption) | assumption)
      have q166 : x5_1 < (y160.length : Int) := of_decide_eq_true (by first | (with_reducible assumption) | assumption)
      obtain ⟨ad166, e166, hx166_0⟩ := Kd.at_int (Kd.R_reads' HO_3.out).2.2 x5_1 p166 q166
      cases e166
      replace p166 := eq_true p166
      replace q166 := eq_true q166
    case' b21_ =>
     rw [if_neg c7] at H
     exact absurd H (by simp)
   case' b20_ =>
    rw [if_neg c6] at H
    have c6b0 : decide (x5_1 < (y160.length : Int)) = false := decide_eq_false c6
    clear c6
    obtain rfl := Option.some.inj H
    obtain ⟨Ao16, co16, eo16⟩ := Kd.R_slice HO_3.out
    subst eo16
    go_wp2
    go_ret
    exact ⟨rfl_, Bu HB⟩

   case a22_ | b22_ =>
    go_wp2
    go_roundg k1
    case measure => have := HK1.out; omega
    case rel => exact ⟨(wrap64 (x5_1 + 1)), (by first | rfl | (simp; done) | (simp [*]; done)), H', ⟨by have := HK1.out; omega⟩, ⟨Ru HO_3⟩, ⟨Ru HO_4⟩, ⟨Bu HB⟩⟩
end Go.Proofs.YthakidcnlkbbgaaDoor.Hp
