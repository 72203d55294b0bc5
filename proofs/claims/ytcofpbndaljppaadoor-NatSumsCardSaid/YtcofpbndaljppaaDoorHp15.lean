/- Go functions of this seat as Lean functions, and their contracts: what the Go code computes, for every input. (By hp.py, a program of this repo, over the kit's print.py.) -/
import Derived.Test.YtcofpbndaljppaaDoorHp0
import Derived.Test.YtcofpbndaljppaaDoorHp4
import Derived.Test.YtcofpbndaljppaaDoorHp7
import Derived.Test.YtcofpbndaljppaaDoorHp8
import Derived.Test.YtcofpbndaljppaaDoorHp9
import Derived.Test.YtcofpbndaljppaaDoorHp10
namespace Go.Proofs.YtcofpbndaljppaaDoor.Hp
open Go.RowKit Go.Proofs.YtcofpbndaljppaaDoorW.PrintWords Go.Proofs.YtcofpbndaljppaaDoorW.PrintLast Go.Proofs.YtcofpbndaljppaaDoorW.PrintMore
attribute [local go_sem] max2_int min2_int max_two min_two max_three min_three max_four min_four   -- for this text's walks alone
set_option linter.unusedVariables false
set_option linter.unusedSimpArgs false

/-! ### lanyardlaw06_NatSums: function 8 -/
mutual
def lanyardlaw06_NatSums.j0 : Nat → List Int → List Int → Bool → Option (Bool)
 | 0, _, _, _ => none
 | k + 1, x0, x1, x26 => if x26 = true then ((lanyardlaw06_awake.f k).bind fun t759 => (some t759)) else ((some (([] : List Int) : List Int)).bind fun y760 => (if y760.length + x0.length < 140737488355328 then ((some (y760 ++ x0 : List Int)).bind fun y763 => ((some (([] : List Int) : List Int)).bind fun y766 => (if y766.length + x1.length < 140737488355328 then ((some (y766 ++ x1 : List Int)).bind fun y769 => ((lanyardref06_Of.f k x0).bind fun t772 => ((lanyardref06_Of.f k x1).bind fun t775 => ((nat_Add.f k y763 y769).bind fun bt778 => ((nat_Mul.f k y763 y769).bind fun bt782 => ((nat_Sub.f k y763 y769).bind fun bt786 => (if (strOfNums y763).toList = (strOfNums x0).toList then (if (strOfNums y769).toList = (strOfNums x1).toList then (if bt778.2 = 0 then (if bt782.2 = 0 then ((lanyardref06_Add.f k t772 t775).bind fun t790 => ((lanyardlaw06_same.f k bt778.1 t790).bind fun t793 => (if t793 = true then ((lanyardref06_Mul.f k t772 t775).bind fun t794 => ((lanyardlaw06_same.f k bt782.1 t794).bind fun t797 => (if t797 = true then ((nat_Cmp.f k x0 x1).bind fun t798 => ((lanyardref06_Cmp.f k t772 t775).bind fun t799 => (if t798 = t799 then ((nat_Trim.f x0).bind fun t800 => ((lanyardlaw06_same.f k t800 t772).bind fun t803 => (lanyardlaw06_NatSums.j1 k t772 t775 bt786.1 bt786.2 (!t803)))) else (lanyardlaw06_NatSums.j1 k t772 t775 bt786.1 bt786.2 true)))) else (lanyardlaw06_NatSums.j1 k t772 t775 bt786.1 bt786.2 true)))) else (lanyardlaw06_NatSums.j1 k t772 t775 bt786.1 bt786.2 true)))) else (lanyardlaw06_NatSums.j1 k t772 t775 bt786.1 bt786.2 true)) else (lanyardlaw06_NatSums.j1 k t772 t775 bt786.1 bt786.2 true)) else (lanyardlaw06_NatSums.j1 k t772 t775 bt786.1 bt786.2 true)) else (lanyardlaw06_NatSums.j1 k t772 t775 bt786.1 bt786.2 true)))))))) else (none)))) else (none)))
def lanyardlaw06_NatSums.j1 : Nat → List Int → List Int → List Int → Int → Bool → Option (Bool)
 | 0, _, _, _, _, _ => none
 | k + 1, x7, x8, x13, x14, x107 => if x107 = true then (some false) else ((lanyardref06_Cmp.f k x7 x8).bind fun t804 => (if t804 < 0 then (if x14 = 2 then (some ((x13.length : Int) == 0)) else (some false)) else (if x14 = 0 then ((lanyardref06_Sub.f k x7 x8).bind fun t805 => ((lanyardlaw06_same.f k x13 t805).bind fun t808 => (some t808))) else (some false))))
end
def lanyardlaw06_NatSums.f (k : Nat) (l0 : List Int) (l1 : List Int) : Option (Bool) := (lanyardlaw06_awake.f k).bind fun t758 => (if t758 = true then (if (l0.length : Int) > 100 then (lanyardlaw06_NatSums.j0 k l0 l1 true) else (lanyardlaw06_NatSums.j0 k l0 l1 (decide ((l1.length : Int) > 100)))) else (lanyardlaw06_NatSums.j0 k l0 l1 true))
theorem lanyardlaw06_NatSums.mono_l : ∀ k, (∀ y0 y1 y2, LeO (lanyardlaw06_NatSums.j0 k y0 y1 y2) (lanyardlaw06_NatSums.j0 (k + 1) y0 y1 y2)) ∧ (∀ y0 y1 y2 y3 y4, LeO (lanyardlaw06_NatSums.j1 k y0 y1 y2 y3 y4) (lanyardlaw06_NatSums.j1 (k + 1) y0 y1 y2 y3 y4))
 | 0 => ⟨fun _ _ _ r h => by simp [lanyardlaw06_NatSums.j0] at h, fun _ _ _ _ _ r h => by simp [lanyardlaw06_NatSums.j1] at h⟩
 | k + 1 => by
  obtain ⟨ih0, ih1⟩ := lanyardlaw06_NatSums.mono_l k
  refine ⟨?_, ?_⟩
  ·intro y0 y1 y2
   unfold lanyardlaw06_NatSums.j0
   repeat' first
   | (with_reducible exact ih0 _ _ _)
   | (with_reducible exact ih1 _ _ _ _ _)
   | (with_reducible exact lanyardlaw06_awake.mono _)
   | (with_reducible exact lanyardlaw06_same.mono _ _ _)
   | (with_reducible exact lanyardref06_Add.mono _ _ _)
   | (with_reducible exact lanyardref06_Cmp.mono _ _ _)
   | (with_reducible exact lanyardref06_Mul.mono _ _ _)
   | (with_reducible exact lanyardref06_Of.mono _ _)
   | (with_reducible exact lanyardref06_Sub.mono _ _ _)
   | (with_reducible exact nat_Add.mono _ _ _)
   | (with_reducible exact nat_Cmp.mono _ _ _)
   | (with_reducible exact nat_Mul.mono _ _ _)
   | (with_reducible exact nat_Sub.mono _ _ _)
   | (with_reducible exact LeO.refl _)
   | (with_reducible exact LeO.none _)
   | (with_reducible refine LeO.ite ?_ ?_)
   | (with_reducible refine LeO.bind ?_ (fun _ => ?_))
   | exact ih0 _ _ _
   | exact ih1 _ _ _ _ _
   | exact lanyardlaw06_awake.mono _
   | exact lanyardlaw06_same.mono _ _ _
   | exact lanyardref06_Add.mono _ _ _
   | exact lanyardref06_Cmp.mono _ _ _
   | exact lanyardref06_Mul.mono _ _ _
   | exact lanyardref06_Of.mono _ _
   | exact lanyardref06_Sub.mono _ _ _
   | exact nat_Add.mono _ _ _
   | exact nat_Cmp.mono _ _ _
   | exact nat_Mul.mono _ _ _
   | exact nat_Sub.mono _ _ _
   | exact LeO.none _
   | refine LeO.ite ?_ ?_
   | refine LeO.bind ?_ (fun _ => ?_)
  ·intro y0 y1 y2 y3 y4
   unfold lanyardlaw06_NatSums.j1
   repeat' first
   | (with_reducible exact ih0 _ _ _)
   | (with_reducible exact ih1 _ _ _ _ _)
   | (with_reducible exact lanyardlaw06_awake.mono _)
   | (with_reducible exact lanyardlaw06_same.mono _ _ _)
   | (with_reducible exact lanyardref06_Add.mono _ _ _)
   | (with_reducible exact lanyardref06_Cmp.mono _ _ _)
   | (with_reducible exact lanyardref06_Mul.mono _ _ _)
   | (with_reducible exact lanyardref06_Of.mono _ _)
   | (with_reducible exact lanyardref06_Sub.mono _ _ _)
   | (with_reducible exact nat_Add.mono _ _ _)
   | (with_reducible exact nat_Cmp.mono _ _ _)
   | (with_reducible exact nat_Mul.mono _ _ _)
   | (with_reducible exact nat_Sub.mono _ _ _)
   | (with_reducible exact LeO.refl _)
   | (with_reducible exact LeO.none _)
   | (with_reducible refine LeO.ite ?_ ?_)
   | (with_reducible refine LeO.bind ?_ (fun _ => ?_))
   | exact ih0 _ _ _
   | exact ih1 _ _ _ _ _
   | exact lanyardlaw06_awake.mono _
   | exact lanyardlaw06_same.mono _ _ _
   | exact lanyardref06_Add.mono _ _ _
   | exact lanyardref06_Cmp.mono _ _ _
   | exact lanyardref06_Mul.mono _ _ _
   | exact lanyardref06_Of.mono _ _
   | exact lanyardref06_Sub.mono _ _ _
   | exact nat_Add.mono _ _ _
   | exact nat_Cmp.mono _ _ _
   | exact nat_Mul.mono _ _ _
   | exact nat_Sub.mono _ _ _
   | exact LeO.none _
   | refine LeO.ite ?_ ?_
   | refine LeO.bind ?_ (fun _ => ?_)
theorem lanyardlaw06_NatSums.mono : ∀ a0 a1 k, LeO (lanyardlaw06_NatSums.f k a0 a1) (lanyardlaw06_NatSums.f (k + 1) a0 a1) := by
 intro a0 a1 k
 obtain ⟨ih0, ih1⟩ := lanyardlaw06_NatSums.mono_l k
 unfold lanyardlaw06_NatSums.f
 repeat' first
   | (with_reducible exact ih0 _ _ _)
   | (with_reducible exact ih1 _ _ _ _ _)
   | (with_reducible exact lanyardlaw06_awake.mono _)
   | (with_reducible exact lanyardlaw06_same.mono _ _ _)
   | (with_reducible exact lanyardref06_Add.mono _ _ _)
   | (with_reducible exact lanyardref06_Cmp.mono _ _ _)
   | (with_reducible exact lanyardref06_Mul.mono _ _ _)
   | (with_reducible exact lanyardref06_Of.mono _ _)
   | (with_reducible exact lanyardref06_Sub.mono _ _ _)
   | (with_reducible exact nat_Add.mono _ _ _)
   | (with_reducible exact nat_Cmp.mono _ _ _)
   | (with_reducible exact nat_Mul.mono _ _ _)
   | (with_reducible exact nat_Sub.mono _ _ _)
   | (with_reducible exact LeO.refl _)
   | (with_reducible exact LeO.none _)
   | (with_reducible refine LeO.ite ?_ ?_)
   | (with_reducible refine LeO.bind ?_ (fun _ => ?_))
   | exact ih0 _ _ _
   | exact ih1 _ _ _ _ _
   | exact lanyardlaw06_awake.mono _
   | exact lanyardlaw06_same.mono _ _ _
   | exact lanyardref06_Add.mono _ _ _
   | exact lanyardref06_Cmp.mono _ _ _
   | exact lanyardref06_Mul.mono _ _ _
   | exact lanyardref06_Of.mono _ _
   | exact lanyardref06_Sub.mono _ _ _
   | exact nat_Add.mono _ _ _
   | exact nat_Cmp.mono _ _ _
   | exact nat_Mul.mono _ _ _
   | exact nat_Sub.mono _ _ _
   | exact LeO.none _
   | refine LeO.ite ?_ ?_
   | refine LeO.bind ?_ (fun _ => ?_)
set_option maxHeartbeats 8000000 in
set_option maxRecDepth 100000 in
theorem lanyardlaw06_NatSums.calls (k : Nat) (A0 : Option Addr) (c0 : Nat) (l0 : List Int) (A1 : Option Addr) (c1 : Nat) (l1 : List Int) (r : Bool) (w : World) (hr0 : Kd.C (Kd.int .u8) w A0 l0.length l0) (hc0 : l0.length ≤ c0) (hr1 : Kd.C (Kd.int .u8) w A1 l1.length l1) (hc1 : l1.length ≤ c1) (h : lanyardlaw06_NatSums.f k l0 l1 = some r) :
  Calls Tryd.prog 8 #[.slice A0 l0.length c0, .slice A1 l1.length c1] w fun e w' => e = .returned (.bool r) ∧ Below w.heap.size w w' := by
 have HR0 := Aside0.mk hr0
 have HC0 := Aside0.mk hc0
 clear hr0 hc0
 have HR1 := Aside0.mk hr1
 have HC1 := Aside0.mk hc1
 clear hr1 hc1
 have HB := Aside0.mk (Below.refl w.heap.size w)
 have H : ((lanyardlaw06_awake.f k).bind fun t758 => (if t758 = true then (if (l0.length : Int) > 100 then (lanyardlaw06_NatSums.j0 k l0 l1 true) else (lanyardlaw06_NatSums.j0 k l0 l1 (decide ((l1.length : Int) > 100)))) else (lanyardlaw06_NatSums.j0 k l0 l1 true))) = some r := h
 clear h
 have HC3 := Aside0.mk H
 clear H
 go_enter Tryd.func8, Tryd.ntmps8
 go_upto_region 1 with (fail)
 go_cut [26] (fun v26 wc => ∃ (kq : Nat) (x26_2 : Bool), v26 = .bool x26_2 ∧ Aside0 (lanyardlaw06_NatSums.j0 kq l0 l1 x26_2 = some r) ∧ Aside0 (kq ≤ k) ∧ Aside0 (Below w.heap.size w wc))
 case first =>
  have H := HC3.out
  clear HC3
  replace H := Option.bind_eq_some_iff.mp H
  obtain ⟨t758, A40, H⟩ := H
  replace H : (if t758 = true then (if (l0.length : Int) > 100 then (lanyardlaw06_NatSums.j0 k l0 l1 true) else (lanyardlaw06_NatSums.j0 k l0 l1 (decide ((l1.length : Int) > 100)))) else (lanyardlaw06_NatSums.j0 k l0 l1 true)) = some r := H
  have A4 := Aside0.mk A40
  clear A40
  by_cases c5 : t758 = true
  ·subst c5
   have H1 : (if (l0.length : Int) > 100 then (lanyardlaw06_NatSums.j0 k l0 l1 true) else (lanyardlaw06_NatSums.j0 k l0 l1 (decide ((l1.length : Int) > 100)))) = some r := by rw [if_pos rfl] at H; exact H
   clear H
   have H := H1
   clear H1
   by_cases c6 : (l0.length : Int) > 100
   ·rw [if_pos c6] at H
    have c6b0 : decide (100 < (l0.length : Int)) = true := decide_eq_true c6
    have c6b1 : decide (100 < l0.length) = true := decide_eq_true (by omega)
    clear c6
    (first | rw [c6b0] | (simp only [i64_w, i32_w]; rw [c6b0]) | skip)
    have H' := Aside0.mk H
    clear H
    go_wp2_with (first | ((with_reducible refine gate_callee (f := 11) rfl ?_); refine goesA (some 15) Tryd.func11 #[] rfl ?_; (with_reducible refine (lanyardlaw06_awake.calls k  true _ A4.out).mono ?_); rintro e w7 ⟨rfl, hb⟩; refine ⟨_, rfl, ?_⟩; have n0_ := Bs HB hb; clear HB; revert n0_; intro HB; (try clear hb); (try clear hb2); (try clear hk); (try clear hi)))
    go_meet
    case rel => exact ⟨_, (true), (by first | rfl | (simp; done) | (simp [*]; done)), H', ⟨by first | omega | exact Nat.le_refl _⟩, ⟨Bu HB⟩⟩
   ·rw [if_neg c6] at H
    have c6b0 : decide (100 < (l0.length : Int)) = false := decide_eq_false c6
    have c6b1 : decide (100 < l0.length) = false := decide_eq_false (by omega)
    clear c6
    (first | rw [c6b0] | (simp only [i64_w, i32_w]; rw [c6b0]) | skip)
    have H' := Aside0.mk H
    clear H
    go_wp2_with (first | ((with_reducible refine gate_callee (f := 11) rfl ?_); refine goesA (some 15) Tryd.func11 #[] rfl ?_; (with_reducible refine (lanyardlaw06_awake.calls k  true _ A4.out).mono ?_); rintro e w8 ⟨rfl, hb⟩; refine ⟨_, rfl, ?_⟩; have n0_ := Bs HB hb; clear HB; revert n0_; intro HB; (try clear hb); (try clear hb2); (try clear hk); (try clear hi)))
    go_meet
    case rel => exact ⟨_, (decide ((l1.length : Int) > 100)), (by first | rfl | (simp; done) | (simp [*]; done)), H', ⟨by first | omega | exact Nat.le_refl _⟩, ⟨Bu HB⟩⟩
  ·replace c5 := Bool.eq_false_iff.mpr c5
   subst c5
   have H1 : (lanyardlaw06_NatSums.j0 k l0 l1 true) = some r := by rw [if_neg (show ¬ (false = true) by decide)] at H; exact H
   clear H
   have H := H1
   clear H1
   have H' := Aside0.mk H
   clear H
   go_wp2_with (first | ((with_reducible refine gate_callee (f := 11) rfl ?_); refine goesA (some 15) Tryd.func11 #[] rfl ?_; (with_reducible refine (lanyardlaw06_awake.calls k  false _ A4.out).mono ?_); rintro e w9 ⟨rfl, hb⟩; refine ⟨_, rfl, ?_⟩; have n0_ := Bs HB hb; clear HB; revert n0_; intro HB; (try clear hb); (try clear hb2); (try clear hk); (try clear hi)))
   go_meet
   case rel => exact ⟨_, (true), (by first | rfl | (simp; done) | (simp [*]; done)), H', ⟨by first | omega | exact Nat.le_refl _⟩, ⟨Bu HB⟩⟩
 case rest =>
  clear HC3
  try clear c1
  try clear p2
  try clear c5
  try clear c6
  try clear c6b0
  try clear c6b1
  try clear c8
  obtain ⟨kq, x26_2, rfl, HA, HJ2, HB⟩ := hcut
  cases kq with
  | zero => exact absurd HA.out (by simp [lanyardlaw06_NatSums.j0])
  | succ kj2 =>
   have H := HA.out
   clear HA
   simp only [lanyardlaw06_NatSums.j0] at H
   by_cases c10 : x26_2 = true
   ·subst c10
    have H1 : ((lanyardlaw06_awake.f kj2).bind fun t759 => (some t759)) = some r := by rw [if_pos rfl] at H; exact H
    clear H
    have H := H1
    clear H1
    replace H := Option.bind_eq_some_iff.mp H
    obtain ⟨t759, A110, H⟩ := H
    replace H : (some t759) = some r := H
    have A11 := Aside0.mk A110
    clear A110
    obtain rfl := Option.some.inj H
    go_wp2_with (first | ((with_reducible refine gate_callee (f := 11) rfl ?_); refine goesA (some 27) Tryd.func11 #[] rfl ?_; (with_reducible refine (lanyardlaw06_awake.calls kj2  t759 _ A11.out).mono ?_); rintro e w12 ⟨rfl, hb⟩; refine ⟨_, rfl, ?_⟩; have n0_ := Bs HB hb; clear HB; revert n0_; intro HB; (try clear hb); (try clear hb2); (try clear hk); (try clear hi)))
    go_ret
    exact ⟨rfl_, Bu HB⟩
   ·replace c10 := Bool.eq_false_iff.mpr c10
    subst c10
    have H1 : ((some (([] : List Int) : List Int)).bind fun y760 => (if y760.length + l0.length < 140737488355328 then ((some (y760 ++ l0 : List Int)).bind fun y763 => ((some (([] : List Int) : List Int)).bind fun y766 => (if y766.length + l1.length < 140737488355328 then ((some (y766 ++ l1 : List Int)).bind fun y769 => ((lanyardref06_Of.f kj2 l0).bind fun t772 => ((lanyardref06_Of.f kj2 l1).bind fun t775 => ((nat_Add.f kj2 y763 y769).bind fun bt778 => ((nat_Mul.f kj2 y763 y769).bind fun bt782 => ((nat_Sub.f kj2 y763 y769).bind fun bt786 => (if (strOfNums y763).toList = (strOfNums l0).toList then (if (strOfNums y769).toList = (strOfNums l1).toList then (if bt778.2 = 0 then (if bt782.2 = 0 then ((lanyardref06_Add.f kj2 t772 t775).bind fun t790 => ((lanyardlaw06_same.f kj2 bt778.1 t790).bind fun t793 => (if t793 = true then ((lanyardref06_Mul.f kj2 t772 t775).bind fun t794 => ((lanyardlaw06_same.f kj2 bt782.1 t794).bind fun t797 => (if t797 = true then ((nat_Cmp.f kj2 l0 l1).bind fun t798 => ((lanyardref06_Cmp.f kj2 t772 t775).bind fun t799 => (if t798 = t799 then ((nat_Trim.f l0).bind fun t800 => ((lanyardlaw06_same.f kj2 t800 t772).bind fun t803 => (lanyardlaw06_NatSums.j1 kj2 t772 t775 bt786.1 bt786.2 (!t803)))) else (lanyardlaw06_NatSums.j1 kj2 t772 t775 bt786.1 bt786.2 true)))) else (lanyardlaw06_NatSums.j1 kj2 t772 t775 bt786.1 bt786.2 true)))) else (lanyardlaw06_NatSums.j1 kj2 t772 t775 bt786.1 bt786.2 true)))) else (lanyardlaw06_NatSums.j1 kj2 t772 t775 bt786.1 bt786.2 true)) else (lanyardlaw06_NatSums.j1 kj2 t772 t775 bt786.1 bt786.2 true)) else (lanyardlaw06_NatSums.j1 kj2 t772 t775 bt786.1 bt786.2 true)) else (lanyardlaw06_NatSums.j1 kj2 t772 t775 bt786.1 bt786.2 true)))))))) else (none)))) else (none))) = some r := by rw [if_neg (show ¬ (false = true) by decide)] at H; exact H
    clear H
    have H := H1
    clear H1
    obtain ⟨y760, hy760⟩ : ∃ y_ : List Int, y_ = (([] : List Int)) := ⟨_, rfl⟩
    replace H : (if y760.length + l0.length < 140737488355328 then ((some (y760 ++ l0 : List Int)).bind fun y763 => ((some (([] : List Int) : List Int)).bind fun y766 => (if y766.length + l1.length < 140737488355328 then ((some (y766 ++ l1 : List Int)).bind fun y769 => ((lanyardref06_Of.f kj2 l0).bind fun t772 => ((lanyardref06_Of.f kj2 l1).bind fun t775 => ((nat_Add.f kj2 y763 y769).bind fun bt778 => ((nat_Mul.f kj2 y763 y769).bind fun bt782 => ((nat_Sub.f kj2 y763 y769).bind fun bt786 => (if (strOfNums y763).toList = (strOfNums l0).toList then (if (strOfNums y769).toList = (strOfNums l1).toList then (if bt778.2 = 0 then (if bt782.2 = 0 then ((lanyardref06_Add.f kj2 t772 t775).bind fun t790 => ((lanyardlaw06_same.f kj2 bt778.1 t790).bind fun t793 => (if t793 = true then ((lanyardref06_Mul.f kj2 t772 t775).bind fun t794 => ((lanyardlaw06_same.f kj2 bt782.1 t794).bind fun t797 => (if t797 = true then ((nat_Cmp.f kj2 l0 l1).bind fun t798 => ((lanyardref06_Cmp.f kj2 t772 t775).bind fun t799 => (if t798 = t799 then ((nat_Trim.f l0).bind fun t800 => ((lanyardlaw06_same.f kj2 t800 t772).bind fun t803 => (lanyardlaw06_NatSums.j1 kj2 t772 t775 bt786.1 bt786.2 (!t803)))) else (lanyardlaw06_NatSums.j1 kj2 t772 t775 bt786.1 bt786.2 true)))) else (lanyardlaw06_NatSums.j1 kj2 t772 t775 bt786.1 bt786.2 true)))) else (lanyardlaw06_NatSums.j1 kj2 t772 t775 bt786.1 bt786.2 true)))) else (lanyardlaw06_NatSums.j1 kj2 t772 t775 bt786.1 bt786.2 true)) else (lanyardlaw06_NatSums.j1 kj2 t772 t775 bt786.1 bt786.2 true)) else (lanyardlaw06_NatSums.j1 kj2 t772 t775 bt786.1 bt786.2 true)) else (lanyardlaw06_NatSums.j1 kj2 t772 t775 bt786.1 bt786.2 true)))))))) else (none)))) else (none)) = some r := by first | (rw [hy760]; with_reducible exact H) | (have H2_ := (Option.bind_some _ _).symm.trans H; rw [hy760]; with_reducible exact H2_) | (have H2_ := (Option.bind_some _ _).symm.trans H; with_reducible exact H2_) | with_reducible exact H | (rw [hy760]; exact H) | exact H
    have Ny760 := Aside0.mk hy760
    clear hy760
    by_cases c13 : y760.length + l0.length < 140737488355328
    ·rw [if_pos c13] at H
     have LMc13 := Aside0.mk c13
     clear c13
     obtain ⟨y763, hy763⟩ : ∃ y_ : List Int, y_ = (y760 ++ l0) := ⟨_, rfl⟩
     replace H : ((some (([] : List Int) : List Int)).bind fun y766 => (if y766.length + l1.length < 140737488355328 then ((some (y766 ++ l1 : List Int)).bind fun y769 => ((lanyardref06_Of.f kj2 l0).bind fun t772 => ((lanyardref06_Of.f kj2 l1).bind fun t775 => ((nat_Add.f kj2 y763 y769).bind fun bt778 => ((nat_Mul.f kj2 y763 y769).bind fun bt782 => ((nat_Sub.f kj2 y763 y769).bind fun bt786 => (if (strOfNums y763).toList = (strOfNums l0).toList then (if (strOfNums y769).toList = (strOfNums l1).toList then (if bt778.2 = 0 then (if bt782.2 = 0 then ((lanyardref06_Add.f kj2 t772 t775).bind fun t790 => ((lanyardlaw06_same.f kj2 bt778.1 t790).bind fun t793 => (if t793 = true then ((lanyardref06_Mul.f kj2 t772 t775).bind fun t794 => ((lanyardlaw06_same.f kj2 bt782.1 t794).bind fun t797 => (if t797 = true then ((nat_Cmp.f kj2 l0 l1).bind fun t798 => ((lanyardref06_Cmp.f kj2 t772 t775).bind fun t799 => (if t798 = t799 then ((nat_Trim.f l0).bind fun t800 => ((lanyardlaw06_same.f kj2 t800 t772).bind fun t803 => (lanyardlaw06_NatSums.j1 kj2 t772 t775 bt786.1 bt786.2 (!t803)))) else (lanyardlaw06_NatSums.j1 kj2 t772 t775 bt786.1 bt786.2 true)))) else (lanyardlaw06_NatSums.j1 kj2 t772 t775 bt786.1 bt786.2 true)))) else (lanyardlaw06_NatSums.j1 kj2 t772 t775 bt786.1 bt786.2 true)))) else (lanyardlaw06_NatSums.j1 kj2 t772 t775 bt786.1 bt786.2 true)) else (lanyardlaw06_NatSums.j1 kj2 t772 t775 bt786.1 bt786.2 true)) else (lanyardlaw06_NatSums.j1 kj2 t772 t775 bt786.1 bt786.2 true)) else (lanyardlaw06_NatSums.j1 kj2 t772 t775 bt786.1 bt786.2 true)))))))) else (none))) = some r := by first | (rw [hy763]; with_reducible exact H) | (have H2_ := (Option.bind_some _ _).symm.trans H; rw [hy763]; with_reducible exact H2_) | (have H2_ := (Option.bind_some _ _).symm.trans H; with_reducible exact H2_) | with_reducible exact H | (rw [hy763]; exact H) | exact H
     have Ny763 := Aside0.mk hy763
     clear hy763
     obtain ⟨y766, hy766⟩ : ∃ y_ : List Int, y_ = (([] : List Int)) := ⟨_, rfl⟩
     replace H : (if y766.length + l1.length < 140737488355328 then ((some (y766 ++ l1 : List Int)).bind fun y769 => ((lanyardref06_Of.f kj2 l0).bind fun t772 => ((lanyardref06_Of.f kj2 l1).bind fun t775 => ((nat_Add.f kj2 y763 y769).bind fun bt778 => ((nat_Mul.f kj2 y763 y769).bind fun bt782 => ((nat_Sub.f kj2 y763 y769).bind fun bt786 => (if (strOfNums y763).toList = (strOfNums l0).toList then (if (strOfNums y769).toList = (strOfNums l1).toList then (if bt778.2 = 0 then (if bt782.2 = 0 then ((lanyardref06_Add.f kj2 t772 t775).bind fun t790 => ((lanyardlaw06_same.f kj2 bt778.1 t790).bind fun t793 => (if t793 = true then ((lanyardref06_Mul.f kj2 t772 t775).bind fun t794 => ((lanyardlaw06_same.f kj2 bt782.1 t794).bind fun t797 => (if t797 = true then ((nat_Cmp.f kj2 l0 l1).bind fun t798 => ((lanyardref06_Cmp.f kj2 t772 t775).bind fun t799 => (if t798 = t799 then ((nat_Trim.f l0).bind fun t800 => ((lanyardlaw06_same.f kj2 t800 t772).bind fun t803 => (lanyardlaw06_NatSums.j1 kj2 t772 t775 bt786.1 bt786.2 (!t803)))) else (lanyardlaw06_NatSums.j1 kj2 t772 t775 bt786.1 bt786.2 true)))) else (lanyardlaw06_NatSums.j1 kj2 t772 t775 bt786.1 bt786.2 true)))) else (lanyardlaw06_NatSums.j1 kj2 t772 t775 bt786.1 bt786.2 true)))) else (lanyardlaw06_NatSums.j1 kj2 t772 t775 bt786.1 bt786.2 true)) else (lanyardlaw06_NatSums.j1 kj2 t772 t775 bt786.1 bt786.2 true)) else (lanyardlaw06_NatSums.j1 kj2 t772 t775 bt786.1 bt786.2 true)) else (lanyardlaw06_NatSums.j1 kj2 t772 t775 bt786.1 bt786.2 true)))))))) else (none)) = some r := by first | (rw [hy766]; with_reducible exact H) | (have H2_ := (Option.bind_some _ _).symm.trans H; rw [hy766]; with_reducible exact H2_) | (have H2_ := (Option.bind_some _ _).symm.trans H; with_reducible exact H2_) | with_reducible exact H | (rw [hy766]; exact H) | exact H
     have Ny766 := Aside0.mk hy766
     clear hy766
     by_cases c14 : y766.length + l1.length < 140737488355328
     ·rw [if_pos c14] at H
      have LMc14 := Aside0.mk c14
      clear c14
      obtain ⟨y769, hy769⟩ : ∃ y_ : List Int, y_ = (y766 ++ l1) := ⟨_, rfl⟩
      replace H : ((lanyardref06_Of.f kj2 l0).bind fun t772 => ((lanyardref06_Of.f kj2 l1).bind fun t775 => ((nat_Add.f kj2 y763 y769).bind fun bt778 => ((nat_Mul.f kj2 y763 y769).bind fun bt782 => ((nat_Sub.f kj2 y763 y769).bind fun bt786 => (if (strOfNums y763).toList = (strOfNums l0).toList then (if (strOfNums y769).toList = (strOfNums l1).toList then (if bt778.2 = 0 then (if bt782.2 = 0 then ((lanyardref06_Add.f kj2 t772 t775).bind fun t790 => ((lanyardlaw06_same.f kj2 bt778.1 t790).bind fun t793 => (if t793 = true then ((lanyardref06_Mul.f kj2 t772 t775).bind fun t794 => ((lanyardlaw06_same.f kj2 bt782.1 t794).bind fun t797 => (if t797 = true then ((nat_Cmp.f kj2 l0 l1).bind fun t798 => ((lanyardref06_Cmp.f kj2 t772 t775).bind fun t799 => (if t798 = t799 then ((nat_Trim.f l0).bind fun t800 => ((lanyardlaw06_same.f kj2 t800 t772).bind fun t803 => (lanyardlaw06_NatSums.j1 kj2 t772 t775 bt786.1 bt786.2 (!t803)))) else (lanyardlaw06_NatSums.j1 kj2 t772 t775 bt786.1 bt786.2 true)))) else (lanyardlaw06_NatSums.j1 kj2 t772 t775 bt786.1 bt786.2 true)))) else (lanyardlaw06_NatSums.j1 kj2 t772 t775 bt786.1 bt786.2 true)))) else (lanyardlaw06_NatSums.j1 kj2 t772 t775 bt786.1 bt786.2 true)) else (lanyardlaw06_NatSums.j1 kj2 t772 t775 bt786.1 bt786.2 true)) else (lanyardlaw06_NatSums.j1 kj2 t772 t775 bt786.1 bt786.2 true)) else (lanyardlaw06_NatSums.j1 kj2 t772 t775 bt786.1 bt786.2 true))))))) = some r := by first | (rw [hy769]; with_reducible exact H) | (have H2_ := (Option.bind_some _ _).symm.trans H; rw [hy769]; with_reducible exact H2_) | (have H2_ := (Option.bind_some _ _).symm.trans H; with_reducible exact H2_) | with_reducible exact H | (rw [hy769]; exact H) | exact H
      have Ny769 := Aside0.mk hy769
      clear hy769
      replace H := Option.bind_eq_some_iff.mp H
      obtain ⟨t772, A150, H⟩ := H
      replace H : ((lanyardref06_Of.f kj2 l1).bind fun t775 => ((nat_Add.f kj2 y763 y769).bind fun bt778 => ((nat_Mul.f kj2 y763 y769).bind fun bt782 => ((nat_Sub.f kj2 y763 y769).bind fun bt786 => (if (strOfNums y763).toList = (strOfNums l0).toList then (if (strOfNums y769).toList = (strOfNums l1).toList then (if bt778.2 = 0 then (if bt782.2 = 0 then ((lanyardref06_Add.f kj2 t772 t775).bind fun t790 => ((lanyardlaw06_same.f kj2 bt778.1 t790).bind fun t793 => (if t793 = true then ((lanyardref06_Mul.f kj2 t772 t775).bind fun t794 => ((lanyardlaw06_same.f kj2 bt782.1 t794).bind fun t797 => (if t797 = true then ((nat_Cmp.f kj2 l0 l1).bind fun t798 => ((lanyardref06_Cmp.f kj2 t772 t775).bind fun t799 => (if t798 = t799 then ((nat_Trim.f l0).bind fun t800 => ((lanyardlaw06_same.f kj2 t800 t772).bind fun t803 => (lanyardlaw06_NatSums.j1 kj2 t772 t775 bt786.1 bt786.2 (!t803)))) else (lanyardlaw06_NatSums.j1 kj2 t772 t775 bt786.1 bt786.2 true)))) else (lanyardlaw06_NatSums.j1 kj2 t772 t775 bt786.1 bt786.2 true)))) else (lanyardlaw06_NatSums.j1 kj2 t772 t775 bt786.1 bt786.2 true)))) else (lanyardlaw06_NatSums.j1 kj2 t772 t775 bt786.1 bt786.2 true)) else (lanyardlaw06_NatSums.j1 kj2 t772 t775 bt786.1 bt786.2 true)) else (lanyardlaw06_NatSums.j1 kj2 t772 t775 bt786.1 bt786.2 true)) else (lanyardlaw06_NatSums.j1 kj2 t772 t775 bt786.1 bt786.2 true)))))) = some r := H
      have A15 := Aside0.mk A150
      clear A150
      replace H := Option.bind_eq_some_iff.mp H
      obtain ⟨t775, A160, H⟩ := H
      replace H : ((nat_Add.f kj2 y763 y769).bind fun bt778 => ((nat_Mul.f kj2 y763 y769).bind fun bt782 => ((nat_Sub.f kj2 y763 y769).bind fun bt786 => (if (strOfNums y763).toList = (strOfNums l0).toList then (if (strOfNums y769).toList = (strOfNums l1).toList then (if bt778.2 = 0 then (if bt782.2 = 0 then ((lanyardref06_Add.f kj2 t772 t775).bind fun t790 => ((lanyardlaw06_same.f kj2 bt778.1 t790).bind fun t793 => (if t793 = true then ((lanyardref06_Mul.f kj2 t772 t775).bind fun t794 => ((lanyardlaw06_same.f kj2 bt782.1 t794).bind fun t797 => (if t797 = true then ((nat_Cmp.f kj2 l0 l1).bind fun t798 => ((lanyardref06_Cmp.f kj2 t772 t775).bind fun t799 => (if t798 = t799 then ((nat_Trim.f l0).bind fun t800 => ((lanyardlaw06_same.f kj2 t800 t772).bind fun t803 => (lanyardlaw06_NatSums.j1 kj2 t772 t775 bt786.1 bt786.2 (!t803)))) else (lanyardlaw06_NatSums.j1 kj2 t772 t775 bt786.1 bt786.2 true)))) else (lanyardlaw06_NatSums.j1 kj2 t772 t775 bt786.1 bt786.2 true)))) else (lanyardlaw06_NatSums.j1 kj2 t772 t775 bt786.1 bt786.2 true)))) else (lanyardlaw06_NatSums.j1 kj2 t772 t775 bt786.1 bt786.2 true)) else (lanyardlaw06_NatSums.j1 kj2 t772 t775 bt786.1 bt786.2 true)) else (lanyardlaw06_NatSums.j1 kj2 t772 t775 bt786.1 bt786.2 true)) else (lanyardlaw06_NatSums.j1 kj2 t772 t775 bt786.1 bt786.2 true))))) = some r := H
      have A16 := Aside0.mk A160
      clear A160
      replace H := Option.bind_eq_some_iff.mp H
      obtain ⟨⟨t778, t779⟩, A170, H⟩ := H
      replace H : ((nat_Mul.f kj2 y763 y769).bind fun bt782 => ((nat_Sub.f kj2 y763 y769).bind fun bt786 => (if (strOfNums y763).toList = (strOfNums l0).toList then (if (strOfNums y769).toList = (strOfNums l1).toList then (if t779 = 0 then (if bt782.2 = 0 then ((lanyardref06_Add.f kj2 t772 t775).bind fun t790 => ((lanyardlaw06_same.f kj2 t778 t790).bind fun t793 => (if t793 = true then ((lanyardref06_Mul.f kj2 t772 t775).bind fun t794 => ((lanyardlaw06_same.f kj2 bt782.1 t794).bind fun t797 => (if t797 = true then ((nat_Cmp.f kj2 l0 l1).bind fun t798 => ((lanyardref06_Cmp.f kj2 t772 t775).bind fun t799 => (if t798 = t799 then ((nat_Trim.f l0).bind fun t800 => ((lanyardlaw06_same.f kj2 t800 t772).bind fun t803 => (lanyardlaw06_NatSums.j1 kj2 t772 t775 bt786.1 bt786.2 (!t803)))) else (lanyardlaw06_NatSums.j1 kj2 t772 t775 bt786.1 bt786.2 true)))) else (lanyardlaw06_NatSums.j1 kj2 t772 t775 bt786.1 bt786.2 true)))) else (lanyardlaw06_NatSums.j1 kj2 t772 t775 bt786.1 bt786.2 true)))) else (lanyardlaw06_NatSums.j1 kj2 t772 t775 bt786.1 bt786.2 true)) else (lanyardlaw06_NatSums.j1 kj2 t772 t775 bt786.1 bt786.2 true)) else (lanyardlaw06_NatSums.j1 kj2 t772 t775 bt786.1 bt786.2 true)) else (lanyardlaw06_NatSums.j1 kj2 t772 t775 bt786.1 bt786.2 true)))) = some r := H
      have A17 := Aside0.mk A170
      clear A170
      replace H := Option.bind_eq_some_iff.mp H
      obtain ⟨⟨t782, t783⟩, A180, H⟩ := H
      replace H : ((nat_Sub.f kj2 y763 y769).bind fun bt786 => (if (strOfNums y763).toList = (strOfNums l0).toList then (if (strOfNums y769).toList = (strOfNums l1).toList then (if t779 = 0 then (if t783 = 0 then ((lanyardref06_Add.f kj2 t772 t775).bind fun t790 => ((lanyardlaw06_same.f kj2 t778 t790).bind fun t793 => (if t793 = true then ((lanyardref06_Mul.f kj2 t772 t775).bind fun t794 => ((lanyardlaw06_same.f kj2 t782 t794).bind fun t797 => (if t797 = true then ((nat_Cmp.f kj2 l0 l1).bind fun t798 => ((lanyardref06_Cmp.f kj2 t772 t775).bind fun t799 => (if t798 = t799 then ((nat_Trim.f l0).bind fun t800 => ((lanyardlaw06_same.f kj2 t800 t772).bind fun t803 => (lanyardlaw06_NatSums.j1 kj2 t772 t775 bt786.1 bt786.2 (!t803)))) else (lanyardlaw06_NatSums.j1 kj2 t772 t775 bt786.1 bt786.2 true)))) else (lanyardlaw06_NatSums.j1 kj2 t772 t775 bt786.1 bt786.2 true)))) else (lanyardlaw06_NatSums.j1 kj2 t772 t775 bt786.1 bt786.2 true)))) else (lanyardlaw06_NatSums.j1 kj2 t772 t775 bt786.1 bt786.2 true)) else (lanyardlaw06_NatSums.j1 kj2 t772 t775 bt786.1 bt786.2 true)) else (lanyardlaw06_NatSums.j1 kj2 t772 t775 bt786.1 bt786.2 true)) else (lanyardlaw06_NatSums.j1 kj2 t772 t775 bt786.1 bt786.2 true))) = some r := H
      have A18 := Aside0.mk A180
      clear A180
      replace H := Option.bind_eq_some_iff.mp H
      obtain ⟨⟨t786, t787⟩, A190, H⟩ := H
      replace H : (if (strOfNums y763).toList = (strOfNums l0).toList then (if (strOfNums y769).toList = (strOfNums l1).toList then (if t779 = 0 then (if t783 = 0 then ((lanyardref06_Add.f kj2 t772 t775).bind fun t790 => ((lanyardlaw06_same.f kj2 t778 t790).bind fun t793 => (if t793 = true then ((lanyardref06_Mul.f kj2 t772 t775).bind fun t794 => ((lanyardlaw06_same.f kj2 t782 t794).bind fun t797 => (if t797 = true then ((nat_Cmp.f kj2 l0 l1).bind fun t798 => ((lanyardref06_Cmp.f kj2 t772 t775).bind fun t799 => (if t798 = t799 then ((nat_Trim.f l0).bind fun t800 => ((lanyardlaw06_same.f kj2 t800 t772).bind fun t803 => (lanyardlaw06_NatSums.j1 kj2 t772 t775 t786 t787 (!t803)))) else (lanyardlaw06_NatSums.j1 kj2 t772 t775 t786 t787 true)))) else (lanyardlaw06_NatSums.j1 kj2 t772 t775 t786 t787 true)))) else (lanyardlaw06_NatSums.j1 kj2 t772 t775 t786 t787 true)))) else (lanyardlaw06_NatSums.j1 kj2 t772 t775 t786 t787 true)) else (lanyardlaw06_NatSums.j1 kj2 t772 t775 t786 t787 true)) else (lanyardlaw06_NatSums.j1 kj2 t772 t775 t786 t787 true)) else (lanyardlaw06_NatSums.j1 kj2 t772 t775 t786 t787 true)) = some r := H
      have A19 := Aside0.mk A190
      clear A190
      have HC20 := Aside0.mk H
      clear H
      go_upto_region 8 with (first | ((with_reducible refine gate_dst (N := 28) rfl ?_); (try (refine gate_guard (by rfl) ?_; dsimp only)); refine litI .u8 5 28 [] [] ?hr ?_; (case hr => first | (go_simp; done) | (go_simp; rfl)); intro v761 w21 ho22 hb; (first | rw [← Ny760.out] at ho22 | (simp only [Int.reduceToNat] at ho22; rw [← Ny760.out] at ho22)); have n0_ := Aside0.mk (Kd.R_lower ho22 (Bz HB)); have n1_ := Bs HB hb; clear HB; revert n0_ n1_; intro HO762 HB; clear hb ho22) | ((with_reducible refine gate_builtin (b := .append) (xs := #[.tmp 28, .tmp 29]) rfl ?_); (try (refine gate_guard (by rfl) ?_; dsimp only)); at_builtin; refine Kd.R_append_rows (Kd.int .u8) (w0 := w) w.heap.size rfl (.tmp 28) (.tmp 29) 22 5 (.int .u8 0) 1 rfl Tryd.underlying22 info5 rfl (by decide) (by omega) v761 y760 l0 _ _ _ (fun _ => True) (fun _ => False) rfl rfl ?aO ?aR (fun _ _ h => h) (fun _ h => h.elim) ?aF ?aB ?aS ?aL ?_; (case aR => repeat (first | exact (Kd.C_below HR0.out HB.out) | (with_reducible refine Kd.C_alloc ?_ _) | (with_reducible refine Kd.C_drewN ?_ _) | (with_reducible refine Kd.C_drew ?_))); (case aB => exact (Bu HB)); (case aF => exact (fun _ _ => trivial)); (case aO => exact (Ru HO762)); (case aS => exact (Bz HB)); (case aL => have := LMc13.out; omega); intro v764 w23 ho hb hg hat; rw [← Ny763.out] at ho; have n0_ := Aside0.mk (hb); have n1_ := Aside0.mk (ho); clear HB HO762; revert n0_ n1_; intro HB HO765; clear ho hb hg hat) | ((with_reducible refine gate_dst (N := 31) rfl ?_); (try (refine gate_guard (by rfl) ?_; dsimp only)); refine litI .u8 5 31 [] [] ?hr ?_; (case hr => first | (go_simp; done) | (go_simp; rfl)); intro v767 w24 ho25 hb; (first | rw [← Ny766.out] at ho25 | (simp only [Int.reduceToNat] at ho25; rw [← Ny766.out] at ho25)); have n0_ := Re HO765 (Kd.R_base ho25) hb; have n1_ := Aside0.mk (Kd.R_lower (Kd.R_new' ho25 (Kd.R_lt (Ru HO765))) (Bz HB)); have n2_ := Bs HB hb; clear HO765 HB; revert n0_ n1_ n2_; intro HO765 HO768 HB; clear hb ho25) | ((with_reducible refine gate_builtin (b := .append) (xs := #[.tmp 31, .tmp 32]) rfl ?_); (try (refine gate_guard (by rfl) ?_; dsimp only)); at_builtin; refine Kd.R_append_rows (Kd.int .u8) (w0 := w) w.heap.size rfl (.tmp 31) (.tmp 32) 22 5 (.int .u8 0) 1 rfl Tryd.underlying22 info5 rfl (by decide) (by omega) v767 y766 l1 _ _ _ (fun k_ => some k_ ≠ (v764 : Value).ownBlock) (fun _ => False) rfl rfl ?aO ?aR (fun _ _ h => h) (fun _ h => h.elim) ?aF ?aB ?aS ?aL ?_; (case aR => repeat (first | exact (Kd.C_below HR1.out HB.out) | (with_reducible refine Kd.C_alloc ?_ _) | (with_reducible refine Kd.C_drewN ?_ _) | (with_reducible refine Kd.C_drew ?_))); (case aB => exact (Bu HB)); (case aF => exact (fun k_ hk => Kd.fresh' (Kd.R_lt (Ru HO765)) k_ hk)); (case aO => exact (by (with_reducible repeat (first | apply Kd.R_alloc | apply Kd.R_drewN | apply Kd.R_drew)); exact Kd.R_mono HO768.out (fun _ hk => hk.2))); (case aS => exact (Bz HB)); (case aL => have := LMc14.out; omega); intro v770 w26 ho hb hg hat; rw [← Ny769.out] at ho; have n0_ := Aside0.mk (Kd.R_after (ok := (fun _ => True)) (Ru HO765) hg hat); have n1_ := Aside0.mk (hb); have n2_ := Aside0.mk (ho); clear HO765 HB HO768; revert n0_ n1_ n2_; intro HO765 HB HO771; clear ho hb hg hat) | ((with_reducible refine gate_callee (f := 12) rfl ?_); refine goesA (some 35) Tryd.func12 #[.slice A0 l0.length c0] rfl ?_; (with_reducible refine (lanyardref06_Of.calls kj2 _ _ l0 t772 _ ?side1 ?side2 A15.out).mono ?_); (case side1 => exact Cu (Kd.C_below HR0.out HB.out)); (case side2 => exact HC0.out); rintro e w27 ⟨v773, rfl, ho0, hb⟩; refine ⟨_, rfl, ?_⟩; have n0_ := Rb HO765 hb; have n1_ := Rb HO771 hb; have n2_ := Aside0.mk (Kd.V_lower (Kd.V_mono (ok' := fun k_ => some k_ ≠ (v764 : Value).ownBlock ∧ some k_ ≠ (v770 : Value).ownBlock) ho0 (fun k_ hk_ => ⟨(Kd.fresh' (Kd.R_lt (Ru HO765)) k_ hk_), (Kd.fresh' (Kd.R_lt (Ru HO771)) k_ hk_)⟩)) (Bz HB)); have n3_ := Bs HB hb; clear HO765 HO771 HB; revert n0_ n1_ n2_ n3_; intro HO765 HO771 HO774 HB; (try clear hb); (try clear hb2); (try clear hk); (try clear hi); (try clear ho0)) | ((with_reducible refine gate_callee (f := 12) rfl ?_); refine goesA (some 37) Tryd.func12 #[.slice A1 l1.length c1] rfl ?_; (with_reducible refine (lanyardref06_Of.calls kj2 _ _ l1 t775 _ ?side1 ?side2 A16.out).mono ?_); (case side1 => exact Cu (Kd.C_below HR1.out HB.out)); (case side2 => exact HC1.out); rintro e w28 ⟨v776, rfl, ho0, hb⟩; refine ⟨_, rfl, ?_⟩; have n0_ := Rb HO765 hb; have n1_ := Rb HO771 hb; have n2_ := Vb HO774 hb; have n3_ := Aside0.mk (Kd.V_lower (Kd.V_mono (ok' := fun k_ => some k_ ≠ (v764 : Value).ownBlock ∧ some k_ ≠ (v770 : Value).ownBlock) ho0 (fun k_ hk_ => ⟨(Kd.fresh' (Kd.R_lt (Ru HO765)) k_ hk_), (Kd.fresh' (Kd.R_lt (Ru HO771)) k_ hk_)⟩)) (Bz HB)); have n4_ := Bs HB hb; clear HO765 HO771 HO774 HB; revert n0_ n1_ n2_ n3_ n4_; intro HO765 HO771 HO774 HO777 HB; (try clear hb); (try clear hb2); (try clear hk); (try clear hi); (try clear ho0); obtain ⟨Ao29, co29, eo29⟩ := Kd.R_slice HO765.out; subst eo29; obtain ⟨Ao30, co30, eo30⟩ := Kd.R_slice HO771.out; subst eo30) | ((with_reducible refine gate_callee (f := 25) rfl ?_); refine goesA (some 41) Tryd.func25 #[.slice Ao29 y763.length co29, .slice Ao30 y769.length co30] rfl ?_; (with_reducible refine (nat_Add.calls kj2 _ _ y763 _ _ y769 t778 t779 _ ?side1 ?side2 ?side3 ?side4 A17.out).mono ?_); (case side1 => exact Cu (Kd.R_reads' HO765.out).2.2); (case side2 => exact (Kd.R_reads' HO765.out).2.1); (case side3 => exact Cu (Kd.R_reads' HO771.out).2.2); (case side4 => exact (Kd.R_reads' HO771.out).2.1); rintro e w31 ⟨v780, rfl, ho0, hb⟩; refine ⟨_, rfl, ?_⟩; have n0_ := Re HO765 (Kd.R_base ho0) hb; have n1_ := Re HO771 (Kd.R_base ho0) hb; have n2_ := Ve HO774 (Kd.R_base ho0) hb; have n3_ := Ve HO777 (Kd.R_base ho0) hb; have n4_ := Aside0.mk (Kd.R_lower (Kd.R_new' (Kd.R_new' ho0 (Kd.R_lt (Ru HO765))) (Kd.R_lt (Ru HO771))) (Bz HB)); have n5_ := Bs HB hb; clear HO765 HO771 HO774 HO777 HB; revert n0_ n1_ n2_ n3_ n4_ n5_; intro HO765 HO771 HO774 HO777 HO781 HB; (try clear hb); (try clear hb2); (try clear hk); (try clear hi); (try clear ho0)) | ((with_reducible refine gate_callee (f := 23) rfl ?_); refine goesA (some 47) Tryd.func23 #[.slice Ao29 y763.length co29, .slice Ao30 y769.length co30] rfl ?_; (with_reducible refine (nat_Mul.calls kj2 _ _ y763 _ _ y769 t782 t783 _ ?side1 ?side2 ?side3 ?side4 A18.out).mono ?_); (case side1 => exact Cu (Kd.R_reads' HO765.out).2.2); (case side2 => exact (Kd.R_reads' HO765.out).2.1); (case side3 => exact Cu (Kd.R_reads' HO771.out).2.2); (case side4 => exact (Kd.R_reads' HO771.out).2.1); rintro e w32 ⟨v784, rfl, ho0, hb⟩; refine ⟨_, rfl, ?_⟩; have n0_ := Re HO765 (Kd.R_base ho0) hb; have n1_ := Re HO771 (Kd.R_base ho0) hb; have n2_ := Ve HO774 (Kd.R_base ho0) hb; have n3_ := Ve HO777 (Kd.R_base ho0) hb; have n4_ := Re HO781 (Kd.R_base ho0) hb; have n5_ := Aside0.mk (Kd.R_lower (Kd.R_new' (Kd.R_new' (Kd.R_new' ho0 (Kd.R_lt (Ru HO765))) (Kd.R_lt (Ru HO771))) (Kd.R_lt (Ru HO781))) (Bz HB)); have n6_ := Bs HB hb; clear HO765 HO771 HO774 HO777 HO781 HB; revert n0_ n1_ n2_ n3_ n4_ n5_ n6_; intro HO765 HO771 HO774 HO777 HO781 HO785 HB; (try clear hb); (try clear hb2); (try clear hk); (try clear hi); (try clear ho0)) | ((with_reducible refine gate_callee (f := 27) rfl ?_); refine goesA (some 53) Tryd.func27 #[.slice Ao29 y763.length co29, .slice Ao30 y769.length co30] rfl ?_; (with_reducible refine (nat_Sub.calls kj2 _ _ y763 _ _ y769 t786 t787 _ ?side1 ?side2 ?side3 ?side4 A19.out).mono ?_); (case side1 => exact Cu (Kd.R_reads' HO765.out).2.2); (case side2 => exact (Kd.R_reads' HO765.out).2.1); (case side3 => exact Cu (Kd.R_reads' HO771.out).2.2); (case side4 => exact (Kd.R_reads' HO771.out).2.1); rintro e w33 ⟨v788, rfl, ho0, hb⟩; refine ⟨_, rfl, ?_⟩; have n0_ := Re HO765 (Kd.R_base ho0) hb; have n1_ := Re HO771 (Kd.R_base ho0) hb; have n2_ := Ve HO774 (Kd.R_base ho0) hb; have n3_ := Ve HO777 (Kd.R_base ho0) hb; have n4_ := Re HO781 (Kd.R_base ho0) hb; have n5_ := Re HO785 (Kd.R_base ho0) hb; have n6_ := Aside0.mk (Kd.R_lower (Kd.R_new' (Kd.R_new' (Kd.R_new' (Kd.R_new' ho0 (Kd.R_lt (Ru HO765))) (Kd.R_lt (Ru HO771))) (Kd.R_lt (Ru HO781))) (Kd.R_lt (Ru HO785))) (Bz HB)); have n7_ := Bs HB hb; clear HO765 HO771 HO774 HO777 HO781 HO785 HB; revert n0_ n1_ n2_ n3_ n4_ n5_ n6_ n7_; intro HO765 HO771 HO774 HO777 HO781 HO785 HO789 HB; (try clear hb); (try clear hb2); (try clear hk); (try clear hi); (try clear ho0)))
      (try simp only [Act.put, List.setIfInBounds_toArray, List.set_cons_zero, List.set_cons_succ])
      go_cut [107] (fun v107 wc => ∃ (kq : Nat) (x107_19 : Bool), v107 = .bool x107_19 ∧ Aside0 (lanyardlaw06_NatSums.j1 kq t772 t775 t786 t787 x107_19 = some r) ∧ Aside0 (kq ≤ kj2) ∧ Aside0 (Kd.V (Kd.int .i64) 3 wc w.heap.size (fun k_ => some k_ ≠ (v788 : Value).ownBlock) v773 t772) ∧ Aside0 (Kd.V (Kd.int .i64) 3 wc w.heap.size (fun k_ => some k_ ≠ (v788 : Value).ownBlock) v776 t775) ∧ Aside0 (Kd.R (Kd.int .u8) 5 wc w.heap.size (fun _ => True) v788 t786) ∧ Aside0 (Below w.heap.size w wc))
      case first =>
       have H := HC20.out
       clear HC20
       refine (Classical.em ((strOfNums y763).toList = (strOfNums l0).toList)).elim (fun c34 => ?a40_) (fun c34 => ?b40_)
       case' a40_ =>
        rw [if_pos c34] at H
        have c34b0 : ((strOfNums y763).toList == (strOfNums l0).toList) = true := beq_iff_eq.mpr c34
        have c34b1 : ((strOfNums y763).toList != (strOfNums l0).toList) = false := bne_eq_false_iff_eq.mpr c34
        clear c34
        (first | rw [c34b0] | (simp only [i64_w, i32_w]; rw [c34b0]) | skip)
        refine (Classical.em ((strOfNums y769).toList = (strOfNums l1).toList)).elim (fun c35 => ?a41_) (fun c35 => ?b41_)
        case' a41_ =>
         rw [if_pos c35] at H
         have c35b0 : ((strOfNums y769).toList == (strOfNums l1).toList) = true := beq_iff_eq.mpr c35
         have c35b1 : ((strOfNums y769).toList != (strOfNums l1).toList) = false := bne_eq_false_iff_eq.mpr c35
         clear c35
         refine (Classical.em (t779 = 0)).elim (fun c36 => ?a42_) (fun c36 => ?b42_)
         case' a42_ =>
          rw [if_pos c36] at H
          have c36b0 : (t779 == 0) = true := beq_iff_eq.mpr c36
          have c36b1 : (t779 != 0) = false := bne_eq_false_iff_eq.mpr c36
          clear c36
          refine (Classical.em (t783 = 0)).elim (fun c37 => ?a43_) (fun c37 => ?b43_)
          case' a43_ =>
           rw [if_pos c37] at H
           have c37b0 : (t783 == 0) = true := beq_iff_eq.mpr c37
           have c37b1 : (t783 != 0) = false := bne_eq_false_iff_eq.mpr c37
           clear c37
           replace H := Option.bind_eq_some_iff.mp H
           obtain ⟨t790, A380, H⟩ := H
           replace H : ((lanyardlaw06_same.f kj2 t778 t790).bind fun t793 => (if t793 = true then ((lanyardref06_Mul.f kj2 t772 t775).bind fun t794 => ((lanyardlaw06_same.f kj2 t782 t794).bind fun t797 => (if t797 = true then ((nat_Cmp.f kj2 l0 l1).bind fun t798 => ((lanyardref06_Cmp.f kj2 t772 t775).bind fun t799 => (if t798 = t799 then ((nat_Trim.f l0).bind fun t800 => ((lanyardlaw06_same.f kj2 t800 t772).bind fun t803 => (lanyardlaw06_NatSums.j1 kj2 t772 t775 t786 t787 (!t803)))) else (lanyardlaw06_NatSums.j1 kj2 t772 t775 t786 t787 true)))) else (lanyardlaw06_NatSums.j1 kj2 t772 t775 t786 t787 true)))) else (lanyardlaw06_NatSums.j1 kj2 t772 t775 t786 t787 true))) = some r := H
           have A38 := Aside0.mk A380
           clear A380
           replace H := Option.bind_eq_some_iff.mp H
           obtain ⟨t793, A390, H⟩ := H
           replace H : (if t793 = true then ((lanyardref06_Mul.f kj2 t772 t775).bind fun t794 => ((lanyardlaw06_same.f kj2 t782 t794).bind fun t797 => (if t797 = true then ((nat_Cmp.f kj2 l0 l1).bind fun t798 => ((lanyardref06_Cmp.f kj2 t772 t775).bind fun t799 => (if t798 = t799 then ((nat_Trim.f l0).bind fun t800 => ((lanyardlaw06_same.f kj2 t800 t772).bind fun t803 => (lanyardlaw06_NatSums.j1 kj2 t772 t775 t786 t787 (!t803)))) else (lanyardlaw06_NatSums.j1 kj2 t772 t775 t786 t787 true)))) else (lanyardlaw06_NatSums.j1 kj2 t772 t775 t786 t787 true)))) else (lanyardlaw06_NatSums.j1 kj2 t772 t775 t786 t787 true)) = some r := H
           have A39 := Aside0.mk A390
           clear A390
           by_cases c40 : t793 = true
           ·subst c40
            have H1 : ((lanyardref06_Mul.f kj2 t772 t775).bind fun t794 => ((lanyardlaw06_same.f kj2 t782 t794).bind fun t797 => (if t797 = true then ((nat_Cmp.f kj2 l0 l1).bind fun t798 => ((lanyardref06_Cmp.f kj2 t772 t775).bind fun t799 => (if t798 = t799 then ((nat_Trim.f l0).bind fun t800 => ((lanyardlaw06_same.f kj2 t800 t772).bind fun t803 => (lanyardlaw06_NatSums.j1 kj2 t772 t775 t786 t787 (!t803)))) else (lanyardlaw06_NatSums.j1 kj2 t772 t775 t786 t787 true)))) else (lanyardlaw06_NatSums.j1 kj2 t772 t775 t786 t787 true)))) = some r := by rw [if_pos rfl] at H; exact H
            clear H
            have H := H1
            clear H1
            replace H := Option.bind_eq_some_iff.mp H
            obtain ⟨t794, A410, H⟩ := H
            replace H : ((lanyardlaw06_same.f kj2 t782 t794).bind fun t797 => (if t797 = true then ((nat_Cmp.f kj2 l0 l1).bind fun t798 => ((lanyardref06_Cmp.f kj2 t772 t775).bind fun t799 => (if t798 = t799 then ((nat_Trim.f l0).bind fun t800 => ((lanyardlaw06_same.f kj2 t800 t772).bind fun t803 => (lanyardlaw06_NatSums.j1 kj2 t772 t775 t786 t787 (!t803)))) else (lanyardlaw06_NatSums.j1 kj2 t772 t775 t786 t787 true)))) else (lanyardlaw06_NatSums.j1 kj2 t772 t775 t786 t787 true))) = some r := H
            have A41 := Aside0.mk A410
            clear A410
            replace H := Option.bind_eq_some_iff.mp H
            obtain ⟨t797, A420, H⟩ := H
            replace H : (if t797 = true then ((nat_Cmp.f kj2 l0 l1).bind fun t798 => ((lanyardref06_Cmp.f kj2 t772 t775).bind fun t799 => (if t798 = t799 then ((nat_Trim.f l0).bind fun t800 => ((lanyardlaw06_same.f kj2 t800 t772).bind fun t803 => (lanyardlaw06_NatSums.j1 kj2 t772 t775 t786 t787 (!t803)))) else (lanyardlaw06_NatSums.j1 kj2 t772 t775 t786 t787 true)))) else (lanyardlaw06_NatSums.j1 kj2 t772 t775 t786 t787 true)) = some r := H
            have A42 := Aside0.mk A420
            clear A420
            by_cases c43 : t797 = true
            ·subst c43
             have H1 : ((nat_Cmp.f kj2 l0 l1).bind fun t798 => ((lanyardref06_Cmp.f kj2 t772 t775).bind fun t799 => (if t798 = t799 then ((nat_Trim.f l0).bind fun t800 => ((lanyardlaw06_same.f kj2 t800 t772).bind fun t803 => (lanyardlaw06_NatSums.j1 kj2 t772 t775 t786 t787 (!t803)))) else (lanyardlaw06_NatSums.j1 kj2 t772 t775 t786 t787 true)))) = some r := by rw [if_pos rfl] at H; exact H
             clear H
             have H := H1
             clear H1
             replace H := Option.bind_eq_some_iff.mp H
             obtain ⟨t798, A440, H⟩ := H
             replace H : ((lanyardref06_Cmp.f kj2 t772 t775).bind fun t799 => (if t798 = t799 then ((nat_Trim.f l0).bind fun t800 => ((lanyardlaw06_same.f kj2 t800 t772).bind fun t803 => (lanyardlaw06_NatSums.j1 kj2 t772 t775 t786 t787 (!t803)))) else (lanyardlaw06_NatSums.j1 kj2 t772 t775 t786 t787 true))) = some r := H
             have A44 := Aside0.mk A440
             clear A440
             replace H := Option.bind_eq_some_iff.mp H
             obtain ⟨t799, A450, H⟩ := H
             replace H : (if t798 = t799 then ((nat_Trim.f l0).bind fun t800 => ((lanyardlaw06_same.f kj2 t800 t772).bind fun t803 => (lanyardlaw06_NatSums.j1 kj2 t772 t775 t786 t787 (!t803)))) else (lanyardlaw06_NatSums.j1 kj2 t772 t775 t786 t787 true)) = some r := H
             have A45 := Aside0.mk A450
             clear A450
             by_cases c46 : t798 = t799
             ·rw [if_pos c46] at H
              have c46b0 : (t798 == t799) = true := beq_iff_eq.mpr c46
              have c46b1 : (t798 != t799) = false := bne_eq_false_iff_eq.mpr c46
              clear c46
              replace H := Option.bind_eq_some_iff.mp H
              obtain ⟨t800, A470, H⟩ := H
              replace H : ((lanyardlaw06_same.f kj2 t800 t772).bind fun t803 => (lanyardlaw06_NatSums.j1 kj2 t772 t775 t786 t787 (!t803))) = some r := H
              have A47 := Aside0.mk A470
              clear A470
              replace H := Option.bind_eq_some_iff.mp H
              obtain ⟨t803, A480, H⟩ := H
              replace H : (lanyardlaw06_NatSums.j1 kj2 t772 t775 t786 t787 (!t803)) = some r := H
              have A48 := Aside0.mk A480
              clear A480
              have H' := Aside0.mk H
              clear H
              have hcv49 := own_string (P := Tryd.prog) Tryd.underlying22 Tryd.underlying5 Tryd.underlying9 (Kd.own_of_R HO765.out)
              have hcv50 := fun n_ : Nat => own_string (P := Tryd.prog) Tryd.underlying22 Tryd.underlying5 Tryd.underlying9 (Kd.own_of_R (Kd.R_drewN HO765.out n_))
              have hcv51 := Kd.C_string (P := Tryd.prog) (A := A0) (c := c0) Tryd.underlying22 Tryd.underlying5 Tryd.underlying9 (Kd.C_below HR0.out HB.out)
              have hcv52 := fun n_ : Nat => Kd.C_string (P := Tryd.prog) (A := A0) (c := c0) Tryd.underlying22 Tryd.underlying5 Tryd.underlying9 (Kd.C_drewN (Kd.C_below HR0.out HB.out) n_)
              have hcv55 := own_string (P := Tryd.prog) Tryd.underlying22 Tryd.underlying5 Tryd.underlying9 (Kd.own_of_R HO771.out)
              have hcv56 := fun n_ : Nat => own_string (P := Tryd.prog) Tryd.underlying22 Tryd.underlying5 Tryd.underlying9 (Kd.own_of_R (Kd.R_drewN HO771.out n_))
              have hcv57 := Kd.C_string (P := Tryd.prog) (A := A1) (c := c1) Tryd.underlying22 Tryd.underlying5 Tryd.underlying9 (Kd.C_below HR1.out HB.out)
              have hcv58 := fun n_ : Nat => Kd.C_string (P := Tryd.prog) (A := A1) (c := c1) Tryd.underlying22 Tryd.underlying5 Tryd.underlying9 (Kd.C_drewN (Kd.C_below HR1.out HB.out) n_)
              obtain ⟨Ao61, co61, eo61⟩ := Kd.V_slice HO774.out
              subst eo61
              obtain ⟨Ao62, co62, eo62⟩ := Kd.V_slice HO777.out
              subst eo62
              go_wp2_with (first | (go_at_call 28; (with_reducible refine (lanyardref06_Add.calls kj2 _ _ t772 _ _ t775 t790 _ ?side1 ?side2 ?side3 ?side4 A38.out).mono ?_); (case side1 => exact Cu (Kd.V_reads' HO774.out).2.2); (case side2 => exact (Kd.V_reads' HO774.out).2.1); (case side3 => exact Cu (Kd.V_reads' HO777.out).2.2); (case side4 => exact (Kd.V_reads' HO777.out).2.1); rintro e w63 ⟨v791, rfl, ho0, hb⟩; have n0_ := Rb HO765 hb; have n1_ := Rb HO771 hb; have n2_ := Vb HO774 hb; have n3_ := Vb HO777 hb; have n4_ := Rb HO781 hb; have n5_ := Rb HO785 hb; have n6_ := Rb HO789 hb; have n7_ := Aside0.mk (Kd.V_lower (Kd.V_mono (ok' := fun k_ => some k_ ≠ (.slice Ao29 y763.length co29 : Value).ownBlock ∧ some k_ ≠ (.slice Ao30 y769.length co30 : Value).ownBlock ∧ some k_ ≠ (v780 : Value).ownBlock ∧ some k_ ≠ (v784 : Value).ownBlock ∧ some k_ ≠ (v788 : Value).ownBlock) ho0 (fun k_ hk_ => ⟨(Kd.fresh' (Kd.R_lt (Ru HO765)) k_ hk_), (Kd.fresh' (Kd.R_lt (Ru HO771)) k_ hk_), (Kd.fresh' (Kd.R_lt (Ru HO781)) k_ hk_), (Kd.fresh' (Kd.R_lt (Ru HO785)) k_ hk_), (Kd.fresh' (Kd.R_lt (Ru HO789)) k_ hk_)⟩)) (Bz HB)); have n8_ := Bs HB hb; clear HO765 HO771 HO774 HO777 HO781 HO785 HO789 HB; revert n0_ n1_ n2_ n3_ n4_ n5_ n6_ n7_ n8_; intro HO765 HO771 HO774 HO777 HO781 HO785 HO789 HO792 HB; (try clear hb); (try clear hb2); (try clear hk); (try clear hi); (try clear ho0); obtain ⟨Ao64, co64, eo64⟩ := Kd.R_slice HO781.out; subst eo64; obtain ⟨Ao65, co65, eo65⟩ := Kd.V_slice HO792.out; subst eo65) | (go_at_call 15; (with_reducible refine (lanyardlaw06_same.calls kj2 _ _ t778 _ _ t790 true _ ?side1 ?side2 ?side3 ?side4 A39.out).mono ?_); (case side1 => exact Cu (Kd.R_reads' HO781.out).2.2); (case side2 => exact (Kd.R_reads' HO781.out).2.1); (case side3 => exact Cu (Kd.V_reads' HO792.out).2.2); (case side4 => exact (Kd.V_reads' HO792.out).2.1); rintro e w66 ⟨rfl, hb⟩; have n0_ := Rb HO765 hb; have n1_ := Rb HO771 hb; have n2_ := Vb HO774 hb; have n3_ := Vb HO777 hb; have n4_ := Rb HO781 hb; have n5_ := Rb HO785 hb; have n6_ := Rb HO789 hb; have n7_ := Vb HO792 hb; have n8_ := Bs HB hb; clear HO765 HO771 HO774 HO777 HO781 HO785 HO789 HO792 HB; revert n0_ n1_ n2_ n3_ n4_ n5_ n6_ n7_ n8_; intro HO765 HO771 HO774 HO777 HO781 HO785 HO789 HO792 HB; (try clear hb); (try clear hb2); (try clear hk); (try clear hi)) | (go_at_call 22; (with_reducible refine (lanyardref06_Mul.calls kj2 _ _ t772 _ _ t775 t794 _ ?side1 ?side2 ?side3 ?side4 A41.out).mono ?_); (case side1 => exact Cu (Kd.V_reads' HO774.out).2.2); (case side2 => exact (Kd.V_reads' HO774.out).2.1); (case side3 => exact Cu (Kd.V_reads' HO777.out).2.2); (case side4 => exact (Kd.V_reads' HO777.out).2.1); rintro e w67 ⟨v795, rfl, ho0, hb⟩; have n0_ := Rb HO765 hb; have n1_ := Rb HO771 hb; have n2_ := Vb HO774 hb; have n3_ := Vb HO777 hb; have n4_ := Rb HO781 hb; have n5_ := Rb HO785 hb; have n6_ := Rb HO789 hb; have n7_ := Vb HO792 hb; have n8_ := Aside0.mk (Kd.V_lower (Kd.V_mono (ok' := fun k_ => some k_ ≠ (.slice Ao29 y763.length co29 : Value).ownBlock ∧ some k_ ≠ (.slice Ao30 y769.length co30 : Value).ownBlock ∧ some k_ ≠ (.slice Ao64 t778.length co64 : Value).ownBlock ∧ some k_ ≠ (v784 : Value).ownBlock ∧ some k_ ≠ (v788 : Value).ownBlock) ho0 (fun k_ hk_ => ⟨(Kd.fresh' (Kd.R_lt (Ru HO765)) k_ hk_), (Kd.fresh' (Kd.R_lt (Ru HO771)) k_ hk_), (Kd.fresh' (Kd.R_lt (Ru HO781)) k_ hk_), (Kd.fresh' (Kd.R_lt (Ru HO785)) k_ hk_), (Kd.fresh' (Kd.R_lt (Ru HO789)) k_ hk_)⟩)) (Bz HB)); have n9_ := Bs HB hb; clear HO765 HO771 HO774 HO777 HO781 HO785 HO789 HO792 HB; revert n0_ n1_ n2_ n3_ n4_ n5_ n6_ n7_ n8_ n9_; intro HO765 HO771 HO774 HO777 HO781 HO785 HO789 HO792 HO796 HB; (try clear hb); (try clear hb2); (try clear hk); (try clear hi); (try clear ho0); obtain ⟨Ao68, co68, eo68⟩ := Kd.R_slice HO785.out; subst eo68; obtain ⟨Ao69, co69, eo69⟩ := Kd.V_slice HO796.out; subst eo69) | (go_at_call 15; (with_reducible refine (lanyardlaw06_same.calls kj2 _ _ t782 _ _ t794 true _ ?side1 ?side2 ?side3 ?side4 A42.out).mono ?_); (case side1 => exact Cu (Kd.R_reads' HO785.out).2.2); (case side2 => exact (Kd.R_reads' HO785.out).2.1); (case side3 => exact Cu (Kd.V_reads' HO796.out).2.2); (case side4 => exact (Kd.V_reads' HO796.out).2.1); rintro e w70 ⟨rfl, hb⟩; have n0_ := Rb HO765 hb; have n1_ := Rb HO771 hb; have n2_ := Vb HO774 hb; have n3_ := Vb HO777 hb; have n4_ := Rb HO781 hb; have n5_ := Rb HO785 hb; have n6_ := Rb HO789 hb; have n7_ := Vb HO792 hb; have n8_ := Vb HO796 hb; have n9_ := Bs HB hb; clear HO765 HO771 HO774 HO777 HO781 HO785 HO789 HO792 HO796 HB; revert n0_ n1_ n2_ n3_ n4_ n5_ n6_ n7_ n8_ n9_; intro HO765 HO771 HO774 HO777 HO781 HO785 HO789 HO792 HO796 HB; (try clear hb); (try clear hb2); (try clear hk); (try clear hi)) | (go_at_call 24; (with_reducible refine (nat_Cmp.calls kj2 _ _ l0 _ _ l1 t798 _ ?side1 ?side2 ?side3 ?side4 A44.out).mono ?_); (case side1 => exact Cu (Kd.C_below HR0.out HB.out)); (case side2 => exact HC0.out); (case side3 => exact Cu (Kd.C_below HR1.out HB.out)); (case side4 => exact HC1.out); rintro e w71 ⟨rfl, hb⟩; have n0_ := Rb HO765 hb; have n1_ := Rb HO771 hb; have n2_ := Vb HO774 hb; have n3_ := Vb HO777 hb; have n4_ := Rb HO781 hb; have n5_ := Rb HO785 hb; have n6_ := Rb HO789 hb; have n7_ := Vb HO792 hb; have n8_ := Vb HO796 hb; have n9_ := Bs HB hb; clear HO765 HO771 HO774 HO777 HO781 HO785 HO789 HO792 HO796 HB; revert n0_ n1_ n2_ n3_ n4_ n5_ n6_ n7_ n8_ n9_; intro HO765 HO771 HO774 HO777 HO781 HO785 HO789 HO792 HO796 HB; (try clear hb); (try clear hb2); (try clear hk); (try clear hi)) | (go_at_call 21; (with_reducible refine (lanyardref06_Cmp.calls kj2 _ _ t772 _ _ t775 t799 _ ?side1 ?side2 ?side3 ?side4 A45.out).mono ?_); (case side1 => exact Cu (Kd.V_reads' HO774.out).2.2); (case side2 => exact (Kd.V_reads' HO774.out).2.1); (case side3 => exact Cu (Kd.V_reads' HO777.out).2.2); (case side4 => exact (Kd.V_reads' HO777.out).2.1); rintro e w' ⟨rfl, ⟨nd, rfl⟩⟩) | (go_at_call 26; (with_reducible refine (nat_Trim.calls _ _ l0 t800 _ ?side1 ?side2 A47.out).mono ?_); (case side1 => repeat (first | exact (Kd.C_below HR0.out (Bu HB)) | (with_reducible refine Kd.C_alloc ?_ _) | (with_reducible refine Kd.C_drewN ?_ _) | (with_reducible refine Kd.C_drew ?_))); (case side2 => exact HC0.out); rintro e w72 ⟨v801, rfl, ho0, hb⟩; have n0_ := Re HO765 (Kd.R_base ho0) hb; have n1_ := Re HO771 (Kd.R_base ho0) hb; have n2_ := Ve HO774 (Kd.R_base ho0) hb; have n3_ := Ve HO777 (Kd.R_base ho0) hb; have n4_ := Re HO781 (Kd.R_base ho0) hb; have n5_ := Re HO785 (Kd.R_base ho0) hb; have n6_ := Re HO789 (Kd.R_base ho0) hb; have n7_ := Ve HO792 (Kd.R_base ho0) hb; have n8_ := Ve HO796 (Kd.R_base ho0) hb; have n9_ := Aside0.mk (Kd.R_lower (Kd.R_new' (Kd.R_new' (Kd.R_new' (Kd.R_new' (Kd.R_new' ho0 (Kd.R_lt (Ru HO765))) (Kd.R_lt (Ru HO771))) (Kd.R_lt (Ru HO781))) (Kd.R_lt (Ru HO785))) (Kd.R_lt (Ru HO789))) (Bz HB)); have n10_ := Bs HB hb; clear HO765 HO771 HO774 HO777 HO781 HO785 HO789 HO792 HO796 HB; revert n0_ n1_ n2_ n3_ n4_ n5_ n6_ n7_ n8_ n9_ n10_; intro HO765 HO771 HO774 HO777 HO781 HO785 HO789 HO792 HO796 HO802 HB; (try clear hb); (try clear hb2); (try clear hk); (try clear hi); (try clear ho0); obtain ⟨Ao73, co73, eo73⟩ := Kd.R_slice HO802.out; subst eo73) | (go_at_call 15; (with_reducible refine (lanyardlaw06_same.calls kj2 _ _ t800 _ _ t772 t803 _ ?side1 ?side2 ?side3 ?side4 A48.out).mono ?_); (case side1 => exact Cu (Kd.R_reads' HO802.out).2.2); (case side2 => exact (Kd.R_reads' HO802.out).2.1); (case side3 => exact Cu (Kd.V_reads' HO774.out).2.2); (case side4 => exact (Kd.V_reads' HO774.out).2.1); rintro e w74 ⟨rfl, hb⟩; have n0_ := Rb HO765 hb; have n1_ := Rb HO771 hb; have n2_ := Vb HO774 hb; have n3_ := Vb HO777 hb; have n4_ := Rb HO781 hb; have n5_ := Rb HO785 hb; have n6_ := Rb HO789 hb; have n7_ := Vb HO792 hb; have n8_ := Vb HO796 hb; have n9_ := Rb HO802 hb; have n10_ := Bs HB hb; clear HO765 HO771 HO774 HO777 HO781 HO785 HO789 HO792 HO796 HO802 HB; revert n0_ n1_ n2_ n3_ n4_ n5_ n6_ n7_ n8_ n9_ n10_; intro HO765 HO771 HO774 HO777 HO781 HO785 HO789 HO792 HO796 HO802 HB; (try clear hb); (try clear hb2); (try clear hk); (try clear hi)))
              go_meet
              case rel => exact ⟨_, (!t803), (by first | rfl | (simp; done) | (simp [*]; done)), H', ⟨by have := HJ2.out; first | omega | exact Nat.le_refl _⟩, ⟨by (with_reducible repeat (first | apply Kd.V_alloc | apply Kd.V_drewN | apply Kd.V_drew)); exact Kd.V_mono HO774.out (fun _ hk => hk.1.2)⟩, ⟨by (with_reducible repeat (first | apply Kd.V_alloc | apply Kd.V_drewN | apply Kd.V_drew)); exact Kd.V_mono HO777.out (fun _ hk => hk.1.2)⟩, ⟨by (with_reducible repeat (first | apply Kd.R_alloc | apply Kd.R_drewN | apply Kd.R_drew)); exact Kd.R_mono HO789.out (fun _ hk => trivial)⟩, ⟨Bu HB⟩⟩
             ·rw [if_neg c46] at H
              have c46b0 : (t798 == t799) = false := beq_eq_false_iff_ne.mpr c46
              have c46b1 : (t798 != t799) = true := bne_iff_ne.mpr c46
              have H' := Aside0.mk H
              clear H
              have hcv75 := own_string (P := Tryd.prog) Tryd.underlying22 Tryd.underlying5 Tryd.underlying9 (Kd.own_of_R HO765.out)
              have hcv76 := fun n_ : Nat => own_string (P := Tryd.prog) Tryd.underlying22 Tryd.underlying5 Tryd.underlying9 (Kd.own_of_R (Kd.R_drewN HO765.out n_))
              have hcv77 := Kd.C_string (P := Tryd.prog) (A := A0) (c := c0) Tryd.underlying22 Tryd.underlying5 Tryd.underlying9 (Kd.C_below HR0.out HB.out)
              have hcv78 := fun n_ : Nat => Kd.C_string (P := Tryd.prog) (A := A0) (c := c0) Tryd.underlying22 Tryd.underlying5 Tryd.underlying9 (Kd.C_drewN (Kd.C_below HR0.out HB.out) n_)
              have hcv81 := own_string (P := Tryd.prog) Tryd.underlying22 Tryd.underlying5 Tryd.underlying9 (Kd.own_of_R HO771.out)
              have hcv82 := fun n_ : Nat => own_string (P := Tryd.prog) Tryd.underlying22 Tryd.underlying5 Tryd.underlying9 (Kd.own_of_R (Kd.R_drewN HO771.out n_))
              have hcv83 := Kd.C_string (P := Tryd.prog) (A := A1) (c := c1) Tryd.underlying22 Tryd.underlying5 Tryd.underlying9 (Kd.C_below HR1.out HB.out)
              have hcv84 := fun n_ : Nat => Kd.C_string (P := Tryd.prog) (A := A1) (c := c1) Tryd.underlying22 Tryd.underlying5 Tryd.underlying9 (Kd.C_drewN (Kd.C_below HR1.out HB.out) n_)
              obtain ⟨Ao87, co87, eo87⟩ := Kd.V_slice HO774.out
              subst eo87
              obtain ⟨Ao88, co88, eo88⟩ := Kd.V_slice HO777.out
              subst eo88
              go_wp2_with (first | (go_at_call 28; (with_reducible refine (lanyardref06_Add.calls kj2 _ _ t772 _ _ t775 t790 _ ?side1 ?side2 ?side3 ?side4 A38.out).mono ?_); (case side1 => exact Cu (Kd.V_reads' HO774.out).2.2); (case side2 => exact (Kd.V_reads' HO774.out).2.1); (case side3 => exact Cu (Kd.V_reads' HO777.out).2.2); (case side4 => exact (Kd.V_reads' HO777.out).2.1); rintro e w89 ⟨v791, rfl, ho0, hb⟩; have n0_ := Rb HO765 hb; have n1_ := Rb HO771 hb; have n2_ := Vb HO774 hb; have n3_ := Vb HO777 hb; have n4_ := Rb HO781 hb; have n5_ := Rb HO785 hb; have n6_ := Rb HO789 hb; have n7_ := Aside0.mk (Kd.V_lower (Kd.V_mono (ok' := fun k_ => some k_ ≠ (.slice Ao29 y763.length co29 : Value).ownBlock ∧ some k_ ≠ (.slice Ao30 y769.length co30 : Value).ownBlock ∧ some k_ ≠ (v780 : Value).ownBlock ∧ some k_ ≠ (v784 : Value).ownBlock ∧ some k_ ≠ (v788 : Value).ownBlock) ho0 (fun k_ hk_ => ⟨(Kd.fresh' (Kd.R_lt (Ru HO765)) k_ hk_), (Kd.fresh' (Kd.R_lt (Ru HO771)) k_ hk_), (Kd.fresh' (Kd.R_lt (Ru HO781)) k_ hk_), (Kd.fresh' (Kd.R_lt (Ru HO785)) k_ hk_), (Kd.fresh' (Kd.R_lt (Ru HO789)) k_ hk_)⟩)) (Bz HB)); have n8_ := Bs HB hb; clear HO765 HO771 HO774 HO777 HO781 HO785 HO789 HB; revert n0_ n1_ n2_ n3_ n4_ n5_ n6_ n7_ n8_; intro HO765 HO771 HO774 HO777 HO781 HO785 HO789 HO792 HB; (try clear hb); (try clear hb2); (try clear hk); (try clear hi); (try clear ho0); obtain ⟨Ao90, co90, eo90⟩ := Kd.R_slice HO781.out; subst eo90; obtain ⟨Ao91, co91, eo91⟩ := Kd.V_slice HO792.out; subst eo91) | (go_at_call 15; (with_reducible refine (lanyardlaw06_same.calls kj2 _ _ t778 _ _ t790 true _ ?side1 ?side2 ?side3 ?side4 A39.out).mono ?_); (case side1 => exact Cu (Kd.R_reads' HO781.out).2.2); (case side2 => exact (Kd.R_reads' HO781.out).2.1); (case side3 => exact Cu (Kd.V_reads' HO792.out).2.2); (case side4 => exact (Kd.V_reads' HO792.out).2.1); rintro e w92 ⟨rfl, hb⟩; have n0_ := Rb HO765 hb; have n1_ := Rb HO771 hb; have n2_ := Vb HO774 hb; have n3_ := Vb HO777 hb; have n4_ := Rb HO781 hb; have n5_ := Rb HO785 hb; have n6_ := Rb HO789 hb; have n7_ := Vb HO792 hb; have n8_ := Bs HB hb; clear HO765 HO771 HO774 HO777 HO781 HO785 HO789 HO792 HB; revert n0_ n1_ n2_ n3_ n4_ n5_ n6_ n7_ n8_; intro HO765 HO771 HO774 HO777 HO781 HO785 HO789 HO792 HB; (try clear hb); (try clear hb2); (try clear hk); (try clear hi)) | (go_at_call 22; (with_reducible refine (lanyardref06_Mul.calls kj2 _ _ t772 _ _ t775 t794 _ ?side1 ?side2 ?side3 ?side4 A41.out).mono ?_); (case side1 => exact Cu (Kd.V_reads' HO774.out).2.2); (case side2 => exact (Kd.V_reads' HO774.out).2.1); (case side3 => exact Cu (Kd.V_reads' HO777.out).2.2); (case side4 => exact (Kd.V_reads' HO777.out).2.1); rintro e w93 ⟨v795, rfl, ho0, hb⟩; have n0_ := Rb HO765 hb; have n1_ := Rb HO771 hb; have n2_ := Vb HO774 hb; have n3_ := Vb HO777 hb; have n4_ := Rb HO781 hb; have n5_ := Rb HO785 hb; have n6_ := Rb HO789 hb; have n7_ := Vb HO792 hb; have n8_ := Aside0.mk (Kd.V_lower (Kd.V_mono (ok' := fun k_ => some k_ ≠ (.slice Ao29 y763.length co29 : Value).ownBlock ∧ some k_ ≠ (.slice Ao30 y769.length co30 : Value).ownBlock ∧ some k_ ≠ (.slice Ao90 t778.length co90 : Value).ownBlock ∧ some k_ ≠ (v784 : Value).ownBlock ∧ some k_ ≠ (v788 : Value).ownBlock) ho0 (fun k_ hk_ => ⟨(Kd.fresh' (Kd.R_lt (Ru HO765)) k_ hk_), (Kd.fresh' (Kd.R_lt (Ru HO771)) k_ hk_), (Kd.fresh' (Kd.R_lt (Ru HO781)) k_ hk_), (Kd.fresh' (Kd.R_lt (Ru HO785)) k_ hk_), (Kd.fresh' (Kd.R_lt (Ru HO789)) k_ hk_)⟩)) (Bz HB)); have n9_ := Bs HB hb; clear HO765 HO771 HO774 HO777 HO781 HO785 HO789 HO792 HB; revert n0_ n1_ n2_ n3_ n4_ n5_ n6_ n7_ n8_ n9_; intro HO765 HO771 HO774 HO777 HO781 HO785 HO789 HO792 HO796 HB; (try clear hb); (try clear hb2); (try clear hk); (try clear hi); (try clear ho0); obtain ⟨Ao94, co94, eo94⟩ := Kd.R_slice HO785.out; subst eo94; obtain ⟨Ao95, co95, eo95⟩ := Kd.V_slice HO796.out; subst eo95) | (go_at_call 15; (with_reducible refine (lanyardlaw06_same.calls kj2 _ _ t782 _ _ t794 true _ ?side1 ?side2 ?side3 ?side4 A42.out).mono ?_); (case side1 => exact Cu (Kd.R_reads' HO785.out).2.2); (case side2 => exact (Kd.R_reads' HO785.out).2.1); (case side3 => exact Cu (Kd.V_reads' HO796.out).2.2); (case side4 => exact (Kd.V_reads' HO796.out).2.1); rintro e w96 ⟨rfl, hb⟩; have n0_ := Rb HO765 hb; have n1_ := Rb HO771 hb; have n2_ := Vb HO774 hb; have n3_ := Vb HO777 hb; have n4_ := Rb HO781 hb; have n5_ := Rb HO785 hb; have n6_ := Rb HO789 hb; have n7_ := Vb HO792 hb; have n8_ := Vb HO796 hb; have n9_ := Bs HB hb; clear HO765 HO771 HO774 HO777 HO781 HO785 HO789 HO792 HO796 HB; revert n0_ n1_ n2_ n3_ n4_ n5_ n6_ n7_ n8_ n9_; intro HO765 HO771 HO774 HO777 HO781 HO785 HO789 HO792 HO796 HB; (try clear hb); (try clear hb2); (try clear hk); (try clear hi)) | (go_at_call 24; (with_reducible refine (nat_Cmp.calls kj2 _ _ l0 _ _ l1 t798 _ ?side1 ?side2 ?side3 ?side4 A44.out).mono ?_); (case side1 => exact Cu (Kd.C_below HR0.out HB.out)); (case side2 => exact HC0.out); (case side3 => exact Cu (Kd.C_below HR1.out HB.out)); (case side4 => exact HC1.out); rintro e w97 ⟨rfl, hb⟩; have n0_ := Rb HO765 hb; have n1_ := Rb HO771 hb; have n2_ := Vb HO774 hb; have n3_ := Vb HO777 hb; have n4_ := Rb HO781 hb; have n5_ := Rb HO785 hb; have n6_ := Rb HO789 hb; have n7_ := Vb HO792 hb; have n8_ := Vb HO796 hb; have n9_ := Bs HB hb; clear HO765 HO771 HO774 HO777 HO781 HO785 HO789 HO792 HO796 HB; revert n0_ n1_ n2_ n3_ n4_ n5_ n6_ n7_ n8_ n9_; intro HO765 HO771 HO774 HO777 HO781 HO785 HO789 HO792 HO796 HB; (try clear hb); (try clear hb2); (try clear hk); (try clear hi)) | (go_at_call 21; (with_reducible refine (lanyardref06_Cmp.calls kj2 _ _ t772 _ _ t775 t799 _ ?side1 ?side2 ?side3 ?side4 A45.out).mono ?_); (case side1 => exact Cu (Kd.V_reads' HO774.out).2.2); (case side2 => exact (Kd.V_reads' HO774.out).2.1); (case side3 => exact Cu (Kd.V_reads' HO777.out).2.2); (case side4 => exact (Kd.V_reads' HO777.out).2.1); rintro e w' ⟨rfl, ⟨nd, rfl⟩⟩))
              go_meet
              case rel => exact ⟨_, (true), (by first | rfl | (simp; done) | (simp [*]; done)), H', ⟨by have := HJ2.out; first | omega | exact Nat.le_refl _⟩, ⟨by (with_reducible repeat (first | apply Kd.V_alloc | apply Kd.V_drewN | apply Kd.V_drew)); exact Kd.V_mono HO774.out (fun _ hk => hk.2)⟩, ⟨by (with_reducible repeat (first | apply Kd.V_alloc | apply Kd.V_drewN | apply Kd.V_drew)); exact Kd.V_mono HO777.out (fun _ hk => hk.2)⟩, ⟨by (with_reducible repeat (first | apply Kd.R_alloc | apply Kd.R_drewN | apply Kd.R_drew)); exact Kd.R_mono HO789.out (fun _ hk => trivial)⟩, ⟨Bu HB⟩⟩
            ·replace c43 := Bool.eq_false_iff.mpr c43
             subst c43
             have H1 : (lanyardlaw06_NatSums.j1 kj2 t772 t775 t786 t787 true) = some r := by rw [if_neg (show ¬ (false = true) by decide)] at H; exact H
             clear H
             have H := H1
             clear H1
             have H' := Aside0.mk H
             clear H
             have hcv98 := own_string (P := Tryd.prog) Tryd.underlying22 Tryd.underlying5 Tryd.underlying9 (Kd.own_of_R HO765.out)
             have hcv99 := fun n_ : Nat => own_string (P := Tryd.prog) Tryd.underlying22 Tryd.underlying5 Tryd.underlying9 (Kd.own_of_R (Kd.R_drewN HO765.out n_))
             have hcv100 := Kd.C_string (P := Tryd.prog) (A := A0) (c := c0) Tryd.underlying22 Tryd.underlying5 Tryd.underlying9 (Kd.C_below HR0.out HB.out)
             have hcv101 := fun n_ : Nat => Kd.C_string (P := Tryd.prog) (A := A0) (c := c0) Tryd.underlying22 Tryd.underlying5 Tryd.underlying9 (Kd.C_drewN (Kd.C_below HR0.out HB.out) n_)
             have hcv104 := own_string (P := Tryd.prog) Tryd.underlying22 Tryd.underlying5 Tryd.underlying9 (Kd.own_of_R HO771.out)
             have hcv105 := fun n_ : Nat => own_string (P := Tryd.prog) Tryd.underlying22 Tryd.underlying5 Tryd.underlying9 (Kd.own_of_R (Kd.R_drewN HO771.out n_))
             have hcv106 := Kd.C_string (P := Tryd.prog) (A := A1) (c := c1) Tryd.underlying22 Tryd.underlying5 Tryd.underlying9 (Kd.C_below HR1.out HB.out)
             have hcv107 := fun n_ : Nat => Kd.C_string (P := Tryd.prog) (A := A1) (c := c1) Tryd.underlying22 Tryd.underlying5 Tryd.underlying9 (Kd.C_drewN (Kd.C_below HR1.out HB.out) n_)
             obtain ⟨Ao110, co110, eo110⟩ := Kd.V_slice HO774.out
             subst eo110
             obtain ⟨Ao111, co111, eo111⟩ := Kd.V_slice HO777.out
             subst eo111
             go_wp2_with (first | (go_at_call 28; (with_reducible refine (lanyardref06_Add.calls kj2 _ _ t772 _ _ t775 t790 _ ?side1 ?side2 ?side3 ?side4 A38.out).mono ?_); (case side1 => exact Cu (Kd.V_reads' HO774.out).2.2); (case side2 => exact (Kd.V_reads' HO774.out).2.1); (case side3 => exact Cu (Kd.V_reads' HO777.out).2.2); (case side4 => exact (Kd.V_reads' HO777.out).2.1); rintro e w112 ⟨v791, rfl, ho0, hb⟩; have n0_ := Rb HO765 hb; have n1_ := Rb HO771 hb; have n2_ := Vb HO774 hb; have n3_ := Vb HO777 hb; have n4_ := Rb HO781 hb; have n5_ := Rb HO785 hb; have n6_ := Rb HO789 hb; have n7_ := Aside0.mk (Kd.V_lower (Kd.V_mono (ok' := fun k_ => some k_ ≠ (.slice Ao29 y763.length co29 : Value).ownBlock ∧ some k_ ≠ (.slice Ao30 y769.length co30 : Value).ownBlock ∧ some k_ ≠ (v780 : Value).ownBlock ∧ some k_ ≠ (v784 : Value).ownBlock ∧ some k_ ≠ (v788 : Value).ownBlock) ho0 (fun k_ hk_ => ⟨(Kd.fresh' (Kd.R_lt (Ru HO765)) k_ hk_), (Kd.fresh' (Kd.R_lt (Ru HO771)) k_ hk_), (Kd.fresh' (Kd.R_lt (Ru HO781)) k_ hk_), (Kd.fresh' (Kd.R_lt (Ru HO785)) k_ hk_), (Kd.fresh' (Kd.R_lt (Ru HO789)) k_ hk_)⟩)) (Bz HB)); have n8_ := Bs HB hb; clear HO765 HO771 HO774 HO777 HO781 HO785 HO789 HB; revert n0_ n1_ n2_ n3_ n4_ n5_ n6_ n7_ n8_; intro HO765 HO771 HO774 HO777 HO781 HO785 HO789 HO792 HB; (try clear hb); (try clear hb2); (try clear hk); (try clear hi); (try clear ho0); obtain ⟨Ao113, co113, eo113⟩ := Kd.R_slice HO781.out; subst eo113; obtain ⟨Ao114, co114, eo114⟩ := Kd.V_slice HO792.out; subst eo114) | (go_at_call 15; (with_reducible refine (lanyardlaw06_same.calls kj2 _ _ t778 _ _ t790 true _ ?side1 ?side2 ?side3 ?side4 A39.out).mono ?_); (case side1 => exact Cu (Kd.R_reads' HO781.out).2.2); (case side2 => exact (Kd.R_reads' HO781.out).2.1); (case side3 => exact Cu (Kd.V_reads' HO792.out).2.2); (case side4 => exact (Kd.V_reads' HO792.out).2.1); rintro e w115 ⟨rfl, hb⟩; have n0_ := Rb HO765 hb; have n1_ := Rb HO771 hb; have n2_ := Vb HO774 hb; have n3_ := Vb HO777 hb; have n4_ := Rb HO781 hb; have n5_ := Rb HO785 hb; have n6_ := Rb HO789 hb; have n7_ := Vb HO792 hb; have n8_ := Bs HB hb; clear HO765 HO771 HO774 HO777 HO781 HO785 HO789 HO792 HB; revert n0_ n1_ n2_ n3_ n4_ n5_ n6_ n7_ n8_; intro HO765 HO771 HO774 HO777 HO781 HO785 HO789 HO792 HB; (try clear hb); (try clear hb2); (try clear hk); (try clear hi)) | (go_at_call 22; (with_reducible refine (lanyardref06_Mul.calls kj2 _ _ t772 _ _ t775 t794 _ ?side1 ?side2 ?side3 ?side4 A41.out).mono ?_); (case side1 => exact Cu (Kd.V_reads' HO774.out).2.2); (case side2 => exact (Kd.V_reads' HO774.out).2.1); (case side3 => exact Cu (Kd.V_reads' HO777.out).2.2); (case side4 => exact (Kd.V_reads' HO777.out).2.1); rintro e w116 ⟨v795, rfl, ho0, hb⟩; have n0_ := Rb HO765 hb; have n1_ := Rb HO771 hb; have n2_ := Vb HO774 hb; have n3_ := Vb HO777 hb; have n4_ := Rb HO781 hb; have n5_ := Rb HO785 hb; have n6_ := Rb HO789 hb; have n7_ := Vb HO792 hb; have n8_ := Aside0.mk (Kd.V_lower (Kd.V_mono (ok' := fun k_ => some k_ ≠ (.slice Ao29 y763.length co29 : Value).ownBlock ∧ some k_ ≠ (.slice Ao30 y769.length co30 : Value).ownBlock ∧ some k_ ≠ (.slice Ao113 t778.length co113 : Value).ownBlock ∧ some k_ ≠ (v784 : Value).ownBlock ∧ some k_ ≠ (v788 : Value).ownBlock) ho0 (fun k_ hk_ => ⟨(Kd.fresh' (Kd.R_lt (Ru HO765)) k_ hk_), (Kd.fresh' (Kd.R_lt (Ru HO771)) k_ hk_), (Kd.fresh' (Kd.R_lt (Ru HO781)) k_ hk_), (Kd.fresh' (Kd.R_lt (Ru HO785)) k_ hk_), (Kd.fresh' (Kd.R_lt (Ru HO789)) k_ hk_)⟩)) (Bz HB)); have n9_ := Bs HB hb; clear HO765 HO771 HO774 HO777 HO781 HO785 HO789 HO792 HB; revert n0_ n1_ n2_ n3_ n4_ n5_ n6_ n7_ n8_ n9_; intro HO765 HO771 HO774 HO777 HO781 HO785 HO789 HO792 HO796 HB; (try clear hb); (try clear hb2); (try clear hk); (try clear hi); (try clear ho0); obtain ⟨Ao117, co117, eo117⟩ := Kd.R_slice HO785.out; subst eo117; obtain ⟨Ao118, co118, eo118⟩ := Kd.V_slice HO796.out; subst eo118) | (go_at_call 15; (with_reducible refine (lanyardlaw06_same.calls kj2 _ _ t782 _ _ t794 false _ ?side1 ?side2 ?side3 ?side4 A42.out).mono ?_); (case side1 => exact Cu (Kd.R_reads' HO785.out).2.2); (case side2 => exact (Kd.R_reads' HO785.out).2.1); (case side3 => exact Cu (Kd.V_reads' HO796.out).2.2); (case side4 => exact (Kd.V_reads' HO796.out).2.1); rintro e w119 ⟨rfl, hb⟩; have n0_ := Rb HO765 hb; have n1_ := Rb HO771 hb; have n2_ := Vb HO774 hb; have n3_ := Vb HO777 hb; have n4_ := Rb HO781 hb; have n5_ := Rb HO785 hb; have n6_ := Rb HO789 hb; have n7_ := Vb HO792 hb; have n8_ := Vb HO796 hb; have n9_ := Bs HB hb; clear HO765 HO771 HO774 HO777 HO781 HO785 HO789 HO792 HO796 HB; revert n0_ n1_ n2_ n3_ n4_ n5_ n6_ n7_ n8_ n9_; intro HO765 HO771 HO774 HO777 HO781 HO785 HO789 HO792 HO796 HB; (try clear hb); (try clear hb2); (try clear hk); (try clear hi)))
             go_meet
             case rel => exact ⟨_, (true), (by first | rfl | (simp; done) | (simp [*]; done)), H', ⟨by have := HJ2.out; first | omega | exact Nat.le_refl _⟩, ⟨by (with_reducible repeat (first | apply Kd.V_alloc | apply Kd.V_drewN | apply Kd.V_drew)); exact Kd.V_mono HO774.out (fun _ hk => hk.2)⟩, ⟨by (with_reducible repeat (first | apply Kd.V_alloc | apply Kd.V_drewN | apply Kd.V_drew)); exact Kd.V_mono HO777.out (fun _ hk => hk.2)⟩, ⟨by (with_reducible repeat (first | apply Kd.R_alloc | apply Kd.R_drewN | apply Kd.R_drew)); exact Kd.R_mono HO789.out (fun _ hk => trivial)⟩, ⟨Bu HB⟩⟩
           ·replace c40 := Bool.eq_false_iff.mpr c40
            subst c40
            have H1 : (lanyardlaw06_NatSums.j1 kj2 t772 t775 t786 t787 true) = some r := by rw [if_neg (show ¬ (false = true) by decide)] at H; exact H
            clear H
            have H := H1
            clear H1
            have H' := Aside0.mk H
            clear H
            have hcv120 := own_string (P := Tryd.prog) Tryd.underlying22 Tryd.underlying5 Tryd.underlying9 (Kd.own_of_R HO765.out)
            have hcv121 := fun n_ : Nat => own_string (P := Tryd.prog) Tryd.underlying22 Tryd.underlying5 Tryd.underlying9 (Kd.own_of_R (Kd.R_drewN HO765.out n_))
            have hcv122 := Kd.C_string (P := Tryd.prog) (A := A0) (c := c0) Tryd.underlying22 Tryd.underlying5 Tryd.underlying9 (Kd.C_below HR0.out HB.out)
            have hcv123 := fun n_ : Nat => Kd.C_string (P := Tryd.prog) (A := A0) (c := c0) Tryd.underlying22 Tryd.underlying5 Tryd.underlying9 (Kd.C_drewN (Kd.C_below HR0.out HB.out) n_)
            have hcv126 := own_string (P := Tryd.prog) Tryd.underlying22 Tryd.underlying5 Tryd.underlying9 (Kd.own_of_R HO771.out)
            have hcv127 := fun n_ : Nat => own_string (P := Tryd.prog) Tryd.underlying22 Tryd.underlying5 Tryd.underlying9 (Kd.own_of_R (Kd.R_drewN HO771.out n_))
            have hcv128 := Kd.C_string (P := Tryd.prog) (A := A1) (c := c1) Tryd.underlying22 Tryd.underlying5 Tryd.underlying9 (Kd.C_below HR1.out HB.out)
            have hcv129 := fun n_ : Nat => Kd.C_string (P := Tryd.prog) (A := A1) (c := c1) Tryd.underlying22 Tryd.underlying5 Tryd.underlying9 (Kd.C_drewN (Kd.C_below HR1.out HB.out) n_)
            obtain ⟨Ao132, co132, eo132⟩ := Kd.V_slice HO774.out
            subst eo132
            obtain ⟨Ao133, co133, eo133⟩ := Kd.V_slice HO777.out
            subst eo133
            go_wp2_with (first | (go_at_call 28; (with_reducible refine (lanyardref06_Add.calls kj2 _ _ t772 _ _ t775 t790 _ ?side1 ?side2 ?side3 ?side4 A38.out).mono ?_); (case side1 => exact Cu (Kd.V_reads' HO774.out).2.2); (case side2 => exact (Kd.V_reads' HO774.out).2.1); (case side3 => exact Cu (Kd.V_reads' HO777.out).2.2); (case side4 => exact (Kd.V_reads' HO777.out).2.1); rintro e w134 ⟨v791, rfl, ho0, hb⟩; have n0_ := Rb HO765 hb; have n1_ := Rb HO771 hb; have n2_ := Vb HO774 hb; have n3_ := Vb HO777 hb; have n4_ := Rb HO781 hb; have n5_ := Rb HO785 hb; have n6_ := Rb HO789 hb; have n7_ := Aside0.mk (Kd.V_lower (Kd.V_mono (ok' := fun k_ => some k_ ≠ (.slice Ao29 y763.length co29 : Value).ownBlock ∧ some k_ ≠ (.slice Ao30 y769.length co30 : Value).ownBlock ∧ some k_ ≠ (v780 : Value).ownBlock ∧ some k_ ≠ (v784 : Value).ownBlock ∧ some k_ ≠ (v788 : Value).ownBlock) ho0 (fun k_ hk_ => ⟨(Kd.fresh' (Kd.R_lt (Ru HO765)) k_ hk_), (Kd.fresh' (Kd.R_lt (Ru HO771)) k_ hk_), (Kd.fresh' (Kd.R_lt (Ru HO781)) k_ hk_), (Kd.fresh' (Kd.R_lt (Ru HO785)) k_ hk_), (Kd.fresh' (Kd.R_lt (Ru HO789)) k_ hk_)⟩)) (Bz HB)); have n8_ := Bs HB hb; clear HO765 HO771 HO774 HO777 HO781 HO785 HO789 HB; revert n0_ n1_ n2_ n3_ n4_ n5_ n6_ n7_ n8_; intro HO765 HO771 HO774 HO777 HO781 HO785 HO789 HO792 HB; (try clear hb); (try clear hb2); (try clear hk); (try clear hi); (try clear ho0); obtain ⟨Ao135, co135, eo135⟩ := Kd.R_slice HO781.out; subst eo135; obtain ⟨Ao136, co136, eo136⟩ := Kd.V_slice HO792.out; subst eo136) | (go_at_call 15; (with_reducible refine (lanyardlaw06_same.calls kj2 _ _ t778 _ _ t790 false _ ?side1 ?side2 ?side3 ?side4 A39.out).mono ?_); (case side1 => exact Cu (Kd.R_reads' HO781.out).2.2); (case side2 => exact (Kd.R_reads' HO781.out).2.1); (case side3 => exact Cu (Kd.V_reads' HO792.out).2.2); (case side4 => exact (Kd.V_reads' HO792.out).2.1); rintro e w137 ⟨rfl, hb⟩; have n0_ := Rb HO765 hb; have n1_ := Rb HO771 hb; have n2_ := Vb HO774 hb; have n3_ := Vb HO777 hb; have n4_ := Rb HO781 hb; have n5_ := Rb HO785 hb; have n6_ := Rb HO789 hb; have n7_ := Vb HO792 hb; have n8_ := Bs HB hb; clear HO765 HO771 HO774 HO777 HO781 HO785 HO789 HO792 HB; revert n0_ n1_ n2_ n3_ n4_ n5_ n6_ n7_ n8_; intro HO765 HO771 HO774 HO777 HO781 HO785 HO789 HO792 HB; (try clear hb); (try clear hb2); (try clear hk); (try clear hi)))
            go_meet
            case rel => exact ⟨_, (true), (by first | rfl | (simp; done) | (simp [*]; done)), H', ⟨by have := HJ2.out; first | omega | exact Nat.le_refl _⟩, ⟨by (with_reducible repeat (first | apply Kd.V_alloc | apply Kd.V_drewN | apply Kd.V_drew)); exact Kd.V_mono HO774.out (fun _ hk => hk.2)⟩, ⟨by (with_reducible repeat (first | apply Kd.V_alloc | apply Kd.V_drewN | apply Kd.V_drew)); exact Kd.V_mono HO777.out (fun _ hk => hk.2)⟩, ⟨by (with_reducible repeat (first | apply Kd.R_alloc | apply Kd.R_drewN | apply Kd.R_drew)); exact Kd.R_mono HO789.out (fun _ hk => trivial)⟩, ⟨Bu HB⟩⟩
          case' b43_ =>
           rw [if_neg c37] at H
           have c37b0 : (t783 == 0) = false := beq_eq_false_iff_ne.mpr c37
           have c37b1 : (t783 != 0) = true := bne_iff_ne.mpr c37
           have H' := Aside0.mk H
           clear H
           have hcv138 := own_string (P := Tryd.prog) Tryd.underlying22 Tryd.underlying5 Tryd.underlying9 (Kd.own_of_R HO765.out)
           have hcv139 := fun n_ : Nat => own_string (P := Tryd.prog) Tryd.underlying22 Tryd.underlying5 Tryd.underlying9 (Kd.own_of_R (Kd.R_drewN HO765.out n_))
           have hcv140 := Kd.C_string (P := Tryd.prog) (A := A0) (c := c0) Tryd.underlying22 Tryd.underlying5 Tryd.underlying9 (Kd.C_below HR0.out HB.out)
           have hcv141 := fun n_ : Nat => Kd.C_string (P := Tryd.prog) (A := A0) (c := c0) Tryd.underlying22 Tryd.underlying5 Tryd.underlying9 (Kd.C_drewN (Kd.C_below HR0.out HB.out) n_)
           have hcv144 := own_string (P := Tryd.prog) Tryd.underlying22 Tryd.underlying5 Tryd.underlying9 (Kd.own_of_R HO771.out)
           have hcv145 := fun n_ : Nat => own_string (P := Tryd.prog) Tryd.underlying22 Tryd.underlying5 Tryd.underlying9 (Kd.own_of_R (Kd.R_drewN HO771.out n_))
           have hcv146 := Kd.C_string (P := Tryd.prog) (A := A1) (c := c1) Tryd.underlying22 Tryd.underlying5 Tryd.underlying9 (Kd.C_below HR1.out HB.out)
           have hcv147 := fun n_ : Nat => Kd.C_string (P := Tryd.prog) (A := A1) (c := c1) Tryd.underlying22 Tryd.underlying5 Tryd.underlying9 (Kd.C_drewN (Kd.C_below HR1.out HB.out) n_)
         case' b42_ =>
          rw [if_neg c36] at H
          have c36b0 : (t779 == 0) = false := beq_eq_false_iff_ne.mpr c36
          have c36b1 : (t779 != 0) = true := bne_iff_ne.mpr c36
          have H' := Aside0.mk H
          clear H
          have hcv150 := own_string (P := Tryd.prog) Tryd.underlying22 Tryd.underlying5 Tryd.underlying9 (Kd.own_of_R HO765.out)
          have hcv151 := fun n_ : Nat => own_string (P := Tryd.prog) Tryd.underlying22 Tryd.underlying5 Tryd.underlying9 (Kd.own_of_R (Kd.R_drewN HO765.out n_))
          have hcv152 := Kd.C_string (P := Tryd.prog) (A := A0) (c := c0) Tryd.underlying22 Tryd.underlying5 Tryd.underlying9 (Kd.C_below HR0.out HB.out)
          have hcv153 := fun n_ : Nat => Kd.C_string (P := Tryd.prog) (A := A0) (c := c0) Tryd.underlying22 Tryd.underlying5 Tryd.underlying9 (Kd.C_drewN (Kd.C_below HR0.out HB.out) n_)
          have hcv156 := own_string (P := Tryd.prog) Tryd.underlying22 Tryd.underlying5 Tryd.underlying9 (Kd.own_of_R HO771.out)
          have hcv157 := fun n_ : Nat => own_string (P := Tryd.prog) Tryd.underlying22 Tryd.underlying5 Tryd.underlying9 (Kd.own_of_R (Kd.R_drewN HO771.out n_))
          have hcv158 := Kd.C_string (P := Tryd.prog) (A := A1) (c := c1) Tryd.underlying22 Tryd.underlying5 Tryd.underlying9 (Kd.C_below HR1.out HB.out)
          have hcv159 := fun n_ : Nat => Kd.C_string (P := Tryd.prog) (A := A1) (c := c1) Tryd.underlying22 Tryd.underlying5 Tryd.underlying9 (Kd.C_drewN (Kd.C_below HR1.out HB.out) n_)
        case' b41_ =>
         rw [if_neg c35] at H
         have c35b0 : ((strOfNums y769).toList == (strOfNums l1).toList) = false := beq_eq_false_iff_ne.mpr c35
         have c35b1 : ((strOfNums y769).toList != (strOfNums l1).toList) = true := bne_iff_ne.mpr c35
         have H' := Aside0.mk H
         clear H
         have hcv162 := own_string (P := Tryd.prog) Tryd.underlying22 Tryd.underlying5 Tryd.underlying9 (Kd.own_of_R HO765.out)
         have hcv163 := fun n_ : Nat => own_string (P := Tryd.prog) Tryd.underlying22 Tryd.underlying5 Tryd.underlying9 (Kd.own_of_R (Kd.R_drewN HO765.out n_))
         have hcv164 := Kd.C_string (P := Tryd.prog) (A := A0) (c := c0) Tryd.underlying22 Tryd.underlying5 Tryd.underlying9 (Kd.C_below HR0.out HB.out)
         have hcv165 := fun n_ : Nat => Kd.C_string (P := Tryd.prog) (A := A0) (c := c0) Tryd.underlying22 Tryd.underlying5 Tryd.underlying9 (Kd.C_drewN (Kd.C_below HR0.out HB.out) n_)
         have hcv168 := own_string (P := Tryd.prog) Tryd.underlying22 Tryd.underlying5 Tryd.underlying9 (Kd.own_of_R HO771.out)
         have hcv169 := fun n_ : Nat => own_string (P := Tryd.prog) Tryd.underlying22 Tryd.underlying5 Tryd.underlying9 (Kd.own_of_R (Kd.R_drewN HO771.out n_))
         have hcv170 := Kd.C_string (P := Tryd.prog) (A := A1) (c := c1) Tryd.underlying22 Tryd.underlying5 Tryd.underlying9 (Kd.C_below HR1.out HB.out)
         have hcv171 := fun n_ : Nat => Kd.C_string (P := Tryd.prog) (A := A1) (c := c1) Tryd.underlying22 Tryd.underlying5 Tryd.underlying9 (Kd.C_drewN (Kd.C_below HR1.out HB.out) n_)
       case' b40_ =>
        rw [if_neg c34] at H
        have c34b0 : ((strOfNums y763).toList == (strOfNums l0).toList) = false := beq_eq_false_iff_ne.mpr c34
        have c34b1 : ((strOfNums y763).toList != (strOfNums l0).toList) = true := bne_iff_ne.mpr c34
        (first | rw [c34b0] | (simp only [i64_w, i32_w]; rw [c34b0]) | skip)
        have H' := Aside0.mk H
        clear H
        have hcv174 := own_string (P := Tryd.prog) Tryd.underlying22 Tryd.underlying5 Tryd.underlying9 (Kd.own_of_R HO765.out)
        have hcv175 := fun n_ : Nat => own_string (P := Tryd.prog) Tryd.underlying22 Tryd.underlying5 Tryd.underlying9 (Kd.own_of_R (Kd.R_drewN HO765.out n_))
        have hcv176 := Kd.C_string (P := Tryd.prog) (A := A0) (c := c0) Tryd.underlying22 Tryd.underlying5 Tryd.underlying9 (Kd.C_below HR0.out HB.out)
        have hcv177 := fun n_ : Nat => Kd.C_string (P := Tryd.prog) (A := A0) (c := c0) Tryd.underlying22 Tryd.underlying5 Tryd.underlying9 (Kd.C_drewN (Kd.C_below HR0.out HB.out) n_)
       case a42_ | b42_ | b41_ | b40_ =>
        go_wp2
        go_meet
        case rel => exact ⟨_, (true), (by first | rfl | (simp; done) | (simp [*]; done)), H', ⟨by have := HJ2.out; first | omega | exact Nat.le_refl _⟩, ⟨by (with_reducible repeat (first | apply Kd.V_alloc | apply Kd.V_drewN | apply Kd.V_drew)); exact Kd.V_mono HO774.out (fun _ hk => hk.2)⟩, ⟨by (with_reducible repeat (first | apply Kd.V_alloc | apply Kd.V_drewN | apply Kd.V_drew)); exact Kd.V_mono HO777.out (fun _ hk => hk.2)⟩, ⟨by (with_reducible repeat (first | apply Kd.R_alloc | apply Kd.R_drewN | apply Kd.R_drew)); exact Kd.R_mono HO789.out (fun _ hk => trivial)⟩, ⟨Bu HB⟩⟩
      case rest =>
       clear HC20
       try clear c1
       try clear hcv1
       try clear c2
       try clear p2
       try clear c3
       try clear c4
       try clear hcv4
       try clear c5
       try clear hcv5
       try clear c6
       try clear c6b0
       try clear c6b1
       try clear hcv7
       try clear c8
       try clear hcv8
       try clear hcv9
       try clear c10
       try clear hcv10
       try clear c11
       try clear c12
       try clear hcv12
       try clear c13
       try clear hcv13
       try clear c14
       try clear hcv14
       try clear hcv15
       try clear hcv16
       try clear hcv17
       try clear c23
       try clear c25
       try clear c27
       try clear c34
       try clear c34b0
       try clear c34b1
       try clear c35
       try clear c35b0
       try clear c35b1
       try clear c36
       try clear c36b0
       try clear c36b1
       try clear c37
       try clear c37b0
       try clear c37b1
       try clear c40
       try clear c43
       try clear c46
       try clear c46b0
       try clear c46b1
       try clear hcv49
       try clear hcv50
       try clear hcv51
       try clear hcv52
       try clear hcv55
       try clear hcv56
       try clear hcv57
       try clear hcv58
       try clear hcv75
       try clear hcv76
       try clear hcv77
       try clear hcv78
       try clear hcv81
       try clear hcv82
       try clear hcv83
       try clear hcv84
       try clear hcv98
       try clear hcv99
       try clear hcv100
       try clear hcv101
       try clear hcv104
       try clear hcv105
       try clear hcv106
       try clear hcv107
       try clear hcv120
       try clear hcv121
       try clear hcv122
       try clear hcv123
       try clear hcv126
       try clear hcv127
       try clear hcv128
       try clear hcv129
       try clear hcv138
       try clear hcv139
       try clear hcv140
       try clear hcv141
       try clear hcv144
       try clear hcv145
       try clear hcv146
       try clear hcv147
       try clear hcv150
       try clear hcv151
       try clear hcv152
       try clear hcv153
       try clear hcv156
       try clear hcv157
       try clear hcv158
       try clear hcv159
       try clear hcv162
       try clear hcv163
       try clear hcv164
       try clear hcv165
       try clear hcv168
       try clear hcv169
       try clear hcv170
       try clear hcv171
       try clear hcv174
       try clear hcv175
       try clear hcv176
       try clear hcv177
       try clear p2
       obtain ⟨kq, x107_19, rfl, HA, HJ19, HO_7, HO_8, HO_13, HB⟩ := hcut
       cases kq with
       | zero => exact absurd HA.out (by simp [lanyardlaw06_NatSums.j1])
       | succ kj19 =>
        have H := HA.out
        clear HA
        simp only [lanyardlaw06_NatSums.j1] at H
        by_cases c180 : x107_19 = true
        ·subst c180
         have H1 : (some false) = some r := by rw [if_pos rfl] at H; exact H
         clear H
         have H := H1
         clear H1
         obtain rfl := Option.some.inj H
         go_wp2
         go_ret
         exact ⟨rfl_, Bu HB⟩
        ·replace c180 := Bool.eq_false_iff.mpr c180
         subst c180
         have H1 : ((lanyardref06_Cmp.f kj19 t772 t775).bind fun t804 => (if t804 < 0 then (if t787 = 2 then (some ((t786.length : Int) == 0)) else (some false)) else (if t787 = 0 then ((lanyardref06_Sub.f kj19 t772 t775).bind fun t805 => ((lanyardlaw06_same.f kj19 t786 t805).bind fun t808 => (some t808))) else (some false)))) = some r := by rw [if_neg (show ¬ (false = true) by decide)] at H; exact H
         clear H
         have H := H1
         clear H1
         replace H := Option.bind_eq_some_iff.mp H
         obtain ⟨t804, A1810, H⟩ := H
         replace H : (if t804 < 0 then (if t787 = 2 then (some ((t786.length : Int) == 0)) else (some false)) else (if t787 = 0 then ((lanyardref06_Sub.f kj19 t772 t775).bind fun t805 => ((lanyardlaw06_same.f kj19 t786 t805).bind fun t808 => (some t808))) else (some false))) = some r := H
         have A181 := Aside0.mk A1810
         clear A1810
         by_cases c182 : t804 < 0
         ·rw [if_pos c182] at H
          have c182b0 : decide (t804 < 0) = true := decide_eq_true c182
          clear c182
          by_cases c183 : t787 = 2
          ·rw [if_pos c183] at H
           have c183b0 : (t787 == 2) = true := beq_iff_eq.mpr c183
           have c183b1 : (t787 != 2) = false := bne_eq_false_iff_eq.mpr c183
           clear c183
           obtain rfl := Option.some.inj H
           obtain ⟨Ao184, co184, eo184⟩ := Kd.V_slice HO_7.out
           subst eo184
           obtain ⟨Ao185, co185, eo185⟩ := Kd.V_slice HO_8.out
           subst eo185
           go_wp2_with (first | ((with_reducible refine gate_callee (f := 21) rfl ?_); refine goesA (some 110) Tryd.func21 #[.slice Ao184 t772.length co184, .slice Ao185 t775.length co185] rfl ?_; (with_reducible refine (lanyardref06_Cmp.calls kj19 _ _ t772 _ _ t775 t804 _ ?side1 ?side2 ?side3 ?side4 A181.out).mono ?_); (case side1 => exact Cu (Kd.V_reads' HO_7.out).2.2); (case side2 => exact (Kd.V_reads' HO_7.out).2.1); (case side3 => exact Cu (Kd.V_reads' HO_8.out).2.2); (case side4 => exact (Kd.V_reads' HO_8.out).2.1); rintro e w' ⟨rfl, ⟨nd, rfl⟩⟩; refine ⟨_, rfl, ?_⟩; obtain ⟨Ao186, co186, eo186⟩ := Kd.R_slice HO_13.out; subst eo186))
           go_ret
           exact ⟨rfl_, Bu HB⟩
          ·rw [if_neg c183] at H
           have c183b0 : (t787 == 2) = false := beq_eq_false_iff_ne.mpr c183
           have c183b1 : (t787 != 2) = true := bne_iff_ne.mpr c183
           obtain rfl := Option.some.inj H
           obtain ⟨Ao187, co187, eo187⟩ := Kd.V_slice HO_7.out
           subst eo187
           obtain ⟨Ao188, co188, eo188⟩ := Kd.V_slice HO_8.out
           subst eo188
           go_wp2_with (first | ((with_reducible refine gate_callee (f := 21) rfl ?_); refine goesA (some 110) Tryd.func21 #[.slice Ao187 t772.length co187, .slice Ao188 t775.length co188] rfl ?_; (with_reducible refine (lanyardref06_Cmp.calls kj19 _ _ t772 _ _ t775 t804 _ ?side1 ?side2 ?side3 ?side4 A181.out).mono ?_); (case side1 => exact Cu (Kd.V_reads' HO_7.out).2.2); (case side2 => exact (Kd.V_reads' HO_7.out).2.1); (case side3 => exact Cu (Kd.V_reads' HO_8.out).2.2); (case side4 => exact (Kd.V_reads' HO_8.out).2.1); rintro e w' ⟨rfl, ⟨nd, rfl⟩⟩; refine ⟨_, rfl, ?_⟩))
           go_ret
           exact ⟨rfl_, Bu HB⟩
         ·rw [if_neg c182] at H
          have c182b0 : decide (t804 < 0) = false := decide_eq_false c182
          clear c182
          by_cases c189 : t787 = 0
          ·rw [if_pos c189] at H
           have c189b0 : (t787 == 0) = true := beq_iff_eq.mpr c189
           have c189b1 : (t787 != 0) = false := bne_eq_false_iff_eq.mpr c189
           clear c189
           replace H := Option.bind_eq_some_iff.mp H
           obtain ⟨t805, A1900, H⟩ := H
           replace H : ((lanyardlaw06_same.f kj19 t786 t805).bind fun t808 => (some t808)) = some r := H
           have A190 := Aside0.mk A1900
           clear A1900
           replace H := Option.bind_eq_some_iff.mp H
           obtain ⟨t808, A1910, H⟩ := H
           replace H : (some t808) = some r := H
           have A191 := Aside0.mk A1910
           clear A1910
           obtain rfl := Option.some.inj H
           obtain ⟨Ao192, co192, eo192⟩ := Kd.V_slice HO_7.out
           subst eo192
           obtain ⟨Ao193, co193, eo193⟩ := Kd.V_slice HO_8.out
           subst eo193
           go_wp2_with (first | ((with_reducible refine gate_callee (f := 21) rfl ?_); refine goesA (some 110) Tryd.func21 #[.slice Ao192 t772.length co192, .slice Ao193 t775.length co193] rfl ?_; (with_reducible refine (lanyardref06_Cmp.calls kj19 _ _ t772 _ _ t775 t804 _ ?side1 ?side2 ?side3 ?side4 A181.out).mono ?_); (case side1 => exact Cu (Kd.V_reads' HO_7.out).2.2); (case side2 => exact (Kd.V_reads' HO_7.out).2.1); (case side3 => exact Cu (Kd.V_reads' HO_8.out).2.2); (case side4 => exact (Kd.V_reads' HO_8.out).2.1); rintro e w' ⟨rfl, ⟨nd, rfl⟩⟩; refine ⟨_, rfl, ?_⟩) | (go_at_call 29; (with_reducible refine (lanyardref06_Sub.calls kj19 _ _ t772 _ _ t775 t805 _ ?side1 ?side2 ?side3 ?side4 A190.out).mono ?_); (case side1 => exact Cu (Kd.V_reads' HO_7.out).2.2); (case side2 => exact (Kd.V_reads' HO_7.out).2.1); (case side3 => exact Cu (Kd.V_reads' HO_8.out).2.2); (case side4 => exact (Kd.V_reads' HO_8.out).2.1); rintro e w194 ⟨v806, rfl, ho0, hb⟩; have n0_ := Vb HO_7 hb; have n1_ := Vb HO_8 hb; have n2_ := Rb HO_13 hb; have n3_ := Aside0.mk (Kd.V_lower (Kd.V_mono (ok' := fun k_ => some k_ ≠ (v788 : Value).ownBlock) ho0 (fun k_ hk_ => (Kd.fresh' (Kd.R_lt (Ru HO_13)) k_ hk_))) (Bz HB)); have n4_ := Bs HB hb; clear HO_7 HO_8 HO_13 HB; revert n0_ n1_ n2_ n3_ n4_; intro HO_7 HO_8 HO_13 HO807 HB; (try clear hb); (try clear hb2); (try clear hk); (try clear hi); (try clear ho0); obtain ⟨Ao195, co195, eo195⟩ := Kd.R_slice HO_13.out; subst eo195; obtain ⟨Ao196, co196, eo196⟩ := Kd.V_slice HO807.out; subst eo196) | (go_at_call 15; (with_reducible refine (lanyardlaw06_same.calls kj19 _ _ t786 _ _ t805 t808 _ ?side1 ?side2 ?side3 ?side4 A191.out).mono ?_); (case side1 => exact Cu (Kd.R_reads' HO_13.out).2.2); (case side2 => exact (Kd.R_reads' HO_13.out).2.1); (case side3 => exact Cu (Kd.V_reads' HO807.out).2.2); (case side4 => exact (Kd.V_reads' HO807.out).2.1); rintro e w197 ⟨rfl, hb⟩; have n0_ := Vb HO_7 hb; have n1_ := Vb HO_8 hb; have n2_ := Rb HO_13 hb; have n3_ := Vb HO807 hb; have n4_ := Bs HB hb; clear HO_7 HO_8 HO_13 HO807 HB; revert n0_ n1_ n2_ n3_ n4_; intro HO_7 HO_8 HO_13 HO807 HB; (try clear hb); (try clear hb2); (try clear hk); (try clear hi)))
           go_ret
           exact ⟨rfl_, Bu HB⟩
          ·rw [if_neg c189] at H
           have c189b0 : (t787 == 0) = false := beq_eq_false_iff_ne.mpr c189
           have c189b1 : (t787 != 0) = true := bne_iff_ne.mpr c189
           obtain rfl := Option.some.inj H
           obtain ⟨Ao198, co198, eo198⟩ := Kd.V_slice HO_7.out
           subst eo198
           obtain ⟨Ao199, co199, eo199⟩ := Kd.V_slice HO_8.out
           subst eo199
           go_wp2_with (first | ((with_reducible refine gate_callee (f := 21) rfl ?_); refine goesA (some 110) Tryd.func21 #[.slice Ao198 t772.length co198, .slice Ao199 t775.length co199] rfl ?_; (with_reducible refine (lanyardref06_Cmp.calls kj19 _ _ t772 _ _ t775 t804 _ ?side1 ?side2 ?side3 ?side4 A181.out).mono ?_); (case side1 => exact Cu (Kd.V_reads' HO_7.out).2.2); (case side2 => exact (Kd.V_reads' HO_7.out).2.1); (case side3 => exact Cu (Kd.V_reads' HO_8.out).2.2); (case side4 => exact (Kd.V_reads' HO_8.out).2.1); rintro e w' ⟨rfl, ⟨nd, rfl⟩⟩; refine ⟨_, rfl, ?_⟩))
           go_ret
           exact ⟨rfl_, Bu HB⟩
     ·rw [if_neg c14] at H
      exact absurd H (by simp)
    ·rw [if_neg c13] at H
     exact absurd H (by simp)

/-- THE ONE PURE STATEMENT of lanyardlaw06_NatSums: yours. -/
def lanyardlaw06_NatSums.Pure : Prop := ∀ (l0 : List Int) (l1 : List Int), l0.length ≤ maxLen → l0.length * 1 ≤ 140737488351232 → (∀ x ∈ l0, (Lit.int .u8 x).wf = true) → l1.length ≤ maxLen → l1.length * 1 ≤ 140737488351232 → (∀ x ∈ l1, (Lit.int .u8 x).wf = true) → ∃ k, lanyardlaw06_NatSums.f k l0 l1 = some true
theorem lanyardlaw06_NatSums.walk (P : lanyardlaw06_NatSums.Pure) (a0 : Option Addr) (len0 cap0 : Nat) (z0 : List Int) (a1 : Option Addr) (len1 cap1 : Nat) (z1 : List Int) (w : World) (w0 : (a0 = none ∧ len0 = 0 ∧ cap0 = 0 ∧ z0 = []) ∨ ∃ x, a0 = some x ∧ len0 ≤ cap0 ∧ cap0 ≤ maxLen ∧ z0.length = cap0 ∧ (∀ i, i < z0.length → w.cell? (x.add i) = some (.int .u8 (z0.getD i 0))) ∧ ∀ n ∈ z0, (Lit.int .u8 n).wf = true) (y0 : len0 * 1 ≤ 140737488351232) (w1 : (a1 = none ∧ len1 = 0 ∧ cap1 = 0 ∧ z1 = []) ∨ ∃ x, a1 = some x ∧ len1 ≤ cap1 ∧ cap1 ≤ maxLen ∧ z1.length = cap1 ∧ (∀ i, i < z1.length → w.cell? (x.add i) = some (.int .u8 (z1.getD i 0))) ∧ ∀ n ∈ z1, (Lit.int .u8 n).wf = true) (y1 : len1 * 1 ≤ 140737488351232) :
  Calls Tryd.prog 8 #[.slice a0 len0 cap0, .slice a1 len1 cap1] w fun e w' => e = .returned (.bool true) ∧ Below w.heap.size w w' := by
 obtain ⟨l0, rfl, hr0, hm0, hw0, hc0⟩ := ReadsInt.ofRowC w0
 obtain ⟨l1, rfl, hr1, hm1, hw1, hc1⟩ := ReadsInt.ofRowC w1
 obtain ⟨k, h⟩ := P l0 l1 hm0 y0 hw0 hm1 y1 hw1
 refine (lanyardlaw06_NatSums.calls k _ _ l0 _ _ l1 true w (Kd.C_of_reads (d := (0 : Int)) (h1 := fun _ => rfl) hr0) hc0 (Kd.C_of_reads (d := (0 : Int)) (h1 := fun _ => rfl) hr1) hc1 h).mono ?_
 rintro e w' ⟨rfl, hd⟩
 exact ⟨rfl, hd⟩

end Go.Proofs.YtcofpbndaljppaaDoor.Hp
