/- Go functions of this seat as Lean functions, and their contracts: what the Go code computes, for every input. (By hp.py, a program of this repo, over the kit's print.py.) -/
import Derived.Test.YtcofpbndaljppaaDoorHp0
import Derived.Test.YtcofpbndaljppaaDoorHp4
import Derived.Test.YtcofpbndaljppaaDoorHp7
import Derived.Test.YtcofpbndaljppaaDoorHp10
namespace Go.Proofs.YtcofpbndaljppaaDoor.Hp
open Go.RowKit Go.Proofs.YtcofpbndaljppaaDoorW.PrintWords Go.Proofs.YtcofpbndaljppaaDoorW.PrintLast Go.Proofs.YtcofpbndaljppaaDoorW.PrintMore
attribute [local go_sem] max2_int min2_int max_two min_two max_three min_three max_four min_four   -- for this text's walks alone
set_option linter.unusedVariables false
set_option linter.unusedSimpArgs false

/-! ### lanyardlaw06_NatRings: function 9 -/
def lanyardlaw06_NatRings.j0 : Nat → List Int → List Int → List Int → Bool → Option (Bool)
 | 0, _, _, _, _ => none
 | k + 1, x0, x1, x2, x39 => if x39 = true then ((lanyardlaw06_awake.f k).bind fun t810 => (some t810)) else ((nat_Add.f k x0 x1).bind fun bt811 => ((nat_Add.f k x1 x0).bind fun bt815 => ((nat_Mul.f k bt811.1 x2).bind fun bt819 => ((nat_Mul.f k x0 x2).bind fun bt823 => ((nat_Mul.f k x2 x1).bind fun bt827 => ((nat_Add.f k bt823.1 bt827.1).bind fun bt831 => ((nat_Sub.f k bt811.1 x1).bind fun bt835 => ((nat_Sub.f k bt811.1 bt811.1).bind fun bt839 => (if (strOfNums bt811.1).toList = (strOfNums bt815.1).toList then (if (strOfNums bt819.1).toList = (strOfNums bt831.1).toList then (if bt835.2 = 0 then ((nat_Trim.f x0).bind fun t843 => (if (strOfNums bt835.1).toList = (strOfNums t843).toList then (if bt839.2 = 0 then (some ((bt839.1.length : Int) == 0)) else (some false)) else (some false))) else (some false)) else (some false)) else (some false))))))))))
def lanyardlaw06_NatRings.f (k : Nat) (l0 : List Int) (l1 : List Int) (l2 : List Int) : Option (Bool) := (lanyardlaw06_awake.f k).bind fun t809 => (if t809 = true then (if (l0.length : Int) > 300 then (lanyardlaw06_NatRings.j0 k l0 l1 l2 true) else (if (l1.length : Int) > 300 then (lanyardlaw06_NatRings.j0 k l0 l1 l2 true) else (lanyardlaw06_NatRings.j0 k l0 l1 l2 (decide ((l2.length : Int) > 300))))) else (lanyardlaw06_NatRings.j0 k l0 l1 l2 true))
theorem lanyardlaw06_NatRings.mono_l : ∀ k, (∀ y0 y1 y2 y3, LeO (lanyardlaw06_NatRings.j0 k y0 y1 y2 y3) (lanyardlaw06_NatRings.j0 (k + 1) y0 y1 y2 y3))
 | 0 => fun _ _ _ _ r h => by simp [lanyardlaw06_NatRings.j0] at h
 | k + 1 => by
  have ih0 := lanyardlaw06_NatRings.mono_l k
  ·intro y0 y1 y2 y3
   unfold lanyardlaw06_NatRings.j0
   repeat' first
   | (with_reducible exact ih0 _ _ _ _)
   | (with_reducible exact lanyardlaw06_awake.mono _)
   | (with_reducible exact nat_Add.mono _ _ _)
   | (with_reducible exact nat_Mul.mono _ _ _)
   | (with_reducible exact nat_Sub.mono _ _ _)
   | (with_reducible exact LeO.refl _)
   | (with_reducible exact LeO.none _)
   | (with_reducible refine LeO.ite ?_ ?_)
   | (with_reducible refine LeO.bind ?_ (fun _ => ?_))
   | exact ih0 _ _ _ _
   | exact lanyardlaw06_awake.mono _
   | exact nat_Add.mono _ _ _
   | exact nat_Mul.mono _ _ _
   | exact nat_Sub.mono _ _ _
   | exact LeO.none _
   | refine LeO.ite ?_ ?_
   | refine LeO.bind ?_ (fun _ => ?_)
theorem lanyardlaw06_NatRings.mono : ∀ a0 a1 a2 k, LeO (lanyardlaw06_NatRings.f k a0 a1 a2) (lanyardlaw06_NatRings.f (k + 1) a0 a1 a2) := by
 intro a0 a1 a2 k
 have ih0 := lanyardlaw06_NatRings.mono_l k
 unfold lanyardlaw06_NatRings.f
 repeat' first
   | (with_reducible exact ih0 _ _ _ _)
   | (with_reducible exact lanyardlaw06_awake.mono _)
   | (with_reducible exact nat_Add.mono _ _ _)
   | (with_reducible exact nat_Mul.mono _ _ _)
   | (with_reducible exact nat_Sub.mono _ _ _)
   | (with_reducible exact LeO.refl _)
   | (with_reducible exact LeO.none _)
   | (with_reducible refine LeO.ite ?_ ?_)
   | (with_reducible refine LeO.bind ?_ (fun _ => ?_))
   | exact ih0 _ _ _ _
   | exact lanyardlaw06_awake.mono _
   | exact nat_Add.mono _ _ _
   | exact nat_Mul.mono _ _ _
   | exact nat_Sub.mono _ _ _
   | exact LeO.none _
   | refine LeO.ite ?_ ?_
   | refine LeO.bind ?_ (fun _ => ?_)
def lanyardlaw06_NatRings.T11 : Bool × List (List Nat × List Nat) := (true, [([], []), ([0], [0]), ([], []), ([2], [2]), ([1, 3], [1, 3]), ([4], [4]), ([5], [5]), ([6, 5], [5, 6]), ([5], [5]), ([8, 5], [5, 8]), ([7, 9, 5], [5, 7, 9]), ([5, 10], [5, 10]), ([11, 5], [11]), ([12], [12]), ([13, 12], [12, 13]), ([12, 14], [12, 14]), ([15, 12], [15]), ([16], [16]), ([17, 16], [16, 17]), ([16], [16]), ([19, 16, 16], [16, 19]), ([20, 16], [16, 20]), ([18, 21, 16], [16, 18, 21]), ([16, 22], [16, 22]), ([23, 20], [23]), ([24], [24]), ([25, 24], [24, 25]), ([24, 26], [24, 26]), ([27, 24], [27]), ([28], [28]), ([29, 28], [28, 29]), ([30, 28], [28, 30]), ([28, 31], [28, 31]), ([32, 28, 0, 1, 2, 3, 4, 5, 6, 7, 8, 9, 10, 11, 12, 13, 14, 15, 16, 17, 18, 19, 20, 21, 22, 23, 24, 25, 26, 27, 28, 29, 30, 31, 32], [32])])
def lanyardlaw06_NatRings.B11 : List Nat := [0, 1, 0, 4, 15, 31, 63, 127, 63, 319, 1023, 2047, 4095, 8191, 16383, 32767, 65535, 131071, 262143, 131071, 655359, 1703935, 4194303, 8388607, 16777215, 33554431, 67108863, 134217727, 268435455, 536870911, 1073741823, 2147483647, 4294967295, 8589934591]
theorem lanyardlaw06_NatRings.tab11 : rtab .any (opsOf Tryd.f9 11) = lanyardlaw06_NatRings.T11 := by kernel_rfl
theorem lanyardlaw06_NatRings.bits11 : waitsOk lanyardlaw06_NatRings.T11.2 lanyardlaw06_NatRings.B11 = true := by kernel_rfl
set_option maxHeartbeats 8000000 in
set_option maxRecDepth 100000 in
theorem lanyardlaw06_NatRings.calls (k : Nat) (A0 : Option Addr) (c0 : Nat) (l0 : List Int) (A1 : Option Addr) (c1 : Nat) (l1 : List Int) (A2 : Option Addr) (c2 : Nat) (l2 : List Int) (r : Bool) (w : World) (hr0 : Kd.C (Kd.int .u8) w A0 l0.length l0) (hc0 : l0.length ≤ c0) (hr1 : Kd.C (Kd.int .u8) w A1 l1.length l1) (hc1 : l1.length ≤ c1) (hr2 : Kd.C (Kd.int .u8) w A2 l2.length l2) (hc2 : l2.length ≤ c2) (h : lanyardlaw06_NatRings.f k l0 l1 l2 = some r) :
  Calls Tryd.prog 9 #[.slice A0 l0.length c0, .slice A1 l1.length c1, .slice A2 l2.length c2] w fun e w' => e = .returned (.bool r) ∧ Below w.heap.size w w' := by
 have HR0 := Aside0.mk hr0
 have HC0 := Aside0.mk hc0
 clear hr0 hc0
 have HR1 := Aside0.mk hr1
 have HC1 := Aside0.mk hc1
 clear hr1 hc1
 have HR2 := Aside0.mk hr2
 have HC2 := Aside0.mk hc2
 clear hr2 hc2
 have HB := Aside0.mk (Below.refl w.heap.size w)
 have H : ((lanyardlaw06_awake.f k).bind fun t809 => (if t809 = true then (if (l0.length : Int) > 300 then (lanyardlaw06_NatRings.j0 k l0 l1 l2 true) else (if (l1.length : Int) > 300 then (lanyardlaw06_NatRings.j0 k l0 l1 l2 true) else (lanyardlaw06_NatRings.j0 k l0 l1 l2 (decide ((l2.length : Int) > 300))))) else (lanyardlaw06_NatRings.j0 k l0 l1 l2 true))) = some r := h
 clear h
 have HC4 := Aside0.mk H
 clear H
 go_enter Tryd.func9, Tryd.ntmps9
 go_upto_region 1 with (fail)
 go_cut [39] (fun v39 wc => ∃ (kq : Nat) (x39_3 : Bool), v39 = .bool x39_3 ∧ Aside0 (lanyardlaw06_NatRings.j0 kq l0 l1 l2 x39_3 = some r) ∧ Aside0 (kq ≤ k) ∧ Aside0 (Below w.heap.size w wc))
 case first =>
  have H := HC4.out
  clear HC4
  replace H := Option.bind_eq_some_iff.mp H
  obtain ⟨t809, A50, H⟩ := H
  replace H : (if t809 = true then (if (l0.length : Int) > 300 then (lanyardlaw06_NatRings.j0 k l0 l1 l2 true) else (if (l1.length : Int) > 300 then (lanyardlaw06_NatRings.j0 k l0 l1 l2 true) else (lanyardlaw06_NatRings.j0 k l0 l1 l2 (decide ((l2.length : Int) > 300))))) else (lanyardlaw06_NatRings.j0 k l0 l1 l2 true)) = some r := H
  have A5 := Aside0.mk A50
  clear A50
  by_cases c6 : t809 = true
  ·subst c6
   have H1 : (if (l0.length : Int) > 300 then (lanyardlaw06_NatRings.j0 k l0 l1 l2 true) else (if (l1.length : Int) > 300 then (lanyardlaw06_NatRings.j0 k l0 l1 l2 true) else (lanyardlaw06_NatRings.j0 k l0 l1 l2 (decide ((l2.length : Int) > 300))))) = some r := by rw [if_pos rfl] at H; exact H
   clear H
   have H := H1
   clear H1
   refine (Classical.em ((l0.length : Int) > 300)).elim (fun c7 => ?a44_) (fun c7 => ?b44_)
   case' a44_ =>
    rw [if_pos c7] at H
    have c7b0 : decide (300 < (l0.length : Int)) = true := decide_eq_true c7
    have c7b1 : decide (300 < l0.length) = true := decide_eq_true (by omega)
    clear c7
    (first | rw [c7b0] | (simp only [i64_w, i32_w]; rw [c7b0]) | skip)
    have H' := Aside0.mk H
    clear H
   case' b44_ =>
    rw [if_neg c7] at H
    have c7b0 : decide (300 < (l0.length : Int)) = false := decide_eq_false c7
    have c7b1 : decide (300 < l0.length) = false := decide_eq_false (by omega)
    clear c7
    (first | rw [c7b0] | (simp only [i64_w, i32_w]; rw [c7b0]) | skip)
    refine (Classical.em ((l1.length : Int) > 300)).elim (fun c9 => ?a45_) (fun c9 => ?b45_)
    case' a45_ =>
     rw [if_pos c9] at H
     have c9b0 : decide (300 < (l1.length : Int)) = true := decide_eq_true c9
     have c9b1 : decide (300 < l1.length) = true := decide_eq_true (by omega)
     clear c9
     have H' := Aside0.mk H
     clear H
    case' b45_ =>
     rw [if_neg c9] at H
     have c9b0 : decide (300 < (l1.length : Int)) = false := decide_eq_false c9
     have c9b1 : decide (300 < l1.length) = false := decide_eq_false (by omega)
     clear c9
     have H' := Aside0.mk H
     clear H
     go_wp2_with (first | ((with_reducible refine gate_callee (f := 11) rfl ?_); refine goesA (some 23) Tryd.func11 #[] rfl ?_; (with_reducible refine (lanyardlaw06_awake.calls k  true _ A5.out).mono ?_); rintro e w11 ⟨rfl, hb⟩; refine ⟨_, rfl, ?_⟩; have n0_ := Bs HB hb; clear HB; revert n0_; intro HB; (try clear hb); (try clear hb2); (try clear hk); (try clear hi)))
     go_meet
     case rel => exact ⟨_, (decide ((l2.length : Int) > 300)), (by first | rfl | (simp; done) | (simp [*]; done)), H', ⟨by first | omega | exact Nat.le_refl _⟩, ⟨Bu HB⟩⟩
   case a44_ | b44_ =>
    go_wp2_with (first | ((with_reducible refine gate_callee (f := 11) rfl ?_); refine goesA (some 23) Tryd.func11 #[] rfl ?_; (with_reducible refine (lanyardlaw06_awake.calls k  true _ A5.out).mono ?_); rintro e wz1 ⟨rfl, hb⟩; refine ⟨_, rfl, ?_⟩; have nz1 := Bs HB hb; clear HB; have HB := nz1; clear nz1; (try clear hb); (try clear hb2); (try clear hk); (try clear hi)))
    go_meet
    case rel => exact ⟨_, (true), (by first | rfl | (simp; done) | (simp [*]; done)), H', ⟨by first | omega | exact Nat.le_refl _⟩, ⟨Bu HB⟩⟩
  ·replace c6 := Bool.eq_false_iff.mpr c6
   subst c6
   have H1 : (lanyardlaw06_NatRings.j0 k l0 l1 l2 true) = some r := by rw [if_neg (show ¬ (false = true) by decide)] at H; exact H
   clear H
   have H := H1
   clear H1
   have H' := Aside0.mk H
   clear H
   go_wp2_with (first | ((with_reducible refine gate_callee (f := 11) rfl ?_); refine goesA (some 23) Tryd.func11 #[] rfl ?_; (with_reducible refine (lanyardlaw06_awake.calls k  false _ A5.out).mono ?_); rintro e w12 ⟨rfl, hb⟩; refine ⟨_, rfl, ?_⟩; have n0_ := Bs HB hb; clear HB; revert n0_; intro HB; (try clear hb); (try clear hb2); (try clear hk); (try clear hi)))
   go_meet
   case rel => exact ⟨_, (true), (by first | rfl | (simp; done) | (simp [*]; done)), H', ⟨by first | omega | exact Nat.le_refl _⟩, ⟨Bu HB⟩⟩
 case rest =>
  clear HC4
  try clear c1
  try clear c2
  try clear p2
  try clear c6
  try clear c7
  try clear c7b0
  try clear c7b1
  try clear c9
  try clear c9b0
  try clear c9b1
  try clear c11
  obtain ⟨kq, x39_3, rfl, HA, HJ3, HB⟩ := hcut
  cases kq with
  | zero => exact absurd HA.out (by simp [lanyardlaw06_NatRings.j0])
  | succ kj3 =>
   have H := HA.out
   clear HA
   simp only [lanyardlaw06_NatRings.j0] at H
   by_cases c13 : x39_3 = true
   ·subst c13
    have H1 : ((lanyardlaw06_awake.f kj3).bind fun t810 => (some t810)) = some r := by rw [if_pos rfl] at H; exact H
    clear H
    have H := H1
    clear H1
    replace H := Option.bind_eq_some_iff.mp H
    obtain ⟨t810, A140, H⟩ := H
    replace H : (some t810) = some r := H
    have A14 := Aside0.mk A140
    clear A140
    obtain rfl := Option.some.inj H
    go_wp2_with (first | ((with_reducible refine gate_callee (f := 11) rfl ?_); refine goesA (some 40) Tryd.func11 #[] rfl ?_; (with_reducible refine (lanyardlaw06_awake.calls kj3  t810 _ A14.out).mono ?_); rintro e w15 ⟨rfl, hb⟩; refine ⟨_, rfl, ?_⟩; have n0_ := Bs HB hb; clear HB; revert n0_; intro HB; (try clear hb); (try clear hb2); (try clear hk); (try clear hi)))
    go_ret
    exact ⟨rfl_, Bu HB⟩
   ·replace c13 := Bool.eq_false_iff.mpr c13
    subst c13
    have H1 : ((nat_Add.f kj3 l0 l1).bind fun bt811 => ((nat_Add.f kj3 l1 l0).bind fun bt815 => ((nat_Mul.f kj3 bt811.1 l2).bind fun bt819 => ((nat_Mul.f kj3 l0 l2).bind fun bt823 => ((nat_Mul.f kj3 l2 l1).bind fun bt827 => ((nat_Add.f kj3 bt823.1 bt827.1).bind fun bt831 => ((nat_Sub.f kj3 bt811.1 l1).bind fun bt835 => ((nat_Sub.f kj3 bt811.1 bt811.1).bind fun bt839 => (if (strOfNums bt811.1).toList = (strOfNums bt815.1).toList then (if (strOfNums bt819.1).toList = (strOfNums bt831.1).toList then (if bt835.2 = 0 then ((nat_Trim.f l0).bind fun t843 => (if (strOfNums bt835.1).toList = (strOfNums t843).toList then (if bt839.2 = 0 then (some ((bt839.1.length : Int) == 0)) else (some false)) else (some false))) else (some false)) else (some false)) else (some false)))))))))) = some r := by rw [if_neg (show ¬ (false = true) by decide)] at H; exact H
    clear H
    have H := H1
    clear H1
    replace H := Option.bind_eq_some_iff.mp H
    obtain ⟨⟨t811, t812⟩, A160, H⟩ := H
    replace H : ((nat_Add.f kj3 l1 l0).bind fun bt815 => ((nat_Mul.f kj3 t811 l2).bind fun bt819 => ((nat_Mul.f kj3 l0 l2).bind fun bt823 => ((nat_Mul.f kj3 l2 l1).bind fun bt827 => ((nat_Add.f kj3 bt823.1 bt827.1).bind fun bt831 => ((nat_Sub.f kj3 t811 l1).bind fun bt835 => ((nat_Sub.f kj3 t811 t811).bind fun bt839 => (if (strOfNums t811).toList = (strOfNums bt815.1).toList then (if (strOfNums bt819.1).toList = (strOfNums bt831.1).toList then (if bt835.2 = 0 then ((nat_Trim.f l0).bind fun t843 => (if (strOfNums bt835.1).toList = (strOfNums t843).toList then (if bt839.2 = 0 then (some ((bt839.1.length : Int) == 0)) else (some false)) else (some false))) else (some false)) else (some false)) else (some false))))))))) = some r := H
    have A16 := Aside0.mk A160
    clear A160
    replace H := Option.bind_eq_some_iff.mp H
    obtain ⟨⟨t815, t816⟩, A170, H⟩ := H
    replace H : ((nat_Mul.f kj3 t811 l2).bind fun bt819 => ((nat_Mul.f kj3 l0 l2).bind fun bt823 => ((nat_Mul.f kj3 l2 l1).bind fun bt827 => ((nat_Add.f kj3 bt823.1 bt827.1).bind fun bt831 => ((nat_Sub.f kj3 t811 l1).bind fun bt835 => ((nat_Sub.f kj3 t811 t811).bind fun bt839 => (if (strOfNums t811).toList = (strOfNums t815).toList then (if (strOfNums bt819.1).toList = (strOfNums bt831.1).toList then (if bt835.2 = 0 then ((nat_Trim.f l0).bind fun t843 => (if (strOfNums bt835.1).toList = (strOfNums t843).toList then (if bt839.2 = 0 then (some ((bt839.1.length : Int) == 0)) else (some false)) else (some false))) else (some false)) else (some false)) else (some false)))))))) = some r := H
    have A17 := Aside0.mk A170
    clear A170
    replace H := Option.bind_eq_some_iff.mp H
    obtain ⟨⟨t819, t820⟩, A180, H⟩ := H
    replace H : ((nat_Mul.f kj3 l0 l2).bind fun bt823 => ((nat_Mul.f kj3 l2 l1).bind fun bt827 => ((nat_Add.f kj3 bt823.1 bt827.1).bind fun bt831 => ((nat_Sub.f kj3 t811 l1).bind fun bt835 => ((nat_Sub.f kj3 t811 t811).bind fun bt839 => (if (strOfNums t811).toList = (strOfNums t815).toList then (if (strOfNums t819).toList = (strOfNums bt831.1).toList then (if bt835.2 = 0 then ((nat_Trim.f l0).bind fun t843 => (if (strOfNums bt835.1).toList = (strOfNums t843).toList then (if bt839.2 = 0 then (some ((bt839.1.length : Int) == 0)) else (some false)) else (some false))) else (some false)) else (some false)) else (some false))))))) = some r := H
    have A18 := Aside0.mk A180
    clear A180
    replace H := Option.bind_eq_some_iff.mp H
    obtain ⟨⟨t823, t824⟩, A190, H⟩ := H
    replace H : ((nat_Mul.f kj3 l2 l1).bind fun bt827 => ((nat_Add.f kj3 t823 bt827.1).bind fun bt831 => ((nat_Sub.f kj3 t811 l1).bind fun bt835 => ((nat_Sub.f kj3 t811 t811).bind fun bt839 => (if (strOfNums t811).toList = (strOfNums t815).toList then (if (strOfNums t819).toList = (strOfNums bt831.1).toList then (if bt835.2 = 0 then ((nat_Trim.f l0).bind fun t843 => (if (strOfNums bt835.1).toList = (strOfNums t843).toList then (if bt839.2 = 0 then (some ((bt839.1.length : Int) == 0)) else (some false)) else (some false))) else (some false)) else (some false)) else (some false)))))) = some r := H
    have A19 := Aside0.mk A190
    clear A190
    replace H := Option.bind_eq_some_iff.mp H
    obtain ⟨⟨t827, t828⟩, A200, H⟩ := H
    replace H : ((nat_Add.f kj3 t823 t827).bind fun bt831 => ((nat_Sub.f kj3 t811 l1).bind fun bt835 => ((nat_Sub.f kj3 t811 t811).bind fun bt839 => (if (strOfNums t811).toList = (strOfNums t815).toList then (if (strOfNums t819).toList = (strOfNums bt831.1).toList then (if bt835.2 = 0 then ((nat_Trim.f l0).bind fun t843 => (if (strOfNums bt835.1).toList = (strOfNums t843).toList then (if bt839.2 = 0 then (some ((bt839.1.length : Int) == 0)) else (some false)) else (some false))) else (some false)) else (some false)) else (some false))))) = some r := H
    have A20 := Aside0.mk A200
    clear A200
    replace H := Option.bind_eq_some_iff.mp H
    obtain ⟨⟨t831, t832⟩, A210, H⟩ := H
    replace H : ((nat_Sub.f kj3 t811 l1).bind fun bt835 => ((nat_Sub.f kj3 t811 t811).bind fun bt839 => (if (strOfNums t811).toList = (strOfNums t815).toList then (if (strOfNums t819).toList = (strOfNums t831).toList then (if bt835.2 = 0 then ((nat_Trim.f l0).bind fun t843 => (if (strOfNums bt835.1).toList = (strOfNums t843).toList then (if bt839.2 = 0 then (some ((bt839.1.length : Int) == 0)) else (some false)) else (some false))) else (some false)) else (some false)) else (some false)))) = some r := H
    have A21 := Aside0.mk A210
    clear A210
    replace H := Option.bind_eq_some_iff.mp H
    obtain ⟨⟨t835, t836⟩, A220, H⟩ := H
    replace H : ((nat_Sub.f kj3 t811 t811).bind fun bt839 => (if (strOfNums t811).toList = (strOfNums t815).toList then (if (strOfNums t819).toList = (strOfNums t831).toList then (if t836 = 0 then ((nat_Trim.f l0).bind fun t843 => (if (strOfNums t835).toList = (strOfNums t843).toList then (if bt839.2 = 0 then (some ((bt839.1.length : Int) == 0)) else (some false)) else (some false))) else (some false)) else (some false)) else (some false))) = some r := H
    have A22 := Aside0.mk A220
    clear A220
    replace H := Option.bind_eq_some_iff.mp H
    obtain ⟨⟨t839, t840⟩, A230, H⟩ := H
    replace H : (if (strOfNums t811).toList = (strOfNums t815).toList then (if (strOfNums t819).toList = (strOfNums t831).toList then (if t836 = 0 then ((nat_Trim.f l0).bind fun t843 => (if (strOfNums t835).toList = (strOfNums t843).toList then (if t840 = 0 then (some ((t839.length : Int) == 0)) else (some false)) else (some false))) else (some false)) else (some false)) else (some false)) = some r := H
    have A23 := Aside0.mk A230
    clear A230
    by_cases c24 : (strOfNums t811).toList = (strOfNums t815).toList
    ·rw [if_pos c24] at H
     have c24b0 : ((strOfNums t811).toList == (strOfNums t815).toList) = true := beq_iff_eq.mpr c24
     have c24b1 : ((strOfNums t811).toList != (strOfNums t815).toList) = false := bne_eq_false_iff_eq.mpr c24
     clear c24
     by_cases c25 : (strOfNums t819).toList = (strOfNums t831).toList
     ·rw [if_pos c25] at H
      have c25b0 : ((strOfNums t819).toList == (strOfNums t831).toList) = true := beq_iff_eq.mpr c25
      have c25b1 : ((strOfNums t819).toList != (strOfNums t831).toList) = false := bne_eq_false_iff_eq.mpr c25
      clear c25
      by_cases c26 : t836 = 0
      ·rw [if_pos c26] at H
       have c26b0 : (t836 == 0) = true := beq_iff_eq.mpr c26
       have c26b1 : (t836 != 0) = false := bne_eq_false_iff_eq.mpr c26
       clear c26
       replace H := Option.bind_eq_some_iff.mp H
       obtain ⟨t843, A270, H⟩ := H
       replace H : (if (strOfNums t835).toList = (strOfNums t843).toList then (if t840 = 0 then (some ((t839.length : Int) == 0)) else (some false)) else (some false)) = some r := H
       have A27 := Aside0.mk A270
       clear A270
       by_cases c28 : (strOfNums t835).toList = (strOfNums t843).toList
       ·rw [if_pos c28] at H
        have c28b0 : ((strOfNums t835).toList == (strOfNums t843).toList) = true := beq_iff_eq.mpr c28
        have c28b1 : ((strOfNums t835).toList != (strOfNums t843).toList) = false := bne_eq_false_iff_eq.mpr c28
        clear c28
        by_cases c29 : t840 = 0
        ·rw [if_pos c29] at H
         have c29b0 : (t840 == 0) = true := beq_iff_eq.mpr c29
         have c29b1 : (t840 != 0) = false := bne_eq_false_iff_eq.mpr c29
         clear c29
         obtain rfl := Option.some.inj H
         try go_wp2_with (first | ((with_reducible refine gate_callee (f := 25) rfl ?_); refine goesA (some 44) Tryd.func25 #[.slice A0 l0.length c0, .slice A1 l1.length c1] rfl ?_; (with_reducible refine (nat_Add.calls kj3 _ _ l0 _ _ l1 t811 t812 _ ?side1 ?side2 ?side3 ?side4 A16.out).mono ?_); (case side1 => exact Cu (Kd.C_below HR0.out HB.out)); (case side2 => exact HC0.out); (case side3 => exact Cu (Kd.C_below HR1.out HB.out)); (case side4 => exact HC1.out); rintro e w30 ⟨v813, rfl, ho0, hb⟩; refine ⟨_, rfl, ?_⟩; have n0_ := Aside0.mk (Kd.R_lower ho0 (Bz HB)); have n1_ := Bs HB hb; clear HB; revert n0_ n1_; intro HO814 HB; (try clear hb); (try clear hb2); (try clear hk); (try clear hi); (try clear ho0)) | ((with_reducible refine gate_callee (f := 25) rfl ?_); refine goesA (some 50) Tryd.func25 #[.slice A1 l1.length c1, .slice A0 l0.length c0] rfl ?_; (with_reducible refine (nat_Add.calls kj3 _ _ l1 _ _ l0 t815 t816 _ ?side1 ?side2 ?side3 ?side4 A17.out).mono ?_); (case side1 => exact Cu (Kd.C_below HR1.out HB.out)); (case side2 => exact HC1.out); (case side3 => exact Cu (Kd.C_below HR0.out HB.out)); (case side4 => exact HC0.out); rintro e w31 ⟨v817, rfl, ho0, hb⟩; refine ⟨_, rfl, ?_⟩; have n0_ := Re HO814 (Kd.R_base ho0) hb; have n1_ := Aside0.mk (Kd.R_lower (Kd.R_new' ho0 (Kd.R_lt (Ru HO814))) (Bz HB)); have n2_ := Bs HB hb; clear HO814 HB; revert n0_ n1_ n2_; intro HO814 HO818 HB; (try clear hb); (try clear hb2); (try clear hk); (try clear hi); (try clear ho0); obtain ⟨Ao32, co32, eo32⟩ := Kd.R_slice HO814.out; subst eo32) | ((with_reducible refine gate_callee (f := 23) rfl ?_); refine goesA (some 56) Tryd.func23 #[.slice Ao32 t811.length co32, .slice A2 l2.length c2] rfl ?_; (with_reducible refine (nat_Mul.calls kj3 _ _ t811 _ _ l2 t819 t820 _ ?side1 ?side2 ?side3 ?side4 A18.out).mono ?_); (case side1 => exact Cu (Kd.R_reads' HO814.out).2.2); (case side2 => exact (Kd.R_reads' HO814.out).2.1); (case side3 => exact Cu (Kd.C_below HR2.out HB.out)); (case side4 => exact HC2.out); rintro e w33 ⟨v821, rfl, ho0, hb⟩; refine ⟨_, rfl, ?_⟩; have n0_ := Re HO814 (Kd.R_base ho0) hb; have n1_ := Re HO818 (Kd.R_base ho0) hb; have n2_ := Aside0.mk (Kd.R_lower (Kd.R_new' (Kd.R_new' ho0 (Kd.R_lt (Ru HO814))) (Kd.R_lt (Ru HO818))) (Bz HB)); have n3_ := Bs HB hb; clear HO814 HO818 HB; revert n0_ n1_ n2_ n3_; intro HO814 HO818 HO822 HB; (try clear hb); (try clear hb2); (try clear hk); (try clear hi); (try clear ho0)) | ((with_reducible refine gate_callee (f := 23) rfl ?_); refine goesA (some 62) Tryd.func23 #[.slice A0 l0.length c0, .slice A2 l2.length c2] rfl ?_; (with_reducible refine (nat_Mul.calls kj3 _ _ l0 _ _ l2 t823 t824 _ ?side1 ?side2 ?side3 ?side4 A19.out).mono ?_); (case side1 => exact Cu (Kd.C_below HR0.out HB.out)); (case side2 => exact HC0.out); (case side3 => exact Cu (Kd.C_below HR2.out HB.out)); (case side4 => exact HC2.out); rintro e w34 ⟨v825, rfl, ho0, hb⟩; refine ⟨_, rfl, ?_⟩; have n0_ := Re HO814 (Kd.R_base ho0) hb; have n1_ := Re HO818 (Kd.R_base ho0) hb; have n2_ := Re HO822 (Kd.R_base ho0) hb; have n3_ := Aside0.mk (Kd.R_lower (Kd.R_new' (Kd.R_new' (Kd.R_new' ho0 (Kd.R_lt (Ru HO814))) (Kd.R_lt (Ru HO818))) (Kd.R_lt (Ru HO822))) (Bz HB)); have n4_ := Bs HB hb; clear HO814 HO818 HO822 HB; revert n0_ n1_ n2_ n3_ n4_; intro HO814 HO818 HO822 HO826 HB; (try clear hb); (try clear hb2); (try clear hk); (try clear hi); (try clear ho0)) | ((with_reducible refine gate_callee (f := 23) rfl ?_); refine goesA (some 68) Tryd.func23 #[.slice A2 l2.length c2, .slice A1 l1.length c1] rfl ?_; (with_reducible refine (nat_Mul.calls kj3 _ _ l2 _ _ l1 t827 t828 _ ?side1 ?side2 ?side3 ?side4 A20.out).mono ?_); (case side1 => exact Cu (Kd.C_below HR2.out HB.out)); (case side2 => exact HC2.out); (case side3 => exact Cu (Kd.C_below HR1.out HB.out)); (case side4 => exact HC1.out); rintro e w35 ⟨v829, rfl, ho0, hb⟩; refine ⟨_, rfl, ?_⟩; have n0_ := Re HO814 (Kd.R_base ho0) hb; have n1_ := Re HO818 (Kd.R_base ho0) hb; have n2_ := Re HO822 (Kd.R_base ho0) hb; have n3_ := Re HO826 (Kd.R_base ho0) hb; have n4_ := Aside0.mk (Kd.R_lower (Kd.R_new' (Kd.R_new' (Kd.R_new' (Kd.R_new' ho0 (Kd.R_lt (Ru HO814))) (Kd.R_lt (Ru HO818))) (Kd.R_lt (Ru HO822))) (Kd.R_lt (Ru HO826))) (Bz HB)); have n5_ := Bs HB hb; clear HO814 HO818 HO822 HO826 HB; revert n0_ n1_ n2_ n3_ n4_ n5_; intro HO814 HO818 HO822 HO826 HO830 HB; (try clear hb); (try clear hb2); (try clear hk); (try clear hi); (try clear ho0); obtain ⟨Ao36, co36, eo36⟩ := Kd.R_slice HO826.out; subst eo36; obtain ⟨Ao37, co37, eo37⟩ := Kd.R_slice HO830.out; subst eo37) | ((with_reducible refine gate_callee (f := 25) rfl ?_); refine goesA (some 74) Tryd.func25 #[.slice Ao36 t823.length co36, .slice Ao37 t827.length co37] rfl ?_; (with_reducible refine (nat_Add.calls kj3 _ _ t823 _ _ t827 t831 t832 _ ?side1 ?side2 ?side3 ?side4 A21.out).mono ?_); (case side1 => exact Cu (Kd.R_reads' HO826.out).2.2); (case side2 => exact (Kd.R_reads' HO826.out).2.1); (case side3 => exact Cu (Kd.R_reads' HO830.out).2.2); (case side4 => exact (Kd.R_reads' HO830.out).2.1); rintro e w38 ⟨v833, rfl, ho0, hb⟩; refine ⟨_, rfl, ?_⟩; have n0_ := Re HO814 (Kd.R_base ho0) hb; have n1_ := Re HO818 (Kd.R_base ho0) hb; have n2_ := Re HO822 (Kd.R_base ho0) hb; have n3_ := Re HO826 (Kd.R_base ho0) hb; have n4_ := Re HO830 (Kd.R_base ho0) hb; have n5_ := Aside0.mk (Kd.R_lower (Kd.R_new' (Kd.R_new' (Kd.R_new' (Kd.R_new' (Kd.R_new' ho0 (Kd.R_lt (Ru HO814))) (Kd.R_lt (Ru HO818))) (Kd.R_lt (Ru HO822))) (Kd.R_lt (Ru HO826))) (Kd.R_lt (Ru HO830))) (Bz HB)); have n6_ := Bs HB hb; clear HO814 HO818 HO822 HO826 HO830 HB; revert n0_ n1_ n2_ n3_ n4_ n5_ n6_; intro HO814 HO818 HO822 HO826 HO830 HO834 HB; (try clear hb); (try clear hb2); (try clear hk); (try clear hi); (try clear ho0)) | ((with_reducible refine gate_callee (f := 27) rfl ?_); refine goesA (some 80) Tryd.func27 #[.slice Ao32 t811.length co32, .slice A1 l1.length c1] rfl ?_; (with_reducible refine (nat_Sub.calls kj3 _ _ t811 _ _ l1 t835 t836 _ ?side1 ?side2 ?side3 ?side4 A22.out).mono ?_); (case side1 => exact Cu (Kd.R_reads' HO814.out).2.2); (case side2 => exact (Kd.R_reads' HO814.out).2.1); (case side3 => exact Cu (Kd.C_below HR1.out HB.out)); (case side4 => exact HC1.out); rintro e w39 ⟨v837, rfl, ho0, hb⟩; refine ⟨_, rfl, ?_⟩; have n0_ := Re HO814 (Kd.R_base ho0) hb; have n1_ := Re HO818 (Kd.R_base ho0) hb; have n2_ := Re HO822 (Kd.R_base ho0) hb; have n3_ := Re HO826 (Kd.R_base ho0) hb; have n4_ := Re HO830 (Kd.R_base ho0) hb; have n5_ := Re HO834 (Kd.R_base ho0) hb; have n6_ := Aside0.mk (Kd.R_lower (Kd.R_new' (Kd.R_new' (Kd.R_new' (Kd.R_new' (Kd.R_new' (Kd.R_new' ho0 (Kd.R_lt (Ru HO814))) (Kd.R_lt (Ru HO818))) (Kd.R_lt (Ru HO822))) (Kd.R_lt (Ru HO826))) (Kd.R_lt (Ru HO830))) (Kd.R_lt (Ru HO834))) (Bz HB)); have n7_ := Bs HB hb; clear HO814 HO818 HO822 HO826 HO830 HO834 HB; revert n0_ n1_ n2_ n3_ n4_ n5_ n6_ n7_; intro HO814 HO818 HO822 HO826 HO830 HO834 HO838 HB; (try clear hb); (try clear hb2); (try clear hk); (try clear hi); (try clear ho0)) | ((with_reducible refine gate_callee (f := 27) rfl ?_); refine goesA (some 86) Tryd.func27 #[.slice Ao32 t811.length co32, .slice Ao32 t811.length co32] rfl ?_; (with_reducible refine (nat_Sub.calls kj3 _ _ t811 _ _ t811 t839 t840 _ ?side1 ?side2 ?side3 ?side4 A23.out).mono ?_); (case side1 => exact Cu (Kd.R_reads' HO814.out).2.2); (case side2 => exact (Kd.R_reads' HO814.out).2.1); (case side3 => exact Cu (Kd.R_reads' HO814.out).2.2); (case side4 => exact (Kd.R_reads' HO814.out).2.1); rintro e w40 ⟨v841, rfl, ho0, hb⟩; refine ⟨_, rfl, ?_⟩; have n0_ := Re HO814 (Kd.R_base ho0) hb; have n1_ := Re HO818 (Kd.R_base ho0) hb; have n2_ := Re HO822 (Kd.R_base ho0) hb; have n3_ := Re HO826 (Kd.R_base ho0) hb; have n4_ := Re HO830 (Kd.R_base ho0) hb; have n5_ := Re HO834 (Kd.R_base ho0) hb; have n6_ := Re HO838 (Kd.R_base ho0) hb; have n7_ := Aside0.mk (Kd.R_lower (Kd.R_new' (Kd.R_new' (Kd.R_new' (Kd.R_new' (Kd.R_new' (Kd.R_new' (Kd.R_new' ho0 (Kd.R_lt (Ru HO814))) (Kd.R_lt (Ru HO818))) (Kd.R_lt (Ru HO822))) (Kd.R_lt (Ru HO826))) (Kd.R_lt (Ru HO830))) (Kd.R_lt (Ru HO834))) (Kd.R_lt (Ru HO838))) (Bz HB)); have n8_ := Bs HB hb; clear HO814 HO818 HO822 HO826 HO830 HO834 HO838 HB; revert n0_ n1_ n2_ n3_ n4_ n5_ n6_ n7_ n8_; intro HO814 HO818 HO822 HO826 HO830 HO834 HO838 HO842 HB; (try clear hb); (try clear hb2); (try clear hk); (try clear hi); (try clear ho0)))
         have n0_ := Aside0.mk (Kd.R_drew HO814.out)
         have n1_ := Aside0.mk (Kd.R_drew HO818.out)
         have n2_ := Aside0.mk (Kd.R_drew HO822.out)
         have n3_ := Aside0.mk (Kd.R_drew HO826.out)
         have n4_ := Aside0.mk (Kd.R_drew HO830.out)
         have n5_ := Aside0.mk (Kd.R_drew HO834.out)
         have n6_ := Aside0.mk (Kd.R_drew HO838.out)
         have n7_ := Aside0.mk (Kd.R_drew HO842.out)
         have n8_ := Aside0.mk (below_drew1 HB.out)
         clear HO814
         clear HO818
         clear HO822
         clear HO826
         clear HO830
         clear HO834
         clear HO838
         clear HO842
         clear HB
         have HO814 := n0_
         have HO818 := n1_
         have HO822 := n2_
         have HO826 := n3_
         have HO830 := n4_
         have HO834 := n5_
         have HO838 := n6_
         have HO842 := n7_
         have HB := n8_
         clear n0_ n1_ n2_ n3_ n4_ n5_ n6_ n7_ n8_
         refine start_ (n := 34) (S := fun w' => (convert 22 9 (.slice Ao32 t811.length co32)).run Tryd.prog w' = .ok (.string (strOfNums t811)) w' ∧ (convert 22 9 v817).run Tryd.prog w' = .ok (.string (strOfNums t815)) w' ∧ (convert 22 9 v821).run Tryd.prog w' = .ok (.string (strOfNums t819)) w' ∧ (convert 22 9 v833).run Tryd.prog w' = .ok (.string (strOfNums t831)) w' ∧ (convert 22 9 v837).run Tryd.prog w' = .ok (.string (strOfNums t835)) w') (ds := []) #[false, false, false, false, false, false, false, false, false, false, false, false, false, false, false, false, false, false, false, false, false, false, false, false, false, false, false, false, false, false, false, false, false, false] (by kernel_rfl) rfl rfl ⟨own_string (P := Tryd.prog) Tryd.underlying22 Tryd.underlying5 Tryd.underlying9 (Kd.own_of_R HO814.out), own_string (P := Tryd.prog) Tryd.underlying22 Tryd.underlying5 Tryd.underlying9 (Kd.own_of_R HO818.out), own_string (P := Tryd.prog) Tryd.underlying22 Tryd.underlying5 Tryd.underlying9 (Kd.own_of_R HO822.out), own_string (P := Tryd.prog) Tryd.underlying22 Tryd.underlying5 Tryd.underlying9 (Kd.own_of_R HO834.out), own_string (P := Tryd.prog) Tryd.underlying22 Tryd.underlying5 Tryd.underlying9 (Kd.own_of_R HO838.out)⟩ (fun hHeld => ?_); refine with_tabW lanyardlaw06_NatRings.tab11 lanyardlaw06_NatRings.bits11 (fun HT_ HW_ => ?_)
         generalize w40.drew = w41 at HO814 HO818 HO822 HO826 HO830 HO834 HO838 HO842 HB hHeld ⊢
         refine pure_ (i := 0) (N := some 89) (v := ?_) (a' := ?_) #[true, false, false, false, false, false, false, false, false, false, false, false, false, false, false, false, false, false, false, false, false, false, false, false, false, false, false, false, false, false, false, false, false, false] rfl rfl (any_of HT_.out (by kernel_rfl)) (fun _ _ _ h => h) (Or.inl ⟨by rfl, ?_⟩) ?_ ?_
         rotate_left
         ·intro w'
          go_simp
          with_reducible rfl
         rotate_left
         ·simp only [Act.put, List.setIfInBounds_toArray, List.set_cons_zero, List.set_cons_succ, i64_w, i32_w]
          rfl
         refine pure_ (i := 2) (N := some 91) (v := ?_) (a' := ?_) #[true, false, true, false, false, false, false, false, false, false, false, false, false, false, false, false, false, false, false, false, false, false, false, false, false, false, false, false, false, false, false, false, false, false] rfl rfl (any_of HT_.out (by kernel_rfl)) (fun _ _ _ h => h) (Or.inl ⟨by rfl, ?_⟩) ?_ ?_
         rotate_left
         ·intro w'
          go_simp
          with_reducible rfl
         rotate_left
         ·simp only [Act.put, List.setIfInBounds_toArray, List.set_cons_zero, List.set_cons_succ, i64_w, i32_w]
          rfl
         refine take_ (i := 1) (N := some 90) (v := ?_) (a' := ?_) #[true, true, true, false, false, false, false, false, false, false, false, false, false, false, false, false, false, false, false, false, false, false, false, false, false, false, false, false, false, false, false, false, false, false] rfl rfl (take_ofW HT_.out HW_.out (by kernel_rfl)) (fun _ _ _ h => h) (Or.inl ⟨by rfl, ?_⟩) hHeld ?_ ?_
         rotate_left
         ·rintro w' ⟨s0, s1, s2, s3, s4⟩
          go_simp
          with_reducible rfl
         rotate_left
         ·simp only [Act.put, List.setIfInBounds_toArray, List.set_cons_zero, List.set_cons_succ, i64_w, i32_w]
          rfl
         refine take_ (i := 3) (N := some 92) (v := ?_) (a' := ?_) #[true, true, true, true, false, false, false, false, false, false, false, false, false, false, false, false, false, false, false, false, false, false, false, false, false, false, false, false, false, false, false, false, false, false] rfl rfl (take_ofW HT_.out HW_.out (by kernel_rfl)) (fun _ _ _ h => h) (Or.inl ⟨by rfl, ?_⟩) hHeld ?_ ?_
         rotate_left
         ·rintro w' ⟨s0, s1, s2, s3, s4⟩
          go_simp
          with_reducible rfl
         rotate_left
         ·simp only [Act.put, List.setIfInBounds_toArray, List.set_cons_zero, List.set_cons_succ, i64_w, i32_w]
          rfl
         refine pure_ (i := 4) (N := some 93) (v := ?_) (a' := ?_) #[true, true, true, true, true, false, false, false, false, false, false, false, false, false, false, false, false, false, false, false, false, false, false, false, false, false, false, false, false, false, false, false, false, false] rfl rfl (any_of HT_.out (by kernel_rfl)) (fun _ _ _ h => h) (Or.inl ⟨by rfl, ?_⟩) ?_ ?_
         rotate_left
         ·intro w'
          go_simp
          with_reducible rfl
         rotate_left
         ·simp only [Act.put, List.setIfInBounds_toArray, List.set_cons_zero, List.set_cons_succ, i64_w, i32_w]
          rfl
         refine pure_ (i := 5) (N := some 94) (v := ?_) (a' := ?_) #[true, true, true, true, true, true, false, false, false, false, false, false, false, false, false, false, false, false, false, false, false, false, false, false, false, false, false, false, false, false, false, false, false, false] rfl rfl (any_of HT_.out (by kernel_rfl)) (fun _ _ _ h => h) (Or.inl ⟨by rfl, ?_⟩) ?_ ?_
         rotate_left
         ·intro w'
          go_simp
          with_reducible rfl
         rotate_left
         ·simp only [Act.put, List.setIfInBounds_toArray, List.set_cons_zero, List.set_cons_succ, i64_w, i32_w]
          rfl
         refine pure_ (i := 6) (N := some 95) (v := ?_) (a' := ?_) #[true, true, true, true, true, true, true, false, false, false, false, false, false, false, false, false, false, false, false, false, false, false, false, false, false, false, false, false, false, false, false, false, false, false] rfl rfl (any_of HT_.out (by kernel_rfl)) (fun _ _ _ h => h) (Or.inl ⟨by rfl, ?_⟩) ?_ ?_
         rotate_left
         ·intro w'
          go_simp
          with_reducible rfl
         rotate_left
         ·simp only [Act.put, List.setIfInBounds_toArray, List.set_cons_zero, List.set_cons_succ, i64_w, i32_w]
          rfl
         refine pure_ (i := 8) (N := some 97) (v := ?_) (a' := ?_) #[true, true, true, true, true, true, true, false, true, false, false, false, false, false, false, false, false, false, false, false, false, false, false, false, false, false, false, false, false, false, false, false, false, false] rfl rfl (any_of HT_.out (by kernel_rfl)) (fun _ _ _ h => h) (Or.inl ⟨by rfl, ?_⟩) ?_ ?_
         rotate_left
         ·intro w'
          go_simp
          with_reducible rfl
         rotate_left
         ·simp only [Act.put, List.setIfInBounds_toArray, List.set_cons_zero, List.set_cons_succ, i64_w, i32_w]
          rfl
         refine take_ (i := 7) (N := some 96) (v := ?_) (a' := ?_) #[true, true, true, true, true, true, true, true, true, false, false, false, false, false, false, false, false, false, false, false, false, false, false, false, false, false, false, false, false, false, false, false, false, false] rfl rfl (take_ofW HT_.out HW_.out (by kernel_rfl)) (fun _ _ _ h => h) (Or.inl ⟨by rfl, ?_⟩) hHeld ?_ ?_
         rotate_left
         ·rintro w' ⟨s0, s1, s2, s3, s4⟩
          go_simp
          with_reducible rfl
         rotate_left
         ·simp only [Act.put, List.setIfInBounds_toArray, List.set_cons_zero, List.set_cons_succ, i64_w, i32_w]
          rfl
         refine take_ (i := 9) (N := some 98) (v := ?_) (a' := ?_) #[true, true, true, true, true, true, true, true, true, true, false, false, false, false, false, false, false, false, false, false, false, false, false, false, false, false, false, false, false, false, false, false, false, false] rfl rfl (take_ofW HT_.out HW_.out (by kernel_rfl)) (fun _ _ _ h => h) (Or.inl ⟨by rfl, ?_⟩) hHeld ?_ ?_
         rotate_left
         ·rintro w' ⟨s0, s1, s2, s3, s4⟩
          go_simp
          with_reducible rfl
         rotate_left
         ·simp only [Act.put, List.setIfInBounds_toArray, List.set_cons_zero, List.set_cons_succ, i64_w, i32_w]
          rfl
         refine pure_ (i := 10) (N := some 99) (v := ?_) (a' := ?_) #[true, true, true, true, true, true, true, true, true, true, true, false, false, false, false, false, false, false, false, false, false, false, false, false, false, false, false, false, false, false, false, false, false, false] rfl rfl (any_of HT_.out (by kernel_rfl)) (fun _ _ _ h => h) (Or.inl ⟨by rfl, ?_⟩) ?_ ?_
         rotate_left
         ·intro w'
          go_simp
          with_reducible rfl
         rotate_left
         ·simp only [Act.put, List.setIfInBounds_toArray, List.set_cons_zero, List.set_cons_succ, i64_w, i32_w]
          rfl
         refine pure_ (i := 11) (N := some 100) (v := ?_) (a' := ?_) #[true, true, true, true, true, true, true, true, true, true, true, true, false, false, false, false, false, false, false, false, false, false, false, false, false, false, false, false, false, false, false, false, false, false] rfl rfl (any_of HT_.out (by kernel_rfl)) (fun _ _ _ h => h) (Or.inl ⟨by rfl, ?_⟩) ?_ ?_
         rotate_left
         ·intro w'
          go_simp
          with_reducible rfl
         rotate_left
         ·simp only [Act.put, List.setIfInBounds_toArray, List.set_cons_zero, List.set_cons_succ, i64_w, i32_w]
          rfl
         refine pure_ (i := 12) (N := some 101) (v := ?_) (a' := ?_) #[true, true, true, true, true, true, true, true, true, true, true, true, true, false, false, false, false, false, false, false, false, false, false, false, false, false, false, false, false, false, false, false, false, false] rfl rfl (any_of HT_.out (by kernel_rfl)) (fun _ _ _ h => h) (Or.inl ⟨by rfl, ?_⟩) ?_ ?_
         rotate_left
         ·intro w'
          go_simp
          with_reducible rfl
         rotate_left
         ·simp only [Act.put, List.setIfInBounds_toArray, List.set_cons_zero, List.set_cons_succ, i64_w, i32_w]
          rfl
         refine pure_ (i := 13) (N := some 102) (v := ?_) (a' := ?_) #[true, true, true, true, true, true, true, true, true, true, true, true, true, true, false, false, false, false, false, false, false, false, false, false, false, false, false, false, false, false, false, false, false, false] rfl rfl (any_of HT_.out (by kernel_rfl)) (fun _ _ _ h => h) (Or.inl ⟨by rfl, ?_⟩) ?_ ?_
         rotate_left
         ·intro w'
          go_simp
          with_reducible rfl
         rotate_left
         ·simp only [Act.put, List.setIfInBounds_toArray, List.set_cons_zero, List.set_cons_succ, i64_w, i32_w]
          rfl
         refine pure_ (i := 14) (N := some 103) (v := ?_) (a' := ?_) #[true, true, true, true, true, true, true, true, true, true, true, true, true, true, true, false, false, false, false, false, false, false, false, false, false, false, false, false, false, false, false, false, false, false] rfl rfl (any_of HT_.out (by kernel_rfl)) (fun _ _ _ h => h) (Or.inl ⟨by rfl, ?_⟩) ?_ ?_
         rotate_left
         ·intro w'
          go_simp
          with_reducible rfl
         rotate_left
         ·simp only [Act.put, List.setIfInBounds_toArray, List.set_cons_zero, List.set_cons_succ, i64_w, i32_w]
          rfl
         refine pure_ (i := 15) (N := some 104) (v := ?_) (a' := ?_) #[true, true, true, true, true, true, true, true, true, true, true, true, true, true, true, true, false, false, false, false, false, false, false, false, false, false, false, false, false, false, false, false, false, false] rfl rfl (any_of HT_.out (by kernel_rfl)) (fun _ _ _ h => h) (Or.inl ⟨by rfl, ?_⟩) ?_ ?_
         rotate_left
         ·intro w'
          go_simp
          with_reducible rfl
         rotate_left
         ·simp only [Act.put, List.setIfInBounds_toArray, List.set_cons_zero, List.set_cons_succ, i64_w, i32_w]
          rfl
         refine pure_ (i := 16) (N := some 105) (v := ?_) (a' := ?_) #[true, true, true, true, true, true, true, true, true, true, true, true, true, true, true, true, true, false, false, false, false, false, false, false, false, false, false, false, false, false, false, false, false, false] rfl rfl (any_of HT_.out (by kernel_rfl)) (fun _ _ _ h => h) (Or.inl ⟨by rfl, ?_⟩) ?_ ?_
         rotate_left
         ·intro w'
          go_simp
          with_reducible rfl
         rotate_left
         ·simp only [Act.put, List.setIfInBounds_toArray, List.set_cons_zero, List.set_cons_succ, i64_w, i32_w]
          rfl
         refine pure_ (i := 17) (N := some 106) (v := ?_) (a' := ?_) #[true, true, true, true, true, true, true, true, true, true, true, true, true, true, true, true, true, true, false, false, false, false, false, false, false, false, false, false, false, false, false, false, false, false] rfl rfl (any_of HT_.out (by kernel_rfl)) (fun _ _ _ h => h) (Or.inl ⟨by rfl, ?_⟩) ?_ ?_
         rotate_left
         ·intro w'
          go_simp
          with_reducible rfl
         rotate_left
         ·simp only [Act.put, List.setIfInBounds_toArray, List.set_cons_zero, List.set_cons_succ, i64_w, i32_w]
          rfl
         refine pure_ (i := 19) (N := some 108) (v := ?_) (a' := ?_) #[true, true, true, true, true, true, true, true, true, true, true, true, true, true, true, true, true, true, false, true, false, false, false, false, false, false, false, false, false, false, false, false, false, false] rfl rfl (any_of HT_.out (by kernel_rfl)) (fun _ _ _ h => h) (Or.inl ⟨by rfl, ?_⟩) ?_ ?_
         rotate_left
         ·intro w'
          go_simp
          with_reducible rfl
         rotate_left
         ·simp only [Act.put, List.setIfInBounds_toArray, List.set_cons_zero, List.set_cons_succ, i64_w, i32_w]
          rfl
         refine take_ (i := 18) (N := some 107) (v := ?_) (a' := ?_) #[true, true, true, true, true, true, true, true, true, true, true, true, true, true, true, true, true, true, true, true, false, false, false, false, false, false, false, false, false, false, false, false, false, false] rfl rfl (take_ofW HT_.out HW_.out (by kernel_rfl)) (fun _ _ _ h => h) (Or.inl ⟨by rfl, ?_⟩) hHeld ?_ ?_
         rotate_left
         ·rintro w' ⟨s0, s1, s2, s3, s4⟩
          go_simp
          with_reducible rfl
         rotate_left
         ·simp only [Act.put, List.setIfInBounds_toArray, List.set_cons_zero, List.set_cons_succ, i64_w, i32_w]
          rfl
         refine one_ (i := 20) (N := some 109) #[true, true, true, true, true, true, true, true, true, true, true, true, true, true, true, true, true, true, true, true, true, false, false, false, false, false, false, false, false, false, false, false, false, false] rfl rfl (one_of HT_.out (by kernel_rfl)) (by decide) (fun K hK => ?_)
         refine goes_ Tryd.func26 (by kernel_rfl) rfl #[.slice A0 l0.length c0] (by rfl) rfl rfl (by (try simp only [List.map_toArray, List.map_cons, List.map_nil]); first | done | rfl | (simp only [List.length_drop, List.length_take]; rfl)) ?_
         with_reducible refine (nat_Trim.calls _ _ l0 t843 _ ?side1 ?side2 A27.out).mono ?_
         (case side1 => exact Cu (Kd.C_below HR0.out HB.out))
         (case side2 => exact HC0.out)
         rintro e w42 ⟨v844, rfl, ho0, hb⟩
         refine ⟨_, rfl, ?_⟩
         have n0_ := Re HO814 (Kd.R_base ho0) hb
         have n1_ := Re HO818 (Kd.R_base ho0) hb
         have n2_ := Re HO822 (Kd.R_base ho0) hb
         have n3_ := Re HO826 (Kd.R_base ho0) hb
         have n4_ := Re HO830 (Kd.R_base ho0) hb
         have n5_ := Re HO834 (Kd.R_base ho0) hb
         have n6_ := Re HO838 (Kd.R_base ho0) hb
         have n7_ := Re HO842 (Kd.R_base ho0) hb
         have n8_ := Aside0.mk (Kd.R_lower (Kd.R_new' (Kd.R_new' (Kd.R_new' (Kd.R_new' (Kd.R_new' (Kd.R_new' (Kd.R_new' (Kd.R_new' ho0 (Kd.R_lt (Ru HO814))) (Kd.R_lt (Ru HO818))) (Kd.R_lt (Ru HO822))) (Kd.R_lt (Ru HO826))) (Kd.R_lt (Ru HO830))) (Kd.R_lt (Ru HO834))) (Kd.R_lt (Ru HO838))) (Kd.R_lt (Ru HO842))) (Bz HB))
         have n9_ := Bs HB hb
         clear HO814
         clear HO818
         clear HO822
         clear HO826
         clear HO830
         clear HO834
         clear HO838
         clear HO842
         clear HB
         have HO814 := n0_
         have HO818 := n1_
         have HO822 := n2_
         have HO826 := n3_
         have HO830 := n4_
         have HO834 := n5_
         have HO838 := n6_
         have HO842 := n7_
         have HO845 := n8_
         have HB := n9_
         clear n0_ n1_ n2_ n3_ n4_ n5_ n6_ n7_ n8_ n9_
         (try clear hb)
         (try clear hb2)
         (try clear hk)
         (try clear hi)
         (try clear ho0)
         obtain ⟨Ao44, co44, eo44⟩ := Kd.R_slice HO842.out
         (first | subst eo44 | (injection eo44 with f1_ f2_ f3_; have f4_ := f1_.symm; have f5_ := f3_.symm; clear f1_ f2_ f3_; subst f4_; subst f5_))
         refine hK.out _ _ ⟨own_string (P := Tryd.prog) Tryd.underlying22 Tryd.underlying5 Tryd.underlying9 (Kd.own_of_R HO814.out), own_string (P := Tryd.prog) Tryd.underlying22 Tryd.underlying5 Tryd.underlying9 (Kd.own_of_R HO818.out), own_string (P := Tryd.prog) Tryd.underlying22 Tryd.underlying5 Tryd.underlying9 (Kd.own_of_R HO822.out), own_string (P := Tryd.prog) Tryd.underlying22 Tryd.underlying5 Tryd.underlying9 (Kd.own_of_R HO834.out), own_string (P := Tryd.prog) Tryd.underlying22 Tryd.underlying5 Tryd.underlying9 (Kd.own_of_R HO838.out)⟩ (fun hHeld => ?_)
         clear hK K
         refine norm_ (a' := ?_) ?_ ?_
         rotate_left
         ·show Act.put _ (some 109) _ = _
          simp only [Act.put, List.setIfInBounds_toArray, List.set_cons_zero, List.set_cons_succ, i64_w, i32_w]
          rfl
         refine one_ (i := 21) (N := some 110) #[true, true, true, true, true, true, true, true, true, true, true, true, true, true, true, true, true, true, true, true, true, true, false, false, false, false, false, false, false, false, false, false, false, false] rfl rfl (one_of HT_.out (by kernel_rfl)) (by decide) (fun K hK => ?_)
         have hcv43 := own_string (P := Tryd.prog) Tryd.underlying22 Tryd.underlying5 Tryd.underlying9 (Kd.own_of_R HO845.out)
         refine value_ (w1 := ?_) (v := ?_) (by rfl) rfl ?_ ?_
         rotate_left 2
         ·go_simp
          constructor
          ·rfl
          ·rfl
         clear hcv43
         refine hK.out _ _ ⟨own_string (P := Tryd.prog) Tryd.underlying22 Tryd.underlying5 Tryd.underlying9 (Kd.own_of_R HO814.out), own_string (P := Tryd.prog) Tryd.underlying22 Tryd.underlying5 Tryd.underlying9 (Kd.own_of_R HO818.out), own_string (P := Tryd.prog) Tryd.underlying22 Tryd.underlying5 Tryd.underlying9 (Kd.own_of_R HO822.out), own_string (P := Tryd.prog) Tryd.underlying22 Tryd.underlying5 Tryd.underlying9 (Kd.own_of_R HO834.out), own_string (P := Tryd.prog) Tryd.underlying22 Tryd.underlying5 Tryd.underlying9 (Kd.own_of_R HO838.out)⟩ (fun hHeld => ?_)
         clear hK K
         refine norm_ (a' := ?_) ?_ ?_
         rotate_left
         ·show Act.put _ (some 110) _ = _
          simp only [Act.put, List.setIfInBounds_toArray, List.set_cons_zero, List.set_cons_succ, i64_w, i32_w]
          rfl
         refine pure_ (i := 22) (N := some 111) (v := ?_) (a' := ?_) #[true, true, true, true, true, true, true, true, true, true, true, true, true, true, true, true, true, true, true, true, true, true, true, false, false, false, false, false, false, false, false, false, false, false] rfl rfl (any_of HT_.out (by kernel_rfl)) (fun _ _ _ h => h) (Or.inl ⟨by rfl, ?_⟩) ?_ ?_
         rotate_left
         ·intro w'
          go_simp
          with_reducible rfl
         rotate_left
         ·simp only [Act.put, List.setIfInBounds_toArray, List.set_cons_zero, List.set_cons_succ, i64_w, i32_w]
          rfl
         refine pure_ (i := 23) (N := some 112) (v := ?_) (a' := ?_) #[true, true, true, true, true, true, true, true, true, true, true, true, true, true, true, true, true, true, true, true, true, true, true, true, false, false, false, false, false, false, false, false, false, false] rfl rfl (any_of HT_.out (by kernel_rfl)) (fun _ _ _ h => h) (Or.inl ⟨by rfl, ?_⟩) ?_ ?_
         rotate_left
         ·intro w'
          go_simp
          with_reducible rfl
         rotate_left
         ·simp only [Act.put, List.setIfInBounds_toArray, List.set_cons_zero, List.set_cons_succ, i64_w, i32_w]
          rfl
         refine pure_ (i := 24) (N := some 113) (v := ?_) (a' := ?_) #[true, true, true, true, true, true, true, true, true, true, true, true, true, true, true, true, true, true, true, true, true, true, true, true, true, false, false, false, false, false, false, false, false, false] rfl rfl (any_of HT_.out (by kernel_rfl)) (fun _ _ _ h => h) (Or.inl ⟨by rfl, ?_⟩) ?_ ?_
         rotate_left
         ·intro w'
          go_simp
          with_reducible rfl
         rotate_left
         ·simp only [Act.put, List.setIfInBounds_toArray, List.set_cons_zero, List.set_cons_succ, i64_w, i32_w]
          rfl
         refine pure_ (i := 25) (N := some 114) (v := ?_) (a' := ?_) #[true, true, true, true, true, true, true, true, true, true, true, true, true, true, true, true, true, true, true, true, true, true, true, true, true, true, false, false, false, false, false, false, false, false] rfl rfl (any_of HT_.out (by kernel_rfl)) (fun _ _ _ h => h) (Or.inl ⟨by rfl, ?_⟩) ?_ ?_
         rotate_left
         ·intro w'
          go_simp
          with_reducible rfl
         rotate_left
         ·simp only [Act.put, List.setIfInBounds_toArray, List.set_cons_zero, List.set_cons_succ, i64_w, i32_w]
          rfl
         refine pure_ (i := 26) (N := some 115) (v := ?_) (a' := ?_) #[true, true, true, true, true, true, true, true, true, true, true, true, true, true, true, true, true, true, true, true, true, true, true, true, true, true, true, false, false, false, false, false, false, false] rfl rfl (any_of HT_.out (by kernel_rfl)) (fun _ _ _ h => h) (Or.inl ⟨by rfl, ?_⟩) ?_ ?_
         rotate_left
         ·intro w'
          go_simp
          with_reducible rfl
         rotate_left
         ·simp only [Act.put, List.setIfInBounds_toArray, List.set_cons_zero, List.set_cons_succ, i64_w, i32_w]
          rfl
         refine pure_ (i := 27) (N := some 116) (v := ?_) (a' := ?_) #[true, true, true, true, true, true, true, true, true, true, true, true, true, true, true, true, true, true, true, true, true, true, true, true, true, true, true, true, false, false, false, false, false, false] rfl rfl (any_of HT_.out (by kernel_rfl)) (fun _ _ _ h => h) (Or.inl ⟨by rfl, ?_⟩) ?_ ?_
         rotate_left
         ·intro w'
          go_simp
          with_reducible rfl
         rotate_left
         ·simp only [Act.put, List.setIfInBounds_toArray, List.set_cons_zero, List.set_cons_succ, i64_w, i32_w]
          rfl
         refine pure_ (i := 28) (N := some 117) (v := ?_) (a' := ?_) #[true, true, true, true, true, true, true, true, true, true, true, true, true, true, true, true, true, true, true, true, true, true, true, true, true, true, true, true, true, false, false, false, false, false] rfl rfl (any_of HT_.out (by kernel_rfl)) (fun _ _ _ h => h) (Or.inl ⟨by rfl, ?_⟩) ?_ ?_
         rotate_left
         ·intro w'
          go_simp
          with_reducible rfl
         rotate_left
         ·simp only [Act.put, List.setIfInBounds_toArray, List.set_cons_zero, List.set_cons_succ, i64_w, i32_w]
          rfl
         refine pure_ (i := 29) (N := some 118) (v := ?_) (a' := ?_) #[true, true, true, true, true, true, true, true, true, true, true, true, true, true, true, true, true, true, true, true, true, true, true, true, true, true, true, true, true, true, false, false, false, false] rfl rfl (any_of HT_.out (by kernel_rfl)) (fun _ _ _ h => h) (Or.inl ⟨by rfl, ?_⟩) ?_ ?_
         rotate_left
         ·intro w'
          go_simp
          with_reducible rfl
         rotate_left
         ·simp only [Act.put, List.setIfInBounds_toArray, List.set_cons_zero, List.set_cons_succ, i64_w, i32_w]
          rfl
         refine pure_ (i := 30) (N := some 119) (v := ?_) (a' := ?_) #[true, true, true, true, true, true, true, true, true, true, true, true, true, true, true, true, true, true, true, true, true, true, true, true, true, true, true, true, true, true, true, false, false, false] rfl rfl (any_of HT_.out (by kernel_rfl)) (fun _ _ _ h => h) (Or.inl ⟨by rfl, ?_⟩) ?_ ?_
         rotate_left
         ·intro w'
          go_simp
          with_reducible rfl
         rotate_left
         ·simp only [Act.put, List.setIfInBounds_toArray, List.set_cons_zero, List.set_cons_succ, i64_w, i32_w]
          rfl
         refine pure_ (i := 31) (N := some 120) (v := ?_) (a' := ?_) #[true, true, true, true, true, true, true, true, true, true, true, true, true, true, true, true, true, true, true, true, true, true, true, true, true, true, true, true, true, true, true, true, false, false] rfl rfl (any_of HT_.out (by kernel_rfl)) (fun _ _ _ h => h) (Or.inl ⟨by rfl, ?_⟩) ?_ ?_
         rotate_left
         ·intro w'
          go_simp
          with_reducible rfl
         rotate_left
         ·simp only [Act.put, List.setIfInBounds_toArray, List.set_cons_zero, List.set_cons_succ, i64_w, i32_w]
          rfl
         refine pure_ (i := 32) (N := some 121) (v := ?_) (a' := ?_) #[true, true, true, true, true, true, true, true, true, true, true, true, true, true, true, true, true, true, true, true, true, true, true, true, true, true, true, true, true, true, true, true, true, false] rfl rfl (any_of HT_.out (by kernel_rfl)) (fun _ _ _ h => h) (Or.inl ⟨by rfl, ?_⟩) ?_ ?_
         rotate_left
         ·intro w'
          go_simp
          with_reducible rfl
         rotate_left
         ·simp only [Act.put, List.setIfInBounds_toArray, List.set_cons_zero, List.set_cons_succ, i64_w, i32_w]
          rfl
         refine pure_ (i := 33) (N := some 6) (v := ?_) (a' := ?_) #[true, true, true, true, true, true, true, true, true, true, true, true, true, true, true, true, true, true, true, true, true, true, true, true, true, true, true, true, true, true, true, true, true, true] rfl rfl (any_of HT_.out (by kernel_rfl)) (fun _ _ _ h => h) (Or.inl ⟨by rfl, ?_⟩) ?_ ?_
         rotate_left
         ·intro w'
          go_simp
          with_reducible rfl
         rotate_left
         ·simp only [Act.put, List.setIfInBounds_toArray, List.set_cons_zero, List.set_cons_succ, i64_w, i32_w]
          rfl
         refine done_ (done_of HT_.out (by kernel_rfl)) ?_
         try go_wp2
         go_ret
         exact ⟨rfl_, Bu HB⟩
        ·rw [if_neg c29] at H
         have c29b0 : (t840 == 0) = false := beq_eq_false_iff_ne.mpr c29
         have c29b1 : (t840 != 0) = true := bne_iff_ne.mpr c29
         obtain rfl := Option.some.inj H
         try go_wp2_with (first | ((with_reducible refine gate_callee (f := 25) rfl ?_); refine goesA (some 44) Tryd.func25 #[.slice A0 l0.length c0, .slice A1 l1.length c1] rfl ?_; (with_reducible refine (nat_Add.calls kj3 _ _ l0 _ _ l1 t811 t812 _ ?side1 ?side2 ?side3 ?side4 A16.out).mono ?_); (case side1 => exact Cu (Kd.C_below HR0.out HB.out)); (case side2 => exact HC0.out); (case side3 => exact Cu (Kd.C_below HR1.out HB.out)); (case side4 => exact HC1.out); rintro e w46 ⟨v813, rfl, ho0, hb⟩; refine ⟨_, rfl, ?_⟩; have n0_ := Aside0.mk (Kd.R_lower ho0 (Bz HB)); have n1_ := Bs HB hb; clear HB; revert n0_ n1_; intro HO814 HB; (try clear hb); (try clear hb2); (try clear hk); (try clear hi); (try clear ho0)) | ((with_reducible refine gate_callee (f := 25) rfl ?_); refine goesA (some 50) Tryd.func25 #[.slice A1 l1.length c1, .slice A0 l0.length c0] rfl ?_; (with_reducible refine (nat_Add.calls kj3 _ _ l1 _ _ l0 t815 t816 _ ?side1 ?side2 ?side3 ?side4 A17.out).mono ?_); (case side1 => exact Cu (Kd.C_below HR1.out HB.out)); (case side2 => exact HC1.out); (case side3 => exact Cu (Kd.C_below HR0.out HB.out)); (case side4 => exact HC0.out); rintro e w47 ⟨v817, rfl, ho0, hb⟩; refine ⟨_, rfl, ?_⟩; have n0_ := Re HO814 (Kd.R_base ho0) hb; have n1_ := Aside0.mk (Kd.R_lower (Kd.R_new' ho0 (Kd.R_lt (Ru HO814))) (Bz HB)); have n2_ := Bs HB hb; clear HO814 HB; revert n0_ n1_ n2_; intro HO814 HO818 HB; (try clear hb); (try clear hb2); (try clear hk); (try clear hi); (try clear ho0); obtain ⟨Ao48, co48, eo48⟩ := Kd.R_slice HO814.out; subst eo48) | ((with_reducible refine gate_callee (f := 23) rfl ?_); refine goesA (some 56) Tryd.func23 #[.slice Ao48 t811.length co48, .slice A2 l2.length c2] rfl ?_; (with_reducible refine (nat_Mul.calls kj3 _ _ t811 _ _ l2 t819 t820 _ ?side1 ?side2 ?side3 ?side4 A18.out).mono ?_); (case side1 => exact Cu (Kd.R_reads' HO814.out).2.2); (case side2 => exact (Kd.R_reads' HO814.out).2.1); (case side3 => exact Cu (Kd.C_below HR2.out HB.out)); (case side4 => exact HC2.out); rintro e w49 ⟨v821, rfl, ho0, hb⟩; refine ⟨_, rfl, ?_⟩; have n0_ := Re HO814 (Kd.R_base ho0) hb; have n1_ := Re HO818 (Kd.R_base ho0) hb; have n2_ := Aside0.mk (Kd.R_lower (Kd.R_new' (Kd.R_new' ho0 (Kd.R_lt (Ru HO814))) (Kd.R_lt (Ru HO818))) (Bz HB)); have n3_ := Bs HB hb; clear HO814 HO818 HB; revert n0_ n1_ n2_ n3_; intro HO814 HO818 HO822 HB; (try clear hb); (try clear hb2); (try clear hk); (try clear hi); (try clear ho0)) | ((with_reducible refine gate_callee (f := 23) rfl ?_); refine goesA (some 62) Tryd.func23 #[.slice A0 l0.length c0, .slice A2 l2.length c2] rfl ?_; (with_reducible refine (nat_Mul.calls kj3 _ _ l0 _ _ l2 t823 t824 _ ?side1 ?side2 ?side3 ?side4 A19.out).mono ?_); (case side1 => exact Cu (Kd.C_below HR0.out HB.out)); (case side2 => exact HC0.out); (case side3 => exact Cu (Kd.C_below HR2.out HB.out)); (case side4 => exact HC2.out); rintro e w50 ⟨v825, rfl, ho0, hb⟩; refine ⟨_, rfl, ?_⟩; have n0_ := Re HO814 (Kd.R_base ho0) hb; have n1_ := Re HO818 (Kd.R_base ho0) hb; have n2_ := Re HO822 (Kd.R_base ho0) hb; have n3_ := Aside0.mk (Kd.R_lower (Kd.R_new' (Kd.R_new' (Kd.R_new' ho0 (Kd.R_lt (Ru HO814))) (Kd.R_lt (Ru HO818))) (Kd.R_lt (Ru HO822))) (Bz HB)); have n4_ := Bs HB hb; clear HO814 HO818 HO822 HB; revert n0_ n1_ n2_ n3_ n4_; intro HO814 HO818 HO822 HO826 HB; (try clear hb); (try clear hb2); (try clear hk); (try clear hi); (try clear ho0)) | ((with_reducible refine gate_callee (f := 23) rfl ?_); refine goesA (some 68) Tryd.func23 #[.slice A2 l2.length c2, .slice A1 l1.length c1] rfl ?_; (with_reducible refine (nat_Mul.calls kj3 _ _ l2 _ _ l1 t827 t828 _ ?side1 ?side2 ?side3 ?side4 A20.out).mono ?_); (case side1 => exact Cu (Kd.C_below HR2.out HB.out)); (case side2 => exact HC2.out); (case side3 => exact Cu (Kd.C_below HR1.out HB.out)); (case side4 => exact HC1.out); rintro e w51 ⟨v829, rfl, ho0, hb⟩; refine ⟨_, rfl, ?_⟩; have n0_ := Re HO814 (Kd.R_base ho0) hb; have n1_ := Re HO818 (Kd.R_base ho0) hb; have n2_ := Re HO822 (Kd.R_base ho0) hb; have n3_ := Re HO826 (Kd.R_base ho0) hb; have n4_ := Aside0.mk (Kd.R_lower (Kd.R_new' (Kd.R_new' (Kd.R_new' (Kd.R_new' ho0 (Kd.R_lt (Ru HO814))) (Kd.R_lt (Ru HO818))) (Kd.R_lt (Ru HO822))) (Kd.R_lt (Ru HO826))) (Bz HB)); have n5_ := Bs HB hb; clear HO814 HO818 HO822 HO826 HB; revert n0_ n1_ n2_ n3_ n4_ n5_; intro HO814 HO818 HO822 HO826 HO830 HB; (try clear hb); (try clear hb2); (try clear hk); (try clear hi); (try clear ho0); obtain ⟨Ao52, co52, eo52⟩ := Kd.R_slice HO826.out; subst eo52; obtain ⟨Ao53, co53, eo53⟩ := Kd.R_slice HO830.out; subst eo53) | ((with_reducible refine gate_callee (f := 25) rfl ?_); refine goesA (some 74) Tryd.func25 #[.slice Ao52 t823.length co52, .slice Ao53 t827.length co53] rfl ?_; (with_reducible refine (nat_Add.calls kj3 _ _ t823 _ _ t827 t831 t832 _ ?side1 ?side2 ?side3 ?side4 A21.out).mono ?_); (case side1 => exact Cu (Kd.R_reads' HO826.out).2.2); (case side2 => exact (Kd.R_reads' HO826.out).2.1); (case side3 => exact Cu (Kd.R_reads' HO830.out).2.2); (case side4 => exact (Kd.R_reads' HO830.out).2.1); rintro e w54 ⟨v833, rfl, ho0, hb⟩; refine ⟨_, rfl, ?_⟩; have n0_ := Re HO814 (Kd.R_base ho0) hb; have n1_ := Re HO818 (Kd.R_base ho0) hb; have n2_ := Re HO822 (Kd.R_base ho0) hb; have n3_ := Re HO826 (Kd.R_base ho0) hb; have n4_ := Re HO830 (Kd.R_base ho0) hb; have n5_ := Aside0.mk (Kd.R_lower (Kd.R_new' (Kd.R_new' (Kd.R_new' (Kd.R_new' (Kd.R_new' ho0 (Kd.R_lt (Ru HO814))) (Kd.R_lt (Ru HO818))) (Kd.R_lt (Ru HO822))) (Kd.R_lt (Ru HO826))) (Kd.R_lt (Ru HO830))) (Bz HB)); have n6_ := Bs HB hb; clear HO814 HO818 HO822 HO826 HO830 HB; revert n0_ n1_ n2_ n3_ n4_ n5_ n6_; intro HO814 HO818 HO822 HO826 HO830 HO834 HB; (try clear hb); (try clear hb2); (try clear hk); (try clear hi); (try clear ho0)) | ((with_reducible refine gate_callee (f := 27) rfl ?_); refine goesA (some 80) Tryd.func27 #[.slice Ao48 t811.length co48, .slice A1 l1.length c1] rfl ?_; (with_reducible refine (nat_Sub.calls kj3 _ _ t811 _ _ l1 t835 t836 _ ?side1 ?side2 ?side3 ?side4 A22.out).mono ?_); (case side1 => exact Cu (Kd.R_reads' HO814.out).2.2); (case side2 => exact (Kd.R_reads' HO814.out).2.1); (case side3 => exact Cu (Kd.C_below HR1.out HB.out)); (case side4 => exact HC1.out); rintro e w55 ⟨v837, rfl, ho0, hb⟩; refine ⟨_, rfl, ?_⟩; have n0_ := Re HO814 (Kd.R_base ho0) hb; have n1_ := Re HO818 (Kd.R_base ho0) hb; have n2_ := Re HO822 (Kd.R_base ho0) hb; have n3_ := Re HO826 (Kd.R_base ho0) hb; have n4_ := Re HO830 (Kd.R_base ho0) hb; have n5_ := Re HO834 (Kd.R_base ho0) hb; have n6_ := Aside0.mk (Kd.R_lower (Kd.R_new' (Kd.R_new' (Kd.R_new' (Kd.R_new' (Kd.R_new' (Kd.R_new' ho0 (Kd.R_lt (Ru HO814))) (Kd.R_lt (Ru HO818))) (Kd.R_lt (Ru HO822))) (Kd.R_lt (Ru HO826))) (Kd.R_lt (Ru HO830))) (Kd.R_lt (Ru HO834))) (Bz HB)); have n7_ := Bs HB hb; clear HO814 HO818 HO822 HO826 HO830 HO834 HB; revert n0_ n1_ n2_ n3_ n4_ n5_ n6_ n7_; intro HO814 HO818 HO822 HO826 HO830 HO834 HO838 HB; (try clear hb); (try clear hb2); (try clear hk); (try clear hi); (try clear ho0)) | ((with_reducible refine gate_callee (f := 27) rfl ?_); refine goesA (some 86) Tryd.func27 #[.slice Ao48 t811.length co48, .slice Ao48 t811.length co48] rfl ?_; (with_reducible refine (nat_Sub.calls kj3 _ _ t811 _ _ t811 t839 t840 _ ?side1 ?side2 ?side3 ?side4 A23.out).mono ?_); (case side1 => exact Cu (Kd.R_reads' HO814.out).2.2); (case side2 => exact (Kd.R_reads' HO814.out).2.1); (case side3 => exact Cu (Kd.R_reads' HO814.out).2.2); (case side4 => exact (Kd.R_reads' HO814.out).2.1); rintro e w56 ⟨v841, rfl, ho0, hb⟩; refine ⟨_, rfl, ?_⟩; have n0_ := Re HO814 (Kd.R_base ho0) hb; have n1_ := Re HO818 (Kd.R_base ho0) hb; have n2_ := Re HO822 (Kd.R_base ho0) hb; have n3_ := Re HO826 (Kd.R_base ho0) hb; have n4_ := Re HO830 (Kd.R_base ho0) hb; have n5_ := Re HO834 (Kd.R_base ho0) hb; have n6_ := Re HO838 (Kd.R_base ho0) hb; have n7_ := Aside0.mk (Kd.R_lower (Kd.R_new' (Kd.R_new' (Kd.R_new' (Kd.R_new' (Kd.R_new' (Kd.R_new' (Kd.R_new' ho0 (Kd.R_lt (Ru HO814))) (Kd.R_lt (Ru HO818))) (Kd.R_lt (Ru HO822))) (Kd.R_lt (Ru HO826))) (Kd.R_lt (Ru HO830))) (Kd.R_lt (Ru HO834))) (Kd.R_lt (Ru HO838))) (Bz HB)); have n8_ := Bs HB hb; clear HO814 HO818 HO822 HO826 HO830 HO834 HO838 HB; revert n0_ n1_ n2_ n3_ n4_ n5_ n6_ n7_ n8_; intro HO814 HO818 HO822 HO826 HO830 HO834 HO838 HO842 HB; (try clear hb); (try clear hb2); (try clear hk); (try clear hi); (try clear ho0)))
         have n0_ := Aside0.mk (Kd.R_drew HO814.out)
         have n1_ := Aside0.mk (Kd.R_drew HO818.out)
         have n2_ := Aside0.mk (Kd.R_drew HO822.out)
         have n3_ := Aside0.mk (Kd.R_drew HO826.out)
         have n4_ := Aside0.mk (Kd.R_drew HO830.out)
         have n5_ := Aside0.mk (Kd.R_drew HO834.out)
         have n6_ := Aside0.mk (Kd.R_drew HO838.out)
         have n7_ := Aside0.mk (Kd.R_drew HO842.out)
         have n8_ := Aside0.mk (below_drew1 HB.out)
         clear HO814
         clear HO818
         clear HO822
         clear HO826
         clear HO830
         clear HO834
         clear HO838
         clear HO842
         clear HB
         have HO814 := n0_
         have HO818 := n1_
         have HO822 := n2_
         have HO826 := n3_
         have HO830 := n4_
         have HO834 := n5_
         have HO838 := n6_
         have HO842 := n7_
         have HB := n8_
         clear n0_ n1_ n2_ n3_ n4_ n5_ n6_ n7_ n8_
         refine start_ (n := 34) (S := fun w' => (convert 22 9 (.slice Ao48 t811.length co48)).run Tryd.prog w' = .ok (.string (strOfNums t811)) w' ∧ (convert 22 9 v817).run Tryd.prog w' = .ok (.string (strOfNums t815)) w' ∧ (convert 22 9 v821).run Tryd.prog w' = .ok (.string (strOfNums t819)) w' ∧ (convert 22 9 v833).run Tryd.prog w' = .ok (.string (strOfNums t831)) w' ∧ (convert 22 9 v837).run Tryd.prog w' = .ok (.string (strOfNums t835)) w') (ds := []) #[false, false, false, false, false, false, false, false, false, false, false, false, false, false, false, false, false, false, false, false, false, false, false, false, false, false, false, false, false, false, false, false, false, false] (by kernel_rfl) rfl rfl ⟨own_string (P := Tryd.prog) Tryd.underlying22 Tryd.underlying5 Tryd.underlying9 (Kd.own_of_R HO814.out), own_string (P := Tryd.prog) Tryd.underlying22 Tryd.underlying5 Tryd.underlying9 (Kd.own_of_R HO818.out), own_string (P := Tryd.prog) Tryd.underlying22 Tryd.underlying5 Tryd.underlying9 (Kd.own_of_R HO822.out), own_string (P := Tryd.prog) Tryd.underlying22 Tryd.underlying5 Tryd.underlying9 (Kd.own_of_R HO834.out), own_string (P := Tryd.prog) Tryd.underlying22 Tryd.underlying5 Tryd.underlying9 (Kd.own_of_R HO838.out)⟩ (fun hHeld => ?_); refine with_tabW lanyardlaw06_NatRings.tab11 lanyardlaw06_NatRings.bits11 (fun HT_ HW_ => ?_)
         generalize w56.drew = w57 at HO814 HO818 HO822 HO826 HO830 HO834 HO838 HO842 HB hHeld ⊢
         refine pure_ (i := 0) (N := some 89) (v := ?_) (a' := ?_) #[true, false, false, false, false, false, false, false, false, false, false, false, false, false, false, false, false, false, false, false, false, false, false, false, false, false, false, false, false, false, false, false, false, false] rfl rfl (any_of HT_.out (by kernel_rfl)) (fun _ _ _ h => h) (Or.inl ⟨by rfl, ?_⟩) ?_ ?_
         rotate_left
         ·intro w'
          go_simp
          with_reducible rfl
         rotate_left
         ·simp only [Act.put, List.setIfInBounds_toArray, List.set_cons_zero, List.set_cons_succ, i64_w, i32_w]
          rfl
         refine pure_ (i := 2) (N := some 91) (v := ?_) (a' := ?_) #[true, false, true, false, false, false, false, false, false, false, false, false, false, false, false, false, false, false, false, false, false, false, false, false, false, false, false, false, false, false, false, false, false, false] rfl rfl (any_of HT_.out (by kernel_rfl)) (fun _ _ _ h => h) (Or.inl ⟨by rfl, ?_⟩) ?_ ?_
         rotate_left
         ·intro w'
          go_simp
          with_reducible rfl
         rotate_left
         ·simp only [Act.put, List.setIfInBounds_toArray, List.set_cons_zero, List.set_cons_succ, i64_w, i32_w]
          rfl
         refine take_ (i := 1) (N := some 90) (v := ?_) (a' := ?_) #[true, true, true, false, false, false, false, false, false, false, false, false, false, false, false, false, false, false, false, false, false, false, false, false, false, false, false, false, false, false, false, false, false, false] rfl rfl (take_ofW HT_.out HW_.out (by kernel_rfl)) (fun _ _ _ h => h) (Or.inl ⟨by rfl, ?_⟩) hHeld ?_ ?_
         rotate_left
         ·rintro w' ⟨s0, s1, s2, s3, s4⟩
          go_simp
          with_reducible rfl
         rotate_left
         ·simp only [Act.put, List.setIfInBounds_toArray, List.set_cons_zero, List.set_cons_succ, i64_w, i32_w]
          rfl
         refine take_ (i := 3) (N := some 92) (v := ?_) (a' := ?_) #[true, true, true, true, false, false, false, false, false, false, false, false, false, false, false, false, false, false, false, false, false, false, false, false, false, false, false, false, false, false, false, false, false, false] rfl rfl (take_ofW HT_.out HW_.out (by kernel_rfl)) (fun _ _ _ h => h) (Or.inl ⟨by rfl, ?_⟩) hHeld ?_ ?_
         rotate_left
         ·rintro w' ⟨s0, s1, s2, s3, s4⟩
          go_simp
          with_reducible rfl
         rotate_left
         ·simp only [Act.put, List.setIfInBounds_toArray, List.set_cons_zero, List.set_cons_succ, i64_w, i32_w]
          rfl
         refine pure_ (i := 4) (N := some 93) (v := ?_) (a' := ?_) #[true, true, true, true, true, false, false, false, false, false, false, false, false, false, false, false, false, false, false, false, false, false, false, false, false, false, false, false, false, false, false, false, false, false] rfl rfl (any_of HT_.out (by kernel_rfl)) (fun _ _ _ h => h) (Or.inl ⟨by rfl, ?_⟩) ?_ ?_
         rotate_left
         ·intro w'
          go_simp
          with_reducible rfl
         rotate_left
         ·simp only [Act.put, List.setIfInBounds_toArray, List.set_cons_zero, List.set_cons_succ, i64_w, i32_w]
          rfl
         refine pure_ (i := 5) (N := some 94) (v := ?_) (a' := ?_) #[true, true, true, true, true, true, false, false, false, false, false, false, false, false, false, false, false, false, false, false, false, false, false, false, false, false, false, false, false, false, false, false, false, false] rfl rfl (any_of HT_.out (by kernel_rfl)) (fun _ _ _ h => h) (Or.inl ⟨by rfl, ?_⟩) ?_ ?_
         rotate_left
         ·intro w'
          go_simp
          with_reducible rfl
         rotate_left
         ·simp only [Act.put, List.setIfInBounds_toArray, List.set_cons_zero, List.set_cons_succ, i64_w, i32_w]
          rfl
         refine pure_ (i := 6) (N := some 95) (v := ?_) (a' := ?_) #[true, true, true, true, true, true, true, false, false, false, false, false, false, false, false, false, false, false, false, false, false, false, false, false, false, false, false, false, false, false, false, false, false, false] rfl rfl (any_of HT_.out (by kernel_rfl)) (fun _ _ _ h => h) (Or.inl ⟨by rfl, ?_⟩) ?_ ?_
         rotate_left
         ·intro w'
          go_simp
          with_reducible rfl
         rotate_left
         ·simp only [Act.put, List.setIfInBounds_toArray, List.set_cons_zero, List.set_cons_succ, i64_w, i32_w]
          rfl
         refine pure_ (i := 8) (N := some 97) (v := ?_) (a' := ?_) #[true, true, true, true, true, true, true, false, true, false, false, false, false, false, false, false, false, false, false, false, false, false, false, false, false, false, false, false, false, false, false, false, false, false] rfl rfl (any_of HT_.out (by kernel_rfl)) (fun _ _ _ h => h) (Or.inl ⟨by rfl, ?_⟩) ?_ ?_
         rotate_left
         ·intro w'
          go_simp
          with_reducible rfl
         rotate_left
         ·simp only [Act.put, List.setIfInBounds_toArray, List.set_cons_zero, List.set_cons_succ, i64_w, i32_w]
          rfl
         refine take_ (i := 7) (N := some 96) (v := ?_) (a' := ?_) #[true, true, true, true, true, true, true, true, true, false, false, false, false, false, false, false, false, false, false, false, false, false, false, false, false, false, false, false, false, false, false, false, false, false] rfl rfl (take_ofW HT_.out HW_.out (by kernel_rfl)) (fun _ _ _ h => h) (Or.inl ⟨by rfl, ?_⟩) hHeld ?_ ?_
         rotate_left
         ·rintro w' ⟨s0, s1, s2, s3, s4⟩
          go_simp
          with_reducible rfl
         rotate_left
         ·simp only [Act.put, List.setIfInBounds_toArray, List.set_cons_zero, List.set_cons_succ, i64_w, i32_w]
          rfl
         refine take_ (i := 9) (N := some 98) (v := ?_) (a' := ?_) #[true, true, true, true, true, true, true, true, true, true, false, false, false, false, false, false, false, false, false, false, false, false, false, false, false, false, false, false, false, false, false, false, false, false] rfl rfl (take_ofW HT_.out HW_.out (by kernel_rfl)) (fun _ _ _ h => h) (Or.inl ⟨by rfl, ?_⟩) hHeld ?_ ?_
         rotate_left
         ·rintro w' ⟨s0, s1, s2, s3, s4⟩
          go_simp
          with_reducible rfl
         rotate_left
         ·simp only [Act.put, List.setIfInBounds_toArray, List.set_cons_zero, List.set_cons_succ, i64_w, i32_w]
          rfl
         refine pure_ (i := 10) (N := some 99) (v := ?_) (a' := ?_) #[true, true, true, true, true, true, true, true, true, true, true, false, false, false, false, false, false, false, false, false, false, false, false, false, false, false, false, false, false, false, false, false, false, false] rfl rfl (any_of HT_.out (by kernel_rfl)) (fun _ _ _ h => h) (Or.inl ⟨by rfl, ?_⟩) ?_ ?_
         rotate_left
         ·intro w'
          go_simp
          with_reducible rfl
         rotate_left
         ·simp only [Act.put, List.setIfInBounds_toArray, List.set_cons_zero, List.set_cons_succ, i64_w, i32_w]
          rfl
         refine pure_ (i := 11) (N := some 100) (v := ?_) (a' := ?_) #[true, true, true, true, true, true, true, true, true, true, true, true, false, false, false, false, false, false, false, false, false, false, false, false, false, false, false, false, false, false, false, false, false, false] rfl rfl (any_of HT_.out (by kernel_rfl)) (fun _ _ _ h => h) (Or.inl ⟨by rfl, ?_⟩) ?_ ?_
         rotate_left
         ·intro w'
          go_simp
          with_reducible rfl
         rotate_left
         ·simp only [Act.put, List.setIfInBounds_toArray, List.set_cons_zero, List.set_cons_succ, i64_w, i32_w]
          rfl
         refine pure_ (i := 12) (N := some 101) (v := ?_) (a' := ?_) #[true, true, true, true, true, true, true, true, true, true, true, true, true, false, false, false, false, false, false, false, false, false, false, false, false, false, false, false, false, false, false, false, false, false] rfl rfl (any_of HT_.out (by kernel_rfl)) (fun _ _ _ h => h) (Or.inl ⟨by rfl, ?_⟩) ?_ ?_
         rotate_left
         ·intro w'
          go_simp
          with_reducible rfl
         rotate_left
         ·simp only [Act.put, List.setIfInBounds_toArray, List.set_cons_zero, List.set_cons_succ, i64_w, i32_w]
          rfl
         refine pure_ (i := 13) (N := some 102) (v := ?_) (a' := ?_) #[true, true, true, true, true, true, true, true, true, true, true, true, true, true, false, false, false, false, false, false, false, false, false, false, false, false, false, false, false, false, false, false, false, false] rfl rfl (any_of HT_.out (by kernel_rfl)) (fun _ _ _ h => h) (Or.inl ⟨by rfl, ?_⟩) ?_ ?_
         rotate_left
         ·intro w'
          go_simp
          with_reducible rfl
         rotate_left
         ·simp only [Act.put, List.setIfInBounds_toArray, List.set_cons_zero, List.set_cons_succ, i64_w, i32_w]
          rfl
         refine pure_ (i := 14) (N := some 103) (v := ?_) (a' := ?_) #[true, true, true, true, true, true, true, true, true, true, true, true, true, true, true, false, false, false, false, false, false, false, false, false, false, false, false, false, false, false, false, false, false, false] rfl rfl (any_of HT_.out (by kernel_rfl)) (fun _ _ _ h => h) (Or.inl ⟨by rfl, ?_⟩) ?_ ?_
         rotate_left
         ·intro w'
          go_simp
          with_reducible rfl
         rotate_left
         ·simp only [Act.put, List.setIfInBounds_toArray, List.set_cons_zero, List.set_cons_succ, i64_w, i32_w]
          rfl
         refine pure_ (i := 15) (N := some 104) (v := ?_) (a' := ?_) #[true, true, true, true, true, true, true, true, true, true, true, true, true, true, true, true, false, false, false, false, false, false, false, false, false, false, false, false, false, false, false, false, false, false] rfl rfl (any_of HT_.out (by kernel_rfl)) (fun _ _ _ h => h) (Or.inl ⟨by rfl, ?_⟩) ?_ ?_
         rotate_left
         ·intro w'
          go_simp
          with_reducible rfl
         rotate_left
         ·simp only [Act.put, List.setIfInBounds_toArray, List.set_cons_zero, List.set_cons_succ, i64_w, i32_w]
          rfl
         refine pure_ (i := 16) (N := some 105) (v := ?_) (a' := ?_) #[true, true, true, true, true, true, true, true, true, true, true, true, true, true, true, true, true, false, false, false, false, false, false, false, false, false, false, false, false, false, false, false, false, false] rfl rfl (any_of HT_.out (by kernel_rfl)) (fun _ _ _ h => h) (Or.inl ⟨by rfl, ?_⟩) ?_ ?_
         rotate_left
         ·intro w'
          go_simp
          with_reducible rfl
         rotate_left
         ·simp only [Act.put, List.setIfInBounds_toArray, List.set_cons_zero, List.set_cons_succ, i64_w, i32_w]
          rfl
         refine pure_ (i := 17) (N := some 106) (v := ?_) (a' := ?_) #[true, true, true, true, true, true, true, true, true, true, true, true, true, true, true, true, true, true, false, false, false, false, false, false, false, false, false, false, false, false, false, false, false, false] rfl rfl (any_of HT_.out (by kernel_rfl)) (fun _ _ _ h => h) (Or.inl ⟨by rfl, ?_⟩) ?_ ?_
         rotate_left
         ·intro w'
          go_simp
          with_reducible rfl
         rotate_left
         ·simp only [Act.put, List.setIfInBounds_toArray, List.set_cons_zero, List.set_cons_succ, i64_w, i32_w]
          rfl
         refine pure_ (i := 19) (N := some 108) (v := ?_) (a' := ?_) #[true, true, true, true, true, true, true, true, true, true, true, true, true, true, true, true, true, true, false, true, false, false, false, false, false, false, false, false, false, false, false, false, false, false] rfl rfl (any_of HT_.out (by kernel_rfl)) (fun _ _ _ h => h) (Or.inl ⟨by rfl, ?_⟩) ?_ ?_
         rotate_left
         ·intro w'
          go_simp
          with_reducible rfl
         rotate_left
         ·simp only [Act.put, List.setIfInBounds_toArray, List.set_cons_zero, List.set_cons_succ, i64_w, i32_w]
          rfl
         refine take_ (i := 18) (N := some 107) (v := ?_) (a' := ?_) #[true, true, true, true, true, true, true, true, true, true, true, true, true, true, true, true, true, true, true, true, false, false, false, false, false, false, false, false, false, false, false, false, false, false] rfl rfl (take_ofW HT_.out HW_.out (by kernel_rfl)) (fun _ _ _ h => h) (Or.inl ⟨by rfl, ?_⟩) hHeld ?_ ?_
         rotate_left
         ·rintro w' ⟨s0, s1, s2, s3, s4⟩
          go_simp
          with_reducible rfl
         rotate_left
         ·simp only [Act.put, List.setIfInBounds_toArray, List.set_cons_zero, List.set_cons_succ, i64_w, i32_w]
          rfl
         refine one_ (i := 20) (N := some 109) #[true, true, true, true, true, true, true, true, true, true, true, true, true, true, true, true, true, true, true, true, true, false, false, false, false, false, false, false, false, false, false, false, false, false] rfl rfl (one_of HT_.out (by kernel_rfl)) (by decide) (fun K hK => ?_)
         refine goes_ Tryd.func26 (by kernel_rfl) rfl #[.slice A0 l0.length c0] (by rfl) rfl rfl (by (try simp only [List.map_toArray, List.map_cons, List.map_nil]); first | done | rfl | (simp only [List.length_drop, List.length_take]; rfl)) ?_
         with_reducible refine (nat_Trim.calls _ _ l0 t843 _ ?side1 ?side2 A27.out).mono ?_
         (case side1 => exact Cu (Kd.C_below HR0.out HB.out))
         (case side2 => exact HC0.out)
         rintro e w58 ⟨v844, rfl, ho0, hb⟩
         refine ⟨_, rfl, ?_⟩
         have n0_ := Re HO814 (Kd.R_base ho0) hb
         have n1_ := Re HO818 (Kd.R_base ho0) hb
         have n2_ := Re HO822 (Kd.R_base ho0) hb
         have n3_ := Re HO826 (Kd.R_base ho0) hb
         have n4_ := Re HO830 (Kd.R_base ho0) hb
         have n5_ := Re HO834 (Kd.R_base ho0) hb
         have n6_ := Re HO838 (Kd.R_base ho0) hb
         have n7_ := Re HO842 (Kd.R_base ho0) hb
         have n8_ := Aside0.mk (Kd.R_lower (Kd.R_new' (Kd.R_new' (Kd.R_new' (Kd.R_new' (Kd.R_new' (Kd.R_new' (Kd.R_new' (Kd.R_new' ho0 (Kd.R_lt (Ru HO814))) (Kd.R_lt (Ru HO818))) (Kd.R_lt (Ru HO822))) (Kd.R_lt (Ru HO826))) (Kd.R_lt (Ru HO830))) (Kd.R_lt (Ru HO834))) (Kd.R_lt (Ru HO838))) (Kd.R_lt (Ru HO842))) (Bz HB))
         have n9_ := Bs HB hb
         clear HO814
         clear HO818
         clear HO822
         clear HO826
         clear HO830
         clear HO834
         clear HO838
         clear HO842
         clear HB
         have HO814 := n0_
         have HO818 := n1_
         have HO822 := n2_
         have HO826 := n3_
         have HO830 := n4_
         have HO834 := n5_
         have HO838 := n6_
         have HO842 := n7_
         have HO845 := n8_
         have HB := n9_
         clear n0_ n1_ n2_ n3_ n4_ n5_ n6_ n7_ n8_ n9_
         (try clear hb)
         (try clear hb2)
         (try clear hk)
         (try clear hi)
         (try clear ho0)
         refine hK.out _ _ ⟨own_string (P := Tryd.prog) Tryd.underlying22 Tryd.underlying5 Tryd.underlying9 (Kd.own_of_R HO814.out), own_string (P := Tryd.prog) Tryd.underlying22 Tryd.underlying5 Tryd.underlying9 (Kd.own_of_R HO818.out), own_string (P := Tryd.prog) Tryd.underlying22 Tryd.underlying5 Tryd.underlying9 (Kd.own_of_R HO822.out), own_string (P := Tryd.prog) Tryd.underlying22 Tryd.underlying5 Tryd.underlying9 (Kd.own_of_R HO834.out), own_string (P := Tryd.prog) Tryd.underlying22 Tryd.underlying5 Tryd.underlying9 (Kd.own_of_R HO838.out)⟩ (fun hHeld => ?_)
         clear hK K
         refine norm_ (a' := ?_) ?_ ?_
         rotate_left
         ·show Act.put _ (some 109) _ = _
          simp only [Act.put, List.setIfInBounds_toArray, List.set_cons_zero, List.set_cons_succ, i64_w, i32_w]
          rfl
         refine one_ (i := 21) (N := some 110) #[true, true, true, true, true, true, true, true, true, true, true, true, true, true, true, true, true, true, true, true, true, true, false, false, false, false, false, false, false, false, false, false, false, false] rfl rfl (one_of HT_.out (by kernel_rfl)) (by decide) (fun K hK => ?_)
         have hcv59 := own_string (P := Tryd.prog) Tryd.underlying22 Tryd.underlying5 Tryd.underlying9 (Kd.own_of_R HO845.out)
         refine value_ (w1 := ?_) (v := ?_) (by rfl) rfl ?_ ?_
         rotate_left 2
         ·go_simp
          constructor
          ·rfl
          ·rfl
         clear hcv59
         refine hK.out _ _ ⟨own_string (P := Tryd.prog) Tryd.underlying22 Tryd.underlying5 Tryd.underlying9 (Kd.own_of_R HO814.out), own_string (P := Tryd.prog) Tryd.underlying22 Tryd.underlying5 Tryd.underlying9 (Kd.own_of_R HO818.out), own_string (P := Tryd.prog) Tryd.underlying22 Tryd.underlying5 Tryd.underlying9 (Kd.own_of_R HO822.out), own_string (P := Tryd.prog) Tryd.underlying22 Tryd.underlying5 Tryd.underlying9 (Kd.own_of_R HO834.out), own_string (P := Tryd.prog) Tryd.underlying22 Tryd.underlying5 Tryd.underlying9 (Kd.own_of_R HO838.out)⟩ (fun hHeld => ?_)
         clear hK K
         refine norm_ (a' := ?_) ?_ ?_
         rotate_left
         ·show Act.put _ (some 110) _ = _
          simp only [Act.put, List.setIfInBounds_toArray, List.set_cons_zero, List.set_cons_succ, i64_w, i32_w]
          rfl
         refine pure_ (i := 22) (N := some 111) (v := ?_) (a' := ?_) #[true, true, true, true, true, true, true, true, true, true, true, true, true, true, true, true, true, true, true, true, true, true, true, false, false, false, false, false, false, false, false, false, false, false] rfl rfl (any_of HT_.out (by kernel_rfl)) (fun _ _ _ h => h) (Or.inl ⟨by rfl, ?_⟩) ?_ ?_
         rotate_left
         ·intro w'
          go_simp
          with_reducible rfl
         rotate_left
         ·simp only [Act.put, List.setIfInBounds_toArray, List.set_cons_zero, List.set_cons_succ, i64_w, i32_w]
          rfl
         refine pure_ (i := 23) (N := some 112) (v := ?_) (a' := ?_) #[true, true, true, true, true, true, true, true, true, true, true, true, true, true, true, true, true, true, true, true, true, true, true, true, false, false, false, false, false, false, false, false, false, false] rfl rfl (any_of HT_.out (by kernel_rfl)) (fun _ _ _ h => h) (Or.inl ⟨by rfl, ?_⟩) ?_ ?_
         rotate_left
         ·intro w'
          go_simp
          with_reducible rfl
         rotate_left
         ·simp only [Act.put, List.setIfInBounds_toArray, List.set_cons_zero, List.set_cons_succ, i64_w, i32_w]
          rfl
         refine pure_ (i := 24) (N := some 113) (v := ?_) (a' := ?_) #[true, true, true, true, true, true, true, true, true, true, true, true, true, true, true, true, true, true, true, true, true, true, true, true, true, false, false, false, false, false, false, false, false, false] rfl rfl (any_of HT_.out (by kernel_rfl)) (fun _ _ _ h => h) (Or.inl ⟨by rfl, ?_⟩) ?_ ?_
         rotate_left
         ·intro w'
          go_simp
          with_reducible rfl
         rotate_left
         ·simp only [Act.put, List.setIfInBounds_toArray, List.set_cons_zero, List.set_cons_succ, i64_w, i32_w]
          rfl
         refine pure_ (i := 25) (N := some 114) (v := ?_) (a' := ?_) #[true, true, true, true, true, true, true, true, true, true, true, true, true, true, true, true, true, true, true, true, true, true, true, true, true, true, false, false, false, false, false, false, false, false] rfl rfl (any_of HT_.out (by kernel_rfl)) (fun _ _ _ h => h) (Or.inl ⟨by rfl, ?_⟩) ?_ ?_
         rotate_left
         ·intro w'
          go_simp
          with_reducible rfl
         rotate_left
         ·simp only [Act.put, List.setIfInBounds_toArray, List.set_cons_zero, List.set_cons_succ, i64_w, i32_w]
          rfl
         refine pure_ (i := 26) (N := some 115) (v := ?_) (a' := ?_) #[true, true, true, true, true, true, true, true, true, true, true, true, true, true, true, true, true, true, true, true, true, true, true, true, true, true, true, false, false, false, false, false, false, false] rfl rfl (any_of HT_.out (by kernel_rfl)) (fun _ _ _ h => h) (Or.inl ⟨by rfl, ?_⟩) ?_ ?_
         rotate_left
         ·intro w'
          go_simp
          with_reducible rfl
         rotate_left
         ·simp only [Act.put, List.setIfInBounds_toArray, List.set_cons_zero, List.set_cons_succ, i64_w, i32_w]
          rfl
         refine pure_ (i := 27) (N := some 116) (v := ?_) (a' := ?_) #[true, true, true, true, true, true, true, true, true, true, true, true, true, true, true, true, true, true, true, true, true, true, true, true, true, true, true, true, false, false, false, false, false, false] rfl rfl (any_of HT_.out (by kernel_rfl)) (fun _ _ _ h => h) (Or.inl ⟨by rfl, ?_⟩) ?_ ?_
         rotate_left
         ·intro w'
          go_simp
          with_reducible rfl
         rotate_left
         ·simp only [Act.put, List.setIfInBounds_toArray, List.set_cons_zero, List.set_cons_succ, i64_w, i32_w]
          rfl
         refine pure_ (i := 28) (N := some 117) (v := ?_) (a' := ?_) #[true, true, true, true, true, true, true, true, true, true, true, true, true, true, true, true, true, true, true, true, true, true, true, true, true, true, true, true, true, false, false, false, false, false] rfl rfl (any_of HT_.out (by kernel_rfl)) (fun _ _ _ h => h) (Or.inl ⟨by rfl, ?_⟩) ?_ ?_
         rotate_left
         ·intro w'
          go_simp
          with_reducible rfl
         rotate_left
         ·simp only [Act.put, List.setIfInBounds_toArray, List.set_cons_zero, List.set_cons_succ, i64_w, i32_w]
          rfl
         refine pure_ (i := 29) (N := some 118) (v := undef) (a' := ?_) #[true, true, true, true, true, true, true, true, true, true, true, true, true, true, true, true, true, true, true, true, true, true, true, true, true, true, true, true, true, true, false, false, false, false] rfl rfl (any_of HT_.out (by kernel_rfl)) (fun _ _ _ h => h) (Or.inr ⟨by rfl, rfl⟩) ?_ ?_
         rotate_left
         ·simp only [Act.put, List.setIfInBounds_toArray, List.set_cons_zero, List.set_cons_succ, i64_w, i32_w]
          rfl
         refine pure_ (i := 30) (N := some 119) (v := undef) (a' := ?_) #[true, true, true, true, true, true, true, true, true, true, true, true, true, true, true, true, true, true, true, true, true, true, true, true, true, true, true, true, true, true, true, false, false, false] rfl rfl (any_of HT_.out (by kernel_rfl)) (fun _ _ _ h => h) (Or.inr ⟨by rfl, rfl⟩) ?_ ?_
         rotate_left
         ·simp only [Act.put, List.setIfInBounds_toArray, List.set_cons_zero, List.set_cons_succ, i64_w, i32_w]
          rfl
         refine pure_ (i := 31) (N := some 120) (v := undef) (a' := ?_) #[true, true, true, true, true, true, true, true, true, true, true, true, true, true, true, true, true, true, true, true, true, true, true, true, true, true, true, true, true, true, true, true, false, false] rfl rfl (any_of HT_.out (by kernel_rfl)) (fun _ _ _ h => h) (Or.inr ⟨by rfl, rfl⟩) ?_ ?_
         rotate_left
         ·simp only [Act.put, List.setIfInBounds_toArray, List.set_cons_zero, List.set_cons_succ, i64_w, i32_w]
          rfl
         refine pure_ (i := 32) (N := some 121) (v := ?_) (a' := ?_) #[true, true, true, true, true, true, true, true, true, true, true, true, true, true, true, true, true, true, true, true, true, true, true, true, true, true, true, true, true, true, true, true, true, false] rfl rfl (any_of HT_.out (by kernel_rfl)) (fun _ _ _ h => h) (Or.inl ⟨by rfl, ?_⟩) ?_ ?_
         rotate_left
         ·intro w'
          go_simp
          with_reducible rfl
         rotate_left
         ·simp only [Act.put, List.setIfInBounds_toArray, List.set_cons_zero, List.set_cons_succ, i64_w, i32_w]
          rfl
         refine pure_ (i := 33) (N := some 6) (v := ?_) (a' := ?_) #[true, true, true, true, true, true, true, true, true, true, true, true, true, true, true, true, true, true, true, true, true, true, true, true, true, true, true, true, true, true, true, true, true, true] rfl rfl (any_of HT_.out (by kernel_rfl)) (fun _ _ _ h => h) (Or.inl ⟨by rfl, ?_⟩) ?_ ?_
         rotate_left
         ·intro w'
          go_simp
          with_reducible rfl
         rotate_left
         ·simp only [Act.put, List.setIfInBounds_toArray, List.set_cons_zero, List.set_cons_succ, i64_w, i32_w]
          rfl
         refine done_ (done_of HT_.out (by kernel_rfl)) ?_
         try go_wp2
         go_ret
         exact ⟨rfl_, Bu HB⟩
       ·rw [if_neg c28] at H
        have c28b0 : ((strOfNums t835).toList == (strOfNums t843).toList) = false := beq_eq_false_iff_ne.mpr c28
        have c28b1 : ((strOfNums t835).toList != (strOfNums t843).toList) = true := bne_iff_ne.mpr c28
        obtain rfl := Option.some.inj H
        try go_wp2_with (first | ((with_reducible refine gate_callee (f := 25) rfl ?_); refine goesA (some 44) Tryd.func25 #[.slice A0 l0.length c0, .slice A1 l1.length c1] rfl ?_; (with_reducible refine (nat_Add.calls kj3 _ _ l0 _ _ l1 t811 t812 _ ?side1 ?side2 ?side3 ?side4 A16.out).mono ?_); (case side1 => exact Cu (Kd.C_below HR0.out HB.out)); (case side2 => exact HC0.out); (case side3 => exact Cu (Kd.C_below HR1.out HB.out)); (case side4 => exact HC1.out); rintro e w61 ⟨v813, rfl, ho0, hb⟩; refine ⟨_, rfl, ?_⟩; have n0_ := Aside0.mk (Kd.R_lower ho0 (Bz HB)); have n1_ := Bs HB hb; clear HB; revert n0_ n1_; intro HO814 HB; (try clear hb); (try clear hb2); (try clear hk); (try clear hi); (try clear ho0)) | ((with_reducible refine gate_callee (f := 25) rfl ?_); refine goesA (some 50) Tryd.func25 #[.slice A1 l1.length c1, .slice A0 l0.length c0] rfl ?_; (with_reducible refine (nat_Add.calls kj3 _ _ l1 _ _ l0 t815 t816 _ ?side1 ?side2 ?side3 ?side4 A17.out).mono ?_); (case side1 => exact Cu (Kd.C_below HR1.out HB.out)); (case side2 => exact HC1.out); (case side3 => exact Cu (Kd.C_below HR0.out HB.out)); (case side4 => exact HC0.out); rintro e w62 ⟨v817, rfl, ho0, hb⟩; refine ⟨_, rfl, ?_⟩; have n0_ := Re HO814 (Kd.R_base ho0) hb; have n1_ := Aside0.mk (Kd.R_lower (Kd.R_new' ho0 (Kd.R_lt (Ru HO814))) (Bz HB)); have n2_ := Bs HB hb; clear HO814 HB; revert n0_ n1_ n2_; intro HO814 HO818 HB; (try clear hb); (try clear hb2); (try clear hk); (try clear hi); (try clear ho0); obtain ⟨Ao63, co63, eo63⟩ := Kd.R_slice HO814.out; subst eo63) | ((with_reducible refine gate_callee (f := 23) rfl ?_); refine goesA (some 56) Tryd.func23 #[.slice Ao63 t811.length co63, .slice A2 l2.length c2] rfl ?_; (with_reducible refine (nat_Mul.calls kj3 _ _ t811 _ _ l2 t819 t820 _ ?side1 ?side2 ?side3 ?side4 A18.out).mono ?_); (case side1 => exact Cu (Kd.R_reads' HO814.out).2.2); (case side2 => exact (Kd.R_reads' HO814.out).2.1); (case side3 => exact Cu (Kd.C_below HR2.out HB.out)); (case side4 => exact HC2.out); rintro e w64 ⟨v821, rfl, ho0, hb⟩; refine ⟨_, rfl, ?_⟩; have n0_ := Re HO814 (Kd.R_base ho0) hb; have n1_ := Re HO818 (Kd.R_base ho0) hb; have n2_ := Aside0.mk (Kd.R_lower (Kd.R_new' (Kd.R_new' ho0 (Kd.R_lt (Ru HO814))) (Kd.R_lt (Ru HO818))) (Bz HB)); have n3_ := Bs HB hb; clear HO814 HO818 HB; revert n0_ n1_ n2_ n3_; intro HO814 HO818 HO822 HB; (try clear hb); (try clear hb2); (try clear hk); (try clear hi); (try clear ho0)) | ((with_reducible refine gate_callee (f := 23) rfl ?_); refine goesA (some 62) Tryd.func23 #[.slice A0 l0.length c0, .slice A2 l2.length c2] rfl ?_; (with_reducible refine (nat_Mul.calls kj3 _ _ l0 _ _ l2 t823 t824 _ ?side1 ?side2 ?side3 ?side4 A19.out).mono ?_); (case side1 => exact Cu (Kd.C_below HR0.out HB.out)); (case side2 => exact HC0.out); (case side3 => exact Cu (Kd.C_below HR2.out HB.out)); (case side4 => exact HC2.out); rintro e w65 ⟨v825, rfl, ho0, hb⟩; refine ⟨_, rfl, ?_⟩; have n0_ := Re HO814 (Kd.R_base ho0) hb; have n1_ := Re HO818 (Kd.R_base ho0) hb; have n2_ := Re HO822 (Kd.R_base ho0) hb; have n3_ := Aside0.mk (Kd.R_lower (Kd.R_new' (Kd.R_new' (Kd.R_new' ho0 (Kd.R_lt (Ru HO814))) (Kd.R_lt (Ru HO818))) (Kd.R_lt (Ru HO822))) (Bz HB)); have n4_ := Bs HB hb; clear HO814 HO818 HO822 HB; revert n0_ n1_ n2_ n3_ n4_; intro HO814 HO818 HO822 HO826 HB; (try clear hb); (try clear hb2); (try clear hk); (try clear hi); (try clear ho0)) | ((with_reducible refine gate_callee (f := 23) rfl ?_); refine goesA (some 68) Tryd.func23 #[.slice A2 l2.length c2, .slice A1 l1.length c1] rfl ?_; (with_reducible refine (nat_Mul.calls kj3 _ _ l2 _ _ l1 t827 t828 _ ?side1 ?side2 ?side3 ?side4 A20.out).mono ?_); (case side1 => exact Cu (Kd.C_below HR2.out HB.out)); (case side2 => exact HC2.out); (case side3 => exact Cu (Kd.C_below HR1.out HB.out)); (case side4 => exact HC1.out); rintro e w66 ⟨v829, rfl, ho0, hb⟩; refine ⟨_, rfl, ?_⟩; have n0_ := Re HO814 (Kd.R_base ho0) hb; have n1_ := Re HO818 (Kd.R_base ho0) hb; have n2_ := Re HO822 (Kd.R_base ho0) hb; have n3_ := Re HO826 (Kd.R_base ho0) hb; have n4_ := Aside0.mk (Kd.R_lower (Kd.R_new' (Kd.R_new' (Kd.R_new' (Kd.R_new' ho0 (Kd.R_lt (Ru HO814))) (Kd.R_lt (Ru HO818))) (Kd.R_lt (Ru HO822))) (Kd.R_lt (Ru HO826))) (Bz HB)); have n5_ := Bs HB hb; clear HO814 HO818 HO822 HO826 HB; revert n0_ n1_ n2_ n3_ n4_ n5_; intro HO814 HO818 HO822 HO826 HO830 HB; (try clear hb); (try clear hb2); (try clear hk); (try clear hi); (try clear ho0); obtain ⟨Ao67, co67, eo67⟩ := Kd.R_slice HO826.out; subst eo67; obtain ⟨Ao68, co68, eo68⟩ := Kd.R_slice HO830.out; subst eo68) | ((with_reducible refine gate_callee (f := 25) rfl ?_); refine goesA (some 74) Tryd.func25 #[.slice Ao67 t823.length co67, .slice Ao68 t827.length co68] rfl ?_; (with_reducible refine (nat_Add.calls kj3 _ _ t823 _ _ t827 t831 t832 _ ?side1 ?side2 ?side3 ?side4 A21.out).mono ?_); (case side1 => exact Cu (Kd.R_reads' HO826.out).2.2); (case side2 => exact (Kd.R_reads' HO826.out).2.1); (case side3 => exact Cu (Kd.R_reads' HO830.out).2.2); (case side4 => exact (Kd.R_reads' HO830.out).2.1); rintro e w69 ⟨v833, rfl, ho0, hb⟩; refine ⟨_, rfl, ?_⟩; have n0_ := Re HO814 (Kd.R_base ho0) hb; have n1_ := Re HO818 (Kd.R_base ho0) hb; have n2_ := Re HO822 (Kd.R_base ho0) hb; have n3_ := Re HO826 (Kd.R_base ho0) hb; have n4_ := Re HO830 (Kd.R_base ho0) hb; have n5_ := Aside0.mk (Kd.R_lower (Kd.R_new' (Kd.R_new' (Kd.R_new' (Kd.R_new' (Kd.R_new' ho0 (Kd.R_lt (Ru HO814))) (Kd.R_lt (Ru HO818))) (Kd.R_lt (Ru HO822))) (Kd.R_lt (Ru HO826))) (Kd.R_lt (Ru HO830))) (Bz HB)); have n6_ := Bs HB hb; clear HO814 HO818 HO822 HO826 HO830 HB; revert n0_ n1_ n2_ n3_ n4_ n5_ n6_; intro HO814 HO818 HO822 HO826 HO830 HO834 HB; (try clear hb); (try clear hb2); (try clear hk); (try clear hi); (try clear ho0)) | ((with_reducible refine gate_callee (f := 27) rfl ?_); refine goesA (some 80) Tryd.func27 #[.slice Ao63 t811.length co63, .slice A1 l1.length c1] rfl ?_; (with_reducible refine (nat_Sub.calls kj3 _ _ t811 _ _ l1 t835 t836 _ ?side1 ?side2 ?side3 ?side4 A22.out).mono ?_); (case side1 => exact Cu (Kd.R_reads' HO814.out).2.2); (case side2 => exact (Kd.R_reads' HO814.out).2.1); (case side3 => exact Cu (Kd.C_below HR1.out HB.out)); (case side4 => exact HC1.out); rintro e w70 ⟨v837, rfl, ho0, hb⟩; refine ⟨_, rfl, ?_⟩; have n0_ := Re HO814 (Kd.R_base ho0) hb; have n1_ := Re HO818 (Kd.R_base ho0) hb; have n2_ := Re HO822 (Kd.R_base ho0) hb; have n3_ := Re HO826 (Kd.R_base ho0) hb; have n4_ := Re HO830 (Kd.R_base ho0) hb; have n5_ := Re HO834 (Kd.R_base ho0) hb; have n6_ := Aside0.mk (Kd.R_lower (Kd.R_new' (Kd.R_new' (Kd.R_new' (Kd.R_new' (Kd.R_new' (Kd.R_new' ho0 (Kd.R_lt (Ru HO814))) (Kd.R_lt (Ru HO818))) (Kd.R_lt (Ru HO822))) (Kd.R_lt (Ru HO826))) (Kd.R_lt (Ru HO830))) (Kd.R_lt (Ru HO834))) (Bz HB)); have n7_ := Bs HB hb; clear HO814 HO818 HO822 HO826 HO830 HO834 HB; revert n0_ n1_ n2_ n3_ n4_ n5_ n6_ n7_; intro HO814 HO818 HO822 HO826 HO830 HO834 HO838 HB; (try clear hb); (try clear hb2); (try clear hk); (try clear hi); (try clear ho0)) | ((with_reducible refine gate_callee (f := 27) rfl ?_); refine goesA (some 86) Tryd.func27 #[.slice Ao63 t811.length co63, .slice Ao63 t811.length co63] rfl ?_; (with_reducible refine (nat_Sub.calls kj3 _ _ t811 _ _ t811 t839 t840 _ ?side1 ?side2 ?side3 ?side4 A23.out).mono ?_); (case side1 => exact Cu (Kd.R_reads' HO814.out).2.2); (case side2 => exact (Kd.R_reads' HO814.out).2.1); (case side3 => exact Cu (Kd.R_reads' HO814.out).2.2); (case side4 => exact (Kd.R_reads' HO814.out).2.1); rintro e w71 ⟨v841, rfl, ho0, hb⟩; refine ⟨_, rfl, ?_⟩; have n0_ := Re HO814 (Kd.R_base ho0) hb; have n1_ := Re HO818 (Kd.R_base ho0) hb; have n2_ := Re HO822 (Kd.R_base ho0) hb; have n3_ := Re HO826 (Kd.R_base ho0) hb; have n4_ := Re HO830 (Kd.R_base ho0) hb; have n5_ := Re HO834 (Kd.R_base ho0) hb; have n6_ := Re HO838 (Kd.R_base ho0) hb; have n7_ := Aside0.mk (Kd.R_lower (Kd.R_new' (Kd.R_new' (Kd.R_new' (Kd.R_new' (Kd.R_new' (Kd.R_new' (Kd.R_new' ho0 (Kd.R_lt (Ru HO814))) (Kd.R_lt (Ru HO818))) (Kd.R_lt (Ru HO822))) (Kd.R_lt (Ru HO826))) (Kd.R_lt (Ru HO830))) (Kd.R_lt (Ru HO834))) (Kd.R_lt (Ru HO838))) (Bz HB)); have n8_ := Bs HB hb; clear HO814 HO818 HO822 HO826 HO830 HO834 HO838 HB; revert n0_ n1_ n2_ n3_ n4_ n5_ n6_ n7_ n8_; intro HO814 HO818 HO822 HO826 HO830 HO834 HO838 HO842 HB; (try clear hb); (try clear hb2); (try clear hk); (try clear hi); (try clear ho0)))
        have n0_ := Aside0.mk (Kd.R_drew HO814.out)
        have n1_ := Aside0.mk (Kd.R_drew HO818.out)
        have n2_ := Aside0.mk (Kd.R_drew HO822.out)
        have n3_ := Aside0.mk (Kd.R_drew HO826.out)
        have n4_ := Aside0.mk (Kd.R_drew HO830.out)
        have n5_ := Aside0.mk (Kd.R_drew HO834.out)
        have n6_ := Aside0.mk (Kd.R_drew HO838.out)
        have n7_ := Aside0.mk (Kd.R_drew HO842.out)
        have n8_ := Aside0.mk (below_drew1 HB.out)
        clear HO814
        clear HO818
        clear HO822
        clear HO826
        clear HO830
        clear HO834
        clear HO838
        clear HO842
        clear HB
        have HO814 := n0_
        have HO818 := n1_
        have HO822 := n2_
        have HO826 := n3_
        have HO830 := n4_
        have HO834 := n5_
        have HO838 := n6_
        have HO842 := n7_
        have HB := n8_
        clear n0_ n1_ n2_ n3_ n4_ n5_ n6_ n7_ n8_
        refine start_ (n := 34) (S := fun w' => (convert 22 9 (.slice Ao63 t811.length co63)).run Tryd.prog w' = .ok (.string (strOfNums t811)) w' ∧ (convert 22 9 v817).run Tryd.prog w' = .ok (.string (strOfNums t815)) w' ∧ (convert 22 9 v821).run Tryd.prog w' = .ok (.string (strOfNums t819)) w' ∧ (convert 22 9 v833).run Tryd.prog w' = .ok (.string (strOfNums t831)) w' ∧ (convert 22 9 v837).run Tryd.prog w' = .ok (.string (strOfNums t835)) w') (ds := []) #[false, false, false, false, false, false, false, false, false, false, false, false, false, false, false, false, false, false, false, false, false, false, false, false, false, false, false, false, false, false, false, false, false, false] (by kernel_rfl) rfl rfl ⟨own_string (P := Tryd.prog) Tryd.underlying22 Tryd.underlying5 Tryd.underlying9 (Kd.own_of_R HO814.out), own_string (P := Tryd.prog) Tryd.underlying22 Tryd.underlying5 Tryd.underlying9 (Kd.own_of_R HO818.out), own_string (P := Tryd.prog) Tryd.underlying22 Tryd.underlying5 Tryd.underlying9 (Kd.own_of_R HO822.out), own_string (P := Tryd.prog) Tryd.underlying22 Tryd.underlying5 Tryd.underlying9 (Kd.own_of_R HO834.out), own_string (P := Tryd.prog) Tryd.underlying22 Tryd.underlying5 Tryd.underlying9 (Kd.own_of_R HO838.out)⟩ (fun hHeld => ?_); refine with_tabW lanyardlaw06_NatRings.tab11 lanyardlaw06_NatRings.bits11 (fun HT_ HW_ => ?_)
        generalize w71.drew = w72 at HO814 HO818 HO822 HO826 HO830 HO834 HO838 HO842 HB hHeld ⊢
        refine pure_ (i := 0) (N := some 89) (v := ?_) (a' := ?_) #[true, false, false, false, false, false, false, false, false, false, false, false, false, false, false, false, false, false, false, false, false, false, false, false, false, false, false, false, false, false, false, false, false, false] rfl rfl (any_of HT_.out (by kernel_rfl)) (fun _ _ _ h => h) (Or.inl ⟨by rfl, ?_⟩) ?_ ?_
        rotate_left
        ·intro w'
         go_simp
         with_reducible rfl
        rotate_left
        ·simp only [Act.put, List.setIfInBounds_toArray, List.set_cons_zero, List.set_cons_succ, i64_w, i32_w]
         rfl
        refine pure_ (i := 2) (N := some 91) (v := ?_) (a' := ?_) #[true, false, true, false, false, false, false, false, false, false, false, false, false, false, false, false, false, false, false, false, false, false, false, false, false, false, false, false, false, false, false, false, false, false] rfl rfl (any_of HT_.out (by kernel_rfl)) (fun _ _ _ h => h) (Or.inl ⟨by rfl, ?_⟩) ?_ ?_
        rotate_left
        ·intro w'
         go_simp
         with_reducible rfl
        rotate_left
        ·simp only [Act.put, List.setIfInBounds_toArray, List.set_cons_zero, List.set_cons_succ, i64_w, i32_w]
         rfl
        refine take_ (i := 1) (N := some 90) (v := ?_) (a' := ?_) #[true, true, true, false, false, false, false, false, false, false, false, false, false, false, false, false, false, false, false, false, false, false, false, false, false, false, false, false, false, false, false, false, false, false] rfl rfl (take_ofW HT_.out HW_.out (by kernel_rfl)) (fun _ _ _ h => h) (Or.inl ⟨by rfl, ?_⟩) hHeld ?_ ?_
        rotate_left
        ·rintro w' ⟨s0, s1, s2, s3, s4⟩
         go_simp
         with_reducible rfl
        rotate_left
        ·simp only [Act.put, List.setIfInBounds_toArray, List.set_cons_zero, List.set_cons_succ, i64_w, i32_w]
         rfl
        refine take_ (i := 3) (N := some 92) (v := ?_) (a' := ?_) #[true, true, true, true, false, false, false, false, false, false, false, false, false, false, false, false, false, false, false, false, false, false, false, false, false, false, false, false, false, false, false, false, false, false] rfl rfl (take_ofW HT_.out HW_.out (by kernel_rfl)) (fun _ _ _ h => h) (Or.inl ⟨by rfl, ?_⟩) hHeld ?_ ?_
        rotate_left
        ·rintro w' ⟨s0, s1, s2, s3, s4⟩
         go_simp
         with_reducible rfl
        rotate_left
        ·simp only [Act.put, List.setIfInBounds_toArray, List.set_cons_zero, List.set_cons_succ, i64_w, i32_w]
         rfl
        refine pure_ (i := 4) (N := some 93) (v := ?_) (a' := ?_) #[true, true, true, true, true, false, false, false, false, false, false, false, false, false, false, false, false, false, false, false, false, false, false, false, false, false, false, false, false, false, false, false, false, false] rfl rfl (any_of HT_.out (by kernel_rfl)) (fun _ _ _ h => h) (Or.inl ⟨by rfl, ?_⟩) ?_ ?_
        rotate_left
        ·intro w'
         go_simp
         with_reducible rfl
        rotate_left
        ·simp only [Act.put, List.setIfInBounds_toArray, List.set_cons_zero, List.set_cons_succ, i64_w, i32_w]
         rfl
        refine pure_ (i := 5) (N := some 94) (v := ?_) (a' := ?_) #[true, true, true, true, true, true, false, false, false, false, false, false, false, false, false, false, false, false, false, false, false, false, false, false, false, false, false, false, false, false, false, false, false, false] rfl rfl (any_of HT_.out (by kernel_rfl)) (fun _ _ _ h => h) (Or.inl ⟨by rfl, ?_⟩) ?_ ?_
        rotate_left
        ·intro w'
         go_simp
         with_reducible rfl
        rotate_left
        ·simp only [Act.put, List.setIfInBounds_toArray, List.set_cons_zero, List.set_cons_succ, i64_w, i32_w]
         rfl
        refine pure_ (i := 6) (N := some 95) (v := ?_) (a' := ?_) #[true, true, true, true, true, true, true, false, false, false, false, false, false, false, false, false, false, false, false, false, false, false, false, false, false, false, false, false, false, false, false, false, false, false] rfl rfl (any_of HT_.out (by kernel_rfl)) (fun _ _ _ h => h) (Or.inl ⟨by rfl, ?_⟩) ?_ ?_
        rotate_left
        ·intro w'
         go_simp
         with_reducible rfl
        rotate_left
        ·simp only [Act.put, List.setIfInBounds_toArray, List.set_cons_zero, List.set_cons_succ, i64_w, i32_w]
         rfl
        refine pure_ (i := 8) (N := some 97) (v := ?_) (a' := ?_) #[true, true, true, true, true, true, true, false, true, false, false, false, false, false, false, false, false, false, false, false, false, false, false, false, false, false, false, false, false, false, false, false, false, false] rfl rfl (any_of HT_.out (by kernel_rfl)) (fun _ _ _ h => h) (Or.inl ⟨by rfl, ?_⟩) ?_ ?_
        rotate_left
        ·intro w'
         go_simp
         with_reducible rfl
        rotate_left
        ·simp only [Act.put, List.setIfInBounds_toArray, List.set_cons_zero, List.set_cons_succ, i64_w, i32_w]
         rfl
        refine take_ (i := 7) (N := some 96) (v := ?_) (a' := ?_) #[true, true, true, true, true, true, true, true, true, false, false, false, false, false, false, false, false, false, false, false, false, false, false, false, false, false, false, false, false, false, false, false, false, false] rfl rfl (take_ofW HT_.out HW_.out (by kernel_rfl)) (fun _ _ _ h => h) (Or.inl ⟨by rfl, ?_⟩) hHeld ?_ ?_
        rotate_left
        ·rintro w' ⟨s0, s1, s2, s3, s4⟩
         go_simp
         with_reducible rfl
        rotate_left
        ·simp only [Act.put, List.setIfInBounds_toArray, List.set_cons_zero, List.set_cons_succ, i64_w, i32_w]
         rfl
        refine take_ (i := 9) (N := some 98) (v := ?_) (a' := ?_) #[true, true, true, true, true, true, true, true, true, true, false, false, false, false, false, false, false, false, false, false, false, false, false, false, false, false, false, false, false, false, false, false, false, false] rfl rfl (take_ofW HT_.out HW_.out (by kernel_rfl)) (fun _ _ _ h => h) (Or.inl ⟨by rfl, ?_⟩) hHeld ?_ ?_
        rotate_left
        ·rintro w' ⟨s0, s1, s2, s3, s4⟩
         go_simp
         with_reducible rfl
        rotate_left
        ·simp only [Act.put, List.setIfInBounds_toArray, List.set_cons_zero, List.set_cons_succ, i64_w, i32_w]
         rfl
        refine pure_ (i := 10) (N := some 99) (v := ?_) (a' := ?_) #[true, true, true, true, true, true, true, true, true, true, true, false, false, false, false, false, false, false, false, false, false, false, false, false, false, false, false, false, false, false, false, false, false, false] rfl rfl (any_of HT_.out (by kernel_rfl)) (fun _ _ _ h => h) (Or.inl ⟨by rfl, ?_⟩) ?_ ?_
        rotate_left
        ·intro w'
         go_simp
         with_reducible rfl
        rotate_left
        ·simp only [Act.put, List.setIfInBounds_toArray, List.set_cons_zero, List.set_cons_succ, i64_w, i32_w]
         rfl
        refine pure_ (i := 11) (N := some 100) (v := ?_) (a' := ?_) #[true, true, true, true, true, true, true, true, true, true, true, true, false, false, false, false, false, false, false, false, false, false, false, false, false, false, false, false, false, false, false, false, false, false] rfl rfl (any_of HT_.out (by kernel_rfl)) (fun _ _ _ h => h) (Or.inl ⟨by rfl, ?_⟩) ?_ ?_
        rotate_left
        ·intro w'
         go_simp
         with_reducible rfl
        rotate_left
        ·simp only [Act.put, List.setIfInBounds_toArray, List.set_cons_zero, List.set_cons_succ, i64_w, i32_w]
         rfl
        refine pure_ (i := 12) (N := some 101) (v := ?_) (a' := ?_) #[true, true, true, true, true, true, true, true, true, true, true, true, true, false, false, false, false, false, false, false, false, false, false, false, false, false, false, false, false, false, false, false, false, false] rfl rfl (any_of HT_.out (by kernel_rfl)) (fun _ _ _ h => h) (Or.inl ⟨by rfl, ?_⟩) ?_ ?_
        rotate_left
        ·intro w'
         go_simp
         with_reducible rfl
        rotate_left
        ·simp only [Act.put, List.setIfInBounds_toArray, List.set_cons_zero, List.set_cons_succ, i64_w, i32_w]
         rfl
        refine pure_ (i := 13) (N := some 102) (v := ?_) (a' := ?_) #[true, true, true, true, true, true, true, true, true, true, true, true, true, true, false, false, false, false, false, false, false, false, false, false, false, false, false, false, false, false, false, false, false, false] rfl rfl (any_of HT_.out (by kernel_rfl)) (fun _ _ _ h => h) (Or.inl ⟨by rfl, ?_⟩) ?_ ?_
        rotate_left
        ·intro w'
         go_simp
         with_reducible rfl
        rotate_left
        ·simp only [Act.put, List.setIfInBounds_toArray, List.set_cons_zero, List.set_cons_succ, i64_w, i32_w]
         rfl
        refine pure_ (i := 14) (N := some 103) (v := ?_) (a' := ?_) #[true, true, true, true, true, true, true, true, true, true, true, true, true, true, true, false, false, false, false, false, false, false, false, false, false, false, false, false, false, false, false, false, false, false] rfl rfl (any_of HT_.out (by kernel_rfl)) (fun _ _ _ h => h) (Or.inl ⟨by rfl, ?_⟩) ?_ ?_
        rotate_left
        ·intro w'
         go_simp
         with_reducible rfl
        rotate_left
        ·simp only [Act.put, List.setIfInBounds_toArray, List.set_cons_zero, List.set_cons_succ, i64_w, i32_w]
         rfl
        refine pure_ (i := 15) (N := some 104) (v := ?_) (a' := ?_) #[true, true, true, true, true, true, true, true, true, true, true, true, true, true, true, true, false, false, false, false, false, false, false, false, false, false, false, false, false, false, false, false, false, false] rfl rfl (any_of HT_.out (by kernel_rfl)) (fun _ _ _ h => h) (Or.inl ⟨by rfl, ?_⟩) ?_ ?_
        rotate_left
        ·intro w'
         go_simp
         with_reducible rfl
        rotate_left
        ·simp only [Act.put, List.setIfInBounds_toArray, List.set_cons_zero, List.set_cons_succ, i64_w, i32_w]
         rfl
        refine pure_ (i := 16) (N := some 105) (v := ?_) (a' := ?_) #[true, true, true, true, true, true, true, true, true, true, true, true, true, true, true, true, true, false, false, false, false, false, false, false, false, false, false, false, false, false, false, false, false, false] rfl rfl (any_of HT_.out (by kernel_rfl)) (fun _ _ _ h => h) (Or.inl ⟨by rfl, ?_⟩) ?_ ?_
        rotate_left
        ·intro w'
         go_simp
         with_reducible rfl
        rotate_left
        ·simp only [Act.put, List.setIfInBounds_toArray, List.set_cons_zero, List.set_cons_succ, i64_w, i32_w]
         rfl
        refine pure_ (i := 17) (N := some 106) (v := ?_) (a' := ?_) #[true, true, true, true, true, true, true, true, true, true, true, true, true, true, true, true, true, true, false, false, false, false, false, false, false, false, false, false, false, false, false, false, false, false] rfl rfl (any_of HT_.out (by kernel_rfl)) (fun _ _ _ h => h) (Or.inl ⟨by rfl, ?_⟩) ?_ ?_
        rotate_left
        ·intro w'
         go_simp
         with_reducible rfl
        rotate_left
        ·simp only [Act.put, List.setIfInBounds_toArray, List.set_cons_zero, List.set_cons_succ, i64_w, i32_w]
         rfl
        refine pure_ (i := 19) (N := some 108) (v := ?_) (a' := ?_) #[true, true, true, true, true, true, true, true, true, true, true, true, true, true, true, true, true, true, false, true, false, false, false, false, false, false, false, false, false, false, false, false, false, false] rfl rfl (any_of HT_.out (by kernel_rfl)) (fun _ _ _ h => h) (Or.inl ⟨by rfl, ?_⟩) ?_ ?_
        rotate_left
        ·intro w'
         go_simp
         with_reducible rfl
        rotate_left
        ·simp only [Act.put, List.setIfInBounds_toArray, List.set_cons_zero, List.set_cons_succ, i64_w, i32_w]
         rfl
        refine take_ (i := 18) (N := some 107) (v := ?_) (a' := ?_) #[true, true, true, true, true, true, true, true, true, true, true, true, true, true, true, true, true, true, true, true, false, false, false, false, false, false, false, false, false, false, false, false, false, false] rfl rfl (take_ofW HT_.out HW_.out (by kernel_rfl)) (fun _ _ _ h => h) (Or.inl ⟨by rfl, ?_⟩) hHeld ?_ ?_
        rotate_left
        ·rintro w' ⟨s0, s1, s2, s3, s4⟩
         go_simp
         with_reducible rfl
        rotate_left
        ·simp only [Act.put, List.setIfInBounds_toArray, List.set_cons_zero, List.set_cons_succ, i64_w, i32_w]
         rfl
        refine one_ (i := 20) (N := some 109) #[true, true, true, true, true, true, true, true, true, true, true, true, true, true, true, true, true, true, true, true, true, false, false, false, false, false, false, false, false, false, false, false, false, false] rfl rfl (one_of HT_.out (by kernel_rfl)) (by decide) (fun K hK => ?_)
        refine goes_ Tryd.func26 (by kernel_rfl) rfl #[.slice A0 l0.length c0] (by rfl) rfl rfl (by (try simp only [List.map_toArray, List.map_cons, List.map_nil]); first | done | rfl | (simp only [List.length_drop, List.length_take]; rfl)) ?_
        with_reducible refine (nat_Trim.calls _ _ l0 t843 _ ?side1 ?side2 A27.out).mono ?_
        (case side1 => exact Cu (Kd.C_below HR0.out HB.out))
        (case side2 => exact HC0.out)
        rintro e w73 ⟨v844, rfl, ho0, hb⟩
        refine ⟨_, rfl, ?_⟩
        have n0_ := Re HO814 (Kd.R_base ho0) hb
        have n1_ := Re HO818 (Kd.R_base ho0) hb
        have n2_ := Re HO822 (Kd.R_base ho0) hb
        have n3_ := Re HO826 (Kd.R_base ho0) hb
        have n4_ := Re HO830 (Kd.R_base ho0) hb
        have n5_ := Re HO834 (Kd.R_base ho0) hb
        have n6_ := Re HO838 (Kd.R_base ho0) hb
        have n7_ := Re HO842 (Kd.R_base ho0) hb
        have n8_ := Aside0.mk (Kd.R_lower (Kd.R_new' (Kd.R_new' (Kd.R_new' (Kd.R_new' (Kd.R_new' (Kd.R_new' (Kd.R_new' (Kd.R_new' ho0 (Kd.R_lt (Ru HO814))) (Kd.R_lt (Ru HO818))) (Kd.R_lt (Ru HO822))) (Kd.R_lt (Ru HO826))) (Kd.R_lt (Ru HO830))) (Kd.R_lt (Ru HO834))) (Kd.R_lt (Ru HO838))) (Kd.R_lt (Ru HO842))) (Bz HB))
        have n9_ := Bs HB hb
        clear HO814
        clear HO818
        clear HO822
        clear HO826
        clear HO830
        clear HO834
        clear HO838
        clear HO842
        clear HB
        have HO814 := n0_
        have HO818 := n1_
        have HO822 := n2_
        have HO826 := n3_
        have HO830 := n4_
        have HO834 := n5_
        have HO838 := n6_
        have HO842 := n7_
        have HO845 := n8_
        have HB := n9_
        clear n0_ n1_ n2_ n3_ n4_ n5_ n6_ n7_ n8_ n9_
        (try clear hb)
        (try clear hb2)
        (try clear hk)
        (try clear hi)
        (try clear ho0)
        refine hK.out _ _ ⟨own_string (P := Tryd.prog) Tryd.underlying22 Tryd.underlying5 Tryd.underlying9 (Kd.own_of_R HO814.out), own_string (P := Tryd.prog) Tryd.underlying22 Tryd.underlying5 Tryd.underlying9 (Kd.own_of_R HO818.out), own_string (P := Tryd.prog) Tryd.underlying22 Tryd.underlying5 Tryd.underlying9 (Kd.own_of_R HO822.out), own_string (P := Tryd.prog) Tryd.underlying22 Tryd.underlying5 Tryd.underlying9 (Kd.own_of_R HO834.out), own_string (P := Tryd.prog) Tryd.underlying22 Tryd.underlying5 Tryd.underlying9 (Kd.own_of_R HO838.out)⟩ (fun hHeld => ?_)
        clear hK K
        refine norm_ (a' := ?_) ?_ ?_
        rotate_left
        ·show Act.put _ (some 109) _ = _
         simp only [Act.put, List.setIfInBounds_toArray, List.set_cons_zero, List.set_cons_succ, i64_w, i32_w]
         rfl
        refine one_ (i := 21) (N := some 110) #[true, true, true, true, true, true, true, true, true, true, true, true, true, true, true, true, true, true, true, true, true, true, false, false, false, false, false, false, false, false, false, false, false, false] rfl rfl (one_of HT_.out (by kernel_rfl)) (by decide) (fun K hK => ?_)
        have hcv74 := own_string (P := Tryd.prog) Tryd.underlying22 Tryd.underlying5 Tryd.underlying9 (Kd.own_of_R HO845.out)
        refine value_ (w1 := ?_) (v := ?_) (by rfl) rfl ?_ ?_
        rotate_left 2
        ·go_simp
         constructor
         ·rfl
         ·rfl
        clear hcv74
        refine hK.out _ _ ⟨own_string (P := Tryd.prog) Tryd.underlying22 Tryd.underlying5 Tryd.underlying9 (Kd.own_of_R HO814.out), own_string (P := Tryd.prog) Tryd.underlying22 Tryd.underlying5 Tryd.underlying9 (Kd.own_of_R HO818.out), own_string (P := Tryd.prog) Tryd.underlying22 Tryd.underlying5 Tryd.underlying9 (Kd.own_of_R HO822.out), own_string (P := Tryd.prog) Tryd.underlying22 Tryd.underlying5 Tryd.underlying9 (Kd.own_of_R HO834.out), own_string (P := Tryd.prog) Tryd.underlying22 Tryd.underlying5 Tryd.underlying9 (Kd.own_of_R HO838.out)⟩ (fun hHeld => ?_)
        clear hK K
        refine norm_ (a' := ?_) ?_ ?_
        rotate_left
        ·show Act.put _ (some 110) _ = _
         simp only [Act.put, List.setIfInBounds_toArray, List.set_cons_zero, List.set_cons_succ, i64_w, i32_w]
         rfl
        refine pure_ (i := 22) (N := some 111) (v := ?_) (a' := ?_) #[true, true, true, true, true, true, true, true, true, true, true, true, true, true, true, true, true, true, true, true, true, true, true, false, false, false, false, false, false, false, false, false, false, false] rfl rfl (any_of HT_.out (by kernel_rfl)) (fun _ _ _ h => h) (Or.inl ⟨by rfl, ?_⟩) ?_ ?_
        rotate_left
        ·intro w'
         go_simp
         with_reducible rfl
        rotate_left
        ·simp only [Act.put, List.setIfInBounds_toArray, List.set_cons_zero, List.set_cons_succ, i64_w, i32_w]
         rfl
        refine pure_ (i := 23) (N := some 112) (v := ?_) (a' := ?_) #[true, true, true, true, true, true, true, true, true, true, true, true, true, true, true, true, true, true, true, true, true, true, true, true, false, false, false, false, false, false, false, false, false, false] rfl rfl (any_of HT_.out (by kernel_rfl)) (fun _ _ _ h => h) (Or.inl ⟨by rfl, ?_⟩) ?_ ?_
        rotate_left
        ·intro w'
         go_simp
         with_reducible rfl
        rotate_left
        ·simp only [Act.put, List.setIfInBounds_toArray, List.set_cons_zero, List.set_cons_succ, i64_w, i32_w]
         rfl
        refine pure_ (i := 24) (N := some 113) (v := ?_) (a' := ?_) #[true, true, true, true, true, true, true, true, true, true, true, true, true, true, true, true, true, true, true, true, true, true, true, true, true, false, false, false, false, false, false, false, false, false] rfl rfl (any_of HT_.out (by kernel_rfl)) (fun _ _ _ h => h) (Or.inl ⟨by rfl, ?_⟩) ?_ ?_
        rotate_left
        ·intro w'
         go_simp
         with_reducible rfl
        rotate_left
        ·simp only [Act.put, List.setIfInBounds_toArray, List.set_cons_zero, List.set_cons_succ, i64_w, i32_w]
         rfl
        refine pure_ (i := 25) (N := some 114) (v := undef) (a' := ?_) #[true, true, true, true, true, true, true, true, true, true, true, true, true, true, true, true, true, true, true, true, true, true, true, true, true, true, false, false, false, false, false, false, false, false] rfl rfl (any_of HT_.out (by kernel_rfl)) (fun _ _ _ h => h) (Or.inr ⟨by rfl, rfl⟩) ?_ ?_
        rotate_left
        ·simp only [Act.put, List.setIfInBounds_toArray, List.set_cons_zero, List.set_cons_succ, i64_w, i32_w]
         rfl
        refine pure_ (i := 26) (N := some 115) (v := undef) (a' := ?_) #[true, true, true, true, true, true, true, true, true, true, true, true, true, true, true, true, true, true, true, true, true, true, true, true, true, true, true, false, false, false, false, false, false, false] rfl rfl (any_of HT_.out (by kernel_rfl)) (fun _ _ _ h => h) (Or.inr ⟨by rfl, rfl⟩) ?_ ?_
        rotate_left
        ·simp only [Act.put, List.setIfInBounds_toArray, List.set_cons_zero, List.set_cons_succ, i64_w, i32_w]
         rfl
        refine pure_ (i := 27) (N := some 116) (v := ?_) (a' := ?_) #[true, true, true, true, true, true, true, true, true, true, true, true, true, true, true, true, true, true, true, true, true, true, true, true, true, true, true, true, false, false, false, false, false, false] rfl rfl (any_of HT_.out (by kernel_rfl)) (fun _ _ _ h => h) (Or.inl ⟨by rfl, ?_⟩) ?_ ?_
        rotate_left
        ·intro w'
         go_simp
         with_reducible rfl
        rotate_left
        ·simp only [Act.put, List.setIfInBounds_toArray, List.set_cons_zero, List.set_cons_succ, i64_w, i32_w]
         rfl
        refine pure_ (i := 28) (N := some 117) (v := ?_) (a' := ?_) #[true, true, true, true, true, true, true, true, true, true, true, true, true, true, true, true, true, true, true, true, true, true, true, true, true, true, true, true, true, false, false, false, false, false] rfl rfl (any_of HT_.out (by kernel_rfl)) (fun _ _ _ h => h) (Or.inl ⟨by rfl, ?_⟩) ?_ ?_
        rotate_left
        ·intro w'
         go_simp
         with_reducible rfl
        rotate_left
        ·simp only [Act.put, List.setIfInBounds_toArray, List.set_cons_zero, List.set_cons_succ, i64_w, i32_w]
         rfl
        refine pure_ (i := 29) (N := some 118) (v := undef) (a' := ?_) #[true, true, true, true, true, true, true, true, true, true, true, true, true, true, true, true, true, true, true, true, true, true, true, true, true, true, true, true, true, true, false, false, false, false] rfl rfl (any_of HT_.out (by kernel_rfl)) (fun _ _ _ h => h) (Or.inr ⟨by rfl, rfl⟩) ?_ ?_
        rotate_left
        ·simp only [Act.put, List.setIfInBounds_toArray, List.set_cons_zero, List.set_cons_succ, i64_w, i32_w]
         rfl
        refine pure_ (i := 30) (N := some 119) (v := undef) (a' := ?_) #[true, true, true, true, true, true, true, true, true, true, true, true, true, true, true, true, true, true, true, true, true, true, true, true, true, true, true, true, true, true, true, false, false, false] rfl rfl (any_of HT_.out (by kernel_rfl)) (fun _ _ _ h => h) (Or.inr ⟨by rfl, rfl⟩) ?_ ?_
        rotate_left
        ·simp only [Act.put, List.setIfInBounds_toArray, List.set_cons_zero, List.set_cons_succ, i64_w, i32_w]
         rfl
        refine pure_ (i := 31) (N := some 120) (v := undef) (a' := ?_) #[true, true, true, true, true, true, true, true, true, true, true, true, true, true, true, true, true, true, true, true, true, true, true, true, true, true, true, true, true, true, true, true, false, false] rfl rfl (any_of HT_.out (by kernel_rfl)) (fun _ _ _ h => h) (Or.inr ⟨by rfl, rfl⟩) ?_ ?_
        rotate_left
        ·simp only [Act.put, List.setIfInBounds_toArray, List.set_cons_zero, List.set_cons_succ, i64_w, i32_w]
         rfl
        refine pure_ (i := 32) (N := some 121) (v := ?_) (a' := ?_) #[true, true, true, true, true, true, true, true, true, true, true, true, true, true, true, true, true, true, true, true, true, true, true, true, true, true, true, true, true, true, true, true, true, false] rfl rfl (any_of HT_.out (by kernel_rfl)) (fun _ _ _ h => h) (Or.inl ⟨by rfl, ?_⟩) ?_ ?_
        rotate_left
        ·intro w'
         go_simp
         with_reducible rfl
        rotate_left
        ·simp only [Act.put, List.setIfInBounds_toArray, List.set_cons_zero, List.set_cons_succ, i64_w, i32_w]
         rfl
        refine pure_ (i := 33) (N := some 6) (v := ?_) (a' := ?_) #[true, true, true, true, true, true, true, true, true, true, true, true, true, true, true, true, true, true, true, true, true, true, true, true, true, true, true, true, true, true, true, true, true, true] rfl rfl (any_of HT_.out (by kernel_rfl)) (fun _ _ _ h => h) (Or.inl ⟨by rfl, ?_⟩) ?_ ?_
        rotate_left
        ·intro w'
         go_simp
         with_reducible rfl
        rotate_left
        ·simp only [Act.put, List.setIfInBounds_toArray, List.set_cons_zero, List.set_cons_succ, i64_w, i32_w]
         rfl
        refine done_ (done_of HT_.out (by kernel_rfl)) ?_
        try go_wp2
        go_ret
        exact ⟨rfl_, Bu HB⟩
      ·rw [if_neg c26] at H
       have c26b0 : (t836 == 0) = false := beq_eq_false_iff_ne.mpr c26
       have c26b1 : (t836 != 0) = true := bne_iff_ne.mpr c26
       obtain rfl := Option.some.inj H
       try go_wp2_with (first | ((with_reducible refine gate_callee (f := 25) rfl ?_); refine goesA (some 44) Tryd.func25 #[.slice A0 l0.length c0, .slice A1 l1.length c1] rfl ?_; (with_reducible refine (nat_Add.calls kj3 _ _ l0 _ _ l1 t811 t812 _ ?side1 ?side2 ?side3 ?side4 A16.out).mono ?_); (case side1 => exact Cu (Kd.C_below HR0.out HB.out)); (case side2 => exact HC0.out); (case side3 => exact Cu (Kd.C_below HR1.out HB.out)); (case side4 => exact HC1.out); rintro e w76 ⟨v813, rfl, ho0, hb⟩; refine ⟨_, rfl, ?_⟩; have n0_ := Aside0.mk (Kd.R_lower ho0 (Bz HB)); have n1_ := Bs HB hb; clear HB; revert n0_ n1_; intro HO814 HB; (try clear hb); (try clear hb2); (try clear hk); (try clear hi); (try clear ho0)) | ((with_reducible refine gate_callee (f := 25) rfl ?_); refine goesA (some 50) Tryd.func25 #[.slice A1 l1.length c1, .slice A0 l0.length c0] rfl ?_; (with_reducible refine (nat_Add.calls kj3 _ _ l1 _ _ l0 t815 t816 _ ?side1 ?side2 ?side3 ?side4 A17.out).mono ?_); (case side1 => exact Cu (Kd.C_below HR1.out HB.out)); (case side2 => exact HC1.out); (case side3 => exact Cu (Kd.C_below HR0.out HB.out)); (case side4 => exact HC0.out); rintro e w77 ⟨v817, rfl, ho0, hb⟩; refine ⟨_, rfl, ?_⟩; have n0_ := Re HO814 (Kd.R_base ho0) hb; have n1_ := Aside0.mk (Kd.R_lower (Kd.R_new' ho0 (Kd.R_lt (Ru HO814))) (Bz HB)); have n2_ := Bs HB hb; clear HO814 HB; revert n0_ n1_ n2_; intro HO814 HO818 HB; (try clear hb); (try clear hb2); (try clear hk); (try clear hi); (try clear ho0); obtain ⟨Ao78, co78, eo78⟩ := Kd.R_slice HO814.out; subst eo78) | ((with_reducible refine gate_callee (f := 23) rfl ?_); refine goesA (some 56) Tryd.func23 #[.slice Ao78 t811.length co78, .slice A2 l2.length c2] rfl ?_; (with_reducible refine (nat_Mul.calls kj3 _ _ t811 _ _ l2 t819 t820 _ ?side1 ?side2 ?side3 ?side4 A18.out).mono ?_); (case side1 => exact Cu (Kd.R_reads' HO814.out).2.2); (case side2 => exact (Kd.R_reads' HO814.out).2.1); (case side3 => exact Cu (Kd.C_below HR2.out HB.out)); (case side4 => exact HC2.out); rintro e w79 ⟨v821, rfl, ho0, hb⟩; refine ⟨_, rfl, ?_⟩; have n0_ := Re HO814 (Kd.R_base ho0) hb; have n1_ := Re HO818 (Kd.R_base ho0) hb; have n2_ := Aside0.mk (Kd.R_lower (Kd.R_new' (Kd.R_new' ho0 (Kd.R_lt (Ru HO814))) (Kd.R_lt (Ru HO818))) (Bz HB)); have n3_ := Bs HB hb; clear HO814 HO818 HB; revert n0_ n1_ n2_ n3_; intro HO814 HO818 HO822 HB; (try clear hb); (try clear hb2); (try clear hk); (try clear hi); (try clear ho0)) | ((with_reducible refine gate_callee (f := 23) rfl ?_); refine goesA (some 62) Tryd.func23 #[.slice A0 l0.length c0, .slice A2 l2.length c2] rfl ?_; (with_reducible refine (nat_Mul.calls kj3 _ _ l0 _ _ l2 t823 t824 _ ?side1 ?side2 ?side3 ?side4 A19.out).mono ?_); (case side1 => exact Cu (Kd.C_below HR0.out HB.out)); (case side2 => exact HC0.out); (case side3 => exact Cu (Kd.C_below HR2.out HB.out)); (case side4 => exact HC2.out); rintro e w80 ⟨v825, rfl, ho0, hb⟩; refine ⟨_, rfl, ?_⟩; have n0_ := Re HO814 (Kd.R_base ho0) hb; have n1_ := Re HO818 (Kd.R_base ho0) hb; have n2_ := Re HO822 (Kd.R_base ho0) hb; have n3_ := Aside0.mk (Kd.R_lower (Kd.R_new' (Kd.R_new' (Kd.R_new' ho0 (Kd.R_lt (Ru HO814))) (Kd.R_lt (Ru HO818))) (Kd.R_lt (Ru HO822))) (Bz HB)); have n4_ := Bs HB hb; clear HO814 HO818 HO822 HB; revert n0_ n1_ n2_ n3_ n4_; intro HO814 HO818 HO822 HO826 HB; (try clear hb); (try clear hb2); (try clear hk); (try clear hi); (try clear ho0)) | ((with_reducible refine gate_callee (f := 23) rfl ?_); refine goesA (some 68) Tryd.func23 #[.slice A2 l2.length c2, .slice A1 l1.length c1] rfl ?_; (with_reducible refine (nat_Mul.calls kj3 _ _ l2 _ _ l1 t827 t828 _ ?side1 ?side2 ?side3 ?side4 A20.out).mono ?_); (case side1 => exact Cu (Kd.C_below HR2.out HB.out)); (case side2 => exact HC2.out); (case side3 => exact Cu (Kd.C_below HR1.out HB.out)); (case side4 => exact HC1.out); rintro e w81 ⟨v829, rfl, ho0, hb⟩; refine ⟨_, rfl, ?_⟩; have n0_ := Re HO814 (Kd.R_base ho0) hb; have n1_ := Re HO818 (Kd.R_base ho0) hb; have n2_ := Re HO822 (Kd.R_base ho0) hb; have n3_ := Re HO826 (Kd.R_base ho0) hb; have n4_ := Aside0.mk (Kd.R_lower (Kd.R_new' (Kd.R_new' (Kd.R_new' (Kd.R_new' ho0 (Kd.R_lt (Ru HO814))) (Kd.R_lt (Ru HO818))) (Kd.R_lt (Ru HO822))) (Kd.R_lt (Ru HO826))) (Bz HB)); have n5_ := Bs HB hb; clear HO814 HO818 HO822 HO826 HB; revert n0_ n1_ n2_ n3_ n4_ n5_; intro HO814 HO818 HO822 HO826 HO830 HB; (try clear hb); (try clear hb2); (try clear hk); (try clear hi); (try clear ho0); obtain ⟨Ao82, co82, eo82⟩ := Kd.R_slice HO826.out; subst eo82; obtain ⟨Ao83, co83, eo83⟩ := Kd.R_slice HO830.out; subst eo83) | ((with_reducible refine gate_callee (f := 25) rfl ?_); refine goesA (some 74) Tryd.func25 #[.slice Ao82 t823.length co82, .slice Ao83 t827.length co83] rfl ?_; (with_reducible refine (nat_Add.calls kj3 _ _ t823 _ _ t827 t831 t832 _ ?side1 ?side2 ?side3 ?side4 A21.out).mono ?_); (case side1 => exact Cu (Kd.R_reads' HO826.out).2.2); (case side2 => exact (Kd.R_reads' HO826.out).2.1); (case side3 => exact Cu (Kd.R_reads' HO830.out).2.2); (case side4 => exact (Kd.R_reads' HO830.out).2.1); rintro e w84 ⟨v833, rfl, ho0, hb⟩; refine ⟨_, rfl, ?_⟩; have n0_ := Re HO814 (Kd.R_base ho0) hb; have n1_ := Re HO818 (Kd.R_base ho0) hb; have n2_ := Re HO822 (Kd.R_base ho0) hb; have n3_ := Re HO826 (Kd.R_base ho0) hb; have n4_ := Re HO830 (Kd.R_base ho0) hb; have n5_ := Aside0.mk (Kd.R_lower (Kd.R_new' (Kd.R_new' (Kd.R_new' (Kd.R_new' (Kd.R_new' ho0 (Kd.R_lt (Ru HO814))) (Kd.R_lt (Ru HO818))) (Kd.R_lt (Ru HO822))) (Kd.R_lt (Ru HO826))) (Kd.R_lt (Ru HO830))) (Bz HB)); have n6_ := Bs HB hb; clear HO814 HO818 HO822 HO826 HO830 HB; revert n0_ n1_ n2_ n3_ n4_ n5_ n6_; intro HO814 HO818 HO822 HO826 HO830 HO834 HB; (try clear hb); (try clear hb2); (try clear hk); (try clear hi); (try clear ho0)) | ((with_reducible refine gate_callee (f := 27) rfl ?_); refine goesA (some 80) Tryd.func27 #[.slice Ao78 t811.length co78, .slice A1 l1.length c1] rfl ?_; (with_reducible refine (nat_Sub.calls kj3 _ _ t811 _ _ l1 t835 t836 _ ?side1 ?side2 ?side3 ?side4 A22.out).mono ?_); (case side1 => exact Cu (Kd.R_reads' HO814.out).2.2); (case side2 => exact (Kd.R_reads' HO814.out).2.1); (case side3 => exact Cu (Kd.C_below HR1.out HB.out)); (case side4 => exact HC1.out); rintro e w85 ⟨v837, rfl, ho0, hb⟩; refine ⟨_, rfl, ?_⟩; have n0_ := Re HO814 (Kd.R_base ho0) hb; have n1_ := Re HO818 (Kd.R_base ho0) hb; have n2_ := Re HO822 (Kd.R_base ho0) hb; have n3_ := Re HO826 (Kd.R_base ho0) hb; have n4_ := Re HO830 (Kd.R_base ho0) hb; have n5_ := Re HO834 (Kd.R_base ho0) hb; have n6_ := Aside0.mk (Kd.R_lower (Kd.R_new' (Kd.R_new' (Kd.R_new' (Kd.R_new' (Kd.R_new' (Kd.R_new' ho0 (Kd.R_lt (Ru HO814))) (Kd.R_lt (Ru HO818))) (Kd.R_lt (Ru HO822))) (Kd.R_lt (Ru HO826))) (Kd.R_lt (Ru HO830))) (Kd.R_lt (Ru HO834))) (Bz HB)); have n7_ := Bs HB hb; clear HO814 HO818 HO822 HO826 HO830 HO834 HB; revert n0_ n1_ n2_ n3_ n4_ n5_ n6_ n7_; intro HO814 HO818 HO822 HO826 HO830 HO834 HO838 HB; (try clear hb); (try clear hb2); (try clear hk); (try clear hi); (try clear ho0)) | ((with_reducible refine gate_callee (f := 27) rfl ?_); refine goesA (some 86) Tryd.func27 #[.slice Ao78 t811.length co78, .slice Ao78 t811.length co78] rfl ?_; (with_reducible refine (nat_Sub.calls kj3 _ _ t811 _ _ t811 t839 t840 _ ?side1 ?side2 ?side3 ?side4 A23.out).mono ?_); (case side1 => exact Cu (Kd.R_reads' HO814.out).2.2); (case side2 => exact (Kd.R_reads' HO814.out).2.1); (case side3 => exact Cu (Kd.R_reads' HO814.out).2.2); (case side4 => exact (Kd.R_reads' HO814.out).2.1); rintro e w86 ⟨v841, rfl, ho0, hb⟩; refine ⟨_, rfl, ?_⟩; have n0_ := Re HO814 (Kd.R_base ho0) hb; have n1_ := Re HO818 (Kd.R_base ho0) hb; have n2_ := Re HO822 (Kd.R_base ho0) hb; have n3_ := Re HO826 (Kd.R_base ho0) hb; have n4_ := Re HO830 (Kd.R_base ho0) hb; have n5_ := Re HO834 (Kd.R_base ho0) hb; have n6_ := Re HO838 (Kd.R_base ho0) hb; have n7_ := Aside0.mk (Kd.R_lower (Kd.R_new' (Kd.R_new' (Kd.R_new' (Kd.R_new' (Kd.R_new' (Kd.R_new' (Kd.R_new' ho0 (Kd.R_lt (Ru HO814))) (Kd.R_lt (Ru HO818))) (Kd.R_lt (Ru HO822))) (Kd.R_lt (Ru HO826))) (Kd.R_lt (Ru HO830))) (Kd.R_lt (Ru HO834))) (Kd.R_lt (Ru HO838))) (Bz HB)); have n8_ := Bs HB hb; clear HO814 HO818 HO822 HO826 HO830 HO834 HO838 HB; revert n0_ n1_ n2_ n3_ n4_ n5_ n6_ n7_ n8_; intro HO814 HO818 HO822 HO826 HO830 HO834 HO838 HO842 HB; (try clear hb); (try clear hb2); (try clear hk); (try clear hi); (try clear ho0)))
       have n0_ := Aside0.mk (Kd.R_drew HO814.out)
       have n1_ := Aside0.mk (Kd.R_drew HO818.out)
       have n2_ := Aside0.mk (Kd.R_drew HO822.out)
       have n3_ := Aside0.mk (Kd.R_drew HO826.out)
       have n4_ := Aside0.mk (Kd.R_drew HO830.out)
       have n5_ := Aside0.mk (Kd.R_drew HO834.out)
       have n6_ := Aside0.mk (Kd.R_drew HO838.out)
       have n7_ := Aside0.mk (Kd.R_drew HO842.out)
       have n8_ := Aside0.mk (below_drew1 HB.out)
       clear HO814
       clear HO818
       clear HO822
       clear HO826
       clear HO830
       clear HO834
       clear HO838
       clear HO842
       clear HB
       have HO814 := n0_
       have HO818 := n1_
       have HO822 := n2_
       have HO826 := n3_
       have HO830 := n4_
       have HO834 := n5_
       have HO838 := n6_
       have HO842 := n7_
       have HB := n8_
       clear n0_ n1_ n2_ n3_ n4_ n5_ n6_ n7_ n8_
       refine start_ (n := 34) (S := fun w' => (convert 22 9 (.slice Ao78 t811.length co78)).run Tryd.prog w' = .ok (.string (strOfNums t811)) w' ∧ (convert 22 9 v817).run Tryd.prog w' = .ok (.string (strOfNums t815)) w' ∧ (convert 22 9 v821).run Tryd.prog w' = .ok (.string (strOfNums t819)) w' ∧ (convert 22 9 v833).run Tryd.prog w' = .ok (.string (strOfNums t831)) w') (ds := []) #[false, false, false, false, false, false, false, false, false, false, false, false, false, false, false, false, false, false, false, false, false, false, false, false, false, false, false, false, false, false, false, false, false, false] (by kernel_rfl) rfl rfl ⟨own_string (P := Tryd.prog) Tryd.underlying22 Tryd.underlying5 Tryd.underlying9 (Kd.own_of_R HO814.out), own_string (P := Tryd.prog) Tryd.underlying22 Tryd.underlying5 Tryd.underlying9 (Kd.own_of_R HO818.out), own_string (P := Tryd.prog) Tryd.underlying22 Tryd.underlying5 Tryd.underlying9 (Kd.own_of_R HO822.out), own_string (P := Tryd.prog) Tryd.underlying22 Tryd.underlying5 Tryd.underlying9 (Kd.own_of_R HO834.out)⟩ (fun hHeld => ?_); refine with_tabW lanyardlaw06_NatRings.tab11 lanyardlaw06_NatRings.bits11 (fun HT_ HW_ => ?_)
       generalize w86.drew = w87 at HO814 HO818 HO822 HO826 HO830 HO834 HO838 HO842 HB hHeld ⊢
       refine pure_ (i := 0) (N := some 89) (v := ?_) (a' := ?_) #[true, false, false, false, false, false, false, false, false, false, false, false, false, false, false, false, false, false, false, false, false, false, false, false, false, false, false, false, false, false, false, false, false, false] rfl rfl (any_of HT_.out (by kernel_rfl)) (fun _ _ _ h => h) (Or.inl ⟨by rfl, ?_⟩) ?_ ?_
       rotate_left
       ·intro w'
        go_simp
        with_reducible rfl
       rotate_left
       ·simp only [Act.put, List.setIfInBounds_toArray, List.set_cons_zero, List.set_cons_succ, i64_w, i32_w]
        rfl
       refine pure_ (i := 2) (N := some 91) (v := ?_) (a' := ?_) #[true, false, true, false, false, false, false, false, false, false, false, false, false, false, false, false, false, false, false, false, false, false, false, false, false, false, false, false, false, false, false, false, false, false] rfl rfl (any_of HT_.out (by kernel_rfl)) (fun _ _ _ h => h) (Or.inl ⟨by rfl, ?_⟩) ?_ ?_
       rotate_left
       ·intro w'
        go_simp
        with_reducible rfl
       rotate_left
       ·simp only [Act.put, List.setIfInBounds_toArray, List.set_cons_zero, List.set_cons_succ, i64_w, i32_w]
        rfl
       refine take_ (i := 1) (N := some 90) (v := ?_) (a' := ?_) #[true, true, true, false, false, false, false, false, false, false, false, false, false, false, false, false, false, false, false, false, false, false, false, false, false, false, false, false, false, false, false, false, false, false] rfl rfl (take_ofW HT_.out HW_.out (by kernel_rfl)) (fun _ _ _ h => h) (Or.inl ⟨by rfl, ?_⟩) hHeld ?_ ?_
       rotate_left
       ·rintro w' ⟨s0, s1, s2, s3⟩
        go_simp
        with_reducible rfl
       rotate_left
       ·simp only [Act.put, List.setIfInBounds_toArray, List.set_cons_zero, List.set_cons_succ, i64_w, i32_w]
        rfl
       refine take_ (i := 3) (N := some 92) (v := ?_) (a' := ?_) #[true, true, true, true, false, false, false, false, false, false, false, false, false, false, false, false, false, false, false, false, false, false, false, false, false, false, false, false, false, false, false, false, false, false] rfl rfl (take_ofW HT_.out HW_.out (by kernel_rfl)) (fun _ _ _ h => h) (Or.inl ⟨by rfl, ?_⟩) hHeld ?_ ?_
       rotate_left
       ·rintro w' ⟨s0, s1, s2, s3⟩
        go_simp
        with_reducible rfl
       rotate_left
       ·simp only [Act.put, List.setIfInBounds_toArray, List.set_cons_zero, List.set_cons_succ, i64_w, i32_w]
        rfl
       refine pure_ (i := 4) (N := some 93) (v := ?_) (a' := ?_) #[true, true, true, true, true, false, false, false, false, false, false, false, false, false, false, false, false, false, false, false, false, false, false, false, false, false, false, false, false, false, false, false, false, false] rfl rfl (any_of HT_.out (by kernel_rfl)) (fun _ _ _ h => h) (Or.inl ⟨by rfl, ?_⟩) ?_ ?_
       rotate_left
       ·intro w'
        go_simp
        with_reducible rfl
       rotate_left
       ·simp only [Act.put, List.setIfInBounds_toArray, List.set_cons_zero, List.set_cons_succ, i64_w, i32_w]
        rfl
       refine pure_ (i := 5) (N := some 94) (v := ?_) (a' := ?_) #[true, true, true, true, true, true, false, false, false, false, false, false, false, false, false, false, false, false, false, false, false, false, false, false, false, false, false, false, false, false, false, false, false, false] rfl rfl (any_of HT_.out (by kernel_rfl)) (fun _ _ _ h => h) (Or.inl ⟨by rfl, ?_⟩) ?_ ?_
       rotate_left
       ·intro w'
        go_simp
        with_reducible rfl
       rotate_left
       ·simp only [Act.put, List.setIfInBounds_toArray, List.set_cons_zero, List.set_cons_succ, i64_w, i32_w]
        rfl
       refine pure_ (i := 6) (N := some 95) (v := ?_) (a' := ?_) #[true, true, true, true, true, true, true, false, false, false, false, false, false, false, false, false, false, false, false, false, false, false, false, false, false, false, false, false, false, false, false, false, false, false] rfl rfl (any_of HT_.out (by kernel_rfl)) (fun _ _ _ h => h) (Or.inl ⟨by rfl, ?_⟩) ?_ ?_
       rotate_left
       ·intro w'
        go_simp
        with_reducible rfl
       rotate_left
       ·simp only [Act.put, List.setIfInBounds_toArray, List.set_cons_zero, List.set_cons_succ, i64_w, i32_w]
        rfl
       refine pure_ (i := 8) (N := some 97) (v := ?_) (a' := ?_) #[true, true, true, true, true, true, true, false, true, false, false, false, false, false, false, false, false, false, false, false, false, false, false, false, false, false, false, false, false, false, false, false, false, false] rfl rfl (any_of HT_.out (by kernel_rfl)) (fun _ _ _ h => h) (Or.inl ⟨by rfl, ?_⟩) ?_ ?_
       rotate_left
       ·intro w'
        go_simp
        with_reducible rfl
       rotate_left
       ·simp only [Act.put, List.setIfInBounds_toArray, List.set_cons_zero, List.set_cons_succ, i64_w, i32_w]
        rfl
       refine take_ (i := 7) (N := some 96) (v := ?_) (a' := ?_) #[true, true, true, true, true, true, true, true, true, false, false, false, false, false, false, false, false, false, false, false, false, false, false, false, false, false, false, false, false, false, false, false, false, false] rfl rfl (take_ofW HT_.out HW_.out (by kernel_rfl)) (fun _ _ _ h => h) (Or.inl ⟨by rfl, ?_⟩) hHeld ?_ ?_
       rotate_left
       ·rintro w' ⟨s0, s1, s2, s3⟩
        go_simp
        with_reducible rfl
       rotate_left
       ·simp only [Act.put, List.setIfInBounds_toArray, List.set_cons_zero, List.set_cons_succ, i64_w, i32_w]
        rfl
       refine take_ (i := 9) (N := some 98) (v := ?_) (a' := ?_) #[true, true, true, true, true, true, true, true, true, true, false, false, false, false, false, false, false, false, false, false, false, false, false, false, false, false, false, false, false, false, false, false, false, false] rfl rfl (take_ofW HT_.out HW_.out (by kernel_rfl)) (fun _ _ _ h => h) (Or.inl ⟨by rfl, ?_⟩) hHeld ?_ ?_
       rotate_left
       ·rintro w' ⟨s0, s1, s2, s3⟩
        go_simp
        with_reducible rfl
       rotate_left
       ·simp only [Act.put, List.setIfInBounds_toArray, List.set_cons_zero, List.set_cons_succ, i64_w, i32_w]
        rfl
       refine pure_ (i := 10) (N := some 99) (v := ?_) (a' := ?_) #[true, true, true, true, true, true, true, true, true, true, true, false, false, false, false, false, false, false, false, false, false, false, false, false, false, false, false, false, false, false, false, false, false, false] rfl rfl (any_of HT_.out (by kernel_rfl)) (fun _ _ _ h => h) (Or.inl ⟨by rfl, ?_⟩) ?_ ?_
       rotate_left
       ·intro w'
        go_simp
        with_reducible rfl
       rotate_left
       ·simp only [Act.put, List.setIfInBounds_toArray, List.set_cons_zero, List.set_cons_succ, i64_w, i32_w]
        rfl
       refine pure_ (i := 11) (N := some 100) (v := ?_) (a' := ?_) #[true, true, true, true, true, true, true, true, true, true, true, true, false, false, false, false, false, false, false, false, false, false, false, false, false, false, false, false, false, false, false, false, false, false] rfl rfl (any_of HT_.out (by kernel_rfl)) (fun _ _ _ h => h) (Or.inl ⟨by rfl, ?_⟩) ?_ ?_
       rotate_left
       ·intro w'
        go_simp
        with_reducible rfl
       rotate_left
       ·simp only [Act.put, List.setIfInBounds_toArray, List.set_cons_zero, List.set_cons_succ, i64_w, i32_w]
        rfl
       refine pure_ (i := 12) (N := some 101) (v := ?_) (a' := ?_) #[true, true, true, true, true, true, true, true, true, true, true, true, true, false, false, false, false, false, false, false, false, false, false, false, false, false, false, false, false, false, false, false, false, false] rfl rfl (any_of HT_.out (by kernel_rfl)) (fun _ _ _ h => h) (Or.inl ⟨by rfl, ?_⟩) ?_ ?_
       rotate_left
       ·intro w'
        go_simp
        with_reducible rfl
       rotate_left
       ·simp only [Act.put, List.setIfInBounds_toArray, List.set_cons_zero, List.set_cons_succ, i64_w, i32_w]
        rfl
       refine pure_ (i := 13) (N := some 102) (v := ?_) (a' := ?_) #[true, true, true, true, true, true, true, true, true, true, true, true, true, true, false, false, false, false, false, false, false, false, false, false, false, false, false, false, false, false, false, false, false, false] rfl rfl (any_of HT_.out (by kernel_rfl)) (fun _ _ _ h => h) (Or.inl ⟨by rfl, ?_⟩) ?_ ?_
       rotate_left
       ·intro w'
        go_simp
        with_reducible rfl
       rotate_left
       ·simp only [Act.put, List.setIfInBounds_toArray, List.set_cons_zero, List.set_cons_succ, i64_w, i32_w]
        rfl
       refine pure_ (i := 14) (N := some 103) (v := ?_) (a' := ?_) #[true, true, true, true, true, true, true, true, true, true, true, true, true, true, true, false, false, false, false, false, false, false, false, false, false, false, false, false, false, false, false, false, false, false] rfl rfl (any_of HT_.out (by kernel_rfl)) (fun _ _ _ h => h) (Or.inl ⟨by rfl, ?_⟩) ?_ ?_
       rotate_left
       ·intro w'
        go_simp
        with_reducible rfl
       rotate_left
       ·simp only [Act.put, List.setIfInBounds_toArray, List.set_cons_zero, List.set_cons_succ, i64_w, i32_w]
        rfl
       refine pure_ (i := 15) (N := some 104) (v := ?_) (a' := ?_) #[true, true, true, true, true, true, true, true, true, true, true, true, true, true, true, true, false, false, false, false, false, false, false, false, false, false, false, false, false, false, false, false, false, false] rfl rfl (any_of HT_.out (by kernel_rfl)) (fun _ _ _ h => h) (Or.inl ⟨by rfl, ?_⟩) ?_ ?_
       rotate_left
       ·intro w'
        go_simp
        with_reducible rfl
       rotate_left
       ·simp only [Act.put, List.setIfInBounds_toArray, List.set_cons_zero, List.set_cons_succ, i64_w, i32_w]
        rfl
       refine pure_ (i := 16) (N := some 105) (v := ?_) (a' := ?_) #[true, true, true, true, true, true, true, true, true, true, true, true, true, true, true, true, true, false, false, false, false, false, false, false, false, false, false, false, false, false, false, false, false, false] rfl rfl (any_of HT_.out (by kernel_rfl)) (fun _ _ _ h => h) (Or.inl ⟨by rfl, ?_⟩) ?_ ?_
       rotate_left
       ·intro w'
        go_simp
        with_reducible rfl
       rotate_left
       ·simp only [Act.put, List.setIfInBounds_toArray, List.set_cons_zero, List.set_cons_succ, i64_w, i32_w]
        rfl
       refine pure_ (i := 17) (N := some 106) (v := undef) (a' := ?_) #[true, true, true, true, true, true, true, true, true, true, true, true, true, true, true, true, true, true, false, false, false, false, false, false, false, false, false, false, false, false, false, false, false, false] rfl rfl (any_of HT_.out (by kernel_rfl)) (fun _ _ _ h => h) (Or.inr ⟨by rfl, rfl⟩) ?_ ?_
       rotate_left
       ·simp only [Act.put, List.setIfInBounds_toArray, List.set_cons_zero, List.set_cons_succ, i64_w, i32_w]
        rfl
       refine pure_ (i := 18) (N := some 107) (v := undef) (a' := ?_) #[true, true, true, true, true, true, true, true, true, true, true, true, true, true, true, true, true, true, true, false, false, false, false, false, false, false, false, false, false, false, false, false, false, false] rfl rfl (any_of HT_.out (by kernel_rfl)) (fun _ _ _ h => h) (Or.inr ⟨by rfl, rfl⟩) ?_ ?_
       rotate_left
       ·simp only [Act.put, List.setIfInBounds_toArray, List.set_cons_zero, List.set_cons_succ, i64_w, i32_w]
        rfl
       refine pure_ (i := 19) (N := some 108) (v := undef) (a' := ?_) #[true, true, true, true, true, true, true, true, true, true, true, true, true, true, true, true, true, true, true, true, false, false, false, false, false, false, false, false, false, false, false, false, false, false] rfl rfl (any_of HT_.out (by kernel_rfl)) (fun _ _ _ h => h) (Or.inr ⟨by rfl, rfl⟩) ?_ ?_
       rotate_left
       ·simp only [Act.put, List.setIfInBounds_toArray, List.set_cons_zero, List.set_cons_succ, i64_w, i32_w]
        rfl
       refine pure_ (i := 20) (N := some 109) (v := undef) (a' := ?_) #[true, true, true, true, true, true, true, true, true, true, true, true, true, true, true, true, true, true, true, true, true, false, false, false, false, false, false, false, false, false, false, false, false, false] rfl rfl (any_of HT_.out (by kernel_rfl)) (fun _ _ _ h => h) (Or.inr ⟨by rfl, rfl⟩) ?_ ?_
       rotate_left
       ·simp only [Act.put, List.setIfInBounds_toArray, List.set_cons_zero, List.set_cons_succ, i64_w, i32_w]
        rfl
       refine pure_ (i := 21) (N := some 110) (v := undef) (a' := ?_) #[true, true, true, true, true, true, true, true, true, true, true, true, true, true, true, true, true, true, true, true, true, true, false, false, false, false, false, false, false, false, false, false, false, false] rfl rfl (any_of HT_.out (by kernel_rfl)) (fun _ _ _ h => h) (Or.inr ⟨by rfl, rfl⟩) ?_ ?_
       rotate_left
       ·simp only [Act.put, List.setIfInBounds_toArray, List.set_cons_zero, List.set_cons_succ, i64_w, i32_w]
        rfl
       refine pure_ (i := 22) (N := some 111) (v := undef) (a' := ?_) #[true, true, true, true, true, true, true, true, true, true, true, true, true, true, true, true, true, true, true, true, true, true, true, false, false, false, false, false, false, false, false, false, false, false] rfl rfl (any_of HT_.out (by kernel_rfl)) (fun _ _ _ h => h) (Or.inr ⟨by rfl, rfl⟩) ?_ ?_
       rotate_left
       ·simp only [Act.put, List.setIfInBounds_toArray, List.set_cons_zero, List.set_cons_succ, i64_w, i32_w]
        rfl
       refine pure_ (i := 23) (N := some 112) (v := ?_) (a' := ?_) #[true, true, true, true, true, true, true, true, true, true, true, true, true, true, true, true, true, true, true, true, true, true, true, true, false, false, false, false, false, false, false, false, false, false] rfl rfl (any_of HT_.out (by kernel_rfl)) (fun _ _ _ h => h) (Or.inl ⟨by rfl, ?_⟩) ?_ ?_
       rotate_left
       ·intro w'
        go_simp
        with_reducible rfl
       rotate_left
       ·simp only [Act.put, List.setIfInBounds_toArray, List.set_cons_zero, List.set_cons_succ, i64_w, i32_w]
        rfl
       refine pure_ (i := 24) (N := some 113) (v := ?_) (a' := ?_) #[true, true, true, true, true, true, true, true, true, true, true, true, true, true, true, true, true, true, true, true, true, true, true, true, true, false, false, false, false, false, false, false, false, false] rfl rfl (any_of HT_.out (by kernel_rfl)) (fun _ _ _ h => h) (Or.inl ⟨by rfl, ?_⟩) ?_ ?_
       rotate_left
       ·intro w'
        go_simp
        with_reducible rfl
       rotate_left
       ·simp only [Act.put, List.setIfInBounds_toArray, List.set_cons_zero, List.set_cons_succ, i64_w, i32_w]
        rfl
       refine pure_ (i := 25) (N := some 114) (v := undef) (a' := ?_) #[true, true, true, true, true, true, true, true, true, true, true, true, true, true, true, true, true, true, true, true, true, true, true, true, true, true, false, false, false, false, false, false, false, false] rfl rfl (any_of HT_.out (by kernel_rfl)) (fun _ _ _ h => h) (Or.inr ⟨by rfl, rfl⟩) ?_ ?_
       rotate_left
       ·simp only [Act.put, List.setIfInBounds_toArray, List.set_cons_zero, List.set_cons_succ, i64_w, i32_w]
        rfl
       refine pure_ (i := 26) (N := some 115) (v := undef) (a' := ?_) #[true, true, true, true, true, true, true, true, true, true, true, true, true, true, true, true, true, true, true, true, true, true, true, true, true, true, true, false, false, false, false, false, false, false] rfl rfl (any_of HT_.out (by kernel_rfl)) (fun _ _ _ h => h) (Or.inr ⟨by rfl, rfl⟩) ?_ ?_
       rotate_left
       ·simp only [Act.put, List.setIfInBounds_toArray, List.set_cons_zero, List.set_cons_succ, i64_w, i32_w]
        rfl
       refine pure_ (i := 27) (N := some 116) (v := ?_) (a' := ?_) #[true, true, true, true, true, true, true, true, true, true, true, true, true, true, true, true, true, true, true, true, true, true, true, true, true, true, true, true, false, false, false, false, false, false] rfl rfl (any_of HT_.out (by kernel_rfl)) (fun _ _ _ h => h) (Or.inl ⟨by rfl, ?_⟩) ?_ ?_
       rotate_left
       ·intro w'
        go_simp
        with_reducible rfl
       rotate_left
       ·simp only [Act.put, List.setIfInBounds_toArray, List.set_cons_zero, List.set_cons_succ, i64_w, i32_w]
        rfl
       refine pure_ (i := 28) (N := some 117) (v := ?_) (a' := ?_) #[true, true, true, true, true, true, true, true, true, true, true, true, true, true, true, true, true, true, true, true, true, true, true, true, true, true, true, true, true, false, false, false, false, false] rfl rfl (any_of HT_.out (by kernel_rfl)) (fun _ _ _ h => h) (Or.inl ⟨by rfl, ?_⟩) ?_ ?_
       rotate_left
       ·intro w'
        go_simp
        with_reducible rfl
       rotate_left
       ·simp only [Act.put, List.setIfInBounds_toArray, List.set_cons_zero, List.set_cons_succ, i64_w, i32_w]
        rfl
       refine pure_ (i := 29) (N := some 118) (v := undef) (a' := ?_) #[true, true, true, true, true, true, true, true, true, true, true, true, true, true, true, true, true, true, true, true, true, true, true, true, true, true, true, true, true, true, false, false, false, false] rfl rfl (any_of HT_.out (by kernel_rfl)) (fun _ _ _ h => h) (Or.inr ⟨by rfl, rfl⟩) ?_ ?_
       rotate_left
       ·simp only [Act.put, List.setIfInBounds_toArray, List.set_cons_zero, List.set_cons_succ, i64_w, i32_w]
        rfl
       refine pure_ (i := 30) (N := some 119) (v := undef) (a' := ?_) #[true, true, true, true, true, true, true, true, true, true, true, true, true, true, true, true, true, true, true, true, true, true, true, true, true, true, true, true, true, true, true, false, false, false] rfl rfl (any_of HT_.out (by kernel_rfl)) (fun _ _ _ h => h) (Or.inr ⟨by rfl, rfl⟩) ?_ ?_
       rotate_left
       ·simp only [Act.put, List.setIfInBounds_toArray, List.set_cons_zero, List.set_cons_succ, i64_w, i32_w]
        rfl
       refine pure_ (i := 31) (N := some 120) (v := undef) (a' := ?_) #[true, true, true, true, true, true, true, true, true, true, true, true, true, true, true, true, true, true, true, true, true, true, true, true, true, true, true, true, true, true, true, true, false, false] rfl rfl (any_of HT_.out (by kernel_rfl)) (fun _ _ _ h => h) (Or.inr ⟨by rfl, rfl⟩) ?_ ?_
       rotate_left
       ·simp only [Act.put, List.setIfInBounds_toArray, List.set_cons_zero, List.set_cons_succ, i64_w, i32_w]
        rfl
       refine pure_ (i := 32) (N := some 121) (v := ?_) (a' := ?_) #[true, true, true, true, true, true, true, true, true, true, true, true, true, true, true, true, true, true, true, true, true, true, true, true, true, true, true, true, true, true, true, true, true, false] rfl rfl (any_of HT_.out (by kernel_rfl)) (fun _ _ _ h => h) (Or.inl ⟨by rfl, ?_⟩) ?_ ?_
       rotate_left
       ·intro w'
        go_simp
        with_reducible rfl
       rotate_left
       ·simp only [Act.put, List.setIfInBounds_toArray, List.set_cons_zero, List.set_cons_succ, i64_w, i32_w]
        rfl
       refine pure_ (i := 33) (N := some 6) (v := ?_) (a' := ?_) #[true, true, true, true, true, true, true, true, true, true, true, true, true, true, true, true, true, true, true, true, true, true, true, true, true, true, true, true, true, true, true, true, true, true] rfl rfl (any_of HT_.out (by kernel_rfl)) (fun _ _ _ h => h) (Or.inl ⟨by rfl, ?_⟩) ?_ ?_
       rotate_left
       ·intro w'
        go_simp
        with_reducible rfl
       rotate_left
       ·simp only [Act.put, List.setIfInBounds_toArray, List.set_cons_zero, List.set_cons_succ, i64_w, i32_w]
        rfl
       refine done_ (done_of HT_.out (by kernel_rfl)) ?_
       try go_wp2
       go_ret
       exact ⟨rfl_, Bu HB⟩
     ·rw [if_neg c25] at H
      have c25b0 : ((strOfNums t819).toList == (strOfNums t831).toList) = false := beq_eq_false_iff_ne.mpr c25
      have c25b1 : ((strOfNums t819).toList != (strOfNums t831).toList) = true := bne_iff_ne.mpr c25
      obtain rfl := Option.some.inj H
      try go_wp2_with (first | ((with_reducible refine gate_callee (f := 25) rfl ?_); refine goesA (some 44) Tryd.func25 #[.slice A0 l0.length c0, .slice A1 l1.length c1] rfl ?_; (with_reducible refine (nat_Add.calls kj3 _ _ l0 _ _ l1 t811 t812 _ ?side1 ?side2 ?side3 ?side4 A16.out).mono ?_); (case side1 => exact Cu (Kd.C_below HR0.out HB.out)); (case side2 => exact HC0.out); (case side3 => exact Cu (Kd.C_below HR1.out HB.out)); (case side4 => exact HC1.out); rintro e w89 ⟨v813, rfl, ho0, hb⟩; refine ⟨_, rfl, ?_⟩; have n0_ := Aside0.mk (Kd.R_lower ho0 (Bz HB)); have n1_ := Bs HB hb; clear HB; revert n0_ n1_; intro HO814 HB; (try clear hb); (try clear hb2); (try clear hk); (try clear hi); (try clear ho0)) | ((with_reducible refine gate_callee (f := 25) rfl ?_); refine goesA (some 50) Tryd.func25 #[.slice A1 l1.length c1, .slice A0 l0.length c0] rfl ?_; (with_reducible refine (nat_Add.calls kj3 _ _ l1 _ _ l0 t815 t816 _ ?side1 ?side2 ?side3 ?side4 A17.out).mono ?_); (case side1 => exact Cu (Kd.C_below HR1.out HB.out)); (case side2 => exact HC1.out); (case side3 => exact Cu (Kd.C_below HR0.out HB.out)); (case side4 => exact HC0.out); rintro e w90 ⟨v817, rfl, ho0, hb⟩; refine ⟨_, rfl, ?_⟩; have n0_ := Re HO814 (Kd.R_base ho0) hb; have n1_ := Aside0.mk (Kd.R_lower (Kd.R_new' ho0 (Kd.R_lt (Ru HO814))) (Bz HB)); have n2_ := Bs HB hb; clear HO814 HB; revert n0_ n1_ n2_; intro HO814 HO818 HB; (try clear hb); (try clear hb2); (try clear hk); (try clear hi); (try clear ho0); obtain ⟨Ao91, co91, eo91⟩ := Kd.R_slice HO814.out; subst eo91) | ((with_reducible refine gate_callee (f := 23) rfl ?_); refine goesA (some 56) Tryd.func23 #[.slice Ao91 t811.length co91, .slice A2 l2.length c2] rfl ?_; (with_reducible refine (nat_Mul.calls kj3 _ _ t811 _ _ l2 t819 t820 _ ?side1 ?side2 ?side3 ?side4 A18.out).mono ?_); (case side1 => exact Cu (Kd.R_reads' HO814.out).2.2); (case side2 => exact (Kd.R_reads' HO814.out).2.1); (case side3 => exact Cu (Kd.C_below HR2.out HB.out)); (case side4 => exact HC2.out); rintro e w92 ⟨v821, rfl, ho0, hb⟩; refine ⟨_, rfl, ?_⟩; have n0_ := Re HO814 (Kd.R_base ho0) hb; have n1_ := Re HO818 (Kd.R_base ho0) hb; have n2_ := Aside0.mk (Kd.R_lower (Kd.R_new' (Kd.R_new' ho0 (Kd.R_lt (Ru HO814))) (Kd.R_lt (Ru HO818))) (Bz HB)); have n3_ := Bs HB hb; clear HO814 HO818 HB; revert n0_ n1_ n2_ n3_; intro HO814 HO818 HO822 HB; (try clear hb); (try clear hb2); (try clear hk); (try clear hi); (try clear ho0)) | ((with_reducible refine gate_callee (f := 23) rfl ?_); refine goesA (some 62) Tryd.func23 #[.slice A0 l0.length c0, .slice A2 l2.length c2] rfl ?_; (with_reducible refine (nat_Mul.calls kj3 _ _ l0 _ _ l2 t823 t824 _ ?side1 ?side2 ?side3 ?side4 A19.out).mono ?_); (case side1 => exact Cu (Kd.C_below HR0.out HB.out)); (case side2 => exact HC0.out); (case side3 => exact Cu (Kd.C_below HR2.out HB.out)); (case side4 => exact HC2.out); rintro e w93 ⟨v825, rfl, ho0, hb⟩; refine ⟨_, rfl, ?_⟩; have n0_ := Re HO814 (Kd.R_base ho0) hb; have n1_ := Re HO818 (Kd.R_base ho0) hb; have n2_ := Re HO822 (Kd.R_base ho0) hb; have n3_ := Aside0.mk (Kd.R_lower (Kd.R_new' (Kd.R_new' (Kd.R_new' ho0 (Kd.R_lt (Ru HO814))) (Kd.R_lt (Ru HO818))) (Kd.R_lt (Ru HO822))) (Bz HB)); have n4_ := Bs HB hb; clear HO814 HO818 HO822 HB; revert n0_ n1_ n2_ n3_ n4_; intro HO814 HO818 HO822 HO826 HB; (try clear hb); (try clear hb2); (try clear hk); (try clear hi); (try clear ho0)) | ((with_reducible refine gate_callee (f := 23) rfl ?_); refine goesA (some 68) Tryd.func23 #[.slice A2 l2.length c2, .slice A1 l1.length c1] rfl ?_; (with_reducible refine (nat_Mul.calls kj3 _ _ l2 _ _ l1 t827 t828 _ ?side1 ?side2 ?side3 ?side4 A20.out).mono ?_); (case side1 => exact Cu (Kd.C_below HR2.out HB.out)); (case side2 => exact HC2.out); (case side3 => exact Cu (Kd.C_below HR1.out HB.out)); (case side4 => exact HC1.out); rintro e w94 ⟨v829, rfl, ho0, hb⟩; refine ⟨_, rfl, ?_⟩; have n0_ := Re HO814 (Kd.R_base ho0) hb; have n1_ := Re HO818 (Kd.R_base ho0) hb; have n2_ := Re HO822 (Kd.R_base ho0) hb; have n3_ := Re HO826 (Kd.R_base ho0) hb; have n4_ := Aside0.mk (Kd.R_lower (Kd.R_new' (Kd.R_new' (Kd.R_new' (Kd.R_new' ho0 (Kd.R_lt (Ru HO814))) (Kd.R_lt (Ru HO818))) (Kd.R_lt (Ru HO822))) (Kd.R_lt (Ru HO826))) (Bz HB)); have n5_ := Bs HB hb; clear HO814 HO818 HO822 HO826 HB; revert n0_ n1_ n2_ n3_ n4_ n5_; intro HO814 HO818 HO822 HO826 HO830 HB; (try clear hb); (try clear hb2); (try clear hk); (try clear hi); (try clear ho0); obtain ⟨Ao95, co95, eo95⟩ := Kd.R_slice HO826.out; subst eo95; obtain ⟨Ao96, co96, eo96⟩ := Kd.R_slice HO830.out; subst eo96) | ((with_reducible refine gate_callee (f := 25) rfl ?_); refine goesA (some 74) Tryd.func25 #[.slice Ao95 t823.length co95, .slice Ao96 t827.length co96] rfl ?_; (with_reducible refine (nat_Add.calls kj3 _ _ t823 _ _ t827 t831 t832 _ ?side1 ?side2 ?side3 ?side4 A21.out).mono ?_); (case side1 => exact Cu (Kd.R_reads' HO826.out).2.2); (case side2 => exact (Kd.R_reads' HO826.out).2.1); (case side3 => exact Cu (Kd.R_reads' HO830.out).2.2); (case side4 => exact (Kd.R_reads' HO830.out).2.1); rintro e w97 ⟨v833, rfl, ho0, hb⟩; refine ⟨_, rfl, ?_⟩; have n0_ := Re HO814 (Kd.R_base ho0) hb; have n1_ := Re HO818 (Kd.R_base ho0) hb; have n2_ := Re HO822 (Kd.R_base ho0) hb; have n3_ := Re HO826 (Kd.R_base ho0) hb; have n4_ := Re HO830 (Kd.R_base ho0) hb; have n5_ := Aside0.mk (Kd.R_lower (Kd.R_new' (Kd.R_new' (Kd.R_new' (Kd.R_new' (Kd.R_new' ho0 (Kd.R_lt (Ru HO814))) (Kd.R_lt (Ru HO818))) (Kd.R_lt (Ru HO822))) (Kd.R_lt (Ru HO826))) (Kd.R_lt (Ru HO830))) (Bz HB)); have n6_ := Bs HB hb; clear HO814 HO818 HO822 HO826 HO830 HB; revert n0_ n1_ n2_ n3_ n4_ n5_ n6_; intro HO814 HO818 HO822 HO826 HO830 HO834 HB; (try clear hb); (try clear hb2); (try clear hk); (try clear hi); (try clear ho0)) | ((with_reducible refine gate_callee (f := 27) rfl ?_); refine goesA (some 80) Tryd.func27 #[.slice Ao91 t811.length co91, .slice A1 l1.length c1] rfl ?_; (with_reducible refine (nat_Sub.calls kj3 _ _ t811 _ _ l1 t835 t836 _ ?side1 ?side2 ?side3 ?side4 A22.out).mono ?_); (case side1 => exact Cu (Kd.R_reads' HO814.out).2.2); (case side2 => exact (Kd.R_reads' HO814.out).2.1); (case side3 => exact Cu (Kd.C_below HR1.out HB.out)); (case side4 => exact HC1.out); rintro e w98 ⟨v837, rfl, ho0, hb⟩; refine ⟨_, rfl, ?_⟩; have n0_ := Re HO814 (Kd.R_base ho0) hb; have n1_ := Re HO818 (Kd.R_base ho0) hb; have n2_ := Re HO822 (Kd.R_base ho0) hb; have n3_ := Re HO826 (Kd.R_base ho0) hb; have n4_ := Re HO830 (Kd.R_base ho0) hb; have n5_ := Re HO834 (Kd.R_base ho0) hb; have n6_ := Aside0.mk (Kd.R_lower (Kd.R_new' (Kd.R_new' (Kd.R_new' (Kd.R_new' (Kd.R_new' (Kd.R_new' ho0 (Kd.R_lt (Ru HO814))) (Kd.R_lt (Ru HO818))) (Kd.R_lt (Ru HO822))) (Kd.R_lt (Ru HO826))) (Kd.R_lt (Ru HO830))) (Kd.R_lt (Ru HO834))) (Bz HB)); have n7_ := Bs HB hb; clear HO814 HO818 HO822 HO826 HO830 HO834 HB; revert n0_ n1_ n2_ n3_ n4_ n5_ n6_ n7_; intro HO814 HO818 HO822 HO826 HO830 HO834 HO838 HB; (try clear hb); (try clear hb2); (try clear hk); (try clear hi); (try clear ho0)) | ((with_reducible refine gate_callee (f := 27) rfl ?_); refine goesA (some 86) Tryd.func27 #[.slice Ao91 t811.length co91, .slice Ao91 t811.length co91] rfl ?_; (with_reducible refine (nat_Sub.calls kj3 _ _ t811 _ _ t811 t839 t840 _ ?side1 ?side2 ?side3 ?side4 A23.out).mono ?_); (case side1 => exact Cu (Kd.R_reads' HO814.out).2.2); (case side2 => exact (Kd.R_reads' HO814.out).2.1); (case side3 => exact Cu (Kd.R_reads' HO814.out).2.2); (case side4 => exact (Kd.R_reads' HO814.out).2.1); rintro e w99 ⟨v841, rfl, ho0, hb⟩; refine ⟨_, rfl, ?_⟩; have n0_ := Re HO814 (Kd.R_base ho0) hb; have n1_ := Re HO818 (Kd.R_base ho0) hb; have n2_ := Re HO822 (Kd.R_base ho0) hb; have n3_ := Re HO826 (Kd.R_base ho0) hb; have n4_ := Re HO830 (Kd.R_base ho0) hb; have n5_ := Re HO834 (Kd.R_base ho0) hb; have n6_ := Re HO838 (Kd.R_base ho0) hb; have n7_ := Aside0.mk (Kd.R_lower (Kd.R_new' (Kd.R_new' (Kd.R_new' (Kd.R_new' (Kd.R_new' (Kd.R_new' (Kd.R_new' ho0 (Kd.R_lt (Ru HO814))) (Kd.R_lt (Ru HO818))) (Kd.R_lt (Ru HO822))) (Kd.R_lt (Ru HO826))) (Kd.R_lt (Ru HO830))) (Kd.R_lt (Ru HO834))) (Kd.R_lt (Ru HO838))) (Bz HB)); have n8_ := Bs HB hb; clear HO814 HO818 HO822 HO826 HO830 HO834 HO838 HB; revert n0_ n1_ n2_ n3_ n4_ n5_ n6_ n7_ n8_; intro HO814 HO818 HO822 HO826 HO830 HO834 HO838 HO842 HB; (try clear hb); (try clear hb2); (try clear hk); (try clear hi); (try clear ho0)))
      have n0_ := Aside0.mk (Kd.R_drew HO814.out)
      have n1_ := Aside0.mk (Kd.R_drew HO818.out)
      have n2_ := Aside0.mk (Kd.R_drew HO822.out)
      have n3_ := Aside0.mk (Kd.R_drew HO826.out)
      have n4_ := Aside0.mk (Kd.R_drew HO830.out)
      have n5_ := Aside0.mk (Kd.R_drew HO834.out)
      have n6_ := Aside0.mk (Kd.R_drew HO838.out)
      have n7_ := Aside0.mk (Kd.R_drew HO842.out)
      have n8_ := Aside0.mk (below_drew1 HB.out)
      clear HO814
      clear HO818
      clear HO822
      clear HO826
      clear HO830
      clear HO834
      clear HO838
      clear HO842
      clear HB
      have HO814 := n0_
      have HO818 := n1_
      have HO822 := n2_
      have HO826 := n3_
      have HO830 := n4_
      have HO834 := n5_
      have HO838 := n6_
      have HO842 := n7_
      have HB := n8_
      clear n0_ n1_ n2_ n3_ n4_ n5_ n6_ n7_ n8_
      refine start_ (n := 34) (S := fun w' => (convert 22 9 (.slice Ao91 t811.length co91)).run Tryd.prog w' = .ok (.string (strOfNums t811)) w' ∧ (convert 22 9 v817).run Tryd.prog w' = .ok (.string (strOfNums t815)) w' ∧ (convert 22 9 v821).run Tryd.prog w' = .ok (.string (strOfNums t819)) w' ∧ (convert 22 9 v833).run Tryd.prog w' = .ok (.string (strOfNums t831)) w') (ds := []) #[false, false, false, false, false, false, false, false, false, false, false, false, false, false, false, false, false, false, false, false, false, false, false, false, false, false, false, false, false, false, false, false, false, false] (by kernel_rfl) rfl rfl ⟨own_string (P := Tryd.prog) Tryd.underlying22 Tryd.underlying5 Tryd.underlying9 (Kd.own_of_R HO814.out), own_string (P := Tryd.prog) Tryd.underlying22 Tryd.underlying5 Tryd.underlying9 (Kd.own_of_R HO818.out), own_string (P := Tryd.prog) Tryd.underlying22 Tryd.underlying5 Tryd.underlying9 (Kd.own_of_R HO822.out), own_string (P := Tryd.prog) Tryd.underlying22 Tryd.underlying5 Tryd.underlying9 (Kd.own_of_R HO834.out)⟩ (fun hHeld => ?_); refine with_tabW lanyardlaw06_NatRings.tab11 lanyardlaw06_NatRings.bits11 (fun HT_ HW_ => ?_)
      generalize w99.drew = w100 at HO814 HO818 HO822 HO826 HO830 HO834 HO838 HO842 HB hHeld ⊢
      refine pure_ (i := 0) (N := some 89) (v := ?_) (a' := ?_) #[true, false, false, false, false, false, false, false, false, false, false, false, false, false, false, false, false, false, false, false, false, false, false, false, false, false, false, false, false, false, false, false, false, false] rfl rfl (any_of HT_.out (by kernel_rfl)) (fun _ _ _ h => h) (Or.inl ⟨by rfl, ?_⟩) ?_ ?_
      rotate_left
      ·intro w'
       go_simp
       with_reducible rfl
      rotate_left
      ·simp only [Act.put, List.setIfInBounds_toArray, List.set_cons_zero, List.set_cons_succ, i64_w, i32_w]
       rfl
      refine pure_ (i := 2) (N := some 91) (v := ?_) (a' := ?_) #[true, false, true, false, false, false, false, false, false, false, false, false, false, false, false, false, false, false, false, false, false, false, false, false, false, false, false, false, false, false, false, false, false, false] rfl rfl (any_of HT_.out (by kernel_rfl)) (fun _ _ _ h => h) (Or.inl ⟨by rfl, ?_⟩) ?_ ?_
      rotate_left
      ·intro w'
       go_simp
       with_reducible rfl
      rotate_left
      ·simp only [Act.put, List.setIfInBounds_toArray, List.set_cons_zero, List.set_cons_succ, i64_w, i32_w]
       rfl
      refine take_ (i := 1) (N := some 90) (v := ?_) (a' := ?_) #[true, true, true, false, false, false, false, false, false, false, false, false, false, false, false, false, false, false, false, false, false, false, false, false, false, false, false, false, false, false, false, false, false, false] rfl rfl (take_ofW HT_.out HW_.out (by kernel_rfl)) (fun _ _ _ h => h) (Or.inl ⟨by rfl, ?_⟩) hHeld ?_ ?_
      rotate_left
      ·rintro w' ⟨s0, s1, s2, s3⟩
       go_simp
       with_reducible rfl
      rotate_left
      ·simp only [Act.put, List.setIfInBounds_toArray, List.set_cons_zero, List.set_cons_succ, i64_w, i32_w]
       rfl
      refine take_ (i := 3) (N := some 92) (v := ?_) (a' := ?_) #[true, true, true, true, false, false, false, false, false, false, false, false, false, false, false, false, false, false, false, false, false, false, false, false, false, false, false, false, false, false, false, false, false, false] rfl rfl (take_ofW HT_.out HW_.out (by kernel_rfl)) (fun _ _ _ h => h) (Or.inl ⟨by rfl, ?_⟩) hHeld ?_ ?_
      rotate_left
      ·rintro w' ⟨s0, s1, s2, s3⟩
       go_simp
       with_reducible rfl
      rotate_left
      ·simp only [Act.put, List.setIfInBounds_toArray, List.set_cons_zero, List.set_cons_succ, i64_w, i32_w]
       rfl
      refine pure_ (i := 4) (N := some 93) (v := ?_) (a' := ?_) #[true, true, true, true, true, false, false, false, false, false, false, false, false, false, false, false, false, false, false, false, false, false, false, false, false, false, false, false, false, false, false, false, false, false] rfl rfl (any_of HT_.out (by kernel_rfl)) (fun _ _ _ h => h) (Or.inl ⟨by rfl, ?_⟩) ?_ ?_
      rotate_left
      ·intro w'
       go_simp
       with_reducible rfl
      rotate_left
      ·simp only [Act.put, List.setIfInBounds_toArray, List.set_cons_zero, List.set_cons_succ, i64_w, i32_w]
       rfl
      refine pure_ (i := 5) (N := some 94) (v := ?_) (a' := ?_) #[true, true, true, true, true, true, false, false, false, false, false, false, false, false, false, false, false, false, false, false, false, false, false, false, false, false, false, false, false, false, false, false, false, false] rfl rfl (any_of HT_.out (by kernel_rfl)) (fun _ _ _ h => h) (Or.inl ⟨by rfl, ?_⟩) ?_ ?_
      rotate_left
      ·intro w'
       go_simp
       with_reducible rfl
      rotate_left
      ·simp only [Act.put, List.setIfInBounds_toArray, List.set_cons_zero, List.set_cons_succ, i64_w, i32_w]
       rfl
      refine pure_ (i := 6) (N := some 95) (v := ?_) (a' := ?_) #[true, true, true, true, true, true, true, false, false, false, false, false, false, false, false, false, false, false, false, false, false, false, false, false, false, false, false, false, false, false, false, false, false, false] rfl rfl (any_of HT_.out (by kernel_rfl)) (fun _ _ _ h => h) (Or.inl ⟨by rfl, ?_⟩) ?_ ?_
      rotate_left
      ·intro w'
       go_simp
       with_reducible rfl
      rotate_left
      ·simp only [Act.put, List.setIfInBounds_toArray, List.set_cons_zero, List.set_cons_succ, i64_w, i32_w]
       rfl
      refine pure_ (i := 8) (N := some 97) (v := ?_) (a' := ?_) #[true, true, true, true, true, true, true, false, true, false, false, false, false, false, false, false, false, false, false, false, false, false, false, false, false, false, false, false, false, false, false, false, false, false] rfl rfl (any_of HT_.out (by kernel_rfl)) (fun _ _ _ h => h) (Or.inl ⟨by rfl, ?_⟩) ?_ ?_
      rotate_left
      ·intro w'
       go_simp
       with_reducible rfl
      rotate_left
      ·simp only [Act.put, List.setIfInBounds_toArray, List.set_cons_zero, List.set_cons_succ, i64_w, i32_w]
       rfl
      refine take_ (i := 7) (N := some 96) (v := ?_) (a' := ?_) #[true, true, true, true, true, true, true, true, true, false, false, false, false, false, false, false, false, false, false, false, false, false, false, false, false, false, false, false, false, false, false, false, false, false] rfl rfl (take_ofW HT_.out HW_.out (by kernel_rfl)) (fun _ _ _ h => h) (Or.inl ⟨by rfl, ?_⟩) hHeld ?_ ?_
      rotate_left
      ·rintro w' ⟨s0, s1, s2, s3⟩
       go_simp
       with_reducible rfl
      rotate_left
      ·simp only [Act.put, List.setIfInBounds_toArray, List.set_cons_zero, List.set_cons_succ, i64_w, i32_w]
       rfl
      refine take_ (i := 9) (N := some 98) (v := ?_) (a' := ?_) #[true, true, true, true, true, true, true, true, true, true, false, false, false, false, false, false, false, false, false, false, false, false, false, false, false, false, false, false, false, false, false, false, false, false] rfl rfl (take_ofW HT_.out HW_.out (by kernel_rfl)) (fun _ _ _ h => h) (Or.inl ⟨by rfl, ?_⟩) hHeld ?_ ?_
      rotate_left
      ·rintro w' ⟨s0, s1, s2, s3⟩
       go_simp
       with_reducible rfl
      rotate_left
      ·simp only [Act.put, List.setIfInBounds_toArray, List.set_cons_zero, List.set_cons_succ, i64_w, i32_w]
       rfl
      refine pure_ (i := 10) (N := some 99) (v := ?_) (a' := ?_) #[true, true, true, true, true, true, true, true, true, true, true, false, false, false, false, false, false, false, false, false, false, false, false, false, false, false, false, false, false, false, false, false, false, false] rfl rfl (any_of HT_.out (by kernel_rfl)) (fun _ _ _ h => h) (Or.inl ⟨by rfl, ?_⟩) ?_ ?_
      rotate_left
      ·intro w'
       go_simp
       with_reducible rfl
      rotate_left
      ·simp only [Act.put, List.setIfInBounds_toArray, List.set_cons_zero, List.set_cons_succ, i64_w, i32_w]
       rfl
      refine pure_ (i := 11) (N := some 100) (v := ?_) (a' := ?_) #[true, true, true, true, true, true, true, true, true, true, true, true, false, false, false, false, false, false, false, false, false, false, false, false, false, false, false, false, false, false, false, false, false, false] rfl rfl (any_of HT_.out (by kernel_rfl)) (fun _ _ _ h => h) (Or.inl ⟨by rfl, ?_⟩) ?_ ?_
      rotate_left
      ·intro w'
       go_simp
       with_reducible rfl
      rotate_left
      ·simp only [Act.put, List.setIfInBounds_toArray, List.set_cons_zero, List.set_cons_succ, i64_w, i32_w]
       rfl
      refine pure_ (i := 12) (N := some 101) (v := ?_) (a' := ?_) #[true, true, true, true, true, true, true, true, true, true, true, true, true, false, false, false, false, false, false, false, false, false, false, false, false, false, false, false, false, false, false, false, false, false] rfl rfl (any_of HT_.out (by kernel_rfl)) (fun _ _ _ h => h) (Or.inl ⟨by rfl, ?_⟩) ?_ ?_
      rotate_left
      ·intro w'
       go_simp
       with_reducible rfl
      rotate_left
      ·simp only [Act.put, List.setIfInBounds_toArray, List.set_cons_zero, List.set_cons_succ, i64_w, i32_w]
       rfl
      refine pure_ (i := 13) (N := some 102) (v := undef) (a' := ?_) #[true, true, true, true, true, true, true, true, true, true, true, true, true, true, false, false, false, false, false, false, false, false, false, false, false, false, false, false, false, false, false, false, false, false] rfl rfl (any_of HT_.out (by kernel_rfl)) (fun _ _ _ h => h) (Or.inr ⟨by rfl, rfl⟩) ?_ ?_
      rotate_left
      ·simp only [Act.put, List.setIfInBounds_toArray, List.set_cons_zero, List.set_cons_succ, i64_w, i32_w]
       rfl
      refine pure_ (i := 14) (N := some 103) (v := undef) (a' := ?_) #[true, true, true, true, true, true, true, true, true, true, true, true, true, true, true, false, false, false, false, false, false, false, false, false, false, false, false, false, false, false, false, false, false, false] rfl rfl (any_of HT_.out (by kernel_rfl)) (fun _ _ _ h => h) (Or.inr ⟨by rfl, rfl⟩) ?_ ?_
      rotate_left
      ·simp only [Act.put, List.setIfInBounds_toArray, List.set_cons_zero, List.set_cons_succ, i64_w, i32_w]
       rfl
      refine pure_ (i := 15) (N := some 104) (v := ?_) (a' := ?_) #[true, true, true, true, true, true, true, true, true, true, true, true, true, true, true, true, false, false, false, false, false, false, false, false, false, false, false, false, false, false, false, false, false, false] rfl rfl (any_of HT_.out (by kernel_rfl)) (fun _ _ _ h => h) (Or.inl ⟨by rfl, ?_⟩) ?_ ?_
      rotate_left
      ·intro w'
       go_simp
       with_reducible rfl
      rotate_left
      ·simp only [Act.put, List.setIfInBounds_toArray, List.set_cons_zero, List.set_cons_succ, i64_w, i32_w]
       rfl
      refine pure_ (i := 16) (N := some 105) (v := ?_) (a' := ?_) #[true, true, true, true, true, true, true, true, true, true, true, true, true, true, true, true, true, false, false, false, false, false, false, false, false, false, false, false, false, false, false, false, false, false] rfl rfl (any_of HT_.out (by kernel_rfl)) (fun _ _ _ h => h) (Or.inl ⟨by rfl, ?_⟩) ?_ ?_
      rotate_left
      ·intro w'
       go_simp
       with_reducible rfl
      rotate_left
      ·simp only [Act.put, List.setIfInBounds_toArray, List.set_cons_zero, List.set_cons_succ, i64_w, i32_w]
       rfl
      refine pure_ (i := 17) (N := some 106) (v := undef) (a' := ?_) #[true, true, true, true, true, true, true, true, true, true, true, true, true, true, true, true, true, true, false, false, false, false, false, false, false, false, false, false, false, false, false, false, false, false] rfl rfl (any_of HT_.out (by kernel_rfl)) (fun _ _ _ h => h) (Or.inr ⟨by rfl, rfl⟩) ?_ ?_
      rotate_left
      ·simp only [Act.put, List.setIfInBounds_toArray, List.set_cons_zero, List.set_cons_succ, i64_w, i32_w]
       rfl
      refine pure_ (i := 18) (N := some 107) (v := undef) (a' := ?_) #[true, true, true, true, true, true, true, true, true, true, true, true, true, true, true, true, true, true, true, false, false, false, false, false, false, false, false, false, false, false, false, false, false, false] rfl rfl (any_of HT_.out (by kernel_rfl)) (fun _ _ _ h => h) (Or.inr ⟨by rfl, rfl⟩) ?_ ?_
      rotate_left
      ·simp only [Act.put, List.setIfInBounds_toArray, List.set_cons_zero, List.set_cons_succ, i64_w, i32_w]
       rfl
      refine pure_ (i := 19) (N := some 108) (v := undef) (a' := ?_) #[true, true, true, true, true, true, true, true, true, true, true, true, true, true, true, true, true, true, true, true, false, false, false, false, false, false, false, false, false, false, false, false, false, false] rfl rfl (any_of HT_.out (by kernel_rfl)) (fun _ _ _ h => h) (Or.inr ⟨by rfl, rfl⟩) ?_ ?_
      rotate_left
      ·simp only [Act.put, List.setIfInBounds_toArray, List.set_cons_zero, List.set_cons_succ, i64_w, i32_w]
       rfl
      refine pure_ (i := 20) (N := some 109) (v := undef) (a' := ?_) #[true, true, true, true, true, true, true, true, true, true, true, true, true, true, true, true, true, true, true, true, true, false, false, false, false, false, false, false, false, false, false, false, false, false] rfl rfl (any_of HT_.out (by kernel_rfl)) (fun _ _ _ h => h) (Or.inr ⟨by rfl, rfl⟩) ?_ ?_
      rotate_left
      ·simp only [Act.put, List.setIfInBounds_toArray, List.set_cons_zero, List.set_cons_succ, i64_w, i32_w]
       rfl
      refine pure_ (i := 21) (N := some 110) (v := undef) (a' := ?_) #[true, true, true, true, true, true, true, true, true, true, true, true, true, true, true, true, true, true, true, true, true, true, false, false, false, false, false, false, false, false, false, false, false, false] rfl rfl (any_of HT_.out (by kernel_rfl)) (fun _ _ _ h => h) (Or.inr ⟨by rfl, rfl⟩) ?_ ?_
      rotate_left
      ·simp only [Act.put, List.setIfInBounds_toArray, List.set_cons_zero, List.set_cons_succ, i64_w, i32_w]
       rfl
      refine pure_ (i := 22) (N := some 111) (v := undef) (a' := ?_) #[true, true, true, true, true, true, true, true, true, true, true, true, true, true, true, true, true, true, true, true, true, true, true, false, false, false, false, false, false, false, false, false, false, false] rfl rfl (any_of HT_.out (by kernel_rfl)) (fun _ _ _ h => h) (Or.inr ⟨by rfl, rfl⟩) ?_ ?_
      rotate_left
      ·simp only [Act.put, List.setIfInBounds_toArray, List.set_cons_zero, List.set_cons_succ, i64_w, i32_w]
       rfl
      refine pure_ (i := 23) (N := some 112) (v := ?_) (a' := ?_) #[true, true, true, true, true, true, true, true, true, true, true, true, true, true, true, true, true, true, true, true, true, true, true, true, false, false, false, false, false, false, false, false, false, false] rfl rfl (any_of HT_.out (by kernel_rfl)) (fun _ _ _ h => h) (Or.inl ⟨by rfl, ?_⟩) ?_ ?_
      rotate_left
      ·intro w'
       go_simp
       with_reducible rfl
      rotate_left
      ·simp only [Act.put, List.setIfInBounds_toArray, List.set_cons_zero, List.set_cons_succ, i64_w, i32_w]
       rfl
      refine pure_ (i := 24) (N := some 113) (v := ?_) (a' := ?_) #[true, true, true, true, true, true, true, true, true, true, true, true, true, true, true, true, true, true, true, true, true, true, true, true, true, false, false, false, false, false, false, false, false, false] rfl rfl (any_of HT_.out (by kernel_rfl)) (fun _ _ _ h => h) (Or.inl ⟨by rfl, ?_⟩) ?_ ?_
      rotate_left
      ·intro w'
       go_simp
       with_reducible rfl
      rotate_left
      ·simp only [Act.put, List.setIfInBounds_toArray, List.set_cons_zero, List.set_cons_succ, i64_w, i32_w]
       rfl
      refine pure_ (i := 25) (N := some 114) (v := undef) (a' := ?_) #[true, true, true, true, true, true, true, true, true, true, true, true, true, true, true, true, true, true, true, true, true, true, true, true, true, true, false, false, false, false, false, false, false, false] rfl rfl (any_of HT_.out (by kernel_rfl)) (fun _ _ _ h => h) (Or.inr ⟨by rfl, rfl⟩) ?_ ?_
      rotate_left
      ·simp only [Act.put, List.setIfInBounds_toArray, List.set_cons_zero, List.set_cons_succ, i64_w, i32_w]
       rfl
      refine pure_ (i := 26) (N := some 115) (v := undef) (a' := ?_) #[true, true, true, true, true, true, true, true, true, true, true, true, true, true, true, true, true, true, true, true, true, true, true, true, true, true, true, false, false, false, false, false, false, false] rfl rfl (any_of HT_.out (by kernel_rfl)) (fun _ _ _ h => h) (Or.inr ⟨by rfl, rfl⟩) ?_ ?_
      rotate_left
      ·simp only [Act.put, List.setIfInBounds_toArray, List.set_cons_zero, List.set_cons_succ, i64_w, i32_w]
       rfl
      refine pure_ (i := 27) (N := some 116) (v := ?_) (a' := ?_) #[true, true, true, true, true, true, true, true, true, true, true, true, true, true, true, true, true, true, true, true, true, true, true, true, true, true, true, true, false, false, false, false, false, false] rfl rfl (any_of HT_.out (by kernel_rfl)) (fun _ _ _ h => h) (Or.inl ⟨by rfl, ?_⟩) ?_ ?_
      rotate_left
      ·intro w'
       go_simp
       with_reducible rfl
      rotate_left
      ·simp only [Act.put, List.setIfInBounds_toArray, List.set_cons_zero, List.set_cons_succ, i64_w, i32_w]
       rfl
      refine pure_ (i := 28) (N := some 117) (v := ?_) (a' := ?_) #[true, true, true, true, true, true, true, true, true, true, true, true, true, true, true, true, true, true, true, true, true, true, true, true, true, true, true, true, true, false, false, false, false, false] rfl rfl (any_of HT_.out (by kernel_rfl)) (fun _ _ _ h => h) (Or.inl ⟨by rfl, ?_⟩) ?_ ?_
      rotate_left
      ·intro w'
       go_simp
       with_reducible rfl
      rotate_left
      ·simp only [Act.put, List.setIfInBounds_toArray, List.set_cons_zero, List.set_cons_succ, i64_w, i32_w]
       rfl
      refine pure_ (i := 29) (N := some 118) (v := undef) (a' := ?_) #[true, true, true, true, true, true, true, true, true, true, true, true, true, true, true, true, true, true, true, true, true, true, true, true, true, true, true, true, true, true, false, false, false, false] rfl rfl (any_of HT_.out (by kernel_rfl)) (fun _ _ _ h => h) (Or.inr ⟨by rfl, rfl⟩) ?_ ?_
      rotate_left
      ·simp only [Act.put, List.setIfInBounds_toArray, List.set_cons_zero, List.set_cons_succ, i64_w, i32_w]
       rfl
      refine pure_ (i := 30) (N := some 119) (v := undef) (a' := ?_) #[true, true, true, true, true, true, true, true, true, true, true, true, true, true, true, true, true, true, true, true, true, true, true, true, true, true, true, true, true, true, true, false, false, false] rfl rfl (any_of HT_.out (by kernel_rfl)) (fun _ _ _ h => h) (Or.inr ⟨by rfl, rfl⟩) ?_ ?_
      rotate_left
      ·simp only [Act.put, List.setIfInBounds_toArray, List.set_cons_zero, List.set_cons_succ, i64_w, i32_w]
       rfl
      refine pure_ (i := 31) (N := some 120) (v := undef) (a' := ?_) #[true, true, true, true, true, true, true, true, true, true, true, true, true, true, true, true, true, true, true, true, true, true, true, true, true, true, true, true, true, true, true, true, false, false] rfl rfl (any_of HT_.out (by kernel_rfl)) (fun _ _ _ h => h) (Or.inr ⟨by rfl, rfl⟩) ?_ ?_
      rotate_left
      ·simp only [Act.put, List.setIfInBounds_toArray, List.set_cons_zero, List.set_cons_succ, i64_w, i32_w]
       rfl
      refine pure_ (i := 32) (N := some 121) (v := ?_) (a' := ?_) #[true, true, true, true, true, true, true, true, true, true, true, true, true, true, true, true, true, true, true, true, true, true, true, true, true, true, true, true, true, true, true, true, true, false] rfl rfl (any_of HT_.out (by kernel_rfl)) (fun _ _ _ h => h) (Or.inl ⟨by rfl, ?_⟩) ?_ ?_
      rotate_left
      ·intro w'
       go_simp
       with_reducible rfl
      rotate_left
      ·simp only [Act.put, List.setIfInBounds_toArray, List.set_cons_zero, List.set_cons_succ, i64_w, i32_w]
       rfl
      refine pure_ (i := 33) (N := some 6) (v := ?_) (a' := ?_) #[true, true, true, true, true, true, true, true, true, true, true, true, true, true, true, true, true, true, true, true, true, true, true, true, true, true, true, true, true, true, true, true, true, true] rfl rfl (any_of HT_.out (by kernel_rfl)) (fun _ _ _ h => h) (Or.inl ⟨by rfl, ?_⟩) ?_ ?_
      rotate_left
      ·intro w'
       go_simp
       with_reducible rfl
      rotate_left
      ·simp only [Act.put, List.setIfInBounds_toArray, List.set_cons_zero, List.set_cons_succ, i64_w, i32_w]
       rfl
      refine done_ (done_of HT_.out (by kernel_rfl)) ?_
      try go_wp2
      go_ret
      exact ⟨rfl_, Bu HB⟩
    ·rw [if_neg c24] at H
     have c24b0 : ((strOfNums t811).toList == (strOfNums t815).toList) = false := beq_eq_false_iff_ne.mpr c24
     have c24b1 : ((strOfNums t811).toList != (strOfNums t815).toList) = true := bne_iff_ne.mpr c24
     obtain rfl := Option.some.inj H
     try go_wp2_with (first | ((with_reducible refine gate_callee (f := 25) rfl ?_); refine goesA (some 44) Tryd.func25 #[.slice A0 l0.length c0, .slice A1 l1.length c1] rfl ?_; (with_reducible refine (nat_Add.calls kj3 _ _ l0 _ _ l1 t811 t812 _ ?side1 ?side2 ?side3 ?side4 A16.out).mono ?_); (case side1 => exact Cu (Kd.C_below HR0.out HB.out)); (case side2 => exact HC0.out); (case side3 => exact Cu (Kd.C_below HR1.out HB.out)); (case side4 => exact HC1.out); rintro e w102 ⟨v813, rfl, ho0, hb⟩; refine ⟨_, rfl, ?_⟩; have n0_ := Aside0.mk (Kd.R_lower ho0 (Bz HB)); have n1_ := Bs HB hb; clear HB; revert n0_ n1_; intro HO814 HB; (try clear hb); (try clear hb2); (try clear hk); (try clear hi); (try clear ho0)) | ((with_reducible refine gate_callee (f := 25) rfl ?_); refine goesA (some 50) Tryd.func25 #[.slice A1 l1.length c1, .slice A0 l0.length c0] rfl ?_; (with_reducible refine (nat_Add.calls kj3 _ _ l1 _ _ l0 t815 t816 _ ?side1 ?side2 ?side3 ?side4 A17.out).mono ?_); (case side1 => exact Cu (Kd.C_below HR1.out HB.out)); (case side2 => exact HC1.out); (case side3 => exact Cu (Kd.C_below HR0.out HB.out)); (case side4 => exact HC0.out); rintro e w103 ⟨v817, rfl, ho0, hb⟩; refine ⟨_, rfl, ?_⟩; have n0_ := Re HO814 (Kd.R_base ho0) hb; have n1_ := Aside0.mk (Kd.R_lower (Kd.R_new' ho0 (Kd.R_lt (Ru HO814))) (Bz HB)); have n2_ := Bs HB hb; clear HO814 HB; revert n0_ n1_ n2_; intro HO814 HO818 HB; (try clear hb); (try clear hb2); (try clear hk); (try clear hi); (try clear ho0); obtain ⟨Ao104, co104, eo104⟩ := Kd.R_slice HO814.out; subst eo104) | ((with_reducible refine gate_callee (f := 23) rfl ?_); refine goesA (some 56) Tryd.func23 #[.slice Ao104 t811.length co104, .slice A2 l2.length c2] rfl ?_; (with_reducible refine (nat_Mul.calls kj3 _ _ t811 _ _ l2 t819 t820 _ ?side1 ?side2 ?side3 ?side4 A18.out).mono ?_); (case side1 => exact Cu (Kd.R_reads' HO814.out).2.2); (case side2 => exact (Kd.R_reads' HO814.out).2.1); (case side3 => exact Cu (Kd.C_below HR2.out HB.out)); (case side4 => exact HC2.out); rintro e w105 ⟨v821, rfl, ho0, hb⟩; refine ⟨_, rfl, ?_⟩; have n0_ := Re HO814 (Kd.R_base ho0) hb; have n1_ := Re HO818 (Kd.R_base ho0) hb; have n2_ := Aside0.mk (Kd.R_lower (Kd.R_new' (Kd.R_new' ho0 (Kd.R_lt (Ru HO814))) (Kd.R_lt (Ru HO818))) (Bz HB)); have n3_ := Bs HB hb; clear HO814 HO818 HB; revert n0_ n1_ n2_ n3_; intro HO814 HO818 HO822 HB; (try clear hb); (try clear hb2); (try clear hk); (try clear hi); (try clear ho0)) | ((with_reducible refine gate_callee (f := 23) rfl ?_); refine goesA (some 62) Tryd.func23 #[.slice A0 l0.length c0, .slice A2 l2.length c2] rfl ?_; (with_reducible refine (nat_Mul.calls kj3 _ _ l0 _ _ l2 t823 t824 _ ?side1 ?side2 ?side3 ?side4 A19.out).mono ?_); (case side1 => exact Cu (Kd.C_below HR0.out HB.out)); (case side2 => exact HC0.out); (case side3 => exact Cu (Kd.C_below HR2.out HB.out)); (case side4 => exact HC2.out); rintro e w106 ⟨v825, rfl, ho0, hb⟩; refine ⟨_, rfl, ?_⟩; have n0_ := Re HO814 (Kd.R_base ho0) hb; have n1_ := Re HO818 (Kd.R_base ho0) hb; have n2_ := Re HO822 (Kd.R_base ho0) hb; have n3_ := Aside0.mk (Kd.R_lower (Kd.R_new' (Kd.R_new' (Kd.R_new' ho0 (Kd.R_lt (Ru HO814))) (Kd.R_lt (Ru HO818))) (Kd.R_lt (Ru HO822))) (Bz HB)); have n4_ := Bs HB hb; clear HO814 HO818 HO822 HB; revert n0_ n1_ n2_ n3_ n4_; intro HO814 HO818 HO822 HO826 HB; (try clear hb); (try clear hb2); (try clear hk); (try clear hi); (try clear ho0)) | ((with_reducible refine gate_callee (f := 23) rfl ?_); refine goesA (some 68) Tryd.func23 #[.slice A2 l2.length c2, .slice A1 l1.length c1] rfl ?_; (with_reducible refine (nat_Mul.calls kj3 _ _ l2 _ _ l1 t827 t828 _ ?side1 ?side2 ?side3 ?side4 A20.out).mono ?_); (case side1 => exact Cu (Kd.C_below HR2.out HB.out)); (case side2 => exact HC2.out); (case side3 => exact Cu (Kd.C_below HR1.out HB.out)); (case side4 => exact HC1.out); rintro e w107 ⟨v829, rfl, ho0, hb⟩; refine ⟨_, rfl, ?_⟩; have n0_ := Re HO814 (Kd.R_base ho0) hb; have n1_ := Re HO818 (Kd.R_base ho0) hb; have n2_ := Re HO822 (Kd.R_base ho0) hb; have n3_ := Re HO826 (Kd.R_base ho0) hb; have n4_ := Aside0.mk (Kd.R_lower (Kd.R_new' (Kd.R_new' (Kd.R_new' (Kd.R_new' ho0 (Kd.R_lt (Ru HO814))) (Kd.R_lt (Ru HO818))) (Kd.R_lt (Ru HO822))) (Kd.R_lt (Ru HO826))) (Bz HB)); have n5_ := Bs HB hb; clear HO814 HO818 HO822 HO826 HB; revert n0_ n1_ n2_ n3_ n4_ n5_; intro HO814 HO818 HO822 HO826 HO830 HB; (try clear hb); (try clear hb2); (try clear hk); (try clear hi); (try clear ho0); obtain ⟨Ao108, co108, eo108⟩ := Kd.R_slice HO826.out; subst eo108; obtain ⟨Ao109, co109, eo109⟩ := Kd.R_slice HO830.out; subst eo109) | ((with_reducible refine gate_callee (f := 25) rfl ?_); refine goesA (some 74) Tryd.func25 #[.slice Ao108 t823.length co108, .slice Ao109 t827.length co109] rfl ?_; (with_reducible refine (nat_Add.calls kj3 _ _ t823 _ _ t827 t831 t832 _ ?side1 ?side2 ?side3 ?side4 A21.out).mono ?_); (case side1 => exact Cu (Kd.R_reads' HO826.out).2.2); (case side2 => exact (Kd.R_reads' HO826.out).2.1); (case side3 => exact Cu (Kd.R_reads' HO830.out).2.2); (case side4 => exact (Kd.R_reads' HO830.out).2.1); rintro e w110 ⟨v833, rfl, ho0, hb⟩; refine ⟨_, rfl, ?_⟩; have n0_ := Re HO814 (Kd.R_base ho0) hb; have n1_ := Re HO818 (Kd.R_base ho0) hb; have n2_ := Re HO822 (Kd.R_base ho0) hb; have n3_ := Re HO826 (Kd.R_base ho0) hb; have n4_ := Re HO830 (Kd.R_base ho0) hb; have n5_ := Aside0.mk (Kd.R_lower (Kd.R_new' (Kd.R_new' (Kd.R_new' (Kd.R_new' (Kd.R_new' ho0 (Kd.R_lt (Ru HO814))) (Kd.R_lt (Ru HO818))) (Kd.R_lt (Ru HO822))) (Kd.R_lt (Ru HO826))) (Kd.R_lt (Ru HO830))) (Bz HB)); have n6_ := Bs HB hb; clear HO814 HO818 HO822 HO826 HO830 HB; revert n0_ n1_ n2_ n3_ n4_ n5_ n6_; intro HO814 HO818 HO822 HO826 HO830 HO834 HB; (try clear hb); (try clear hb2); (try clear hk); (try clear hi); (try clear ho0)) | ((with_reducible refine gate_callee (f := 27) rfl ?_); refine goesA (some 80) Tryd.func27 #[.slice Ao104 t811.length co104, .slice A1 l1.length c1] rfl ?_; (with_reducible refine (nat_Sub.calls kj3 _ _ t811 _ _ l1 t835 t836 _ ?side1 ?side2 ?side3 ?side4 A22.out).mono ?_); (case side1 => exact Cu (Kd.R_reads' HO814.out).2.2); (case side2 => exact (Kd.R_reads' HO814.out).2.1); (case side3 => exact Cu (Kd.C_below HR1.out HB.out)); (case side4 => exact HC1.out); rintro e w111 ⟨v837, rfl, ho0, hb⟩; refine ⟨_, rfl, ?_⟩; have n0_ := Re HO814 (Kd.R_base ho0) hb; have n1_ := Re HO818 (Kd.R_base ho0) hb; have n2_ := Re HO822 (Kd.R_base ho0) hb; have n3_ := Re HO826 (Kd.R_base ho0) hb; have n4_ := Re HO830 (Kd.R_base ho0) hb; have n5_ := Re HO834 (Kd.R_base ho0) hb; have n6_ := Aside0.mk (Kd.R_lower (Kd.R_new' (Kd.R_new' (Kd.R_new' (Kd.R_new' (Kd.R_new' (Kd.R_new' ho0 (Kd.R_lt (Ru HO814))) (Kd.R_lt (Ru HO818))) (Kd.R_lt (Ru HO822))) (Kd.R_lt (Ru HO826))) (Kd.R_lt (Ru HO830))) (Kd.R_lt (Ru HO834))) (Bz HB)); have n7_ := Bs HB hb; clear HO814 HO818 HO822 HO826 HO830 HO834 HB; revert n0_ n1_ n2_ n3_ n4_ n5_ n6_ n7_; intro HO814 HO818 HO822 HO826 HO830 HO834 HO838 HB; (try clear hb); (try clear hb2); (try clear hk); (try clear hi); (try clear ho0)) | ((with_reducible refine gate_callee (f := 27) rfl ?_); refine goesA (some 86) Tryd.func27 #[.slice Ao104 t811.length co104, .slice Ao104 t811.length co104] rfl ?_; (with_reducible refine (nat_Sub.calls kj3 _ _ t811 _ _ t811 t839 t840 _ ?side1 ?side2 ?side3 ?side4 A23.out).mono ?_); (case side1 => exact Cu (Kd.R_reads' HO814.out).2.2); (case side2 => exact (Kd.R_reads' HO814.out).2.1); (case side3 => exact Cu (Kd.R_reads' HO814.out).2.2); (case side4 => exact (Kd.R_reads' HO814.out).2.1); rintro e w112 ⟨v841, rfl, ho0, hb⟩; refine ⟨_, rfl, ?_⟩; have n0_ := Re HO814 (Kd.R_base ho0) hb; have n1_ := Re HO818 (Kd.R_base ho0) hb; have n2_ := Re HO822 (Kd.R_base ho0) hb; have n3_ := Re HO826 (Kd.R_base ho0) hb; have n4_ := Re HO830 (Kd.R_base ho0) hb; have n5_ := Re HO834 (Kd.R_base ho0) hb; have n6_ := Re HO838 (Kd.R_base ho0) hb; have n7_ := Aside0.mk (Kd.R_lower (Kd.R_new' (Kd.R_new' (Kd.R_new' (Kd.R_new' (Kd.R_new' (Kd.R_new' (Kd.R_new' ho0 (Kd.R_lt (Ru HO814))) (Kd.R_lt (Ru HO818))) (Kd.R_lt (Ru HO822))) (Kd.R_lt (Ru HO826))) (Kd.R_lt (Ru HO830))) (Kd.R_lt (Ru HO834))) (Kd.R_lt (Ru HO838))) (Bz HB)); have n8_ := Bs HB hb; clear HO814 HO818 HO822 HO826 HO830 HO834 HO838 HB; revert n0_ n1_ n2_ n3_ n4_ n5_ n6_ n7_ n8_; intro HO814 HO818 HO822 HO826 HO830 HO834 HO838 HO842 HB; (try clear hb); (try clear hb2); (try clear hk); (try clear hi); (try clear ho0)))
     have n0_ := Aside0.mk (Kd.R_drew HO814.out)
     have n1_ := Aside0.mk (Kd.R_drew HO818.out)
     have n2_ := Aside0.mk (Kd.R_drew HO822.out)
     have n3_ := Aside0.mk (Kd.R_drew HO826.out)
     have n4_ := Aside0.mk (Kd.R_drew HO830.out)
     have n5_ := Aside0.mk (Kd.R_drew HO834.out)
     have n6_ := Aside0.mk (Kd.R_drew HO838.out)
     have n7_ := Aside0.mk (Kd.R_drew HO842.out)
     have n8_ := Aside0.mk (below_drew1 HB.out)
     clear HO814
     clear HO818
     clear HO822
     clear HO826
     clear HO830
     clear HO834
     clear HO838
     clear HO842
     clear HB
     have HO814 := n0_
     have HO818 := n1_
     have HO822 := n2_
     have HO826 := n3_
     have HO830 := n4_
     have HO834 := n5_
     have HO838 := n6_
     have HO842 := n7_
     have HB := n8_
     clear n0_ n1_ n2_ n3_ n4_ n5_ n6_ n7_ n8_
     refine start_ (n := 34) (S := fun w' => (convert 22 9 (.slice Ao104 t811.length co104)).run Tryd.prog w' = .ok (.string (strOfNums t811)) w' ∧ (convert 22 9 v817).run Tryd.prog w' = .ok (.string (strOfNums t815)) w') (ds := []) #[false, false, false, false, false, false, false, false, false, false, false, false, false, false, false, false, false, false, false, false, false, false, false, false, false, false, false, false, false, false, false, false, false, false] (by kernel_rfl) rfl rfl ⟨own_string (P := Tryd.prog) Tryd.underlying22 Tryd.underlying5 Tryd.underlying9 (Kd.own_of_R HO814.out), own_string (P := Tryd.prog) Tryd.underlying22 Tryd.underlying5 Tryd.underlying9 (Kd.own_of_R HO818.out)⟩ (fun hHeld => ?_); refine with_tabW lanyardlaw06_NatRings.tab11 lanyardlaw06_NatRings.bits11 (fun HT_ HW_ => ?_)
     generalize w112.drew = w113 at HO814 HO818 HO822 HO826 HO830 HO834 HO838 HO842 HB hHeld ⊢
     refine pure_ (i := 0) (N := some 89) (v := ?_) (a' := ?_) #[true, false, false, false, false, false, false, false, false, false, false, false, false, false, false, false, false, false, false, false, false, false, false, false, false, false, false, false, false, false, false, false, false, false] rfl rfl (any_of HT_.out (by kernel_rfl)) (fun _ _ _ h => h) (Or.inl ⟨by rfl, ?_⟩) ?_ ?_
     rotate_left
     ·intro w'
      go_simp
      with_reducible rfl
     rotate_left
     ·simp only [Act.put, List.setIfInBounds_toArray, List.set_cons_zero, List.set_cons_succ, i64_w, i32_w]
      rfl
     refine pure_ (i := 2) (N := some 91) (v := ?_) (a' := ?_) #[true, false, true, false, false, false, false, false, false, false, false, false, false, false, false, false, false, false, false, false, false, false, false, false, false, false, false, false, false, false, false, false, false, false] rfl rfl (any_of HT_.out (by kernel_rfl)) (fun _ _ _ h => h) (Or.inl ⟨by rfl, ?_⟩) ?_ ?_
     rotate_left
     ·intro w'
      go_simp
      with_reducible rfl
     rotate_left
     ·simp only [Act.put, List.setIfInBounds_toArray, List.set_cons_zero, List.set_cons_succ, i64_w, i32_w]
      rfl
     refine take_ (i := 1) (N := some 90) (v := ?_) (a' := ?_) #[true, true, true, false, false, false, false, false, false, false, false, false, false, false, false, false, false, false, false, false, false, false, false, false, false, false, false, false, false, false, false, false, false, false] rfl rfl (take_ofW HT_.out HW_.out (by kernel_rfl)) (fun _ _ _ h => h) (Or.inl ⟨by rfl, ?_⟩) hHeld ?_ ?_
     rotate_left
     ·rintro w' ⟨s0, s1⟩
      go_simp
      with_reducible rfl
     rotate_left
     ·simp only [Act.put, List.setIfInBounds_toArray, List.set_cons_zero, List.set_cons_succ, i64_w, i32_w]
      rfl
     refine take_ (i := 3) (N := some 92) (v := ?_) (a' := ?_) #[true, true, true, true, false, false, false, false, false, false, false, false, false, false, false, false, false, false, false, false, false, false, false, false, false, false, false, false, false, false, false, false, false, false] rfl rfl (take_ofW HT_.out HW_.out (by kernel_rfl)) (fun _ _ _ h => h) (Or.inl ⟨by rfl, ?_⟩) hHeld ?_ ?_
     rotate_left
     ·rintro w' ⟨s0, s1⟩
      go_simp
      with_reducible rfl
     rotate_left
     ·simp only [Act.put, List.setIfInBounds_toArray, List.set_cons_zero, List.set_cons_succ, i64_w, i32_w]
      rfl
     refine pure_ (i := 4) (N := some 93) (v := ?_) (a' := ?_) #[true, true, true, true, true, false, false, false, false, false, false, false, false, false, false, false, false, false, false, false, false, false, false, false, false, false, false, false, false, false, false, false, false, false] rfl rfl (any_of HT_.out (by kernel_rfl)) (fun _ _ _ h => h) (Or.inl ⟨by rfl, ?_⟩) ?_ ?_
     rotate_left
     ·intro w'
      go_simp
      with_reducible rfl
     rotate_left
     ·simp only [Act.put, List.setIfInBounds_toArray, List.set_cons_zero, List.set_cons_succ, i64_w, i32_w]
      rfl
     refine pure_ (i := 5) (N := some 94) (v := ?_) (a' := ?_) #[true, true, true, true, true, true, false, false, false, false, false, false, false, false, false, false, false, false, false, false, false, false, false, false, false, false, false, false, false, false, false, false, false, false] rfl rfl (any_of HT_.out (by kernel_rfl)) (fun _ _ _ h => h) (Or.inl ⟨by rfl, ?_⟩) ?_ ?_
     rotate_left
     ·intro w'
      go_simp
      with_reducible rfl
     rotate_left
     ·simp only [Act.put, List.setIfInBounds_toArray, List.set_cons_zero, List.set_cons_succ, i64_w, i32_w]
      rfl
     refine pure_ (i := 6) (N := some 95) (v := undef) (a' := ?_) #[true, true, true, true, true, true, true, false, false, false, false, false, false, false, false, false, false, false, false, false, false, false, false, false, false, false, false, false, false, false, false, false, false, false] rfl rfl (any_of HT_.out (by kernel_rfl)) (fun _ _ _ h => h) (Or.inr ⟨by rfl, rfl⟩) ?_ ?_
     rotate_left
     ·simp only [Act.put, List.setIfInBounds_toArray, List.set_cons_zero, List.set_cons_succ, i64_w, i32_w]
      rfl
     refine pure_ (i := 7) (N := some 96) (v := undef) (a' := ?_) #[true, true, true, true, true, true, true, true, false, false, false, false, false, false, false, false, false, false, false, false, false, false, false, false, false, false, false, false, false, false, false, false, false, false] rfl rfl (any_of HT_.out (by kernel_rfl)) (fun _ _ _ h => h) (Or.inr ⟨by rfl, rfl⟩) ?_ ?_
     rotate_left
     ·simp only [Act.put, List.setIfInBounds_toArray, List.set_cons_zero, List.set_cons_succ, i64_w, i32_w]
      rfl
     refine pure_ (i := 8) (N := some 97) (v := undef) (a' := ?_) #[true, true, true, true, true, true, true, true, true, false, false, false, false, false, false, false, false, false, false, false, false, false, false, false, false, false, false, false, false, false, false, false, false, false] rfl rfl (any_of HT_.out (by kernel_rfl)) (fun _ _ _ h => h) (Or.inr ⟨by rfl, rfl⟩) ?_ ?_
     rotate_left
     ·simp only [Act.put, List.setIfInBounds_toArray, List.set_cons_zero, List.set_cons_succ, i64_w, i32_w]
      rfl
     refine pure_ (i := 9) (N := some 98) (v := undef) (a' := ?_) #[true, true, true, true, true, true, true, true, true, true, false, false, false, false, false, false, false, false, false, false, false, false, false, false, false, false, false, false, false, false, false, false, false, false] rfl rfl (any_of HT_.out (by kernel_rfl)) (fun _ _ _ h => h) (Or.inr ⟨by rfl, rfl⟩) ?_ ?_
     rotate_left
     ·simp only [Act.put, List.setIfInBounds_toArray, List.set_cons_zero, List.set_cons_succ, i64_w, i32_w]
      rfl
     refine pure_ (i := 10) (N := some 99) (v := undef) (a' := ?_) #[true, true, true, true, true, true, true, true, true, true, true, false, false, false, false, false, false, false, false, false, false, false, false, false, false, false, false, false, false, false, false, false, false, false] rfl rfl (any_of HT_.out (by kernel_rfl)) (fun _ _ _ h => h) (Or.inr ⟨by rfl, rfl⟩) ?_ ?_
     rotate_left
     ·simp only [Act.put, List.setIfInBounds_toArray, List.set_cons_zero, List.set_cons_succ, i64_w, i32_w]
      rfl
     refine pure_ (i := 11) (N := some 100) (v := ?_) (a' := ?_) #[true, true, true, true, true, true, true, true, true, true, true, true, false, false, false, false, false, false, false, false, false, false, false, false, false, false, false, false, false, false, false, false, false, false] rfl rfl (any_of HT_.out (by kernel_rfl)) (fun _ _ _ h => h) (Or.inl ⟨by rfl, ?_⟩) ?_ ?_
     rotate_left
     ·intro w'
      go_simp
      with_reducible rfl
     rotate_left
     ·simp only [Act.put, List.setIfInBounds_toArray, List.set_cons_zero, List.set_cons_succ, i64_w, i32_w]
      rfl
     refine pure_ (i := 12) (N := some 101) (v := ?_) (a' := ?_) #[true, true, true, true, true, true, true, true, true, true, true, true, true, false, false, false, false, false, false, false, false, false, false, false, false, false, false, false, false, false, false, false, false, false] rfl rfl (any_of HT_.out (by kernel_rfl)) (fun _ _ _ h => h) (Or.inl ⟨by rfl, ?_⟩) ?_ ?_
     rotate_left
     ·intro w'
      go_simp
      with_reducible rfl
     rotate_left
     ·simp only [Act.put, List.setIfInBounds_toArray, List.set_cons_zero, List.set_cons_succ, i64_w, i32_w]
      rfl
     refine pure_ (i := 13) (N := some 102) (v := undef) (a' := ?_) #[true, true, true, true, true, true, true, true, true, true, true, true, true, true, false, false, false, false, false, false, false, false, false, false, false, false, false, false, false, false, false, false, false, false] rfl rfl (any_of HT_.out (by kernel_rfl)) (fun _ _ _ h => h) (Or.inr ⟨by rfl, rfl⟩) ?_ ?_
     rotate_left
     ·simp only [Act.put, List.setIfInBounds_toArray, List.set_cons_zero, List.set_cons_succ, i64_w, i32_w]
      rfl
     refine pure_ (i := 14) (N := some 103) (v := undef) (a' := ?_) #[true, true, true, true, true, true, true, true, true, true, true, true, true, true, true, false, false, false, false, false, false, false, false, false, false, false, false, false, false, false, false, false, false, false] rfl rfl (any_of HT_.out (by kernel_rfl)) (fun _ _ _ h => h) (Or.inr ⟨by rfl, rfl⟩) ?_ ?_
     rotate_left
     ·simp only [Act.put, List.setIfInBounds_toArray, List.set_cons_zero, List.set_cons_succ, i64_w, i32_w]
      rfl
     refine pure_ (i := 15) (N := some 104) (v := ?_) (a' := ?_) #[true, true, true, true, true, true, true, true, true, true, true, true, true, true, true, true, false, false, false, false, false, false, false, false, false, false, false, false, false, false, false, false, false, false] rfl rfl (any_of HT_.out (by kernel_rfl)) (fun _ _ _ h => h) (Or.inl ⟨by rfl, ?_⟩) ?_ ?_
     rotate_left
     ·intro w'
      go_simp
      with_reducible rfl
     rotate_left
     ·simp only [Act.put, List.setIfInBounds_toArray, List.set_cons_zero, List.set_cons_succ, i64_w, i32_w]
      rfl
     refine pure_ (i := 16) (N := some 105) (v := ?_) (a' := ?_) #[true, true, true, true, true, true, true, true, true, true, true, true, true, true, true, true, true, false, false, false, false, false, false, false, false, false, false, false, false, false, false, false, false, false] rfl rfl (any_of HT_.out (by kernel_rfl)) (fun _ _ _ h => h) (Or.inl ⟨by rfl, ?_⟩) ?_ ?_
     rotate_left
     ·intro w'
      go_simp
      with_reducible rfl
     rotate_left
     ·simp only [Act.put, List.setIfInBounds_toArray, List.set_cons_zero, List.set_cons_succ, i64_w, i32_w]
      rfl
     refine pure_ (i := 17) (N := some 106) (v := undef) (a' := ?_) #[true, true, true, true, true, true, true, true, true, true, true, true, true, true, true, true, true, true, false, false, false, false, false, false, false, false, false, false, false, false, false, false, false, false] rfl rfl (any_of HT_.out (by kernel_rfl)) (fun _ _ _ h => h) (Or.inr ⟨by rfl, rfl⟩) ?_ ?_
     rotate_left
     ·simp only [Act.put, List.setIfInBounds_toArray, List.set_cons_zero, List.set_cons_succ, i64_w, i32_w]
      rfl
     refine pure_ (i := 18) (N := some 107) (v := undef) (a' := ?_) #[true, true, true, true, true, true, true, true, true, true, true, true, true, true, true, true, true, true, true, false, false, false, false, false, false, false, false, false, false, false, false, false, false, false] rfl rfl (any_of HT_.out (by kernel_rfl)) (fun _ _ _ h => h) (Or.inr ⟨by rfl, rfl⟩) ?_ ?_
     rotate_left
     ·simp only [Act.put, List.setIfInBounds_toArray, List.set_cons_zero, List.set_cons_succ, i64_w, i32_w]
      rfl
     refine pure_ (i := 19) (N := some 108) (v := undef) (a' := ?_) #[true, true, true, true, true, true, true, true, true, true, true, true, true, true, true, true, true, true, true, true, false, false, false, false, false, false, false, false, false, false, false, false, false, false] rfl rfl (any_of HT_.out (by kernel_rfl)) (fun _ _ _ h => h) (Or.inr ⟨by rfl, rfl⟩) ?_ ?_
     rotate_left
     ·simp only [Act.put, List.setIfInBounds_toArray, List.set_cons_zero, List.set_cons_succ, i64_w, i32_w]
      rfl
     refine pure_ (i := 20) (N := some 109) (v := undef) (a' := ?_) #[true, true, true, true, true, true, true, true, true, true, true, true, true, true, true, true, true, true, true, true, true, false, false, false, false, false, false, false, false, false, false, false, false, false] rfl rfl (any_of HT_.out (by kernel_rfl)) (fun _ _ _ h => h) (Or.inr ⟨by rfl, rfl⟩) ?_ ?_
     rotate_left
     ·simp only [Act.put, List.setIfInBounds_toArray, List.set_cons_zero, List.set_cons_succ, i64_w, i32_w]
      rfl
     refine pure_ (i := 21) (N := some 110) (v := undef) (a' := ?_) #[true, true, true, true, true, true, true, true, true, true, true, true, true, true, true, true, true, true, true, true, true, true, false, false, false, false, false, false, false, false, false, false, false, false] rfl rfl (any_of HT_.out (by kernel_rfl)) (fun _ _ _ h => h) (Or.inr ⟨by rfl, rfl⟩) ?_ ?_
     rotate_left
     ·simp only [Act.put, List.setIfInBounds_toArray, List.set_cons_zero, List.set_cons_succ, i64_w, i32_w]
      rfl
     refine pure_ (i := 22) (N := some 111) (v := undef) (a' := ?_) #[true, true, true, true, true, true, true, true, true, true, true, true, true, true, true, true, true, true, true, true, true, true, true, false, false, false, false, false, false, false, false, false, false, false] rfl rfl (any_of HT_.out (by kernel_rfl)) (fun _ _ _ h => h) (Or.inr ⟨by rfl, rfl⟩) ?_ ?_
     rotate_left
     ·simp only [Act.put, List.setIfInBounds_toArray, List.set_cons_zero, List.set_cons_succ, i64_w, i32_w]
      rfl
     refine pure_ (i := 23) (N := some 112) (v := ?_) (a' := ?_) #[true, true, true, true, true, true, true, true, true, true, true, true, true, true, true, true, true, true, true, true, true, true, true, true, false, false, false, false, false, false, false, false, false, false] rfl rfl (any_of HT_.out (by kernel_rfl)) (fun _ _ _ h => h) (Or.inl ⟨by rfl, ?_⟩) ?_ ?_
     rotate_left
     ·intro w'
      go_simp
      with_reducible rfl
     rotate_left
     ·simp only [Act.put, List.setIfInBounds_toArray, List.set_cons_zero, List.set_cons_succ, i64_w, i32_w]
      rfl
     refine pure_ (i := 24) (N := some 113) (v := ?_) (a' := ?_) #[true, true, true, true, true, true, true, true, true, true, true, true, true, true, true, true, true, true, true, true, true, true, true, true, true, false, false, false, false, false, false, false, false, false] rfl rfl (any_of HT_.out (by kernel_rfl)) (fun _ _ _ h => h) (Or.inl ⟨by rfl, ?_⟩) ?_ ?_
     rotate_left
     ·intro w'
      go_simp
      with_reducible rfl
     rotate_left
     ·simp only [Act.put, List.setIfInBounds_toArray, List.set_cons_zero, List.set_cons_succ, i64_w, i32_w]
      rfl
     refine pure_ (i := 25) (N := some 114) (v := undef) (a' := ?_) #[true, true, true, true, true, true, true, true, true, true, true, true, true, true, true, true, true, true, true, true, true, true, true, true, true, true, false, false, false, false, false, false, false, false] rfl rfl (any_of HT_.out (by kernel_rfl)) (fun _ _ _ h => h) (Or.inr ⟨by rfl, rfl⟩) ?_ ?_
     rotate_left
     ·simp only [Act.put, List.setIfInBounds_toArray, List.set_cons_zero, List.set_cons_succ, i64_w, i32_w]
      rfl
     refine pure_ (i := 26) (N := some 115) (v := undef) (a' := ?_) #[true, true, true, true, true, true, true, true, true, true, true, true, true, true, true, true, true, true, true, true, true, true, true, true, true, true, true, false, false, false, false, false, false, false] rfl rfl (any_of HT_.out (by kernel_rfl)) (fun _ _ _ h => h) (Or.inr ⟨by rfl, rfl⟩) ?_ ?_
     rotate_left
     ·simp only [Act.put, List.setIfInBounds_toArray, List.set_cons_zero, List.set_cons_succ, i64_w, i32_w]
      rfl
     refine pure_ (i := 27) (N := some 116) (v := ?_) (a' := ?_) #[true, true, true, true, true, true, true, true, true, true, true, true, true, true, true, true, true, true, true, true, true, true, true, true, true, true, true, true, false, false, false, false, false, false] rfl rfl (any_of HT_.out (by kernel_rfl)) (fun _ _ _ h => h) (Or.inl ⟨by rfl, ?_⟩) ?_ ?_
     rotate_left
     ·intro w'
      go_simp
      with_reducible rfl
     rotate_left
     ·simp only [Act.put, List.setIfInBounds_toArray, List.set_cons_zero, List.set_cons_succ, i64_w, i32_w]
      rfl
     refine pure_ (i := 28) (N := some 117) (v := ?_) (a' := ?_) #[true, true, true, true, true, true, true, true, true, true, true, true, true, true, true, true, true, true, true, true, true, true, true, true, true, true, true, true, true, false, false, false, false, false] rfl rfl (any_of HT_.out (by kernel_rfl)) (fun _ _ _ h => h) (Or.inl ⟨by rfl, ?_⟩) ?_ ?_
     rotate_left
     ·intro w'
      go_simp
      with_reducible rfl
     rotate_left
     ·simp only [Act.put, List.setIfInBounds_toArray, List.set_cons_zero, List.set_cons_succ, i64_w, i32_w]
      rfl
     refine pure_ (i := 29) (N := some 118) (v := undef) (a' := ?_) #[true, true, true, true, true, true, true, true, true, true, true, true, true, true, true, true, true, true, true, true, true, true, true, true, true, true, true, true, true, true, false, false, false, false] rfl rfl (any_of HT_.out (by kernel_rfl)) (fun _ _ _ h => h) (Or.inr ⟨by rfl, rfl⟩) ?_ ?_
     rotate_left
     ·simp only [Act.put, List.setIfInBounds_toArray, List.set_cons_zero, List.set_cons_succ, i64_w, i32_w]
      rfl
     refine pure_ (i := 30) (N := some 119) (v := undef) (a' := ?_) #[true, true, true, true, true, true, true, true, true, true, true, true, true, true, true, true, true, true, true, true, true, true, true, true, true, true, true, true, true, true, true, false, false, false] rfl rfl (any_of HT_.out (by kernel_rfl)) (fun _ _ _ h => h) (Or.inr ⟨by rfl, rfl⟩) ?_ ?_
     rotate_left
     ·simp only [Act.put, List.setIfInBounds_toArray, List.set_cons_zero, List.set_cons_succ, i64_w, i32_w]
      rfl
     refine pure_ (i := 31) (N := some 120) (v := undef) (a' := ?_) #[true, true, true, true, true, true, true, true, true, true, true, true, true, true, true, true, true, true, true, true, true, true, true, true, true, true, true, true, true, true, true, true, false, false] rfl rfl (any_of HT_.out (by kernel_rfl)) (fun _ _ _ h => h) (Or.inr ⟨by rfl, rfl⟩) ?_ ?_
     rotate_left
     ·simp only [Act.put, List.setIfInBounds_toArray, List.set_cons_zero, List.set_cons_succ, i64_w, i32_w]
      rfl
     refine pure_ (i := 32) (N := some 121) (v := ?_) (a' := ?_) #[true, true, true, true, true, true, true, true, true, true, true, true, true, true, true, true, true, true, true, true, true, true, true, true, true, true, true, true, true, true, true, true, true, false] rfl rfl (any_of HT_.out (by kernel_rfl)) (fun _ _ _ h => h) (Or.inl ⟨by rfl, ?_⟩) ?_ ?_
     rotate_left
     ·intro w'
      go_simp
      with_reducible rfl
     rotate_left
     ·simp only [Act.put, List.setIfInBounds_toArray, List.set_cons_zero, List.set_cons_succ, i64_w, i32_w]
      rfl
     refine pure_ (i := 33) (N := some 6) (v := ?_) (a' := ?_) #[true, true, true, true, true, true, true, true, true, true, true, true, true, true, true, true, true, true, true, true, true, true, true, true, true, true, true, true, true, true, true, true, true, true] rfl rfl (any_of HT_.out (by kernel_rfl)) (fun _ _ _ h => h) (Or.inl ⟨by rfl, ?_⟩) ?_ ?_
     rotate_left
     ·intro w'
      go_simp
      with_reducible rfl
     rotate_left
     ·simp only [Act.put, List.setIfInBounds_toArray, List.set_cons_zero, List.set_cons_succ, i64_w, i32_w]
      rfl
     refine done_ (done_of HT_.out (by kernel_rfl)) ?_
     try go_wp2
     go_ret
     exact ⟨rfl_, Bu HB⟩

/-- THE ONE PURE STATEMENT of lanyardlaw06_NatRings: yours. -/
def lanyardlaw06_NatRings.Pure : Prop := ∀ (l0 : List Int) (l1 : List Int) (l2 : List Int), l0.length ≤ maxLen → l0.length * 1 ≤ 140737488351232 → (∀ x ∈ l0, (Lit.int .u8 x).wf = true) → l1.length ≤ maxLen → l1.length * 1 ≤ 140737488351232 → (∀ x ∈ l1, (Lit.int .u8 x).wf = true) → l2.length ≤ maxLen → l2.length * 1 ≤ 140737488351232 → (∀ x ∈ l2, (Lit.int .u8 x).wf = true) → ∃ k, lanyardlaw06_NatRings.f k l0 l1 l2 = some true
theorem lanyardlaw06_NatRings.walk (P : lanyardlaw06_NatRings.Pure) (a0 : Option Addr) (len0 cap0 : Nat) (z0 : List Int) (a1 : Option Addr) (len1 cap1 : Nat) (z1 : List Int) (a2 : Option Addr) (len2 cap2 : Nat) (z2 : List Int) (w : World) (w0 : (a0 = none ∧ len0 = 0 ∧ cap0 = 0 ∧ z0 = []) ∨ ∃ x, a0 = some x ∧ len0 ≤ cap0 ∧ cap0 ≤ maxLen ∧ z0.length = cap0 ∧ (∀ i, i < z0.length → w.cell? (x.add i) = some (.int .u8 (z0.getD i 0))) ∧ ∀ n ∈ z0, (Lit.int .u8 n).wf = true) (y0 : len0 * 1 ≤ 140737488351232) (w1 : (a1 = none ∧ len1 = 0 ∧ cap1 = 0 ∧ z1 = []) ∨ ∃ x, a1 = some x ∧ len1 ≤ cap1 ∧ cap1 ≤ maxLen ∧ z1.length = cap1 ∧ (∀ i, i < z1.length → w.cell? (x.add i) = some (.int .u8 (z1.getD i 0))) ∧ ∀ n ∈ z1, (Lit.int .u8 n).wf = true) (y1 : len1 * 1 ≤ 140737488351232) (w2 : (a2 = none ∧ len2 = 0 ∧ cap2 = 0 ∧ z2 = []) ∨ ∃ x, a2 = some x ∧ len2 ≤ cap2 ∧ cap2 ≤ maxLen ∧ z2.length = cap2 ∧ (∀ i, i < z2.length → w.cell? (x.add i) = some (.int .u8 (z2.getD i 0))) ∧ ∀ n ∈ z2, (Lit.int .u8 n).wf = true) (y2 : len2 * 1 ≤ 140737488351232) :
  Calls Tryd.prog 9 #[.slice a0 len0 cap0, .slice a1 len1 cap1, .slice a2 len2 cap2] w fun e w' => e = .returned (.bool true) ∧ Below w.heap.size w w' := by
 obtain ⟨l0, rfl, hr0, hm0, hw0, hc0⟩ := ReadsInt.ofRowC w0
 obtain ⟨l1, rfl, hr1, hm1, hw1, hc1⟩ := ReadsInt.ofRowC w1
 obtain ⟨l2, rfl, hr2, hm2, hw2, hc2⟩ := ReadsInt.ofRowC w2
 obtain ⟨k, h⟩ := P l0 l1 l2 hm0 y0 hw0 hm1 y1 hw1 hm2 y2 hw2
 refine (lanyardlaw06_NatRings.calls k _ _ l0 _ _ l1 _ _ l2 true w (Kd.C_of_reads (d := (0 : Int)) (h1 := fun _ => rfl) hr0) hc0 (Kd.C_of_reads (d := (0 : Int)) (h1 := fun _ => rfl) hr1) hc1 (Kd.C_of_reads (d := (0 : Int)) (h1 := fun _ => rfl) hr2) hc2 h).mono ?_
 rintro e w' ⟨rfl, hd⟩
 exact ⟨rfl, hd⟩

end Go.Proofs.YtcofpbndaljppaaDoor.Hp
