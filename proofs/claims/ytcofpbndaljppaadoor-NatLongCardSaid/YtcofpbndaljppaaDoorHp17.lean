/- Go functions of this seat as Lean functions, and their contracts: what the Go code computes, for every input. (By hp.py, a program of this repo, over the kit's print.py.) -/
import Derived.Test.YtcofpbndaljppaaDoorHp0
import Derived.Test.YtcofpbndaljppaaDoorHp4
import Derived.Test.YtcofpbndaljppaaDoorHp5
import Derived.Test.YtcofpbndaljppaaDoorHp6
import Derived.Test.YtcofpbndaljppaaDoorHp7
import Derived.Test.YtcofpbndaljppaaDoorHp9
import Derived.Test.YtcofpbndaljppaaDoorHp10
namespace Go.Proofs.YtcofpbndaljppaaDoor.Hp
open Go.RowKit Go.Proofs.YtcofpbndaljppaaDoorW.PrintWords Go.Proofs.YtcofpbndaljppaaDoorW.PrintLast Go.Proofs.YtcofpbndaljppaaDoorW.PrintMore
attribute [local go_sem] max2_int min2_int max_two min_two max_three min_three max_four min_four   -- for this text's walks alone
set_option linter.unusedVariables false
set_option linter.unusedSimpArgs false

/-! ### lanyardlaw06_NatLong: function 10 -/
def lanyardlaw06_NatLong.j0 : Nat → List Int → Int → Bool → Option (Bool)
 | 0, _, _, _ => none
 | k + 1, x0, x1, x31 => if x31 = true then ((lanyardlaw06_awake.f k).bind fun t847 => (some t847)) else (if 0 ≤ (wrap64 (1024 + (wrap64 (1 + (Int.tmod (wrap64 ((Int.tmod x1 50) + 50)) 50))))) then (if (wrap64 (1024 + (wrap64 (1 + (Int.tmod (wrap64 ((Int.tmod x1 50) + 50)) 50)))) : Int).toNat ≤ 281474976710656 then ((some (List.replicate (wrap64 (1024 + (wrap64 (1 + (Int.tmod (wrap64 ((Int.tmod x1 50) + 50)) 50)))) : Int).toNat 0 : List Int)).bind fun y848 => ((nat_Add.f k y848 x0).bind fun bt851 => ((nat_Sub.f k x0 y848).bind fun bt855 => ((nat_Mul.f k y848 y848).bind fun bt859 => ((nat_Div.f k y848 ([] : List Int)).bind fun bt863 => ((nat_Exp.f k x0 y848 ([] : List Int)).bind fun bt870 => ((nat_Gcd.f k x0 y848).bind fun bt874 => ((nat_Inverse.f k y848 ([] : List Int)).bind fun bt878 => (if 1024 ≤ (y848.length : Int) then ((nat_Add.f k (y848.take 1024) x0).bind fun bt886 => (if bt851.2 = 12 then (if bt855.2 = 12 then (if bt859.2 = 12 then (if bt863.2.2 = 12 then (if bt870.2 = 12 then (if bt874.2 = 12 then (if bt878.2 = 12 then (if (wrap64 ((wrap64 ((wrap64 ((wrap64 ((wrap64 ((wrap64 ((wrap64 ((bt851.1.length : Int) + (bt855.1.length : Int))) + (bt859.1.length : Int))) + (bt863.1.length : Int))) + (bt863.2.1.length : Int))) + (bt870.1.length : Int))) + (bt874.1.length : Int))) + (bt878.1.length : Int))) = 0 then (if bt886.2 = 0 then ((nat_Trim.f x0).bind fun t890 => (if (strOfNums bt886.1).toList = (strOfNums t890).toList then ((nat_Trim.f y848).bind fun t893 => (if (t893.length : Int) = 0 then ((nat_Cmp.f k y848 ([] : List Int)).bind fun t896 => (some (t896 == 0))) else (some false))) else (some false))) else (some false)) else (some false)) else (some false)) else (some false)) else (some false)) else (some false)) else (some false)) else (some false)) else (some false))) else (none)))))))))) else (none)) else (none))
def lanyardlaw06_NatLong.f (k : Nat) (l0 : List Int) (a1 : Int) : Option (Bool) := (lanyardlaw06_awake.f k).bind fun t846 => (if t846 = true then (lanyardlaw06_NatLong.j0 k l0 a1 (decide ((l0.length : Int) > 50))) else (lanyardlaw06_NatLong.j0 k l0 a1 true))
theorem lanyardlaw06_NatLong.mono_l : ∀ k, (∀ y0 y1 y2, LeO (lanyardlaw06_NatLong.j0 k y0 y1 y2) (lanyardlaw06_NatLong.j0 (k + 1) y0 y1 y2))
 | 0 => fun _ _ _ r h => by simp [lanyardlaw06_NatLong.j0] at h
 | k + 1 => by
  have ih0 := lanyardlaw06_NatLong.mono_l k
  ·intro y0 y1 y2
   unfold lanyardlaw06_NatLong.j0
   repeat' first
   | (with_reducible exact ih0 _ _ _)
   | (with_reducible exact lanyardlaw06_awake.mono _)
   | (with_reducible exact nat_Add.mono _ _ _)
   | (with_reducible exact nat_Cmp.mono _ _ _)
   | (with_reducible exact nat_Div.mono _ _ _)
   | (with_reducible exact nat_Exp.mono _ _ _ _)
   | (with_reducible exact nat_Gcd.mono _ _ _)
   | (with_reducible exact nat_Inverse.mono _ _ _)
   | (with_reducible exact nat_Mul.mono _ _ _)
   | (with_reducible exact nat_Sub.mono _ _ _)
   | (with_reducible exact LeO.refl _)
   | (with_reducible exact LeO.none _)
   | (with_reducible refine LeO.ite ?_ ?_)
   | (with_reducible refine LeO.bind ?_ (fun _ => ?_))
   | exact ih0 _ _ _
   | exact lanyardlaw06_awake.mono _
   | exact nat_Add.mono _ _ _
   | exact nat_Cmp.mono _ _ _
   | exact nat_Div.mono _ _ _
   | exact nat_Exp.mono _ _ _ _
   | exact nat_Gcd.mono _ _ _
   | exact nat_Inverse.mono _ _ _
   | exact nat_Mul.mono _ _ _
   | exact nat_Sub.mono _ _ _
   | exact LeO.none _
   | refine LeO.ite ?_ ?_
   | refine LeO.bind ?_ (fun _ => ?_)
theorem lanyardlaw06_NatLong.mono : ∀ a0 a1 k, LeO (lanyardlaw06_NatLong.f k a0 a1) (lanyardlaw06_NatLong.f (k + 1) a0 a1) := by
 intro a0 a1 k
 have ih0 := lanyardlaw06_NatLong.mono_l k
 unfold lanyardlaw06_NatLong.f
 repeat' first
   | (with_reducible exact ih0 _ _ _)
   | (with_reducible exact lanyardlaw06_awake.mono _)
   | (with_reducible exact nat_Add.mono _ _ _)
   | (with_reducible exact nat_Cmp.mono _ _ _)
   | (with_reducible exact nat_Div.mono _ _ _)
   | (with_reducible exact nat_Exp.mono _ _ _ _)
   | (with_reducible exact nat_Gcd.mono _ _ _)
   | (with_reducible exact nat_Inverse.mono _ _ _)
   | (with_reducible exact nat_Mul.mono _ _ _)
   | (with_reducible exact nat_Sub.mono _ _ _)
   | (with_reducible exact LeO.refl _)
   | (with_reducible exact LeO.none _)
   | (with_reducible refine LeO.ite ?_ ?_)
   | (with_reducible refine LeO.bind ?_ (fun _ => ?_))
   | exact ih0 _ _ _
   | exact lanyardlaw06_awake.mono _
   | exact nat_Add.mono _ _ _
   | exact nat_Cmp.mono _ _ _
   | exact nat_Div.mono _ _ _
   | exact nat_Exp.mono _ _ _ _
   | exact nat_Gcd.mono _ _ _
   | exact nat_Inverse.mono _ _ _
   | exact nat_Mul.mono _ _ _
   | exact nat_Sub.mono _ _ _
   | exact LeO.none _
   | refine LeO.ite ?_ ?_
   | refine LeO.bind ?_ (fun _ => ?_)
def lanyardlaw06_NatLong.T14 : Bool × List (List Nat × List Nat) := (true, [([], []), ([0], [0]), ([1], [1]), ([2], [2]), ([3, 2], [2, 3]), ([2, 4], [2, 4]), ([5, 2], [5]), ([6], [6]), ([7, 6], [6, 7]), ([6, 8], [6, 8]), ([9, 6], [9]), ([10], [10]), ([11, 10], [10, 11]), ([10, 12], [10, 12]), ([13, 10], [13]), ([14], [14]), ([15, 14], [14, 15]), ([14, 16], [14, 16]), ([17, 14], [17]), ([18], [18]), ([19, 18], [18, 19]), ([18, 20], [18, 20]), ([21, 18], [21]), ([22], [22]), ([23, 22], [22, 23]), ([22, 24], [22, 24]), ([25, 22], [25]), ([26], [26]), ([27, 26], [26, 27]), ([26, 28], [26, 28]), ([29, 26], [29]), ([30], [30]), ([31, 30], [30, 31]), ([30, 32], [30, 32]), ([33, 30], [33]), ([34], [34]), ([35, 34], [34, 35]), ([34], [34]), ([37, 34, 34], [34, 37]), ([38, 34], [34, 38]), ([36, 39, 34], [34, 36, 39]), ([34, 40], [34, 40]), ([41, 38], [41]), ([42], [42]), ([43, 42, 42], [42, 43]), ([44, 42], [42, 44]), ([45, 42], [42, 45]), ([42, 46], [42, 46]), ([47, 44], [47]), ([48], [48]), ([49, 48, 48], [48, 49]), ([50, 48], [48, 50]), ([48, 51], [48, 51]), ([52, 50, 0, 1, 2, 3, 4, 5, 6, 7, 8, 9, 10, 11, 12, 13, 14, 15, 16, 17, 18, 19, 20, 21, 22, 23, 24, 25, 26, 27, 28, 29, 30, 31, 32, 33, 34, 35, 36, 37, 38, 39, 40, 41, 42, 43, 44, 45, 46, 47, 48, 49, 50, 51, 52], [52])])
def lanyardlaw06_NatLong.B14 : List Nat := [0, 1, 3, 7, 15, 31, 63, 127, 255, 511, 1023, 2047, 4095, 8191, 16383, 32767, 65535, 131071, 262143, 524287, 1048575, 2097151, 4194303, 8388607, 16777215, 33554431, 67108863, 134217727, 268435455, 536870911, 1073741823, 2147483647, 4294967295, 8589934591, 17179869183, 34359738367, 68719476735, 34359738367, 171798691839, 446676598783, 1099511627775, 2199023255551, 4398046511103, 8796093022207, 17592186044415, 35184372088831, 70368744177663, 140737488355327, 281474976710655, 562949953421311, 1125899906842623, 2251799813685247, 4503599627370495, 9007199254740991]
theorem lanyardlaw06_NatLong.tab14 : rtab .any (opsOf Tryd.f10 14) = lanyardlaw06_NatLong.T14 := by kernel_rfl
theorem lanyardlaw06_NatLong.bits14 : waitsOk lanyardlaw06_NatLong.T14.2 lanyardlaw06_NatLong.B14 = true := by kernel_rfl
set_option maxHeartbeats 8000000 in
set_option maxRecDepth 100000 in
theorem lanyardlaw06_NatLong.calls (k : Nat) (A0 : Option Addr) (c0 : Nat) (l0 : List Int) (a1 : Int) (r : Bool) (w : World) (hr0 : Kd.C (Kd.int .u8) w A0 l0.length l0) (hc0 : l0.length ≤ c0) (h : lanyardlaw06_NatLong.f k l0 a1 = some r) (hr_ : r = true := by rfl) :
  Calls Tryd.prog 10 #[.slice A0 l0.length c0, .int .i64 a1] w fun e w' => e = .returned (.bool r) ∧ Below w.heap.size w w' := by
 have HR_ := Aside0.mk hr_
 clear hr_
 have HR0 := Aside0.mk hr0
 have HC0 := Aside0.mk hc0
 clear hr0 hc0
 have HB := Aside0.mk (Below.refl w.heap.size w)
 have H : ((lanyardlaw06_awake.f k).bind fun t846 => (if t846 = true then (lanyardlaw06_NatLong.j0 k l0 a1 (decide ((l0.length : Int) > 50))) else (lanyardlaw06_NatLong.j0 k l0 a1 true))) = some r := h
 clear h
 have HC3 := Aside0.mk H
 clear H
 go_enter Tryd.func10, Tryd.ntmps10
 go_upto_region 1 with (fail)
 go_cut [31] (fun v31 wc => ∃ (kq : Nat) (x31_2 : Bool), v31 = .bool x31_2 ∧ Aside0 (lanyardlaw06_NatLong.j0 kq l0 a1 x31_2 = some r) ∧ Aside0 (kq ≤ k) ∧ Aside0 (Below w.heap.size w wc))
 case first =>
  have H := HC3.out
  clear HC3
  replace H := Option.bind_eq_some_iff.mp H
  obtain ⟨t846, A40, H⟩ := H
  replace H : (if t846 = true then (lanyardlaw06_NatLong.j0 k l0 a1 (decide ((l0.length : Int) > 50))) else (lanyardlaw06_NatLong.j0 k l0 a1 true)) = some r := H
  have A4 := Aside0.mk A40
  clear A40
  by_cases c5 : t846 = true
  ·subst c5
   have H1 : (lanyardlaw06_NatLong.j0 k l0 a1 (decide ((l0.length : Int) > 50))) = some r := by rw [if_pos rfl] at H; exact H
   clear H
   have H := H1
   clear H1
   have H' := Aside0.mk H
   clear H
   go_wp2_with (first | ((with_reducible refine gate_callee (f := 11) rfl ?_); refine goesA (some 25) Tryd.func11 #[] rfl ?_; (with_reducible refine (lanyardlaw06_awake.calls k  true _ A4.out).mono ?_); rintro e w6 ⟨rfl, hb⟩; refine ⟨_, rfl, ?_⟩; have n0_ := Bs HB hb; clear HB; revert n0_; intro HB; (try clear hb); (try clear hb2); (try clear hk); (try clear hi)))
   go_meet
   case rel => exact ⟨_, (decide ((l0.length : Int) > 50)), (by first | rfl | (simp; done) | (simp [*]; done)), H', ⟨by first | omega | exact Nat.le_refl _⟩, ⟨Bu HB⟩⟩
  ·replace c5 := Bool.eq_false_iff.mpr c5
   subst c5
   have H1 : (lanyardlaw06_NatLong.j0 k l0 a1 true) = some r := by rw [if_neg (show ¬ (false = true) by decide)] at H; exact H
   clear H
   have H := H1
   clear H1
   have H' := Aside0.mk H
   clear H
   go_wp2_with (first | ((with_reducible refine gate_callee (f := 11) rfl ?_); refine goesA (some 25) Tryd.func11 #[] rfl ?_; (with_reducible refine (lanyardlaw06_awake.calls k  false _ A4.out).mono ?_); rintro e w7 ⟨rfl, hb⟩; refine ⟨_, rfl, ?_⟩; have n0_ := Bs HB hb; clear HB; revert n0_; intro HB; (try clear hb); (try clear hb2); (try clear hk); (try clear hi)))
   go_meet
   case rel => exact ⟨_, (true), (by first | rfl | (simp; done) | (simp [*]; done)), H', ⟨by first | omega | exact Nat.le_refl _⟩, ⟨Bu HB⟩⟩
 case rest =>
  clear HC3
  try clear c1
  try clear p2
  try clear c5
  obtain ⟨kq, x31_2, rfl, HA, HJ2, HB⟩ := hcut
  cases kq with
  | zero => exact absurd HA.out (by simp [lanyardlaw06_NatLong.j0])
  | succ kj2 =>
   have H := HA.out
   clear HA
   simp only [lanyardlaw06_NatLong.j0] at H
   by_cases c8 : x31_2 = true
   ·subst c8
    have H1 : ((lanyardlaw06_awake.f kj2).bind fun t847 => (some t847)) = some r := by rw [if_pos rfl] at H; exact H
    clear H
    have H := H1
    clear H1
    replace H := Option.bind_eq_some_iff.mp H
    obtain ⟨t847, A90, H⟩ := H
    replace H : (some t847) = some r := H
    have A9 := Aside0.mk A90
    clear A90
    obtain rfl := Option.some.inj H
    go_wp2_with (first | ((with_reducible refine gate_callee (f := 11) rfl ?_); refine goesA (some 32) Tryd.func11 #[] rfl ?_; (with_reducible refine (lanyardlaw06_awake.calls kj2  t847 _ A9.out).mono ?_); rintro e w10 ⟨rfl, hb⟩; refine ⟨_, rfl, ?_⟩; have n0_ := Bs HB hb; clear HB; revert n0_; intro HB; (try clear hb); (try clear hb2); (try clear hk); (try clear hi)))
    go_ret
    exact ⟨rfl_, Bu HB⟩
   ·replace c8 := Bool.eq_false_iff.mpr c8
    subst c8
    have H1 : (if 0 ≤ (wrap64 (1024 + (wrap64 (1 + (Int.tmod (wrap64 ((Int.tmod a1 50) + 50)) 50))))) then (if (wrap64 (1024 + (wrap64 (1 + (Int.tmod (wrap64 ((Int.tmod a1 50) + 50)) 50)))) : Int).toNat ≤ 281474976710656 then ((some (List.replicate (wrap64 (1024 + (wrap64 (1 + (Int.tmod (wrap64 ((Int.tmod a1 50) + 50)) 50)))) : Int).toNat 0 : List Int)).bind fun y848 => ((nat_Add.f kj2 y848 l0).bind fun bt851 => ((nat_Sub.f kj2 l0 y848).bind fun bt855 => ((nat_Mul.f kj2 y848 y848).bind fun bt859 => ((nat_Div.f kj2 y848 ([] : List Int)).bind fun bt863 => ((nat_Exp.f kj2 l0 y848 ([] : List Int)).bind fun bt870 => ((nat_Gcd.f kj2 l0 y848).bind fun bt874 => ((nat_Inverse.f kj2 y848 ([] : List Int)).bind fun bt878 => (if 1024 ≤ (y848.length : Int) then ((nat_Add.f kj2 (y848.take 1024) l0).bind fun bt886 => (if bt851.2 = 12 then (if bt855.2 = 12 then (if bt859.2 = 12 then (if bt863.2.2 = 12 then (if bt870.2 = 12 then (if bt874.2 = 12 then (if bt878.2 = 12 then (if (wrap64 ((wrap64 ((wrap64 ((wrap64 ((wrap64 ((wrap64 ((wrap64 ((bt851.1.length : Int) + (bt855.1.length : Int))) + (bt859.1.length : Int))) + (bt863.1.length : Int))) + (bt863.2.1.length : Int))) + (bt870.1.length : Int))) + (bt874.1.length : Int))) + (bt878.1.length : Int))) = 0 then (if bt886.2 = 0 then ((nat_Trim.f l0).bind fun t890 => (if (strOfNums bt886.1).toList = (strOfNums t890).toList then ((nat_Trim.f y848).bind fun t893 => (if (t893.length : Int) = 0 then ((nat_Cmp.f kj2 y848 ([] : List Int)).bind fun t896 => (some (t896 == 0))) else (some false))) else (some false))) else (some false)) else (some false)) else (some false)) else (some false)) else (some false)) else (some false)) else (some false)) else (some false)) else (some false))) else (none)))))))))) else (none)) else (none)) = some r := by rw [if_neg (show ¬ (false = true) by decide)] at H; exact H
    clear H
    have H := H1
    clear H1
    obtain ⟨ji11, hji11⟩ : ∃ j_ : Int, (wrap64 (1024 + (wrap64 (1 + (Int.tmod (wrap64 ((Int.tmod a1 50) + 50)) 50))))) = j_ := ⟨_, rfl⟩
    replace H : (if 0 ≤ (ji11) then (if (ji11 : Int).toNat ≤ 281474976710656 then ((some (List.replicate (ji11 : Int).toNat 0 : List Int)).bind fun y848 => ((nat_Add.f kj2 y848 l0).bind fun bt851 => ((nat_Sub.f kj2 l0 y848).bind fun bt855 => ((nat_Mul.f kj2 y848 y848).bind fun bt859 => ((nat_Div.f kj2 y848 ([] : List Int)).bind fun bt863 => ((nat_Exp.f kj2 l0 y848 ([] : List Int)).bind fun bt870 => ((nat_Gcd.f kj2 l0 y848).bind fun bt874 => ((nat_Inverse.f kj2 y848 ([] : List Int)).bind fun bt878 => (if 1024 ≤ (y848.length : Int) then ((nat_Add.f kj2 (y848.take 1024) l0).bind fun bt886 => (if bt851.2 = 12 then (if bt855.2 = 12 then (if bt859.2 = 12 then (if bt863.2.2 = 12 then (if bt870.2 = 12 then (if bt874.2 = 12 then (if bt878.2 = 12 then (if (wrap64 ((wrap64 ((wrap64 ((wrap64 ((wrap64 ((wrap64 ((wrap64 ((bt851.1.length : Int) + (bt855.1.length : Int))) + (bt859.1.length : Int))) + (bt863.1.length : Int))) + (bt863.2.1.length : Int))) + (bt870.1.length : Int))) + (bt874.1.length : Int))) + (bt878.1.length : Int))) = 0 then (if bt886.2 = 0 then ((nat_Trim.f l0).bind fun t890 => (if (strOfNums bt886.1).toList = (strOfNums t890).toList then ((nat_Trim.f y848).bind fun t893 => (if (t893.length : Int) = 0 then ((nat_Cmp.f kj2 y848 ([] : List Int)).bind fun t896 => (some (t896 == 0))) else (some false))) else (some false))) else (some false)) else (some false)) else (some false)) else (some false)) else (some false)) else (some false)) else (some false)) else (some false)) else (some false))) else (none)))))))))) else (none)) else (none)) = some r := by first | (rw [hji11] at H; exact H) | (simp only [hji11] at H ⊢; exact H)
    have hji11w : (IntKind.i64.wrap (1024 + (wrap64 (1 + (Int.tmod (wrap64 ((Int.tmod a1 50) + 50)) 50))))) = ji11 := (i64_w _).trans hji11
    by_cases c12 : 0 ≤ (ji11)
    ·rw [if_pos c12] at H
     have c12b0 := eq_true c12
     have c12b1 : decide (0 ≤ (ji11)) = true := decide_eq_true c12
     clear c12
     by_cases c13 : (ji11 : Int).toNat ≤ 281474976710656
     ·rw [if_pos c13] at H
      have c13b0 := eq_true c13
      have c13b1 : decide ((ji11 : Int).toNat ≤ 281474976710656) = true := decide_eq_true c13
      clear c13
      obtain ⟨y848, hy848⟩ : ∃ y_ : List Int, y_ = (List.replicate (ji11 : Int).toNat 0) := ⟨_, rfl⟩
      replace H : ((nat_Add.f kj2 y848 l0).bind fun bt851 => ((nat_Sub.f kj2 l0 y848).bind fun bt855 => ((nat_Mul.f kj2 y848 y848).bind fun bt859 => ((nat_Div.f kj2 y848 ([] : List Int)).bind fun bt863 => ((nat_Exp.f kj2 l0 y848 ([] : List Int)).bind fun bt870 => ((nat_Gcd.f kj2 l0 y848).bind fun bt874 => ((nat_Inverse.f kj2 y848 ([] : List Int)).bind fun bt878 => (if 1024 ≤ (y848.length : Int) then ((nat_Add.f kj2 (y848.take 1024) l0).bind fun bt886 => (if bt851.2 = 12 then (if bt855.2 = 12 then (if bt859.2 = 12 then (if bt863.2.2 = 12 then (if bt870.2 = 12 then (if bt874.2 = 12 then (if bt878.2 = 12 then (if (wrap64 ((wrap64 ((wrap64 ((wrap64 ((wrap64 ((wrap64 ((wrap64 ((bt851.1.length : Int) + (bt855.1.length : Int))) + (bt859.1.length : Int))) + (bt863.1.length : Int))) + (bt863.2.1.length : Int))) + (bt870.1.length : Int))) + (bt874.1.length : Int))) + (bt878.1.length : Int))) = 0 then (if bt886.2 = 0 then ((nat_Trim.f l0).bind fun t890 => (if (strOfNums bt886.1).toList = (strOfNums t890).toList then ((nat_Trim.f y848).bind fun t893 => (if (t893.length : Int) = 0 then ((nat_Cmp.f kj2 y848 ([] : List Int)).bind fun t896 => (some (t896 == 0))) else (some false))) else (some false))) else (some false)) else (some false)) else (some false)) else (some false)) else (some false)) else (some false)) else (some false)) else (some false)) else (some false))) else (none))))))))) = some r := by first | (rw [hy848]; with_reducible exact H) | (have H2_ := (Option.bind_some _ _).symm.trans H; rw [hy848]; with_reducible exact H2_) | (have H2_ := (Option.bind_some _ _).symm.trans H; with_reducible exact H2_) | with_reducible exact H | (rw [hy848]; exact H) | exact H
      have Ny848 := Aside0.mk hy848
      clear hy848
      replace H := Option.bind_eq_some_iff.mp H
      obtain ⟨⟨t851, t852⟩, A140, H⟩ := H
      replace H : ((nat_Sub.f kj2 l0 y848).bind fun bt855 => ((nat_Mul.f kj2 y848 y848).bind fun bt859 => ((nat_Div.f kj2 y848 ([] : List Int)).bind fun bt863 => ((nat_Exp.f kj2 l0 y848 ([] : List Int)).bind fun bt870 => ((nat_Gcd.f kj2 l0 y848).bind fun bt874 => ((nat_Inverse.f kj2 y848 ([] : List Int)).bind fun bt878 => (if 1024 ≤ (y848.length : Int) then ((nat_Add.f kj2 (y848.take 1024) l0).bind fun bt886 => (if t852 = 12 then (if bt855.2 = 12 then (if bt859.2 = 12 then (if bt863.2.2 = 12 then (if bt870.2 = 12 then (if bt874.2 = 12 then (if bt878.2 = 12 then (if (wrap64 ((wrap64 ((wrap64 ((wrap64 ((wrap64 ((wrap64 ((wrap64 ((t851.length : Int) + (bt855.1.length : Int))) + (bt859.1.length : Int))) + (bt863.1.length : Int))) + (bt863.2.1.length : Int))) + (bt870.1.length : Int))) + (bt874.1.length : Int))) + (bt878.1.length : Int))) = 0 then (if bt886.2 = 0 then ((nat_Trim.f l0).bind fun t890 => (if (strOfNums bt886.1).toList = (strOfNums t890).toList then ((nat_Trim.f y848).bind fun t893 => (if (t893.length : Int) = 0 then ((nat_Cmp.f kj2 y848 ([] : List Int)).bind fun t896 => (some (t896 == 0))) else (some false))) else (some false))) else (some false)) else (some false)) else (some false)) else (some false)) else (some false)) else (some false)) else (some false)) else (some false)) else (some false))) else (none)))))))) = some r := H
      have A14 := Aside0.mk A140
      clear A140
      replace H := Option.bind_eq_some_iff.mp H
      obtain ⟨⟨t855, t856⟩, A150, H⟩ := H
      replace H : ((nat_Mul.f kj2 y848 y848).bind fun bt859 => ((nat_Div.f kj2 y848 ([] : List Int)).bind fun bt863 => ((nat_Exp.f kj2 l0 y848 ([] : List Int)).bind fun bt870 => ((nat_Gcd.f kj2 l0 y848).bind fun bt874 => ((nat_Inverse.f kj2 y848 ([] : List Int)).bind fun bt878 => (if 1024 ≤ (y848.length : Int) then ((nat_Add.f kj2 (y848.take 1024) l0).bind fun bt886 => (if t852 = 12 then (if t856 = 12 then (if bt859.2 = 12 then (if bt863.2.2 = 12 then (if bt870.2 = 12 then (if bt874.2 = 12 then (if bt878.2 = 12 then (if (wrap64 ((wrap64 ((wrap64 ((wrap64 ((wrap64 ((wrap64 ((wrap64 ((t851.length : Int) + (t855.length : Int))) + (bt859.1.length : Int))) + (bt863.1.length : Int))) + (bt863.2.1.length : Int))) + (bt870.1.length : Int))) + (bt874.1.length : Int))) + (bt878.1.length : Int))) = 0 then (if bt886.2 = 0 then ((nat_Trim.f l0).bind fun t890 => (if (strOfNums bt886.1).toList = (strOfNums t890).toList then ((nat_Trim.f y848).bind fun t893 => (if (t893.length : Int) = 0 then ((nat_Cmp.f kj2 y848 ([] : List Int)).bind fun t896 => (some (t896 == 0))) else (some false))) else (some false))) else (some false)) else (some false)) else (some false)) else (some false)) else (some false)) else (some false)) else (some false)) else (some false)) else (some false))) else (none))))))) = some r := H
      have A15 := Aside0.mk A150
      clear A150
      replace H := Option.bind_eq_some_iff.mp H
      obtain ⟨⟨t859, t860⟩, A160, H⟩ := H
      replace H : ((nat_Div.f kj2 y848 ([] : List Int)).bind fun bt863 => ((nat_Exp.f kj2 l0 y848 ([] : List Int)).bind fun bt870 => ((nat_Gcd.f kj2 l0 y848).bind fun bt874 => ((nat_Inverse.f kj2 y848 ([] : List Int)).bind fun bt878 => (if 1024 ≤ (y848.length : Int) then ((nat_Add.f kj2 (y848.take 1024) l0).bind fun bt886 => (if t852 = 12 then (if t856 = 12 then (if t860 = 12 then (if bt863.2.2 = 12 then (if bt870.2 = 12 then (if bt874.2 = 12 then (if bt878.2 = 12 then (if (wrap64 ((wrap64 ((wrap64 ((wrap64 ((wrap64 ((wrap64 ((wrap64 ((t851.length : Int) + (t855.length : Int))) + (t859.length : Int))) + (bt863.1.length : Int))) + (bt863.2.1.length : Int))) + (bt870.1.length : Int))) + (bt874.1.length : Int))) + (bt878.1.length : Int))) = 0 then (if bt886.2 = 0 then ((nat_Trim.f l0).bind fun t890 => (if (strOfNums bt886.1).toList = (strOfNums t890).toList then ((nat_Trim.f y848).bind fun t893 => (if (t893.length : Int) = 0 then ((nat_Cmp.f kj2 y848 ([] : List Int)).bind fun t896 => (some (t896 == 0))) else (some false))) else (some false))) else (some false)) else (some false)) else (some false)) else (some false)) else (some false)) else (some false)) else (some false)) else (some false)) else (some false))) else (none)))))) = some r := H
      have A16 := Aside0.mk A160
      clear A160
      replace H := Option.bind_eq_some_iff.mp H
      obtain ⟨⟨t863, t866, t869⟩, A170, H⟩ := H
      replace H : ((nat_Exp.f kj2 l0 y848 ([] : List Int)).bind fun bt870 => ((nat_Gcd.f kj2 l0 y848).bind fun bt874 => ((nat_Inverse.f kj2 y848 ([] : List Int)).bind fun bt878 => (if 1024 ≤ (y848.length : Int) then ((nat_Add.f kj2 (y848.take 1024) l0).bind fun bt886 => (if t852 = 12 then (if t856 = 12 then (if t860 = 12 then (if t869 = 12 then (if bt870.2 = 12 then (if bt874.2 = 12 then (if bt878.2 = 12 then (if (wrap64 ((wrap64 ((wrap64 ((wrap64 ((wrap64 ((wrap64 ((wrap64 ((t851.length : Int) + (t855.length : Int))) + (t859.length : Int))) + (t863.length : Int))) + (t866.length : Int))) + (bt870.1.length : Int))) + (bt874.1.length : Int))) + (bt878.1.length : Int))) = 0 then (if bt886.2 = 0 then ((nat_Trim.f l0).bind fun t890 => (if (strOfNums bt886.1).toList = (strOfNums t890).toList then ((nat_Trim.f y848).bind fun t893 => (if (t893.length : Int) = 0 then ((nat_Cmp.f kj2 y848 ([] : List Int)).bind fun t896 => (some (t896 == 0))) else (some false))) else (some false))) else (some false)) else (some false)) else (some false)) else (some false)) else (some false)) else (some false)) else (some false)) else (some false)) else (some false))) else (none))))) = some r := H
      have A17 := Aside0.mk A170
      clear A170
      replace H := Option.bind_eq_some_iff.mp H
      obtain ⟨⟨t870, t871⟩, A180, H⟩ := H
      replace H : ((nat_Gcd.f kj2 l0 y848).bind fun bt874 => ((nat_Inverse.f kj2 y848 ([] : List Int)).bind fun bt878 => (if 1024 ≤ (y848.length : Int) then ((nat_Add.f kj2 (y848.take 1024) l0).bind fun bt886 => (if t852 = 12 then (if t856 = 12 then (if t860 = 12 then (if t869 = 12 then (if t871 = 12 then (if bt874.2 = 12 then (if bt878.2 = 12 then (if (wrap64 ((wrap64 ((wrap64 ((wrap64 ((wrap64 ((wrap64 ((wrap64 ((t851.length : Int) + (t855.length : Int))) + (t859.length : Int))) + (t863.length : Int))) + (t866.length : Int))) + (t870.length : Int))) + (bt874.1.length : Int))) + (bt878.1.length : Int))) = 0 then (if bt886.2 = 0 then ((nat_Trim.f l0).bind fun t890 => (if (strOfNums bt886.1).toList = (strOfNums t890).toList then ((nat_Trim.f y848).bind fun t893 => (if (t893.length : Int) = 0 then ((nat_Cmp.f kj2 y848 ([] : List Int)).bind fun t896 => (some (t896 == 0))) else (some false))) else (some false))) else (some false)) else (some false)) else (some false)) else (some false)) else (some false)) else (some false)) else (some false)) else (some false)) else (some false))) else (none)))) = some r := H
      have A18 := Aside0.mk A180
      clear A180
      replace H := Option.bind_eq_some_iff.mp H
      obtain ⟨⟨t874, t875⟩, A190, H⟩ := H
      replace H : ((nat_Inverse.f kj2 y848 ([] : List Int)).bind fun bt878 => (if 1024 ≤ (y848.length : Int) then ((nat_Add.f kj2 (y848.take 1024) l0).bind fun bt886 => (if t852 = 12 then (if t856 = 12 then (if t860 = 12 then (if t869 = 12 then (if t871 = 12 then (if t875 = 12 then (if bt878.2 = 12 then (if (wrap64 ((wrap64 ((wrap64 ((wrap64 ((wrap64 ((wrap64 ((wrap64 ((t851.length : Int) + (t855.length : Int))) + (t859.length : Int))) + (t863.length : Int))) + (t866.length : Int))) + (t870.length : Int))) + (t874.length : Int))) + (bt878.1.length : Int))) = 0 then (if bt886.2 = 0 then ((nat_Trim.f l0).bind fun t890 => (if (strOfNums bt886.1).toList = (strOfNums t890).toList then ((nat_Trim.f y848).bind fun t893 => (if (t893.length : Int) = 0 then ((nat_Cmp.f kj2 y848 ([] : List Int)).bind fun t896 => (some (t896 == 0))) else (some false))) else (some false))) else (some false)) else (some false)) else (some false)) else (some false)) else (some false)) else (some false)) else (some false)) else (some false)) else (some false))) else (none))) = some r := H
      have A19 := Aside0.mk A190
      clear A190
      replace H := Option.bind_eq_some_iff.mp H
      obtain ⟨⟨t878, t879⟩, A200, H⟩ := H
      replace H : (if 1024 ≤ (y848.length : Int) then ((nat_Add.f kj2 (y848.take 1024) l0).bind fun bt886 => (if t852 = 12 then (if t856 = 12 then (if t860 = 12 then (if t869 = 12 then (if t871 = 12 then (if t875 = 12 then (if t879 = 12 then (if (wrap64 ((wrap64 ((wrap64 ((wrap64 ((wrap64 ((wrap64 ((wrap64 ((t851.length : Int) + (t855.length : Int))) + (t859.length : Int))) + (t863.length : Int))) + (t866.length : Int))) + (t870.length : Int))) + (t874.length : Int))) + (t878.length : Int))) = 0 then (if bt886.2 = 0 then ((nat_Trim.f l0).bind fun t890 => (if (strOfNums bt886.1).toList = (strOfNums t890).toList then ((nat_Trim.f y848).bind fun t893 => (if (t893.length : Int) = 0 then ((nat_Cmp.f kj2 y848 ([] : List Int)).bind fun t896 => (some (t896 == 0))) else (some false))) else (some false))) else (some false)) else (some false)) else (some false)) else (some false)) else (some false)) else (some false)) else (some false)) else (some false)) else (some false))) else (none)) = some r := H
      have A20 := Aside0.mk A200
      clear A200
      by_cases c21 : 1024 ≤ (y848.length : Int)
      ·rw [if_pos c21] at H
       have c21b0 := eq_true c21
       have c21b1 : decide (1024 ≤ (y848.length : Int)) = true := decide_eq_true c21
       clear c21
       obtain ⟨y882, hy882⟩ : ∃ y_ : List Int, y_ = (y848.take 1024) := ⟨_, rfl⟩
       replace H : ((nat_Add.f kj2 y882 l0).bind fun bt886 => (if t852 = 12 then (if t856 = 12 then (if t860 = 12 then (if t869 = 12 then (if t871 = 12 then (if t875 = 12 then (if t879 = 12 then (if (wrap64 ((wrap64 ((wrap64 ((wrap64 ((wrap64 ((wrap64 ((wrap64 ((t851.length : Int) + (t855.length : Int))) + (t859.length : Int))) + (t863.length : Int))) + (t866.length : Int))) + (t870.length : Int))) + (t874.length : Int))) + (t878.length : Int))) = 0 then (if bt886.2 = 0 then ((nat_Trim.f l0).bind fun t890 => (if (strOfNums bt886.1).toList = (strOfNums t890).toList then ((nat_Trim.f y848).bind fun t893 => (if (t893.length : Int) = 0 then ((nat_Cmp.f kj2 y848 ([] : List Int)).bind fun t896 => (some (t896 == 0))) else (some false))) else (some false))) else (some false)) else (some false)) else (some false)) else (some false)) else (some false)) else (some false)) else (some false)) else (some false)) else (some false))) = some r := by first | (rw [hy882]; with_reducible exact H) | (have H2_ := (Option.bind_some _ _).symm.trans H; rw [hy882]; with_reducible exact H2_) | (have H2_ := (Option.bind_some _ _).symm.trans H; with_reducible exact H2_) | with_reducible exact H | (rw [hy882]; exact H) | exact H
       have Ny882 := Aside0.mk hy882
       clear hy882
       replace H := Option.bind_eq_some_iff.mp H
       obtain ⟨⟨t886, t887⟩, A220, H⟩ := H
       replace H : (if t852 = 12 then (if t856 = 12 then (if t860 = 12 then (if t869 = 12 then (if t871 = 12 then (if t875 = 12 then (if t879 = 12 then (if (wrap64 ((wrap64 ((wrap64 ((wrap64 ((wrap64 ((wrap64 ((wrap64 ((t851.length : Int) + (t855.length : Int))) + (t859.length : Int))) + (t863.length : Int))) + (t866.length : Int))) + (t870.length : Int))) + (t874.length : Int))) + (t878.length : Int))) = 0 then (if t887 = 0 then ((nat_Trim.f l0).bind fun t890 => (if (strOfNums t886).toList = (strOfNums t890).toList then ((nat_Trim.f y848).bind fun t893 => (if (t893.length : Int) = 0 then ((nat_Cmp.f kj2 y848 ([] : List Int)).bind fun t896 => (some (t896 == 0))) else (some false))) else (some false))) else (some false)) else (some false)) else (some false)) else (some false)) else (some false)) else (some false)) else (some false)) else (some false)) else (some false)) = some r := H
       have A22 := Aside0.mk A220
       clear A220
       by_cases c23 : t852 = 12
       ·rw [if_pos c23] at H
        have c23b0 : (t852 == 12) = true := beq_iff_eq.mpr c23
        have c23b1 : (t852 != 12) = false := bne_eq_false_iff_eq.mpr c23
        clear c23
        by_cases c24 : t856 = 12
        ·rw [if_pos c24] at H
         have c24b0 : (t856 == 12) = true := beq_iff_eq.mpr c24
         have c24b1 : (t856 != 12) = false := bne_eq_false_iff_eq.mpr c24
         clear c24
         by_cases c25 : t860 = 12
         ·rw [if_pos c25] at H
          have c25b0 : (t860 == 12) = true := beq_iff_eq.mpr c25
          have c25b1 : (t860 != 12) = false := bne_eq_false_iff_eq.mpr c25
          clear c25
          by_cases c26 : t869 = 12
          ·rw [if_pos c26] at H
           have c26b0 : (t869 == 12) = true := beq_iff_eq.mpr c26
           have c26b1 : (t869 != 12) = false := bne_eq_false_iff_eq.mpr c26
           clear c26
           by_cases c27 : t871 = 12
           ·rw [if_pos c27] at H
            have c27b0 : (t871 == 12) = true := beq_iff_eq.mpr c27
            have c27b1 : (t871 != 12) = false := bne_eq_false_iff_eq.mpr c27
            clear c27
            by_cases c28 : t875 = 12
            ·rw [if_pos c28] at H
             have c28b0 : (t875 == 12) = true := beq_iff_eq.mpr c28
             have c28b1 : (t875 != 12) = false := bne_eq_false_iff_eq.mpr c28
             clear c28
             by_cases c29 : t879 = 12
             ·rw [if_pos c29] at H
              have c29b0 : (t879 == 12) = true := beq_iff_eq.mpr c29
              have c29b1 : (t879 != 12) = false := bne_eq_false_iff_eq.mpr c29
              clear c29
              by_cases c30 : (wrap64 ((wrap64 ((wrap64 ((wrap64 ((wrap64 ((wrap64 ((wrap64 ((t851.length : Int) + (t855.length : Int))) + (t859.length : Int))) + (t863.length : Int))) + (t866.length : Int))) + (t870.length : Int))) + (t874.length : Int))) + (t878.length : Int))) = 0
              ·rw [if_pos c30] at H
               have c30b0 : ((wrap64 ((wrap64 ((wrap64 ((wrap64 ((wrap64 ((wrap64 ((wrap64 ((t851.length : Int) + (t855.length : Int))) + (t859.length : Int))) + (t863.length : Int))) + (t866.length : Int))) + (t870.length : Int))) + (t874.length : Int))) + (t878.length : Int))) == 0) = true := beq_iff_eq.mpr c30
               have c30b1 : ((wrap64 ((wrap64 ((wrap64 ((wrap64 ((wrap64 ((wrap64 ((wrap64 ((t851.length : Int) + (t855.length : Int))) + (t859.length : Int))) + (t863.length : Int))) + (t866.length : Int))) + (t870.length : Int))) + (t874.length : Int))) + (t878.length : Int))) != 0) = false := bne_eq_false_iff_eq.mpr c30
               clear c30
               by_cases c31 : t887 = 0
               ·rw [if_pos c31] at H
                have c31b0 : (t887 == 0) = true := beq_iff_eq.mpr c31
                have c31b1 : (t887 != 0) = false := bne_eq_false_iff_eq.mpr c31
                clear c31
                replace H := Option.bind_eq_some_iff.mp H
                obtain ⟨t890, A320, H⟩ := H
                replace H : (if (strOfNums t886).toList = (strOfNums t890).toList then ((nat_Trim.f y848).bind fun t893 => (if (t893.length : Int) = 0 then ((nat_Cmp.f kj2 y848 ([] : List Int)).bind fun t896 => (some (t896 == 0))) else (some false))) else (some false)) = some r := H
                have A32 := Aside0.mk A320
                clear A320
                by_cases c33 : (strOfNums t886).toList = (strOfNums t890).toList
                ·rw [if_pos c33] at H
                 have c33b0 : ((strOfNums t886).toList == (strOfNums t890).toList) = true := beq_iff_eq.mpr c33
                 have c33b1 : ((strOfNums t886).toList != (strOfNums t890).toList) = false := bne_eq_false_iff_eq.mpr c33
                 clear c33
                 replace H := Option.bind_eq_some_iff.mp H
                 obtain ⟨t893, A340, H⟩ := H
                 replace H : (if (t893.length : Int) = 0 then ((nat_Cmp.f kj2 y848 ([] : List Int)).bind fun t896 => (some (t896 == 0))) else (some false)) = some r := H
                 have A34 := Aside0.mk A340
                 clear A340
                 by_cases c35 : (t893.length : Int) = 0
                 ·rw [if_pos c35] at H
                  have c35b0 : ((t893.length : Int) == 0) = true := beq_iff_eq.mpr c35
                  have c35b1 : ((t893.length : Int) != 0) = false := bne_eq_false_iff_eq.mpr c35
                  clear c35
                  replace H := Option.bind_eq_some_iff.mp H
                  obtain ⟨t896, A360, H⟩ := H
                  replace H : (some (t896 == 0)) = some r := H
                  have A36 := Aside0.mk A360
                  clear A360
                  obtain rfl := Option.some.inj H
                  try go_wp2_with (first | ((with_reducible refine gate_dst (N := 40) rfl ?_); (try (refine gate_guard (by rfl) ?_; dsimp only)); refine Kd.R_make (Kd.int .u8) _ 5 rfl (N := 40) rfl 22 _ _ rfl ji11 rfl rfl Tryd.underlying22 (.int .u8 0) 1 info5 rfl (by decide) (by omega) 0 (ok := fun _ => True) (okp := fun _ => True) rfl (fun _ hk => hk) trivial (of_decide_eq_true (by first | (with_reducible assumption) | assumption)) (Nat.le_trans (Nat.mul_le_mul_right _ (of_decide_eq_true (by first | (with_reducible assumption) | assumption) : ji11.toNat ≤ 281474976710656)) (by omega)) (Below.refl _ _) (Nat.le_refl _) ?_; intro v849 w37 ho38 hb hg_ hnew_; clear hg_ hnew_; (first | rw [← Ny848.out] at ho38 | (simp only [Int.reduceToNat] at ho38; rw [← Ny848.out] at ho38)); have n0_ := Aside0.mk (Kd.R_lower ho38 (Bz HB)); have n1_ := Bs HB hb; clear HB; revert n0_ n1_; intro HO850 HB; clear hb ho38; obtain ⟨Ao39, co39, eo39⟩ := Kd.R_slice HO850.out; subst eo39) | ((with_reducible refine gate_callee (f := 25) rfl ?_); refine goesA (some 44) Tryd.func25 #[.slice Ao39 y848.length co39, .slice A0 l0.length c0] rfl ?_; (with_reducible refine (nat_Add.calls kj2 _ _ y848 _ _ l0 t851 t852 _ ?side1 ?side2 ?side3 ?side4 A14.out).mono ?_); (case side1 => exact Cu (Kd.R_reads' HO850.out).2.2); (case side2 => exact (Kd.R_reads' HO850.out).2.1); (case side3 => exact Cu (Kd.C_below HR0.out HB.out)); (case side4 => exact HC0.out); rintro e w40 ⟨v853, rfl, ho0, hb⟩; refine ⟨_, rfl, ?_⟩; have n0_ := Re HO850 (Kd.R_base ho0) hb; have n1_ := Aside0.mk (Kd.R_lower (Kd.R_new' ho0 (Kd.R_lt (Ru HO850))) (Bz HB)); have n2_ := Bs HB hb; clear HO850 HB; revert n0_ n1_ n2_; intro HO850 HO854 HB; (try clear hb); (try clear hb2); (try clear hk); (try clear hi); (try clear ho0)) | ((with_reducible refine gate_callee (f := 27) rfl ?_); refine goesA (some 50) Tryd.func27 #[.slice A0 l0.length c0, .slice Ao39 y848.length co39] rfl ?_; (with_reducible refine (nat_Sub.calls kj2 _ _ l0 _ _ y848 t855 t856 _ ?side1 ?side2 ?side3 ?side4 A15.out).mono ?_); (case side1 => exact Cu (Kd.C_below HR0.out HB.out)); (case side2 => exact HC0.out); (case side3 => exact Cu (Kd.R_reads' HO850.out).2.2); (case side4 => exact (Kd.R_reads' HO850.out).2.1); rintro e w41 ⟨v857, rfl, ho0, hb⟩; refine ⟨_, rfl, ?_⟩; have n0_ := Re HO850 (Kd.R_base ho0) hb; have n1_ := Re HO854 (Kd.R_base ho0) hb; have n2_ := Aside0.mk (Kd.R_lower (Kd.R_new' (Kd.R_new' ho0 (Kd.R_lt (Ru HO850))) (Kd.R_lt (Ru HO854))) (Bz HB)); have n3_ := Bs HB hb; clear HO850 HO854 HB; revert n0_ n1_ n2_ n3_; intro HO850 HO854 HO858 HB; (try clear hb); (try clear hb2); (try clear hk); (try clear hi); (try clear ho0)) | ((with_reducible refine gate_callee (f := 23) rfl ?_); refine goesA (some 56) Tryd.func23 #[.slice Ao39 y848.length co39, .slice Ao39 y848.length co39] rfl ?_; (with_reducible refine (nat_Mul.calls kj2 _ _ y848 _ _ y848 t859 t860 _ ?side1 ?side2 ?side3 ?side4 A16.out).mono ?_); (case side1 => exact Cu (Kd.R_reads' HO850.out).2.2); (case side2 => exact (Kd.R_reads' HO850.out).2.1); (case side3 => exact Cu (Kd.R_reads' HO850.out).2.2); (case side4 => exact (Kd.R_reads' HO850.out).2.1); rintro e w42 ⟨v861, rfl, ho0, hb⟩; refine ⟨_, rfl, ?_⟩; have n0_ := Re HO850 (Kd.R_base ho0) hb; have n1_ := Re HO854 (Kd.R_base ho0) hb; have n2_ := Re HO858 (Kd.R_base ho0) hb; have n3_ := Aside0.mk (Kd.R_lower (Kd.R_new' (Kd.R_new' (Kd.R_new' ho0 (Kd.R_lt (Ru HO850))) (Kd.R_lt (Ru HO854))) (Kd.R_lt (Ru HO858))) (Bz HB)); have n4_ := Bs HB hb; clear HO850 HO854 HO858 HB; revert n0_ n1_ n2_ n3_ n4_; intro HO850 HO854 HO858 HO862 HB; (try clear hb); (try clear hb2); (try clear hk); (try clear hi); (try clear ho0)) | ((with_reducible refine gate_callee (f := 13) rfl ?_); refine goesA (some 61) Tryd.func13 #[.slice Ao39 y848.length co39, .slice none 0 0] rfl ?_; (refine (nat_Div.calls kj2 (fun k_ => some k_ = (.slice Ao39 y848.length co39 : Value).ownBlock) _ _ y848 (fun k_ => False) _ _ ([] : List Int) t863 t866 t869 _ ?side1 ?side2 A17.out).mono ?_); (case side1 => exact Kd.R_V (Kd.R_tight rfl (HO850.out))); (case side2 => exact Kd.V_nil _ _ _ _ _); rintro e w43 ⟨v864, v867, rfl, ho0, ho1, hb⟩; refine ⟨_, rfl, ?_⟩; have n0_ := Aside0.mk (Kd.R_mono (Kd.R_told (Kd.R_told (Kd.R_old (Ru HO850) hb) (Kd.R_base ho0)) (Kd.R_base ho1)) (fun _ h_ => h_.1)); have n1_ := Aside0.mk (Kd.R_mono (Kd.R_told (Kd.R_told (Kd.R_old (Ru HO854) hb) (Kd.R_base ho0)) (Kd.R_base ho1)) (fun _ h_ => h_.1)); have n2_ := Aside0.mk (Kd.R_mono (Kd.R_told (Kd.R_told (Kd.R_old (Ru HO858) hb) (Kd.R_base ho0)) (Kd.R_base ho1)) (fun _ h_ => h_.1)); have n3_ := Aside0.mk (Kd.R_mono (Kd.R_told (Kd.R_told (Kd.R_old (Ru HO862) hb) (Kd.R_base ho0)) (Kd.R_base ho1)) (fun _ h_ => h_.1)); have n4_ := Aside0.mk (Kd.R_lower (Kd.R_new' (Kd.R_new' (Kd.R_new' (Kd.R_new' (Kd.R_mono (ok' := fun k_ => some k_ ≠ (v867 : Value).ownBlock) ho0 (fun _ hk_ => hk_.2)) (Kd.R_lt (Ru HO850))) (Kd.R_lt (Ru HO854))) (Kd.R_lt (Ru HO858))) (Kd.R_lt (Ru HO862))) (Bz HB)); have n5_ := Aside0.mk (Kd.R_lower (Kd.R_new' (Kd.R_new' (Kd.R_new' (Kd.R_new' (Kd.R_mono (ok' := fun k_ => some k_ ≠ (v864 : Value).ownBlock) ho1 (fun _ hk_ => hk_.2)) (Kd.R_lt (Ru HO850))) (Kd.R_lt (Ru HO854))) (Kd.R_lt (Ru HO858))) (Kd.R_lt (Ru HO862))) (Bz HB)); have n6_ := Bs HB hb; clear HO850 HO854 HO858 HO862 HB; revert n0_ n1_ n2_ n3_ n4_ n5_ n6_; intro HO850 HO854 HO858 HO862 HO865 HO868 HB; (try clear hb); (try clear hb2); (try clear hk); (try clear hi); (try clear ho0); (try clear ho1)) | ((with_reducible refine gate_callee (f := 16) rfl ?_); refine goesA (some 68) Tryd.func16 #[.slice A0 l0.length c0, .slice Ao39 y848.length co39, .slice none 0 0] rfl ?_; (refine (nat_Exp.calls kj2 _ _ l0 _ _ y848 _ _ ([] : List Int) t870 t871 _ ?side1 ?side2 ?side3 ?side4 ?side5 ?side6 A18.out).mono ?_); (case side1 => exact Cu (Kd.C_below HR0.out HB.out)); (case side2 => exact HC0.out); (case side3 => exact Cu (Kd.R_reads' HO850.out).2.2); (case side4 => exact (Kd.R_reads' HO850.out).2.1); (case side5 => exact Kd.C_nil _ _); (case side6 => exact Nat.le_refl _); rintro e w44 ⟨v872, rfl, ho0, hb⟩; refine ⟨_, rfl, ?_⟩; have n0_ := Re HO850 (Kd.R_base ho0) hb; have n1_ := Re HO854 (Kd.R_base ho0) hb; have n2_ := Re HO858 (Kd.R_base ho0) hb; have n3_ := Re HO862 (Kd.R_base ho0) hb; have n4_ := Re HO865 (Kd.R_base ho0) hb; have n5_ := Re HO868 (Kd.R_base ho0) hb; have n6_ := Aside0.mk (Kd.R_lower (Kd.R_new' (Kd.R_new' (Kd.R_new' (Kd.R_new' (Kd.R_new' (Kd.R_new' ho0 (Kd.R_lt (Ru HO850))) (Kd.R_lt (Ru HO854))) (Kd.R_lt (Ru HO858))) (Kd.R_lt (Ru HO862))) (Kd.R_lt (Ru HO865))) (Kd.R_lt (Ru HO868))) (Bz HB)); have n7_ := Bs HB hb; clear HO850 HO854 HO858 HO862 HO865 HO868 HB; revert n0_ n1_ n2_ n3_ n4_ n5_ n6_ n7_; intro HO850 HO854 HO858 HO862 HO865 HO868 HO873 HB; (try clear hb); (try clear hb2); (try clear hk); (try clear hi); (try clear ho0)) | ((with_reducible refine gate_callee (f := 18) rfl ?_); refine goesA (some 74) Tryd.func18 #[.slice A0 l0.length c0, .slice Ao39 y848.length co39] rfl ?_; (with_reducible refine (nat_Gcd.calls kj2 _ _ l0 _ _ y848 t874 t875 _ ?side1 ?side2 ?side3 ?side4 A19.out).mono ?_); (case side1 => exact Cu (Kd.C_below HR0.out HB.out)); (case side2 => exact HC0.out); (case side3 => exact Cu (Kd.R_reads' HO850.out).2.2); (case side4 => exact (Kd.R_reads' HO850.out).2.1); rintro e w45 ⟨v876, rfl, ho0, hb⟩; refine ⟨_, rfl, ?_⟩; have n0_ := Re HO850 (Kd.R_base ho0) hb; have n1_ := Re HO854 (Kd.R_base ho0) hb; have n2_ := Re HO858 (Kd.R_base ho0) hb; have n3_ := Re HO862 (Kd.R_base ho0) hb; have n4_ := Re HO865 (Kd.R_base ho0) hb; have n5_ := Re HO868 (Kd.R_base ho0) hb; have n6_ := Re HO873 (Kd.R_base ho0) hb; have n7_ := Aside0.mk (Kd.R_lower (Kd.R_new' (Kd.R_new' (Kd.R_new' (Kd.R_new' (Kd.R_new' (Kd.R_new' (Kd.R_new' ho0 (Kd.R_lt (Ru HO850))) (Kd.R_lt (Ru HO854))) (Kd.R_lt (Ru HO858))) (Kd.R_lt (Ru HO862))) (Kd.R_lt (Ru HO865))) (Kd.R_lt (Ru HO868))) (Kd.R_lt (Ru HO873))) (Bz HB)); have n8_ := Bs HB hb; clear HO850 HO854 HO858 HO862 HO865 HO868 HO873 HB; revert n0_ n1_ n2_ n3_ n4_ n5_ n6_ n7_ n8_; intro HO850 HO854 HO858 HO862 HO865 HO868 HO873 HO877 HB; (try clear hb); (try clear hb2); (try clear hk); (try clear hi); (try clear ho0)) | ((with_reducible refine gate_callee (f := 20) rfl ?_); refine goesA (some 79) Tryd.func20 #[.slice Ao39 y848.length co39, .slice none 0 0] rfl ?_; (refine (nat_Inverse.calls kj2 _ _ y848 _ _ ([] : List Int) t878 t879 _ ?side1 ?side2 ?side3 ?side4 A20.out).mono ?_); (case side1 => exact Cu (Kd.R_reads' HO850.out).2.2); (case side2 => exact (Kd.R_reads' HO850.out).2.1); (case side3 => exact Kd.C_nil _ _); (case side4 => exact Nat.le_refl _); rintro e w46 ⟨v880, rfl, ho0, hb⟩; refine ⟨_, rfl, ?_⟩; have n0_ := Re HO850 (Kd.R_base ho0) hb; have n1_ := Re HO854 (Kd.R_base ho0) hb; have n2_ := Re HO858 (Kd.R_base ho0) hb; have n3_ := Re HO862 (Kd.R_base ho0) hb; have n4_ := Re HO865 (Kd.R_base ho0) hb; have n5_ := Re HO868 (Kd.R_base ho0) hb; have n6_ := Re HO873 (Kd.R_base ho0) hb; have n7_ := Re HO877 (Kd.R_base ho0) hb; have n8_ := Aside0.mk (Kd.R_lower (Kd.R_new' (Kd.R_new' (Kd.R_new' (Kd.R_new' (Kd.R_new' (Kd.R_new' (Kd.R_new' (Kd.R_new' ho0 (Kd.R_lt (Ru HO850))) (Kd.R_lt (Ru HO854))) (Kd.R_lt (Ru HO858))) (Kd.R_lt (Ru HO862))) (Kd.R_lt (Ru HO865))) (Kd.R_lt (Ru HO868))) (Kd.R_lt (Ru HO873))) (Kd.R_lt (Ru HO877))) (Bz HB)); have n9_ := Bs HB hb; clear HO850 HO854 HO858 HO862 HO865 HO868 HO873 HO877 HB; revert n0_ n1_ n2_ n3_ n4_ n5_ n6_ n7_ n8_ n9_; intro HO850 HO854 HO858 HO862 HO865 HO868 HO873 HO877 HO881 HB; (try clear hb); (try clear hb2); (try clear hk); (try clear hi); (try clear ho0); obtain ⟨Ao47, co47, eo47⟩ := Kd.R_slice HO854.out; subst eo47; obtain ⟨Ao48, co48, eo48⟩ := Kd.R_slice HO858.out; subst eo48; obtain ⟨Ao49, co49, eo49⟩ := Kd.R_slice HO862.out; subst eo49; obtain ⟨Ao50, co50, eo50⟩ := Kd.R_slice HO865.out; subst eo50; obtain ⟨Ao51, co51, eo51⟩ := Kd.R_slice HO868.out; subst eo51; obtain ⟨Ao52, co52, eo52⟩ := Kd.R_slice HO873.out; subst eo52; obtain ⟨Ao53, co53, eo53⟩ := Kd.R_slice HO877.out; subst eo53; obtain ⟨Ao54, co54, eo54⟩ := Kd.R_slice HO881.out; subst eo54; have q55 : (1024 : Int) ≤ ((y848.length : Int) : Int) := of_decide_eq_true (by first | (with_reducible assumption) | assumption); obtain ⟨i055, hi055, _, hsz55, _⟩ := info_parts info5; have hroom55 : y848.length ≤ co39 := (Kd.R_reads' HO850.out).2.1; have hC55 : Kd.C (Kd.int .u8) _ Ao39 y848.length y848 := (Kd.R_reads' HO850.out).2.2; have hcut55 := cut_to (P := Tryd.prog) 22 5 .i64 Tryd.underlying22 hi055 Ao39 y848.length co39 1024 (by omega) q55 hroom55; have hr55 := Kd.C_take (m := 1024) hC55 (by omega); have hy55 : y882.length = (1024 : Int).toNat := (by rw [Ny882.out, List.length_take]; omega); rw [← Ny882.out] at hr55; rw [← hy55] at hcut55; have HR885 := Aside0.mk hr55; have HC885 := Aside0.mk (show y882.length ≤ co39 from by omega); clear hr55 hC55 hroom55 hi055 hsz55; have KY55 := Aside0.mk hy55; clear hy55; have KL55 := Aside0.mk (show 1024 ≤ y848.length from by omega); replace q55 := eq_true q55) | ((with_reducible refine gate_callee (f := 25) rfl ?_); refine goesA (some 109) Tryd.func25 #[.slice Ao39 y882.length co39, .slice A0 l0.length c0] rfl ?_; (with_reducible refine (nat_Add.calls kj2 _ _ y882 _ _ l0 t886 t887 _ ?side1 ?side2 ?side3 ?side4 A22.out).mono ?_); (case side1 => repeat (first | exact (by repeat (first | (with_reducible exact HR885.out) | (with_reducible refine Kd.C_alloc ?_ _) | (with_reducible refine Kd.C_drewN ?_ _) | (with_reducible refine Kd.C_drew ?_) | exact HR885.out)) | (with_reducible refine Kd.C_alloc ?_ _) | (with_reducible refine Kd.C_drewN ?_ _) | (with_reducible refine Kd.C_drew ?_))); (case side2 => exact HC885.out); (case side3 => exact Cu (Kd.C_below HR0.out HB.out)); (case side4 => exact HC0.out); rintro e w56 ⟨v888, rfl, ho0, hb⟩; refine ⟨_, rfl, ?_⟩; have n0_ := Re HO850 (Kd.R_base ho0) hb; have n1_ := Re HO854 (Kd.R_base ho0) hb; have n2_ := Re HO858 (Kd.R_base ho0) hb; have n3_ := Re HO862 (Kd.R_base ho0) hb; have n4_ := Re HO865 (Kd.R_base ho0) hb; have n5_ := Re HO868 (Kd.R_base ho0) hb; have n6_ := Re HO873 (Kd.R_base ho0) hb; have n7_ := Re HO877 (Kd.R_base ho0) hb; have n8_ := Re HO881 (Kd.R_base ho0) hb; have n9_ := Aside0.mk (Kd.R_lower (Kd.R_new' (Kd.R_new' (Kd.R_new' (Kd.R_new' (Kd.R_new' (Kd.R_new' (Kd.R_new' (Kd.R_new' (Kd.R_new' ho0 (Kd.R_lt (Ru HO850))) (Kd.R_lt (Ru HO854))) (Kd.R_lt (Ru HO858))) (Kd.R_lt (Ru HO862))) (Kd.R_lt (Ru HO865))) (Kd.R_lt (Ru HO868))) (Kd.R_lt (Ru HO873))) (Kd.R_lt (Ru HO877))) (Kd.R_lt (Ru HO881))) (Bz HB)); have n10_ := Aside0.mk (Kd.C_below (by repeat (first | (with_reducible exact HR885.out) | (with_reducible refine Kd.C_alloc ?_ _) | (with_reducible refine Kd.C_drewN ?_ _) | (with_reducible refine Kd.C_drew ?_) | exact HR885.out)) hb); have n11_ := Bs HB hb; clear HO850 HO854 HO858 HO862 HO865 HO868 HO873 HO877 HO881 HR885 HB; revert n0_ n1_ n2_ n3_ n4_ n5_ n6_ n7_ n8_ n9_ n10_ n11_; intro HO850 HO854 HO858 HO862 HO865 HO868 HO873 HO877 HO881 HO889 HR885 HB; (try clear hb); (try clear hb2); (try clear hk); (try clear hi); (try clear ho0)))
                  have n0_ := Aside0.mk (Kd.R_drew HO850.out)
                  have n1_ := Aside0.mk (Kd.R_drew HO854.out)
                  have n2_ := Aside0.mk (Kd.R_drew HO858.out)
                  have n3_ := Aside0.mk (Kd.R_drew HO862.out)
                  have n4_ := Aside0.mk (Kd.R_drew HO865.out)
                  have n5_ := Aside0.mk (Kd.R_drew HO868.out)
                  have n6_ := Aside0.mk (Kd.R_drew HO873.out)
                  have n7_ := Aside0.mk (Kd.R_drew HO877.out)
                  have n8_ := Aside0.mk (Kd.R_drew HO881.out)
                  have n9_ := Aside0.mk (Kd.R_drew HO889.out)
                  have n10_ := Aside0.mk (Kd.C_drew HR885.out)
                  have n11_ := Aside0.mk (below_drew1 HB.out)
                  clear HO850
                  clear HO854
                  clear HO858
                  clear HO862
                  clear HO865
                  clear HO868
                  clear HO873
                  clear HO877
                  clear HO881
                  clear HO889
                  clear HR885
                  clear HB
                  have HO850 := n0_
                  have HO854 := n1_
                  have HO858 := n2_
                  have HO862 := n3_
                  have HO865 := n4_
                  have HO868 := n5_
                  have HO873 := n6_
                  have HO877 := n7_
                  have HO881 := n8_
                  have HO889 := n9_
                  have HR885 := n10_
                  have HB := n11_
                  clear n0_ n1_ n2_ n3_ n4_ n5_ n6_ n7_ n8_ n9_ n10_ n11_
                  refine start_ (n := 54) (S := fun w' => (convert 22 9 v888).run Tryd.prog w' = .ok (.string (strOfNums t886)) w') (ds := []) #[false, false, false, false, false, false, false, false, false, false, false, false, false, false, false, false, false, false, false, false, false, false, false, false, false, false, false, false, false, false, false, false, false, false, false, false, false, false, false, false, false, false, false, false, false, false, false, false, false, false, false, false, false, false] (by kernel_rfl) rfl rfl (own_string (P := Tryd.prog) Tryd.underlying22 Tryd.underlying5 Tryd.underlying9 (Kd.own_of_R HO889.out)) (fun hHeld => ?_); refine with_tabW lanyardlaw06_NatLong.tab14 lanyardlaw06_NatLong.bits14 (fun HT_ HW_ => ?_)
                  generalize w56.drew = w57 at HO850 HO854 HO858 HO862 HO865 HO868 HO873 HO877 HO881 HO889 HR885 HB hHeld ⊢
                  refine pure_ (i := 0) (N := some 112) (v := ?_) (a' := ?_) #[true, false, false, false, false, false, false, false, false, false, false, false, false, false, false, false, false, false, false, false, false, false, false, false, false, false, false, false, false, false, false, false, false, false, false, false, false, false, false, false, false, false, false, false, false, false, false, false, false, false, false, false, false, false] rfl rfl (any_of HT_.out (by kernel_rfl)) (fun _ _ _ h => h) (Or.inl ⟨by rfl, ?_⟩) ?_ ?_
                  rotate_left
                  ·intro w'
                   go_simp
                   with_reducible rfl
                  rotate_left
                  ·simp only [Act.put, List.setIfInBounds_toArray, List.set_cons_zero, List.set_cons_succ, i64_w, i32_w]
                   rfl
                  refine pure_ (i := 1) (N := some 113) (v := ?_) (a' := ?_) #[true, true, false, false, false, false, false, false, false, false, false, false, false, false, false, false, false, false, false, false, false, false, false, false, false, false, false, false, false, false, false, false, false, false, false, false, false, false, false, false, false, false, false, false, false, false, false, false, false, false, false, false, false, false] rfl rfl (any_of HT_.out (by kernel_rfl)) (fun _ _ _ h => h) (Or.inl ⟨by rfl, ?_⟩) ?_ ?_
                  rotate_left
                  ·intro w'
                   go_simp
                   with_reducible rfl
                  rotate_left
                  ·simp only [Act.put, List.setIfInBounds_toArray, List.set_cons_zero, List.set_cons_succ, i64_w, i32_w]
                   rfl
                  refine pure_ (i := 2) (N := some 114) (v := ?_) (a' := ?_) #[true, true, true, false, false, false, false, false, false, false, false, false, false, false, false, false, false, false, false, false, false, false, false, false, false, false, false, false, false, false, false, false, false, false, false, false, false, false, false, false, false, false, false, false, false, false, false, false, false, false, false, false, false, false] rfl rfl (any_of HT_.out (by kernel_rfl)) (fun _ _ _ h => h) (Or.inl ⟨by rfl, ?_⟩) ?_ ?_
                  rotate_left
                  ·intro w'
                   go_simp
                   with_reducible rfl
                  rotate_left
                  ·simp only [Act.put, List.setIfInBounds_toArray, List.set_cons_zero, List.set_cons_succ, i64_w, i32_w]
                   rfl
                  refine pure_ (i := 3) (N := some 115) (v := ?_) (a' := ?_) #[true, true, true, true, false, false, false, false, false, false, false, false, false, false, false, false, false, false, false, false, false, false, false, false, false, false, false, false, false, false, false, false, false, false, false, false, false, false, false, false, false, false, false, false, false, false, false, false, false, false, false, false, false, false] rfl rfl (any_of HT_.out (by kernel_rfl)) (fun _ _ _ h => h) (Or.inl ⟨by rfl, ?_⟩) ?_ ?_
                  rotate_left
                  ·intro w'
                   go_simp
                   with_reducible rfl
                  rotate_left
                  ·simp only [Act.put, List.setIfInBounds_toArray, List.set_cons_zero, List.set_cons_succ, i64_w, i32_w]
                   rfl
                  refine pure_ (i := 4) (N := some 116) (v := ?_) (a' := ?_) #[true, true, true, true, true, false, false, false, false, false, false, false, false, false, false, false, false, false, false, false, false, false, false, false, false, false, false, false, false, false, false, false, false, false, false, false, false, false, false, false, false, false, false, false, false, false, false, false, false, false, false, false, false, false] rfl rfl (any_of HT_.out (by kernel_rfl)) (fun _ _ _ h => h) (Or.inl ⟨by rfl, ?_⟩) ?_ ?_
                  rotate_left
                  ·intro w'
                   go_simp
                   with_reducible rfl
                  rotate_left
                  ·simp only [Act.put, List.setIfInBounds_toArray, List.set_cons_zero, List.set_cons_succ, i64_w, i32_w]
                   rfl
                  refine pure_ (i := 5) (N := some 117) (v := ?_) (a' := ?_) #[true, true, true, true, true, true, false, false, false, false, false, false, false, false, false, false, false, false, false, false, false, false, false, false, false, false, false, false, false, false, false, false, false, false, false, false, false, false, false, false, false, false, false, false, false, false, false, false, false, false, false, false, false, false] rfl rfl (any_of HT_.out (by kernel_rfl)) (fun _ _ _ h => h) (Or.inl ⟨by rfl, ?_⟩) ?_ ?_
                  rotate_left
                  ·intro w'
                   go_simp
                   with_reducible rfl
                  rotate_left
                  ·simp only [Act.put, List.setIfInBounds_toArray, List.set_cons_zero, List.set_cons_succ, i64_w, i32_w]
                   rfl
                  refine pure_ (i := 6) (N := some 118) (v := ?_) (a' := ?_) #[true, true, true, true, true, true, true, false, false, false, false, false, false, false, false, false, false, false, false, false, false, false, false, false, false, false, false, false, false, false, false, false, false, false, false, false, false, false, false, false, false, false, false, false, false, false, false, false, false, false, false, false, false, false] rfl rfl (any_of HT_.out (by kernel_rfl)) (fun _ _ _ h => h) (Or.inl ⟨by rfl, ?_⟩) ?_ ?_
                  rotate_left
                  ·intro w'
                   go_simp
                   with_reducible rfl
                  rotate_left
                  ·simp only [Act.put, List.setIfInBounds_toArray, List.set_cons_zero, List.set_cons_succ, i64_w, i32_w]
                   rfl
                  refine pure_ (i := 7) (N := some 119) (v := ?_) (a' := ?_) #[true, true, true, true, true, true, true, true, false, false, false, false, false, false, false, false, false, false, false, false, false, false, false, false, false, false, false, false, false, false, false, false, false, false, false, false, false, false, false, false, false, false, false, false, false, false, false, false, false, false, false, false, false, false] rfl rfl (any_of HT_.out (by kernel_rfl)) (fun _ _ _ h => h) (Or.inl ⟨by rfl, ?_⟩) ?_ ?_
                  rotate_left
                  ·intro w'
                   go_simp
                   with_reducible rfl
                  rotate_left
                  ·simp only [Act.put, List.setIfInBounds_toArray, List.set_cons_zero, List.set_cons_succ, i64_w, i32_w]
                   rfl
                  refine pure_ (i := 8) (N := some 120) (v := ?_) (a' := ?_) #[true, true, true, true, true, true, true, true, true, false, false, false, false, false, false, false, false, false, false, false, false, false, false, false, false, false, false, false, false, false, false, false, false, false, false, false, false, false, false, false, false, false, false, false, false, false, false, false, false, false, false, false, false, false] rfl rfl (any_of HT_.out (by kernel_rfl)) (fun _ _ _ h => h) (Or.inl ⟨by rfl, ?_⟩) ?_ ?_
                  rotate_left
                  ·intro w'
                   go_simp
                   with_reducible rfl
                  rotate_left
                  ·simp only [Act.put, List.setIfInBounds_toArray, List.set_cons_zero, List.set_cons_succ, i64_w, i32_w]
                   rfl
                  refine pure_ (i := 9) (N := some 121) (v := ?_) (a' := ?_) #[true, true, true, true, true, true, true, true, true, true, false, false, false, false, false, false, false, false, false, false, false, false, false, false, false, false, false, false, false, false, false, false, false, false, false, false, false, false, false, false, false, false, false, false, false, false, false, false, false, false, false, false, false, false] rfl rfl (any_of HT_.out (by kernel_rfl)) (fun _ _ _ h => h) (Or.inl ⟨by rfl, ?_⟩) ?_ ?_
                  rotate_left
                  ·intro w'
                   go_simp
                   with_reducible rfl
                  rotate_left
                  ·simp only [Act.put, List.setIfInBounds_toArray, List.set_cons_zero, List.set_cons_succ, i64_w, i32_w]
                   rfl
                  refine pure_ (i := 10) (N := some 122) (v := ?_) (a' := ?_) #[true, true, true, true, true, true, true, true, true, true, true, false, false, false, false, false, false, false, false, false, false, false, false, false, false, false, false, false, false, false, false, false, false, false, false, false, false, false, false, false, false, false, false, false, false, false, false, false, false, false, false, false, false, false] rfl rfl (any_of HT_.out (by kernel_rfl)) (fun _ _ _ h => h) (Or.inl ⟨by rfl, ?_⟩) ?_ ?_
                  rotate_left
                  ·intro w'
                   go_simp
                   with_reducible rfl
                  rotate_left
                  ·simp only [Act.put, List.setIfInBounds_toArray, List.set_cons_zero, List.set_cons_succ, i64_w, i32_w]
                   rfl
                  refine pure_ (i := 11) (N := some 123) (v := ?_) (a' := ?_) #[true, true, true, true, true, true, true, true, true, true, true, true, false, false, false, false, false, false, false, false, false, false, false, false, false, false, false, false, false, false, false, false, false, false, false, false, false, false, false, false, false, false, false, false, false, false, false, false, false, false, false, false, false, false] rfl rfl (any_of HT_.out (by kernel_rfl)) (fun _ _ _ h => h) (Or.inl ⟨by rfl, ?_⟩) ?_ ?_
                  rotate_left
                  ·intro w'
                   go_simp
                   with_reducible rfl
                  rotate_left
                  ·simp only [Act.put, List.setIfInBounds_toArray, List.set_cons_zero, List.set_cons_succ, i64_w, i32_w]
                   rfl
                  refine pure_ (i := 12) (N := some 124) (v := ?_) (a' := ?_) #[true, true, true, true, true, true, true, true, true, true, true, true, true, false, false, false, false, false, false, false, false, false, false, false, false, false, false, false, false, false, false, false, false, false, false, false, false, false, false, false, false, false, false, false, false, false, false, false, false, false, false, false, false, false] rfl rfl (any_of HT_.out (by kernel_rfl)) (fun _ _ _ h => h) (Or.inl ⟨by rfl, ?_⟩) ?_ ?_
                  rotate_left
                  ·intro w'
                   go_simp
                   with_reducible rfl
                  rotate_left
                  ·simp only [Act.put, List.setIfInBounds_toArray, List.set_cons_zero, List.set_cons_succ, i64_w, i32_w]
                   rfl
                  refine pure_ (i := 13) (N := some 125) (v := ?_) (a' := ?_) #[true, true, true, true, true, true, true, true, true, true, true, true, true, true, false, false, false, false, false, false, false, false, false, false, false, false, false, false, false, false, false, false, false, false, false, false, false, false, false, false, false, false, false, false, false, false, false, false, false, false, false, false, false, false] rfl rfl (any_of HT_.out (by kernel_rfl)) (fun _ _ _ h => h) (Or.inl ⟨by rfl, ?_⟩) ?_ ?_
                  rotate_left
                  ·intro w'
                   go_simp
                   with_reducible rfl
                  rotate_left
                  ·simp only [Act.put, List.setIfInBounds_toArray, List.set_cons_zero, List.set_cons_succ, i64_w, i32_w]
                   rfl
                  refine pure_ (i := 14) (N := some 126) (v := ?_) (a' := ?_) #[true, true, true, true, true, true, true, true, true, true, true, true, true, true, true, false, false, false, false, false, false, false, false, false, false, false, false, false, false, false, false, false, false, false, false, false, false, false, false, false, false, false, false, false, false, false, false, false, false, false, false, false, false, false] rfl rfl (any_of HT_.out (by kernel_rfl)) (fun _ _ _ h => h) (Or.inl ⟨by rfl, ?_⟩) ?_ ?_
                  rotate_left
                  ·intro w'
                   go_simp
                   with_reducible rfl
                  rotate_left
                  ·simp only [Act.put, List.setIfInBounds_toArray, List.set_cons_zero, List.set_cons_succ, i64_w, i32_w]
                   rfl
                  refine pure_ (i := 15) (N := some 127) (v := ?_) (a' := ?_) #[true, true, true, true, true, true, true, true, true, true, true, true, true, true, true, true, false, false, false, false, false, false, false, false, false, false, false, false, false, false, false, false, false, false, false, false, false, false, false, false, false, false, false, false, false, false, false, false, false, false, false, false, false, false] rfl rfl (any_of HT_.out (by kernel_rfl)) (fun _ _ _ h => h) (Or.inl ⟨by rfl, ?_⟩) ?_ ?_
                  rotate_left
                  ·intro w'
                   go_simp
                   with_reducible rfl
                  rotate_left
                  ·simp only [Act.put, List.setIfInBounds_toArray, List.set_cons_zero, List.set_cons_succ, i64_w, i32_w]
                   rfl
                  refine pure_ (i := 16) (N := some 128) (v := ?_) (a' := ?_) #[true, true, true, true, true, true, true, true, true, true, true, true, true, true, true, true, true, false, false, false, false, false, false, false, false, false, false, false, false, false, false, false, false, false, false, false, false, false, false, false, false, false, false, false, false, false, false, false, false, false, false, false, false, false] rfl rfl (any_of HT_.out (by kernel_rfl)) (fun _ _ _ h => h) (Or.inl ⟨by rfl, ?_⟩) ?_ ?_
                  rotate_left
                  ·intro w'
                   go_simp
                   with_reducible rfl
                  rotate_left
                  ·simp only [Act.put, List.setIfInBounds_toArray, List.set_cons_zero, List.set_cons_succ, i64_w, i32_w]
                   rfl
                  refine pure_ (i := 17) (N := some 129) (v := ?_) (a' := ?_) #[true, true, true, true, true, true, true, true, true, true, true, true, true, true, true, true, true, true, false, false, false, false, false, false, false, false, false, false, false, false, false, false, false, false, false, false, false, false, false, false, false, false, false, false, false, false, false, false, false, false, false, false, false, false] rfl rfl (any_of HT_.out (by kernel_rfl)) (fun _ _ _ h => h) (Or.inl ⟨by rfl, ?_⟩) ?_ ?_
                  rotate_left
                  ·intro w'
                   go_simp
                   with_reducible rfl
                  rotate_left
                  ·simp only [Act.put, List.setIfInBounds_toArray, List.set_cons_zero, List.set_cons_succ, i64_w, i32_w]
                   rfl
                  refine pure_ (i := 18) (N := some 130) (v := ?_) (a' := ?_) #[true, true, true, true, true, true, true, true, true, true, true, true, true, true, true, true, true, true, true, false, false, false, false, false, false, false, false, false, false, false, false, false, false, false, false, false, false, false, false, false, false, false, false, false, false, false, false, false, false, false, false, false, false, false] rfl rfl (any_of HT_.out (by kernel_rfl)) (fun _ _ _ h => h) (Or.inl ⟨by rfl, ?_⟩) ?_ ?_
                  rotate_left
                  ·intro w'
                   go_simp
                   with_reducible rfl
                  rotate_left
                  ·simp only [Act.put, List.setIfInBounds_toArray, List.set_cons_zero, List.set_cons_succ, i64_w, i32_w]
                   rfl
                  refine pure_ (i := 19) (N := some 131) (v := ?_) (a' := ?_) #[true, true, true, true, true, true, true, true, true, true, true, true, true, true, true, true, true, true, true, true, false, false, false, false, false, false, false, false, false, false, false, false, false, false, false, false, false, false, false, false, false, false, false, false, false, false, false, false, false, false, false, false, false, false] rfl rfl (any_of HT_.out (by kernel_rfl)) (fun _ _ _ h => h) (Or.inl ⟨by rfl, ?_⟩) ?_ ?_
                  rotate_left
                  ·intro w'
                   go_simp
                   with_reducible rfl
                  rotate_left
                  ·simp only [Act.put, List.setIfInBounds_toArray, List.set_cons_zero, List.set_cons_succ, i64_w, i32_w]
                   rfl
                  refine pure_ (i := 20) (N := some 132) (v := ?_) (a' := ?_) #[true, true, true, true, true, true, true, true, true, true, true, true, true, true, true, true, true, true, true, true, true, false, false, false, false, false, false, false, false, false, false, false, false, false, false, false, false, false, false, false, false, false, false, false, false, false, false, false, false, false, false, false, false, false] rfl rfl (any_of HT_.out (by kernel_rfl)) (fun _ _ _ h => h) (Or.inl ⟨by rfl, ?_⟩) ?_ ?_
                  rotate_left
                  ·intro w'
                   go_simp
                   with_reducible rfl
                  rotate_left
                  ·simp only [Act.put, List.setIfInBounds_toArray, List.set_cons_zero, List.set_cons_succ, i64_w, i32_w]
                   rfl
                  refine pure_ (i := 21) (N := some 133) (v := ?_) (a' := ?_) #[true, true, true, true, true, true, true, true, true, true, true, true, true, true, true, true, true, true, true, true, true, true, false, false, false, false, false, false, false, false, false, false, false, false, false, false, false, false, false, false, false, false, false, false, false, false, false, false, false, false, false, false, false, false] rfl rfl (any_of HT_.out (by kernel_rfl)) (fun _ _ _ h => h) (Or.inl ⟨by rfl, ?_⟩) ?_ ?_
                  rotate_left
                  ·intro w'
                   go_simp
                   with_reducible rfl
                  rotate_left
                  ·simp only [Act.put, List.setIfInBounds_toArray, List.set_cons_zero, List.set_cons_succ, i64_w, i32_w]
                   rfl
                  refine pure_ (i := 22) (N := some 134) (v := ?_) (a' := ?_) #[true, true, true, true, true, true, true, true, true, true, true, true, true, true, true, true, true, true, true, true, true, true, true, false, false, false, false, false, false, false, false, false, false, false, false, false, false, false, false, false, false, false, false, false, false, false, false, false, false, false, false, false, false, false] rfl rfl (any_of HT_.out (by kernel_rfl)) (fun _ _ _ h => h) (Or.inl ⟨by rfl, ?_⟩) ?_ ?_
                  rotate_left
                  ·intro w'
                   go_simp
                   with_reducible rfl
                  rotate_left
                  ·simp only [Act.put, List.setIfInBounds_toArray, List.set_cons_zero, List.set_cons_succ, i64_w, i32_w]
                   rfl
                  refine pure_ (i := 23) (N := some 135) (v := ?_) (a' := ?_) #[true, true, true, true, true, true, true, true, true, true, true, true, true, true, true, true, true, true, true, true, true, true, true, true, false, false, false, false, false, false, false, false, false, false, false, false, false, false, false, false, false, false, false, false, false, false, false, false, false, false, false, false, false, false] rfl rfl (any_of HT_.out (by kernel_rfl)) (fun _ _ _ h => h) (Or.inl ⟨by rfl, ?_⟩) ?_ ?_
                  rotate_left
                  ·intro w'
                   go_simp
                   with_reducible rfl
                  rotate_left
                  ·simp only [Act.put, List.setIfInBounds_toArray, List.set_cons_zero, List.set_cons_succ, i64_w, i32_w]
                   rfl
                  refine pure_ (i := 24) (N := some 136) (v := ?_) (a' := ?_) #[true, true, true, true, true, true, true, true, true, true, true, true, true, true, true, true, true, true, true, true, true, true, true, true, true, false, false, false, false, false, false, false, false, false, false, false, false, false, false, false, false, false, false, false, false, false, false, false, false, false, false, false, false, false] rfl rfl (any_of HT_.out (by kernel_rfl)) (fun _ _ _ h => h) (Or.inl ⟨by rfl, ?_⟩) ?_ ?_
                  rotate_left
                  ·intro w'
                   go_simp
                   with_reducible rfl
                  rotate_left
                  ·simp only [Act.put, List.setIfInBounds_toArray, List.set_cons_zero, List.set_cons_succ, i64_w, i32_w]
                   rfl
                  refine pure_ (i := 25) (N := some 137) (v := ?_) (a' := ?_) #[true, true, true, true, true, true, true, true, true, true, true, true, true, true, true, true, true, true, true, true, true, true, true, true, true, true, false, false, false, false, false, false, false, false, false, false, false, false, false, false, false, false, false, false, false, false, false, false, false, false, false, false, false, false] rfl rfl (any_of HT_.out (by kernel_rfl)) (fun _ _ _ h => h) (Or.inl ⟨by rfl, ?_⟩) ?_ ?_
                  rotate_left
                  ·intro w'
                   go_simp
                   with_reducible rfl
                  rotate_left
                  ·simp only [Act.put, List.setIfInBounds_toArray, List.set_cons_zero, List.set_cons_succ, i64_w, i32_w]
                   rfl
                  refine pure_ (i := 26) (N := some 138) (v := ?_) (a' := ?_) #[true, true, true, true, true, true, true, true, true, true, true, true, true, true, true, true, true, true, true, true, true, true, true, true, true, true, true, false, false, false, false, false, false, false, false, false, false, false, false, false, false, false, false, false, false, false, false, false, false, false, false, false, false, false] rfl rfl (any_of HT_.out (by kernel_rfl)) (fun _ _ _ h => h) (Or.inl ⟨by rfl, ?_⟩) ?_ ?_
                  rotate_left
                  ·intro w'
                   go_simp
                   with_reducible rfl
                  rotate_left
                  ·simp only [Act.put, List.setIfInBounds_toArray, List.set_cons_zero, List.set_cons_succ, i64_w, i32_w]
                   rfl
                  refine pure_ (i := 27) (N := some 139) (v := ?_) (a' := ?_) #[true, true, true, true, true, true, true, true, true, true, true, true, true, true, true, true, true, true, true, true, true, true, true, true, true, true, true, true, false, false, false, false, false, false, false, false, false, false, false, false, false, false, false, false, false, false, false, false, false, false, false, false, false, false] rfl rfl (any_of HT_.out (by kernel_rfl)) (fun _ _ _ h => h) (Or.inl ⟨by rfl, ?_⟩) ?_ ?_
                  rotate_left
                  ·intro w'
                   go_simp
                   with_reducible rfl
                  rotate_left
                  ·simp only [Act.put, List.setIfInBounds_toArray, List.set_cons_zero, List.set_cons_succ, i64_w, i32_w]
                   rfl
                  refine pure_ (i := 28) (N := some 140) (v := ?_) (a' := ?_) #[true, true, true, true, true, true, true, true, true, true, true, true, true, true, true, true, true, true, true, true, true, true, true, true, true, true, true, true, true, false, false, false, false, false, false, false, false, false, false, false, false, false, false, false, false, false, false, false, false, false, false, false, false, false] rfl rfl (any_of HT_.out (by kernel_rfl)) (fun _ _ _ h => h) (Or.inl ⟨by rfl, ?_⟩) ?_ ?_
                  rotate_left
                  ·intro w'
                   go_simp
                   with_reducible rfl
                  rotate_left
                  ·simp only [Act.put, List.setIfInBounds_toArray, List.set_cons_zero, List.set_cons_succ, i64_w, i32_w]
                   rfl
                  refine pure_ (i := 29) (N := some 141) (v := ?_) (a' := ?_) #[true, true, true, true, true, true, true, true, true, true, true, true, true, true, true, true, true, true, true, true, true, true, true, true, true, true, true, true, true, true, false, false, false, false, false, false, false, false, false, false, false, false, false, false, false, false, false, false, false, false, false, false, false, false] rfl rfl (any_of HT_.out (by kernel_rfl)) (fun _ _ _ h => h) (Or.inl ⟨by rfl, ?_⟩) ?_ ?_
                  rotate_left
                  ·intro w'
                   go_simp
                   with_reducible rfl
                  rotate_left
                  ·simp only [Act.put, List.setIfInBounds_toArray, List.set_cons_zero, List.set_cons_succ, i64_w, i32_w]
                   rfl
                  refine pure_ (i := 30) (N := some 142) (v := ?_) (a' := ?_) #[true, true, true, true, true, true, true, true, true, true, true, true, true, true, true, true, true, true, true, true, true, true, true, true, true, true, true, true, true, true, true, false, false, false, false, false, false, false, false, false, false, false, false, false, false, false, false, false, false, false, false, false, false, false] rfl rfl (any_of HT_.out (by kernel_rfl)) (fun _ _ _ h => h) (Or.inl ⟨by rfl, ?_⟩) ?_ ?_
                  rotate_left
                  ·intro w'
                   go_simp
                   with_reducible rfl
                  rotate_left
                  ·simp only [Act.put, List.setIfInBounds_toArray, List.set_cons_zero, List.set_cons_succ, i64_w, i32_w]
                   rfl
                  refine pure_ (i := 31) (N := some 143) (v := ?_) (a' := ?_) #[true, true, true, true, true, true, true, true, true, true, true, true, true, true, true, true, true, true, true, true, true, true, true, true, true, true, true, true, true, true, true, true, false, false, false, false, false, false, false, false, false, false, false, false, false, false, false, false, false, false, false, false, false, false] rfl rfl (any_of HT_.out (by kernel_rfl)) (fun _ _ _ h => h) (Or.inl ⟨by rfl, ?_⟩) ?_ ?_
                  rotate_left
                  ·intro w'
                   go_simp
                   with_reducible rfl
                  rotate_left
                  ·simp only [Act.put, List.setIfInBounds_toArray, List.set_cons_zero, List.set_cons_succ, i64_w, i32_w]
                   rfl
                  refine pure_ (i := 32) (N := some 144) (v := ?_) (a' := ?_) #[true, true, true, true, true, true, true, true, true, true, true, true, true, true, true, true, true, true, true, true, true, true, true, true, true, true, true, true, true, true, true, true, true, false, false, false, false, false, false, false, false, false, false, false, false, false, false, false, false, false, false, false, false, false] rfl rfl (any_of HT_.out (by kernel_rfl)) (fun _ _ _ h => h) (Or.inl ⟨by rfl, ?_⟩) ?_ ?_
                  rotate_left
                  ·intro w'
                   go_simp
                   with_reducible rfl
                  rotate_left
                  ·simp only [Act.put, List.setIfInBounds_toArray, List.set_cons_zero, List.set_cons_succ, i64_w, i32_w]
                   rfl
                  refine pure_ (i := 33) (N := some 145) (v := ?_) (a' := ?_) #[true, true, true, true, true, true, true, true, true, true, true, true, true, true, true, true, true, true, true, true, true, true, true, true, true, true, true, true, true, true, true, true, true, true, false, false, false, false, false, false, false, false, false, false, false, false, false, false, false, false, false, false, false, false] rfl rfl (any_of HT_.out (by kernel_rfl)) (fun _ _ _ h => h) (Or.inl ⟨by rfl, ?_⟩) ?_ ?_
                  rotate_left
                  ·intro w'
                   go_simp
                   with_reducible rfl
                  rotate_left
                  ·simp only [Act.put, List.setIfInBounds_toArray, List.set_cons_zero, List.set_cons_succ, i64_w, i32_w]
                   rfl
                  refine pure_ (i := 34) (N := some 146) (v := ?_) (a' := ?_) #[true, true, true, true, true, true, true, true, true, true, true, true, true, true, true, true, true, true, true, true, true, true, true, true, true, true, true, true, true, true, true, true, true, true, true, false, false, false, false, false, false, false, false, false, false, false, false, false, false, false, false, false, false, false] rfl rfl (any_of HT_.out (by kernel_rfl)) (fun _ _ _ h => h) (Or.inl ⟨by rfl, ?_⟩) ?_ ?_
                  rotate_left
                  ·intro w'
                   go_simp
                   with_reducible rfl
                  rotate_left
                  ·simp only [Act.put, List.setIfInBounds_toArray, List.set_cons_zero, List.set_cons_succ, i64_w, i32_w]
                   rfl
                  refine pure_ (i := 35) (N := some 147) (v := ?_) (a' := ?_) #[true, true, true, true, true, true, true, true, true, true, true, true, true, true, true, true, true, true, true, true, true, true, true, true, true, true, true, true, true, true, true, true, true, true, true, true, false, false, false, false, false, false, false, false, false, false, false, false, false, false, false, false, false, false] rfl rfl (any_of HT_.out (by kernel_rfl)) (fun _ _ _ h => h) (Or.inl ⟨by rfl, ?_⟩) ?_ ?_
                  rotate_left
                  ·intro w'
                   go_simp
                   with_reducible rfl
                  rotate_left
                  ·simp only [Act.put, List.setIfInBounds_toArray, List.set_cons_zero, List.set_cons_succ, i64_w, i32_w]
                   rfl
                  refine pure_ (i := 37) (N := some 149) (v := ?_) (a' := ?_) #[true, true, true, true, true, true, true, true, true, true, true, true, true, true, true, true, true, true, true, true, true, true, true, true, true, true, true, true, true, true, true, true, true, true, true, true, false, true, false, false, false, false, false, false, false, false, false, false, false, false, false, false, false, false] rfl rfl (any_of HT_.out (by kernel_rfl)) (fun _ _ _ h => h) (Or.inl ⟨by rfl, ?_⟩) ?_ ?_
                  rotate_left
                  ·intro w'
                   go_simp
                   with_reducible rfl
                  rotate_left
                  ·simp only [Act.put, List.setIfInBounds_toArray, List.set_cons_zero, List.set_cons_succ, i64_w, i32_w]
                   rfl
                  refine take_ (i := 36) (N := some 148) (v := ?_) (a' := ?_) #[true, true, true, true, true, true, true, true, true, true, true, true, true, true, true, true, true, true, true, true, true, true, true, true, true, true, true, true, true, true, true, true, true, true, true, true, true, true, false, false, false, false, false, false, false, false, false, false, false, false, false, false, false, false] rfl rfl (take_ofW HT_.out HW_.out (by kernel_rfl)) (fun _ _ _ h => h) (Or.inl ⟨by rfl, ?_⟩) hHeld ?_ ?_
                  rotate_left
                  ·intro w' s0
                   go_simp
                   with_reducible rfl
                  rotate_left
                  ·simp only [Act.put, List.setIfInBounds_toArray, List.set_cons_zero, List.set_cons_succ, i64_w, i32_w]
                   rfl
                  refine one_ (i := 38) (N := some 150) #[true, true, true, true, true, true, true, true, true, true, true, true, true, true, true, true, true, true, true, true, true, true, true, true, true, true, true, true, true, true, true, true, true, true, true, true, true, true, true, false, false, false, false, false, false, false, false, false, false, false, false, false, false, false] rfl rfl (one_of HT_.out (by kernel_rfl)) (by decide) (fun K hK => ?_)
                  refine goes_ Tryd.func26 (by kernel_rfl) rfl #[.slice A0 l0.length c0] (by rfl) rfl rfl (by (try simp only [List.map_toArray, List.map_cons, List.map_nil]); first | done | rfl | (simp only [List.length_drop, List.length_take]; rfl)) ?_
                  with_reducible refine (nat_Trim.calls _ _ l0 t890 _ ?side1 ?side2 A32.out).mono ?_
                  (case side1 => exact Cu (Kd.C_below HR0.out HB.out))
                  (case side2 => exact HC0.out)
                  rintro e w58 ⟨v891, rfl, ho0, hb⟩
                  refine ⟨_, rfl, ?_⟩
                  have n0_ := Re HO850 (Kd.R_base ho0) hb
                  have n1_ := Re HO854 (Kd.R_base ho0) hb
                  have n2_ := Re HO858 (Kd.R_base ho0) hb
                  have n3_ := Re HO862 (Kd.R_base ho0) hb
                  have n4_ := Re HO865 (Kd.R_base ho0) hb
                  have n5_ := Re HO868 (Kd.R_base ho0) hb
                  have n6_ := Re HO873 (Kd.R_base ho0) hb
                  have n7_ := Re HO877 (Kd.R_base ho0) hb
                  have n8_ := Re HO881 (Kd.R_base ho0) hb
                  have n9_ := Re HO889 (Kd.R_base ho0) hb
                  have n10_ := Aside0.mk (Kd.R_lower (Kd.R_new' (Kd.R_new' (Kd.R_new' (Kd.R_new' (Kd.R_new' (Kd.R_new' (Kd.R_new' (Kd.R_new' (Kd.R_new' (Kd.R_new' ho0 (Kd.R_lt (Ru HO850))) (Kd.R_lt (Ru HO854))) (Kd.R_lt (Ru HO858))) (Kd.R_lt (Ru HO862))) (Kd.R_lt (Ru HO865))) (Kd.R_lt (Ru HO868))) (Kd.R_lt (Ru HO873))) (Kd.R_lt (Ru HO877))) (Kd.R_lt (Ru HO881))) (Kd.R_lt (Ru HO889))) (Bz HB))
                  have n11_ := Aside0.mk (Kd.C_below (by repeat (first | (with_reducible exact HR885.out) | (with_reducible refine Kd.C_alloc ?_ _) | (with_reducible refine Kd.C_drewN ?_ _) | (with_reducible refine Kd.C_drew ?_) | exact HR885.out)) hb)
                  have n12_ := Bs HB hb
                  clear HO850
                  clear HO854
                  clear HO858
                  clear HO862
                  clear HO865
                  clear HO868
                  clear HO873
                  clear HO877
                  clear HO881
                  clear HO889
                  clear HR885
                  clear HB
                  have HO850 := n0_
                  have HO854 := n1_
                  have HO858 := n2_
                  have HO862 := n3_
                  have HO865 := n4_
                  have HO868 := n5_
                  have HO873 := n6_
                  have HO877 := n7_
                  have HO881 := n8_
                  have HO889 := n9_
                  have HO892 := n10_
                  have HR885 := n11_
                  have HB := n12_
                  clear n0_ n1_ n2_ n3_ n4_ n5_ n6_ n7_ n8_ n9_ n10_ n11_ n12_
                  (try clear hb)
                  (try clear hb2)
                  (try clear hk)
                  (try clear hi)
                  (try clear ho0)
                  refine hK.out _ _ (own_string (P := Tryd.prog) Tryd.underlying22 Tryd.underlying5 Tryd.underlying9 (Kd.own_of_R HO889.out)) (fun hHeld => ?_)
                  clear hK K
                  refine norm_ (a' := ?_) ?_ ?_
                  rotate_left
                  ·show Act.put _ (some 150) _ = _
                   simp only [Act.put, List.setIfInBounds_toArray, List.set_cons_zero, List.set_cons_succ, i64_w, i32_w]
                   rfl
                  refine one_ (i := 39) (N := some 151) #[true, true, true, true, true, true, true, true, true, true, true, true, true, true, true, true, true, true, true, true, true, true, true, true, true, true, true, true, true, true, true, true, true, true, true, true, true, true, true, true, false, false, false, false, false, false, false, false, false, false, false, false, false, false] rfl rfl (one_of HT_.out (by kernel_rfl)) (by decide) (fun K hK => ?_)
                  have hcv59 := own_string (P := Tryd.prog) Tryd.underlying22 Tryd.underlying5 Tryd.underlying9 (Kd.own_of_R HO892.out)
                  refine value_ (w1 := ?_) (v := ?_) (by rfl) rfl ?_ ?_
                  rotate_left 2
                  ·go_simp
                   constructor
                   ·rfl
                   ·rfl
                  clear hcv59
                  refine hK.out _ _ (own_string (P := Tryd.prog) Tryd.underlying22 Tryd.underlying5 Tryd.underlying9 (Kd.own_of_R HO889.out)) (fun hHeld => ?_)
                  clear hK K
                  refine norm_ (a' := ?_) ?_ ?_
                  rotate_left
                  ·show Act.put _ (some 151) _ = _
                   simp only [Act.put, List.setIfInBounds_toArray, List.set_cons_zero, List.set_cons_succ, i64_w, i32_w]
                   rfl
                  refine pure_ (i := 40) (N := some 152) (v := ?_) (a' := ?_) #[true, true, true, true, true, true, true, true, true, true, true, true, true, true, true, true, true, true, true, true, true, true, true, true, true, true, true, true, true, true, true, true, true, true, true, true, true, true, true, true, true, false, false, false, false, false, false, false, false, false, false, false, false, false] rfl rfl (any_of HT_.out (by kernel_rfl)) (fun _ _ _ h => h) (Or.inl ⟨by rfl, ?_⟩) ?_ ?_
                  rotate_left
                  ·intro w'
                   go_simp
                   with_reducible rfl
                  rotate_left
                  ·simp only [Act.put, List.setIfInBounds_toArray, List.set_cons_zero, List.set_cons_succ, i64_w, i32_w]
                   rfl
                  refine pure_ (i := 41) (N := some 153) (v := ?_) (a' := ?_) #[true, true, true, true, true, true, true, true, true, true, true, true, true, true, true, true, true, true, true, true, true, true, true, true, true, true, true, true, true, true, true, true, true, true, true, true, true, true, true, true, true, true, false, false, false, false, false, false, false, false, false, false, false, false] rfl rfl (any_of HT_.out (by kernel_rfl)) (fun _ _ _ h => h) (Or.inl ⟨by rfl, ?_⟩) ?_ ?_
                  rotate_left
                  ·intro w'
                   go_simp
                   with_reducible rfl
                  rotate_left
                  ·simp only [Act.put, List.setIfInBounds_toArray, List.set_cons_zero, List.set_cons_succ, i64_w, i32_w]
                   rfl
                  refine pure_ (i := 42) (N := some 154) (v := ?_) (a' := ?_) #[true, true, true, true, true, true, true, true, true, true, true, true, true, true, true, true, true, true, true, true, true, true, true, true, true, true, true, true, true, true, true, true, true, true, true, true, true, true, true, true, true, true, true, false, false, false, false, false, false, false, false, false, false, false] rfl rfl (any_of HT_.out (by kernel_rfl)) (fun _ _ _ h => h) (Or.inl ⟨by rfl, ?_⟩) ?_ ?_
                  rotate_left
                  ·intro w'
                   go_simp
                   with_reducible rfl
                  rotate_left
                  ·simp only [Act.put, List.setIfInBounds_toArray, List.set_cons_zero, List.set_cons_succ, i64_w, i32_w]
                   rfl
                  refine pure_ (i := 43) (N := some 155) (v := ?_) (a' := ?_) #[true, true, true, true, true, true, true, true, true, true, true, true, true, true, true, true, true, true, true, true, true, true, true, true, true, true, true, true, true, true, true, true, true, true, true, true, true, true, true, true, true, true, true, true, false, false, false, false, false, false, false, false, false, false] rfl rfl (any_of HT_.out (by kernel_rfl)) (fun _ _ _ h => h) (Or.inl ⟨by rfl, ?_⟩) ?_ ?_
                  rotate_left
                  ·intro w'
                   go_simp
                   with_reducible rfl
                  rotate_left
                  ·simp only [Act.put, List.setIfInBounds_toArray, List.set_cons_zero, List.set_cons_succ, i64_w, i32_w]
                   rfl
                  refine one_ (i := 44) (N := some 156) #[true, true, true, true, true, true, true, true, true, true, true, true, true, true, true, true, true, true, true, true, true, true, true, true, true, true, true, true, true, true, true, true, true, true, true, true, true, true, true, true, true, true, true, true, true, false, false, false, false, false, false, false, false, false] rfl rfl (one_of HT_.out (by kernel_rfl)) (by decide) (fun K hK => ?_)
                  refine goes_ Tryd.func26 (by kernel_rfl) rfl #[.slice Ao39 y848.length co39] (by rfl) rfl rfl (by (try simp only [List.map_toArray, List.map_cons, List.map_nil]); first | done | rfl | (simp only [List.length_drop, List.length_take]; rfl)) ?_
                  with_reducible refine (nat_Trim.calls _ _ y848 t893 _ ?side1 ?side2 A34.out).mono ?_
                  (case side1 => exact Cu (Kd.R_reads' HO850.out).2.2)
                  (case side2 => exact (Kd.R_reads' HO850.out).2.1)
                  rintro e w61 ⟨v894, rfl, ho0, hb⟩
                  refine ⟨_, rfl, ?_⟩
                  have n0_ := Re HO850 (Kd.R_base ho0) hb
                  have n1_ := Re HO854 (Kd.R_base ho0) hb
                  have n2_ := Re HO858 (Kd.R_base ho0) hb
                  have n3_ := Re HO862 (Kd.R_base ho0) hb
                  have n4_ := Re HO865 (Kd.R_base ho0) hb
                  have n5_ := Re HO868 (Kd.R_base ho0) hb
                  have n6_ := Re HO873 (Kd.R_base ho0) hb
                  have n7_ := Re HO877 (Kd.R_base ho0) hb
                  have n8_ := Re HO881 (Kd.R_base ho0) hb
                  have n9_ := Re HO889 (Kd.R_base ho0) hb
                  have n10_ := Re HO892 (Kd.R_base ho0) hb
                  have n11_ := Aside0.mk (Kd.R_lower (Kd.R_new' (Kd.R_new' (Kd.R_new' (Kd.R_new' (Kd.R_new' (Kd.R_new' (Kd.R_new' (Kd.R_new' (Kd.R_new' (Kd.R_new' (Kd.R_new' ho0 (Kd.R_lt (Ru HO850))) (Kd.R_lt (Ru HO854))) (Kd.R_lt (Ru HO858))) (Kd.R_lt (Ru HO862))) (Kd.R_lt (Ru HO865))) (Kd.R_lt (Ru HO868))) (Kd.R_lt (Ru HO873))) (Kd.R_lt (Ru HO877))) (Kd.R_lt (Ru HO881))) (Kd.R_lt (Ru HO889))) (Kd.R_lt (Ru HO892))) (Bz HB))
                  have n12_ := Bs HB hb
                  clear HO850
                  clear HO854
                  clear HO858
                  clear HO862
                  clear HO865
                  clear HO868
                  clear HO873
                  clear HO877
                  clear HO881
                  clear HO889
                  clear HO892
                  clear HB
                  have HO850 := n0_
                  have HO854 := n1_
                  have HO858 := n2_
                  have HO862 := n3_
                  have HO865 := n4_
                  have HO868 := n5_
                  have HO873 := n6_
                  have HO877 := n7_
                  have HO881 := n8_
                  have HO889 := n9_
                  have HO892 := n10_
                  have HO895 := n11_
                  have HB := n12_
                  clear n0_ n1_ n2_ n3_ n4_ n5_ n6_ n7_ n8_ n9_ n10_ n11_ n12_
                  (try clear hb)
                  (try clear hb2)
                  (try clear hk)
                  (try clear hi)
                  (try clear ho0)
                  obtain ⟨Ao62, co62, eo62⟩ := Kd.R_slice HO895.out
                  (first | subst eo62 | (injection eo62 with f1_ f2_ f3_; have f4_ := f1_.symm; have f5_ := f3_.symm; clear f1_ f2_ f3_; subst f4_; subst f5_))
                  refine hK.out _ _ (own_string (P := Tryd.prog) Tryd.underlying22 Tryd.underlying5 Tryd.underlying9 (Kd.own_of_R HO889.out)) (fun hHeld => ?_)
                  clear hK K
                  refine norm_ (a' := ?_) ?_ ?_
                  rotate_left
                  ·show Act.put _ (some 156) _ = _
                   simp only [Act.put, List.setIfInBounds_toArray, List.set_cons_zero, List.set_cons_succ, i64_w, i32_w]
                   rfl
                  refine pure_ (i := 45) (N := some 157) (v := ?_) (a' := ?_) #[true, true, true, true, true, true, true, true, true, true, true, true, true, true, true, true, true, true, true, true, true, true, true, true, true, true, true, true, true, true, true, true, true, true, true, true, true, true, true, true, true, true, true, true, true, true, false, false, false, false, false, false, false, false] rfl rfl (any_of HT_.out (by kernel_rfl)) (fun _ _ _ h => h) (Or.inl ⟨by rfl, ?_⟩) ?_ ?_
                  rotate_left
                  ·intro w'
                   go_simp
                   with_reducible rfl
                  rotate_left
                  ·simp only [Act.put, List.setIfInBounds_toArray, List.set_cons_zero, List.set_cons_succ, i64_w, i32_w]
                   rfl
                  refine pure_ (i := 46) (N := some 158) (v := ?_) (a' := ?_) #[true, true, true, true, true, true, true, true, true, true, true, true, true, true, true, true, true, true, true, true, true, true, true, true, true, true, true, true, true, true, true, true, true, true, true, true, true, true, true, true, true, true, true, true, true, true, true, false, false, false, false, false, false, false] rfl rfl (any_of HT_.out (by kernel_rfl)) (fun _ _ _ h => h) (Or.inl ⟨by rfl, ?_⟩) ?_ ?_
                  rotate_left
                  ·intro w'
                   go_simp
                   with_reducible rfl
                  rotate_left
                  ·simp only [Act.put, List.setIfInBounds_toArray, List.set_cons_zero, List.set_cons_succ, i64_w, i32_w]
                   rfl
                  refine pure_ (i := 47) (N := some 159) (v := ?_) (a' := ?_) #[true, true, true, true, true, true, true, true, true, true, true, true, true, true, true, true, true, true, true, true, true, true, true, true, true, true, true, true, true, true, true, true, true, true, true, true, true, true, true, true, true, true, true, true, true, true, true, true, false, false, false, false, false, false] rfl rfl (any_of HT_.out (by kernel_rfl)) (fun _ _ _ h => h) (Or.inl ⟨by rfl, ?_⟩) ?_ ?_
                  rotate_left
                  ·intro w'
                   go_simp
                   with_reducible rfl
                  rotate_left
                  ·simp only [Act.put, List.setIfInBounds_toArray, List.set_cons_zero, List.set_cons_succ, i64_w, i32_w]
                   rfl
                  refine pure_ (i := 48) (N := some 160) (v := ?_) (a' := ?_) #[true, true, true, true, true, true, true, true, true, true, true, true, true, true, true, true, true, true, true, true, true, true, true, true, true, true, true, true, true, true, true, true, true, true, true, true, true, true, true, true, true, true, true, true, true, true, true, true, true, false, false, false, false, false] rfl rfl (any_of HT_.out (by kernel_rfl)) (fun _ _ _ h => h) (Or.inl ⟨by rfl, ?_⟩) ?_ ?_
                  rotate_left
                  ·intro w'
                   go_simp
                   with_reducible rfl
                  rotate_left
                  ·simp only [Act.put, List.setIfInBounds_toArray, List.set_cons_zero, List.set_cons_succ, i64_w, i32_w]
                   rfl
                  refine pure_ (i := 49) (N := some 161) (v := ?_) (a' := ?_) #[true, true, true, true, true, true, true, true, true, true, true, true, true, true, true, true, true, true, true, true, true, true, true, true, true, true, true, true, true, true, true, true, true, true, true, true, true, true, true, true, true, true, true, true, true, true, true, true, true, true, false, false, false, false] rfl rfl (any_of HT_.out (by kernel_rfl)) (fun _ _ _ h => h) (Or.inl ⟨by rfl, ?_⟩) ?_ ?_
                  rotate_left
                  ·intro w'
                   go_simp
                   with_reducible rfl
                  rotate_left
                  ·simp only [Act.put, List.setIfInBounds_toArray, List.set_cons_zero, List.set_cons_succ, i64_w, i32_w]
                   rfl
                  refine one_ (i := 50) (N := some 162) #[true, true, true, true, true, true, true, true, true, true, true, true, true, true, true, true, true, true, true, true, true, true, true, true, true, true, true, true, true, true, true, true, true, true, true, true, true, true, true, true, true, true, true, true, true, true, true, true, true, true, true, false, false, false] rfl rfl (one_of HT_.out (by kernel_rfl)) (by decide) (fun K hK => ?_)
                  refine goes_ Tryd.func24 (by kernel_rfl) rfl #[.slice Ao39 y848.length co39, .slice none 0 0] (by rfl) rfl rfl (by (try simp only [List.map_toArray, List.map_cons, List.map_nil]); first | done | rfl | (simp only [List.length_drop, List.length_take]; rfl)) ?_
                  refine (nat_Cmp.calls kj2 _ _ y848 _ _ ([] : List Int) t896 _ ?side1 ?side2 ?side3 ?side4 A36.out).mono ?_
                  (case side1 => exact Cu (Kd.R_reads' HO850.out).2.2)
                  (case side2 => exact (Kd.R_reads' HO850.out).2.1)
                  (case side3 => exact Kd.C_nil _ _)
                  (case side4 => exact Nat.le_refl _)
                  rintro e w63 ⟨rfl, hb⟩
                  refine ⟨_, rfl, ?_⟩
                  have n0_ := Rb HO850 hb
                  have n1_ := Rb HO854 hb
                  have n2_ := Rb HO858 hb
                  have n3_ := Rb HO862 hb
                  have n4_ := Rb HO865 hb
                  have n5_ := Rb HO868 hb
                  have n6_ := Rb HO873 hb
                  have n7_ := Rb HO877 hb
                  have n8_ := Rb HO881 hb
                  have n9_ := Rb HO889 hb
                  have n10_ := Rb HO892 hb
                  have n11_ := Rb HO895 hb
                  have n12_ := Bs HB hb
                  clear HO850
                  clear HO854
                  clear HO858
                  clear HO862
                  clear HO865
                  clear HO868
                  clear HO873
                  clear HO877
                  clear HO881
                  clear HO889
                  clear HO892
                  clear HO895
                  clear HB
                  have HO850 := n0_
                  have HO854 := n1_
                  have HO858 := n2_
                  have HO862 := n3_
                  have HO865 := n4_
                  have HO868 := n5_
                  have HO873 := n6_
                  have HO877 := n7_
                  have HO881 := n8_
                  have HO889 := n9_
                  have HO892 := n10_
                  have HO895 := n11_
                  have HB := n12_
                  clear n0_ n1_ n2_ n3_ n4_ n5_ n6_ n7_ n8_ n9_ n10_ n11_ n12_
                  (try clear hb)
                  (try clear hb2)
                  (try clear hk)
                  (try clear hi)
                  refine hK.out _ _ (own_string (P := Tryd.prog) Tryd.underlying22 Tryd.underlying5 Tryd.underlying9 (Kd.own_of_R HO889.out)) (fun hHeld => ?_)
                  clear hK K
                  refine norm_ (a' := ?_) ?_ ?_
                  rotate_left
                  ·show Act.put _ (some 162) _ = _
                   simp only [Act.put, List.setIfInBounds_toArray, List.set_cons_zero, List.set_cons_succ, i64_w, i32_w]
                   rfl
                  refine pure_ (i := 51) (N := some 163) (v := ?_) (a' := ?_) #[true, true, true, true, true, true, true, true, true, true, true, true, true, true, true, true, true, true, true, true, true, true, true, true, true, true, true, true, true, true, true, true, true, true, true, true, true, true, true, true, true, true, true, true, true, true, true, true, true, true, true, true, false, false] rfl rfl (any_of HT_.out (by kernel_rfl)) (fun _ _ _ h => h) (Or.inl ⟨by rfl, ?_⟩) ?_ ?_
                  rotate_left
                  ·intro w'
                   go_simp
                   with_reducible rfl
                  rotate_left
                  ·simp only [Act.put, List.setIfInBounds_toArray, List.set_cons_zero, List.set_cons_succ, i64_w, i32_w]
                   rfl
                  refine pure_ (i := 52) (N := some 164) (v := ?_) (a' := ?_) #[true, true, true, true, true, true, true, true, true, true, true, true, true, true, true, true, true, true, true, true, true, true, true, true, true, true, true, true, true, true, true, true, true, true, true, true, true, true, true, true, true, true, true, true, true, true, true, true, true, true, true, true, true, false] rfl rfl (any_of HT_.out (by kernel_rfl)) (fun _ _ _ h => h) (Or.inl ⟨by rfl, ?_⟩) ?_ ?_
                  rotate_left
                  ·intro w'
                   go_simp
                   with_reducible rfl
                  rotate_left
                  ·simp only [Act.put, List.setIfInBounds_toArray, List.set_cons_zero, List.set_cons_succ, i64_w, i32_w]
                   rfl
                  refine pure_ (i := 53) (N := some 4) (v := ?_) (a' := ?_) #[true, true, true, true, true, true, true, true, true, true, true, true, true, true, true, true, true, true, true, true, true, true, true, true, true, true, true, true, true, true, true, true, true, true, true, true, true, true, true, true, true, true, true, true, true, true, true, true, true, true, true, true, true, true] rfl rfl (any_of HT_.out (by kernel_rfl)) (fun _ _ _ h => h) (Or.inl ⟨by rfl, ?_⟩) ?_ ?_
                  rotate_left
                  ·intro w'
                   go_simp
                   with_reducible rfl
                  rotate_left
                  ·simp only [Act.put, List.setIfInBounds_toArray, List.set_cons_zero, List.set_cons_succ, i64_w, i32_w]
                   rfl
                  refine done_ (done_of HT_.out (by kernel_rfl)) ?_
                  try go_wp2
                  go_ret
                  exact ⟨by first | rfl | (simp [errW_none, errW_some] <;> rfl) | (simp only [← hji11]; first | rfl | (simp [errW_none, errW_some] <;> rfl)) | (simp [*, errW_none, errW_some] <;> rfl), Bu HB⟩
                 ·rw [if_neg c35] at H
                  have c35b0 : ((t893.length : Int) == 0) = false := beq_eq_false_iff_ne.mpr c35
                  have c35b1 : ((t893.length : Int) != 0) = true := bne_iff_ne.mpr c35
                  have c35b2 : ¬ (t893 = []) := fun h_ => c35 (by rw [h_]; rfl)
                  exact absurd (Option.some.inj H) (by rw [HR_.out]; decide)
                ·rw [if_neg c33] at H
                 have c33b0 : ((strOfNums t886).toList == (strOfNums t890).toList) = false := beq_eq_false_iff_ne.mpr c33
                 have c33b1 : ((strOfNums t886).toList != (strOfNums t890).toList) = true := bne_iff_ne.mpr c33
                 exact absurd (Option.some.inj H) (by rw [HR_.out]; decide)
               ·rw [if_neg c31] at H
                have c31b0 : (t887 == 0) = false := beq_eq_false_iff_ne.mpr c31
                have c31b1 : (t887 != 0) = true := bne_iff_ne.mpr c31
                exact absurd (Option.some.inj H) (by rw [HR_.out]; decide)
              ·rw [if_neg c30] at H
               have c30b0 : ((wrap64 ((wrap64 ((wrap64 ((wrap64 ((wrap64 ((wrap64 ((wrap64 ((t851.length : Int) + (t855.length : Int))) + (t859.length : Int))) + (t863.length : Int))) + (t866.length : Int))) + (t870.length : Int))) + (t874.length : Int))) + (t878.length : Int))) == 0) = false := beq_eq_false_iff_ne.mpr c30
               have c30b1 : ((wrap64 ((wrap64 ((wrap64 ((wrap64 ((wrap64 ((wrap64 ((wrap64 ((t851.length : Int) + (t855.length : Int))) + (t859.length : Int))) + (t863.length : Int))) + (t866.length : Int))) + (t870.length : Int))) + (t874.length : Int))) + (t878.length : Int))) != 0) = true := bne_iff_ne.mpr c30
               exact absurd (Option.some.inj H) (by rw [HR_.out]; decide)
             ·rw [if_neg c29] at H
              have c29b0 : (t879 == 12) = false := beq_eq_false_iff_ne.mpr c29
              have c29b1 : (t879 != 12) = true := bne_iff_ne.mpr c29
              exact absurd (Option.some.inj H) (by rw [HR_.out]; decide)
            ·rw [if_neg c28] at H
             have c28b0 : (t875 == 12) = false := beq_eq_false_iff_ne.mpr c28
             have c28b1 : (t875 != 12) = true := bne_iff_ne.mpr c28
             exact absurd (Option.some.inj H) (by rw [HR_.out]; decide)
           ·rw [if_neg c27] at H
            have c27b0 : (t871 == 12) = false := beq_eq_false_iff_ne.mpr c27
            have c27b1 : (t871 != 12) = true := bne_iff_ne.mpr c27
            exact absurd (Option.some.inj H) (by rw [HR_.out]; decide)
          ·rw [if_neg c26] at H
           have c26b0 : (t869 == 12) = false := beq_eq_false_iff_ne.mpr c26
           have c26b1 : (t869 != 12) = true := bne_iff_ne.mpr c26
           exact absurd (Option.some.inj H) (by rw [HR_.out]; decide)
         ·rw [if_neg c25] at H
          have c25b0 : (t860 == 12) = false := beq_eq_false_iff_ne.mpr c25
          have c25b1 : (t860 != 12) = true := bne_iff_ne.mpr c25
          exact absurd (Option.some.inj H) (by rw [HR_.out]; decide)
        ·rw [if_neg c24] at H
         have c24b0 : (t856 == 12) = false := beq_eq_false_iff_ne.mpr c24
         have c24b1 : (t856 != 12) = true := bne_iff_ne.mpr c24
         exact absurd (Option.some.inj H) (by rw [HR_.out]; decide)
       ·rw [if_neg c23] at H
        have c23b0 : (t852 == 12) = false := beq_eq_false_iff_ne.mpr c23
        have c23b1 : (t852 != 12) = true := bne_iff_ne.mpr c23
        exact absurd (Option.some.inj H) (by rw [HR_.out]; decide)
      ·rw [if_neg c21] at H
       exact absurd H (by simp)
     ·rw [if_neg c13] at H
      exact absurd H (by simp)
    ·rw [if_neg c12] at H
     exact absurd H (by simp)

/-- THE ONE PURE STATEMENT of lanyardlaw06_NatLong: yours. -/
def lanyardlaw06_NatLong.Pure : Prop := ∀ (l0 : List Int) (a1 : Int), l0.length ≤ maxLen → l0.length * 1 ≤ 140737488351232 → (∀ x ∈ l0, (Lit.int .u8 x).wf = true) → (Lit.int .i64 a1).wf = true → ∃ k, lanyardlaw06_NatLong.f k l0 a1 = some true
theorem lanyardlaw06_NatLong.walk (P : lanyardlaw06_NatLong.Pure) (a0 : Option Addr) (len0 cap0 : Nat) (z0 : List Int) (a1 : Int) (w : World) (w0 : (a0 = none ∧ len0 = 0 ∧ cap0 = 0 ∧ z0 = []) ∨ ∃ x, a0 = some x ∧ len0 ≤ cap0 ∧ cap0 ≤ maxLen ∧ z0.length = cap0 ∧ (∀ i, i < z0.length → w.cell? (x.add i) = some (.int .u8 (z0.getD i 0))) ∧ ∀ n ∈ z0, (Lit.int .u8 n).wf = true) (y0 : len0 * 1 ≤ 140737488351232) (w1 : (Lit.int .i64 a1).wf = true) :
  Calls Tryd.prog 10 #[.slice a0 len0 cap0, .int .i64 a1] w fun e w' => e = .returned (.bool true) ∧ Below w.heap.size w w' := by
 obtain ⟨l0, rfl, hr0, hm0, hw0, hc0⟩ := ReadsInt.ofRowC w0
 obtain ⟨k, h⟩ := P l0 a1 hm0 y0 hw0 w1
 refine (lanyardlaw06_NatLong.calls k _ _ l0 a1 true w (Kd.C_of_reads (d := (0 : Int)) (h1 := fun _ => rfl) hr0) hc0 h).mono ?_
 rintro e w' ⟨rfl, hd⟩
 exact ⟨rfl, hd⟩

end Go.Proofs.YtcofpbndaljppaaDoor.Hp
