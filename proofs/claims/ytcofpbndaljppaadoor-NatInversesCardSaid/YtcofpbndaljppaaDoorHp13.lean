/- Go functions of this seat as Lean functions, and their contracts: what the Go code computes, for every input. (By hp.py, a program of this repo, over the kit's print.py.) -/
import Derived.Test.YtcofpbndaljppaaDoorHp0
import Derived.Test.YtcofpbndaljppaaDoorHp6
import Derived.Test.YtcofpbndaljppaaDoorHp7
import Derived.Test.YtcofpbndaljppaaDoorHp8
import Derived.Test.YtcofpbndaljppaaDoorHp9
import Derived.Test.YtcofpbndaljppaaDoorHp10
namespace Go.Proofs.YtcofpbndaljppaaDoor.Hp
open Go.RowKit Go.Proofs.YtcofpbndaljppaaDoorW.PrintWords Go.Proofs.YtcofpbndaljppaaDoorW.PrintLast Go.Proofs.YtcofpbndaljppaaDoorW.PrintMore
attribute [local go_sem] max2_int min2_int max_two min_two max_three min_three max_four min_four   -- for this text's walks alone
set_option linter.unusedVariables false
set_option linter.unusedSimpArgs false

/-! ### lanyardlaw06_NatInverses: function 5 -/
mutual
def lanyardlaw06_NatInverses.j0 : Nat → List Int → List Int → Bool → Option (Bool)
 | 0, _, _, _ => none
 | k + 1, x0, x1, x25 => if x25 = true then ((lanyardlaw06_awake.f k).bind fun t686 => (some t686)) else ((lanyardref06_Of.f k x0).bind fun t687 => ((lanyardref06_Of.f k x1).bind fun t690 => ((nat_Gcd.f k x0 x1).bind fun bt693 => ((lanyardref06_Gcd.f k t687 t690).bind fun t697 => ((nat_Inverse.f k x0 x1).bind fun bt700 => (if bt693.2 = 0 then ((lanyardlaw06_same.f k bt693.1 t697).bind fun t704 => (lanyardlaw06_NatInverses.j1 k t687 t690 t697 bt700.1 bt700.2 (!t704))) else (lanyardlaw06_NatInverses.j1 k t687 t690 t697 bt700.1 bt700.2 true)))))))
def lanyardlaw06_NatInverses.j1 : Nat → List Int → List Int → List Int → List Int → Int → Bool → Option (Bool)
 | 0, _, _, _, _, _, _ => none
 | k + 1, x5, x6, x9, x10, x11, x53 => if x53 = true then (some false) else ((lanyardref06_Cmp.f k x6 (([2] : List Int))).bind fun t708 => (if t708 < 0 then (if x11 = 2 then (some ((x10.length : Int) == 0)) else (some false)) else ((lanyardref06_Cmp.f k x9 (([1] : List Int))).bind fun t712 => (if t712 = 0 then ((lanyardref06_Of.f k x10).bind fun t713 => ((lanyardref06_Mul.f k t713 x5).bind fun t716 => ((lanyardref06_Div.f k t716 x6).bind fun bt719 => (if x11 = 0 then ((lanyardref06_Of.f k x10).bind fun t725 => ((lanyardref06_Cmp.f k t725 x6).bind fun t728 => (if t728 < 0 then ((lanyardref06_Cmp.f k bt719.2 (([1] : List Int))).bind fun t732 => (if t732 = 0 then (if (x10.length : Int) = 0 then (some true) else (if 0 < (x10.length : Int) then (some ((rd x10 0) != 0)) else (none))) else (some false))) else (some false)))) else (some false))))) else (if x11 = 20 then (some ((x10.length : Int) == 0)) else (some false))))))
end
def lanyardlaw06_NatInverses.f (k : Nat) (l0 : List Int) (l1 : List Int) : Option (Bool) := (lanyardlaw06_awake.f k).bind fun t685 => (if t685 = true then (if (l0.length : Int) > 30 then (lanyardlaw06_NatInverses.j0 k l0 l1 true) else (lanyardlaw06_NatInverses.j0 k l0 l1 (decide ((l1.length : Int) > 30)))) else (lanyardlaw06_NatInverses.j0 k l0 l1 true))
theorem lanyardlaw06_NatInverses.mono_l : ∀ k, (∀ y0 y1 y2, LeO (lanyardlaw06_NatInverses.j0 k y0 y1 y2) (lanyardlaw06_NatInverses.j0 (k + 1) y0 y1 y2)) ∧ (∀ y0 y1 y2 y3 y4 y5, LeO (lanyardlaw06_NatInverses.j1 k y0 y1 y2 y3 y4 y5) (lanyardlaw06_NatInverses.j1 (k + 1) y0 y1 y2 y3 y4 y5))
 | 0 => ⟨fun _ _ _ r h => by simp [lanyardlaw06_NatInverses.j0] at h, fun _ _ _ _ _ _ r h => by simp [lanyardlaw06_NatInverses.j1] at h⟩
 | k + 1 => by
  obtain ⟨ih0, ih1⟩ := lanyardlaw06_NatInverses.mono_l k
  refine ⟨?_, ?_⟩
  ·intro y0 y1 y2
   unfold lanyardlaw06_NatInverses.j0
   repeat' first
   | (with_reducible exact ih0 _ _ _)
   | (with_reducible exact ih1 _ _ _ _ _ _)
   | (with_reducible exact lanyardlaw06_awake.mono _)
   | (with_reducible exact lanyardlaw06_same.mono _ _ _)
   | (with_reducible exact lanyardref06_Cmp.mono _ _ _)
   | (with_reducible exact lanyardref06_Div.mono _ _ _)
   | (with_reducible exact lanyardref06_Gcd.mono _ _ _)
   | (with_reducible exact lanyardref06_Mul.mono _ _ _)
   | (with_reducible exact lanyardref06_Of.mono _ _)
   | (with_reducible exact nat_Gcd.mono _ _ _)
   | (with_reducible exact nat_Inverse.mono _ _ _)
   | (with_reducible exact LeO.refl _)
   | (with_reducible exact LeO.none _)
   | (with_reducible refine LeO.ite ?_ ?_)
   | (with_reducible refine LeO.bind ?_ (fun _ => ?_))
   | exact ih0 _ _ _
   | exact ih1 _ _ _ _ _ _
   | exact lanyardlaw06_awake.mono _
   | exact lanyardlaw06_same.mono _ _ _
   | exact lanyardref06_Cmp.mono _ _ _
   | exact lanyardref06_Div.mono _ _ _
   | exact lanyardref06_Gcd.mono _ _ _
   | exact lanyardref06_Mul.mono _ _ _
   | exact lanyardref06_Of.mono _ _
   | exact nat_Gcd.mono _ _ _
   | exact nat_Inverse.mono _ _ _
   | exact LeO.none _
   | refine LeO.ite ?_ ?_
   | refine LeO.bind ?_ (fun _ => ?_)
  ·intro y0 y1 y2 y3 y4 y5
   unfold lanyardlaw06_NatInverses.j1
   repeat' first
   | (with_reducible exact ih0 _ _ _)
   | (with_reducible exact ih1 _ _ _ _ _ _)
   | (with_reducible exact lanyardlaw06_awake.mono _)
   | (with_reducible exact lanyardlaw06_same.mono _ _ _)
   | (with_reducible exact lanyardref06_Cmp.mono _ _ _)
   | (with_reducible exact lanyardref06_Div.mono _ _ _)
   | (with_reducible exact lanyardref06_Gcd.mono _ _ _)
   | (with_reducible exact lanyardref06_Mul.mono _ _ _)
   | (with_reducible exact lanyardref06_Of.mono _ _)
   | (with_reducible exact nat_Gcd.mono _ _ _)
   | (with_reducible exact nat_Inverse.mono _ _ _)
   | (with_reducible exact LeO.refl _)
   | (with_reducible exact LeO.none _)
   | (with_reducible refine LeO.ite ?_ ?_)
   | (with_reducible refine LeO.bind ?_ (fun _ => ?_))
   | exact ih0 _ _ _
   | exact ih1 _ _ _ _ _ _
   | exact lanyardlaw06_awake.mono _
   | exact lanyardlaw06_same.mono _ _ _
   | exact lanyardref06_Cmp.mono _ _ _
   | exact lanyardref06_Div.mono _ _ _
   | exact lanyardref06_Gcd.mono _ _ _
   | exact lanyardref06_Mul.mono _ _ _
   | exact lanyardref06_Of.mono _ _
   | exact nat_Gcd.mono _ _ _
   | exact nat_Inverse.mono _ _ _
   | exact LeO.none _
   | refine LeO.ite ?_ ?_
   | refine LeO.bind ?_ (fun _ => ?_)
theorem lanyardlaw06_NatInverses.mono : ∀ a0 a1 k, LeO (lanyardlaw06_NatInverses.f k a0 a1) (lanyardlaw06_NatInverses.f (k + 1) a0 a1) := by
 intro a0 a1 k
 obtain ⟨ih0, ih1⟩ := lanyardlaw06_NatInverses.mono_l k
 unfold lanyardlaw06_NatInverses.f
 repeat' first
   | (with_reducible exact ih0 _ _ _)
   | (with_reducible exact ih1 _ _ _ _ _ _)
   | (with_reducible exact lanyardlaw06_awake.mono _)
   | (with_reducible exact lanyardlaw06_same.mono _ _ _)
   | (with_reducible exact lanyardref06_Cmp.mono _ _ _)
   | (with_reducible exact lanyardref06_Div.mono _ _ _)
   | (with_reducible exact lanyardref06_Gcd.mono _ _ _)
   | (with_reducible exact lanyardref06_Mul.mono _ _ _)
   | (with_reducible exact lanyardref06_Of.mono _ _)
   | (with_reducible exact nat_Gcd.mono _ _ _)
   | (with_reducible exact nat_Inverse.mono _ _ _)
   | (with_reducible exact LeO.refl _)
   | (with_reducible exact LeO.none _)
   | (with_reducible refine LeO.ite ?_ ?_)
   | (with_reducible refine LeO.bind ?_ (fun _ => ?_))
   | exact ih0 _ _ _
   | exact ih1 _ _ _ _ _ _
   | exact lanyardlaw06_awake.mono _
   | exact lanyardlaw06_same.mono _ _ _
   | exact lanyardref06_Cmp.mono _ _ _
   | exact lanyardref06_Div.mono _ _ _
   | exact lanyardref06_Gcd.mono _ _ _
   | exact lanyardref06_Mul.mono _ _ _
   | exact lanyardref06_Of.mono _ _
   | exact nat_Gcd.mono _ _ _
   | exact nat_Inverse.mono _ _ _
   | exact LeO.none _
   | refine LeO.ite ?_ ?_
   | refine LeO.bind ?_ (fun _ => ?_)
set_option maxHeartbeats 8000000 in
set_option maxRecDepth 100000 in
theorem lanyardlaw06_NatInverses.calls (k : Nat) (A0 : Option Addr) (c0 : Nat) (l0 : List Int) (A1 : Option Addr) (c1 : Nat) (l1 : List Int) (r : Bool) (w : World) (hr0 : Kd.C (Kd.int .u8) w A0 l0.length l0) (hc0 : l0.length ≤ c0) (hr1 : Kd.C (Kd.int .u8) w A1 l1.length l1) (hc1 : l1.length ≤ c1) (h : lanyardlaw06_NatInverses.f k l0 l1 = some r) :
  Calls Tryd.prog 5 #[.slice A0 l0.length c0, .slice A1 l1.length c1] w fun e w' => e = .returned (.bool r) ∧ Below w.heap.size w w' := by
 have HR0 := Aside0.mk hr0
 have HC0 := Aside0.mk hc0
 clear hr0 hc0
 have HR1 := Aside0.mk hr1
 have HC1 := Aside0.mk hc1
 clear hr1 hc1
 have HB := Aside0.mk (Below.refl w.heap.size w)
 have H : ((lanyardlaw06_awake.f k).bind fun t685 => (if t685 = true then (if (l0.length : Int) > 30 then (lanyardlaw06_NatInverses.j0 k l0 l1 true) else (lanyardlaw06_NatInverses.j0 k l0 l1 (decide ((l1.length : Int) > 30)))) else (lanyardlaw06_NatInverses.j0 k l0 l1 true))) = some r := h
 clear h
 have HC3 := Aside0.mk H
 clear H
 go_enter Tryd.func5, Tryd.ntmps5
 go_upto_region 1 with (fail)
 go_cut [25] (fun v25 wc => ∃ (kq : Nat) (x25_2 : Bool), v25 = .bool x25_2 ∧ Aside0 (lanyardlaw06_NatInverses.j0 kq l0 l1 x25_2 = some r) ∧ Aside0 (kq ≤ k) ∧ Aside0 (Below w.heap.size w wc))
 case first =>
  have H := HC3.out
  clear HC3
  replace H := Option.bind_eq_some_iff.mp H
  obtain ⟨t685, A40, H⟩ := H
  replace H : (if t685 = true then (if (l0.length : Int) > 30 then (lanyardlaw06_NatInverses.j0 k l0 l1 true) else (lanyardlaw06_NatInverses.j0 k l0 l1 (decide ((l1.length : Int) > 30)))) else (lanyardlaw06_NatInverses.j0 k l0 l1 true)) = some r := H
  have A4 := Aside0.mk A40
  clear A40
  by_cases c5 : t685 = true
  ·subst c5
   have H1 : (if (l0.length : Int) > 30 then (lanyardlaw06_NatInverses.j0 k l0 l1 true) else (lanyardlaw06_NatInverses.j0 k l0 l1 (decide ((l1.length : Int) > 30)))) = some r := by rw [if_pos rfl] at H; exact H
   clear H
   have H := H1
   clear H1
   by_cases c6 : (l0.length : Int) > 30
   ·rw [if_pos c6] at H
    have c6b0 : decide (30 < (l0.length : Int)) = true := decide_eq_true c6
    have c6b1 : decide (30 < l0.length) = true := decide_eq_true (by omega)
    clear c6
    (first | rw [c6b0] | (simp only [i64_w, i32_w]; rw [c6b0]) | skip)
    have H' := Aside0.mk H
    clear H
    go_wp2_with (first | ((with_reducible refine gate_callee (f := 11) rfl ?_); refine goesA (some 14) Tryd.func11 #[] rfl ?_; (with_reducible refine (lanyardlaw06_awake.calls k  true _ A4.out).mono ?_); rintro e w7 ⟨rfl, hb⟩; refine ⟨_, rfl, ?_⟩; have n0_ := Bs HB hb; clear HB; revert n0_; intro HB; (try clear hb); (try clear hb2); (try clear hk); (try clear hi)))
    go_meet
    case rel => exact ⟨_, (true), (by first | rfl | (simp; done) | (simp [*]; done)), H', ⟨by first | omega | exact Nat.le_refl _⟩, ⟨Bu HB⟩⟩
   ·rw [if_neg c6] at H
    have c6b0 : decide (30 < (l0.length : Int)) = false := decide_eq_false c6
    have c6b1 : decide (30 < l0.length) = false := decide_eq_false (by omega)
    clear c6
    (first | rw [c6b0] | (simp only [i64_w, i32_w]; rw [c6b0]) | skip)
    have H' := Aside0.mk H
    clear H
    go_wp2_with (first | ((with_reducible refine gate_callee (f := 11) rfl ?_); refine goesA (some 14) Tryd.func11 #[] rfl ?_; (with_reducible refine (lanyardlaw06_awake.calls k  true _ A4.out).mono ?_); rintro e w8 ⟨rfl, hb⟩; refine ⟨_, rfl, ?_⟩; have n0_ := Bs HB hb; clear HB; revert n0_; intro HB; (try clear hb); (try clear hb2); (try clear hk); (try clear hi)))
    go_meet
    case rel => exact ⟨_, (decide ((l1.length : Int) > 30)), (by first | rfl | (simp; done) | (simp [*]; done)), H', ⟨by first | omega | exact Nat.le_refl _⟩, ⟨Bu HB⟩⟩
  ·replace c5 := Bool.eq_false_iff.mpr c5
   subst c5
   have H1 : (lanyardlaw06_NatInverses.j0 k l0 l1 true) = some r := by rw [if_neg (show ¬ (false = true) by decide)] at H; exact H
   clear H
   have H := H1
   clear H1
   have H' := Aside0.mk H
   clear H
   go_wp2_with (first | ((with_reducible refine gate_callee (f := 11) rfl ?_); refine goesA (some 14) Tryd.func11 #[] rfl ?_; (with_reducible refine (lanyardlaw06_awake.calls k  false _ A4.out).mono ?_); rintro e w9 ⟨rfl, hb⟩; refine ⟨_, rfl, ?_⟩; have n0_ := Bs HB hb; clear HB; revert n0_; intro HB; (try clear hb); (try clear hb2); (try clear hk); (try clear hi)))
   go_meet
   case rel => exact ⟨_, (true), (by first | rfl | (simp; done) | (simp [*]; done)), H', ⟨by first | omega | exact Nat.le_refl _⟩, ⟨Bu HB⟩⟩
 case rest =>
  clear HC3
  try clear c1
  try clear p2
  try clear c5
  try clear c6
  try clear c6b0
  try clear c6b1
  obtain ⟨kq, x25_2, rfl, HA, HJ2, HB⟩ := hcut
  cases kq with
  | zero => exact absurd HA.out (by simp [lanyardlaw06_NatInverses.j0])
  | succ kj2 =>
   have H := HA.out
   clear HA
   simp only [lanyardlaw06_NatInverses.j0] at H
   by_cases c10 : x25_2 = true
   ·subst c10
    have H1 : ((lanyardlaw06_awake.f kj2).bind fun t686 => (some t686)) = some r := by rw [if_pos rfl] at H; exact H
    clear H
    have H := H1
    clear H1
    replace H := Option.bind_eq_some_iff.mp H
    obtain ⟨t686, A110, H⟩ := H
    replace H : (some t686) = some r := H
    have A11 := Aside0.mk A110
    clear A110
    obtain rfl := Option.some.inj H
    go_wp2_with (first | ((with_reducible refine gate_callee (f := 11) rfl ?_); refine goesA (some 26) Tryd.func11 #[] rfl ?_; (with_reducible refine (lanyardlaw06_awake.calls kj2  t686 _ A11.out).mono ?_); rintro e w12 ⟨rfl, hb⟩; refine ⟨_, rfl, ?_⟩; have n0_ := Bs HB hb; clear HB; revert n0_; intro HB; (try clear hb); (try clear hb2); (try clear hk); (try clear hi)))
    go_ret
    exact ⟨rfl_, Bu HB⟩
   ·replace c10 := Bool.eq_false_iff.mpr c10
    subst c10
    have H1 : ((lanyardref06_Of.f kj2 l0).bind fun t687 => ((lanyardref06_Of.f kj2 l1).bind fun t690 => ((nat_Gcd.f kj2 l0 l1).bind fun bt693 => ((lanyardref06_Gcd.f kj2 t687 t690).bind fun t697 => ((nat_Inverse.f kj2 l0 l1).bind fun bt700 => (if bt693.2 = 0 then ((lanyardlaw06_same.f kj2 bt693.1 t697).bind fun t704 => (lanyardlaw06_NatInverses.j1 kj2 t687 t690 t697 bt700.1 bt700.2 (!t704))) else (lanyardlaw06_NatInverses.j1 kj2 t687 t690 t697 bt700.1 bt700.2 true))))))) = some r := by rw [if_neg (show ¬ (false = true) by decide)] at H; exact H
    clear H
    have H := H1
    clear H1
    replace H := Option.bind_eq_some_iff.mp H
    obtain ⟨t687, A130, H⟩ := H
    replace H : ((lanyardref06_Of.f kj2 l1).bind fun t690 => ((nat_Gcd.f kj2 l0 l1).bind fun bt693 => ((lanyardref06_Gcd.f kj2 t687 t690).bind fun t697 => ((nat_Inverse.f kj2 l0 l1).bind fun bt700 => (if bt693.2 = 0 then ((lanyardlaw06_same.f kj2 bt693.1 t697).bind fun t704 => (lanyardlaw06_NatInverses.j1 kj2 t687 t690 t697 bt700.1 bt700.2 (!t704))) else (lanyardlaw06_NatInverses.j1 kj2 t687 t690 t697 bt700.1 bt700.2 true)))))) = some r := H
    have A13 := Aside0.mk A130
    clear A130
    replace H := Option.bind_eq_some_iff.mp H
    obtain ⟨t690, A140, H⟩ := H
    replace H : ((nat_Gcd.f kj2 l0 l1).bind fun bt693 => ((lanyardref06_Gcd.f kj2 t687 t690).bind fun t697 => ((nat_Inverse.f kj2 l0 l1).bind fun bt700 => (if bt693.2 = 0 then ((lanyardlaw06_same.f kj2 bt693.1 t697).bind fun t704 => (lanyardlaw06_NatInverses.j1 kj2 t687 t690 t697 bt700.1 bt700.2 (!t704))) else (lanyardlaw06_NatInverses.j1 kj2 t687 t690 t697 bt700.1 bt700.2 true))))) = some r := H
    have A14 := Aside0.mk A140
    clear A140
    replace H := Option.bind_eq_some_iff.mp H
    obtain ⟨⟨t693, t694⟩, A150, H⟩ := H
    replace H : ((lanyardref06_Gcd.f kj2 t687 t690).bind fun t697 => ((nat_Inverse.f kj2 l0 l1).bind fun bt700 => (if t694 = 0 then ((lanyardlaw06_same.f kj2 t693 t697).bind fun t704 => (lanyardlaw06_NatInverses.j1 kj2 t687 t690 t697 bt700.1 bt700.2 (!t704))) else (lanyardlaw06_NatInverses.j1 kj2 t687 t690 t697 bt700.1 bt700.2 true)))) = some r := H
    have A15 := Aside0.mk A150
    clear A150
    replace H := Option.bind_eq_some_iff.mp H
    obtain ⟨t697, A160, H⟩ := H
    replace H : ((nat_Inverse.f kj2 l0 l1).bind fun bt700 => (if t694 = 0 then ((lanyardlaw06_same.f kj2 t693 t697).bind fun t704 => (lanyardlaw06_NatInverses.j1 kj2 t687 t690 t697 bt700.1 bt700.2 (!t704))) else (lanyardlaw06_NatInverses.j1 kj2 t687 t690 t697 bt700.1 bt700.2 true))) = some r := H
    have A16 := Aside0.mk A160
    clear A160
    replace H := Option.bind_eq_some_iff.mp H
    obtain ⟨⟨t700, t701⟩, A170, H⟩ := H
    replace H : (if t694 = 0 then ((lanyardlaw06_same.f kj2 t693 t697).bind fun t704 => (lanyardlaw06_NatInverses.j1 kj2 t687 t690 t697 t700 t701 (!t704))) else (lanyardlaw06_NatInverses.j1 kj2 t687 t690 t697 t700 t701 true)) = some r := H
    have A17 := Aside0.mk A170
    clear A170
    have HC18 := Aside0.mk H
    clear H
    go_upto_region 7 with (first | ((with_reducible refine gate_callee (f := 12) rfl ?_); refine goesA (some 28) Tryd.func12 #[.slice A0 l0.length c0] rfl ?_; (with_reducible refine (lanyardref06_Of.calls kj2 _ _ l0 t687 _ ?side1 ?side2 A13.out).mono ?_); (case side1 => exact Cu (Kd.C_below HR0.out HB.out)); (case side2 => exact HC0.out); rintro e w19 ⟨v688, rfl, ho0, hb⟩; refine ⟨_, rfl, ?_⟩; have n0_ := Aside0.mk (Kd.V_lower (Kd.V_mono (ok' := fun k_ => True) ho0 (fun k_ hk_ => trivial)) (Bz HB)); have n1_ := Bs HB hb; clear HB; revert n0_ n1_; intro HO689 HB; (try clear hb); (try clear hb2); (try clear hk); (try clear hi); (try clear ho0)) | ((with_reducible refine gate_callee (f := 12) rfl ?_); refine goesA (some 30) Tryd.func12 #[.slice A1 l1.length c1] rfl ?_; (with_reducible refine (lanyardref06_Of.calls kj2 _ _ l1 t690 _ ?side1 ?side2 A14.out).mono ?_); (case side1 => exact Cu (Kd.C_below HR1.out HB.out)); (case side2 => exact HC1.out); rintro e w20 ⟨v691, rfl, ho0, hb⟩; refine ⟨_, rfl, ?_⟩; have n0_ := Vb HO689 hb; have n1_ := Aside0.mk (Kd.V_lower (Kd.V_mono (ok' := fun k_ => True) ho0 (fun k_ hk_ => trivial)) (Bz HB)); have n2_ := Bs HB hb; clear HO689 HB; revert n0_ n1_ n2_; intro HO689 HO692 HB; (try clear hb); (try clear hb2); (try clear hk); (try clear hi); (try clear ho0)) | ((with_reducible refine gate_callee (f := 18) rfl ?_); refine goesA (some 34) Tryd.func18 #[.slice A0 l0.length c0, .slice A1 l1.length c1] rfl ?_; (with_reducible refine (nat_Gcd.calls kj2 _ _ l0 _ _ l1 t693 t694 _ ?side1 ?side2 ?side3 ?side4 A15.out).mono ?_); (case side1 => exact Cu (Kd.C_below HR0.out HB.out)); (case side2 => exact HC0.out); (case side3 => exact Cu (Kd.C_below HR1.out HB.out)); (case side4 => exact HC1.out); rintro e w21 ⟨v695, rfl, ho0, hb⟩; refine ⟨_, rfl, ?_⟩; have n0_ := Ve HO689 (Kd.R_base ho0) hb; have n1_ := Ve HO692 (Kd.R_base ho0) hb; have n2_ := Aside0.mk (Kd.R_lower ho0 (Bz HB)); have n3_ := Bs HB hb; clear HO689 HO692 HB; revert n0_ n1_ n2_ n3_; intro HO689 HO692 HO696 HB; (try clear hb); (try clear hb2); (try clear hk); (try clear hi); (try clear ho0); obtain ⟨Ao22, co22, eo22⟩ := Kd.V_slice HO689.out; subst eo22; obtain ⟨Ao23, co23, eo23⟩ := Kd.V_slice HO692.out; subst eo23) | ((with_reducible refine gate_callee (f := 19) rfl ?_); refine goesA (some 39) Tryd.func19 #[.slice Ao22 t687.length co22, .slice Ao23 t690.length co23] rfl ?_; (with_reducible refine (lanyardref06_Gcd.calls kj2 (fun k_ => (True ∧ some k_ ≠ (v695 : Value).ownBlock)) _ _ t687 (fun k_ => (True ∧ some k_ ≠ (v695 : Value).ownBlock)) _ _ t690 t697 _ ?side1 ?side2 A16.out).mono ?_); (case side1 => exact HO689.out); (case side2 => exact HO692.out); rintro e w24 ⟨v698, rfl, ho0, hb⟩; refine ⟨_, rfl, ?_⟩; have n0_ := Vb HO689 hb; have n1_ := Vb HO692 hb; have n2_ := Rb HO696 hb; have n3_ := Aside0.mk (Kd.V_lower (Kd.V_mono (ok' := fun k_ => some k_ ≠ (v695 : Value).ownBlock) ho0 (fun k_ hk_ => Or.elim hk_ (fun hs_ => Or.elim hs_ (fun hs_ => hs_.2) (fun hs_ => hs_.2)) (fun hn_ => (Kd.fresh' (Kd.R_lt (Ru HO696)) k_ hn_)))) (Bz HB)); have n4_ := Bs HB hb; clear HO689 HO692 HO696 HB; revert n0_ n1_ n2_ n3_ n4_; intro HO689 HO692 HO696 HO699 HB; (try clear hb); (try clear hb2); (try clear hk); (try clear hi); (try clear ho0)) | ((with_reducible refine gate_callee (f := 20) rfl ?_); refine goesA (some 43) Tryd.func20 #[.slice A0 l0.length c0, .slice A1 l1.length c1] rfl ?_; (with_reducible refine (nat_Inverse.calls kj2 _ _ l0 _ _ l1 t700 t701 _ ?side1 ?side2 ?side3 ?side4 A17.out).mono ?_); (case side1 => exact Cu (Kd.C_below HR0.out HB.out)); (case side2 => exact HC0.out); (case side3 => exact Cu (Kd.C_below HR1.out HB.out)); (case side4 => exact HC1.out); rintro e w25 ⟨v702, rfl, ho0, hb⟩; refine ⟨_, rfl, ?_⟩; have n0_ := Ve HO689 (Kd.R_base ho0) hb; have n1_ := Ve HO692 (Kd.R_base ho0) hb; have n2_ := Re HO696 (Kd.R_base ho0) hb; have n3_ := Ve HO699 (Kd.R_base ho0) hb; have n4_ := Aside0.mk (Kd.R_lower (Kd.R_new' ho0 (Kd.R_lt (Ru HO696))) (Bz HB)); have n5_ := Bs HB hb; clear HO689 HO692 HO696 HO699 HB; revert n0_ n1_ n2_ n3_ n4_ n5_; intro HO689 HO692 HO696 HO699 HO703 HB; (try clear hb); (try clear hb2); (try clear hk); (try clear hi); (try clear ho0)))
    (try simp only [Act.put, List.setIfInBounds_toArray, List.set_cons_zero, List.set_cons_succ])
    go_cut [53] (fun v53 wc => ∃ (kq : Nat) (x53_17 : Bool), v53 = .bool x53_17 ∧ Aside0 (lanyardlaw06_NatInverses.j1 kq t687 t690 t697 t700 t701 x53_17 = some r) ∧ Aside0 (kq ≤ kj2) ∧ Aside0 (Kd.V (Kd.int .i64) 3 wc w.heap.size (fun k_ => some k_ ≠ (v702 : Value).ownBlock) (.slice Ao22 t687.length co22) t687) ∧ Aside0 (Kd.V (Kd.int .i64) 3 wc w.heap.size (fun k_ => some k_ ≠ (v702 : Value).ownBlock) (.slice Ao23 t690.length co23) t690) ∧ Aside0 (Kd.V (Kd.int .i64) 3 wc w.heap.size (fun k_ => some k_ ≠ (v702 : Value).ownBlock) v698 t697) ∧ Aside0 (Kd.R (Kd.int .u8) 5 wc w.heap.size (fun _ => True) v702 t700) ∧ Aside0 (Below w.heap.size w wc))
    case first =>
     have H := HC18.out
     clear HC18
     by_cases c26 : t694 = 0
     ·rw [if_pos c26] at H
      have c26b0 : (t694 == 0) = true := beq_iff_eq.mpr c26
      have c26b1 : (t694 != 0) = false := bne_eq_false_iff_eq.mpr c26
      clear c26
      (first | rw [c26b0] | (simp only [i64_w, i32_w]; rw [c26b0]) | skip)
      replace H := Option.bind_eq_some_iff.mp H
      obtain ⟨t704, A270, H⟩ := H
      replace H : (lanyardlaw06_NatInverses.j1 kj2 t687 t690 t697 t700 t701 (!t704)) = some r := H
      have A27 := Aside0.mk A270
      clear A270
      have H' := Aside0.mk H
      clear H
      obtain ⟨Ao28, co28, eo28⟩ := Kd.R_slice HO696.out
      subst eo28
      obtain ⟨Ao29, co29, eo29⟩ := Kd.V_slice HO699.out
      subst eo29
      go_wp2_with (first | (go_at_call 15; (with_reducible refine (lanyardlaw06_same.calls kj2 _ _ t693 _ _ t697 t704 _ ?side1 ?side2 ?side3 ?side4 A27.out).mono ?_); (case side1 => exact Cu (Kd.R_reads' HO696.out).2.2); (case side2 => exact (Kd.R_reads' HO696.out).2.1); (case side3 => exact Cu (Kd.V_reads' HO699.out).2.2); (case side4 => exact (Kd.V_reads' HO699.out).2.1); rintro e w30 ⟨rfl, hb⟩; have n0_ := Vb HO689 hb; have n1_ := Vb HO692 hb; have n2_ := Rb HO696 hb; have n3_ := Vb HO699 hb; have n4_ := Rb HO703 hb; have n5_ := Bs HB hb; clear HO689 HO692 HO696 HO699 HO703 HB; revert n0_ n1_ n2_ n3_ n4_ n5_; intro HO689 HO692 HO696 HO699 HO703 HB; (try clear hb); (try clear hb2); (try clear hk); (try clear hi)))
      go_meet
      case rel => exact ⟨_, (!t704), (by first | rfl | (simp; done) | (simp [*]; done)), H', ⟨by have := HJ2.out; first | omega | exact Nat.le_refl _⟩, ⟨by (with_reducible repeat (first | apply Kd.V_alloc | apply Kd.V_drewN | apply Kd.V_drew)); exact Kd.V_mono HO689.out (fun _ hk => hk.2)⟩, ⟨by (with_reducible repeat (first | apply Kd.V_alloc | apply Kd.V_drewN | apply Kd.V_drew)); exact Kd.V_mono HO692.out (fun _ hk => hk.2)⟩, ⟨by (with_reducible repeat (first | apply Kd.V_alloc | apply Kd.V_drewN | apply Kd.V_drew)); exact Kd.V_mono HO699.out (fun _ hk => hk.2)⟩, ⟨by (with_reducible repeat (first | apply Kd.R_alloc | apply Kd.R_drewN | apply Kd.R_drew)); exact Kd.R_mono HO703.out (fun _ hk => trivial)⟩, ⟨Bu HB⟩⟩
     ·rw [if_neg c26] at H
      have c26b0 : (t694 == 0) = false := beq_eq_false_iff_ne.mpr c26
      have c26b1 : (t694 != 0) = true := bne_iff_ne.mpr c26
      (first | rw [c26b0] | (simp only [i64_w, i32_w]; rw [c26b0]) | skip)
      have H' := Aside0.mk H
      clear H
      go_wp2
      go_meet
      case rel => exact ⟨_, (true), (by first | rfl | (simp; done) | (simp [*]; done)), H', ⟨by have := HJ2.out; first | omega | exact Nat.le_refl _⟩, ⟨by (with_reducible repeat (first | apply Kd.V_alloc | apply Kd.V_drewN | apply Kd.V_drew)); exact Kd.V_mono HO689.out (fun _ hk => hk.2)⟩, ⟨by (with_reducible repeat (first | apply Kd.V_alloc | apply Kd.V_drewN | apply Kd.V_drew)); exact Kd.V_mono HO692.out (fun _ hk => hk.2)⟩, ⟨by (with_reducible repeat (first | apply Kd.V_alloc | apply Kd.V_drewN | apply Kd.V_drew)); exact Kd.V_mono HO699.out (fun _ hk => hk.2)⟩, ⟨by (with_reducible repeat (first | apply Kd.R_alloc | apply Kd.R_drewN | apply Kd.R_drew)); exact Kd.R_mono HO703.out (fun _ hk => trivial)⟩, ⟨Bu HB⟩⟩
    case rest =>
     clear HC18
     try clear c1
     try clear c2
     try clear p2
     try clear c5
     try clear c6
     try clear c6b0
     try clear c6b1
     try clear c10
     try clear c11
     try clear c12
     try clear c18
     try clear c19
     try clear c20
     try clear c26
     try clear c26b0
     try clear c26b1
     try clear p2
     obtain ⟨kq, x53_17, rfl, HA, HJ17, HO_5, HO_6, HO_9, HO_10, HB⟩ := hcut
     cases kq with
     | zero => exact absurd HA.out (by simp [lanyardlaw06_NatInverses.j1])
     | succ kj17 =>
      have H := HA.out
      clear HA
      simp only [lanyardlaw06_NatInverses.j1] at H
      by_cases c31 : x53_17 = true
      ·subst c31
       have H1 : (some false) = some r := by rw [if_pos rfl] at H; exact H
       clear H
       have H := H1
       clear H1
       obtain rfl := Option.some.inj H
       go_wp2
       go_ret
       exact ⟨rfl_, Bu HB⟩
      ·replace c31 := Bool.eq_false_iff.mpr c31
       subst c31
       have H1 : ((lanyardref06_Cmp.f kj17 t690 (([2] : List Int))).bind fun t708 => (if t708 < 0 then (if t701 = 2 then (some ((t700.length : Int) == 0)) else (some false)) else ((lanyardref06_Cmp.f kj17 t697 (([1] : List Int))).bind fun t712 => (if t712 = 0 then ((lanyardref06_Of.f kj17 t700).bind fun t713 => ((lanyardref06_Mul.f kj17 t713 t687).bind fun t716 => ((lanyardref06_Div.f kj17 t716 t690).bind fun bt719 => (if t701 = 0 then ((lanyardref06_Of.f kj17 t700).bind fun t725 => ((lanyardref06_Cmp.f kj17 t725 t690).bind fun t728 => (if t728 < 0 then ((lanyardref06_Cmp.f kj17 bt719.2 (([1] : List Int))).bind fun t732 => (if t732 = 0 then (if (t700.length : Int) = 0 then (some true) else (if 0 < (t700.length : Int) then (some ((rd t700 0) != 0)) else (none))) else (some false))) else (some false)))) else (some false))))) else (if t701 = 20 then (some ((t700.length : Int) == 0)) else (some false)))))) = some r := by rw [if_neg (show ¬ (false = true) by decide)] at H; exact H
       clear H
       have H := H1
       clear H1
       obtain ⟨y705, hy705⟩ : ∃ y_ : List Int, y_ = (([2] : List Int)) := ⟨_, rfl⟩
       replace H : ((lanyardref06_Cmp.f kj17 t690 y705).bind fun t708 => (if t708 < 0 then (if t701 = 2 then (some ((t700.length : Int) == 0)) else (some false)) else ((lanyardref06_Cmp.f kj17 t697 (([1] : List Int))).bind fun t712 => (if t712 = 0 then ((lanyardref06_Of.f kj17 t700).bind fun t713 => ((lanyardref06_Mul.f kj17 t713 t687).bind fun t716 => ((lanyardref06_Div.f kj17 t716 t690).bind fun bt719 => (if t701 = 0 then ((lanyardref06_Of.f kj17 t700).bind fun t725 => ((lanyardref06_Cmp.f kj17 t725 t690).bind fun t728 => (if t728 < 0 then ((lanyardref06_Cmp.f kj17 bt719.2 (([1] : List Int))).bind fun t732 => (if t732 = 0 then (if (t700.length : Int) = 0 then (some true) else (if 0 < (t700.length : Int) then (some ((rd t700 0) != 0)) else (none))) else (some false))) else (some false)))) else (some false))))) else (if t701 = 20 then (some ((t700.length : Int) == 0)) else (some false)))))) = some r := by first | (rw [hy705]; with_reducible exact H) | (have H2_ := (Option.bind_some _ _).symm.trans H; rw [hy705]; with_reducible exact H2_) | (have H2_ := (Option.bind_some _ _).symm.trans H; with_reducible exact H2_) | with_reducible exact H | (rw [hy705]; exact H) | exact H
       have Ny705 := Aside0.mk hy705
       clear hy705
       replace H := Option.bind_eq_some_iff.mp H
       obtain ⟨t708, A320, H⟩ := H
       replace H : (if t708 < 0 then (if t701 = 2 then (some ((t700.length : Int) == 0)) else (some false)) else ((lanyardref06_Cmp.f kj17 t697 (([1] : List Int))).bind fun t712 => (if t712 = 0 then ((lanyardref06_Of.f kj17 t700).bind fun t713 => ((lanyardref06_Mul.f kj17 t713 t687).bind fun t716 => ((lanyardref06_Div.f kj17 t716 t690).bind fun bt719 => (if t701 = 0 then ((lanyardref06_Of.f kj17 t700).bind fun t725 => ((lanyardref06_Cmp.f kj17 t725 t690).bind fun t728 => (if t728 < 0 then ((lanyardref06_Cmp.f kj17 bt719.2 (([1] : List Int))).bind fun t732 => (if t732 = 0 then (if (t700.length : Int) = 0 then (some true) else (if 0 < (t700.length : Int) then (some ((rd t700 0) != 0)) else (none))) else (some false))) else (some false)))) else (some false))))) else (if t701 = 20 then (some ((t700.length : Int) == 0)) else (some false))))) = some r := H
       have A32 := Aside0.mk A320
       clear A320
       by_cases c33 : t708 < 0
       ·rw [if_pos c33] at H
        have c33b0 : decide (t708 < 0) = true := decide_eq_true c33
        clear c33
        by_cases c34 : t701 = 2
        ·rw [if_pos c34] at H
         have c34b0 : (t701 == 2) = true := beq_iff_eq.mpr c34
         have c34b1 : (t701 != 2) = false := bne_eq_false_iff_eq.mpr c34
         clear c34
         obtain rfl := Option.some.inj H
         go_wp2_with (first | ((with_reducible refine gate_dst (N := 55) rfl ?_); (try (refine gate_guard (by rfl) ?_; dsimp only)); refine litI .i64 3 55 [2] [.int .i64 2] ?hr ?_; (case hr => first | (go_simp; done) | (go_simp; rfl)); intro v706 w35 ho36 hb; (first | rw [← Ny705.out] at ho36 | (simp only [Int.reduceToNat] at ho36; rw [← Ny705.out] at ho36)); have n0_ := Ve HO_5 (Kd.R_base ho36) hb; have n1_ := Ve HO_6 (Kd.R_base ho36) hb; have n2_ := Ve HO_9 (Kd.R_base ho36) hb; have n3_ := Rb HO_10 hb; have n4_ := Aside0.mk (Kd.R_lower ho36 (Bz HB)); have n5_ := Bs HB hb; clear HO_5 HO_6 HO_9 HO_10 HB; revert n0_ n1_ n2_ n3_ n4_ n5_; intro HO_5 HO_6 HO_9 HO_10 HO707 HB; clear hb ho36; obtain ⟨Ao37, co37, eo37⟩ := Kd.R_slice HO707.out; subst eo37) | ((with_reducible refine gate_callee (f := 21) rfl ?_); refine goesA (some 56) Tryd.func21 #[.slice Ao23 t690.length co23, .slice Ao37 y705.length co37] rfl ?_; (with_reducible refine (lanyardref06_Cmp.calls kj17 _ _ t690 _ _ y705 t708 _ ?side1 ?side2 ?side3 ?side4 A32.out).mono ?_); (case side1 => exact Cu (Kd.V_reads' HO_6.out).2.2); (case side2 => exact (Kd.V_reads' HO_6.out).2.1); (case side3 => exact Cu (Kd.R_reads' HO707.out).2.2); (case side4 => exact (Kd.R_reads' HO707.out).2.1); rintro e w' ⟨rfl, ⟨nd, rfl⟩⟩; refine ⟨_, rfl, ?_⟩; obtain ⟨Ao38, co38, eo38⟩ := Kd.R_slice HO_10.out; subst eo38))
         go_ret
         exact ⟨rfl_, Bu HB⟩
        ·rw [if_neg c34] at H
         have c34b0 : (t701 == 2) = false := beq_eq_false_iff_ne.mpr c34
         have c34b1 : (t701 != 2) = true := bne_iff_ne.mpr c34
         obtain rfl := Option.some.inj H
         go_wp2_with (first | ((with_reducible refine gate_dst (N := 55) rfl ?_); (try (refine gate_guard (by rfl) ?_; dsimp only)); refine litI .i64 3 55 [2] [.int .i64 2] ?hr ?_; (case hr => first | (go_simp; done) | (go_simp; rfl)); intro v706 w39 ho40 hb; (first | rw [← Ny705.out] at ho40 | (simp only [Int.reduceToNat] at ho40; rw [← Ny705.out] at ho40)); have n0_ := Ve HO_5 (Kd.R_base ho40) hb; have n1_ := Ve HO_6 (Kd.R_base ho40) hb; have n2_ := Ve HO_9 (Kd.R_base ho40) hb; have n3_ := Rb HO_10 hb; have n4_ := Aside0.mk (Kd.R_lower ho40 (Bz HB)); have n5_ := Bs HB hb; clear HO_5 HO_6 HO_9 HO_10 HB; revert n0_ n1_ n2_ n3_ n4_ n5_; intro HO_5 HO_6 HO_9 HO_10 HO707 HB; clear hb ho40; obtain ⟨Ao41, co41, eo41⟩ := Kd.R_slice HO707.out; subst eo41) | ((with_reducible refine gate_callee (f := 21) rfl ?_); refine goesA (some 56) Tryd.func21 #[.slice Ao23 t690.length co23, .slice Ao41 y705.length co41] rfl ?_; (with_reducible refine (lanyardref06_Cmp.calls kj17 _ _ t690 _ _ y705 t708 _ ?side1 ?side2 ?side3 ?side4 A32.out).mono ?_); (case side1 => exact Cu (Kd.V_reads' HO_6.out).2.2); (case side2 => exact (Kd.V_reads' HO_6.out).2.1); (case side3 => exact Cu (Kd.R_reads' HO707.out).2.2); (case side4 => exact (Kd.R_reads' HO707.out).2.1); rintro e w' ⟨rfl, ⟨nd, rfl⟩⟩; refine ⟨_, rfl, ?_⟩))
         go_ret
         exact ⟨rfl_, Bu HB⟩
       ·rw [if_neg c33] at H
        have c33b0 : decide (t708 < 0) = false := decide_eq_false c33
        clear c33
        obtain ⟨y709, hy709⟩ : ∃ y_ : List Int, y_ = (([1] : List Int)) := ⟨_, rfl⟩
        replace H : ((lanyardref06_Cmp.f kj17 t697 y709).bind fun t712 => (if t712 = 0 then ((lanyardref06_Of.f kj17 t700).bind fun t713 => ((lanyardref06_Mul.f kj17 t713 t687).bind fun t716 => ((lanyardref06_Div.f kj17 t716 t690).bind fun bt719 => (if t701 = 0 then ((lanyardref06_Of.f kj17 t700).bind fun t725 => ((lanyardref06_Cmp.f kj17 t725 t690).bind fun t728 => (if t728 < 0 then ((lanyardref06_Cmp.f kj17 bt719.2 (([1] : List Int))).bind fun t732 => (if t732 = 0 then (if (t700.length : Int) = 0 then (some true) else (if 0 < (t700.length : Int) then (some ((rd t700 0) != 0)) else (none))) else (some false))) else (some false)))) else (some false))))) else (if t701 = 20 then (some ((t700.length : Int) == 0)) else (some false)))) = some r := by first | (rw [hy709]; with_reducible exact H) | (have H2_ := (Option.bind_some _ _).symm.trans H; rw [hy709]; with_reducible exact H2_) | (have H2_ := (Option.bind_some _ _).symm.trans H; with_reducible exact H2_) | with_reducible exact H | (rw [hy709]; exact H) | exact H
        have Ny709 := Aside0.mk hy709
        clear hy709
        replace H := Option.bind_eq_some_iff.mp H
        obtain ⟨t712, A420, H⟩ := H
        replace H : (if t712 = 0 then ((lanyardref06_Of.f kj17 t700).bind fun t713 => ((lanyardref06_Mul.f kj17 t713 t687).bind fun t716 => ((lanyardref06_Div.f kj17 t716 t690).bind fun bt719 => (if t701 = 0 then ((lanyardref06_Of.f kj17 t700).bind fun t725 => ((lanyardref06_Cmp.f kj17 t725 t690).bind fun t728 => (if t728 < 0 then ((lanyardref06_Cmp.f kj17 bt719.2 (([1] : List Int))).bind fun t732 => (if t732 = 0 then (if (t700.length : Int) = 0 then (some true) else (if 0 < (t700.length : Int) then (some ((rd t700 0) != 0)) else (none))) else (some false))) else (some false)))) else (some false))))) else (if t701 = 20 then (some ((t700.length : Int) == 0)) else (some false))) = some r := H
        have A42 := Aside0.mk A420
        clear A420
        by_cases c43 : t712 = 0
        ·rw [if_pos c43] at H
         have c43b0 : (t712 == 0) = true := beq_iff_eq.mpr c43
         have c43b1 : (t712 != 0) = false := bne_eq_false_iff_eq.mpr c43
         clear c43
         replace H := Option.bind_eq_some_iff.mp H
         obtain ⟨t713, A440, H⟩ := H
         replace H : ((lanyardref06_Mul.f kj17 t713 t687).bind fun t716 => ((lanyardref06_Div.f kj17 t716 t690).bind fun bt719 => (if t701 = 0 then ((lanyardref06_Of.f kj17 t700).bind fun t725 => ((lanyardref06_Cmp.f kj17 t725 t690).bind fun t728 => (if t728 < 0 then ((lanyardref06_Cmp.f kj17 bt719.2 (([1] : List Int))).bind fun t732 => (if t732 = 0 then (if (t700.length : Int) = 0 then (some true) else (if 0 < (t700.length : Int) then (some ((rd t700 0) != 0)) else (none))) else (some false))) else (some false)))) else (some false)))) = some r := H
         have A44 := Aside0.mk A440
         clear A440
         replace H := Option.bind_eq_some_iff.mp H
         obtain ⟨t716, A450, H⟩ := H
         replace H : ((lanyardref06_Div.f kj17 t716 t690).bind fun bt719 => (if t701 = 0 then ((lanyardref06_Of.f kj17 t700).bind fun t725 => ((lanyardref06_Cmp.f kj17 t725 t690).bind fun t728 => (if t728 < 0 then ((lanyardref06_Cmp.f kj17 bt719.2 (([1] : List Int))).bind fun t732 => (if t732 = 0 then (if (t700.length : Int) = 0 then (some true) else (if 0 < (t700.length : Int) then (some ((rd t700 0) != 0)) else (none))) else (some false))) else (some false)))) else (some false))) = some r := H
         have A45 := Aside0.mk A450
         clear A450
         replace H := Option.bind_eq_some_iff.mp H
         obtain ⟨⟨t719, t722⟩, A460, H⟩ := H
         replace H : (if t701 = 0 then ((lanyardref06_Of.f kj17 t700).bind fun t725 => ((lanyardref06_Cmp.f kj17 t725 t690).bind fun t728 => (if t728 < 0 then ((lanyardref06_Cmp.f kj17 t722 (([1] : List Int))).bind fun t732 => (if t732 = 0 then (if (t700.length : Int) = 0 then (some true) else (if 0 < (t700.length : Int) then (some ((rd t700 0) != 0)) else (none))) else (some false))) else (some false)))) else (some false)) = some r := H
         have A46 := Aside0.mk A460
         clear A460
         by_cases c47 : t701 = 0
         ·rw [if_pos c47] at H
          have c47b0 : (t701 == 0) = true := beq_iff_eq.mpr c47
          have c47b1 : (t701 != 0) = false := bne_eq_false_iff_eq.mpr c47
          clear c47
          replace H := Option.bind_eq_some_iff.mp H
          obtain ⟨t725, A480, H⟩ := H
          replace H : ((lanyardref06_Cmp.f kj17 t725 t690).bind fun t728 => (if t728 < 0 then ((lanyardref06_Cmp.f kj17 t722 (([1] : List Int))).bind fun t732 => (if t732 = 0 then (if (t700.length : Int) = 0 then (some true) else (if 0 < (t700.length : Int) then (some ((rd t700 0) != 0)) else (none))) else (some false))) else (some false))) = some r := H
          have A48 := Aside0.mk A480
          clear A480
          replace H := Option.bind_eq_some_iff.mp H
          obtain ⟨t728, A490, H⟩ := H
          replace H : (if t728 < 0 then ((lanyardref06_Cmp.f kj17 t722 (([1] : List Int))).bind fun t732 => (if t732 = 0 then (if (t700.length : Int) = 0 then (some true) else (if 0 < (t700.length : Int) then (some ((rd t700 0) != 0)) else (none))) else (some false))) else (some false)) = some r := H
          have A49 := Aside0.mk A490
          clear A490
          by_cases c50 : t728 < 0
          ·rw [if_pos c50] at H
           have c50b0 : decide (t728 < 0) = true := decide_eq_true c50
           clear c50
           obtain ⟨y729, hy729⟩ : ∃ y_ : List Int, y_ = (([1] : List Int)) := ⟨_, rfl⟩
           replace H : ((lanyardref06_Cmp.f kj17 t722 y729).bind fun t732 => (if t732 = 0 then (if (t700.length : Int) = 0 then (some true) else (if 0 < (t700.length : Int) then (some ((rd t700 0) != 0)) else (none))) else (some false))) = some r := by first | (rw [hy729]; with_reducible exact H) | (have H2_ := (Option.bind_some _ _).symm.trans H; rw [hy729]; with_reducible exact H2_) | (have H2_ := (Option.bind_some _ _).symm.trans H; with_reducible exact H2_) | with_reducible exact H | (rw [hy729]; exact H) | exact H
           have Ny729 := Aside0.mk hy729
           clear hy729
           replace H := Option.bind_eq_some_iff.mp H
           obtain ⟨t732, A510, H⟩ := H
           replace H : (if t732 = 0 then (if (t700.length : Int) = 0 then (some true) else (if 0 < (t700.length : Int) then (some ((rd t700 0) != 0)) else (none))) else (some false)) = some r := H
           have A51 := Aside0.mk A510
           clear A510
           by_cases c52 : t732 = 0
           ·rw [if_pos c52] at H
            have c52b0 : (t732 == 0) = true := beq_iff_eq.mpr c52
            have c52b1 : (t732 != 0) = false := bne_eq_false_iff_eq.mpr c52
            clear c52
            by_cases c53 : (t700.length : Int) = 0
            ·rw [if_pos c53] at H
             have c53b0 : ((t700.length : Int) == 0) = true := beq_iff_eq.mpr c53
             have c53b1 : ((t700.length : Int) != 0) = false := bne_eq_false_iff_eq.mpr c53
             clear c53
             obtain rfl := Option.some.inj H
             go_wp2_with (first | ((with_reducible refine gate_dst (N := 55) rfl ?_); (try (refine gate_guard (by rfl) ?_; dsimp only)); refine litI .i64 3 55 [2] [.int .i64 2] ?hr ?_; (case hr => first | (go_simp; done) | (go_simp; rfl)); intro v706 w54 ho55 hb; (first | rw [← Ny705.out] at ho55 | (simp only [Int.reduceToNat] at ho55; rw [← Ny705.out] at ho55)); have n0_ := Ve HO_5 (Kd.R_base ho55) hb; have n1_ := Ve HO_6 (Kd.R_base ho55) hb; have n2_ := Ve HO_9 (Kd.R_base ho55) hb; have n3_ := Rb HO_10 hb; have n4_ := Aside0.mk (Kd.R_lower ho55 (Bz HB)); have n5_ := Bs HB hb; clear HO_5 HO_6 HO_9 HO_10 HB; revert n0_ n1_ n2_ n3_ n4_ n5_; intro HO_5 HO_6 HO_9 HO_10 HO707 HB; clear hb ho55; obtain ⟨Ao56, co56, eo56⟩ := Kd.R_slice HO707.out; subst eo56) | ((with_reducible refine gate_callee (f := 21) rfl ?_); refine goesA (some 56) Tryd.func21 #[.slice Ao23 t690.length co23, .slice Ao56 y705.length co56] rfl ?_; (with_reducible refine (lanyardref06_Cmp.calls kj17 _ _ t690 _ _ y705 t708 _ ?side1 ?side2 ?side3 ?side4 A32.out).mono ?_); (case side1 => exact Cu (Kd.V_reads' HO_6.out).2.2); (case side2 => exact (Kd.V_reads' HO_6.out).2.1); (case side3 => exact Cu (Kd.R_reads' HO707.out).2.2); (case side4 => exact (Kd.R_reads' HO707.out).2.1); rintro e w' ⟨rfl, ⟨nd, rfl⟩⟩; refine ⟨_, rfl, ?_⟩) | ((with_reducible refine gate_dst (N := 66) rfl ?_); (try (refine gate_guard (by rfl) ?_; dsimp only)); refine litI .i64 3 66 [1] [.int .i64 1] ?hr ?_; (case hr => first | (go_simp; done) | (go_simp; rfl)); intro v710 w57 ho58 hb; (first | rw [← Ny709.out] at ho58 | (simp only [Int.reduceToNat] at ho58; rw [← Ny709.out] at ho58)); have n0_ := Ve HO_5 (Kd.R_base ho58) hb; have n1_ := Ve HO_6 (Kd.R_base ho58) hb; have n2_ := Ve HO_9 (Kd.R_base ho58) hb; have n3_ := Rb HO_10 hb; have n4_ := Re HO707 (Kd.R_base ho58) hb; have n5_ := Aside0.mk (Kd.R_lower (Kd.R_new' ho58 (Kd.R_lt (Ru HO707))) (Bz HB)); have n6_ := Bs HB hb; clear HO_5 HO_6 HO_9 HO_10 HO707 HB; revert n0_ n1_ n2_ n3_ n4_ n5_ n6_; intro HO_5 HO_6 HO_9 HO_10 HO707 HO711 HB; clear hb ho58; obtain ⟨Ao59, co59, eo59⟩ := Kd.V_slice HO_9.out; subst eo59; obtain ⟨Ao60, co60, eo60⟩ := Kd.R_slice HO711.out; subst eo60) | ((with_reducible refine gate_callee (f := 21) rfl ?_); refine goesA (some 67) Tryd.func21 #[.slice Ao59 t697.length co59, .slice Ao60 y709.length co60] rfl ?_; (with_reducible refine (lanyardref06_Cmp.calls kj17 _ _ t697 _ _ y709 t712 _ ?side1 ?side2 ?side3 ?side4 A42.out).mono ?_); (case side1 => exact Cu (Kd.V_reads' HO_9.out).2.2); (case side2 => exact (Kd.V_reads' HO_9.out).2.1); (case side3 => exact Cu (Kd.R_reads' HO711.out).2.2); (case side4 => exact (Kd.R_reads' HO711.out).2.1); rintro e w' ⟨rfl, ⟨nd, rfl⟩⟩; refine ⟨_, rfl, ?_⟩; obtain ⟨Ao61, co61, eo61⟩ := Kd.R_slice HO_10.out; subst eo61) | ((with_reducible refine gate_callee (f := 12) rfl ?_); refine goesA (some 78) Tryd.func12 #[.slice Ao61 t700.length co61] rfl ?_; (with_reducible refine (lanyardref06_Of.calls kj17 _ _ t700 t713 _ ?side1 ?side2 A44.out).mono ?_); (case side1 => exact Cu (Kd.R_reads' HO_10.out).2.2); (case side2 => exact (Kd.R_reads' HO_10.out).2.1); rintro e w62 ⟨v714, rfl, ho0, hb⟩; refine ⟨_, rfl, ?_⟩; have n0_ := Vb HO_5 hb; have n1_ := Vb HO_6 hb; have n2_ := Vb HO_9 hb; have n3_ := Rb HO_10 hb; have n4_ := Rb HO707 hb; have n5_ := Rb HO711 hb; have n6_ := Aside0.mk (Kd.V_lower (Kd.V_mono (ok' := fun k_ => some k_ ≠ (.slice Ao61 t700.length co61 : Value).ownBlock ∧ some k_ ≠ (.slice Ao56 y705.length co56 : Value).ownBlock ∧ some k_ ≠ (.slice Ao60 y709.length co60 : Value).ownBlock) ho0 (fun k_ hk_ => ⟨(Kd.fresh' (Kd.R_lt (Ru HO_10)) k_ hk_), (Kd.fresh' (Kd.R_lt (Ru HO707)) k_ hk_), (Kd.fresh' (Kd.R_lt (Ru HO711)) k_ hk_)⟩)) (Bz HB)); have n7_ := Bs HB hb; clear HO_5 HO_6 HO_9 HO_10 HO707 HO711 HB; revert n0_ n1_ n2_ n3_ n4_ n5_ n6_ n7_; intro HO_5 HO_6 HO_9 HO_10 HO707 HO711 HO715 HB; (try clear hb); (try clear hb2); (try clear hk); (try clear hi); (try clear ho0); obtain ⟨Ao63, co63, eo63⟩ := Kd.V_slice HO715.out; subst eo63) | ((with_reducible refine gate_callee (f := 22) rfl ?_); refine goesA (some 80) Tryd.func22 #[.slice Ao63 t713.length co63, .slice Ao22 t687.length co22] rfl ?_; (with_reducible refine (lanyardref06_Mul.calls kj17 _ _ t713 _ _ t687 t716 _ ?side1 ?side2 ?side3 ?side4 A45.out).mono ?_); (case side1 => exact Cu (Kd.V_reads' HO715.out).2.2); (case side2 => exact (Kd.V_reads' HO715.out).2.1); (case side3 => exact Cu (Kd.V_reads' HO_5.out).2.2); (case side4 => exact (Kd.V_reads' HO_5.out).2.1); rintro e w64 ⟨v717, rfl, ho0, hb⟩; refine ⟨_, rfl, ?_⟩; have n0_ := Vb HO_5 hb; have n1_ := Vb HO_6 hb; have n2_ := Vb HO_9 hb; have n3_ := Rb HO_10 hb; have n4_ := Rb HO707 hb; have n5_ := Rb HO711 hb; have n6_ := Vb HO715 hb; have n7_ := Aside0.mk (Kd.V_lower (Kd.V_mono (ok' := fun k_ => some k_ ≠ (.slice Ao61 t700.length co61 : Value).ownBlock ∧ some k_ ≠ (.slice Ao56 y705.length co56 : Value).ownBlock ∧ some k_ ≠ (.slice Ao60 y709.length co60 : Value).ownBlock) ho0 (fun k_ hk_ => ⟨(Kd.fresh' (Kd.R_lt (Ru HO_10)) k_ hk_), (Kd.fresh' (Kd.R_lt (Ru HO707)) k_ hk_), (Kd.fresh' (Kd.R_lt (Ru HO711)) k_ hk_)⟩)) (Bz HB)); have n8_ := Bs HB hb; clear HO_5 HO_6 HO_9 HO_10 HO707 HO711 HO715 HB; revert n0_ n1_ n2_ n3_ n4_ n5_ n6_ n7_ n8_; intro HO_5 HO_6 HO_9 HO_10 HO707 HO711 HO715 HO718 HB; (try clear hb); (try clear hb2); (try clear hk); (try clear hi); (try clear ho0); obtain ⟨Ao65, co65, eo65⟩ := Kd.V_slice HO718.out; subst eo65) | ((with_reducible refine gate_callee (f := 14) rfl ?_); refine goesA (some 82) Tryd.func14 #[.slice Ao65 t716.length co65, .slice Ao23 t690.length co23] rfl ?_; (with_reducible refine (lanyardref06_Div.calls kj17 _ _ t716 (fun k_ => ((some k_ ≠ (.slice Ao61 t700.length co61 : Value).ownBlock ∧ some k_ ≠ (.slice Ao56 y705.length co56 : Value).ownBlock) ∧ some k_ ≠ (.slice Ao60 y709.length co60 : Value).ownBlock)) _ _ t690 t719 t722 _ ?side1 ?side2 ?side3 A46.out).mono ?_); (case side1 => exact Cu (Kd.V_reads' HO718.out).2.2); (case side2 => exact (Kd.V_reads' HO718.out).2.1); (case side3 => exact HO_6.out); rintro e w66 ⟨v720, v723, rfl, ho0, ho1, hb⟩; refine ⟨_, rfl, ?_⟩; have n0_ := Vb HO_5 hb; have n1_ := Vb HO_6 hb; have n2_ := Vb HO_9 hb; have n3_ := Rb HO_10 hb; have n4_ := Rb HO707 hb; have n5_ := Rb HO711 hb; have n6_ := Vb HO715 hb; have n7_ := Vb HO718 hb; have n8_ := Aside0.mk (Kd.V_lower (Kd.V_mono (ok' := fun k_ => some k_ ≠ (.slice Ao61 t700.length co61 : Value).ownBlock ∧ some k_ ≠ (.slice Ao56 y705.length co56 : Value).ownBlock ∧ some k_ ≠ (.slice Ao60 y709.length co60 : Value).ownBlock) ho0 (fun k_ hk_ => ⟨Or.elim hk_ (fun hs_ => hs_.1.1) (fun hn_ => (Kd.fresh' (Kd.R_lt (Ru HO_10)) k_ hn_)), Or.elim hk_ (fun hs_ => hs_.1.2) (fun hn_ => (Kd.fresh' (Kd.R_lt (Ru HO707)) k_ hn_)), Or.elim hk_ (fun hs_ => hs_.2) (fun hn_ => (Kd.fresh' (Kd.R_lt (Ru HO711)) k_ hn_))⟩)) (Bz HB)); have n9_ := Aside0.mk (Kd.V_lower (Kd.V_mono (ok' := fun k_ => some k_ ≠ (.slice Ao61 t700.length co61 : Value).ownBlock ∧ some k_ ≠ (.slice Ao56 y705.length co56 : Value).ownBlock ∧ some k_ ≠ (.slice Ao60 y709.length co60 : Value).ownBlock) ho1 (fun k_ hk_ => ⟨Or.elim hk_ (fun hs_ => hs_.1.1) (fun hn_ => (Kd.fresh' (Kd.R_lt (Ru HO_10)) k_ hn_)), Or.elim hk_ (fun hs_ => hs_.1.2) (fun hn_ => (Kd.fresh' (Kd.R_lt (Ru HO707)) k_ hn_)), Or.elim hk_ (fun hs_ => hs_.2) (fun hn_ => (Kd.fresh' (Kd.R_lt (Ru HO711)) k_ hn_))⟩)) (Bz HB)); have n10_ := Bs HB hb; clear HO_5 HO_6 HO_9 HO_10 HO707 HO711 HO715 HO718 HB; revert n0_ n1_ n2_ n3_ n4_ n5_ n6_ n7_ n8_ n9_ n10_; intro HO_5 HO_6 HO_9 HO_10 HO707 HO711 HO715 HO718 HO721 HO724 HB; (try clear hb); (try clear hb2); (try clear hk); (try clear hi); (try clear ho0); (try clear ho1)) | (go_at_call 12; (with_reducible refine (lanyardref06_Of.calls kj17 _ _ t700 t725 _ ?side1 ?side2 A48.out).mono ?_); (case side1 => exact Cu (Kd.R_reads' HO_10.out).2.2); (case side2 => exact (Kd.R_reads' HO_10.out).2.1); rintro e w67 ⟨v726, rfl, ho0, hb⟩; have n0_ := Vb HO_5 hb; have n1_ := Vb HO_6 hb; have n2_ := Vb HO_9 hb; have n3_ := Rb HO_10 hb; have n4_ := Rb HO707 hb; have n5_ := Rb HO711 hb; have n6_ := Vb HO715 hb; have n7_ := Vb HO718 hb; have n8_ := Vb HO721 hb; have n9_ := Vb HO724 hb; have n10_ := Aside0.mk (Kd.V_lower (Kd.V_mono (ok' := fun k_ => some k_ ≠ (.slice Ao61 t700.length co61 : Value).ownBlock ∧ some k_ ≠ (.slice Ao56 y705.length co56 : Value).ownBlock ∧ some k_ ≠ (.slice Ao60 y709.length co60 : Value).ownBlock) ho0 (fun k_ hk_ => ⟨(Kd.fresh' (Kd.R_lt (Ru HO_10)) k_ hk_), (Kd.fresh' (Kd.R_lt (Ru HO707)) k_ hk_), (Kd.fresh' (Kd.R_lt (Ru HO711)) k_ hk_)⟩)) (Bz HB)); have n11_ := Bs HB hb; clear HO_5 HO_6 HO_9 HO_10 HO707 HO711 HO715 HO718 HO721 HO724 HB; revert n0_ n1_ n2_ n3_ n4_ n5_ n6_ n7_ n8_ n9_ n10_ n11_; intro HO_5 HO_6 HO_9 HO_10 HO707 HO711 HO715 HO718 HO721 HO724 HO727 HB; (try clear hb); (try clear hb2); (try clear hk); (try clear hi); (try clear ho0); obtain ⟨Ao68, co68, eo68⟩ := Kd.V_slice HO727.out; subst eo68) | (go_at_call 21; (with_reducible refine (lanyardref06_Cmp.calls kj17 _ _ t725 _ _ t690 t728 _ ?side1 ?side2 ?side3 ?side4 A49.out).mono ?_); (case side1 => exact Cu (Kd.V_reads' HO727.out).2.2); (case side2 => exact (Kd.V_reads' HO727.out).2.1); (case side3 => exact Cu (Kd.V_reads' HO_6.out).2.2); (case side4 => exact (Kd.V_reads' HO_6.out).2.1); rintro e w' ⟨rfl, ⟨nd, rfl⟩⟩) | ((with_reducible refine gate_dst (N := 96) rfl ?_); (try (refine gate_guard (by rfl) ?_; dsimp only)); refine litI .i64 3 96 [1] [.int .i64 1] ?hr ?_; (case hr => first | (go_simp; done) | (go_simp; rfl)); intro v730 w69 ho70 hb; (first | rw [← Ny729.out] at ho70 | (simp only [Int.reduceToNat] at ho70; rw [← Ny729.out] at ho70)); have n0_ := Ve HO_5 (Kd.R_base ho70) hb; have n1_ := Ve HO_6 (Kd.R_base ho70) hb; have n2_ := Ve HO_9 (Kd.R_base ho70) hb; have n3_ := Rb HO_10 hb; have n4_ := Re HO707 (Kd.R_base ho70) hb; have n5_ := Re HO711 (Kd.R_base ho70) hb; have n6_ := Ve HO715 (Kd.R_base ho70) hb; have n7_ := Ve HO718 (Kd.R_base ho70) hb; have n8_ := Ve HO721 (Kd.R_base ho70) hb; have n9_ := Ve HO724 (Kd.R_base ho70) hb; have n10_ := Ve HO727 (Kd.R_base ho70) hb; have n11_ := Aside0.mk (Kd.R_lower (Kd.R_new' (Kd.R_new' ho70 (Kd.R_lt (Ru HO707))) (Kd.R_lt (Ru HO711))) (Bz HB)); have n12_ := Bs HB hb; clear HO_5 HO_6 HO_9 HO_10 HO707 HO711 HO715 HO718 HO721 HO724 HO727 HB; revert n0_ n1_ n2_ n3_ n4_ n5_ n6_ n7_ n8_ n9_ n10_ n11_ n12_; intro HO_5 HO_6 HO_9 HO_10 HO707 HO711 HO715 HO718 HO721 HO724 HO727 HO731 HB; clear hb ho70; obtain ⟨Ao71, co71, eo71⟩ := Kd.V_slice HO724.out; subst eo71; obtain ⟨Ao72, co72, eo72⟩ := Kd.R_slice HO731.out; subst eo72) | (go_at_call 21; (with_reducible refine (lanyardref06_Cmp.calls kj17 _ _ t722 _ _ y729 t732 _ ?side1 ?side2 ?side3 ?side4 A51.out).mono ?_); (case side1 => exact Cu (Kd.V_reads' HO724.out).2.2); (case side2 => exact (Kd.V_reads' HO724.out).2.1); (case side3 => exact Cu (Kd.R_reads' HO731.out).2.2); (case side4 => exact (Kd.R_reads' HO731.out).2.1); rintro e w' ⟨rfl, ⟨nd, rfl⟩⟩))
             go_ret
             exact ⟨rfl_, Bu HB⟩
            ·rw [if_neg c53] at H
             have c53b0 : ((t700.length : Int) == 0) = false := beq_eq_false_iff_ne.mpr c53
             have c53b1 : ((t700.length : Int) != 0) = true := bne_iff_ne.mpr c53
             have c53b2 : ¬ (t700 = []) := fun h_ => c53 (by rw [h_]; rfl)
             by_cases c73 : 0 < (t700.length : Int)
             ·rw [if_pos c73] at H
              have c73b0 : decide (0 < (t700.length : Int)) = true := decide_eq_true c73
              have c73b1 : decide (0 < t700.length) = true := decide_eq_true (by omega)
              clear c73
              obtain rfl := Option.some.inj H
              go_wp2_with (first | ((with_reducible refine gate_dst (N := 55) rfl ?_); (try (refine gate_guard (by rfl) ?_; dsimp only)); refine litI .i64 3 55 [2] [.int .i64 2] ?hr ?_; (case hr => first | (go_simp; done) | (go_simp; rfl)); intro v706 w74 ho75 hb; (first | rw [← Ny705.out] at ho75 | (simp only [Int.reduceToNat] at ho75; rw [← Ny705.out] at ho75)); have n0_ := Ve HO_5 (Kd.R_base ho75) hb; have n1_ := Ve HO_6 (Kd.R_base ho75) hb; have n2_ := Ve HO_9 (Kd.R_base ho75) hb; have n3_ := Rb HO_10 hb; have n4_ := Aside0.mk (Kd.R_lower ho75 (Bz HB)); have n5_ := Bs HB hb; clear HO_5 HO_6 HO_9 HO_10 HB; revert n0_ n1_ n2_ n3_ n4_ n5_; intro HO_5 HO_6 HO_9 HO_10 HO707 HB; clear hb ho75; obtain ⟨Ao76, co76, eo76⟩ := Kd.R_slice HO707.out; subst eo76) | ((with_reducible refine gate_callee (f := 21) rfl ?_); refine goesA (some 56) Tryd.func21 #[.slice Ao23 t690.length co23, .slice Ao76 y705.length co76] rfl ?_; (with_reducible refine (lanyardref06_Cmp.calls kj17 _ _ t690 _ _ y705 t708 _ ?side1 ?side2 ?side3 ?side4 A32.out).mono ?_); (case side1 => exact Cu (Kd.V_reads' HO_6.out).2.2); (case side2 => exact (Kd.V_reads' HO_6.out).2.1); (case side3 => exact Cu (Kd.R_reads' HO707.out).2.2); (case side4 => exact (Kd.R_reads' HO707.out).2.1); rintro e w' ⟨rfl, ⟨nd, rfl⟩⟩; refine ⟨_, rfl, ?_⟩) | ((with_reducible refine gate_dst (N := 66) rfl ?_); (try (refine gate_guard (by rfl) ?_; dsimp only)); refine litI .i64 3 66 [1] [.int .i64 1] ?hr ?_; (case hr => first | (go_simp; done) | (go_simp; rfl)); intro v710 w77 ho78 hb; (first | rw [← Ny709.out] at ho78 | (simp only [Int.reduceToNat] at ho78; rw [← Ny709.out] at ho78)); have n0_ := Ve HO_5 (Kd.R_base ho78) hb; have n1_ := Ve HO_6 (Kd.R_base ho78) hb; have n2_ := Ve HO_9 (Kd.R_base ho78) hb; have n3_ := Rb HO_10 hb; have n4_ := Re HO707 (Kd.R_base ho78) hb; have n5_ := Aside0.mk (Kd.R_lower (Kd.R_new' ho78 (Kd.R_lt (Ru HO707))) (Bz HB)); have n6_ := Bs HB hb; clear HO_5 HO_6 HO_9 HO_10 HO707 HB; revert n0_ n1_ n2_ n3_ n4_ n5_ n6_; intro HO_5 HO_6 HO_9 HO_10 HO707 HO711 HB; clear hb ho78; obtain ⟨Ao79, co79, eo79⟩ := Kd.V_slice HO_9.out; subst eo79; obtain ⟨Ao80, co80, eo80⟩ := Kd.R_slice HO711.out; subst eo80) | ((with_reducible refine gate_callee (f := 21) rfl ?_); refine goesA (some 67) Tryd.func21 #[.slice Ao79 t697.length co79, .slice Ao80 y709.length co80] rfl ?_; (with_reducible refine (lanyardref06_Cmp.calls kj17 _ _ t697 _ _ y709 t712 _ ?side1 ?side2 ?side3 ?side4 A42.out).mono ?_); (case side1 => exact Cu (Kd.V_reads' HO_9.out).2.2); (case side2 => exact (Kd.V_reads' HO_9.out).2.1); (case side3 => exact Cu (Kd.R_reads' HO711.out).2.2); (case side4 => exact (Kd.R_reads' HO711.out).2.1); rintro e w' ⟨rfl, ⟨nd, rfl⟩⟩; refine ⟨_, rfl, ?_⟩; obtain ⟨Ao81, co81, eo81⟩ := Kd.R_slice HO_10.out; subst eo81) | ((with_reducible refine gate_callee (f := 12) rfl ?_); refine goesA (some 78) Tryd.func12 #[.slice Ao81 t700.length co81] rfl ?_; (with_reducible refine (lanyardref06_Of.calls kj17 _ _ t700 t713 _ ?side1 ?side2 A44.out).mono ?_); (case side1 => exact Cu (Kd.R_reads' HO_10.out).2.2); (case side2 => exact (Kd.R_reads' HO_10.out).2.1); rintro e w82 ⟨v714, rfl, ho0, hb⟩; refine ⟨_, rfl, ?_⟩; have n0_ := Vb HO_5 hb; have n1_ := Vb HO_6 hb; have n2_ := Vb HO_9 hb; have n3_ := Rb HO_10 hb; have n4_ := Rb HO707 hb; have n5_ := Rb HO711 hb; have n6_ := Aside0.mk (Kd.V_lower (Kd.V_mono (ok' := fun k_ => some k_ ≠ (.slice Ao81 t700.length co81 : Value).ownBlock ∧ some k_ ≠ (.slice Ao76 y705.length co76 : Value).ownBlock ∧ some k_ ≠ (.slice Ao80 y709.length co80 : Value).ownBlock) ho0 (fun k_ hk_ => ⟨(Kd.fresh' (Kd.R_lt (Ru HO_10)) k_ hk_), (Kd.fresh' (Kd.R_lt (Ru HO707)) k_ hk_), (Kd.fresh' (Kd.R_lt (Ru HO711)) k_ hk_)⟩)) (Bz HB)); have n7_ := Bs HB hb; clear HO_5 HO_6 HO_9 HO_10 HO707 HO711 HB; revert n0_ n1_ n2_ n3_ n4_ n5_ n6_ n7_; intro HO_5 HO_6 HO_9 HO_10 HO707 HO711 HO715 HB; (try clear hb); (try clear hb2); (try clear hk); (try clear hi); (try clear ho0); obtain ⟨Ao83, co83, eo83⟩ := Kd.V_slice HO715.out; subst eo83) | ((with_reducible refine gate_callee (f := 22) rfl ?_); refine goesA (some 80) Tryd.func22 #[.slice Ao83 t713.length co83, .slice Ao22 t687.length co22] rfl ?_; (with_reducible refine (lanyardref06_Mul.calls kj17 _ _ t713 _ _ t687 t716 _ ?side1 ?side2 ?side3 ?side4 A45.out).mono ?_); (case side1 => exact Cu (Kd.V_reads' HO715.out).2.2); (case side2 => exact (Kd.V_reads' HO715.out).2.1); (case side3 => exact Cu (Kd.V_reads' HO_5.out).2.2); (case side4 => exact (Kd.V_reads' HO_5.out).2.1); rintro e w84 ⟨v717, rfl, ho0, hb⟩; refine ⟨_, rfl, ?_⟩; have n0_ := Vb HO_5 hb; have n1_ := Vb HO_6 hb; have n2_ := Vb HO_9 hb; have n3_ := Rb HO_10 hb; have n4_ := Rb HO707 hb; have n5_ := Rb HO711 hb; have n6_ := Vb HO715 hb; have n7_ := Aside0.mk (Kd.V_lower (Kd.V_mono (ok' := fun k_ => some k_ ≠ (.slice Ao81 t700.length co81 : Value).ownBlock ∧ some k_ ≠ (.slice Ao76 y705.length co76 : Value).ownBlock ∧ some k_ ≠ (.slice Ao80 y709.length co80 : Value).ownBlock) ho0 (fun k_ hk_ => ⟨(Kd.fresh' (Kd.R_lt (Ru HO_10)) k_ hk_), (Kd.fresh' (Kd.R_lt (Ru HO707)) k_ hk_), (Kd.fresh' (Kd.R_lt (Ru HO711)) k_ hk_)⟩)) (Bz HB)); have n8_ := Bs HB hb; clear HO_5 HO_6 HO_9 HO_10 HO707 HO711 HO715 HB; revert n0_ n1_ n2_ n3_ n4_ n5_ n6_ n7_ n8_; intro HO_5 HO_6 HO_9 HO_10 HO707 HO711 HO715 HO718 HB; (try clear hb); (try clear hb2); (try clear hk); (try clear hi); (try clear ho0); obtain ⟨Ao85, co85, eo85⟩ := Kd.V_slice HO718.out; subst eo85) | ((with_reducible refine gate_callee (f := 14) rfl ?_); refine goesA (some 82) Tryd.func14 #[.slice Ao85 t716.length co85, .slice Ao23 t690.length co23] rfl ?_; (with_reducible refine (lanyardref06_Div.calls kj17 _ _ t716 (fun k_ => ((some k_ ≠ (.slice Ao81 t700.length co81 : Value).ownBlock ∧ some k_ ≠ (.slice Ao76 y705.length co76 : Value).ownBlock) ∧ some k_ ≠ (.slice Ao80 y709.length co80 : Value).ownBlock)) _ _ t690 t719 t722 _ ?side1 ?side2 ?side3 A46.out).mono ?_); (case side1 => exact Cu (Kd.V_reads' HO718.out).2.2); (case side2 => exact (Kd.V_reads' HO718.out).2.1); (case side3 => exact HO_6.out); rintro e w86 ⟨v720, v723, rfl, ho0, ho1, hb⟩; refine ⟨_, rfl, ?_⟩; have n0_ := Vb HO_5 hb; have n1_ := Vb HO_6 hb; have n2_ := Vb HO_9 hb; have n3_ := Rb HO_10 hb; have n4_ := Rb HO707 hb; have n5_ := Rb HO711 hb; have n6_ := Vb HO715 hb; have n7_ := Vb HO718 hb; have n8_ := Aside0.mk (Kd.V_lower (Kd.V_mono (ok' := fun k_ => some k_ ≠ (.slice Ao81 t700.length co81 : Value).ownBlock ∧ some k_ ≠ (.slice Ao76 y705.length co76 : Value).ownBlock ∧ some k_ ≠ (.slice Ao80 y709.length co80 : Value).ownBlock) ho0 (fun k_ hk_ => ⟨Or.elim hk_ (fun hs_ => hs_.1.1) (fun hn_ => (Kd.fresh' (Kd.R_lt (Ru HO_10)) k_ hn_)), Or.elim hk_ (fun hs_ => hs_.1.2) (fun hn_ => (Kd.fresh' (Kd.R_lt (Ru HO707)) k_ hn_)), Or.elim hk_ (fun hs_ => hs_.2) (fun hn_ => (Kd.fresh' (Kd.R_lt (Ru HO711)) k_ hn_))⟩)) (Bz HB)); have n9_ := Aside0.mk (Kd.V_lower (Kd.V_mono (ok' := fun k_ => some k_ ≠ (.slice Ao81 t700.length co81 : Value).ownBlock ∧ some k_ ≠ (.slice Ao76 y705.length co76 : Value).ownBlock ∧ some k_ ≠ (.slice Ao80 y709.length co80 : Value).ownBlock) ho1 (fun k_ hk_ => ⟨Or.elim hk_ (fun hs_ => hs_.1.1) (fun hn_ => (Kd.fresh' (Kd.R_lt (Ru HO_10)) k_ hn_)), Or.elim hk_ (fun hs_ => hs_.1.2) (fun hn_ => (Kd.fresh' (Kd.R_lt (Ru HO707)) k_ hn_)), Or.elim hk_ (fun hs_ => hs_.2) (fun hn_ => (Kd.fresh' (Kd.R_lt (Ru HO711)) k_ hn_))⟩)) (Bz HB)); have n10_ := Bs HB hb; clear HO_5 HO_6 HO_9 HO_10 HO707 HO711 HO715 HO718 HB; revert n0_ n1_ n2_ n3_ n4_ n5_ n6_ n7_ n8_ n9_ n10_; intro HO_5 HO_6 HO_9 HO_10 HO707 HO711 HO715 HO718 HO721 HO724 HB; (try clear hb); (try clear hb2); (try clear hk); (try clear hi); (try clear ho0); (try clear ho1)) | (go_at_call 12; (with_reducible refine (lanyardref06_Of.calls kj17 _ _ t700 t725 _ ?side1 ?side2 A48.out).mono ?_); (case side1 => exact Cu (Kd.R_reads' HO_10.out).2.2); (case side2 => exact (Kd.R_reads' HO_10.out).2.1); rintro e w87 ⟨v726, rfl, ho0, hb⟩; have n0_ := Vb HO_5 hb; have n1_ := Vb HO_6 hb; have n2_ := Vb HO_9 hb; have n3_ := Rb HO_10 hb; have n4_ := Rb HO707 hb; have n5_ := Rb HO711 hb; have n6_ := Vb HO715 hb; have n7_ := Vb HO718 hb; have n8_ := Vb HO721 hb; have n9_ := Vb HO724 hb; have n10_ := Aside0.mk (Kd.V_lower (Kd.V_mono (ok' := fun k_ => some k_ ≠ (.slice Ao81 t700.length co81 : Value).ownBlock ∧ some k_ ≠ (.slice Ao76 y705.length co76 : Value).ownBlock ∧ some k_ ≠ (.slice Ao80 y709.length co80 : Value).ownBlock) ho0 (fun k_ hk_ => ⟨(Kd.fresh' (Kd.R_lt (Ru HO_10)) k_ hk_), (Kd.fresh' (Kd.R_lt (Ru HO707)) k_ hk_), (Kd.fresh' (Kd.R_lt (Ru HO711)) k_ hk_)⟩)) (Bz HB)); have n11_ := Bs HB hb; clear HO_5 HO_6 HO_9 HO_10 HO707 HO711 HO715 HO718 HO721 HO724 HB; revert n0_ n1_ n2_ n3_ n4_ n5_ n6_ n7_ n8_ n9_ n10_ n11_; intro HO_5 HO_6 HO_9 HO_10 HO707 HO711 HO715 HO718 HO721 HO724 HO727 HB; (try clear hb); (try clear hb2); (try clear hk); (try clear hi); (try clear ho0); obtain ⟨Ao88, co88, eo88⟩ := Kd.V_slice HO727.out; subst eo88) | (go_at_call 21; (with_reducible refine (lanyardref06_Cmp.calls kj17 _ _ t725 _ _ t690 t728 _ ?side1 ?side2 ?side3 ?side4 A49.out).mono ?_); (case side1 => exact Cu (Kd.V_reads' HO727.out).2.2); (case side2 => exact (Kd.V_reads' HO727.out).2.1); (case side3 => exact Cu (Kd.V_reads' HO_6.out).2.2); (case side4 => exact (Kd.V_reads' HO_6.out).2.1); rintro e w' ⟨rfl, ⟨nd, rfl⟩⟩) | ((with_reducible refine gate_dst (N := 96) rfl ?_); (try (refine gate_guard (by rfl) ?_; dsimp only)); refine litI .i64 3 96 [1] [.int .i64 1] ?hr ?_; (case hr => first | (go_simp; done) | (go_simp; rfl)); intro v730 w89 ho90 hb; (first | rw [← Ny729.out] at ho90 | (simp only [Int.reduceToNat] at ho90; rw [← Ny729.out] at ho90)); have n0_ := Ve HO_5 (Kd.R_base ho90) hb; have n1_ := Ve HO_6 (Kd.R_base ho90) hb; have n2_ := Ve HO_9 (Kd.R_base ho90) hb; have n3_ := Rb HO_10 hb; have n4_ := Re HO707 (Kd.R_base ho90) hb; have n5_ := Re HO711 (Kd.R_base ho90) hb; have n6_ := Ve HO715 (Kd.R_base ho90) hb; have n7_ := Ve HO718 (Kd.R_base ho90) hb; have n8_ := Ve HO721 (Kd.R_base ho90) hb; have n9_ := Ve HO724 (Kd.R_base ho90) hb; have n10_ := Ve HO727 (Kd.R_base ho90) hb; have n11_ := Aside0.mk (Kd.R_lower (Kd.R_new' (Kd.R_new' ho90 (Kd.R_lt (Ru HO707))) (Kd.R_lt (Ru HO711))) (Bz HB)); have n12_ := Bs HB hb; clear HO_5 HO_6 HO_9 HO_10 HO707 HO711 HO715 HO718 HO721 HO724 HO727 HB; revert n0_ n1_ n2_ n3_ n4_ n5_ n6_ n7_ n8_ n9_ n10_ n11_ n12_; intro HO_5 HO_6 HO_9 HO_10 HO707 HO711 HO715 HO718 HO721 HO724 HO727 HO731 HB; clear hb ho90; obtain ⟨Ao91, co91, eo91⟩ := Kd.V_slice HO724.out; subst eo91; obtain ⟨Ao92, co92, eo92⟩ := Kd.R_slice HO731.out; subst eo92) | (go_at_call 21; (with_reducible refine (lanyardref06_Cmp.calls kj17 _ _ t722 _ _ y729 t732 _ ?side1 ?side2 ?side3 ?side4 A51.out).mono ?_); (case side1 => exact Cu (Kd.V_reads' HO724.out).2.2); (case side2 => exact (Kd.V_reads' HO724.out).2.1); (case side3 => exact Cu (Kd.R_reads' HO731.out).2.2); (case side4 => exact (Kd.R_reads' HO731.out).2.1); rintro e w' ⟨rfl, ⟨nd, rfl⟩⟩; have p733 : 0 ≤ (0 : Int) := (by omega); have q733 : 0 < (t700.length : Int) := of_decide_eq_true (by first | (with_reducible assumption) | assumption); obtain ⟨ad733, e733, hx733_0⟩ := Kd.at_int (Kd.R_reads' HO_10.out).2.2 0 p733 q733; cases e733; have qi733 : (0 < t700.length) = True := eq_true (by omega); (try rw [show ((0 : Int)).toNat = 0 from rfl] at hx733_0); (try rw [Addr.add_zero'] at hx733_0); replace p733 := eq_true p733; replace q733 := eq_true q733))
              go_ret
              exact ⟨rfl_, Bu HB⟩
             ·rw [if_neg c73] at H
              exact absurd H (by simp)
           ·rw [if_neg c52] at H
            have c52b0 : (t732 == 0) = false := beq_eq_false_iff_ne.mpr c52
            have c52b1 : (t732 != 0) = true := bne_iff_ne.mpr c52
            obtain rfl := Option.some.inj H
            go_wp2_with (first | ((with_reducible refine gate_dst (N := 55) rfl ?_); (try (refine gate_guard (by rfl) ?_; dsimp only)); refine litI .i64 3 55 [2] [.int .i64 2] ?hr ?_; (case hr => first | (go_simp; done) | (go_simp; rfl)); intro v706 w93 ho94 hb; (first | rw [← Ny705.out] at ho94 | (simp only [Int.reduceToNat] at ho94; rw [← Ny705.out] at ho94)); have n0_ := Ve HO_5 (Kd.R_base ho94) hb; have n1_ := Ve HO_6 (Kd.R_base ho94) hb; have n2_ := Ve HO_9 (Kd.R_base ho94) hb; have n3_ := Rb HO_10 hb; have n4_ := Aside0.mk (Kd.R_lower ho94 (Bz HB)); have n5_ := Bs HB hb; clear HO_5 HO_6 HO_9 HO_10 HB; revert n0_ n1_ n2_ n3_ n4_ n5_; intro HO_5 HO_6 HO_9 HO_10 HO707 HB; clear hb ho94; obtain ⟨Ao95, co95, eo95⟩ := Kd.R_slice HO707.out; subst eo95) | ((with_reducible refine gate_callee (f := 21) rfl ?_); refine goesA (some 56) Tryd.func21 #[.slice Ao23 t690.length co23, .slice Ao95 y705.length co95] rfl ?_; (with_reducible refine (lanyardref06_Cmp.calls kj17 _ _ t690 _ _ y705 t708 _ ?side1 ?side2 ?side3 ?side4 A32.out).mono ?_); (case side1 => exact Cu (Kd.V_reads' HO_6.out).2.2); (case side2 => exact (Kd.V_reads' HO_6.out).2.1); (case side3 => exact Cu (Kd.R_reads' HO707.out).2.2); (case side4 => exact (Kd.R_reads' HO707.out).2.1); rintro e w' ⟨rfl, ⟨nd, rfl⟩⟩; refine ⟨_, rfl, ?_⟩) | ((with_reducible refine gate_dst (N := 66) rfl ?_); (try (refine gate_guard (by rfl) ?_; dsimp only)); refine litI .i64 3 66 [1] [.int .i64 1] ?hr ?_; (case hr => first | (go_simp; done) | (go_simp; rfl)); intro v710 w96 ho97 hb; (first | rw [← Ny709.out] at ho97 | (simp only [Int.reduceToNat] at ho97; rw [← Ny709.out] at ho97)); have n0_ := Ve HO_5 (Kd.R_base ho97) hb; have n1_ := Ve HO_6 (Kd.R_base ho97) hb; have n2_ := Ve HO_9 (Kd.R_base ho97) hb; have n3_ := Rb HO_10 hb; have n4_ := Re HO707 (Kd.R_base ho97) hb; have n5_ := Aside0.mk (Kd.R_lower (Kd.R_new' ho97 (Kd.R_lt (Ru HO707))) (Bz HB)); have n6_ := Bs HB hb; clear HO_5 HO_6 HO_9 HO_10 HO707 HB; revert n0_ n1_ n2_ n3_ n4_ n5_ n6_; intro HO_5 HO_6 HO_9 HO_10 HO707 HO711 HB; clear hb ho97; obtain ⟨Ao98, co98, eo98⟩ := Kd.V_slice HO_9.out; subst eo98; obtain ⟨Ao99, co99, eo99⟩ := Kd.R_slice HO711.out; subst eo99) | ((with_reducible refine gate_callee (f := 21) rfl ?_); refine goesA (some 67) Tryd.func21 #[.slice Ao98 t697.length co98, .slice Ao99 y709.length co99] rfl ?_; (with_reducible refine (lanyardref06_Cmp.calls kj17 _ _ t697 _ _ y709 t712 _ ?side1 ?side2 ?side3 ?side4 A42.out).mono ?_); (case side1 => exact Cu (Kd.V_reads' HO_9.out).2.2); (case side2 => exact (Kd.V_reads' HO_9.out).2.1); (case side3 => exact Cu (Kd.R_reads' HO711.out).2.2); (case side4 => exact (Kd.R_reads' HO711.out).2.1); rintro e w' ⟨rfl, ⟨nd, rfl⟩⟩; refine ⟨_, rfl, ?_⟩; obtain ⟨Ao100, co100, eo100⟩ := Kd.R_slice HO_10.out; subst eo100) | ((with_reducible refine gate_callee (f := 12) rfl ?_); refine goesA (some 78) Tryd.func12 #[.slice Ao100 t700.length co100] rfl ?_; (with_reducible refine (lanyardref06_Of.calls kj17 _ _ t700 t713 _ ?side1 ?side2 A44.out).mono ?_); (case side1 => exact Cu (Kd.R_reads' HO_10.out).2.2); (case side2 => exact (Kd.R_reads' HO_10.out).2.1); rintro e w101 ⟨v714, rfl, ho0, hb⟩; refine ⟨_, rfl, ?_⟩; have n0_ := Vb HO_5 hb; have n1_ := Vb HO_6 hb; have n2_ := Vb HO_9 hb; have n3_ := Rb HO_10 hb; have n4_ := Rb HO707 hb; have n5_ := Rb HO711 hb; have n6_ := Aside0.mk (Kd.V_lower (Kd.V_mono (ok' := fun k_ => some k_ ≠ (.slice Ao100 t700.length co100 : Value).ownBlock ∧ some k_ ≠ (.slice Ao95 y705.length co95 : Value).ownBlock ∧ some k_ ≠ (.slice Ao99 y709.length co99 : Value).ownBlock) ho0 (fun k_ hk_ => ⟨(Kd.fresh' (Kd.R_lt (Ru HO_10)) k_ hk_), (Kd.fresh' (Kd.R_lt (Ru HO707)) k_ hk_), (Kd.fresh' (Kd.R_lt (Ru HO711)) k_ hk_)⟩)) (Bz HB)); have n7_ := Bs HB hb; clear HO_5 HO_6 HO_9 HO_10 HO707 HO711 HB; revert n0_ n1_ n2_ n3_ n4_ n5_ n6_ n7_; intro HO_5 HO_6 HO_9 HO_10 HO707 HO711 HO715 HB; (try clear hb); (try clear hb2); (try clear hk); (try clear hi); (try clear ho0); obtain ⟨Ao102, co102, eo102⟩ := Kd.V_slice HO715.out; subst eo102) | ((with_reducible refine gate_callee (f := 22) rfl ?_); refine goesA (some 80) Tryd.func22 #[.slice Ao102 t713.length co102, .slice Ao22 t687.length co22] rfl ?_; (with_reducible refine (lanyardref06_Mul.calls kj17 _ _ t713 _ _ t687 t716 _ ?side1 ?side2 ?side3 ?side4 A45.out).mono ?_); (case side1 => exact Cu (Kd.V_reads' HO715.out).2.2); (case side2 => exact (Kd.V_reads' HO715.out).2.1); (case side3 => exact Cu (Kd.V_reads' HO_5.out).2.2); (case side4 => exact (Kd.V_reads' HO_5.out).2.1); rintro e w103 ⟨v717, rfl, ho0, hb⟩; refine ⟨_, rfl, ?_⟩; have n0_ := Vb HO_5 hb; have n1_ := Vb HO_6 hb; have n2_ := Vb HO_9 hb; have n3_ := Rb HO_10 hb; have n4_ := Rb HO707 hb; have n5_ := Rb HO711 hb; have n6_ := Vb HO715 hb; have n7_ := Aside0.mk (Kd.V_lower (Kd.V_mono (ok' := fun k_ => some k_ ≠ (.slice Ao100 t700.length co100 : Value).ownBlock ∧ some k_ ≠ (.slice Ao95 y705.length co95 : Value).ownBlock ∧ some k_ ≠ (.slice Ao99 y709.length co99 : Value).ownBlock) ho0 (fun k_ hk_ => ⟨(Kd.fresh' (Kd.R_lt (Ru HO_10)) k_ hk_), (Kd.fresh' (Kd.R_lt (Ru HO707)) k_ hk_), (Kd.fresh' (Kd.R_lt (Ru HO711)) k_ hk_)⟩)) (Bz HB)); have n8_ := Bs HB hb; clear HO_5 HO_6 HO_9 HO_10 HO707 HO711 HO715 HB; revert n0_ n1_ n2_ n3_ n4_ n5_ n6_ n7_ n8_; intro HO_5 HO_6 HO_9 HO_10 HO707 HO711 HO715 HO718 HB; (try clear hb); (try clear hb2); (try clear hk); (try clear hi); (try clear ho0); obtain ⟨Ao104, co104, eo104⟩ := Kd.V_slice HO718.out; subst eo104) | ((with_reducible refine gate_callee (f := 14) rfl ?_); refine goesA (some 82) Tryd.func14 #[.slice Ao104 t716.length co104, .slice Ao23 t690.length co23] rfl ?_; (with_reducible refine (lanyardref06_Div.calls kj17 _ _ t716 (fun k_ => ((some k_ ≠ (.slice Ao100 t700.length co100 : Value).ownBlock ∧ some k_ ≠ (.slice Ao95 y705.length co95 : Value).ownBlock) ∧ some k_ ≠ (.slice Ao99 y709.length co99 : Value).ownBlock)) _ _ t690 t719 t722 _ ?side1 ?side2 ?side3 A46.out).mono ?_); (case side1 => exact Cu (Kd.V_reads' HO718.out).2.2); (case side2 => exact (Kd.V_reads' HO718.out).2.1); (case side3 => exact HO_6.out); rintro e w105 ⟨v720, v723, rfl, ho0, ho1, hb⟩; refine ⟨_, rfl, ?_⟩; have n0_ := Vb HO_5 hb; have n1_ := Vb HO_6 hb; have n2_ := Vb HO_9 hb; have n3_ := Rb HO_10 hb; have n4_ := Rb HO707 hb; have n5_ := Rb HO711 hb; have n6_ := Vb HO715 hb; have n7_ := Vb HO718 hb; have n8_ := Aside0.mk (Kd.V_lower (Kd.V_mono (ok' := fun k_ => some k_ ≠ (.slice Ao100 t700.length co100 : Value).ownBlock ∧ some k_ ≠ (.slice Ao95 y705.length co95 : Value).ownBlock ∧ some k_ ≠ (.slice Ao99 y709.length co99 : Value).ownBlock) ho0 (fun k_ hk_ => ⟨Or.elim hk_ (fun hs_ => hs_.1.1) (fun hn_ => (Kd.fresh' (Kd.R_lt (Ru HO_10)) k_ hn_)), Or.elim hk_ (fun hs_ => hs_.1.2) (fun hn_ => (Kd.fresh' (Kd.R_lt (Ru HO707)) k_ hn_)), Or.elim hk_ (fun hs_ => hs_.2) (fun hn_ => (Kd.fresh' (Kd.R_lt (Ru HO711)) k_ hn_))⟩)) (Bz HB)); have n9_ := Aside0.mk (Kd.V_lower (Kd.V_mono (ok' := fun k_ => some k_ ≠ (.slice Ao100 t700.length co100 : Value).ownBlock ∧ some k_ ≠ (.slice Ao95 y705.length co95 : Value).ownBlock ∧ some k_ ≠ (.slice Ao99 y709.length co99 : Value).ownBlock) ho1 (fun k_ hk_ => ⟨Or.elim hk_ (fun hs_ => hs_.1.1) (fun hn_ => (Kd.fresh' (Kd.R_lt (Ru HO_10)) k_ hn_)), Or.elim hk_ (fun hs_ => hs_.1.2) (fun hn_ => (Kd.fresh' (Kd.R_lt (Ru HO707)) k_ hn_)), Or.elim hk_ (fun hs_ => hs_.2) (fun hn_ => (Kd.fresh' (Kd.R_lt (Ru HO711)) k_ hn_))⟩)) (Bz HB)); have n10_ := Bs HB hb; clear HO_5 HO_6 HO_9 HO_10 HO707 HO711 HO715 HO718 HB; revert n0_ n1_ n2_ n3_ n4_ n5_ n6_ n7_ n8_ n9_ n10_; intro HO_5 HO_6 HO_9 HO_10 HO707 HO711 HO715 HO718 HO721 HO724 HB; (try clear hb); (try clear hb2); (try clear hk); (try clear hi); (try clear ho0); (try clear ho1)) | (go_at_call 12; (with_reducible refine (lanyardref06_Of.calls kj17 _ _ t700 t725 _ ?side1 ?side2 A48.out).mono ?_); (case side1 => exact Cu (Kd.R_reads' HO_10.out).2.2); (case side2 => exact (Kd.R_reads' HO_10.out).2.1); rintro e w106 ⟨v726, rfl, ho0, hb⟩; have n0_ := Vb HO_5 hb; have n1_ := Vb HO_6 hb; have n2_ := Vb HO_9 hb; have n3_ := Rb HO_10 hb; have n4_ := Rb HO707 hb; have n5_ := Rb HO711 hb; have n6_ := Vb HO715 hb; have n7_ := Vb HO718 hb; have n8_ := Vb HO721 hb; have n9_ := Vb HO724 hb; have n10_ := Aside0.mk (Kd.V_lower (Kd.V_mono (ok' := fun k_ => some k_ ≠ (.slice Ao100 t700.length co100 : Value).ownBlock ∧ some k_ ≠ (.slice Ao95 y705.length co95 : Value).ownBlock ∧ some k_ ≠ (.slice Ao99 y709.length co99 : Value).ownBlock) ho0 (fun k_ hk_ => ⟨(Kd.fresh' (Kd.R_lt (Ru HO_10)) k_ hk_), (Kd.fresh' (Kd.R_lt (Ru HO707)) k_ hk_), (Kd.fresh' (Kd.R_lt (Ru HO711)) k_ hk_)⟩)) (Bz HB)); have n11_ := Bs HB hb; clear HO_5 HO_6 HO_9 HO_10 HO707 HO711 HO715 HO718 HO721 HO724 HB; revert n0_ n1_ n2_ n3_ n4_ n5_ n6_ n7_ n8_ n9_ n10_ n11_; intro HO_5 HO_6 HO_9 HO_10 HO707 HO711 HO715 HO718 HO721 HO724 HO727 HB; (try clear hb); (try clear hb2); (try clear hk); (try clear hi); (try clear ho0); obtain ⟨Ao107, co107, eo107⟩ := Kd.V_slice HO727.out; subst eo107) | (go_at_call 21; (with_reducible refine (lanyardref06_Cmp.calls kj17 _ _ t725 _ _ t690 t728 _ ?side1 ?side2 ?side3 ?side4 A49.out).mono ?_); (case side1 => exact Cu (Kd.V_reads' HO727.out).2.2); (case side2 => exact (Kd.V_reads' HO727.out).2.1); (case side3 => exact Cu (Kd.V_reads' HO_6.out).2.2); (case side4 => exact (Kd.V_reads' HO_6.out).2.1); rintro e w' ⟨rfl, ⟨nd, rfl⟩⟩) | ((with_reducible refine gate_dst (N := 96) rfl ?_); (try (refine gate_guard (by rfl) ?_; dsimp only)); refine litI .i64 3 96 [1] [.int .i64 1] ?hr ?_; (case hr => first | (go_simp; done) | (go_simp; rfl)); intro v730 w108 ho109 hb; (first | rw [← Ny729.out] at ho109 | (simp only [Int.reduceToNat] at ho109; rw [← Ny729.out] at ho109)); have n0_ := Ve HO_5 (Kd.R_base ho109) hb; have n1_ := Ve HO_6 (Kd.R_base ho109) hb; have n2_ := Ve HO_9 (Kd.R_base ho109) hb; have n3_ := Rb HO_10 hb; have n4_ := Re HO707 (Kd.R_base ho109) hb; have n5_ := Re HO711 (Kd.R_base ho109) hb; have n6_ := Ve HO715 (Kd.R_base ho109) hb; have n7_ := Ve HO718 (Kd.R_base ho109) hb; have n8_ := Ve HO721 (Kd.R_base ho109) hb; have n9_ := Ve HO724 (Kd.R_base ho109) hb; have n10_ := Ve HO727 (Kd.R_base ho109) hb; have n11_ := Aside0.mk (Kd.R_lower (Kd.R_new' (Kd.R_new' ho109 (Kd.R_lt (Ru HO707))) (Kd.R_lt (Ru HO711))) (Bz HB)); have n12_ := Bs HB hb; clear HO_5 HO_6 HO_9 HO_10 HO707 HO711 HO715 HO718 HO721 HO724 HO727 HB; revert n0_ n1_ n2_ n3_ n4_ n5_ n6_ n7_ n8_ n9_ n10_ n11_ n12_; intro HO_5 HO_6 HO_9 HO_10 HO707 HO711 HO715 HO718 HO721 HO724 HO727 HO731 HB; clear hb ho109; obtain ⟨Ao110, co110, eo110⟩ := Kd.V_slice HO724.out; subst eo110; obtain ⟨Ao111, co111, eo111⟩ := Kd.R_slice HO731.out; subst eo111) | (go_at_call 21; (with_reducible refine (lanyardref06_Cmp.calls kj17 _ _ t722 _ _ y729 t732 _ ?side1 ?side2 ?side3 ?side4 A51.out).mono ?_); (case side1 => exact Cu (Kd.V_reads' HO724.out).2.2); (case side2 => exact (Kd.V_reads' HO724.out).2.1); (case side3 => exact Cu (Kd.R_reads' HO731.out).2.2); (case side4 => exact (Kd.R_reads' HO731.out).2.1); rintro e w' ⟨rfl, ⟨nd, rfl⟩⟩))
            go_ret
            exact ⟨rfl_, Bu HB⟩
          ·rw [if_neg c50] at H
           have c50b0 : decide (t728 < 0) = false := decide_eq_false c50
           clear c50
           obtain rfl := Option.some.inj H
           go_wp2_with (first | ((with_reducible refine gate_dst (N := 55) rfl ?_); (try (refine gate_guard (by rfl) ?_; dsimp only)); refine litI .i64 3 55 [2] [.int .i64 2] ?hr ?_; (case hr => first | (go_simp; done) | (go_simp; rfl)); intro v706 w112 ho113 hb; (first | rw [← Ny705.out] at ho113 | (simp only [Int.reduceToNat] at ho113; rw [← Ny705.out] at ho113)); have n0_ := Ve HO_5 (Kd.R_base ho113) hb; have n1_ := Ve HO_6 (Kd.R_base ho113) hb; have n2_ := Ve HO_9 (Kd.R_base ho113) hb; have n3_ := Rb HO_10 hb; have n4_ := Aside0.mk (Kd.R_lower ho113 (Bz HB)); have n5_ := Bs HB hb; clear HO_5 HO_6 HO_9 HO_10 HB; revert n0_ n1_ n2_ n3_ n4_ n5_; intro HO_5 HO_6 HO_9 HO_10 HO707 HB; clear hb ho113; obtain ⟨Ao114, co114, eo114⟩ := Kd.R_slice HO707.out; subst eo114) | ((with_reducible refine gate_callee (f := 21) rfl ?_); refine goesA (some 56) Tryd.func21 #[.slice Ao23 t690.length co23, .slice Ao114 y705.length co114] rfl ?_; (with_reducible refine (lanyardref06_Cmp.calls kj17 _ _ t690 _ _ y705 t708 _ ?side1 ?side2 ?side3 ?side4 A32.out).mono ?_); (case side1 => exact Cu (Kd.V_reads' HO_6.out).2.2); (case side2 => exact (Kd.V_reads' HO_6.out).2.1); (case side3 => exact Cu (Kd.R_reads' HO707.out).2.2); (case side4 => exact (Kd.R_reads' HO707.out).2.1); rintro e w' ⟨rfl, ⟨nd, rfl⟩⟩; refine ⟨_, rfl, ?_⟩) | ((with_reducible refine gate_dst (N := 66) rfl ?_); (try (refine gate_guard (by rfl) ?_; dsimp only)); refine litI .i64 3 66 [1] [.int .i64 1] ?hr ?_; (case hr => first | (go_simp; done) | (go_simp; rfl)); intro v710 w115 ho116 hb; (first | rw [← Ny709.out] at ho116 | (simp only [Int.reduceToNat] at ho116; rw [← Ny709.out] at ho116)); have n0_ := Ve HO_5 (Kd.R_base ho116) hb; have n1_ := Ve HO_6 (Kd.R_base ho116) hb; have n2_ := Ve HO_9 (Kd.R_base ho116) hb; have n3_ := Rb HO_10 hb; have n4_ := Re HO707 (Kd.R_base ho116) hb; have n5_ := Aside0.mk (Kd.R_lower (Kd.R_new' ho116 (Kd.R_lt (Ru HO707))) (Bz HB)); have n6_ := Bs HB hb; clear HO_5 HO_6 HO_9 HO_10 HO707 HB; revert n0_ n1_ n2_ n3_ n4_ n5_ n6_; intro HO_5 HO_6 HO_9 HO_10 HO707 HO711 HB; clear hb ho116; obtain ⟨Ao117, co117, eo117⟩ := Kd.V_slice HO_9.out; subst eo117; obtain ⟨Ao118, co118, eo118⟩ := Kd.R_slice HO711.out; subst eo118) | ((with_reducible refine gate_callee (f := 21) rfl ?_); refine goesA (some 67) Tryd.func21 #[.slice Ao117 t697.length co117, .slice Ao118 y709.length co118] rfl ?_; (with_reducible refine (lanyardref06_Cmp.calls kj17 _ _ t697 _ _ y709 t712 _ ?side1 ?side2 ?side3 ?side4 A42.out).mono ?_); (case side1 => exact Cu (Kd.V_reads' HO_9.out).2.2); (case side2 => exact (Kd.V_reads' HO_9.out).2.1); (case side3 => exact Cu (Kd.R_reads' HO711.out).2.2); (case side4 => exact (Kd.R_reads' HO711.out).2.1); rintro e w' ⟨rfl, ⟨nd, rfl⟩⟩; refine ⟨_, rfl, ?_⟩; obtain ⟨Ao119, co119, eo119⟩ := Kd.R_slice HO_10.out; subst eo119) | ((with_reducible refine gate_callee (f := 12) rfl ?_); refine goesA (some 78) Tryd.func12 #[.slice Ao119 t700.length co119] rfl ?_; (with_reducible refine (lanyardref06_Of.calls kj17 _ _ t700 t713 _ ?side1 ?side2 A44.out).mono ?_); (case side1 => exact Cu (Kd.R_reads' HO_10.out).2.2); (case side2 => exact (Kd.R_reads' HO_10.out).2.1); rintro e w120 ⟨v714, rfl, ho0, hb⟩; refine ⟨_, rfl, ?_⟩; have n0_ := Vb HO_5 hb; have n1_ := Vb HO_6 hb; have n2_ := Vb HO_9 hb; have n3_ := Rb HO_10 hb; have n4_ := Rb HO707 hb; have n5_ := Rb HO711 hb; have n6_ := Aside0.mk (Kd.V_lower (Kd.V_mono (ok' := fun k_ => some k_ ≠ (.slice Ao119 t700.length co119 : Value).ownBlock ∧ some k_ ≠ (.slice Ao114 y705.length co114 : Value).ownBlock ∧ some k_ ≠ (.slice Ao118 y709.length co118 : Value).ownBlock) ho0 (fun k_ hk_ => ⟨(Kd.fresh' (Kd.R_lt (Ru HO_10)) k_ hk_), (Kd.fresh' (Kd.R_lt (Ru HO707)) k_ hk_), (Kd.fresh' (Kd.R_lt (Ru HO711)) k_ hk_)⟩)) (Bz HB)); have n7_ := Bs HB hb; clear HO_5 HO_6 HO_9 HO_10 HO707 HO711 HB; revert n0_ n1_ n2_ n3_ n4_ n5_ n6_ n7_; intro HO_5 HO_6 HO_9 HO_10 HO707 HO711 HO715 HB; (try clear hb); (try clear hb2); (try clear hk); (try clear hi); (try clear ho0); obtain ⟨Ao121, co121, eo121⟩ := Kd.V_slice HO715.out; subst eo121) | ((with_reducible refine gate_callee (f := 22) rfl ?_); refine goesA (some 80) Tryd.func22 #[.slice Ao121 t713.length co121, .slice Ao22 t687.length co22] rfl ?_; (with_reducible refine (lanyardref06_Mul.calls kj17 _ _ t713 _ _ t687 t716 _ ?side1 ?side2 ?side3 ?side4 A45.out).mono ?_); (case side1 => exact Cu (Kd.V_reads' HO715.out).2.2); (case side2 => exact (Kd.V_reads' HO715.out).2.1); (case side3 => exact Cu (Kd.V_reads' HO_5.out).2.2); (case side4 => exact (Kd.V_reads' HO_5.out).2.1); rintro e w122 ⟨v717, rfl, ho0, hb⟩; refine ⟨_, rfl, ?_⟩; have n0_ := Vb HO_5 hb; have n1_ := Vb HO_6 hb; have n2_ := Vb HO_9 hb; have n3_ := Rb HO_10 hb; have n4_ := Rb HO707 hb; have n5_ := Rb HO711 hb; have n6_ := Vb HO715 hb; have n7_ := Aside0.mk (Kd.V_lower (Kd.V_mono (ok' := fun k_ => some k_ ≠ (.slice Ao119 t700.length co119 : Value).ownBlock ∧ some k_ ≠ (.slice Ao114 y705.length co114 : Value).ownBlock ∧ some k_ ≠ (.slice Ao118 y709.length co118 : Value).ownBlock) ho0 (fun k_ hk_ => ⟨(Kd.fresh' (Kd.R_lt (Ru HO_10)) k_ hk_), (Kd.fresh' (Kd.R_lt (Ru HO707)) k_ hk_), (Kd.fresh' (Kd.R_lt (Ru HO711)) k_ hk_)⟩)) (Bz HB)); have n8_ := Bs HB hb; clear HO_5 HO_6 HO_9 HO_10 HO707 HO711 HO715 HB; revert n0_ n1_ n2_ n3_ n4_ n5_ n6_ n7_ n8_; intro HO_5 HO_6 HO_9 HO_10 HO707 HO711 HO715 HO718 HB; (try clear hb); (try clear hb2); (try clear hk); (try clear hi); (try clear ho0); obtain ⟨Ao123, co123, eo123⟩ := Kd.V_slice HO718.out; subst eo123) | ((with_reducible refine gate_callee (f := 14) rfl ?_); refine goesA (some 82) Tryd.func14 #[.slice Ao123 t716.length co123, .slice Ao23 t690.length co23] rfl ?_; (with_reducible refine (lanyardref06_Div.calls kj17 _ _ t716 (fun k_ => ((some k_ ≠ (.slice Ao119 t700.length co119 : Value).ownBlock ∧ some k_ ≠ (.slice Ao114 y705.length co114 : Value).ownBlock) ∧ some k_ ≠ (.slice Ao118 y709.length co118 : Value).ownBlock)) _ _ t690 t719 t722 _ ?side1 ?side2 ?side3 A46.out).mono ?_); (case side1 => exact Cu (Kd.V_reads' HO718.out).2.2); (case side2 => exact (Kd.V_reads' HO718.out).2.1); (case side3 => exact HO_6.out); rintro e w124 ⟨v720, v723, rfl, ho0, ho1, hb⟩; refine ⟨_, rfl, ?_⟩; have n0_ := Vb HO_5 hb; have n1_ := Vb HO_6 hb; have n2_ := Vb HO_9 hb; have n3_ := Rb HO_10 hb; have n4_ := Rb HO707 hb; have n5_ := Rb HO711 hb; have n6_ := Vb HO715 hb; have n7_ := Vb HO718 hb; have n8_ := Aside0.mk (Kd.V_lower (Kd.V_mono (ok' := fun k_ => some k_ ≠ (.slice Ao119 t700.length co119 : Value).ownBlock ∧ some k_ ≠ (.slice Ao114 y705.length co114 : Value).ownBlock ∧ some k_ ≠ (.slice Ao118 y709.length co118 : Value).ownBlock) ho0 (fun k_ hk_ => ⟨Or.elim hk_ (fun hs_ => hs_.1.1) (fun hn_ => (Kd.fresh' (Kd.R_lt (Ru HO_10)) k_ hn_)), Or.elim hk_ (fun hs_ => hs_.1.2) (fun hn_ => (Kd.fresh' (Kd.R_lt (Ru HO707)) k_ hn_)), Or.elim hk_ (fun hs_ => hs_.2) (fun hn_ => (Kd.fresh' (Kd.R_lt (Ru HO711)) k_ hn_))⟩)) (Bz HB)); have n9_ := Aside0.mk (Kd.V_lower (Kd.V_mono (ok' := fun k_ => some k_ ≠ (.slice Ao119 t700.length co119 : Value).ownBlock ∧ some k_ ≠ (.slice Ao114 y705.length co114 : Value).ownBlock ∧ some k_ ≠ (.slice Ao118 y709.length co118 : Value).ownBlock) ho1 (fun k_ hk_ => ⟨Or.elim hk_ (fun hs_ => hs_.1.1) (fun hn_ => (Kd.fresh' (Kd.R_lt (Ru HO_10)) k_ hn_)), Or.elim hk_ (fun hs_ => hs_.1.2) (fun hn_ => (Kd.fresh' (Kd.R_lt (Ru HO707)) k_ hn_)), Or.elim hk_ (fun hs_ => hs_.2) (fun hn_ => (Kd.fresh' (Kd.R_lt (Ru HO711)) k_ hn_))⟩)) (Bz HB)); have n10_ := Bs HB hb; clear HO_5 HO_6 HO_9 HO_10 HO707 HO711 HO715 HO718 HB; revert n0_ n1_ n2_ n3_ n4_ n5_ n6_ n7_ n8_ n9_ n10_; intro HO_5 HO_6 HO_9 HO_10 HO707 HO711 HO715 HO718 HO721 HO724 HB; (try clear hb); (try clear hb2); (try clear hk); (try clear hi); (try clear ho0); (try clear ho1)) | (go_at_call 12; (with_reducible refine (lanyardref06_Of.calls kj17 _ _ t700 t725 _ ?side1 ?side2 A48.out).mono ?_); (case side1 => exact Cu (Kd.R_reads' HO_10.out).2.2); (case side2 => exact (Kd.R_reads' HO_10.out).2.1); rintro e w125 ⟨v726, rfl, ho0, hb⟩; have n0_ := Vb HO_5 hb; have n1_ := Vb HO_6 hb; have n2_ := Vb HO_9 hb; have n3_ := Rb HO_10 hb; have n4_ := Rb HO707 hb; have n5_ := Rb HO711 hb; have n6_ := Vb HO715 hb; have n7_ := Vb HO718 hb; have n8_ := Vb HO721 hb; have n9_ := Vb HO724 hb; have n10_ := Aside0.mk (Kd.V_lower (Kd.V_mono (ok' := fun k_ => some k_ ≠ (.slice Ao119 t700.length co119 : Value).ownBlock ∧ some k_ ≠ (.slice Ao114 y705.length co114 : Value).ownBlock ∧ some k_ ≠ (.slice Ao118 y709.length co118 : Value).ownBlock) ho0 (fun k_ hk_ => ⟨(Kd.fresh' (Kd.R_lt (Ru HO_10)) k_ hk_), (Kd.fresh' (Kd.R_lt (Ru HO707)) k_ hk_), (Kd.fresh' (Kd.R_lt (Ru HO711)) k_ hk_)⟩)) (Bz HB)); have n11_ := Bs HB hb; clear HO_5 HO_6 HO_9 HO_10 HO707 HO711 HO715 HO718 HO721 HO724 HB; revert n0_ n1_ n2_ n3_ n4_ n5_ n6_ n7_ n8_ n9_ n10_ n11_; intro HO_5 HO_6 HO_9 HO_10 HO707 HO711 HO715 HO718 HO721 HO724 HO727 HB; (try clear hb); (try clear hb2); (try clear hk); (try clear hi); (try clear ho0); obtain ⟨Ao126, co126, eo126⟩ := Kd.V_slice HO727.out; subst eo126) | (go_at_call 21; (with_reducible refine (lanyardref06_Cmp.calls kj17 _ _ t725 _ _ t690 t728 _ ?side1 ?side2 ?side3 ?side4 A49.out).mono ?_); (case side1 => exact Cu (Kd.V_reads' HO727.out).2.2); (case side2 => exact (Kd.V_reads' HO727.out).2.1); (case side3 => exact Cu (Kd.V_reads' HO_6.out).2.2); (case side4 => exact (Kd.V_reads' HO_6.out).2.1); rintro e w' ⟨rfl, ⟨nd, rfl⟩⟩))
           go_ret
           exact ⟨rfl_, Bu HB⟩
         ·rw [if_neg c47] at H
          have c47b0 : (t701 == 0) = false := beq_eq_false_iff_ne.mpr c47
          have c47b1 : (t701 != 0) = true := bne_iff_ne.mpr c47
          obtain rfl := Option.some.inj H
          go_wp2_with (first | ((with_reducible refine gate_dst (N := 55) rfl ?_); (try (refine gate_guard (by rfl) ?_; dsimp only)); refine litI .i64 3 55 [2] [.int .i64 2] ?hr ?_; (case hr => first | (go_simp; done) | (go_simp; rfl)); intro v706 w127 ho128 hb; (first | rw [← Ny705.out] at ho128 | (simp only [Int.reduceToNat] at ho128; rw [← Ny705.out] at ho128)); have n0_ := Ve HO_5 (Kd.R_base ho128) hb; have n1_ := Ve HO_6 (Kd.R_base ho128) hb; have n2_ := Ve HO_9 (Kd.R_base ho128) hb; have n3_ := Rb HO_10 hb; have n4_ := Aside0.mk (Kd.R_lower ho128 (Bz HB)); have n5_ := Bs HB hb; clear HO_5 HO_6 HO_9 HO_10 HB; revert n0_ n1_ n2_ n3_ n4_ n5_; intro HO_5 HO_6 HO_9 HO_10 HO707 HB; clear hb ho128; obtain ⟨Ao129, co129, eo129⟩ := Kd.R_slice HO707.out; subst eo129) | ((with_reducible refine gate_callee (f := 21) rfl ?_); refine goesA (some 56) Tryd.func21 #[.slice Ao23 t690.length co23, .slice Ao129 y705.length co129] rfl ?_; (with_reducible refine (lanyardref06_Cmp.calls kj17 _ _ t690 _ _ y705 t708 _ ?side1 ?side2 ?side3 ?side4 A32.out).mono ?_); (case side1 => exact Cu (Kd.V_reads' HO_6.out).2.2); (case side2 => exact (Kd.V_reads' HO_6.out).2.1); (case side3 => exact Cu (Kd.R_reads' HO707.out).2.2); (case side4 => exact (Kd.R_reads' HO707.out).2.1); rintro e w' ⟨rfl, ⟨nd, rfl⟩⟩; refine ⟨_, rfl, ?_⟩) | ((with_reducible refine gate_dst (N := 66) rfl ?_); (try (refine gate_guard (by rfl) ?_; dsimp only)); refine litI .i64 3 66 [1] [.int .i64 1] ?hr ?_; (case hr => first | (go_simp; done) | (go_simp; rfl)); intro v710 w130 ho131 hb; (first | rw [← Ny709.out] at ho131 | (simp only [Int.reduceToNat] at ho131; rw [← Ny709.out] at ho131)); have n0_ := Ve HO_5 (Kd.R_base ho131) hb; have n1_ := Ve HO_6 (Kd.R_base ho131) hb; have n2_ := Ve HO_9 (Kd.R_base ho131) hb; have n3_ := Rb HO_10 hb; have n4_ := Re HO707 (Kd.R_base ho131) hb; have n5_ := Aside0.mk (Kd.R_lower (Kd.R_new' ho131 (Kd.R_lt (Ru HO707))) (Bz HB)); have n6_ := Bs HB hb; clear HO_5 HO_6 HO_9 HO_10 HO707 HB; revert n0_ n1_ n2_ n3_ n4_ n5_ n6_; intro HO_5 HO_6 HO_9 HO_10 HO707 HO711 HB; clear hb ho131; obtain ⟨Ao132, co132, eo132⟩ := Kd.V_slice HO_9.out; subst eo132; obtain ⟨Ao133, co133, eo133⟩ := Kd.R_slice HO711.out; subst eo133) | ((with_reducible refine gate_callee (f := 21) rfl ?_); refine goesA (some 67) Tryd.func21 #[.slice Ao132 t697.length co132, .slice Ao133 y709.length co133] rfl ?_; (with_reducible refine (lanyardref06_Cmp.calls kj17 _ _ t697 _ _ y709 t712 _ ?side1 ?side2 ?side3 ?side4 A42.out).mono ?_); (case side1 => exact Cu (Kd.V_reads' HO_9.out).2.2); (case side2 => exact (Kd.V_reads' HO_9.out).2.1); (case side3 => exact Cu (Kd.R_reads' HO711.out).2.2); (case side4 => exact (Kd.R_reads' HO711.out).2.1); rintro e w' ⟨rfl, ⟨nd, rfl⟩⟩; refine ⟨_, rfl, ?_⟩; obtain ⟨Ao134, co134, eo134⟩ := Kd.R_slice HO_10.out; subst eo134) | ((with_reducible refine gate_callee (f := 12) rfl ?_); refine goesA (some 78) Tryd.func12 #[.slice Ao134 t700.length co134] rfl ?_; (with_reducible refine (lanyardref06_Of.calls kj17 _ _ t700 t713 _ ?side1 ?side2 A44.out).mono ?_); (case side1 => exact Cu (Kd.R_reads' HO_10.out).2.2); (case side2 => exact (Kd.R_reads' HO_10.out).2.1); rintro e w135 ⟨v714, rfl, ho0, hb⟩; refine ⟨_, rfl, ?_⟩; have n0_ := Vb HO_5 hb; have n1_ := Vb HO_6 hb; have n2_ := Vb HO_9 hb; have n3_ := Rb HO_10 hb; have n4_ := Rb HO707 hb; have n5_ := Rb HO711 hb; have n6_ := Aside0.mk (Kd.V_lower (Kd.V_mono (ok' := fun k_ => some k_ ≠ (.slice Ao134 t700.length co134 : Value).ownBlock ∧ some k_ ≠ (.slice Ao129 y705.length co129 : Value).ownBlock ∧ some k_ ≠ (.slice Ao133 y709.length co133 : Value).ownBlock) ho0 (fun k_ hk_ => ⟨(Kd.fresh' (Kd.R_lt (Ru HO_10)) k_ hk_), (Kd.fresh' (Kd.R_lt (Ru HO707)) k_ hk_), (Kd.fresh' (Kd.R_lt (Ru HO711)) k_ hk_)⟩)) (Bz HB)); have n7_ := Bs HB hb; clear HO_5 HO_6 HO_9 HO_10 HO707 HO711 HB; revert n0_ n1_ n2_ n3_ n4_ n5_ n6_ n7_; intro HO_5 HO_6 HO_9 HO_10 HO707 HO711 HO715 HB; (try clear hb); (try clear hb2); (try clear hk); (try clear hi); (try clear ho0); obtain ⟨Ao136, co136, eo136⟩ := Kd.V_slice HO715.out; subst eo136) | ((with_reducible refine gate_callee (f := 22) rfl ?_); refine goesA (some 80) Tryd.func22 #[.slice Ao136 t713.length co136, .slice Ao22 t687.length co22] rfl ?_; (with_reducible refine (lanyardref06_Mul.calls kj17 _ _ t713 _ _ t687 t716 _ ?side1 ?side2 ?side3 ?side4 A45.out).mono ?_); (case side1 => exact Cu (Kd.V_reads' HO715.out).2.2); (case side2 => exact (Kd.V_reads' HO715.out).2.1); (case side3 => exact Cu (Kd.V_reads' HO_5.out).2.2); (case side4 => exact (Kd.V_reads' HO_5.out).2.1); rintro e w137 ⟨v717, rfl, ho0, hb⟩; refine ⟨_, rfl, ?_⟩; have n0_ := Vb HO_5 hb; have n1_ := Vb HO_6 hb; have n2_ := Vb HO_9 hb; have n3_ := Rb HO_10 hb; have n4_ := Rb HO707 hb; have n5_ := Rb HO711 hb; have n6_ := Vb HO715 hb; have n7_ := Aside0.mk (Kd.V_lower (Kd.V_mono (ok' := fun k_ => some k_ ≠ (.slice Ao134 t700.length co134 : Value).ownBlock ∧ some k_ ≠ (.slice Ao129 y705.length co129 : Value).ownBlock ∧ some k_ ≠ (.slice Ao133 y709.length co133 : Value).ownBlock) ho0 (fun k_ hk_ => ⟨(Kd.fresh' (Kd.R_lt (Ru HO_10)) k_ hk_), (Kd.fresh' (Kd.R_lt (Ru HO707)) k_ hk_), (Kd.fresh' (Kd.R_lt (Ru HO711)) k_ hk_)⟩)) (Bz HB)); have n8_ := Bs HB hb; clear HO_5 HO_6 HO_9 HO_10 HO707 HO711 HO715 HB; revert n0_ n1_ n2_ n3_ n4_ n5_ n6_ n7_ n8_; intro HO_5 HO_6 HO_9 HO_10 HO707 HO711 HO715 HO718 HB; (try clear hb); (try clear hb2); (try clear hk); (try clear hi); (try clear ho0); obtain ⟨Ao138, co138, eo138⟩ := Kd.V_slice HO718.out; subst eo138) | ((with_reducible refine gate_callee (f := 14) rfl ?_); refine goesA (some 82) Tryd.func14 #[.slice Ao138 t716.length co138, .slice Ao23 t690.length co23] rfl ?_; (with_reducible refine (lanyardref06_Div.calls kj17 _ _ t716 (fun k_ => ((some k_ ≠ (.slice Ao134 t700.length co134 : Value).ownBlock ∧ some k_ ≠ (.slice Ao129 y705.length co129 : Value).ownBlock) ∧ some k_ ≠ (.slice Ao133 y709.length co133 : Value).ownBlock)) _ _ t690 t719 t722 _ ?side1 ?side2 ?side3 A46.out).mono ?_); (case side1 => exact Cu (Kd.V_reads' HO718.out).2.2); (case side2 => exact (Kd.V_reads' HO718.out).2.1); (case side3 => exact HO_6.out); rintro e w139 ⟨v720, v723, rfl, ho0, ho1, hb⟩; refine ⟨_, rfl, ?_⟩; have n0_ := Vb HO_5 hb; have n1_ := Vb HO_6 hb; have n2_ := Vb HO_9 hb; have n3_ := Rb HO_10 hb; have n4_ := Rb HO707 hb; have n5_ := Rb HO711 hb; have n6_ := Vb HO715 hb; have n7_ := Vb HO718 hb; have n8_ := Aside0.mk (Kd.V_lower (Kd.V_mono (ok' := fun k_ => some k_ ≠ (.slice Ao134 t700.length co134 : Value).ownBlock ∧ some k_ ≠ (.slice Ao129 y705.length co129 : Value).ownBlock ∧ some k_ ≠ (.slice Ao133 y709.length co133 : Value).ownBlock) ho0 (fun k_ hk_ => ⟨Or.elim hk_ (fun hs_ => hs_.1.1) (fun hn_ => (Kd.fresh' (Kd.R_lt (Ru HO_10)) k_ hn_)), Or.elim hk_ (fun hs_ => hs_.1.2) (fun hn_ => (Kd.fresh' (Kd.R_lt (Ru HO707)) k_ hn_)), Or.elim hk_ (fun hs_ => hs_.2) (fun hn_ => (Kd.fresh' (Kd.R_lt (Ru HO711)) k_ hn_))⟩)) (Bz HB)); have n9_ := Aside0.mk (Kd.V_lower (Kd.V_mono (ok' := fun k_ => some k_ ≠ (.slice Ao134 t700.length co134 : Value).ownBlock ∧ some k_ ≠ (.slice Ao129 y705.length co129 : Value).ownBlock ∧ some k_ ≠ (.slice Ao133 y709.length co133 : Value).ownBlock) ho1 (fun k_ hk_ => ⟨Or.elim hk_ (fun hs_ => hs_.1.1) (fun hn_ => (Kd.fresh' (Kd.R_lt (Ru HO_10)) k_ hn_)), Or.elim hk_ (fun hs_ => hs_.1.2) (fun hn_ => (Kd.fresh' (Kd.R_lt (Ru HO707)) k_ hn_)), Or.elim hk_ (fun hs_ => hs_.2) (fun hn_ => (Kd.fresh' (Kd.R_lt (Ru HO711)) k_ hn_))⟩)) (Bz HB)); have n10_ := Bs HB hb; clear HO_5 HO_6 HO_9 HO_10 HO707 HO711 HO715 HO718 HB; revert n0_ n1_ n2_ n3_ n4_ n5_ n6_ n7_ n8_ n9_ n10_; intro HO_5 HO_6 HO_9 HO_10 HO707 HO711 HO715 HO718 HO721 HO724 HB; (try clear hb); (try clear hb2); (try clear hk); (try clear hi); (try clear ho0); (try clear ho1)))
          go_ret
          exact ⟨rfl_, Bu HB⟩
        ·rw [if_neg c43] at H
         have c43b0 : (t712 == 0) = false := beq_eq_false_iff_ne.mpr c43
         have c43b1 : (t712 != 0) = true := bne_iff_ne.mpr c43
         by_cases c140 : t701 = 20
         ·rw [if_pos c140] at H
          have c140b0 : (t701 == 20) = true := beq_iff_eq.mpr c140
          have c140b1 : (t701 != 20) = false := bne_eq_false_iff_eq.mpr c140
          clear c140
          obtain rfl := Option.some.inj H
          go_wp2_with (first | ((with_reducible refine gate_dst (N := 55) rfl ?_); (try (refine gate_guard (by rfl) ?_; dsimp only)); refine litI .i64 3 55 [2] [.int .i64 2] ?hr ?_; (case hr => first | (go_simp; done) | (go_simp; rfl)); intro v706 w141 ho142 hb; (first | rw [← Ny705.out] at ho142 | (simp only [Int.reduceToNat] at ho142; rw [← Ny705.out] at ho142)); have n0_ := Ve HO_5 (Kd.R_base ho142) hb; have n1_ := Ve HO_6 (Kd.R_base ho142) hb; have n2_ := Ve HO_9 (Kd.R_base ho142) hb; have n3_ := Rb HO_10 hb; have n4_ := Aside0.mk (Kd.R_lower ho142 (Bz HB)); have n5_ := Bs HB hb; clear HO_5 HO_6 HO_9 HO_10 HB; revert n0_ n1_ n2_ n3_ n4_ n5_; intro HO_5 HO_6 HO_9 HO_10 HO707 HB; clear hb ho142; obtain ⟨Ao143, co143, eo143⟩ := Kd.R_slice HO707.out; subst eo143) | ((with_reducible refine gate_callee (f := 21) rfl ?_); refine goesA (some 56) Tryd.func21 #[.slice Ao23 t690.length co23, .slice Ao143 y705.length co143] rfl ?_; (with_reducible refine (lanyardref06_Cmp.calls kj17 _ _ t690 _ _ y705 t708 _ ?side1 ?side2 ?side3 ?side4 A32.out).mono ?_); (case side1 => exact Cu (Kd.V_reads' HO_6.out).2.2); (case side2 => exact (Kd.V_reads' HO_6.out).2.1); (case side3 => exact Cu (Kd.R_reads' HO707.out).2.2); (case side4 => exact (Kd.R_reads' HO707.out).2.1); rintro e w' ⟨rfl, ⟨nd, rfl⟩⟩; refine ⟨_, rfl, ?_⟩) | ((with_reducible refine gate_dst (N := 66) rfl ?_); (try (refine gate_guard (by rfl) ?_; dsimp only)); refine litI .i64 3 66 [1] [.int .i64 1] ?hr ?_; (case hr => first | (go_simp; done) | (go_simp; rfl)); intro v710 w144 ho145 hb; (first | rw [← Ny709.out] at ho145 | (simp only [Int.reduceToNat] at ho145; rw [← Ny709.out] at ho145)); have n0_ := Ve HO_5 (Kd.R_base ho145) hb; have n1_ := Ve HO_6 (Kd.R_base ho145) hb; have n2_ := Ve HO_9 (Kd.R_base ho145) hb; have n3_ := Rb HO_10 hb; have n4_ := Re HO707 (Kd.R_base ho145) hb; have n5_ := Aside0.mk (Kd.R_lower (Kd.R_new' ho145 (Kd.R_lt (Ru HO707))) (Bz HB)); have n6_ := Bs HB hb; clear HO_5 HO_6 HO_9 HO_10 HO707 HB; revert n0_ n1_ n2_ n3_ n4_ n5_ n6_; intro HO_5 HO_6 HO_9 HO_10 HO707 HO711 HB; clear hb ho145; obtain ⟨Ao146, co146, eo146⟩ := Kd.V_slice HO_9.out; subst eo146; obtain ⟨Ao147, co147, eo147⟩ := Kd.R_slice HO711.out; subst eo147) | ((with_reducible refine gate_callee (f := 21) rfl ?_); refine goesA (some 67) Tryd.func21 #[.slice Ao146 t697.length co146, .slice Ao147 y709.length co147] rfl ?_; (with_reducible refine (lanyardref06_Cmp.calls kj17 _ _ t697 _ _ y709 t712 _ ?side1 ?side2 ?side3 ?side4 A42.out).mono ?_); (case side1 => exact Cu (Kd.V_reads' HO_9.out).2.2); (case side2 => exact (Kd.V_reads' HO_9.out).2.1); (case side3 => exact Cu (Kd.R_reads' HO711.out).2.2); (case side4 => exact (Kd.R_reads' HO711.out).2.1); rintro e w' ⟨rfl, ⟨nd, rfl⟩⟩; refine ⟨_, rfl, ?_⟩; obtain ⟨Ao148, co148, eo148⟩ := Kd.R_slice HO_10.out; subst eo148))
          go_ret
          exact ⟨rfl_, Bu HB⟩
         ·rw [if_neg c140] at H
          have c140b0 : (t701 == 20) = false := beq_eq_false_iff_ne.mpr c140
          have c140b1 : (t701 != 20) = true := bne_iff_ne.mpr c140
          obtain rfl := Option.some.inj H
          go_wp2_with (first | ((with_reducible refine gate_dst (N := 55) rfl ?_); (try (refine gate_guard (by rfl) ?_; dsimp only)); refine litI .i64 3 55 [2] [.int .i64 2] ?hr ?_; (case hr => first | (go_simp; done) | (go_simp; rfl)); intro v706 w149 ho150 hb; (first | rw [← Ny705.out] at ho150 | (simp only [Int.reduceToNat] at ho150; rw [← Ny705.out] at ho150)); have n0_ := Ve HO_5 (Kd.R_base ho150) hb; have n1_ := Ve HO_6 (Kd.R_base ho150) hb; have n2_ := Ve HO_9 (Kd.R_base ho150) hb; have n3_ := Rb HO_10 hb; have n4_ := Aside0.mk (Kd.R_lower ho150 (Bz HB)); have n5_ := Bs HB hb; clear HO_5 HO_6 HO_9 HO_10 HB; revert n0_ n1_ n2_ n3_ n4_ n5_; intro HO_5 HO_6 HO_9 HO_10 HO707 HB; clear hb ho150; obtain ⟨Ao151, co151, eo151⟩ := Kd.R_slice HO707.out; subst eo151) | ((with_reducible refine gate_callee (f := 21) rfl ?_); refine goesA (some 56) Tryd.func21 #[.slice Ao23 t690.length co23, .slice Ao151 y705.length co151] rfl ?_; (with_reducible refine (lanyardref06_Cmp.calls kj17 _ _ t690 _ _ y705 t708 _ ?side1 ?side2 ?side3 ?side4 A32.out).mono ?_); (case side1 => exact Cu (Kd.V_reads' HO_6.out).2.2); (case side2 => exact (Kd.V_reads' HO_6.out).2.1); (case side3 => exact Cu (Kd.R_reads' HO707.out).2.2); (case side4 => exact (Kd.R_reads' HO707.out).2.1); rintro e w' ⟨rfl, ⟨nd, rfl⟩⟩; refine ⟨_, rfl, ?_⟩) | ((with_reducible refine gate_dst (N := 66) rfl ?_); (try (refine gate_guard (by rfl) ?_; dsimp only)); refine litI .i64 3 66 [1] [.int .i64 1] ?hr ?_; (case hr => first | (go_simp; done) | (go_simp; rfl)); intro v710 w152 ho153 hb; (first | rw [← Ny709.out] at ho153 | (simp only [Int.reduceToNat] at ho153; rw [← Ny709.out] at ho153)); have n0_ := Ve HO_5 (Kd.R_base ho153) hb; have n1_ := Ve HO_6 (Kd.R_base ho153) hb; have n2_ := Ve HO_9 (Kd.R_base ho153) hb; have n3_ := Rb HO_10 hb; have n4_ := Re HO707 (Kd.R_base ho153) hb; have n5_ := Aside0.mk (Kd.R_lower (Kd.R_new' ho153 (Kd.R_lt (Ru HO707))) (Bz HB)); have n6_ := Bs HB hb; clear HO_5 HO_6 HO_9 HO_10 HO707 HB; revert n0_ n1_ n2_ n3_ n4_ n5_ n6_; intro HO_5 HO_6 HO_9 HO_10 HO707 HO711 HB; clear hb ho153; obtain ⟨Ao154, co154, eo154⟩ := Kd.V_slice HO_9.out; subst eo154; obtain ⟨Ao155, co155, eo155⟩ := Kd.R_slice HO711.out; subst eo155) | ((with_reducible refine gate_callee (f := 21) rfl ?_); refine goesA (some 67) Tryd.func21 #[.slice Ao154 t697.length co154, .slice Ao155 y709.length co155] rfl ?_; (with_reducible refine (lanyardref06_Cmp.calls kj17 _ _ t697 _ _ y709 t712 _ ?side1 ?side2 ?side3 ?side4 A42.out).mono ?_); (case side1 => exact Cu (Kd.V_reads' HO_9.out).2.2); (case side2 => exact (Kd.V_reads' HO_9.out).2.1); (case side3 => exact Cu (Kd.R_reads' HO711.out).2.2); (case side4 => exact (Kd.R_reads' HO711.out).2.1); rintro e w' ⟨rfl, ⟨nd, rfl⟩⟩; refine ⟨_, rfl, ?_⟩))
          go_ret
          exact ⟨rfl_, Bu HB⟩

/-- THE ONE PURE STATEMENT of lanyardlaw06_NatInverses: yours. -/
def lanyardlaw06_NatInverses.Pure : Prop := ∀ (l0 : List Int) (l1 : List Int), l0.length ≤ maxLen → l0.length * 1 ≤ 140737488351232 → (∀ x ∈ l0, (Lit.int .u8 x).wf = true) → l1.length ≤ maxLen → l1.length * 1 ≤ 140737488351232 → (∀ x ∈ l1, (Lit.int .u8 x).wf = true) → ∃ k, lanyardlaw06_NatInverses.f k l0 l1 = some true
theorem lanyardlaw06_NatInverses.walk (P : lanyardlaw06_NatInverses.Pure) (a0 : Option Addr) (len0 cap0 : Nat) (z0 : List Int) (a1 : Option Addr) (len1 cap1 : Nat) (z1 : List Int) (w : World) (w0 : (a0 = none ∧ len0 = 0 ∧ cap0 = 0 ∧ z0 = []) ∨ ∃ x, a0 = some x ∧ len0 ≤ cap0 ∧ cap0 ≤ maxLen ∧ z0.length = cap0 ∧ (∀ i, i < z0.length → w.cell? (x.add i) = some (.int .u8 (z0.getD i 0))) ∧ ∀ n ∈ z0, (Lit.int .u8 n).wf = true) (y0 : len0 * 1 ≤ 140737488351232) (w1 : (a1 = none ∧ len1 = 0 ∧ cap1 = 0 ∧ z1 = []) ∨ ∃ x, a1 = some x ∧ len1 ≤ cap1 ∧ cap1 ≤ maxLen ∧ z1.length = cap1 ∧ (∀ i, i < z1.length → w.cell? (x.add i) = some (.int .u8 (z1.getD i 0))) ∧ ∀ n ∈ z1, (Lit.int .u8 n).wf = true) (y1 : len1 * 1 ≤ 140737488351232) :
  Calls Tryd.prog 5 #[.slice a0 len0 cap0, .slice a1 len1 cap1] w fun e w' => e = .returned (.bool true) ∧ Below w.heap.size w w' := by
 obtain ⟨l0, rfl, hr0, hm0, hw0, hc0⟩ := ReadsInt.ofRowC w0
 obtain ⟨l1, rfl, hr1, hm1, hw1, hc1⟩ := ReadsInt.ofRowC w1
 obtain ⟨k, h⟩ := P l0 l1 hm0 y0 hw0 hm1 y1 hw1
 refine (lanyardlaw06_NatInverses.calls k _ _ l0 _ _ l1 true w (Kd.C_of_reads (d := (0 : Int)) (h1 := fun _ => rfl) hr0) hc0 (Kd.C_of_reads (d := (0 : Int)) (h1 := fun _ => rfl) hr1) hc1 h).mono ?_
 rintro e w' ⟨rfl, hd⟩
 exact ⟨rfl, hd⟩

end Go.Proofs.YtcofpbndaljppaaDoor.Hp
