/- Go functions of this seat as Lean functions, and their contracts: what the Go code computes, for every input. (By hp.py, a program of this repo, over the kit's print.py.) -/
import Derived.Test.YtcofpbndaljppaaDoorHp0
import Derived.Test.YtcofpbndaljppaaDoorHp1
import Derived.Test.YtcofpbndaljppaaDoorHp4
import Derived.Test.YtcofpbndaljppaaDoorHp6
import Derived.Test.YtcofpbndaljppaaDoorHp7
import Derived.Test.YtcofpbndaljppaaDoorHp11
namespace Go.Proofs.YtcofpbndaljppaaDoor.Hp
open Go.RowKit Go.Proofs.YtcofpbndaljppaaDoorW.PrintWords Go.Proofs.YtcofpbndaljppaaDoorW.PrintLast Go.Proofs.YtcofpbndaljppaaDoorW.PrintMore
attribute [local go_sem] max2_int min2_int max_two min_two max_three min_three max_four min_four   -- for this text's walks alone
set_option linter.unusedVariables false
set_option linter.unusedSimpArgs false

/-! ### lanyardlaw06_NatBack: function 6 -/
mutual
def lanyardlaw06_NatBack.j0 : Nat → List Int → List Int → Bool → Option (Bool)
 | 0, _, _, _ => none
 | k + 1, x0, x1, x29 => if x29 = true then ((lanyardlaw06_awake.f k).bind fun t721 => (some t721)) else ((nat_Div.f k x0 x1).bind fun bt722 => ((nat_Mul.f k bt722.1 x1).bind fun bt729 => (if bt722.2.2 = 0 then (if bt729.2 = 0 then ((nat_Cmp.f k bt722.2.1 x1).bind fun t733 => (lanyardlaw06_NatBack.j1 k x0 bt722.2.1 bt729.1 (decide (t733 ≥ 0)))) else (lanyardlaw06_NatBack.j1 k x0 bt722.2.1 bt729.1 true)) else (lanyardlaw06_NatBack.j1 k x0 bt722.2.1 bt729.1 true))))
def lanyardlaw06_NatBack.j1 : Nat → List Int → List Int → List Int → Bool → Option (Bool)
 | 0, _, _, _, _ => none
 | k + 1, x0, x6, x8, x55 => if x55 = true then (some false) else (if (x8.length : Int) > 1024 then (some false) else ((nat_Add.f k x8 x6).bind fun bt734 => (if bt734.2 = 0 then ((nat_Trim.f x0).bind fun t738 => (some ((strOfNums bt734.1).toList == (strOfNums t738).toList))) else (some false))))
end
def lanyardlaw06_NatBack.f (k : Nat) (l0 : List Int) (l1 : List Int) : Option (Bool) := (lanyardlaw06_awake.f k).bind fun t717 => (if t717 = true then (if (l0.length : Int) > 1024 then (lanyardlaw06_NatBack.j0 k l0 l1 true) else (if (l1.length : Int) > 1024 then (lanyardlaw06_NatBack.j0 k l0 l1 true) else ((lanyardref06_Of.f k l1).bind fun t718 => (lanyardlaw06_NatBack.j0 k l0 l1 ((t718.length : Int) == 0))))) else (lanyardlaw06_NatBack.j0 k l0 l1 true))
theorem lanyardlaw06_NatBack.mono_l : ∀ k, (∀ y0 y1 y2, LeO (lanyardlaw06_NatBack.j0 k y0 y1 y2) (lanyardlaw06_NatBack.j0 (k + 1) y0 y1 y2)) ∧ (∀ y0 y1 y2 y3, LeO (lanyardlaw06_NatBack.j1 k y0 y1 y2 y3) (lanyardlaw06_NatBack.j1 (k + 1) y0 y1 y2 y3))
 | 0 => ⟨fun _ _ _ r h => by simp [lanyardlaw06_NatBack.j0] at h, fun _ _ _ _ r h => by simp [lanyardlaw06_NatBack.j1] at h⟩
 | k + 1 => by
  obtain ⟨ih0, ih1⟩ := lanyardlaw06_NatBack.mono_l k
  refine ⟨?_, ?_⟩
  ·intro y0 y1 y2
   unfold lanyardlaw06_NatBack.j0
   repeat' first
   | (with_reducible exact ih0 _ _ _)
   | (with_reducible exact ih1 _ _ _ _)
   | (with_reducible exact lanyardlaw06_awake.mono _)
   | (with_reducible exact lanyardref06_Of.mono _ _)
   | (with_reducible exact nat_Add.mono _ _ _)
   | (with_reducible exact nat_Cmp.mono _ _ _)
   | (with_reducible exact nat_Div.mono _ _ _)
   | (with_reducible exact nat_Mul.mono _ _ _)
   | (with_reducible exact LeO.refl _)
   | (with_reducible exact LeO.none _)
   | (with_reducible refine LeO.ite ?_ ?_)
   | (with_reducible refine LeO.bind ?_ (fun _ => ?_))
   | exact ih0 _ _ _
   | exact ih1 _ _ _ _
   | exact lanyardlaw06_awake.mono _
   | exact lanyardref06_Of.mono _ _
   | exact nat_Add.mono _ _ _
   | exact nat_Cmp.mono _ _ _
   | exact nat_Div.mono _ _ _
   | exact nat_Mul.mono _ _ _
   | exact LeO.none _
   | refine LeO.ite ?_ ?_
   | refine LeO.bind ?_ (fun _ => ?_)
  ·intro y0 y1 y2 y3
   unfold lanyardlaw06_NatBack.j1
   repeat' first
   | (with_reducible exact ih0 _ _ _)
   | (with_reducible exact ih1 _ _ _ _)
   | (with_reducible exact lanyardlaw06_awake.mono _)
   | (with_reducible exact lanyardref06_Of.mono _ _)
   | (with_reducible exact nat_Add.mono _ _ _)
   | (with_reducible exact nat_Cmp.mono _ _ _)
   | (with_reducible exact nat_Div.mono _ _ _)
   | (with_reducible exact nat_Mul.mono _ _ _)
   | (with_reducible exact LeO.refl _)
   | (with_reducible exact LeO.none _)
   | (with_reducible refine LeO.ite ?_ ?_)
   | (with_reducible refine LeO.bind ?_ (fun _ => ?_))
   | exact ih0 _ _ _
   | exact ih1 _ _ _ _
   | exact lanyardlaw06_awake.mono _
   | exact lanyardref06_Of.mono _ _
   | exact nat_Add.mono _ _ _
   | exact nat_Cmp.mono _ _ _
   | exact nat_Div.mono _ _ _
   | exact nat_Mul.mono _ _ _
   | exact LeO.none _
   | refine LeO.ite ?_ ?_
   | refine LeO.bind ?_ (fun _ => ?_)
theorem lanyardlaw06_NatBack.mono : ∀ a0 a1 k, LeO (lanyardlaw06_NatBack.f k a0 a1) (lanyardlaw06_NatBack.f (k + 1) a0 a1) := by
 intro a0 a1 k
 obtain ⟨ih0, ih1⟩ := lanyardlaw06_NatBack.mono_l k
 unfold lanyardlaw06_NatBack.f
 repeat' first
   | (with_reducible exact ih0 _ _ _)
   | (with_reducible exact ih1 _ _ _ _)
   | (with_reducible exact lanyardlaw06_awake.mono _)
   | (with_reducible exact lanyardref06_Of.mono _ _)
   | (with_reducible exact nat_Add.mono _ _ _)
   | (with_reducible exact nat_Cmp.mono _ _ _)
   | (with_reducible exact nat_Div.mono _ _ _)
   | (with_reducible exact nat_Mul.mono _ _ _)
   | (with_reducible exact LeO.refl _)
   | (with_reducible exact LeO.none _)
   | (with_reducible refine LeO.ite ?_ ?_)
   | (with_reducible refine LeO.bind ?_ (fun _ => ?_))
   | exact ih0 _ _ _
   | exact ih1 _ _ _ _
   | exact lanyardlaw06_awake.mono _
   | exact lanyardref06_Of.mono _ _
   | exact nat_Add.mono _ _ _
   | exact nat_Cmp.mono _ _ _
   | exact nat_Div.mono _ _ _
   | exact nat_Mul.mono _ _ _
   | exact LeO.none _
   | refine LeO.ite ?_ ?_
   | refine LeO.bind ?_ (fun _ => ?_)
def lanyardlaw06_NatBack.T10 : Bool × List (List Nat × List Nat) := (true, [([], []), ([0], [0]), ([1], [1]), ([2], [2]), ([3, 2], [2, 3]), ([2], [2]), ([5, 2, 2], [2, 5]), ([6, 2], [2, 6]), ([4, 7, 2], [2, 4, 7]), ([2, 8], [2, 8]), ([9, 6, 0, 1, 2, 3, 4, 5, 6, 7, 8, 9], [9])])
def lanyardlaw06_NatBack.B10 : List Nat := [0, 1, 3, 7, 15, 7, 39, 103, 255, 511, 1023]
theorem lanyardlaw06_NatBack.tab10 : rtab .any (opsOf Tryd.f6 10) = lanyardlaw06_NatBack.T10 := by kernel_rfl
theorem lanyardlaw06_NatBack.bits10 : waitsOk lanyardlaw06_NatBack.T10.2 lanyardlaw06_NatBack.B10 = true := by kernel_rfl
set_option maxHeartbeats 8000000 in
set_option maxRecDepth 100000 in
theorem lanyardlaw06_NatBack.calls (k : Nat) (A0 : Option Addr) (c0 : Nat) (l0 : List Int) (A1 : Option Addr) (c1 : Nat) (l1 : List Int) (r : Bool) (w : World) (hr0 : Kd.C (Kd.int .u8) w A0 l0.length l0) (hc0 : l0.length ≤ c0) (hr1 : Kd.C (Kd.int .u8) w A1 l1.length l1) (hc1 : l1.length ≤ c1) (h : lanyardlaw06_NatBack.f k l0 l1 = some r) :
  Calls Tryd.prog 6 #[.slice A0 l0.length c0, .slice A1 l1.length c1] w fun e w' => e = .returned (.bool r) ∧ Below w.heap.size w w' := by
 have HR0 := Aside0.mk hr0
 have HC0 := Aside0.mk hc0
 clear hr0 hc0
 have HR1 := Aside0.mk hr1
 have HC1 := Aside0.mk hc1
 clear hr1 hc1
 have HB := Aside0.mk (Below.refl w.heap.size w)
 have H : ((lanyardlaw06_awake.f k).bind fun t717 => (if t717 = true then (if (l0.length : Int) > 1024 then (lanyardlaw06_NatBack.j0 k l0 l1 true) else (if (l1.length : Int) > 1024 then (lanyardlaw06_NatBack.j0 k l0 l1 true) else ((lanyardref06_Of.f k l1).bind fun t718 => (lanyardlaw06_NatBack.j0 k l0 l1 ((t718.length : Int) == 0))))) else (lanyardlaw06_NatBack.j0 k l0 l1 true))) = some r := h
 clear h
 have HC3 := Aside0.mk H
 clear H
 go_enter Tryd.func6, Tryd.ntmps6
 go_upto_region 1 with (fail)
 go_cut [29] (fun v29 wc => ∃ (kq : Nat) (x29_2 : Bool), v29 = .bool x29_2 ∧ Aside0 (lanyardlaw06_NatBack.j0 kq l0 l1 x29_2 = some r) ∧ Aside0 (kq ≤ k) ∧ Aside0 (Below w.heap.size w wc))
 case first =>
  have H := HC3.out
  clear HC3
  replace H := Option.bind_eq_some_iff.mp H
  obtain ⟨t717, A40, H⟩ := H
  replace H : (if t717 = true then (if (l0.length : Int) > 1024 then (lanyardlaw06_NatBack.j0 k l0 l1 true) else (if (l1.length : Int) > 1024 then (lanyardlaw06_NatBack.j0 k l0 l1 true) else ((lanyardref06_Of.f k l1).bind fun t718 => (lanyardlaw06_NatBack.j0 k l0 l1 ((t718.length : Int) == 0))))) else (lanyardlaw06_NatBack.j0 k l0 l1 true)) = some r := H
  have A4 := Aside0.mk A40
  clear A40
  by_cases c5 : t717 = true
  ·subst c5
   have H1 : (if (l0.length : Int) > 1024 then (lanyardlaw06_NatBack.j0 k l0 l1 true) else (if (l1.length : Int) > 1024 then (lanyardlaw06_NatBack.j0 k l0 l1 true) else ((lanyardref06_Of.f k l1).bind fun t718 => (lanyardlaw06_NatBack.j0 k l0 l1 ((t718.length : Int) == 0))))) = some r := by rw [if_pos rfl] at H; exact H
   clear H
   have H := H1
   clear H1
   refine (Classical.em ((l0.length : Int) > 1024)).elim (fun c6 => ?a34_) (fun c6 => ?b34_)
   case' a34_ =>
    rw [if_pos c6] at H
    have c6b0 : decide (1024 < (l0.length : Int)) = true := decide_eq_true c6
    have c6b1 : decide (1024 < l0.length) = true := decide_eq_true (by omega)
    clear c6
    (first | rw [c6b0] | (simp only [i64_w, i32_w]; rw [c6b0]) | skip)
    have H' := Aside0.mk H
    clear H
   case' b34_ =>
    rw [if_neg c6] at H
    have c6b0 : decide (1024 < (l0.length : Int)) = false := decide_eq_false c6
    have c6b1 : decide (1024 < l0.length) = false := decide_eq_false (by omega)
    clear c6
    (first | rw [c6b0] | (simp only [i64_w, i32_w]; rw [c6b0]) | skip)
    refine (Classical.em ((l1.length : Int) > 1024)).elim (fun c8 => ?a35_) (fun c8 => ?b35_)
    case' a35_ =>
     rw [if_pos c8] at H
     have c8b0 : decide (1024 < (l1.length : Int)) = true := decide_eq_true c8
     have c8b1 : decide (1024 < l1.length) = true := decide_eq_true (by omega)
     clear c8
     have H' := Aside0.mk H
     clear H
    case' b35_ =>
     rw [if_neg c8] at H
     have c8b0 : decide (1024 < (l1.length : Int)) = false := decide_eq_false c8
     have c8b1 : decide (1024 < l1.length) = false := decide_eq_false (by omega)
     clear c8
     replace H := Option.bind_eq_some_iff.mp H
     obtain ⟨t718, A100, H⟩ := H
     replace H : (lanyardlaw06_NatBack.j0 k l0 l1 ((t718.length : Int) == 0)) = some r := H
     have A10 := Aside0.mk A100
     clear A100
     have H' := Aside0.mk H
     clear H
     go_wp2_with (first | ((with_reducible refine gate_callee (f := 11) rfl ?_); refine goesA (some 12) Tryd.func11 #[] rfl ?_; (with_reducible refine (lanyardlaw06_awake.calls k  true _ A4.out).mono ?_); rintro e w11 ⟨rfl, hb⟩; refine ⟨_, rfl, ?_⟩; have n0_ := Bs HB hb; clear HB; revert n0_; intro HB; (try clear hb); (try clear hb2); (try clear hk); (try clear hi)) | (go_at_call 12; (with_reducible refine (lanyardref06_Of.calls k _ _ l1 t718 _ ?side1 ?side2 A10.out).mono ?_); (case side1 => exact Cu (Kd.C_below HR1.out HB.out)); (case side2 => exact HC1.out); rintro e w12 ⟨v719, rfl, ho0, hb⟩; have n0_ := Aside0.mk (Kd.V_lower (Kd.V_mono (ok' := fun k_ => True) ho0 (fun k_ hk_ => trivial)) (Bz HB)); have n1_ := Bs HB hb; clear HB; revert n0_ n1_; intro HO720 HB; (try clear hb); (try clear hb2); (try clear hk); (try clear hi); (try clear ho0); obtain ⟨Ao13, co13, eo13⟩ := Kd.V_slice HO720.out; subst eo13))
     go_meet
     case rel => exact ⟨_, (((t718.length : Int) == 0)), (by first | rfl | (simp; done) | (simp [*]; done)), H', ⟨by first | omega | exact Nat.le_refl _⟩, ⟨Bu HB⟩⟩
   case a34_ | b34_ =>
    go_wp2_with (first | ((with_reducible refine gate_callee (f := 11) rfl ?_); refine goesA (some 12) Tryd.func11 #[] rfl ?_; (with_reducible refine (lanyardlaw06_awake.calls k  true _ A4.out).mono ?_); rintro e wz1 ⟨rfl, hb⟩; refine ⟨_, rfl, ?_⟩; have nz1 := Bs HB hb; clear HB; have HB := nz1; clear nz1; (try clear hb); (try clear hb2); (try clear hk); (try clear hi)))
    go_meet
    case rel => exact ⟨_, (true), (by first | rfl | (simp; done) | (simp [*]; done)), H', ⟨by first | omega | exact Nat.le_refl _⟩, ⟨Bu HB⟩⟩
  ·replace c5 := Bool.eq_false_iff.mpr c5
   subst c5
   have H1 : (lanyardlaw06_NatBack.j0 k l0 l1 true) = some r := by rw [if_neg (show ¬ (false = true) by decide)] at H; exact H
   clear H
   have H := H1
   clear H1
   have H' := Aside0.mk H
   clear H
   go_wp2_with (first | ((with_reducible refine gate_callee (f := 11) rfl ?_); refine goesA (some 12) Tryd.func11 #[] rfl ?_; (with_reducible refine (lanyardlaw06_awake.calls k  false _ A4.out).mono ?_); rintro e w14 ⟨rfl, hb⟩; refine ⟨_, rfl, ?_⟩; have n0_ := Bs HB hb; clear HB; revert n0_; intro HB; (try clear hb); (try clear hb2); (try clear hk); (try clear hi)))
   go_meet
   case rel => exact ⟨_, (true), (by first | rfl | (simp; done) | (simp [*]; done)), H', ⟨by first | omega | exact Nat.le_refl _⟩, ⟨Bu HB⟩⟩
 case rest =>
  clear HC3
  try clear c1
  try clear p2
  try clear c5
  try clear c6
  try clear c6b0
  try clear c6b1
  try clear c8
  try clear c8b0
  try clear c8b1
  try clear c11
  obtain ⟨kq, x29_2, rfl, HA, HJ2, HB⟩ := hcut
  cases kq with
  | zero => exact absurd HA.out (by simp [lanyardlaw06_NatBack.j0])
  | succ kj2 =>
   have H := HA.out
   clear HA
   simp only [lanyardlaw06_NatBack.j0] at H
   by_cases c15 : x29_2 = true
   ·subst c15
    have H1 : ((lanyardlaw06_awake.f kj2).bind fun t721 => (some t721)) = some r := by rw [if_pos rfl] at H; exact H
    clear H
    have H := H1
    clear H1
    replace H := Option.bind_eq_some_iff.mp H
    obtain ⟨t721, A160, H⟩ := H
    replace H : (some t721) = some r := H
    have A16 := Aside0.mk A160
    clear A160
    obtain rfl := Option.some.inj H
    go_wp2_with (first | ((with_reducible refine gate_callee (f := 11) rfl ?_); refine goesA (some 30) Tryd.func11 #[] rfl ?_; (with_reducible refine (lanyardlaw06_awake.calls kj2  t721 _ A16.out).mono ?_); rintro e w17 ⟨rfl, hb⟩; refine ⟨_, rfl, ?_⟩; have n0_ := Bs HB hb; clear HB; revert n0_; intro HB; (try clear hb); (try clear hb2); (try clear hk); (try clear hi)))
    go_ret
    exact ⟨rfl_, Bu HB⟩
   ·replace c15 := Bool.eq_false_iff.mpr c15
    subst c15
    have H1 : ((nat_Div.f kj2 l0 l1).bind fun bt722 => ((nat_Mul.f kj2 bt722.1 l1).bind fun bt729 => (if bt722.2.2 = 0 then (if bt729.2 = 0 then ((nat_Cmp.f kj2 bt722.2.1 l1).bind fun t733 => (lanyardlaw06_NatBack.j1 kj2 l0 bt722.2.1 bt729.1 (decide (t733 ≥ 0)))) else (lanyardlaw06_NatBack.j1 kj2 l0 bt722.2.1 bt729.1 true)) else (lanyardlaw06_NatBack.j1 kj2 l0 bt722.2.1 bt729.1 true)))) = some r := by rw [if_neg (show ¬ (false = true) by decide)] at H; exact H
    clear H
    have H := H1
    clear H1
    replace H := Option.bind_eq_some_iff.mp H
    obtain ⟨⟨t722, t725, t728⟩, A180, H⟩ := H
    replace H : ((nat_Mul.f kj2 t722 l1).bind fun bt729 => (if t728 = 0 then (if bt729.2 = 0 then ((nat_Cmp.f kj2 t725 l1).bind fun t733 => (lanyardlaw06_NatBack.j1 kj2 l0 t725 bt729.1 (decide (t733 ≥ 0)))) else (lanyardlaw06_NatBack.j1 kj2 l0 t725 bt729.1 true)) else (lanyardlaw06_NatBack.j1 kj2 l0 t725 bt729.1 true))) = some r := H
    have A18 := Aside0.mk A180
    clear A180
    replace H := Option.bind_eq_some_iff.mp H
    obtain ⟨⟨t729, t730⟩, A190, H⟩ := H
    replace H : (if t728 = 0 then (if t730 = 0 then ((nat_Cmp.f kj2 t725 l1).bind fun t733 => (lanyardlaw06_NatBack.j1 kj2 l0 t725 t729 (decide (t733 ≥ 0)))) else (lanyardlaw06_NatBack.j1 kj2 l0 t725 t729 true)) else (lanyardlaw06_NatBack.j1 kj2 l0 t725 t729 true)) = some r := H
    have A19 := Aside0.mk A190
    clear A190
    have HC20 := Aside0.mk H
    clear H
    go_upto_region 5 with (first | ((with_reducible refine gate_callee (f := 13) rfl ?_); refine goesA (some 34) Tryd.func13 #[.slice A0 l0.length c0, .slice A1 l1.length c1] rfl ?_; (with_reducible refine (nat_Div.calls kj2 (fun k_ => k_ < w.heap.size) _ _ l0 (fun k_ => k_ < w.heap.size) _ _ l1 t722 t725 t728 _ ?side1 ?side2 A18.out).mono ?_); (case side1 => exact Kd.V_mk HC0.out (Kd.F_below (Kd.C_F (Kd.heap_int .u8) HR0.out) (Bu HB))); (case side2 => exact Kd.V_mk HC1.out (Kd.F_below (Kd.C_F (Kd.heap_int .u8) HR1.out) (Bu HB))); rintro e w21 ⟨v723, v726, rfl, ho0, ho1, hb⟩; refine ⟨_, rfl, ?_⟩; have n0_ := Aside0.mk (Kd.R_lower (Kd.R_mono (ok' := fun k_ => some k_ ≠ (v726 : Value).ownBlock) ho0 (fun _ hk_ => hk_.2)) (Bz HB)); have n1_ := Aside0.mk (Kd.R_lower (Kd.R_mono (ok' := fun k_ => some k_ ≠ (v723 : Value).ownBlock) ho1 (fun _ hk_ => hk_.2)) (Bz HB)); have n2_ := Bs HB hb; clear HB; revert n0_ n1_ n2_; intro HO724 HO727 HB; (try clear hb); (try clear hb2); (try clear hk); (try clear hi); (try clear ho0); (try clear ho1); obtain ⟨Ao22, co22, eo22⟩ := Kd.R_slice HO724.out; subst eo22) | ((with_reducible refine gate_callee (f := 23) rfl ?_); refine goesA (some 41) Tryd.func23 #[.slice Ao22 t722.length co22, .slice A1 l1.length c1] rfl ?_; (with_reducible refine (nat_Mul.calls kj2 _ _ t722 _ _ l1 t729 t730 _ ?side1 ?side2 ?side3 ?side4 A19.out).mono ?_); (case side1 => exact Cu (Kd.R_reads' HO724.out).2.2); (case side2 => exact (Kd.R_reads' HO724.out).2.1); (case side3 => exact Cu (Kd.C_below HR1.out HB.out)); (case side4 => exact HC1.out); rintro e w23 ⟨v731, rfl, ho0, hb⟩; refine ⟨_, rfl, ?_⟩; have n0_ := Re HO724 (Kd.R_base ho0) hb; have n1_ := Re HO727 (Kd.R_base ho0) hb; have n2_ := Aside0.mk (Kd.R_lower (Kd.R_new' (Kd.R_new' ho0 (Kd.R_lt (Ru HO724))) (Kd.R_lt (Ru HO727))) (Bz HB)); have n3_ := Bs HB hb; clear HO724 HO727 HB; revert n0_ n1_ n2_ n3_; intro HO724 HO727 HO732 HB; (try clear hb); (try clear hb2); (try clear hk); (try clear hi); (try clear ho0)))
    (try simp only [Act.put, List.setIfInBounds_toArray, List.set_cons_zero, List.set_cons_succ])
    go_cut [55] (fun v55 wc => ∃ (kq : Nat) (x55_19 : Bool), v55 = .bool x55_19 ∧ Aside0 (lanyardlaw06_NatBack.j1 kq l0 t725 t729 x55_19 = some r) ∧ Aside0 (kq ≤ kj2) ∧ Aside0 (Kd.R (Kd.int .u8) 5 wc w.heap.size (fun k_ => some k_ ≠ (v731 : Value).ownBlock) v726 t725) ∧ Aside0 (Kd.R (Kd.int .u8) 5 wc w.heap.size (fun k_ => some k_ ≠ (v726 : Value).ownBlock) v731 t729) ∧ Aside0 (Below w.heap.size w wc))
    case first =>
     have H := HC20.out
     clear HC20
     refine (Classical.em (t728 = 0)).elim (fun c24 => ?a36_) (fun c24 => ?b36_)
     case' a36_ =>
      rw [if_pos c24] at H
      have c24b0 : (t728 == 0) = true := beq_iff_eq.mpr c24
      have c24b1 : (t728 != 0) = false := bne_eq_false_iff_eq.mpr c24
      clear c24
      (first | rw [c24b0] | (simp only [i64_w, i32_w]; rw [c24b0]) | skip)
      refine (Classical.em (t730 = 0)).elim (fun c25 => ?a37_) (fun c25 => ?b37_)
      case' a37_ =>
       rw [if_pos c25] at H
       have c25b0 : (t730 == 0) = true := beq_iff_eq.mpr c25
       have c25b1 : (t730 != 0) = false := bne_eq_false_iff_eq.mpr c25
       clear c25
       replace H := Option.bind_eq_some_iff.mp H
       obtain ⟨t733, A260, H⟩ := H
       replace H : (lanyardlaw06_NatBack.j1 kj2 l0 t725 t729 (decide (t733 ≥ 0))) = some r := H
       have A26 := Aside0.mk A260
       clear A260
       have H' := Aside0.mk H
       clear H
       obtain ⟨Ao27, co27, eo27⟩ := Kd.R_slice HO727.out
       subst eo27
       go_wp2_with (first | (go_at_call 24; (with_reducible refine (nat_Cmp.calls kj2 _ _ t725 _ _ l1 t733 _ ?side1 ?side2 ?side3 ?side4 A26.out).mono ?_); (case side1 => exact Cu (Kd.R_reads' HO727.out).2.2); (case side2 => exact (Kd.R_reads' HO727.out).2.1); (case side3 => exact Cu (Kd.C_below HR1.out HB.out)); (case side4 => exact HC1.out); rintro e w28 ⟨rfl, hb⟩; have n0_ := Rb HO724 hb; have n1_ := Rb HO727 hb; have n2_ := Rb HO732 hb; have n3_ := Bs HB hb; clear HO724 HO727 HO732 HB; revert n0_ n1_ n2_ n3_; intro HO724 HO727 HO732 HB; (try clear hb); (try clear hb2); (try clear hk); (try clear hi)))
       go_meet
       case rel => exact ⟨_, (decide (t733 ≥ 0)), (by first | rfl | (simp; done) | (simp [*]; done)), H', ⟨by have := HJ2.out; first | omega | exact Nat.le_refl _⟩, ⟨by (with_reducible repeat (first | apply Kd.R_alloc | apply Kd.R_drewN | apply Kd.R_drew)); exact Kd.R_mono HO727.out (fun _ hk => hk.2)⟩, ⟨by (with_reducible repeat (first | apply Kd.R_alloc | apply Kd.R_drewN | apply Kd.R_drew)); exact Kd.R_mono HO732.out (fun _ hk => hk.2)⟩, ⟨Bu HB⟩⟩
      case' b37_ =>
       rw [if_neg c25] at H
       have c25b0 : (t730 == 0) = false := beq_eq_false_iff_ne.mpr c25
       have c25b1 : (t730 != 0) = true := bne_iff_ne.mpr c25
       have H' := Aside0.mk H
       clear H
     case' b36_ =>
      rw [if_neg c24] at H
      have c24b0 : (t728 == 0) = false := beq_eq_false_iff_ne.mpr c24
      have c24b1 : (t728 != 0) = true := bne_iff_ne.mpr c24
      (first | rw [c24b0] | (simp only [i64_w, i32_w]; rw [c24b0]) | skip)
      have H' := Aside0.mk H
      clear H
     case a36_ | b36_ =>
      go_wp2
      go_meet
      case rel => exact ⟨_, (true), (by first | rfl | (simp; done) | (simp [*]; done)), H', ⟨by have := HJ2.out; first | omega | exact Nat.le_refl _⟩, ⟨by (with_reducible repeat (first | apply Kd.R_alloc | apply Kd.R_drewN | apply Kd.R_drew)); exact Kd.R_mono HO727.out (fun _ hk => hk.2)⟩, ⟨by (with_reducible repeat (first | apply Kd.R_alloc | apply Kd.R_drewN | apply Kd.R_drew)); exact Kd.R_mono HO732.out (fun _ hk => hk.2)⟩, ⟨Bu HB⟩⟩
    case rest =>
     clear HC20
     try clear c1
     try clear c2
     try clear p2
     try clear c5
     try clear c6
     try clear c6b0
     try clear c6b1
     try clear c8
     try clear c8b0
     try clear c8b1
     try clear c11
     try clear c13
     try clear c15
     try clear c23
     try clear c24
     try clear c24b0
     try clear c24b1
     try clear c25
     try clear c25b0
     try clear c25b1
     try clear p2
     obtain ⟨kq, x55_19, rfl, HA, HJ19, HO_6, HO_8, HB⟩ := hcut
     cases kq with
     | zero => exact absurd HA.out (by simp [lanyardlaw06_NatBack.j1])
     | succ kj19 =>
      have H := HA.out
      clear HA
      simp only [lanyardlaw06_NatBack.j1] at H
      refine (Classical.em (x55_19 = true)).elim (fun c29 => ?a38_) (fun c29 => ?b38_)
      case' a38_ =>
       subst c29
       have H1 : (some false) = some r := by rw [if_pos rfl] at H; exact H
       clear H
       have H := H1
       clear H1
       obtain rfl := Option.some.inj H
      case' b38_ =>
       replace c29 := Bool.eq_false_iff.mpr c29
       subst c29
       have H1 : (if (t729.length : Int) > 1024 then (some false) else ((nat_Add.f kj19 t729 t725).bind fun bt734 => (if bt734.2 = 0 then ((nat_Trim.f l0).bind fun t738 => (some ((strOfNums bt734.1).toList == (strOfNums t738).toList))) else (some false)))) = some r := by rw [if_neg (show ¬ (false = true) by decide)] at H; exact H
       clear H
       have H := H1
       clear H1
       refine (Classical.em ((t729.length : Int) > 1024)).elim (fun c30 => ?a39_) (fun c30 => ?b39_)
       case' a39_ =>
        rw [if_pos c30] at H
        have c30b0 : decide (1024 < (t729.length : Int)) = true := decide_eq_true c30
        have c30b1 : decide (1024 < t729.length) = true := decide_eq_true (by omega)
        clear c30
        obtain rfl := Option.some.inj H
        obtain ⟨Ao31, co31, eo31⟩ := Kd.R_slice HO_8.out
        subst eo31
       case' b39_ =>
        rw [if_neg c30] at H
        have c30b0 : decide (1024 < (t729.length : Int)) = false := decide_eq_false c30
        have c30b1 : decide (1024 < t729.length) = false := decide_eq_false (by omega)
        clear c30
        replace H := Option.bind_eq_some_iff.mp H
        obtain ⟨⟨t734, t735⟩, A320, H⟩ := H
        replace H : (if t735 = 0 then ((nat_Trim.f l0).bind fun t738 => (some ((strOfNums t734).toList == (strOfNums t738).toList))) else (some false)) = some r := H
        have A32 := Aside0.mk A320
        clear A320
        by_cases c33 : t735 = 0
        ·rw [if_pos c33] at H
         have c33b0 : (t735 == 0) = true := beq_iff_eq.mpr c33
         have c33b1 : (t735 != 0) = false := bne_eq_false_iff_eq.mpr c33
         clear c33
         replace H := Option.bind_eq_some_iff.mp H
         obtain ⟨t738, A340, H⟩ := H
         replace H : (some ((strOfNums t734).toList == (strOfNums t738).toList)) = some r := H
         have A34 := Aside0.mk A340
         clear A340
         obtain rfl := Option.some.inj H
         obtain ⟨Ao35, co35, eo35⟩ := Kd.R_slice HO_8.out
         subst eo35
         obtain ⟨Ao36, co36, eo36⟩ := Kd.R_slice HO_6.out
         subst eo36
         try go_wp2_with (first | ((with_reducible refine gate_callee (f := 25) rfl ?_); refine goesA (some 62) Tryd.func25 #[.slice Ao35 t729.length co35, .slice Ao36 t725.length co36] rfl ?_; (with_reducible refine (nat_Add.calls kj19 _ _ t729 _ _ t725 t734 t735 _ ?side1 ?side2 ?side3 ?side4 A32.out).mono ?_); (case side1 => exact Cu (Kd.R_reads' HO_8.out).2.2); (case side2 => exact (Kd.R_reads' HO_8.out).2.1); (case side3 => exact Cu (Kd.R_reads' HO_6.out).2.2); (case side4 => exact (Kd.R_reads' HO_6.out).2.1); rintro e w37 ⟨v736, rfl, ho0, hb⟩; refine ⟨_, rfl, ?_⟩; have n0_ := Re HO_6 (Kd.R_base ho0) hb; have n1_ := Re HO_8 (Kd.R_base ho0) hb; have n2_ := Aside0.mk (Kd.R_lower (Kd.R_new' (Kd.R_new' ho0 (Kd.R_lt (Ru HO_6))) (Kd.R_lt (Ru HO_8))) (Bz HB)); have n3_ := Bs HB hb; clear HO_6 HO_8 HB; revert n0_ n1_ n2_ n3_; intro HO_6 HO_8 HO737 HB; (try clear hb); (try clear hb2); (try clear hk); (try clear hi); (try clear ho0)))
         have n0_ := Aside0.mk (Kd.R_drew HO_6.out)
         have n1_ := Aside0.mk (Kd.R_drew HO_8.out)
         have n2_ := Aside0.mk (Kd.R_drew HO737.out)
         have n3_ := Aside0.mk (below_drew1 HB.out)
         clear HO_6
         clear HO_8
         clear HO737
         clear HB
         have HO_6 := n0_
         have HO_8 := n1_
         have HO737 := n2_
         have HB := n3_
         clear n0_ n1_ n2_ n3_
         refine start_ (n := 11) (S := fun w' => (convert 22 9 v736).run Tryd.prog w' = .ok (.string (strOfNums t734)) w') (ds := []) #[false, false, false, false, false, false, false, false, false, false, false] (by kernel_rfl) rfl rfl (own_string (P := Tryd.prog) Tryd.underlying22 Tryd.underlying5 Tryd.underlying9 (Kd.own_of_R HO737.out)) (fun hHeld => ?_); refine with_tabW lanyardlaw06_NatBack.tab10 lanyardlaw06_NatBack.bits10 (fun HT_ HW_ => ?_)
         generalize w37.drew = w38 at HO_6 HO_8 HO737 HB hHeld ⊢
         refine pure_ (i := 0) (N := some 65) (v := ?_) (a' := ?_) #[true, false, false, false, false, false, false, false, false, false, false] rfl rfl (any_of HT_.out (by kernel_rfl)) (fun _ _ _ h => h) (Or.inl ⟨by rfl, ?_⟩) ?_ ?_
         rotate_left
         ·intro w'
          go_simp
          with_reducible rfl
         rotate_left
         ·simp only [Act.put, List.setIfInBounds_toArray, List.set_cons_zero, List.set_cons_succ, i64_w, i32_w]
          rfl
         refine pure_ (i := 1) (N := some 66) (v := ?_) (a' := ?_) #[true, true, false, false, false, false, false, false, false, false, false] rfl rfl (any_of HT_.out (by kernel_rfl)) (fun _ _ _ h => h) (Or.inl ⟨by rfl, ?_⟩) ?_ ?_
         rotate_left
         ·intro w'
          go_simp
          with_reducible rfl
         rotate_left
         ·simp only [Act.put, List.setIfInBounds_toArray, List.set_cons_zero, List.set_cons_succ, i64_w, i32_w]
          rfl
         refine pure_ (i := 2) (N := some 67) (v := ?_) (a' := ?_) #[true, true, true, false, false, false, false, false, false, false, false] rfl rfl (any_of HT_.out (by kernel_rfl)) (fun _ _ _ h => h) (Or.inl ⟨by rfl, ?_⟩) ?_ ?_
         rotate_left
         ·intro w'
          go_simp
          with_reducible rfl
         rotate_left
         ·simp only [Act.put, List.setIfInBounds_toArray, List.set_cons_zero, List.set_cons_succ, i64_w, i32_w]
          rfl
         refine pure_ (i := 3) (N := some 68) (v := ?_) (a' := ?_) #[true, true, true, true, false, false, false, false, false, false, false] rfl rfl (any_of HT_.out (by kernel_rfl)) (fun _ _ _ h => h) (Or.inl ⟨by rfl, ?_⟩) ?_ ?_
         rotate_left
         ·intro w'
          go_simp
          with_reducible rfl
         rotate_left
         ·simp only [Act.put, List.setIfInBounds_toArray, List.set_cons_zero, List.set_cons_succ, i64_w, i32_w]
          rfl
         refine pure_ (i := 5) (N := some 70) (v := ?_) (a' := ?_) #[true, true, true, true, false, true, false, false, false, false, false] rfl rfl (any_of HT_.out (by kernel_rfl)) (fun _ _ _ h => h) (Or.inl ⟨by rfl, ?_⟩) ?_ ?_
         rotate_left
         ·intro w'
          go_simp
          with_reducible rfl
         rotate_left
         ·simp only [Act.put, List.setIfInBounds_toArray, List.set_cons_zero, List.set_cons_succ, i64_w, i32_w]
          rfl
         refine take_ (i := 4) (N := some 69) (v := ?_) (a' := ?_) #[true, true, true, true, true, true, false, false, false, false, false] rfl rfl (take_ofW HT_.out HW_.out (by kernel_rfl)) (fun _ _ _ h => h) (Or.inl ⟨by rfl, ?_⟩) hHeld ?_ ?_
         rotate_left
         ·intro w' s0
          go_simp
          with_reducible rfl
         rotate_left
         ·simp only [Act.put, List.setIfInBounds_toArray, List.set_cons_zero, List.set_cons_succ, i64_w, i32_w]
          rfl
         refine one_ (i := 6) (N := some 71) #[true, true, true, true, true, true, true, false, false, false, false] rfl rfl (one_of HT_.out (by kernel_rfl)) (by decide) (fun K hK => ?_)
         refine goes_ Tryd.func26 (by kernel_rfl) rfl #[.slice A0 l0.length c0] (by rfl) rfl rfl (by (try simp only [List.map_toArray, List.map_cons, List.map_nil]); first | done | rfl | (simp only [List.length_drop, List.length_take]; rfl)) ?_
         with_reducible refine (nat_Trim.calls _ _ l0 t738 _ ?side1 ?side2 A34.out).mono ?_
         (case side1 => exact Cu (Kd.C_below HR0.out HB.out))
         (case side2 => exact HC0.out)
         rintro e w39 ⟨v739, rfl, ho0, hb⟩
         refine ⟨_, rfl, ?_⟩
         have n0_ := Re HO_6 (Kd.R_base ho0) hb
         have n1_ := Re HO_8 (Kd.R_base ho0) hb
         have n2_ := Re HO737 (Kd.R_base ho0) hb
         have n3_ := Aside0.mk (Kd.R_lower (Kd.R_new' (Kd.R_new' (Kd.R_new' ho0 (Kd.R_lt (Ru HO_6))) (Kd.R_lt (Ru HO_8))) (Kd.R_lt (Ru HO737))) (Bz HB))
         have n4_ := Bs HB hb
         clear HO_6
         clear HO_8
         clear HO737
         clear HB
         have HO_6 := n0_
         have HO_8 := n1_
         have HO737 := n2_
         have HO740 := n3_
         have HB := n4_
         clear n0_ n1_ n2_ n3_ n4_
         (try clear hb)
         (try clear hb2)
         (try clear hk)
         (try clear hi)
         (try clear ho0)
         refine hK.out _ _ (own_string (P := Tryd.prog) Tryd.underlying22 Tryd.underlying5 Tryd.underlying9 (Kd.own_of_R HO737.out)) (fun hHeld => ?_)
         clear hK K
         refine norm_ (a' := ?_) ?_ ?_
         rotate_left
         ·show Act.put _ (some 71) _ = _
          simp only [Act.put, List.setIfInBounds_toArray, List.set_cons_zero, List.set_cons_succ, i64_w, i32_w]
          rfl
         refine one_ (i := 7) (N := some 72) #[true, true, true, true, true, true, true, true, false, false, false] rfl rfl (one_of HT_.out (by kernel_rfl)) (by decide) (fun K hK => ?_)
         have hcv40 := own_string (P := Tryd.prog) Tryd.underlying22 Tryd.underlying5 Tryd.underlying9 (Kd.own_of_R HO740.out)
         refine value_ (w1 := ?_) (v := ?_) (by rfl) rfl ?_ ?_
         rotate_left 2
         ·go_simp
          constructor
          ·rfl
          ·rfl
         clear hcv40
         refine hK.out _ _ (own_string (P := Tryd.prog) Tryd.underlying22 Tryd.underlying5 Tryd.underlying9 (Kd.own_of_R HO737.out)) (fun hHeld => ?_)
         clear hK K
         refine norm_ (a' := ?_) ?_ ?_
         rotate_left
         ·show Act.put _ (some 72) _ = _
          simp only [Act.put, List.setIfInBounds_toArray, List.set_cons_zero, List.set_cons_succ, i64_w, i32_w]
          rfl
         refine pure_ (i := 8) (N := some 73) (v := ?_) (a' := ?_) #[true, true, true, true, true, true, true, true, true, false, false] rfl rfl (any_of HT_.out (by kernel_rfl)) (fun _ _ _ h => h) (Or.inl ⟨by rfl, ?_⟩) ?_ ?_
         rotate_left
         ·intro w'
          go_simp
          with_reducible rfl
         rotate_left
         ·simp only [Act.put, List.setIfInBounds_toArray, List.set_cons_zero, List.set_cons_succ, i64_w, i32_w]
          rfl
         refine pure_ (i := 9) (N := some 74) (v := ?_) (a' := ?_) #[true, true, true, true, true, true, true, true, true, true, false] rfl rfl (any_of HT_.out (by kernel_rfl)) (fun _ _ _ h => h) (Or.inl ⟨by rfl, ?_⟩) ?_ ?_
         rotate_left
         ·intro w'
          go_simp
          with_reducible rfl
         rotate_left
         ·simp only [Act.put, List.setIfInBounds_toArray, List.set_cons_zero, List.set_cons_succ, i64_w, i32_w]
          rfl
         refine pure_ (i := 10) (N := some 4) (v := ?_) (a' := ?_) #[true, true, true, true, true, true, true, true, true, true, true] rfl rfl (any_of HT_.out (by kernel_rfl)) (fun _ _ _ h => h) (Or.inl ⟨by rfl, ?_⟩) ?_ ?_
         rotate_left
         ·intro w'
          go_simp
          with_reducible rfl
         rotate_left
         ·simp only [Act.put, List.setIfInBounds_toArray, List.set_cons_zero, List.set_cons_succ, i64_w, i32_w]
          rfl
         refine done_ (done_of HT_.out (by kernel_rfl)) ?_
         try go_wp2
         go_ret
         exact ⟨rfl_, Bu HB⟩
        ·rw [if_neg c33] at H
         have c33b0 : (t735 == 0) = false := beq_eq_false_iff_ne.mpr c33
         have c33b1 : (t735 != 0) = true := bne_iff_ne.mpr c33
         obtain rfl := Option.some.inj H
         obtain ⟨Ao42, co42, eo42⟩ := Kd.R_slice HO_8.out
         subst eo42
         obtain ⟨Ao43, co43, eo43⟩ := Kd.R_slice HO_6.out
         subst eo43
         try go_wp2_with (first | ((with_reducible refine gate_callee (f := 25) rfl ?_); refine goesA (some 62) Tryd.func25 #[.slice Ao42 t729.length co42, .slice Ao43 t725.length co43] rfl ?_; (with_reducible refine (nat_Add.calls kj19 _ _ t729 _ _ t725 t734 t735 _ ?side1 ?side2 ?side3 ?side4 A32.out).mono ?_); (case side1 => exact Cu (Kd.R_reads' HO_8.out).2.2); (case side2 => exact (Kd.R_reads' HO_8.out).2.1); (case side3 => exact Cu (Kd.R_reads' HO_6.out).2.2); (case side4 => exact (Kd.R_reads' HO_6.out).2.1); rintro e w44 ⟨v736, rfl, ho0, hb⟩; refine ⟨_, rfl, ?_⟩; have n0_ := Re HO_6 (Kd.R_base ho0) hb; have n1_ := Re HO_8 (Kd.R_base ho0) hb; have n2_ := Aside0.mk (Kd.R_lower (Kd.R_new' (Kd.R_new' ho0 (Kd.R_lt (Ru HO_6))) (Kd.R_lt (Ru HO_8))) (Bz HB)); have n3_ := Bs HB hb; clear HO_6 HO_8 HB; revert n0_ n1_ n2_ n3_; intro HO_6 HO_8 HO737 HB; (try clear hb); (try clear hb2); (try clear hk); (try clear hi); (try clear ho0)))
         have n0_ := Aside0.mk (Kd.R_drew HO_6.out)
         have n1_ := Aside0.mk (Kd.R_drew HO_8.out)
         have n2_ := Aside0.mk (Kd.R_drew HO737.out)
         have n3_ := Aside0.mk (below_drew1 HB.out)
         clear HO_6
         clear HO_8
         clear HO737
         clear HB
         have HO_6 := n0_
         have HO_8 := n1_
         have HO737 := n2_
         have HB := n3_
         clear n0_ n1_ n2_ n3_
         refine start_ (n := 11) (S := fun w' => True) (ds := []) #[false, false, false, false, false, false, false, false, false, false, false] (by kernel_rfl) rfl rfl trivial (fun hHeld => ?_); refine with_tabW lanyardlaw06_NatBack.tab10 lanyardlaw06_NatBack.bits10 (fun HT_ HW_ => ?_)
         generalize w44.drew = w45 at HO_6 HO_8 HO737 HB hHeld ⊢
         refine pure_ (i := 0) (N := some 65) (v := ?_) (a' := ?_) #[true, false, false, false, false, false, false, false, false, false, false] rfl rfl (any_of HT_.out (by kernel_rfl)) (fun _ _ _ h => h) (Or.inl ⟨by rfl, ?_⟩) ?_ ?_
         rotate_left
         ·intro w'
          go_simp
          with_reducible rfl
         rotate_left
         ·simp only [Act.put, List.setIfInBounds_toArray, List.set_cons_zero, List.set_cons_succ, i64_w, i32_w]
          rfl
         refine pure_ (i := 1) (N := some 66) (v := ?_) (a' := ?_) #[true, true, false, false, false, false, false, false, false, false, false] rfl rfl (any_of HT_.out (by kernel_rfl)) (fun _ _ _ h => h) (Or.inl ⟨by rfl, ?_⟩) ?_ ?_
         rotate_left
         ·intro w'
          go_simp
          with_reducible rfl
         rotate_left
         ·simp only [Act.put, List.setIfInBounds_toArray, List.set_cons_zero, List.set_cons_succ, i64_w, i32_w]
          rfl
         refine pure_ (i := 2) (N := some 67) (v := ?_) (a' := ?_) #[true, true, true, false, false, false, false, false, false, false, false] rfl rfl (any_of HT_.out (by kernel_rfl)) (fun _ _ _ h => h) (Or.inl ⟨by rfl, ?_⟩) ?_ ?_
         rotate_left
         ·intro w'
          go_simp
          with_reducible rfl
         rotate_left
         ·simp only [Act.put, List.setIfInBounds_toArray, List.set_cons_zero, List.set_cons_succ, i64_w, i32_w]
          rfl
         refine pure_ (i := 3) (N := some 68) (v := undef) (a' := ?_) #[true, true, true, true, false, false, false, false, false, false, false] rfl rfl (any_of HT_.out (by kernel_rfl)) (fun _ _ _ h => h) (Or.inr ⟨by rfl, rfl⟩) ?_ ?_
         rotate_left
         ·simp only [Act.put, List.setIfInBounds_toArray, List.set_cons_zero, List.set_cons_succ, i64_w, i32_w]
          rfl
         refine pure_ (i := 4) (N := some 69) (v := undef) (a' := ?_) #[true, true, true, true, true, false, false, false, false, false, false] rfl rfl (any_of HT_.out (by kernel_rfl)) (fun _ _ _ h => h) (Or.inr ⟨by rfl, rfl⟩) ?_ ?_
         rotate_left
         ·simp only [Act.put, List.setIfInBounds_toArray, List.set_cons_zero, List.set_cons_succ, i64_w, i32_w]
          rfl
         refine pure_ (i := 5) (N := some 70) (v := undef) (a' := ?_) #[true, true, true, true, true, true, false, false, false, false, false] rfl rfl (any_of HT_.out (by kernel_rfl)) (fun _ _ _ h => h) (Or.inr ⟨by rfl, rfl⟩) ?_ ?_
         rotate_left
         ·simp only [Act.put, List.setIfInBounds_toArray, List.set_cons_zero, List.set_cons_succ, i64_w, i32_w]
          rfl
         refine pure_ (i := 6) (N := some 71) (v := undef) (a' := ?_) #[true, true, true, true, true, true, true, false, false, false, false] rfl rfl (any_of HT_.out (by kernel_rfl)) (fun _ _ _ h => h) (Or.inr ⟨by rfl, rfl⟩) ?_ ?_
         rotate_left
         ·simp only [Act.put, List.setIfInBounds_toArray, List.set_cons_zero, List.set_cons_succ, i64_w, i32_w]
          rfl
         refine pure_ (i := 7) (N := some 72) (v := undef) (a' := ?_) #[true, true, true, true, true, true, true, true, false, false, false] rfl rfl (any_of HT_.out (by kernel_rfl)) (fun _ _ _ h => h) (Or.inr ⟨by rfl, rfl⟩) ?_ ?_
         rotate_left
         ·simp only [Act.put, List.setIfInBounds_toArray, List.set_cons_zero, List.set_cons_succ, i64_w, i32_w]
          rfl
         refine pure_ (i := 8) (N := some 73) (v := undef) (a' := ?_) #[true, true, true, true, true, true, true, true, true, false, false] rfl rfl (any_of HT_.out (by kernel_rfl)) (fun _ _ _ h => h) (Or.inr ⟨by rfl, rfl⟩) ?_ ?_
         rotate_left
         ·simp only [Act.put, List.setIfInBounds_toArray, List.set_cons_zero, List.set_cons_succ, i64_w, i32_w]
          rfl
         refine pure_ (i := 9) (N := some 74) (v := ?_) (a' := ?_) #[true, true, true, true, true, true, true, true, true, true, false] rfl rfl (any_of HT_.out (by kernel_rfl)) (fun _ _ _ h => h) (Or.inl ⟨by rfl, ?_⟩) ?_ ?_
         rotate_left
         ·intro w'
          go_simp
          with_reducible rfl
         rotate_left
         ·simp only [Act.put, List.setIfInBounds_toArray, List.set_cons_zero, List.set_cons_succ, i64_w, i32_w]
          rfl
         refine pure_ (i := 10) (N := some 4) (v := ?_) (a' := ?_) #[true, true, true, true, true, true, true, true, true, true, true] rfl rfl (any_of HT_.out (by kernel_rfl)) (fun _ _ _ h => h) (Or.inl ⟨by rfl, ?_⟩) ?_ ?_
         rotate_left
         ·intro w'
          go_simp
          with_reducible rfl
         rotate_left
         ·simp only [Act.put, List.setIfInBounds_toArray, List.set_cons_zero, List.set_cons_succ, i64_w, i32_w]
          rfl
         refine done_ (done_of HT_.out (by kernel_rfl)) ?_
         try go_wp2
         go_ret
         exact ⟨rfl_, Bu HB⟩

      case a38_ | b38_ =>
       go_wp2
       go_ret
       exact ⟨rfl_, Bu HB⟩
/-- THE ONE PURE STATEMENT of lanyardlaw06_NatBack: yours. -/
def lanyardlaw06_NatBack.Pure : Prop := ∀ (l0 : List Int) (l1 : List Int), l0.length ≤ maxLen → l0.length * 1 ≤ 140737488351232 → (∀ x ∈ l0, (Lit.int .u8 x).wf = true) → l1.length ≤ maxLen → l1.length * 1 ≤ 140737488351232 → (∀ x ∈ l1, (Lit.int .u8 x).wf = true) → ∃ k, lanyardlaw06_NatBack.f k l0 l1 = some true
theorem lanyardlaw06_NatBack.walk (P : lanyardlaw06_NatBack.Pure) (a0 : Option Addr) (len0 cap0 : Nat) (z0 : List Int) (a1 : Option Addr) (len1 cap1 : Nat) (z1 : List Int) (w : World) (w0 : (a0 = none ∧ len0 = 0 ∧ cap0 = 0 ∧ z0 = []) ∨ ∃ x, a0 = some x ∧ len0 ≤ cap0 ∧ cap0 ≤ maxLen ∧ z0.length = cap0 ∧ (∀ i, i < z0.length → w.cell? (x.add i) = some (.int .u8 (z0.getD i 0))) ∧ ∀ n ∈ z0, (Lit.int .u8 n).wf = true) (y0 : len0 * 1 ≤ 140737488351232) (w1 : (a1 = none ∧ len1 = 0 ∧ cap1 = 0 ∧ z1 = []) ∨ ∃ x, a1 = some x ∧ len1 ≤ cap1 ∧ cap1 ≤ maxLen ∧ z1.length = cap1 ∧ (∀ i, i < z1.length → w.cell? (x.add i) = some (.int .u8 (z1.getD i 0))) ∧ ∀ n ∈ z1, (Lit.int .u8 n).wf = true) (y1 : len1 * 1 ≤ 140737488351232) :
  Calls Tryd.prog 6 #[.slice a0 len0 cap0, .slice a1 len1 cap1] w fun e w' => e = .returned (.bool true) ∧ Below w.heap.size w w' := by
 obtain ⟨l0, rfl, hr0, hm0, hw0, hc0⟩ := ReadsInt.ofRowC w0
 obtain ⟨l1, rfl, hr1, hm1, hw1, hc1⟩ := ReadsInt.ofRowC w1
 obtain ⟨k, h⟩ := P l0 l1 hm0 y0 hw0 hm1 y1 hw1
 refine (lanyardlaw06_NatBack.calls k _ _ l0 _ _ l1 true w (Kd.C_of_reads (d := (0 : Int)) (h1 := fun _ => rfl) hr0) hc0 (Kd.C_of_reads (d := (0 : Int)) (h1 := fun _ => rfl) hr1) hc1 h).mono ?_
 rintro e w' ⟨rfl, hd⟩
 exact ⟨rfl, hd⟩

/-! ### nat_Sub: function 27 -/
def nat_Sub.f (k : Nat) (l0 : List Int) (l1 : List Int) : Option (List Int × Int) := (nat_long.f (([l0, l1] : List (List Int)))).bind fun t744 => (if t744 = true then (some (([] : List Int), 12)) else ((nat_Cmp.f k l0 l1).bind fun t745 => (if t745 < 0 then (some (([] : List Int), 2)) else ((nat_of.f k l0).bind fun t746 => ((nat_of.f k l1).bind fun t749 => ((nat_sub.f k t746 t749).bind fun t752 => ((nat_num_bytes.f k t752).bind fun t755 => (some (t755, 0)))))))))
theorem nat_Sub.mono : ∀ a0 a1 k, LeO (nat_Sub.f k a0 a1) (nat_Sub.f (k + 1) a0 a1) := by
 intro a0 a1 k
 unfold nat_Sub.f
 repeat' first
   | (with_reducible exact nat_Cmp.mono _ _ _)
   | (with_reducible exact nat_num_bytes.mono _ _)
   | (with_reducible exact nat_of.mono _ _)
   | (with_reducible exact nat_sub.mono _ _ _)
   | (with_reducible exact LeO.refl _)
   | (with_reducible exact LeO.none _)
   | (with_reducible refine LeO.ite ?_ ?_)
   | (with_reducible refine LeO.bind ?_ (fun _ => ?_))
   | exact nat_Cmp.mono _ _ _
   | exact nat_num_bytes.mono _ _
   | exact nat_of.mono _ _
   | exact nat_sub.mono _ _ _
   | exact LeO.none _
   | refine LeO.ite ?_ ?_
   | refine LeO.bind ?_ (fun _ => ?_)
set_option maxHeartbeats 8000000 in
set_option maxRecDepth 100000 in
theorem nat_Sub.callsV (k : Nat) (P0_ : Nat → Prop) (A0 : Option Addr) (c0 : Nat) (l0 : List Int) (P1_ : Nat → Prop) (A1 : Option Addr) (c1 : Nat) (l1 : List Int) (r1 : List Int) (r2 : Int) (w : World) (hs0 : Kd.V (Kd.int .u8) 5 w w.heap.size (fun k_ => P0_ k_) (.slice A0 l0.length c0) l0) (hs1 : Kd.V (Kd.int .u8) 5 w w.heap.size (fun k_ => P1_ k_) (.slice A1 l1.length c1) l1) (h : nat_Sub.f k l0 l1 = some (r1, r2)) :
  Calls Tryd.prog 27 #[.slice A0 l0.length c0, .slice A1 l1.length c1] w fun e w' => ∃ v0_ : Value, e = .returned (.tuple #[v0_, .int .i64 r2]) ∧ Kd.R (Kd.int .u8) 5 w' w.heap.size (fun k_ => (w.heap.size ≤ k_)) v0_ r1 ∧ Below w.heap.size w w' := by
 have HO0 := Aside0.mk (show Kd.V (Kd.int .u8) 5 w w.heap.size (fun k_ => ((P0_ k_ ∨ P1_ k_) ∨ w.heap.size ≤ k_)) (.slice A0 l0.length c0) l0 from Kd.V_mono hs0 (fun k_ hk => .inl (.inl hk)))
 have HO1 := Aside0.mk (show Kd.V (Kd.int .u8) 5 w w.heap.size (fun k_ => ((P0_ k_ ∨ P1_ k_) ∨ w.heap.size ≤ k_)) (.slice A1 l1.length c1) l1 from Kd.V_mono hs1 (fun k_ hk => .inl (.inr hk)))
 have HB := Aside0.mk (Below.refl w.heap.size w)
 have H : ((nat_long.f (([l0, l1] : List (List Int)))).bind fun t744 => (if t744 = true then (some (([] : List Int), 12)) else ((nat_Cmp.f k l0 l1).bind fun t745 => (if t745 < 0 then (some (([] : List Int), 2)) else ((nat_of.f k l0).bind fun t746 => ((nat_of.f k l1).bind fun t749 => ((nat_sub.f k t746 t749).bind fun t752 => ((nat_num_bytes.f k t752).bind fun t755 => (some (t755, 0)))))))))) = some (r1, r2) := h
 clear h
 obtain ⟨y741, hy741⟩ : ∃ y_ : List (List Int), y_ = (([l0, l1] : List (List Int))) := ⟨_, rfl⟩
 replace H : ((nat_long.f y741).bind fun t744 => (if t744 = true then (some (([] : List Int), 12)) else ((nat_Cmp.f k l0 l1).bind fun t745 => (if t745 < 0 then (some (([] : List Int), 2)) else ((nat_of.f k l0).bind fun t746 => ((nat_of.f k l1).bind fun t749 => ((nat_sub.f k t746 t749).bind fun t752 => ((nat_num_bytes.f k t752).bind fun t755 => (some (t755, 0)))))))))) = some (r1, r2) := by first | (rw [hy741]; with_reducible exact H) | (have H2_ := (Option.bind_some _ _).symm.trans H; rw [hy741]; with_reducible exact H2_) | (have H2_ := (Option.bind_some _ _).symm.trans H; with_reducible exact H2_) | with_reducible exact H | (rw [hy741]; exact H) | exact H
 have Ny741 := Aside0.mk hy741
 clear hy741
 replace H := Option.bind_eq_some_iff.mp H
 obtain ⟨t744, A30, H⟩ := H
 replace H : (if t744 = true then (some (([] : List Int), 12)) else ((nat_Cmp.f k l0 l1).bind fun t745 => (if t745 < 0 then (some (([] : List Int), 2)) else ((nat_of.f k l0).bind fun t746 => ((nat_of.f k l1).bind fun t749 => ((nat_sub.f k t746 t749).bind fun t752 => ((nat_num_bytes.f k t752).bind fun t755 => (some (t755, 0))))))))) = some (r1, r2) := H
 have A3 := Aside0.mk A30
 clear A30
 by_cases c4 : t744 = true
 ·subst c4
  have H1 : (some (([] : List Int), 12)) = some (r1, r2) := by rw [if_pos rfl] at H; exact H
  clear H
  have H := H1
  clear H1
  simp only [Option.some.injEq, Prod.mk.injEq] at H
  obtain ⟨rfl, rfl⟩ := H
  go_enter Tryd.func27, Tryd.ntmps27
  go_wp2_with (first | ((with_reducible refine gate_dst (N := 9) rfl ?_); refine Kd.N_lit (Kd.slice 5 (Kd.int .u8)) _ 22 ?hg (N' := 9) ?hd (xs := ([l0, l1] : List (List Int))) (inner := [.slice A0 l0.length c0, .slice A1 l1.length c1]) (ok := (fun k_ => ((P0_ k_ ∨ P1_ k_) ∨ w.heap.size ≤ k_))) (okp := (fun k_ => ((P0_ k_ ∨ P1_ k_) ∨ w.heap.size ≤ k_))) ?hr ?hp (fun _ hk => hk) ((show ∀ k_, w.heap.size ≤ k_ → (fun k_ => ((P0_ k_ ∨ P1_ k_) ∨ w.heap.size ≤ k_)) k_ from fun k_ hk => (.inr (Nat.le_trans (Bz HB) hk))) _ (Nat.le_refl _)) (Below.refl _ _) (Nat.le_refl _) (by simp) ?_; (case hd => rfl); (case hg => rfl); (case hr => first | (go_simp; done) | (go_simp; rfl)); (case hp => exact (Reps.one (show Kd.FK (Kd.slice 5 (Kd.int .u8)) _ _ l0 [.slice A0 l0.length c0] from (Kd.FK_slice_mk (Kd.V_reads' (Kd.V_mono (ok' := (fun k_ => ((P0_ k_ ∨ P1_ k_) ∨ w.heap.size ≤ k_))) (HO0.out) (fun k_ hk => hk))).2.1 (Kd.V_F (Kd.V_mono (ok' := (fun k_ => ((P0_ k_ ∨ P1_ k_) ∨ w.heap.size ≤ k_))) (HO0.out) (fun k_ hk => hk))))) (Reps.one (show Kd.FK (Kd.slice 5 (Kd.int .u8)) _ _ l1 [.slice A1 l1.length c1] from (Kd.FK_slice_mk (Kd.V_reads' (Kd.V_mono (ok' := (fun k_ => ((P0_ k_ ∨ P1_ k_) ∨ w.heap.size ≤ k_))) (HO1.out) (fun k_ hk => hk))).2.1 (Kd.V_F (Kd.V_mono (ok' := (fun k_ => ((P0_ k_ ∨ P1_ k_) ∨ w.heap.size ≤ k_))) (HO1.out) (fun k_ hk => hk))))) (Reps.none _ _)))); intro v742 w5 ho6 hb hg_ hnew_; clear hg_ hnew_; (first | rw [← Ny741.out] at ho6 | (simp only [Int.reduceToNat] at ho6; rw [← Ny741.out] at ho6)); have n0_ := Aside0.mk (Kd.V_elder' (Vu HO0) (Kd.N_base (by first | exact ho6 | exact Kd.S_N ho6)) hb); have n1_ := Aside0.mk (Kd.V_elder' (Vu HO1) (Kd.N_base (by first | exact ho6 | exact Kd.S_N ho6)) hb); have n2_ := Aside0.mk (Kd.N_lower ho6 (Bz HB)); have n3_ := Bs HB hb; clear HO0 HO1 HB; revert n0_ n1_ n2_ n3_; intro HO0 HO1 HO743 HB; clear hb ho6; obtain ⟨Ao7, co7, eo7⟩ := Kd.N_slice HO743.out; subst eo7) | ((with_reducible refine gate_callee (f := 32) rfl ?_); refine goesA (some 10) Tryd.func32 #[.slice Ao7 y741.length co7] rfl ?_; (with_reducible refine (nat_long.calls _ _ y741 true _ ?side1 ?side2 A3.out).mono ?_); (case side1 => exact Cu (Kd.N_reads' HO743.out).2.2); (case side2 => exact (Kd.N_reads' HO743.out).2.1); rintro e w' ⟨rfl, ⟨nd, rfl⟩⟩; refine ⟨_, rfl, ?_⟩))
  go_ret2
  exact ⟨_, rfl_, by first | exact Kd.R_nil _ _ _ _ _ | exact Kd.N_nil _ _ _ _ _ | exact Kd.V_nil _ _ _ _ _ | exact Kd.Q_nil _ _ _ _ _ | exact Kd.S_nil _ _ _ _ _, Bu HB⟩
 ·replace c4 := Bool.eq_false_iff.mpr c4
  subst c4
  have H1 : ((nat_Cmp.f k l0 l1).bind fun t745 => (if t745 < 0 then (some (([] : List Int), 2)) else ((nat_of.f k l0).bind fun t746 => ((nat_of.f k l1).bind fun t749 => ((nat_sub.f k t746 t749).bind fun t752 => ((nat_num_bytes.f k t752).bind fun t755 => (some (t755, 0)))))))) = some (r1, r2) := by rw [if_neg (show ¬ (false = true) by decide)] at H; exact H
  clear H
  have H := H1
  clear H1
  replace H := Option.bind_eq_some_iff.mp H
  obtain ⟨t745, A80, H⟩ := H
  replace H : (if t745 < 0 then (some (([] : List Int), 2)) else ((nat_of.f k l0).bind fun t746 => ((nat_of.f k l1).bind fun t749 => ((nat_sub.f k t746 t749).bind fun t752 => ((nat_num_bytes.f k t752).bind fun t755 => (some (t755, 0))))))) = some (r1, r2) := H
  have A8 := Aside0.mk A80
  clear A80
  by_cases c9 : t745 < 0
  ·rw [if_pos c9] at H
   have c9b0 : decide (t745 < 0) = true := decide_eq_true c9
   clear c9
   simp only [Option.some.injEq, Prod.mk.injEq] at H
   obtain ⟨rfl, rfl⟩ := H
   go_enter Tryd.func27, Tryd.ntmps27
   go_wp2_with (first | ((with_reducible refine gate_dst (N := 9) rfl ?_); refine Kd.N_lit (Kd.slice 5 (Kd.int .u8)) _ 22 ?hg (N' := 9) ?hd (xs := ([l0, l1] : List (List Int))) (inner := [.slice A0 l0.length c0, .slice A1 l1.length c1]) (ok := (fun k_ => ((P0_ k_ ∨ P1_ k_) ∨ w.heap.size ≤ k_))) (okp := (fun k_ => ((P0_ k_ ∨ P1_ k_) ∨ w.heap.size ≤ k_))) ?hr ?hp (fun _ hk => hk) ((show ∀ k_, w.heap.size ≤ k_ → (fun k_ => ((P0_ k_ ∨ P1_ k_) ∨ w.heap.size ≤ k_)) k_ from fun k_ hk => (.inr (Nat.le_trans (Bz HB) hk))) _ (Nat.le_refl _)) (Below.refl _ _) (Nat.le_refl _) (by simp) ?_; (case hd => rfl); (case hg => rfl); (case hr => first | (go_simp; done) | (go_simp; rfl)); (case hp => exact (Reps.one (show Kd.FK (Kd.slice 5 (Kd.int .u8)) _ _ l0 [.slice A0 l0.length c0] from (Kd.FK_slice_mk (Kd.V_reads' (Kd.V_mono (ok' := (fun k_ => ((P0_ k_ ∨ P1_ k_) ∨ w.heap.size ≤ k_))) (HO0.out) (fun k_ hk => hk))).2.1 (Kd.V_F (Kd.V_mono (ok' := (fun k_ => ((P0_ k_ ∨ P1_ k_) ∨ w.heap.size ≤ k_))) (HO0.out) (fun k_ hk => hk))))) (Reps.one (show Kd.FK (Kd.slice 5 (Kd.int .u8)) _ _ l1 [.slice A1 l1.length c1] from (Kd.FK_slice_mk (Kd.V_reads' (Kd.V_mono (ok' := (fun k_ => ((P0_ k_ ∨ P1_ k_) ∨ w.heap.size ≤ k_))) (HO1.out) (fun k_ hk => hk))).2.1 (Kd.V_F (Kd.V_mono (ok' := (fun k_ => ((P0_ k_ ∨ P1_ k_) ∨ w.heap.size ≤ k_))) (HO1.out) (fun k_ hk => hk))))) (Reps.none _ _)))); intro v742 w10 ho11 hb hg_ hnew_; clear hg_ hnew_; (first | rw [← Ny741.out] at ho11 | (simp only [Int.reduceToNat] at ho11; rw [← Ny741.out] at ho11)); have n0_ := Aside0.mk (Kd.V_elder' (Vu HO0) (Kd.N_base (by first | exact ho11 | exact Kd.S_N ho11)) hb); have n1_ := Aside0.mk (Kd.V_elder' (Vu HO1) (Kd.N_base (by first | exact ho11 | exact Kd.S_N ho11)) hb); have n2_ := Aside0.mk (Kd.N_lower ho11 (Bz HB)); have n3_ := Bs HB hb; clear HO0 HO1 HB; revert n0_ n1_ n2_ n3_; intro HO0 HO1 HO743 HB; clear hb ho11; obtain ⟨Ao12, co12, eo12⟩ := Kd.N_slice HO743.out; subst eo12) | ((with_reducible refine gate_callee (f := 32) rfl ?_); refine goesA (some 10) Tryd.func32 #[.slice Ao12 y741.length co12] rfl ?_; (with_reducible refine (nat_long.calls _ _ y741 false _ ?side1 ?side2 A3.out).mono ?_); (case side1 => exact Cu (Kd.N_reads' HO743.out).2.2); (case side2 => exact (Kd.N_reads' HO743.out).2.1); rintro e w' ⟨rfl, ⟨nd, rfl⟩⟩; refine ⟨_, rfl, ?_⟩) | ((with_reducible refine gate_callee (f := 24) rfl ?_); refine goesA (some 14) Tryd.func24 #[.slice A0 l0.length c0, .slice A1 l1.length c1] rfl ?_; (with_reducible refine (nat_Cmp.calls k _ _ l0 _ _ l1 t745 _ ?side1 ?side2 ?side3 ?side4 A8.out).mono ?_); (case side1 => exact Cu (Kd.V_reads' HO0.out).2.2); (case side2 => exact (Kd.V_reads' HO0.out).2.1); (case side3 => exact Cu (Kd.V_reads' HO1.out).2.2); (case side4 => exact (Kd.V_reads' HO1.out).2.1); rintro e w13 ⟨rfl, hb⟩; refine ⟨_, rfl, ?_⟩; have n0_ := Vb HO0 hb; have n1_ := Vb HO1 hb; have n2_ := Nb HO743 hb; have n3_ := Bs HB hb; clear HO0 HO1 HO743 HB; revert n0_ n1_ n2_ n3_; intro HO0 HO1 HO743 HB; (try clear hb); (try clear hb2); (try clear hk); (try clear hi)))
   go_ret2
   exact ⟨_, rfl_, by first | exact Kd.R_nil _ _ _ _ _ | exact Kd.N_nil _ _ _ _ _ | exact Kd.V_nil _ _ _ _ _ | exact Kd.Q_nil _ _ _ _ _ | exact Kd.S_nil _ _ _ _ _, Bu HB⟩
  ·rw [if_neg c9] at H
   have c9b0 : decide (t745 < 0) = false := decide_eq_false c9
   clear c9
   replace H := Option.bind_eq_some_iff.mp H
   obtain ⟨t746, A140, H⟩ := H
   replace H : ((nat_of.f k l1).bind fun t749 => ((nat_sub.f k t746 t749).bind fun t752 => ((nat_num_bytes.f k t752).bind fun t755 => (some (t755, 0))))) = some (r1, r2) := H
   have A14 := Aside0.mk A140
   clear A140
   replace H := Option.bind_eq_some_iff.mp H
   obtain ⟨t749, A150, H⟩ := H
   replace H : ((nat_sub.f k t746 t749).bind fun t752 => ((nat_num_bytes.f k t752).bind fun t755 => (some (t755, 0)))) = some (r1, r2) := H
   have A15 := Aside0.mk A150
   clear A150
   replace H := Option.bind_eq_some_iff.mp H
   obtain ⟨t752, A160, H⟩ := H
   replace H : ((nat_num_bytes.f k t752).bind fun t755 => (some (t755, 0))) = some (r1, r2) := H
   have A16 := Aside0.mk A160
   clear A160
   replace H := Option.bind_eq_some_iff.mp H
   obtain ⟨t755, A170, H⟩ := H
   replace H : (some (t755, 0)) = some (r1, r2) := H
   have A17 := Aside0.mk A170
   clear A170
   simp only [Option.some.injEq, Prod.mk.injEq] at H
   obtain ⟨rfl, rfl⟩ := H
   go_enter Tryd.func27, Tryd.ntmps27
   go_wp2_with (first | ((with_reducible refine gate_dst (N := 9) rfl ?_); refine Kd.N_lit (Kd.slice 5 (Kd.int .u8)) _ 22 ?hg (N' := 9) ?hd (xs := ([l0, l1] : List (List Int))) (inner := [.slice A0 l0.length c0, .slice A1 l1.length c1]) (ok := (fun k_ => ((P0_ k_ ∨ P1_ k_) ∨ w.heap.size ≤ k_))) (okp := (fun k_ => ((P0_ k_ ∨ P1_ k_) ∨ w.heap.size ≤ k_))) ?hr ?hp (fun _ hk => hk) ((show ∀ k_, w.heap.size ≤ k_ → (fun k_ => ((P0_ k_ ∨ P1_ k_) ∨ w.heap.size ≤ k_)) k_ from fun k_ hk => (.inr (Nat.le_trans (Bz HB) hk))) _ (Nat.le_refl _)) (Below.refl _ _) (Nat.le_refl _) (by simp) ?_; (case hd => rfl); (case hg => rfl); (case hr => first | (go_simp; done) | (go_simp; rfl)); (case hp => exact (Reps.one (show Kd.FK (Kd.slice 5 (Kd.int .u8)) _ _ l0 [.slice A0 l0.length c0] from (Kd.FK_slice_mk (Kd.V_reads' (Kd.V_mono (ok' := (fun k_ => ((P0_ k_ ∨ P1_ k_) ∨ w.heap.size ≤ k_))) (HO0.out) (fun k_ hk => hk))).2.1 (Kd.V_F (Kd.V_mono (ok' := (fun k_ => ((P0_ k_ ∨ P1_ k_) ∨ w.heap.size ≤ k_))) (HO0.out) (fun k_ hk => hk))))) (Reps.one (show Kd.FK (Kd.slice 5 (Kd.int .u8)) _ _ l1 [.slice A1 l1.length c1] from (Kd.FK_slice_mk (Kd.V_reads' (Kd.V_mono (ok' := (fun k_ => ((P0_ k_ ∨ P1_ k_) ∨ w.heap.size ≤ k_))) (HO1.out) (fun k_ hk => hk))).2.1 (Kd.V_F (Kd.V_mono (ok' := (fun k_ => ((P0_ k_ ∨ P1_ k_) ∨ w.heap.size ≤ k_))) (HO1.out) (fun k_ hk => hk))))) (Reps.none _ _)))); intro v742 w18 ho19 hb hg_ hnew_; clear hg_ hnew_; (first | rw [← Ny741.out] at ho19 | (simp only [Int.reduceToNat] at ho19; rw [← Ny741.out] at ho19)); have n0_ := Aside0.mk (Kd.V_elder' (Vu HO0) (Kd.N_base (by first | exact ho19 | exact Kd.S_N ho19)) hb); have n1_ := Aside0.mk (Kd.V_elder' (Vu HO1) (Kd.N_base (by first | exact ho19 | exact Kd.S_N ho19)) hb); have n2_ := Aside0.mk (Kd.N_lower ho19 (Bz HB)); have n3_ := Bs HB hb; clear HO0 HO1 HB; revert n0_ n1_ n2_ n3_; intro HO0 HO1 HO743 HB; clear hb ho19; obtain ⟨Ao20, co20, eo20⟩ := Kd.N_slice HO743.out; subst eo20) | ((with_reducible refine gate_callee (f := 32) rfl ?_); refine goesA (some 10) Tryd.func32 #[.slice Ao20 y741.length co20] rfl ?_; (with_reducible refine (nat_long.calls _ _ y741 false _ ?side1 ?side2 A3.out).mono ?_); (case side1 => exact Cu (Kd.N_reads' HO743.out).2.2); (case side2 => exact (Kd.N_reads' HO743.out).2.1); rintro e w' ⟨rfl, ⟨nd, rfl⟩⟩; refine ⟨_, rfl, ?_⟩) | ((with_reducible refine gate_callee (f := 24) rfl ?_); refine goesA (some 14) Tryd.func24 #[.slice A0 l0.length c0, .slice A1 l1.length c1] rfl ?_; (with_reducible refine (nat_Cmp.calls k _ _ l0 _ _ l1 t745 _ ?side1 ?side2 ?side3 ?side4 A8.out).mono ?_); (case side1 => exact Cu (Kd.V_reads' HO0.out).2.2); (case side2 => exact (Kd.V_reads' HO0.out).2.1); (case side3 => exact Cu (Kd.V_reads' HO1.out).2.2); (case side4 => exact (Kd.V_reads' HO1.out).2.1); rintro e w21 ⟨rfl, hb⟩; refine ⟨_, rfl, ?_⟩; have n0_ := Vb HO0 hb; have n1_ := Vb HO1 hb; have n2_ := Nb HO743 hb; have n3_ := Bs HB hb; clear HO0 HO1 HO743 HB; revert n0_ n1_ n2_ n3_; intro HO0 HO1 HO743 HB; (try clear hb); (try clear hb2); (try clear hk); (try clear hi)) | ((with_reducible refine gate_callee (f := 31) rfl ?_); refine goesA (some 17) Tryd.func31 #[.slice A0 l0.length c0] rfl ?_; (with_reducible refine (nat_of.calls k _ _ l0 t746 _ ?side1 ?side2 A14.out).mono ?_); (case side1 => exact Cu (Kd.V_reads' HO0.out).2.2); (case side2 => exact (Kd.V_reads' HO0.out).2.1); rintro e w22 ⟨v747, rfl, ho0, hb⟩; refine ⟨_, rfl, ?_⟩; have n0_ := Vb HO0 hb; have n1_ := Vb HO1 hb; have n2_ := Nb HO743 hb; have n3_ := Aside0.mk (Kd.V_lower (Kd.V_mono (ok' := fun k_ => ((P0_ k_ ∨ P1_ k_) ∨ w.heap.size ≤ k_) ∧ some k_ ≠ (.slice Ao20 y741.length co20 : Value).ownBlock) ho0 (fun k_ hk_ => ⟨(.inr (Nat.le_trans (Bz HB) hk_)), (Kd.fresh' (Kd.N_lt (Nu HO743)) k_ hk_)⟩)) (Bz HB)); have n4_ := Bs HB hb; clear HO0 HO1 HO743 HB; revert n0_ n1_ n2_ n3_ n4_; intro HO0 HO1 HO743 HO748 HB; (try clear hb); (try clear hb2); (try clear hk); (try clear hi); (try clear ho0)) | ((with_reducible refine gate_callee (f := 31) rfl ?_); refine goesA (some 19) Tryd.func31 #[.slice A1 l1.length c1] rfl ?_; (with_reducible refine (nat_of.calls k _ _ l1 t749 _ ?side1 ?side2 A15.out).mono ?_); (case side1 => exact Cu (Kd.V_reads' HO1.out).2.2); (case side2 => exact (Kd.V_reads' HO1.out).2.1); rintro e w23 ⟨v750, rfl, ho0, hb⟩; refine ⟨_, rfl, ?_⟩; have n0_ := Vb HO0 hb; have n1_ := Vb HO1 hb; have n2_ := Nb HO743 hb; have n3_ := Vb HO748 hb; have n4_ := Aside0.mk (Kd.V_lower (Kd.V_mono (ok' := fun k_ => ((P0_ k_ ∨ P1_ k_) ∨ w.heap.size ≤ k_) ∧ some k_ ≠ (.slice Ao20 y741.length co20 : Value).ownBlock) ho0 (fun k_ hk_ => ⟨(.inr (Nat.le_trans (Bz HB) hk_)), (Kd.fresh' (Kd.N_lt (Nu HO743)) k_ hk_)⟩)) (Bz HB)); have n5_ := Bs HB hb; clear HO0 HO1 HO743 HO748 HB; revert n0_ n1_ n2_ n3_ n4_ n5_; intro HO0 HO1 HO743 HO748 HO751 HB; (try clear hb); (try clear hb2); (try clear hk); (try clear hi); (try clear ho0); obtain ⟨Ao24, co24, eo24⟩ := Kd.V_slice HO748.out; subst eo24; obtain ⟨Ao25, co25, eo25⟩ := Kd.V_slice HO751.out; subst eo25) | ((with_reducible refine gate_callee (f := 40) rfl ?_); refine goesA (some 20) Tryd.func40 #[.slice Ao24 t746.length co24, .slice Ao25 t749.length co25] rfl ?_; (with_reducible refine (nat_sub.calls k _ _ t746 _ _ t749 t752 _ ?side1 ?side2 ?side3 ?side4 A16.out).mono ?_); (case side1 => exact Cu (Kd.V_reads' HO748.out).2.2); (case side2 => exact (Kd.V_reads' HO748.out).2.1); (case side3 => exact Cu (Kd.V_reads' HO751.out).2.2); (case side4 => exact (Kd.V_reads' HO751.out).2.1); rintro e w26 ⟨v753, rfl, ho0, hb⟩; refine ⟨_, rfl, ?_⟩; have n0_ := Vb HO0 hb; have n1_ := Vb HO1 hb; have n2_ := Nb HO743 hb; have n3_ := Vb HO748 hb; have n4_ := Vb HO751 hb; have n5_ := Aside0.mk (Kd.V_lower (Kd.V_mono (ok' := fun k_ => ((P0_ k_ ∨ P1_ k_) ∨ w.heap.size ≤ k_) ∧ some k_ ≠ (.slice Ao20 y741.length co20 : Value).ownBlock) ho0 (fun k_ hk_ => ⟨(.inr (Nat.le_trans (Bz HB) hk_)), (Kd.fresh' (Kd.N_lt (Nu HO743)) k_ hk_)⟩)) (Bz HB)); have n6_ := Bs HB hb; clear HO0 HO1 HO743 HO748 HO751 HB; revert n0_ n1_ n2_ n3_ n4_ n5_ n6_; intro HO0 HO1 HO743 HO748 HO751 HO754 HB; (try clear hb); (try clear hb2); (try clear hk); (try clear hi); (try clear ho0); obtain ⟨Ao27, co27, eo27⟩ := Kd.V_slice HO754.out; subst eo27) | ((with_reducible refine gate_callee (f := 34) rfl ?_); refine goesA (some 21) Tryd.func34 #[.slice Ao27 t752.length co27] rfl ?_; (with_reducible refine (nat_num_bytes.calls k _ _ t752 t755 _ ?side1 ?side2 A17.out).mono ?_); (case side1 => exact Cu (Kd.V_reads' HO754.out).2.2); (case side2 => exact (Kd.V_reads' HO754.out).2.1); rintro e w28 ⟨v756, rfl, ho0, hb⟩; refine ⟨_, rfl, ?_⟩; have n0_ := Ve HO0 (Kd.R_base ho0) hb; have n1_ := Ve HO1 (Kd.R_base ho0) hb; have n2_ := Ne HO743 (Kd.R_base ho0) hb; have n3_ := Ve HO748 (Kd.R_base ho0) hb; have n4_ := Ve HO751 (Kd.R_base ho0) hb; have n5_ := Ve HO754 (Kd.R_base ho0) hb; have n6_ := Aside0.mk (Kd.R_lower (Kd.R_newM (M := fun k_ => (w.heap.size ≤ k_)) ho0 (Bz HB) (fun k_ h_ => h_)) (Bz HB)); have n7_ := Bs HB hb; clear HO0 HO1 HO743 HO748 HO751 HO754 HB; revert n0_ n1_ n2_ n3_ n4_ n5_ n6_ n7_; intro HO0 HO1 HO743 HO748 HO751 HO754 HO757 HB; (try clear hb); (try clear hb2); (try clear hk); (try clear hi); (try clear ho0)))
   go_ret2
   exact ⟨_, rfl_, by (with_reducible repeat (first | apply Kd.R_alloc | apply Kd.R_drewN | apply Kd.R_drew)); exact Kd.R_mono HO757.out (fun _ hk => hk.1), Bu HB⟩
theorem nat_Sub.calls (k : Nat) (A0 : Option Addr) (c0 : Nat) (l0 : List Int) (A1 : Option Addr) (c1 : Nat) (l1 : List Int) (r1 : List Int) (r2 : Int) (w : World) (hr0 : Kd.C (Kd.int .u8) w A0 l0.length l0) (hc0 : l0.length ≤ c0) (hr1 : Kd.C (Kd.int .u8) w A1 l1.length l1) (hc1 : l1.length ≤ c1) (h : nat_Sub.f k l0 l1 = some (r1, r2)) :
  Calls Tryd.prog 27 #[.slice A0 l0.length c0, .slice A1 l1.length c1] w fun e w' => ∃ v0_ : Value, e = .returned (.tuple #[v0_, .int .i64 r2]) ∧ Kd.R (Kd.int .u8) 5 w' w.heap.size (fun _ => True) v0_ r1 ∧ Below w.heap.size w w' := by
 refine (nat_Sub.callsV k (fun k_ => k_ < w.heap.size) A0 c0 l0 (fun k_ => k_ < w.heap.size) A1 c1 l1 r1 r2 w (Kd.V_mk hc0 (Kd.C_F (Kd.heap_int .u8) hr0)) (Kd.V_mk hc1 (Kd.C_F (Kd.heap_int .u8) hr1)) h).mono ?_
 rintro e w' ⟨v0_, he, h0_, hb⟩
 exact ⟨v0_, he, Kd.R_mono h0_ (fun _ _ => trivial), hb⟩

end Go.Proofs.YtcofpbndaljppaaDoor.Hp
