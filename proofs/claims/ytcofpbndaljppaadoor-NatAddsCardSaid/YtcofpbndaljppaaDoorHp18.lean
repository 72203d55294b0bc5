/- Go functions of this seat as Lean functions, and their contracts: what the Go code computes, for every input. (By hp.py, a program of this repo, over the kit's print.py.) -/
import Derived.Test.YtcofpbndaljppaaDoorHp0
import Derived.Test.YtcofpbndaljppaaDoorHp4
import Derived.Test.YtcofpbndaljppaaDoorHp5
import Derived.Test.YtcofpbndaljppaaDoorHp7
import Derived.Test.YtcofpbndaljppaaDoorHp10
namespace Go.Proofs.YtcofpbndaljppaaDoor.Hp
open Go.RowKit Go.Proofs.YtcofpbndaljppaaDoorW.PrintWords Go.Proofs.YtcofpbndaljppaaDoorW.PrintLast Go.Proofs.YtcofpbndaljppaaDoorW.PrintMore
attribute [local go_sem] max2_int min2_int max_two min_two max_three min_three max_four min_four   -- for this text's walks alone
set_option linter.unusedVariables false
set_option linter.unusedSimpArgs false

/-! ### lanyardlaw06_NatAdds: function 7 -/
def lanyardlaw06_NatAdds.j0 : Nat → List Int → List Int → Bool → List Int → List Int → Option (Bool)
 | 0, _, _, _, _, _ => none
 | k + 1, x0, x1, x49, x898000, x898001 => if x49 = true then ((lanyardlaw06_awake.f k).bind fun t902 => (some t902)) else ((nat_Add.f k x898000 x898001).bind fun bt903 => ((nat_Exp.f k x0 x898000 x1).bind fun bt907 => ((nat_Exp.f k x0 x898001 x1).bind fun bt911 => ((nat_Exp.f k x0 bt903.1 x1).bind fun bt915 => ((nat_Mul.f k bt907.1 bt911.1).bind fun bt919 => ((nat_Div.f k bt919.1 x1).bind fun bt923 => (if bt907.2 = 0 then (if bt911.2 = 0 then (if bt915.2 = 0 then (if bt923.2.2 = 0 then (if (strOfNums bt923.2.1).toList = (strOfNums bt915.1).toList then ((nat_Cmp.f k bt915.1 x1).bind fun t930 => (some (decide (t930 < 0)))) else (some false)) else (some false)) else (some false)) else (some false)) else (some false))))))))
def lanyardlaw06_NatAdds.f (k : Nat) (l0 : List Int) (l1 : List Int) (l2_0 : List Int) (l2_1 : List Int) : Option (Bool) := (lanyardlaw06_awake.f k).bind fun t898 => (if t898 = true then (if (l0.length : Int) > 80 then (lanyardlaw06_NatAdds.j0 k l0 l1 true l2_0 l2_1) else (if (l1.length : Int) > 80 then (lanyardlaw06_NatAdds.j0 k l0 l1 true l2_0 l2_1) else (if (l2_0.length : Int) > 20 then (lanyardlaw06_NatAdds.j0 k l0 l1 true l2_0 l2_1) else (if (l2_1.length : Int) > 20 then (lanyardlaw06_NatAdds.j0 k l0 l1 true l2_0 l2_1) else ((lanyardref06_Of.f k l1).bind fun t899 => (lanyardlaw06_NatAdds.j0 k l0 l1 ((t899.length : Int) == 0) l2_0 l2_1)))))) else (lanyardlaw06_NatAdds.j0 k l0 l1 true l2_0 l2_1))
theorem lanyardlaw06_NatAdds.mono_l : ∀ k, (∀ y0 y1 y2 y3 y4, LeO (lanyardlaw06_NatAdds.j0 k y0 y1 y2 y3 y4) (lanyardlaw06_NatAdds.j0 (k + 1) y0 y1 y2 y3 y4))
 | 0 => fun _ _ _ _ _ r h => by simp [lanyardlaw06_NatAdds.j0] at h
 | k + 1 => by
  have ih0 := lanyardlaw06_NatAdds.mono_l k
  ·intro y0 y1 y2 y3 y4
   unfold lanyardlaw06_NatAdds.j0
   repeat' first
   | (with_reducible exact ih0 _ _ _ _ _)
   | (with_reducible exact lanyardlaw06_awake.mono _)
   | (with_reducible exact lanyardref06_Of.mono _ _)
   | (with_reducible exact nat_Add.mono _ _ _)
   | (with_reducible exact nat_Cmp.mono _ _ _)
   | (with_reducible exact nat_Div.mono _ _ _)
   | (with_reducible exact nat_Exp.mono _ _ _ _)
   | (with_reducible exact nat_Mul.mono _ _ _)
   | (with_reducible exact LeO.refl _)
   | (with_reducible exact LeO.none _)
   | (with_reducible refine LeO.ite ?_ ?_)
   | (with_reducible refine LeO.bind ?_ (fun _ => ?_))
   | exact ih0 _ _ _ _ _
   | exact lanyardlaw06_awake.mono _
   | exact lanyardref06_Of.mono _ _
   | exact nat_Add.mono _ _ _
   | exact nat_Cmp.mono _ _ _
   | exact nat_Div.mono _ _ _
   | exact nat_Exp.mono _ _ _ _
   | exact nat_Mul.mono _ _ _
   | exact LeO.none _
   | refine LeO.ite ?_ ?_
   | refine LeO.bind ?_ (fun _ => ?_)
theorem lanyardlaw06_NatAdds.mono : ∀ a0 a1 a2 a3 k, LeO (lanyardlaw06_NatAdds.f k a0 a1 a2 a3) (lanyardlaw06_NatAdds.f (k + 1) a0 a1 a2 a3) := by
 intro a0 a1 a2 a3 k
 have ih0 := lanyardlaw06_NatAdds.mono_l k
 unfold lanyardlaw06_NatAdds.f
 repeat' first
   | (with_reducible exact ih0 _ _ _ _ _)
   | (with_reducible exact lanyardlaw06_awake.mono _)
   | (with_reducible exact lanyardref06_Of.mono _ _)
   | (with_reducible exact nat_Add.mono _ _ _)
   | (with_reducible exact nat_Cmp.mono _ _ _)
   | (with_reducible exact nat_Div.mono _ _ _)
   | (with_reducible exact nat_Exp.mono _ _ _ _)
   | (with_reducible exact nat_Mul.mono _ _ _)
   | (with_reducible exact LeO.refl _)
   | (with_reducible exact LeO.none _)
   | (with_reducible refine LeO.ite ?_ ?_)
   | (with_reducible refine LeO.bind ?_ (fun _ => ?_))
   | exact ih0 _ _ _ _ _
   | exact lanyardlaw06_awake.mono _
   | exact lanyardref06_Of.mono _ _
   | exact nat_Add.mono _ _ _
   | exact nat_Cmp.mono _ _ _
   | exact nat_Div.mono _ _ _
   | exact nat_Exp.mono _ _ _ _
   | exact nat_Mul.mono _ _ _
   | exact LeO.none _
   | refine LeO.ite ?_ ?_
   | refine LeO.bind ?_ (fun _ => ?_)
set_option maxHeartbeats 8000000 in
set_option maxRecDepth 100000 in
theorem lanyardlaw06_NatAdds.calls (k : Nat) (A0 : Option Addr) (c0 : Nat) (l0 : List Int) (A1 : Option Addr) (c1 : Nat) (l1 : List Int) (A2_0 : Option Addr) (c2_0 : Nat) (l2_0 : List Int) (A2_1 : Option Addr) (c2_1 : Nat) (l2_1 : List Int) (r : Bool) (w : World) (hr0 : Kd.C (Kd.int .u8) w A0 l0.length l0) (hc0 : l0.length ≤ c0) (hr1 : Kd.C (Kd.int .u8) w A1 l1.length l1) (hc1 : l1.length ≤ c1) (hr2_0 : Kd.C (Kd.int .u8) w A2_0 l2_0.length l2_0) (hc2_0 : l2_0.length ≤ c2_0) (hr2_1 : Kd.C (Kd.int .u8) w A2_1 l2_1.length l2_1) (hc2_1 : l2_1.length ≤ c2_1) (h : lanyardlaw06_NatAdds.f k l0 l1 l2_0 l2_1 = some r) (hr_ : r = true := by rfl) :
  Calls Tryd.prog 7 #[.slice A0 l0.length c0, .slice A1 l1.length c1, .agg #[.slice A2_0 l2_0.length c2_0, .slice A2_1 l2_1.length c2_1]] w fun e w' => e = .returned (.bool r) ∧ Below w.heap.size w w' := by
 have HR_ := Aside0.mk hr_
 clear hr_
 have hu42 := Tryd.underlying42
 have HR0 := Aside0.mk hr0
 have HC0 := Aside0.mk hc0
 clear hr0 hc0
 have HR1 := Aside0.mk hr1
 have HC1 := Aside0.mk hc1
 clear hr1 hc1
 have HR2_0 := Aside0.mk hr2_0
 have HC2_0 := Aside0.mk hc2_0
 clear hr2_0 hc2_0
 have HR2_1 := Aside0.mk hr2_1
 have HC2_1 := Aside0.mk hc2_1
 clear hr2_1 hc2_1
 have HB := Aside0.mk (Below.refl w.heap.size w)
 have H : ((lanyardlaw06_awake.f k).bind fun t898 => (if t898 = true then (if (l0.length : Int) > 80 then (lanyardlaw06_NatAdds.j0 k l0 l1 true l2_0 l2_1) else (if (l1.length : Int) > 80 then (lanyardlaw06_NatAdds.j0 k l0 l1 true l2_0 l2_1) else (if (l2_0.length : Int) > 20 then (lanyardlaw06_NatAdds.j0 k l0 l1 true l2_0 l2_1) else (if (l2_1.length : Int) > 20 then (lanyardlaw06_NatAdds.j0 k l0 l1 true l2_0 l2_1) else ((lanyardref06_Of.f k l1).bind fun t899 => (lanyardlaw06_NatAdds.j0 k l0 l1 ((t899.length : Int) == 0) l2_0 l2_1)))))) else (lanyardlaw06_NatAdds.j0 k l0 l1 true l2_0 l2_1))) = some r := h
 clear h
 have HC4 := Aside0.mk H
 clear H
 go_enter Tryd.func7, Tryd.ntmps7
 go_upto_region 1 with (first | ((with_reducible refine gate_dst (N := 5) rfl ?_); (try (refine gate_guard (by rfl) ?_; dsimp only)); refine box_event ?hg (N := 5) ?hd (cs := #[.slice A2_0 l2_0.length c2_0, .slice A2_1 l2_1.length c2_1]) (t := 42) ?hr ?_; (case hd => rfl); (case hg => rfl); (case hr => first | (go_simp; done) | (go_simp; rfl)); intro gb897 hg w5 hbox hb; have n0_ := Bs HB hb; have n1_ := Aside0.mk (hbox); have n2_ := Aside0.mk ((by rw [hg]; exact (Bz HB) : w.heap.size ≤ gb897)); have n3_ := Aside0.mk ((by rw [hg]; exact (Bz HB) : w.heap.size ≤ gb897)); clear HB; have HB := n0_; have BK897 := n1_; have GW897 := n2_; have GE897 := n3_; clear n0_ n1_ n2_ n3_; clear hb hbox hg))
 (try simp only [Act.put, List.setIfInBounds_toArray, List.set_cons_zero, List.set_cons_succ])
 go_cut [49] (fun v49 wc => ∃ (kq : Nat) (x49_3 : Bool), v49 = .bool x49_3 ∧ Aside0 (lanyardlaw06_NatAdds.j0 kq l0 l1 x49_3 l2_0 l2_1 = some r) ∧ Aside0 (kq ≤ k) ∧ Aside0 (wc.heap[gb897]? = some (.cells #[(.slice A2_0 l2_0.length c2_0), (.slice A2_1 l2_1.length c2_1)] 42 (0, 0))) ∧ Aside0 (Below w.heap.size w wc))
 case first =>
  have H := HC4.out
  clear HC4
  replace H := Option.bind_eq_some_iff.mp H
  obtain ⟨t898, A60, H⟩ := H
  replace H : (if t898 = true then (if (l0.length : Int) > 80 then (lanyardlaw06_NatAdds.j0 k l0 l1 true l2_0 l2_1) else (if (l1.length : Int) > 80 then (lanyardlaw06_NatAdds.j0 k l0 l1 true l2_0 l2_1) else (if (l2_0.length : Int) > 20 then (lanyardlaw06_NatAdds.j0 k l0 l1 true l2_0 l2_1) else (if (l2_1.length : Int) > 20 then (lanyardlaw06_NatAdds.j0 k l0 l1 true l2_0 l2_1) else ((lanyardref06_Of.f k l1).bind fun t899 => (lanyardlaw06_NatAdds.j0 k l0 l1 ((t899.length : Int) == 0) l2_0 l2_1)))))) else (lanyardlaw06_NatAdds.j0 k l0 l1 true l2_0 l2_1)) = some r := H
  have A6 := Aside0.mk A60
  clear A60
  by_cases c7 : t898 = true
  ·subst c7
   have H1 : (if (l0.length : Int) > 80 then (lanyardlaw06_NatAdds.j0 k l0 l1 true l2_0 l2_1) else (if (l1.length : Int) > 80 then (lanyardlaw06_NatAdds.j0 k l0 l1 true l2_0 l2_1) else (if (l2_0.length : Int) > 20 then (lanyardlaw06_NatAdds.j0 k l0 l1 true l2_0 l2_1) else (if (l2_1.length : Int) > 20 then (lanyardlaw06_NatAdds.j0 k l0 l1 true l2_0 l2_1) else ((lanyardref06_Of.f k l1).bind fun t899 => (lanyardlaw06_NatAdds.j0 k l0 l1 ((t899.length : Int) == 0) l2_0 l2_1)))))) = some r := by rw [if_pos rfl] at H; exact H
   clear H
   have H := H1
   clear H1
   by_cases c8 : (l0.length : Int) > 80
   ·rw [if_pos c8] at H
    have c8b0 : decide (80 < (l0.length : Int)) = true := decide_eq_true c8
    have c8b1 : decide (80 < l0.length) = true := decide_eq_true (by omega)
    clear c8
    (first | rw [c8b0] | (simp only [i64_w, i32_w]; rw [c8b0]) | skip)
    have H' := Aside0.mk H
    clear H
    go_wp2_with (first | ((with_reducible refine gate_callee (f := 11) rfl ?_); refine goesA (some 20) Tryd.func11 #[] rfl ?_; (with_reducible refine (lanyardlaw06_awake.calls k  true _ A6.out).mono ?_); rintro e w9 ⟨rfl, hb⟩; refine ⟨_, rfl, ?_⟩; have n0_ := Aside0.mk (blk_below (g := gb897) (o := .cells #[.slice A2_0 l2_0.length c2_0, .slice A2_1 l2_1.length c2_1] 42 (0, 0)) (by (with_reducible repeat (first | refine blk_drewN ?_ _ | refine blk_drew ?_ | refine blk_alloc ?_ _)); exact BK897.out) hb); have n1_ := Aside0.mk (below_step (by repeat (first | (with_reducible first | exact HB.out | apply below_alloc | apply pw_below_drewN | apply below_drew1 | refine below_set ?_ GE897.out) | exact HB.out)) hb); clear BK897; clear HB; have BK897 := n0_; have HB := n1_; clear n0_ n1_; (try clear hb); (try clear hb2); (try clear hk); (try clear hi)))
    go_meet
    case rel => exact ⟨_, (true), (by first | rfl | (simp; done) | (simp [*]; done)), H', ⟨by first | omega | exact Nat.le_refl _⟩, ⟨by (with_reducible repeat (first | refine blk_drewN ?_ _ | refine blk_drew ?_ | refine blk_alloc ?_ _)); exact BK897.out⟩, ⟨by repeat (first | (with_reducible first | exact HB.out | apply below_alloc | apply pw_below_drewN | apply below_drew1 | refine below_set ?_ GE897.out) | exact HB.out)⟩⟩
   ·rw [if_neg c8] at H
    have c8b0 : decide (80 < (l0.length : Int)) = false := decide_eq_false c8
    have c8b1 : decide (80 < l0.length) = false := decide_eq_false (by omega)
    clear c8
    (first | rw [c8b0] | (simp only [i64_w, i32_w]; rw [c8b0]) | skip)
    by_cases c10 : (l1.length : Int) > 80
    ·rw [if_pos c10] at H
     have c10b0 : decide (80 < (l1.length : Int)) = true := decide_eq_true c10
     have c10b1 : decide (80 < l1.length) = true := decide_eq_true (by omega)
     clear c10
     have H' := Aside0.mk H
     clear H
     go_wp2_with (first | ((with_reducible refine gate_callee (f := 11) rfl ?_); refine goesA (some 20) Tryd.func11 #[] rfl ?_; (with_reducible refine (lanyardlaw06_awake.calls k  true _ A6.out).mono ?_); rintro e w11 ⟨rfl, hb⟩; refine ⟨_, rfl, ?_⟩; have n0_ := Aside0.mk (blk_below (g := gb897) (o := .cells #[.slice A2_0 l2_0.length c2_0, .slice A2_1 l2_1.length c2_1] 42 (0, 0)) (by (with_reducible repeat (first | refine blk_drewN ?_ _ | refine blk_drew ?_ | refine blk_alloc ?_ _)); exact BK897.out) hb); have n1_ := Aside0.mk (below_step (by repeat (first | (with_reducible first | exact HB.out | apply below_alloc | apply pw_below_drewN | apply below_drew1 | refine below_set ?_ GE897.out) | exact HB.out)) hb); clear BK897; clear HB; have BK897 := n0_; have HB := n1_; clear n0_ n1_; (try clear hb); (try clear hb2); (try clear hk); (try clear hi)))
     go_meet
     case rel => exact ⟨_, (true), (by first | rfl | (simp; done) | (simp [*]; done)), H', ⟨by first | omega | exact Nat.le_refl _⟩, ⟨by (with_reducible repeat (first | refine blk_drewN ?_ _ | refine blk_drew ?_ | refine blk_alloc ?_ _)); exact BK897.out⟩, ⟨by repeat (first | (with_reducible first | exact HB.out | apply below_alloc | apply pw_below_drewN | apply below_drew1 | refine below_set ?_ GE897.out) | exact HB.out)⟩⟩
    ·rw [if_neg c10] at H
     have c10b0 : decide (80 < (l1.length : Int)) = false := decide_eq_false c10
     have c10b1 : decide (80 < l1.length) = false := decide_eq_false (by omega)
     clear c10
     refine (Classical.em ((l2_0.length : Int) > 20)).elim (fun c12 => ?a44_) (fun c12 => ?b44_)
     case' a44_ =>
      rw [if_pos c12] at H
      have c12b0 : decide (20 < (l2_0.length : Int)) = true := decide_eq_true c12
      have c12b1 : decide (20 < l2_0.length) = true := decide_eq_true (by omega)
      clear c12
      have H' := Aside0.mk H
      clear H
     case' b44_ =>
      rw [if_neg c12] at H
      have c12b0 : decide (20 < (l2_0.length : Int)) = false := decide_eq_false c12
      have c12b1 : decide (20 < l2_0.length) = false := decide_eq_false (by omega)
      clear c12
      refine (Classical.em ((l2_1.length : Int) > 20)).elim (fun c15 => ?a45_) (fun c15 => ?b45_)
      case' a45_ =>
       rw [if_pos c15] at H
       have c15b0 : decide (20 < (l2_1.length : Int)) = true := decide_eq_true c15
       have c15b1 : decide (20 < l2_1.length) = true := decide_eq_true (by omega)
       clear c15
       have H' := Aside0.mk H
       clear H
      case' b45_ =>
       rw [if_neg c15] at H
       have c15b0 : decide (20 < (l2_1.length : Int)) = false := decide_eq_false c15
       have c15b1 : decide (20 < l2_1.length) = false := decide_eq_false (by omega)
       clear c15
       replace H := Option.bind_eq_some_iff.mp H
       obtain ⟨t899, A180, H⟩ := H
       replace H : (lanyardlaw06_NatAdds.j0 k l0 l1 ((t899.length : Int) == 0) l2_0 l2_1) = some r := H
       have A18 := Aside0.mk A180
       clear A180
       have H' := Aside0.mk H
       clear H
       go_wp2_with (first | ((with_reducible refine gate_callee (f := 11) rfl ?_); refine goesA (some 20) Tryd.func11 #[] rfl ?_; (with_reducible refine (lanyardlaw06_awake.calls k  true _ A6.out).mono ?_); rintro e w19 ⟨rfl, hb⟩; refine ⟨_, rfl, ?_⟩; have n0_ := Aside0.mk (blk_below (g := gb897) (o := .cells #[.slice A2_0 l2_0.length c2_0, .slice A2_1 l2_1.length c2_1] 42 (0, 0)) (by (with_reducible repeat (first | refine blk_drewN ?_ _ | refine blk_drew ?_ | refine blk_alloc ?_ _)); exact BK897.out) hb); have n1_ := Aside0.mk (below_step (by repeat (first | (with_reducible first | exact HB.out | apply below_alloc | apply pw_below_drewN | apply below_drew1 | refine below_set ?_ GE897.out) | exact HB.out)) hb); clear BK897; clear HB; have BK897 := n0_; have HB := n1_; clear n0_ n1_; (try clear hb); (try clear hb2); (try clear hk); (try clear hi); have hcz20_0 : w19.cell? ⟨gb897, 0, none⟩ = some (.slice A2_0 l2_0.length c2_0) := (blk_cell BK897.out 0).trans rfl; have hcz20_1 : w19.cell? ⟨gb897, 1, none⟩ = some (.slice A2_1 l2_1.length c2_1) := (blk_cell BK897.out 1).trans rfl; have hfz20_0 := blk_frozen BK897.out 0; have hfz20_1 := blk_frozen BK897.out 1) | (go_at_call 12; (with_reducible refine (lanyardref06_Of.calls k _ _ l1 t899 _ ?side1 ?side2 A18.out).mono ?_); (case side1 => exact Cu (Kd.C_below HR1.out HB.out)); (case side2 => exact HC1.out); rintro e w21 ⟨v900, rfl, ho0, hb⟩; have n0_ := Aside0.mk (Kd.V_lower (Kd.V_mono (ok' := fun k_ => k_ ≠ gb897) ho0 (fun k_ hk_ => (Kd.freshB (g := gb897) (o := .cells #[.slice A2_0 l2_0.length c2_0, .slice A2_1 l2_1.length c2_1] 42 (0, 0)) (by (with_reducible repeat (first | refine blk_drewN ?_ _ | refine blk_drew ?_ | refine blk_alloc ?_ _)); exact BK897.out) k_ hk_))) (below_size (by repeat (first | (with_reducible first | exact HB.out | apply below_alloc | apply pw_below_drewN | apply below_drew1 | refine below_set ?_ GE897.out) | exact HB.out)))); have n1_ := Aside0.mk (blk_below (g := gb897) (o := .cells #[.slice A2_0 l2_0.length c2_0, .slice A2_1 l2_1.length c2_1] 42 (0, 0)) (by (with_reducible repeat (first | refine blk_drewN ?_ _ | refine blk_drew ?_ | refine blk_alloc ?_ _)); exact BK897.out) hb); have n2_ := Aside0.mk (below_step (by repeat (first | (with_reducible first | exact HB.out | apply below_alloc | apply pw_below_drewN | apply below_drew1 | refine below_set ?_ GE897.out) | exact HB.out)) hb); clear BK897; clear HB; have HO901 := n0_; have BK897 := n1_; have HB := n2_; clear n0_ n1_ n2_; (try clear hb); (try clear hb2); (try clear hk); (try clear hi); (try clear ho0); obtain ⟨Ao22, co22, eo22⟩ := Kd.V_slice HO901.out; subst eo22))
       go_meet
       case rel => exact ⟨_, (((t899.length : Int) == 0)), (by first | rfl | (simp; done) | (simp [*]; done)), H', ⟨by first | omega | exact Nat.le_refl _⟩, ⟨by (with_reducible repeat (first | refine blk_drewN ?_ _ | refine blk_drew ?_ | refine blk_alloc ?_ _)); exact BK897.out⟩, ⟨by repeat (first | (with_reducible first | exact HB.out | apply below_alloc | apply pw_below_drewN | apply below_drew1 | refine below_set ?_ GE897.out) | exact HB.out)⟩⟩
     case a44_ | b44_ =>
      go_wp2_with (first | ((with_reducible refine gate_callee (f := 11) rfl ?_); refine goesA (some 20) Tryd.func11 #[] rfl ?_; (with_reducible refine (lanyardlaw06_awake.calls k  true _ A6.out).mono ?_); rintro e wz1 ⟨rfl, hb⟩; refine ⟨_, rfl, ?_⟩; have n0_ := Aside0.mk (blk_below (g := gb897) (o := .cells #[.slice A2_0 l2_0.length c2_0, .slice A2_1 l2_1.length c2_1] 42 (0, 0)) (by (with_reducible repeat (first | refine blk_drewN ?_ _ | refine blk_drew ?_ | refine blk_alloc ?_ _)); exact BK897.out) hb); have n1_ := Aside0.mk (below_step (by repeat (first | (with_reducible first | exact HB.out | apply below_alloc | apply pw_below_drewN | apply below_drew1 | refine below_set ?_ GE897.out) | exact HB.out)) hb); clear BK897; clear HB; have BK897 := n0_; have HB := n1_; clear n0_ n1_; (try clear hb); (try clear hb2); (try clear hk); (try clear hi); have hczz1 : wz1.cell? ⟨gb897, 0, none⟩ = some (.slice A2_0 l2_0.length c2_0) := (blk_cell BK897.out 0).trans rfl; have hczz2 : wz1.cell? ⟨gb897, 1, none⟩ = some (.slice A2_1 l2_1.length c2_1) := (blk_cell BK897.out 1).trans rfl; have hfzz1 := blk_frozen BK897.out 0; have hfzz2 := blk_frozen BK897.out 1))
      go_meet
      case rel => exact ⟨_, (true), (by first | rfl | (simp; done) | (simp [*]; done)), H', ⟨by first | omega | exact Nat.le_refl _⟩, ⟨by (with_reducible repeat (first | refine blk_drewN ?_ _ | refine blk_drew ?_ | refine blk_alloc ?_ _)); exact BK897.out⟩, ⟨by repeat (first | (with_reducible first | exact HB.out | apply below_alloc | apply pw_below_drewN | apply below_drew1 | refine below_set ?_ GE897.out) | exact HB.out)⟩⟩
  ·replace c7 := Bool.eq_false_iff.mpr c7
   subst c7
   have H1 : (lanyardlaw06_NatAdds.j0 k l0 l1 true l2_0 l2_1) = some r := by rw [if_neg (show ¬ (false = true) by decide)] at H; exact H
   clear H
   have H := H1
   clear H1
   have H' := Aside0.mk H
   clear H
   go_wp2_with (first | ((with_reducible refine gate_callee (f := 11) rfl ?_); refine goesA (some 20) Tryd.func11 #[] rfl ?_; (with_reducible refine (lanyardlaw06_awake.calls k  false _ A6.out).mono ?_); rintro e w23 ⟨rfl, hb⟩; refine ⟨_, rfl, ?_⟩; have n0_ := Aside0.mk (blk_below (g := gb897) (o := .cells #[.slice A2_0 l2_0.length c2_0, .slice A2_1 l2_1.length c2_1] 42 (0, 0)) (by (with_reducible repeat (first | refine blk_drewN ?_ _ | refine blk_drew ?_ | refine blk_alloc ?_ _)); exact BK897.out) hb); have n1_ := Aside0.mk (below_step (by repeat (first | (with_reducible first | exact HB.out | apply below_alloc | apply pw_below_drewN | apply below_drew1 | refine below_set ?_ GE897.out) | exact HB.out)) hb); clear BK897; clear HB; have BK897 := n0_; have HB := n1_; clear n0_ n1_; (try clear hb); (try clear hb2); (try clear hk); (try clear hi)))
   go_meet
   case rel => exact ⟨_, (true), (by first | rfl | (simp; done) | (simp [*]; done)), H', ⟨by first | omega | exact Nat.le_refl _⟩, ⟨by (with_reducible repeat (first | refine blk_drewN ?_ _ | refine blk_drew ?_ | refine blk_alloc ?_ _)); exact BK897.out⟩, ⟨by repeat (first | (with_reducible first | exact HB.out | apply below_alloc | apply pw_below_drewN | apply below_drew1 | refine below_set ?_ GE897.out) | exact HB.out)⟩⟩
 case rest =>
  clear HC4
  try clear c1
  try clear c2
  try clear p2
  try clear c7
  try clear c8
  try clear c8b0
  try clear c8b1
  try clear c10
  try clear c10b0
  try clear c10b1
  try clear c11
  try clear c12
  try clear c12b0
  try clear c12b1
  try clear c15
  try clear c15b0
  try clear c15b1
  try clear hcz14_0
  try clear hcz14_1
  try clear hcz17_0
  try clear hcz17_1
  try clear hcz20_0
  try clear hcz20_1
  try clear hfz14_0
  try clear hfz14_1
  try clear hfz17_0
  try clear hfz17_1
  try clear hfz20_0
  try clear hfz20_1
  obtain ⟨kq, x49_3, rfl, HA, HJ3, BK897, HB⟩ := hcut
  cases kq with
  | zero => exact absurd HA.out (by simp [lanyardlaw06_NatAdds.j0])
  | succ kj3 =>
   have H := HA.out
   clear HA
   simp only [lanyardlaw06_NatAdds.j0] at H
   by_cases c24 : x49_3 = true
   ·subst c24
    have H1 : ((lanyardlaw06_awake.f kj3).bind fun t902 => (some t902)) = some r := by rw [if_pos rfl] at H; exact H
    clear H
    have H := H1
    clear H1
    replace H := Option.bind_eq_some_iff.mp H
    obtain ⟨t902, A250, H⟩ := H
    replace H : (some t902) = some r := H
    have A25 := Aside0.mk A250
    clear A250
    obtain rfl := Option.some.inj H
    go_wp2_with (first | ((with_reducible refine gate_callee (f := 11) rfl ?_); refine goesA (some 50) Tryd.func11 #[] rfl ?_; (with_reducible refine (lanyardlaw06_awake.calls kj3  t902 _ A25.out).mono ?_); rintro e w26 ⟨rfl, hb⟩; refine ⟨_, rfl, ?_⟩; have n0_ := Aside0.mk (blk_below (g := gb897) (o := .cells #[.slice A2_0 l2_0.length c2_0, .slice A2_1 l2_1.length c2_1] 42 (0, 0)) (by (with_reducible repeat (first | refine blk_drewN ?_ _ | refine blk_drew ?_ | refine blk_alloc ?_ _)); exact BK897.out) hb); have n1_ := Aside0.mk (below_step (by repeat (first | (with_reducible first | exact HB.out | apply below_alloc | apply pw_below_drewN | apply below_drew1 | refine below_set ?_ GE897.out) | exact HB.out)) hb); clear BK897; clear HB; have BK897 := n0_; have HB := n1_; clear n0_ n1_; (try clear hb); (try clear hb2); (try clear hk); (try clear hi)))
    go_ret
    exact ⟨rfl_, by repeat (first | (with_reducible first | exact HB.out | apply below_alloc | apply pw_below_drewN | apply below_drew1 | refine below_set ?_ GE897.out) | exact HB.out)⟩
   ·replace c24 := Bool.eq_false_iff.mpr c24
    subst c24
    have H1 : ((nat_Add.f kj3 l2_0 l2_1).bind fun bt903 => ((nat_Exp.f kj3 l0 l2_0 l1).bind fun bt907 => ((nat_Exp.f kj3 l0 l2_1 l1).bind fun bt911 => ((nat_Exp.f kj3 l0 bt903.1 l1).bind fun bt915 => ((nat_Mul.f kj3 bt907.1 bt911.1).bind fun bt919 => ((nat_Div.f kj3 bt919.1 l1).bind fun bt923 => (if bt907.2 = 0 then (if bt911.2 = 0 then (if bt915.2 = 0 then (if bt923.2.2 = 0 then (if (strOfNums bt923.2.1).toList = (strOfNums bt915.1).toList then ((nat_Cmp.f kj3 bt915.1 l1).bind fun t930 => (some (decide (t930 < 0)))) else (some false)) else (some false)) else (some false)) else (some false)) else (some false)))))))) = some r := by rw [if_neg (show ¬ (false = true) by decide)] at H; exact H
    clear H
    have H := H1
    clear H1
    replace H := Option.bind_eq_some_iff.mp H
    obtain ⟨⟨t903, t904⟩, A270, H⟩ := H
    replace H : ((nat_Exp.f kj3 l0 l2_0 l1).bind fun bt907 => ((nat_Exp.f kj3 l0 l2_1 l1).bind fun bt911 => ((nat_Exp.f kj3 l0 t903 l1).bind fun bt915 => ((nat_Mul.f kj3 bt907.1 bt911.1).bind fun bt919 => ((nat_Div.f kj3 bt919.1 l1).bind fun bt923 => (if bt907.2 = 0 then (if bt911.2 = 0 then (if bt915.2 = 0 then (if bt923.2.2 = 0 then (if (strOfNums bt923.2.1).toList = (strOfNums bt915.1).toList then ((nat_Cmp.f kj3 bt915.1 l1).bind fun t930 => (some (decide (t930 < 0)))) else (some false)) else (some false)) else (some false)) else (some false)) else (some false))))))) = some r := H
    have A27 := Aside0.mk A270
    clear A270
    replace H := Option.bind_eq_some_iff.mp H
    obtain ⟨⟨t907, t908⟩, A280, H⟩ := H
    replace H : ((nat_Exp.f kj3 l0 l2_1 l1).bind fun bt911 => ((nat_Exp.f kj3 l0 t903 l1).bind fun bt915 => ((nat_Mul.f kj3 t907 bt911.1).bind fun bt919 => ((nat_Div.f kj3 bt919.1 l1).bind fun bt923 => (if t908 = 0 then (if bt911.2 = 0 then (if bt915.2 = 0 then (if bt923.2.2 = 0 then (if (strOfNums bt923.2.1).toList = (strOfNums bt915.1).toList then ((nat_Cmp.f kj3 bt915.1 l1).bind fun t930 => (some (decide (t930 < 0)))) else (some false)) else (some false)) else (some false)) else (some false)) else (some false)))))) = some r := H
    have A28 := Aside0.mk A280
    clear A280
    replace H := Option.bind_eq_some_iff.mp H
    obtain ⟨⟨t911, t912⟩, A290, H⟩ := H
    replace H : ((nat_Exp.f kj3 l0 t903 l1).bind fun bt915 => ((nat_Mul.f kj3 t907 t911).bind fun bt919 => ((nat_Div.f kj3 bt919.1 l1).bind fun bt923 => (if t908 = 0 then (if t912 = 0 then (if bt915.2 = 0 then (if bt923.2.2 = 0 then (if (strOfNums bt923.2.1).toList = (strOfNums bt915.1).toList then ((nat_Cmp.f kj3 bt915.1 l1).bind fun t930 => (some (decide (t930 < 0)))) else (some false)) else (some false)) else (some false)) else (some false)) else (some false))))) = some r := H
    have A29 := Aside0.mk A290
    clear A290
    replace H := Option.bind_eq_some_iff.mp H
    obtain ⟨⟨t915, t916⟩, A300, H⟩ := H
    replace H : ((nat_Mul.f kj3 t907 t911).bind fun bt919 => ((nat_Div.f kj3 bt919.1 l1).bind fun bt923 => (if t908 = 0 then (if t912 = 0 then (if t916 = 0 then (if bt923.2.2 = 0 then (if (strOfNums bt923.2.1).toList = (strOfNums t915).toList then ((nat_Cmp.f kj3 t915 l1).bind fun t930 => (some (decide (t930 < 0)))) else (some false)) else (some false)) else (some false)) else (some false)) else (some false)))) = some r := H
    have A30 := Aside0.mk A300
    clear A300
    replace H := Option.bind_eq_some_iff.mp H
    obtain ⟨⟨t919, t920⟩, A310, H⟩ := H
    replace H : ((nat_Div.f kj3 t919 l1).bind fun bt923 => (if t908 = 0 then (if t912 = 0 then (if t916 = 0 then (if bt923.2.2 = 0 then (if (strOfNums bt923.2.1).toList = (strOfNums t915).toList then ((nat_Cmp.f kj3 t915 l1).bind fun t930 => (some (decide (t930 < 0)))) else (some false)) else (some false)) else (some false)) else (some false)) else (some false))) = some r := H
    have A31 := Aside0.mk A310
    clear A310
    replace H := Option.bind_eq_some_iff.mp H
    obtain ⟨⟨t923, t926, t929⟩, A320, H⟩ := H
    replace H : (if t908 = 0 then (if t912 = 0 then (if t916 = 0 then (if t929 = 0 then (if (strOfNums t926).toList = (strOfNums t915).toList then ((nat_Cmp.f kj3 t915 l1).bind fun t930 => (some (decide (t930 < 0)))) else (some false)) else (some false)) else (some false)) else (some false)) else (some false)) = some r := H
    have A32 := Aside0.mk A320
    clear A320
    by_cases c33 : t908 = 0
    ·rw [if_pos c33] at H
     have c33b0 : (t908 == 0) = true := beq_iff_eq.mpr c33
     have c33b1 : (t908 != 0) = false := bne_eq_false_iff_eq.mpr c33
     clear c33
     by_cases c34 : t912 = 0
     ·rw [if_pos c34] at H
      have c34b0 : (t912 == 0) = true := beq_iff_eq.mpr c34
      have c34b1 : (t912 != 0) = false := bne_eq_false_iff_eq.mpr c34
      clear c34
      by_cases c35 : t916 = 0
      ·rw [if_pos c35] at H
       have c35b0 : (t916 == 0) = true := beq_iff_eq.mpr c35
       have c35b1 : (t916 != 0) = false := bne_eq_false_iff_eq.mpr c35
       clear c35
       by_cases c36 : t929 = 0
       ·rw [if_pos c36] at H
        have c36b0 : (t929 == 0) = true := beq_iff_eq.mpr c36
        have c36b1 : (t929 != 0) = false := bne_eq_false_iff_eq.mpr c36
        clear c36
        by_cases c37 : (strOfNums t926).toList = (strOfNums t915).toList
        ·rw [if_pos c37] at H
         have c37b0 : ((strOfNums t926).toList == (strOfNums t915).toList) = true := beq_iff_eq.mpr c37
         have c37b1 : ((strOfNums t926).toList != (strOfNums t915).toList) = false := bne_eq_false_iff_eq.mpr c37
         clear c37
         replace H := Option.bind_eq_some_iff.mp H
         obtain ⟨t930, A380, H⟩ := H
         replace H : (some (decide (t930 < 0))) = some r := H
         have A38 := Aside0.mk A380
         clear A380
         obtain rfl := Option.some.inj H
         have hcz39_0 : wc.cell? ⟨gb897, 0, none⟩ = some (.slice A2_0 l2_0.length c2_0) := (blk_cell BK897.out 0).trans rfl
         have hcz39_1 : wc.cell? ⟨gb897, 1, none⟩ = some (.slice A2_1 l2_1.length c2_1) := (blk_cell BK897.out 1).trans rfl
         have hfz39_0 := blk_frozen BK897.out 0
         have hfz39_1 := blk_frozen BK897.out 1
         go_wp2_with (first | ((with_reducible refine gate_callee (f := 25) rfl ?_); refine goesA (some 56) Tryd.func25 #[.slice A2_0 l2_0.length c2_0, .slice A2_1 l2_1.length c2_1] rfl ?_; (with_reducible refine (nat_Add.calls kj3 _ _ l2_0 _ _ l2_1 t903 t904 _ ?side1 ?side2 ?side3 ?side4 A27.out).mono ?_); (case side1 => exact Cu (Kd.C_below HR2_0.out HB.out)); (case side2 => exact HC2_0.out); (case side3 => exact Cu (Kd.C_below HR2_1.out HB.out)); (case side4 => exact HC2_1.out); rintro e w40 ⟨v905, rfl, ho0, hb⟩; refine ⟨_, rfl, ?_⟩; have n0_ := Aside0.mk (Kd.R_lower ho0 (below_size (by repeat (first | (with_reducible first | exact HB.out | apply below_alloc | apply pw_below_drewN | apply below_drew1 | refine below_set ?_ GE897.out) | exact HB.out)))); have n1_ := Aside0.mk (blk_below (g := gb897) (o := .cells #[.slice A2_0 l2_0.length c2_0, .slice A2_1 l2_1.length c2_1] 42 (0, 0)) (by (with_reducible repeat (first | refine blk_drewN ?_ _ | refine blk_drew ?_ | refine blk_alloc ?_ _)); exact BK897.out) hb); have n2_ := Aside0.mk (below_step (by repeat (first | (with_reducible first | exact HB.out | apply below_alloc | apply pw_below_drewN | apply below_drew1 | refine below_set ?_ GE897.out) | exact HB.out)) hb); clear BK897; clear HB; have HO906 := n0_; have BK897 := n1_; have HB := n2_; clear n0_ n1_ n2_; (try clear hb); (try clear hb2); (try clear hk); (try clear hi); (try clear ho0); have hcz41_0 : w40.cell? ⟨gb897, 0, none⟩ = some (.slice A2_0 l2_0.length c2_0) := (blk_cell BK897.out 0).trans rfl; have hcz41_1 : w40.cell? ⟨gb897, 1, none⟩ = some (.slice A2_1 l2_1.length c2_1) := (blk_cell BK897.out 1).trans rfl; have hfz41_0 := blk_frozen BK897.out 0; have hfz41_1 := blk_frozen BK897.out 1) | ((with_reducible refine gate_callee (f := 16) rfl ?_); refine goesA (some 64) Tryd.func16 #[.slice A0 l0.length c0, .slice A2_0 l2_0.length c2_0, .slice A1 l1.length c1] rfl ?_; (with_reducible refine (nat_Exp.calls kj3 _ _ l0 _ _ l2_0 _ _ l1 t907 t908 _ ?side1 ?side2 ?side3 ?side4 ?side5 ?side6 A28.out).mono ?_); (case side1 => exact Cu (Kd.C_below HR0.out HB.out)); (case side2 => exact HC0.out); (case side3 => exact Cu (Kd.C_below HR2_0.out HB.out)); (case side4 => exact HC2_0.out); (case side5 => exact Cu (Kd.C_below HR1.out HB.out)); (case side6 => exact HC1.out); rintro e w42 ⟨v909, rfl, ho0, hb⟩; refine ⟨_, rfl, ?_⟩; have n0_ := Re HO906 (Kd.R_base ho0) hb; have n1_ := Aside0.mk (Kd.R_lower (Kd.R_new' ho0 (Kd.R_lt (Ru HO906))) (below_size (by repeat (first | (with_reducible first | exact HB.out | apply below_alloc | apply pw_below_drewN | apply below_drew1 | refine below_set ?_ GE897.out) | exact HB.out)))); have n2_ := Aside0.mk (blk_below (g := gb897) (o := .cells #[.slice A2_0 l2_0.length c2_0, .slice A2_1 l2_1.length c2_1] 42 (0, 0)) (by (with_reducible repeat (first | refine blk_drewN ?_ _ | refine blk_drew ?_ | refine blk_alloc ?_ _)); exact BK897.out) hb); have n3_ := Aside0.mk (below_step (by repeat (first | (with_reducible first | exact HB.out | apply below_alloc | apply pw_below_drewN | apply below_drew1 | refine below_set ?_ GE897.out) | exact HB.out)) hb); clear HO906; clear BK897; clear HB; have HO906 := n0_; have HO910 := n1_; have BK897 := n2_; have HB := n3_; clear n0_ n1_ n2_ n3_; (try clear hb); (try clear hb2); (try clear hk); (try clear hi); (try clear ho0); have hcz43_0 : w42.cell? ⟨gb897, 0, none⟩ = some (.slice A2_0 l2_0.length c2_0) := (blk_cell BK897.out 0).trans rfl; have hcz43_1 : w42.cell? ⟨gb897, 1, none⟩ = some (.slice A2_1 l2_1.length c2_1) := (blk_cell BK897.out 1).trans rfl; have hfz43_0 := blk_frozen BK897.out 0; have hfz43_1 := blk_frozen BK897.out 1) | ((with_reducible refine gate_callee (f := 16) rfl ?_); refine goesA (some 72) Tryd.func16 #[.slice A0 l0.length c0, .slice A2_1 l2_1.length c2_1, .slice A1 l1.length c1] rfl ?_; (with_reducible refine (nat_Exp.calls kj3 _ _ l0 _ _ l2_1 _ _ l1 t911 t912 _ ?side1 ?side2 ?side3 ?side4 ?side5 ?side6 A29.out).mono ?_); (case side1 => exact Cu (Kd.C_below HR0.out HB.out)); (case side2 => exact HC0.out); (case side3 => exact Cu (Kd.C_below HR2_1.out HB.out)); (case side4 => exact HC2_1.out); (case side5 => exact Cu (Kd.C_below HR1.out HB.out)); (case side6 => exact HC1.out); rintro e w44 ⟨v913, rfl, ho0, hb⟩; refine ⟨_, rfl, ?_⟩; have n0_ := Re HO906 (Kd.R_base ho0) hb; have n1_ := Re HO910 (Kd.R_base ho0) hb; have n2_ := Aside0.mk (Kd.R_lower (Kd.R_new' (Kd.R_new' ho0 (Kd.R_lt (Ru HO906))) (Kd.R_lt (Ru HO910))) (below_size (by repeat (first | (with_reducible first | exact HB.out | apply below_alloc | apply pw_below_drewN | apply below_drew1 | refine below_set ?_ GE897.out) | exact HB.out)))); have n3_ := Aside0.mk (blk_below (g := gb897) (o := .cells #[.slice A2_0 l2_0.length c2_0, .slice A2_1 l2_1.length c2_1] 42 (0, 0)) (by (with_reducible repeat (first | refine blk_drewN ?_ _ | refine blk_drew ?_ | refine blk_alloc ?_ _)); exact BK897.out) hb); have n4_ := Aside0.mk (below_step (by repeat (first | (with_reducible first | exact HB.out | apply below_alloc | apply pw_below_drewN | apply below_drew1 | refine below_set ?_ GE897.out) | exact HB.out)) hb); clear HO906; clear HO910; clear BK897; clear HB; have HO906 := n0_; have HO910 := n1_; have HO914 := n2_; have BK897 := n3_; have HB := n4_; clear n0_ n1_ n2_ n3_ n4_; (try clear hb); (try clear hb2); (try clear hk); (try clear hi); (try clear ho0); obtain ⟨Ao45, co45, eo45⟩ := Kd.R_slice HO906.out; subst eo45) | ((with_reducible refine gate_callee (f := 16) rfl ?_); refine goesA (some 79) Tryd.func16 #[.slice A0 l0.length c0, .slice Ao45 t903.length co45, .slice A1 l1.length c1] rfl ?_; (with_reducible refine (nat_Exp.calls kj3 _ _ l0 _ _ t903 _ _ l1 t915 t916 _ ?side1 ?side2 ?side3 ?side4 ?side5 ?side6 A30.out).mono ?_); (case side1 => exact Cu (Kd.C_below HR0.out HB.out)); (case side2 => exact HC0.out); (case side3 => exact Cu (Kd.R_reads' HO906.out).2.2); (case side4 => exact (Kd.R_reads' HO906.out).2.1); (case side5 => exact Cu (Kd.C_below HR1.out HB.out)); (case side6 => exact HC1.out); rintro e w46 ⟨v917, rfl, ho0, hb⟩; refine ⟨_, rfl, ?_⟩; have n0_ := Re HO906 (Kd.R_base ho0) hb; have n1_ := Re HO910 (Kd.R_base ho0) hb; have n2_ := Re HO914 (Kd.R_base ho0) hb; have n3_ := Aside0.mk (Kd.R_lower (Kd.R_new' (Kd.R_new' (Kd.R_new' ho0 (Kd.R_lt (Ru HO906))) (Kd.R_lt (Ru HO910))) (Kd.R_lt (Ru HO914))) (below_size (by repeat (first | (with_reducible first | exact HB.out | apply below_alloc | apply pw_below_drewN | apply below_drew1 | refine below_set ?_ GE897.out) | exact HB.out)))); have n4_ := Aside0.mk (blk_below (g := gb897) (o := .cells #[.slice A2_0 l2_0.length c2_0, .slice A2_1 l2_1.length c2_1] 42 (0, 0)) (by (with_reducible repeat (first | refine blk_drewN ?_ _ | refine blk_drew ?_ | refine blk_alloc ?_ _)); exact BK897.out) hb); have n5_ := Aside0.mk (below_step (by repeat (first | (with_reducible first | exact HB.out | apply below_alloc | apply pw_below_drewN | apply below_drew1 | refine below_set ?_ GE897.out) | exact HB.out)) hb); clear HO906; clear HO910; clear HO914; clear BK897; clear HB; have HO906 := n0_; have HO910 := n1_; have HO914 := n2_; have HO918 := n3_; have BK897 := n4_; have HB := n5_; clear n0_ n1_ n2_ n3_ n4_ n5_; (try clear hb); (try clear hb2); (try clear hk); (try clear hi); (try clear ho0); obtain ⟨Ao47, co47, eo47⟩ := Kd.R_slice HO910.out; subst eo47; obtain ⟨Ao48, co48, eo48⟩ := Kd.R_slice HO914.out; subst eo48) | ((with_reducible refine gate_callee (f := 23) rfl ?_); refine goesA (some 85) Tryd.func23 #[.slice Ao47 t907.length co47, .slice Ao48 t911.length co48] rfl ?_; (with_reducible refine (nat_Mul.calls kj3 _ _ t907 _ _ t911 t919 t920 _ ?side1 ?side2 ?side3 ?side4 A31.out).mono ?_); (case side1 => exact Cu (Kd.R_reads' HO910.out).2.2); (case side2 => exact (Kd.R_reads' HO910.out).2.1); (case side3 => exact Cu (Kd.R_reads' HO914.out).2.2); (case side4 => exact (Kd.R_reads' HO914.out).2.1); rintro e w49 ⟨v921, rfl, ho0, hb⟩; refine ⟨_, rfl, ?_⟩; have n0_ := Re HO906 (Kd.R_base ho0) hb; have n1_ := Re HO910 (Kd.R_base ho0) hb; have n2_ := Re HO914 (Kd.R_base ho0) hb; have n3_ := Re HO918 (Kd.R_base ho0) hb; have n4_ := Aside0.mk (Kd.R_lower (Kd.R_new' (Kd.R_new' (Kd.R_new' (Kd.R_new' ho0 (Kd.R_lt (Ru HO906))) (Kd.R_lt (Ru HO910))) (Kd.R_lt (Ru HO914))) (Kd.R_lt (Ru HO918))) (below_size (by repeat (first | (with_reducible first | exact HB.out | apply below_alloc | apply pw_below_drewN | apply below_drew1 | refine below_set ?_ GE897.out) | exact HB.out)))); have n5_ := Aside0.mk (blk_below (g := gb897) (o := .cells #[.slice A2_0 l2_0.length c2_0, .slice A2_1 l2_1.length c2_1] 42 (0, 0)) (by (with_reducible repeat (first | refine blk_drewN ?_ _ | refine blk_drew ?_ | refine blk_alloc ?_ _)); exact BK897.out) hb); have n6_ := Aside0.mk (below_step (by repeat (first | (with_reducible first | exact HB.out | apply below_alloc | apply pw_below_drewN | apply below_drew1 | refine below_set ?_ GE897.out) | exact HB.out)) hb); clear HO906; clear HO910; clear HO914; clear HO918; clear BK897; clear HB; have HO906 := n0_; have HO910 := n1_; have HO914 := n2_; have HO918 := n3_; have HO922 := n4_; have BK897 := n5_; have HB := n6_; clear n0_ n1_ n2_ n3_ n4_ n5_ n6_; (try clear hb); (try clear hb2); (try clear hk); (try clear hi); (try clear ho0); obtain ⟨Ao50, co50, eo50⟩ := Kd.R_slice HO922.out; subst eo50) | ((with_reducible refine gate_callee (f := 13) rfl ?_); refine goesA (some 91) Tryd.func13 #[.slice Ao50 t919.length co50, .slice A1 l1.length c1] rfl ?_; (with_reducible refine (nat_Div.calls kj3 (fun k_ => some k_ = (.slice Ao50 t919.length co50 : Value).ownBlock) _ _ t919 (fun k_ => k_ < w.heap.size) _ _ l1 t923 t926 t929 _ ?side1 ?side2 A32.out).mono ?_); (case side1 => exact Kd.R_V (Kd.R_tight rfl (Kd.R_types (HO922.out) BK897.out (by decide)))); (case side2 => exact Kd.V_mk HC1.out (Kd.F_below (Kd.C_F (Kd.heap_int .u8) HR1.out) (by repeat (first | (with_reducible first | exact HB.out | apply below_alloc | apply pw_below_drewN | apply below_drew1 | refine below_set ?_ GE897.out) | exact HB.out)))); rintro e w51 ⟨v924, v927, rfl, ho0, ho1, hb⟩; refine ⟨_, rfl, ?_⟩; have n0_ := Aside0.mk (Kd.R_mono (Kd.R_told (Kd.R_told (Kd.R_old (Ru HO906) hb) (Kd.R_base ho0)) (Kd.R_base ho1)) (fun _ h_ => h_.1)); have n1_ := Aside0.mk (Kd.R_mono (Kd.R_told (Kd.R_told (Kd.R_old (Ru HO910) hb) (Kd.R_base ho0)) (Kd.R_base ho1)) (fun _ h_ => h_.1)); have n2_ := Aside0.mk (Kd.R_mono (Kd.R_told (Kd.R_told (Kd.R_old (Ru HO914) hb) (Kd.R_base ho0)) (Kd.R_base ho1)) (fun _ h_ => h_.1)); have n3_ := Aside0.mk (Kd.R_mono (Kd.R_told (Kd.R_told (Kd.R_old (Ru HO918) hb) (Kd.R_base ho0)) (Kd.R_base ho1)) (fun _ h_ => h_.1)); have n4_ := Aside0.mk (Kd.R_mono (Kd.R_told (Kd.R_told (Kd.R_old (Ru HO922) hb) (Kd.R_base ho0)) (Kd.R_base ho1)) (fun _ h_ => h_.1)); have n5_ := Aside0.mk (Kd.R_lower (Kd.R_new' (Kd.R_new' (Kd.R_new' (Kd.R_new' (Kd.R_new' (Kd.R_mono (ok' := fun k_ => some k_ ≠ (v927 : Value).ownBlock) ho0 (fun _ hk_ => hk_.2)) (Kd.R_lt (Ru HO906))) (Kd.R_lt (Ru HO910))) (Kd.R_lt (Ru HO914))) (Kd.R_lt (Ru HO918))) (Kd.R_lt (Ru HO922))) (below_size (by repeat (first | (with_reducible first | exact HB.out | apply below_alloc | apply pw_below_drewN | apply below_drew1 | refine below_set ?_ GE897.out) | exact HB.out)))); have n6_ := Aside0.mk (Kd.R_lower (Kd.R_new' (Kd.R_new' (Kd.R_new' (Kd.R_new' (Kd.R_new' (Kd.R_mono (ok' := fun k_ => some k_ ≠ (v924 : Value).ownBlock) ho1 (fun _ hk_ => hk_.2)) (Kd.R_lt (Ru HO906))) (Kd.R_lt (Ru HO910))) (Kd.R_lt (Ru HO914))) (Kd.R_lt (Ru HO918))) (Kd.R_lt (Ru HO922))) (below_size (by repeat (first | (with_reducible first | exact HB.out | apply below_alloc | apply pw_below_drewN | apply below_drew1 | refine below_set ?_ GE897.out) | exact HB.out)))); have n7_ := Aside0.mk (blk_below (g := gb897) (o := .cells #[.slice A2_0 l2_0.length c2_0, .slice A2_1 l2_1.length c2_1] 42 (0, 0)) (by (with_reducible repeat (first | refine blk_drewN ?_ _ | refine blk_drew ?_ | refine blk_alloc ?_ _)); exact BK897.out) hb); have n8_ := Aside0.mk (below_step (by repeat (first | (with_reducible first | exact HB.out | apply below_alloc | apply pw_below_drewN | apply below_drew1 | refine below_set ?_ GE897.out) | exact HB.out)) hb); clear HO906; clear HO910; clear HO914; clear HO918; clear HO922; clear BK897; clear HB; have HO906 := n0_; have HO910 := n1_; have HO914 := n2_; have HO918 := n3_; have HO922 := n4_; have HO925 := n5_; have HO928 := n6_; have BK897 := n7_; have HB := n8_; clear n0_ n1_ n2_ n3_ n4_ n5_ n6_ n7_ n8_; (try clear hb); (try clear hb2); (try clear hk); (try clear hi); (try clear ho0); (try clear ho1); have hcv52 := own_string (P := Tryd.prog) Tryd.underlying22 Tryd.underlying5 Tryd.underlying9 (Kd.own_of_R HO928.out); have hcv53 := fun n_ : Nat => own_string (P := Tryd.prog) Tryd.underlying22 Tryd.underlying5 Tryd.underlying9 (Kd.own_of_R (Kd.R_drewN HO928.out n_)); have hcv54 := own_string (P := Tryd.prog) Tryd.underlying22 Tryd.underlying5 Tryd.underlying9 (Kd.own_of_R HO918.out); have hcv55 := fun n_ : Nat => own_string (P := Tryd.prog) Tryd.underlying22 Tryd.underlying5 Tryd.underlying9 (Kd.own_of_R (Kd.R_drewN HO918.out n_)); obtain ⟨Ao56, co56, eo56⟩ := Kd.R_slice HO918.out; subst eo56) | (go_at_call 24; (with_reducible refine (nat_Cmp.calls kj3 _ _ t915 _ _ l1 t930 _ ?side1 ?side2 ?side3 ?side4 A38.out).mono ?_); (case side1 => exact Cu (Kd.R_reads' HO918.out).2.2); (case side2 => exact (Kd.R_reads' HO918.out).2.1); (case side3 => exact Cu (Kd.C_below HR1.out HB.out)); (case side4 => exact HC1.out); rintro e w57 ⟨rfl, hb⟩; have n0_ := Rb HO906 hb; have n1_ := Rb HO910 hb; have n2_ := Rb HO914 hb; have n3_ := Rb HO918 hb; have n4_ := Rb HO922 hb; have n5_ := Rb HO925 hb; have n6_ := Rb HO928 hb; have n7_ := Aside0.mk (blk_below (g := gb897) (o := .cells #[.slice A2_0 l2_0.length c2_0, .slice A2_1 l2_1.length c2_1] 42 (0, 0)) (by (with_reducible repeat (first | refine blk_drewN ?_ _ | refine blk_drew ?_ | refine blk_alloc ?_ _)); exact BK897.out) hb); have n8_ := Aside0.mk (below_step (by repeat (first | (with_reducible first | exact HB.out | apply below_alloc | apply pw_below_drewN | apply below_drew1 | refine below_set ?_ GE897.out) | exact HB.out)) hb); clear HO906; clear HO910; clear HO914; clear HO918; clear HO922; clear HO925; clear HO928; clear BK897; clear HB; have HO906 := n0_; have HO910 := n1_; have HO914 := n2_; have HO918 := n3_; have HO922 := n4_; have HO925 := n5_; have HO928 := n6_; have BK897 := n7_; have HB := n8_; clear n0_ n1_ n2_ n3_ n4_ n5_ n6_ n7_ n8_; (try clear hb); (try clear hb2); (try clear hk); (try clear hi)))
         go_ret
         exact ⟨rfl_, by repeat (first | (with_reducible first | exact HB.out | apply below_alloc | apply pw_below_drewN | apply below_drew1 | refine below_set ?_ GE897.out) | exact HB.out)⟩
        ·rw [if_neg c37] at H
         have c37b0 : ((strOfNums t926).toList == (strOfNums t915).toList) = false := beq_eq_false_iff_ne.mpr c37
         have c37b1 : ((strOfNums t926).toList != (strOfNums t915).toList) = true := bne_iff_ne.mpr c37
         exact absurd (Option.some.inj H) (by rw [HR_.out]; decide)
       ·rw [if_neg c36] at H
        have c36b0 : (t929 == 0) = false := beq_eq_false_iff_ne.mpr c36
        have c36b1 : (t929 != 0) = true := bne_iff_ne.mpr c36
        exact absurd (Option.some.inj H) (by rw [HR_.out]; decide)
      ·rw [if_neg c35] at H
       have c35b0 : (t916 == 0) = false := beq_eq_false_iff_ne.mpr c35
       have c35b1 : (t916 != 0) = true := bne_iff_ne.mpr c35
       exact absurd (Option.some.inj H) (by rw [HR_.out]; decide)
     ·rw [if_neg c34] at H
      have c34b0 : (t912 == 0) = false := beq_eq_false_iff_ne.mpr c34
      have c34b1 : (t912 != 0) = true := bne_iff_ne.mpr c34
      exact absurd (Option.some.inj H) (by rw [HR_.out]; decide)
    ·rw [if_neg c33] at H
     have c33b0 : (t908 == 0) = false := beq_eq_false_iff_ne.mpr c33
     have c33b1 : (t908 != 0) = true := bne_iff_ne.mpr c33
     exact absurd (Option.some.inj H) (by rw [HR_.out]; decide)
/-- THE ONE PURE STATEMENT of lanyardlaw06_NatAdds: yours. -/
def lanyardlaw06_NatAdds.Pure : Prop := ∀ (l0 : List Int) (l1 : List Int) (l2_0 : List Int) (l2_1 : List Int), l0.length ≤ maxLen → l0.length * 1 ≤ 140737488351232 → (∀ x ∈ l0, (Lit.int .u8 x).wf = true) → l1.length ≤ maxLen → l1.length * 1 ≤ 140737488351232 → (∀ x ∈ l1, (Lit.int .u8 x).wf = true) → l2_0.length ≤ maxLen → (∀ x ∈ l2_0, (Lit.int .u8 x).wf = true) → l2_1.length ≤ maxLen → (∀ x ∈ l2_1, (Lit.int .u8 x).wf = true) → ∃ k, lanyardlaw06_NatAdds.f k l0 l1 l2_0 l2_1 = some true
theorem lanyardlaw06_NatAdds.walk (P : lanyardlaw06_NatAdds.Pure) (a0 : Option Addr) (len0 cap0 : Nat) (z0 : List Int) (a1 : Option Addr) (len1 cap1 : Nat) (z1 : List Int) (A2_0 : Option Addr) (c2_0 : Nat) (l2_0 : List Int) (A2_1 : Option Addr) (c2_1 : Nat) (l2_1 : List Int) (w : World) (w0 : (a0 = none ∧ len0 = 0 ∧ cap0 = 0 ∧ z0 = []) ∨ ∃ x, a0 = some x ∧ len0 ≤ cap0 ∧ cap0 ≤ maxLen ∧ z0.length = cap0 ∧ (∀ i, i < z0.length → w.cell? (x.add i) = some (.int .u8 (z0.getD i 0))) ∧ ∀ n ∈ z0, (Lit.int .u8 n).wf = true) (y0 : len0 * 1 ≤ 140737488351232) (w1 : (a1 = none ∧ len1 = 0 ∧ cap1 = 0 ∧ z1 = []) ∨ ∃ x, a1 = some x ∧ len1 ≤ cap1 ∧ cap1 ≤ maxLen ∧ z1.length = cap1 ∧ (∀ i, i < z1.length → w.cell? (x.add i) = some (.int .u8 (z1.getD i 0))) ∧ ∀ n ∈ z1, (Lit.int .u8 n).wf = true) (y1 : len1 * 1 ≤ 140737488351232) (w2_0 : Kd.C (Kd.int .u8) w A2_0 l2_0.length l2_0) (y2_0 : l2_0.length ≤ c2_0) (m2_0 : l2_0.length ≤ maxLen) (g2_0 : ∀ x ∈ l2_0, (Lit.int .u8 x).wf = true) (w2_1 : Kd.C (Kd.int .u8) w A2_1 l2_1.length l2_1) (y2_1 : l2_1.length ≤ c2_1) (m2_1 : l2_1.length ≤ maxLen) (g2_1 : ∀ x ∈ l2_1, (Lit.int .u8 x).wf = true) :
  Calls Tryd.prog 7 #[.slice a0 len0 cap0, .slice a1 len1 cap1, .agg #[.slice A2_0 l2_0.length c2_0, .slice A2_1 l2_1.length c2_1]] w fun e w' => e = .returned (.bool true) ∧ Below w.heap.size w w' := by
 obtain ⟨l0, rfl, hr0, hm0, hw0, hc0⟩ := ReadsInt.ofRowC w0
 obtain ⟨l1, rfl, hr1, hm1, hw1, hc1⟩ := ReadsInt.ofRowC w1
 obtain ⟨k, h⟩ := P l0 l1 l2_0 l2_1 hm0 y0 hw0 hm1 y1 hw1 m2_0 g2_0 m2_1 g2_1
 refine (lanyardlaw06_NatAdds.calls k _ _ l0 _ _ l1 _ _ l2_0 _ _ l2_1 true w (Kd.C_of_reads (d := (0 : Int)) (h1 := fun _ => rfl) hr0) hc0 (Kd.C_of_reads (d := (0 : Int)) (h1 := fun _ => rfl) hr1) hc1 w2_0 y2_0 w2_1 y2_1 h).mono ?_
 rintro e w' ⟨rfl, hd⟩
 exact ⟨rfl, hd⟩

end Go.Proofs.YtcofpbndaljppaaDoor.Hp
