/- Go functions of this seat as Lean functions, and their contracts: what the Go code computes, for every input. (By hp.py, a program of this repo, over the kit's print.py.) -/
import Derived.Test.YtcikjghmelbkaaaDoorHp0
import Derived.Test.YtcikjghmelbkaaaDoorHp6
import Derived.Test.YtcikjghmelbkaaaDoorHp7
namespace Go.Proofs.YtcikjghmelbkaaaDoor.Hp
open Go.RowKit Go.Proofs.YtcikjghmelbkaaaDoorW.PrintWords Go.Proofs.YtcikjghmelbkaaaDoorW.PrintLast Go.Proofs.YtcikjghmelbkaaaDoorW.PrintMore
attribute [local go_sem] max2_int min2_int max_two min_two max_three min_three max_four min_four   -- for this text's walks alone
set_option linter.unusedVariables false
set_option linter.unusedSimpArgs false

/-! ### lanyardlaw10_MomentAdds: function 7 -/
mutual
def lanyardlaw10_MomentAdds.j0 : Nat → Int → Int → Int → Int → Bool → Int → Int → Int → Option (Bool)
 | 0, _, _, _, _, _, _, _, _ => none
 | k + 1, x0, x1, x7, x8, x9, x219000, x219001, x219002 => if x9 = true then (if x8 = 0 then (if x7 = (wrap64 (x0 + x1)) then (lanyardlaw10_MomentAdds.j1 k x0 false x219000 x219001 x219002) else (lanyardlaw10_MomentAdds.j1 k x0 true x219000 x219001 x219002)) else (lanyardlaw10_MomentAdds.j1 k x0 true x219000 x219001 x219002)) else (if x8 = 21 then (lanyardlaw10_MomentAdds.j1 k x0 (x7 != 0) x219000 x219001 x219002) else (lanyardlaw10_MomentAdds.j1 k x0 true x219000 x219001 x219002))
def lanyardlaw10_MomentAdds.j1 : Nat → Int → Bool → Int → Int → Int → Option (Bool)
 | 0, _, _, _, _, _ => none
 | k + 1, x0, x58, x219000, x219001, x219002 => if x58 = true then (some false) else ((moment_Within.f x0 x219000 x219001 x219002).bind fun t225 => ((lanyardref10_Is.f x0).bind fun t226 => (if t226 = true then ((lanyardref10_Is.f x219000).bind fun t227 => (if t227 = true then ((lanyardref10_Is.f x219001).bind fun t228 => (if t228 = true then (if x219002 < 0 then (some (!t225)) else (if x219002 > 86400000 then (some (!t225)) else (if x0 ≥ (wrap64 (x219000 - x219002)) then (some (t225 == (decide (x0 < (wrap64 (x219001 + x219002)))))) else (some (t225 == false))))) else (some (!t225)))) else (some (!t225)))) else (some (!t225)))))
end
def lanyardlaw10_MomentAdds.f (k : Nat) (a0 : Int) (a1 : Int) (a2_0 : Int) (a2_1 : Int) (a2_2 : Int) : Option (Bool) := (lanyardlaw10_awake.f k).bind fun t219 => (if t219 = true then ((moment_Add.f a0 a1).bind fun bt220 => ((lanyardref10_Is.f a0).bind fun t222 => (if t222 = true then ((lanyardref10_First.f).bind fun t223 => (if a1 ≥ (wrap64 (t223 - a0)) then ((lanyardref10_Last.f).bind fun t224 => (lanyardlaw10_MomentAdds.j0 k a0 a1 bt220.1 bt220.2 (decide (a1 ≤ (wrap64 (t224 - a0)))) a2_0 a2_1 a2_2)) else (lanyardlaw10_MomentAdds.j0 k a0 a1 bt220.1 bt220.2 false a2_0 a2_1 a2_2))) else (lanyardlaw10_MomentAdds.j0 k a0 a1 bt220.1 bt220.2 false a2_0 a2_1 a2_2)))) else (some false))
theorem lanyardlaw10_MomentAdds.mono_l : ∀ k, (∀ y0 y1 y2 y3 y4 y5 y6 y7, LeO (lanyardlaw10_MomentAdds.j0 k y0 y1 y2 y3 y4 y5 y6 y7) (lanyardlaw10_MomentAdds.j0 (k + 1) y0 y1 y2 y3 y4 y5 y6 y7)) ∧ (∀ y0 y1 y2 y3 y4, LeO (lanyardlaw10_MomentAdds.j1 k y0 y1 y2 y3 y4) (lanyardlaw10_MomentAdds.j1 (k + 1) y0 y1 y2 y3 y4))
 | 0 => ⟨fun _ _ _ _ _ _ _ _ r h => by simp [lanyardlaw10_MomentAdds.j0] at h, fun _ _ _ _ _ r h => by simp [lanyardlaw10_MomentAdds.j1] at h⟩
 | k + 1 => by
  obtain ⟨ih0, ih1⟩ := lanyardlaw10_MomentAdds.mono_l k
  refine ⟨?_, ?_⟩
  ·intro y0 y1 y2 y3 y4 y5 y6 y7
   unfold lanyardlaw10_MomentAdds.j0
   repeat' first
   | (with_reducible exact ih0 _ _ _ _ _ _ _ _)
   | (with_reducible exact ih1 _ _ _ _ _)
   | (with_reducible exact lanyardlaw10_awake.mono _)
   | (with_reducible exact LeO.refl _)
   | (with_reducible exact LeO.none _)
   | (with_reducible refine LeO.ite ?_ ?_)
   | (with_reducible refine LeO.bind ?_ (fun _ => ?_))
   | exact ih0 _ _ _ _ _ _ _ _
   | exact ih1 _ _ _ _ _
   | exact lanyardlaw10_awake.mono _
   | exact LeO.none _
   | refine LeO.ite ?_ ?_
   | refine LeO.bind ?_ (fun _ => ?_)
  ·intro y0 y1 y2 y3 y4
   unfold lanyardlaw10_MomentAdds.j1
   repeat' first
   | (with_reducible exact ih0 _ _ _ _ _ _ _ _)
   | (with_reducible exact ih1 _ _ _ _ _)
   | (with_reducible exact lanyardlaw10_awake.mono _)
   | (with_reducible exact LeO.refl _)
   | (with_reducible exact LeO.none _)
   | (with_reducible refine LeO.ite ?_ ?_)
   | (with_reducible refine LeO.bind ?_ (fun _ => ?_))
   | exact ih0 _ _ _ _ _ _ _ _
   | exact ih1 _ _ _ _ _
   | exact lanyardlaw10_awake.mono _
   | exact LeO.none _
   | refine LeO.ite ?_ ?_
   | refine LeO.bind ?_ (fun _ => ?_)
theorem lanyardlaw10_MomentAdds.mono : ∀ a0 a1 a2 a3 a4 k, LeO (lanyardlaw10_MomentAdds.f k a0 a1 a2 a3 a4) (lanyardlaw10_MomentAdds.f (k + 1) a0 a1 a2 a3 a4) := by
 intro a0 a1 a2 a3 a4 k
 obtain ⟨ih0, ih1⟩ := lanyardlaw10_MomentAdds.mono_l k
 unfold lanyardlaw10_MomentAdds.f
 repeat' first
   | (with_reducible exact ih0 _ _ _ _ _ _ _ _)
   | (with_reducible exact ih1 _ _ _ _ _)
   | (with_reducible exact lanyardlaw10_awake.mono _)
   | (with_reducible exact LeO.refl _)
   | (with_reducible exact LeO.none _)
   | (with_reducible refine LeO.ite ?_ ?_)
   | (with_reducible refine LeO.bind ?_ (fun _ => ?_))
   | exact ih0 _ _ _ _ _ _ _ _
   | exact ih1 _ _ _ _ _
   | exact lanyardlaw10_awake.mono _
   | exact LeO.none _
   | refine LeO.ite ?_ ?_
   | refine LeO.bind ?_ (fun _ => ?_)
set_option maxHeartbeats 8000000 in
set_option maxRecDepth 100000 in
theorem lanyardlaw10_MomentAdds.calls (k : Nat) (a0 : Int) (a1 : Int) (a2_0 : Int) (a2_1 : Int) (a2_2 : Int) (r : Bool) (w : World) (hU : Uni w) (h : lanyardlaw10_MomentAdds.f k a0 a1 a2_0 a2_1 a2_2 = some r) (hr_ : r = true := by rfl) :
  Calls Tryd.prog 7 #[.int .i64 a0, .int .i64 a1, .agg #[.int .i64 a2_0, .int .i64 a2_1, .int .i64 a2_2]] w fun e w' => e = .returned (.bool r) ∧ Below w.heap.size w w' := by
 have HU := Aside0.mk hU
 clear hU
 have HR_ := Aside0.mk hr_
 clear hr_
 have hu26 := Tryd.underlying26
 have HB := Aside0.mk (Below.refl w.heap.size w)
 have H : ((lanyardlaw10_awake.f k).bind fun t219 => (if t219 = true then ((moment_Add.f a0 a1).bind fun bt220 => ((lanyardref10_Is.f a0).bind fun t222 => (if t222 = true then ((lanyardref10_First.f).bind fun t223 => (if a1 ≥ (wrap64 (t223 - a0)) then ((lanyardref10_Last.f).bind fun t224 => (lanyardlaw10_MomentAdds.j0 k a0 a1 bt220.1 bt220.2 (decide (a1 ≤ (wrap64 (t224 - a0)))) a2_0 a2_1 a2_2)) else (lanyardlaw10_MomentAdds.j0 k a0 a1 bt220.1 bt220.2 false a2_0 a2_1 a2_2))) else (lanyardlaw10_MomentAdds.j0 k a0 a1 bt220.1 bt220.2 false a2_0 a2_1 a2_2)))) else (some false))) = some r := h
 clear h
 replace H := Option.bind_eq_some_iff.mp H
 obtain ⟨t219, A40, H⟩ := H
 replace H : (if t219 = true then ((moment_Add.f a0 a1).bind fun bt220 => ((lanyardref10_Is.f a0).bind fun t222 => (if t222 = true then ((lanyardref10_First.f).bind fun t223 => (if a1 ≥ (wrap64 (t223 - a0)) then ((lanyardref10_Last.f).bind fun t224 => (lanyardlaw10_MomentAdds.j0 k a0 a1 bt220.1 bt220.2 (decide (a1 ≤ (wrap64 (t224 - a0)))) a2_0 a2_1 a2_2)) else (lanyardlaw10_MomentAdds.j0 k a0 a1 bt220.1 bt220.2 false a2_0 a2_1 a2_2))) else (lanyardlaw10_MomentAdds.j0 k a0 a1 bt220.1 bt220.2 false a2_0 a2_1 a2_2)))) else (some false)) = some r := H
 have A4 := Aside0.mk A40
 clear A40
 by_cases c5 : t219 = true
 ·subst c5
  have H1 : ((moment_Add.f a0 a1).bind fun bt220 => ((lanyardref10_Is.f a0).bind fun t222 => (if t222 = true then ((lanyardref10_First.f).bind fun t223 => (if a1 ≥ (wrap64 (t223 - a0)) then ((lanyardref10_Last.f).bind fun t224 => (lanyardlaw10_MomentAdds.j0 k a0 a1 bt220.1 bt220.2 (decide (a1 ≤ (wrap64 (t224 - a0)))) a2_0 a2_1 a2_2)) else (lanyardlaw10_MomentAdds.j0 k a0 a1 bt220.1 bt220.2 false a2_0 a2_1 a2_2))) else (lanyardlaw10_MomentAdds.j0 k a0 a1 bt220.1 bt220.2 false a2_0 a2_1 a2_2)))) = some r := by rw [if_pos rfl] at H; exact H
  clear H
  have H := H1
  clear H1
  replace H := Option.bind_eq_some_iff.mp H
  obtain ⟨⟨t220, t221⟩, A60, H⟩ := H
  replace H : ((lanyardref10_Is.f a0).bind fun t222 => (if t222 = true then ((lanyardref10_First.f).bind fun t223 => (if a1 ≥ (wrap64 (t223 - a0)) then ((lanyardref10_Last.f).bind fun t224 => (lanyardlaw10_MomentAdds.j0 k a0 a1 t220 t221 (decide (a1 ≤ (wrap64 (t224 - a0)))) a2_0 a2_1 a2_2)) else (lanyardlaw10_MomentAdds.j0 k a0 a1 t220 t221 false a2_0 a2_1 a2_2))) else (lanyardlaw10_MomentAdds.j0 k a0 a1 t220 t221 false a2_0 a2_1 a2_2))) = some r := H
  have A6 := Aside0.mk A60
  clear A60
  have HC7 := Aside0.mk H
  clear H
  go_enter Tryd.func7, Tryd.ntmps7
  go_upto_region 4 with (first | ((with_reducible refine gate_dst (N := 5) rfl ?_); refine box_event ?hg (N := 5) ?hd (cs := #[.int .i64 a2_0, .int .i64 a2_1, .int .i64 a2_2]) (t := 26) ?hr ?_; (case hd => rfl); (case hg => rfl); (case hr => first | (go_simp; done) | (go_simp; rfl)); intro gb218 hg w8 hbox hb; have n0_ := Bs HB hb; have n1_ := Aside0.mk (hbox); have n2_ := Aside0.mk ((by rw [hg]; exact (Bz HB) : w.heap.size ≤ gb218)); have n3_ := Aside0.mk ((by rw [hg]; exact (Bz HB) : w.heap.size ≤ gb218)); clear HB; have HB := n0_; have BK218 := n1_; have GW218 := n2_; have GE218 := n3_; clear n0_ n1_ n2_ n3_; clear hb hbox hg) | ((with_reducible refine gate_callee (f := 8) rfl ?_); refine goesA (some 11) Tryd.func8 #[] rfl ?_; (with_reducible refine (lanyardlaw10_awake.calls k  true _ ?sideU A4.out).mono ?_); (case sideU => first | exact HU.out | exact Uni.up HU (Bu HB) | exact Uni.below HU.out (by assumption)); rintro e w9 ⟨rfl, hb⟩; refine ⟨_, rfl, ?_⟩; have n0_ := Aside0.mk (blk_below (g := gb218) (o := .cells #[.int .i64 a2_0, .int .i64 a2_1, .int .i64 a2_2] 26 (0, 0)) (by (with_reducible repeat (first | refine blk_drewN ?_ _ | refine blk_drew ?_ | refine blk_alloc ?_ _)); exact BK218.out) hb); have n1_ := Aside0.mk (below_step (by repeat (first | (with_reducible first | exact HB.out | apply below_alloc | apply pw_below_drewN | apply below_drew1 | refine below_set ?_ GE218.out) | exact HB.out)) hb); clear BK218; clear HB; have BK218 := n0_; have HB := n1_; clear n0_ n1_; (try clear hb); (try clear hb2); (try clear hk); (try clear hi)) | ((with_reducible refine gate_callee (f := 18) rfl ?_); refine goesA (some 16) Tryd.func18 #[.int .i64 a0, .int .i64 a1] rfl ?_; (with_reducible refine (moment_Add.calls a0 a1 t220 t221 _ A6.out).mono ?_); rintro e w' ⟨rfl, ⟨nd, rfl⟩⟩; refine ⟨_, rfl, ?_⟩))
  (try simp only [Act.put, List.setIfInBounds_toArray, List.set_cons_zero, List.set_cons_succ])
  go_cut [9] (fun v9 wc => ∃ (kq : Nat) (x9_6 : Bool), v9 = .bool x9_6 ∧ Aside0 (lanyardlaw10_MomentAdds.j0 kq a0 a1 t220 t221 x9_6 a2_0 a2_1 a2_2 = some r) ∧ Aside0 (kq ≤ k) ∧ Aside0 (wc.heap[gb218]? = some (.cells #[.int .i64 a2_0, .int .i64 a2_1, .int .i64 a2_2] 26 (0, 0))) ∧ Aside0 (Below w.heap.size w wc))
  case first =>
   have H := HC7.out
   clear HC7
   replace H := Option.bind_eq_some_iff.mp H
   obtain ⟨t222, A100, H⟩ := H
   replace H : (if t222 = true then ((lanyardref10_First.f).bind fun t223 => (if a1 ≥ (wrap64 (t223 - a0)) then ((lanyardref10_Last.f).bind fun t224 => (lanyardlaw10_MomentAdds.j0 k a0 a1 t220 t221 (decide (a1 ≤ (wrap64 (t224 - a0)))) a2_0 a2_1 a2_2)) else (lanyardlaw10_MomentAdds.j0 k a0 a1 t220 t221 false a2_0 a2_1 a2_2))) else (lanyardlaw10_MomentAdds.j0 k a0 a1 t220 t221 false a2_0 a2_1 a2_2)) = some r := H
   have A10 := Aside0.mk A100
   clear A100
   by_cases c11 : t222 = true
   ·subst c11
    have H1 : ((lanyardref10_First.f).bind fun t223 => (if a1 ≥ (wrap64 (t223 - a0)) then ((lanyardref10_Last.f).bind fun t224 => (lanyardlaw10_MomentAdds.j0 k a0 a1 t220 t221 (decide (a1 ≤ (wrap64 (t224 - a0)))) a2_0 a2_1 a2_2)) else (lanyardlaw10_MomentAdds.j0 k a0 a1 t220 t221 false a2_0 a2_1 a2_2))) = some r := by rw [if_pos rfl] at H; exact H
    clear H
    have H := H1
    clear H1
    replace H := Option.bind_eq_some_iff.mp H
    obtain ⟨t223, A120, H⟩ := H
    replace H : (if a1 ≥ (wrap64 (t223 - a0)) then ((lanyardref10_Last.f).bind fun t224 => (lanyardlaw10_MomentAdds.j0 k a0 a1 t220 t221 (decide (a1 ≤ (wrap64 (t224 - a0)))) a2_0 a2_1 a2_2)) else (lanyardlaw10_MomentAdds.j0 k a0 a1 t220 t221 false a2_0 a2_1 a2_2)) = some r := H
    have A12 := Aside0.mk A120
    clear A120
    by_cases c13 : a1 ≥ (wrap64 (t223 - a0))
    ·rw [if_pos c13] at H
     have c13b0 : decide ((wrap64 (t223 - a0)) ≤ a1) = true := decide_eq_true c13
     clear c13
     (first | rw [c13b0] | (simp only [i64_w, i32_w]; rw [c13b0]) | skip)
     replace H := Option.bind_eq_some_iff.mp H
     obtain ⟨t224, A140, H⟩ := H
     replace H : (lanyardlaw10_MomentAdds.j0 k a0 a1 t220 t221 (decide (a1 ≤ (wrap64 (t224 - a0)))) a2_0 a2_1 a2_2) = some r := H
     have A14 := Aside0.mk A140
     clear A140
     have H' := Aside0.mk H
     clear H
     go_wp2_with (first | ((with_reducible refine gate_callee (f := 11) rfl ?_); refine goesA (some 20) Tryd.func11 #[.int .i64 a0] rfl ?_; (with_reducible refine (lanyardref10_Is.calls a0 true _ A10.out).mono ?_); rintro e w' ⟨rfl, ⟨nd, rfl⟩⟩; refine ⟨_, rfl, ?_⟩) | (go_at_call 19; (with_reducible refine (lanyardref10_First.calls  t223 _ A12.out).mono ?_); rintro e w' ⟨rfl, ⟨nd, rfl⟩⟩) | (go_at_call 20; (with_reducible refine (lanyardref10_Last.calls  t224 _ A14.out).mono ?_); rintro e w' ⟨rfl, ⟨nd, rfl⟩⟩))
     go_meet
     case rel => exact ⟨_, (decide (a1 ≤ (wrap64 (t224 - a0)))), (by first | rfl | (simp; done) | (simp [*]; done)), H', ⟨by first | omega | exact Nat.le_refl _⟩, ⟨by (with_reducible repeat (first | refine blk_drewN ?_ _ | refine blk_drew ?_ | refine blk_alloc ?_ _)); exact BK218.out⟩, ⟨by repeat (first | (with_reducible first | exact HB.out | apply below_alloc | apply pw_below_drewN | apply below_drew1 | refine below_set ?_ GE218.out) | exact HB.out)⟩⟩
    ·rw [if_neg c13] at H
     have c13b0 : decide ((wrap64 (t223 - a0)) ≤ a1) = false := decide_eq_false c13
     clear c13
     (first | rw [c13b0] | (simp only [i64_w, i32_w]; rw [c13b0]) | skip)
     have H' := Aside0.mk H
     clear H
     go_wp2_with (first | ((with_reducible refine gate_callee (f := 11) rfl ?_); refine goesA (some 20) Tryd.func11 #[.int .i64 a0] rfl ?_; (with_reducible refine (lanyardref10_Is.calls a0 true _ A10.out).mono ?_); rintro e w' ⟨rfl, ⟨nd, rfl⟩⟩; refine ⟨_, rfl, ?_⟩) | (go_at_call 19; (with_reducible refine (lanyardref10_First.calls  t223 _ A12.out).mono ?_); rintro e w' ⟨rfl, ⟨nd, rfl⟩⟩))
     go_meet
     case rel => exact ⟨_, (false), (by first | rfl | (simp; done) | (simp [*]; done)), H', ⟨by first | omega | exact Nat.le_refl _⟩, ⟨by (with_reducible repeat (first | refine blk_drewN ?_ _ | refine blk_drew ?_ | refine blk_alloc ?_ _)); exact BK218.out⟩, ⟨by repeat (first | (with_reducible first | exact HB.out | apply below_alloc | apply pw_below_drewN | apply below_drew1 | refine below_set ?_ GE218.out) | exact HB.out)⟩⟩
   ·replace c11 := Bool.eq_false_iff.mpr c11
    subst c11
    have H1 : (lanyardlaw10_MomentAdds.j0 k a0 a1 t220 t221 false a2_0 a2_1 a2_2) = some r := by rw [if_neg (show ¬ (false = true) by decide)] at H; exact H
    clear H
    have H := H1
    clear H1
    have H' := Aside0.mk H
    clear H
    go_wp2_with (first | ((with_reducible refine gate_callee (f := 11) rfl ?_); refine goesA (some 20) Tryd.func11 #[.int .i64 a0] rfl ?_; (with_reducible refine (lanyardref10_Is.calls a0 false _ A10.out).mono ?_); rintro e w' ⟨rfl, ⟨nd, rfl⟩⟩; refine ⟨_, rfl, ?_⟩))
    go_meet
    case rel => exact ⟨_, (false), (by first | rfl | (simp; done) | (simp [*]; done)), H', ⟨by first | omega | exact Nat.le_refl _⟩, ⟨by (with_reducible repeat (first | refine blk_drewN ?_ _ | refine blk_drew ?_ | refine blk_alloc ?_ _)); exact BK218.out⟩, ⟨by repeat (first | (with_reducible first | exact HB.out | apply below_alloc | apply pw_below_drewN | apply below_drew1 | refine below_set ?_ GE218.out) | exact HB.out)⟩⟩
  case rest =>
   clear HC7
   try clear c1
   try clear p2
   try clear c5
   try clear p6
   try clear c7
   try clear c8
   try clear c11
   try clear c13
   try clear c13b0
   obtain ⟨kq, x9_6, rfl, HA, HJ6, BK218, HB⟩ := hcut
   cases kq with
   | zero => exact absurd HA.out (by simp [lanyardlaw10_MomentAdds.j0])
   | succ kj6 =>
    have H := HA.out
    clear HA
    simp only [lanyardlaw10_MomentAdds.j0] at H
    have HC15 := Aside0.mk H
    clear H
    go_upto_region 5 with (fail)
    go_cut [58] (fun v58 wc => ∃ (kq : Nat) (x58_14 : Bool), v58 = .bool x58_14 ∧ Aside0 (lanyardlaw10_MomentAdds.j1 kq a0 x58_14 a2_0 a2_1 a2_2 = some r) ∧ Aside0 (kq ≤ kj6) ∧ Aside0 (wc.heap[gb218]? = some (.cells #[.int .i64 a2_0, .int .i64 a2_1, .int .i64 a2_2] 26 (0, 0))) ∧ Aside0 (Below w.heap.size w wc))
    case first =>
     have H := HC15.out
     clear HC15
     refine (Classical.em (x9_6 = true)).elim (fun c16 => ?a37_) (fun c16 => ?b37_)
     case' a37_ =>
      subst c16
      have H1 : (if t221 = 0 then (if t220 = (wrap64 (a0 + a1)) then (lanyardlaw10_MomentAdds.j1 kj6 a0 false a2_0 a2_1 a2_2) else (lanyardlaw10_MomentAdds.j1 kj6 a0 true a2_0 a2_1 a2_2)) else (lanyardlaw10_MomentAdds.j1 kj6 a0 true a2_0 a2_1 a2_2)) = some r := by rw [if_pos rfl] at H; exact H
      clear H
      have H := H1
      clear H1
      refine (Classical.em (t221 = 0)).elim (fun c17 => ?a38_) (fun c17 => ?b38_)
      case' a38_ =>
       rw [if_pos c17] at H
       have c17b0 : (t221 == 0) = true := beq_iff_eq.mpr c17
       have c17b1 : (t221 != 0) = false := bne_eq_false_iff_eq.mpr c17
       clear c17
       (first | rw [c17b0] | (simp only [i64_w, i32_w]; rw [c17b0]) | skip)
       refine (Classical.em (t220 = (wrap64 (a0 + a1)))).elim (fun c18 => ?a39_) (fun c18 => ?b39_)
       case' a39_ =>
        rw [if_pos c18] at H
        have c18b0 : (t220 == (wrap64 (a0 + a1))) = true := beq_iff_eq.mpr c18
        have c18b1 : (t220 != (wrap64 (a0 + a1))) = false := bne_eq_false_iff_eq.mpr c18
        clear c18
        have H' := Aside0.mk H
        clear H
        go_wp2
        go_meet
        case rel => exact ⟨_, (false), (by first | rfl | (simp; done) | (simp [*]; done)), H', ⟨by have := HJ6.out; first | omega | exact Nat.le_refl _⟩, ⟨by (with_reducible repeat (first | refine blk_drewN ?_ _ | refine blk_drew ?_ | refine blk_alloc ?_ _)); exact BK218.out⟩, ⟨by repeat (first | (with_reducible first | exact HB.out | apply below_alloc | apply pw_below_drewN | apply below_drew1 | refine below_set ?_ GE218.out) | exact HB.out)⟩⟩
       case' b39_ =>
        rw [if_neg c18] at H
        have c18b0 : (t220 == (wrap64 (a0 + a1))) = false := beq_eq_false_iff_ne.mpr c18
        have c18b1 : (t220 != (wrap64 (a0 + a1))) = true := bne_iff_ne.mpr c18
        have H' := Aside0.mk H
        clear H
      case' b38_ =>
       rw [if_neg c17] at H
       have c17b0 : (t221 == 0) = false := beq_eq_false_iff_ne.mpr c17
       have c17b1 : (t221 != 0) = true := bne_iff_ne.mpr c17
       (first | rw [c17b0] | (simp only [i64_w, i32_w]; rw [c17b0]) | skip)
       have H' := Aside0.mk H
       clear H
     case' b37_ =>
      replace c16 := Bool.eq_false_iff.mpr c16
      subst c16
      have H1 : (if t221 = 21 then (lanyardlaw10_MomentAdds.j1 kj6 a0 (t220 != 0) a2_0 a2_1 a2_2) else (lanyardlaw10_MomentAdds.j1 kj6 a0 true a2_0 a2_1 a2_2)) = some r := by rw [if_neg (show ¬ (false = true) by decide)] at H; exact H
      clear H
      have H := H1
      clear H1
      refine (Classical.em (t221 = 21)).elim (fun c19 => ?a40_) (fun c19 => ?b40_)
      case' a40_ =>
       rw [if_pos c19] at H
       have c19b0 : (t221 == 21) = true := beq_iff_eq.mpr c19
       have c19b1 : (t221 != 21) = false := bne_eq_false_iff_eq.mpr c19
       clear c19
       have H' := Aside0.mk H
       clear H
       go_wp2
       go_meet
       case rel => exact ⟨_, ((t220 != 0)), (by first | rfl | (simp; done) | (simp [*]; done)), H', ⟨by have := HJ6.out; first | omega | exact Nat.le_refl _⟩, ⟨by (with_reducible repeat (first | refine blk_drewN ?_ _ | refine blk_drew ?_ | refine blk_alloc ?_ _)); exact BK218.out⟩, ⟨by repeat (first | (with_reducible first | exact HB.out | apply below_alloc | apply pw_below_drewN | apply below_drew1 | refine below_set ?_ GE218.out) | exact HB.out)⟩⟩
      case' b40_ =>
       rw [if_neg c19] at H
       have c19b0 : (t221 == 21) = false := beq_eq_false_iff_ne.mpr c19
       have c19b1 : (t221 != 21) = true := bne_iff_ne.mpr c19
       have H' := Aside0.mk H
       clear H
     case a38_ | b38_ | b37_ =>
      go_wp2
      go_meet
      case rel => exact ⟨_, (true), (by first | rfl | (simp; done) | (simp [*]; done)), H', ⟨by have := HJ6.out; first | omega | exact Nat.le_refl _⟩, ⟨by (with_reducible repeat (first | refine blk_drewN ?_ _ | refine blk_drew ?_ | refine blk_alloc ?_ _)); exact BK218.out⟩, ⟨by repeat (first | (with_reducible first | exact HB.out | apply below_alloc | apply pw_below_drewN | apply below_drew1 | refine below_set ?_ GE218.out) | exact HB.out)⟩⟩
    case rest =>
     clear HC15
     try clear c1
     try clear p2
     try clear c5
     try clear p6
     try clear c7
     try clear c8
     try clear c11
     try clear c13
     try clear c13b0
     try clear c16
     try clear c17
     try clear c17b0
     try clear c17b1
     try clear c18
     try clear c18b0
     try clear c18b1
     try clear c19
     try clear c19b0
     try clear c19b1
     try clear p2
     try clear p6
     obtain ⟨kq, x58_14, rfl, HA, HJ14, BK218, HB⟩ := hcut
     cases kq with
     | zero => exact absurd HA.out (by simp [lanyardlaw10_MomentAdds.j1])
     | succ kj14 =>
      have H := HA.out
      clear HA
      simp only [lanyardlaw10_MomentAdds.j1] at H
      by_cases c20 : x58_14 = true
      ·subst c20
       have H1 : (some false) = some r := by rw [if_pos rfl] at H; exact H
       clear H
       have H := H1
       clear H1
       exact absurd (Option.some.inj H) (by rw [HR_.out]; decide)
      ·replace c20 := Bool.eq_false_iff.mpr c20
       subst c20
       have H1 : ((moment_Within.f a0 a2_0 a2_1 a2_2).bind fun t225 => ((lanyardref10_Is.f a0).bind fun t226 => (if t226 = true then ((lanyardref10_Is.f a2_0).bind fun t227 => (if t227 = true then ((lanyardref10_Is.f a2_1).bind fun t228 => (if t228 = true then (if a2_2 < 0 then (some (!t225)) else (if a2_2 > 86400000 then (some (!t225)) else (if a0 ≥ (wrap64 (a2_0 - a2_2)) then (some (t225 == (decide (a0 < (wrap64 (a2_1 + a2_2)))))) else (some (t225 == false))))) else (some (!t225)))) else (some (!t225)))) else (some (!t225))))) = some r := by rw [if_neg (show ¬ (false = true) by decide)] at H; exact H
       clear H
       have H := H1
       clear H1
       replace H := Option.bind_eq_some_iff.mp H
       obtain ⟨t225, A210, H⟩ := H
       replace H : ((lanyardref10_Is.f a0).bind fun t226 => (if t226 = true then ((lanyardref10_Is.f a2_0).bind fun t227 => (if t227 = true then ((lanyardref10_Is.f a2_1).bind fun t228 => (if t228 = true then (if a2_2 < 0 then (some (!t225)) else (if a2_2 > 86400000 then (some (!t225)) else (if a0 ≥ (wrap64 (a2_0 - a2_2)) then (some (t225 == (decide (a0 < (wrap64 (a2_1 + a2_2)))))) else (some (t225 == false))))) else (some (!t225)))) else (some (!t225)))) else (some (!t225)))) = some r := H
       have A21 := Aside0.mk A210
       clear A210
       replace H := Option.bind_eq_some_iff.mp H
       obtain ⟨t226, A220, H⟩ := H
       replace H : (if t226 = true then ((lanyardref10_Is.f a2_0).bind fun t227 => (if t227 = true then ((lanyardref10_Is.f a2_1).bind fun t228 => (if t228 = true then (if a2_2 < 0 then (some (!t225)) else (if a2_2 > 86400000 then (some (!t225)) else (if a0 ≥ (wrap64 (a2_0 - a2_2)) then (some (t225 == (decide (a0 < (wrap64 (a2_1 + a2_2)))))) else (some (t225 == false))))) else (some (!t225)))) else (some (!t225)))) else (some (!t225))) = some r := H
       have A22 := Aside0.mk A220
       clear A220
       by_cases c23 : t226 = true
       ·subst c23
        have H1 : ((lanyardref10_Is.f a2_0).bind fun t227 => (if t227 = true then ((lanyardref10_Is.f a2_1).bind fun t228 => (if t228 = true then (if a2_2 < 0 then (some (!t225)) else (if a2_2 > 86400000 then (some (!t225)) else (if a0 ≥ (wrap64 (a2_0 - a2_2)) then (some (t225 == (decide (a0 < (wrap64 (a2_1 + a2_2)))))) else (some (t225 == false))))) else (some (!t225)))) else (some (!t225)))) = some r := by rw [if_pos rfl] at H; exact H
        clear H
        have H := H1
        clear H1
        replace H := Option.bind_eq_some_iff.mp H
        obtain ⟨t227, A240, H⟩ := H
        replace H : (if t227 = true then ((lanyardref10_Is.f a2_1).bind fun t228 => (if t228 = true then (if a2_2 < 0 then (some (!t225)) else (if a2_2 > 86400000 then (some (!t225)) else (if a0 ≥ (wrap64 (a2_0 - a2_2)) then (some (t225 == (decide (a0 < (wrap64 (a2_1 + a2_2)))))) else (some (t225 == false))))) else (some (!t225)))) else (some (!t225))) = some r := H
        have A24 := Aside0.mk A240
        clear A240
        by_cases c25 : t227 = true
        ·subst c25
         have H1 : ((lanyardref10_Is.f a2_1).bind fun t228 => (if t228 = true then (if a2_2 < 0 then (some (!t225)) else (if a2_2 > 86400000 then (some (!t225)) else (if a0 ≥ (wrap64 (a2_0 - a2_2)) then (some (t225 == (decide (a0 < (wrap64 (a2_1 + a2_2)))))) else (some (t225 == false))))) else (some (!t225)))) = some r := by rw [if_pos rfl] at H; exact H
         clear H
         have H := H1
         clear H1
         replace H := Option.bind_eq_some_iff.mp H
         obtain ⟨t228, A260, H⟩ := H
         replace H : (if t228 = true then (if a2_2 < 0 then (some (!t225)) else (if a2_2 > 86400000 then (some (!t225)) else (if a0 ≥ (wrap64 (a2_0 - a2_2)) then (some (t225 == (decide (a0 < (wrap64 (a2_1 + a2_2)))))) else (some (t225 == false))))) else (some (!t225))) = some r := H
         have A26 := Aside0.mk A260
         clear A260
         by_cases c27 : t228 = true
         ·subst c27
          have H1 : (if a2_2 < 0 then (some (!t225)) else (if a2_2 > 86400000 then (some (!t225)) else (if a0 ≥ (wrap64 (a2_0 - a2_2)) then (some (t225 == (decide (a0 < (wrap64 (a2_1 + a2_2)))))) else (some (t225 == false))))) = some r := by rw [if_pos rfl] at H; exact H
          clear H
          have H := H1
          clear H1
          refine (Classical.em (a2_2 < 0)).elim (fun c28 => ?a41_) (fun c28 => ?b41_)
          case' a41_ =>
           rw [if_pos c28] at H
           have c28b0 : decide (a2_2 < 0) = true := decide_eq_true c28
           clear c28
           obtain rfl := Option.some.inj H
           have hcz29_0 : wc.cell? ⟨gb218, 0, none⟩ = some (.int .i64 a2_0) := (blk_cell BK218.out 0).trans rfl
           have hcz29_1 : wc.cell? ⟨gb218, 1, none⟩ = some (.int .i64 a2_1) := (blk_cell BK218.out 1).trans rfl
           have hcz29_2 : wc.cell? ⟨gb218, 2, none⟩ = some (.int .i64 a2_2) := (blk_cell BK218.out 2).trans rfl
           have hfz29_0 := blk_frozen BK218.out 0
           have hfz29_1 := blk_frozen BK218.out 1
           have hfz29_2 := blk_frozen BK218.out 2
          case' b41_ =>
           rw [if_neg c28] at H
           have c28b0 : decide (a2_2 < 0) = false := decide_eq_false c28
           clear c28
           refine (Classical.em (a2_2 > 86400000)).elim (fun c30 => ?a42_) (fun c30 => ?b42_)
           case' a42_ =>
            rw [if_pos c30] at H
            have c30b0 : decide (86400000 < a2_2) = true := decide_eq_true c30
            clear c30
            obtain rfl := Option.some.inj H
            have hcz31_0 : wc.cell? ⟨gb218, 0, none⟩ = some (.int .i64 a2_0) := (blk_cell BK218.out 0).trans rfl
            have hcz31_1 : wc.cell? ⟨gb218, 1, none⟩ = some (.int .i64 a2_1) := (blk_cell BK218.out 1).trans rfl
            have hcz31_2 : wc.cell? ⟨gb218, 2, none⟩ = some (.int .i64 a2_2) := (blk_cell BK218.out 2).trans rfl
            have hfz31_0 := blk_frozen BK218.out 0
            have hfz31_1 := blk_frozen BK218.out 1
            have hfz31_2 := blk_frozen BK218.out 2
           case' b42_ =>
            rw [if_neg c30] at H
            have c30b0 : decide (86400000 < a2_2) = false := decide_eq_false c30
            clear c30
            refine (Classical.em (a0 ≥ (wrap64 (a2_0 - a2_2)))).elim (fun c32 => ?a43_) (fun c32 => ?b43_)
            case' a43_ =>
             rw [if_pos c32] at H
             have c32b0 : decide ((wrap64 (a2_0 - a2_2)) ≤ a0) = true := decide_eq_true c32
             clear c32
             obtain rfl := Option.some.inj H
             have hcz33_0 : wc.cell? ⟨gb218, 0, none⟩ = some (.int .i64 a2_0) := (blk_cell BK218.out 0).trans rfl
             have hcz33_1 : wc.cell? ⟨gb218, 1, none⟩ = some (.int .i64 a2_1) := (blk_cell BK218.out 1).trans rfl
             have hcz33_2 : wc.cell? ⟨gb218, 2, none⟩ = some (.int .i64 a2_2) := (blk_cell BK218.out 2).trans rfl
             have hfz33_0 := blk_frozen BK218.out 0
             have hfz33_1 := blk_frozen BK218.out 1
             have hfz33_2 := blk_frozen BK218.out 2
            case' b43_ =>
             rw [if_neg c32] at H
             have c32b0 : decide ((wrap64 (a2_0 - a2_2)) ≤ a0) = false := decide_eq_false c32
             clear c32
             obtain rfl := Option.some.inj H
             have hcz34_0 : wc.cell? ⟨gb218, 0, none⟩ = some (.int .i64 a2_0) := (blk_cell BK218.out 0).trans rfl
             have hcz34_1 : wc.cell? ⟨gb218, 1, none⟩ = some (.int .i64 a2_1) := (blk_cell BK218.out 1).trans rfl
             have hcz34_2 : wc.cell? ⟨gb218, 2, none⟩ = some (.int .i64 a2_2) := (blk_cell BK218.out 2).trans rfl
             have hfz34_0 := blk_frozen BK218.out 0
             have hfz34_1 := blk_frozen BK218.out 1
             have hfz34_2 := blk_frozen BK218.out 2
          case a41_ | a42_ | a43_ | b43_ =>
           go_wp2_with (first | ((with_reducible refine gate_callee (f := 21) rfl ?_); refine goesA (some 66) Tryd.func21 #[.int .i64 a0, .int .i64 a2_0, .int .i64 a2_1, .int .i64 a2_2] rfl ?_; (with_reducible refine (moment_Within.calls a0 a2_0 a2_1 a2_2 t225 _ A21.out).mono ?_); rintro e w' ⟨rfl, ⟨nd, rfl⟩⟩; refine ⟨_, rfl, ?_⟩) | ((with_reducible refine gate_callee (f := 11) rfl ?_); refine goesA (some 68) Tryd.func11 #[.int .i64 a0] rfl ?_; (with_reducible refine (lanyardref10_Is.calls a0 true _ A22.out).mono ?_); rintro e w' ⟨rfl, ⟨nd, rfl⟩⟩; refine ⟨_, rfl, ?_⟩) | (go_at_call 11; (with_reducible refine (lanyardref10_Is.calls a2_0 true _ A24.out).mono ?_); rintro e w' ⟨rfl, ⟨nd, rfl⟩⟩) | (go_at_call 11; (with_reducible refine (lanyardref10_Is.calls a2_1 true _ A26.out).mono ?_); rintro e w' ⟨rfl, ⟨nd, rfl⟩⟩))
           go_ret
           exact ⟨rfl_, by repeat (first | (with_reducible first | exact HB.out | apply below_alloc | apply pw_below_drewN | apply below_drew1 | refine below_set ?_ GE218.out) | exact HB.out)⟩
         ·replace c27 := Bool.eq_false_iff.mpr c27
          subst c27
          have H1 : (some (!t225)) = some r := by rw [if_neg (show ¬ (false = true) by decide)] at H; exact H
          clear H
          have H := H1
          clear H1
          obtain rfl := Option.some.inj H
          have hcz35_0 : wc.cell? ⟨gb218, 0, none⟩ = some (.int .i64 a2_0) := (blk_cell BK218.out 0).trans rfl
          have hcz35_1 : wc.cell? ⟨gb218, 1, none⟩ = some (.int .i64 a2_1) := (blk_cell BK218.out 1).trans rfl
          have hcz35_2 : wc.cell? ⟨gb218, 2, none⟩ = some (.int .i64 a2_2) := (blk_cell BK218.out 2).trans rfl
          have hfz35_0 := blk_frozen BK218.out 0
          have hfz35_1 := blk_frozen BK218.out 1
          have hfz35_2 := blk_frozen BK218.out 2
          go_wp2_with (first | ((with_reducible refine gate_callee (f := 21) rfl ?_); refine goesA (some 66) Tryd.func21 #[.int .i64 a0, .int .i64 a2_0, .int .i64 a2_1, .int .i64 a2_2] rfl ?_; (with_reducible refine (moment_Within.calls a0 a2_0 a2_1 a2_2 t225 _ A21.out).mono ?_); rintro e w' ⟨rfl, ⟨nd, rfl⟩⟩; refine ⟨_, rfl, ?_⟩) | ((with_reducible refine gate_callee (f := 11) rfl ?_); refine goesA (some 68) Tryd.func11 #[.int .i64 a0] rfl ?_; (with_reducible refine (lanyardref10_Is.calls a0 true _ A22.out).mono ?_); rintro e w' ⟨rfl, ⟨nd, rfl⟩⟩; refine ⟨_, rfl, ?_⟩) | (go_at_call 11; (with_reducible refine (lanyardref10_Is.calls a2_0 true _ A24.out).mono ?_); rintro e w' ⟨rfl, ⟨nd, rfl⟩⟩) | (go_at_call 11; (with_reducible refine (lanyardref10_Is.calls a2_1 false _ A26.out).mono ?_); rintro e w' ⟨rfl, ⟨nd, rfl⟩⟩))
          go_ret
          exact ⟨rfl_, by repeat (first | (with_reducible first | exact HB.out | apply below_alloc | apply pw_below_drewN | apply below_drew1 | refine below_set ?_ GE218.out) | exact HB.out)⟩
        ·replace c25 := Bool.eq_false_iff.mpr c25
         subst c25
         have H1 : (some (!t225)) = some r := by rw [if_neg (show ¬ (false = true) by decide)] at H; exact H
         clear H
         have H := H1
         clear H1
         obtain rfl := Option.some.inj H
         have hcz36_0 : wc.cell? ⟨gb218, 0, none⟩ = some (.int .i64 a2_0) := (blk_cell BK218.out 0).trans rfl
         have hcz36_1 : wc.cell? ⟨gb218, 1, none⟩ = some (.int .i64 a2_1) := (blk_cell BK218.out 1).trans rfl
         have hcz36_2 : wc.cell? ⟨gb218, 2, none⟩ = some (.int .i64 a2_2) := (blk_cell BK218.out 2).trans rfl
         have hfz36_0 := blk_frozen BK218.out 0
         have hfz36_1 := blk_frozen BK218.out 1
         have hfz36_2 := blk_frozen BK218.out 2
         go_wp2_with (first | ((with_reducible refine gate_callee (f := 21) rfl ?_); refine goesA (some 66) Tryd.func21 #[.int .i64 a0, .int .i64 a2_0, .int .i64 a2_1, .int .i64 a2_2] rfl ?_; (with_reducible refine (moment_Within.calls a0 a2_0 a2_1 a2_2 t225 _ A21.out).mono ?_); rintro e w' ⟨rfl, ⟨nd, rfl⟩⟩; refine ⟨_, rfl, ?_⟩) | ((with_reducible refine gate_callee (f := 11) rfl ?_); refine goesA (some 68) Tryd.func11 #[.int .i64 a0] rfl ?_; (with_reducible refine (lanyardref10_Is.calls a0 true _ A22.out).mono ?_); rintro e w' ⟨rfl, ⟨nd, rfl⟩⟩; refine ⟨_, rfl, ?_⟩) | (go_at_call 11; (with_reducible refine (lanyardref10_Is.calls a2_0 false _ A24.out).mono ?_); rintro e w' ⟨rfl, ⟨nd, rfl⟩⟩))
         go_ret
         exact ⟨rfl_, by repeat (first | (with_reducible first | exact HB.out | apply below_alloc | apply pw_below_drewN | apply below_drew1 | refine below_set ?_ GE218.out) | exact HB.out)⟩
       ·replace c23 := Bool.eq_false_iff.mpr c23
        subst c23
        have H1 : (some (!t225)) = some r := by rw [if_neg (show ¬ (false = true) by decide)] at H; exact H
        clear H
        have H := H1
        clear H1
        obtain rfl := Option.some.inj H
        have hcz37_0 : wc.cell? ⟨gb218, 0, none⟩ = some (.int .i64 a2_0) := (blk_cell BK218.out 0).trans rfl
        have hcz37_1 : wc.cell? ⟨gb218, 1, none⟩ = some (.int .i64 a2_1) := (blk_cell BK218.out 1).trans rfl
        have hcz37_2 : wc.cell? ⟨gb218, 2, none⟩ = some (.int .i64 a2_2) := (blk_cell BK218.out 2).trans rfl
        have hfz37_0 := blk_frozen BK218.out 0
        have hfz37_1 := blk_frozen BK218.out 1
        have hfz37_2 := blk_frozen BK218.out 2
        go_wp2_with (first | ((with_reducible refine gate_callee (f := 21) rfl ?_); refine goesA (some 66) Tryd.func21 #[.int .i64 a0, .int .i64 a2_0, .int .i64 a2_1, .int .i64 a2_2] rfl ?_; (with_reducible refine (moment_Within.calls a0 a2_0 a2_1 a2_2 t225 _ A21.out).mono ?_); rintro e w' ⟨rfl, ⟨nd, rfl⟩⟩; refine ⟨_, rfl, ?_⟩) | ((with_reducible refine gate_callee (f := 11) rfl ?_); refine goesA (some 68) Tryd.func11 #[.int .i64 a0] rfl ?_; (with_reducible refine (lanyardref10_Is.calls a0 false _ A22.out).mono ?_); rintro e w' ⟨rfl, ⟨nd, rfl⟩⟩; refine ⟨_, rfl, ?_⟩))
        go_ret
        exact ⟨rfl_, by repeat (first | (with_reducible first | exact HB.out | apply below_alloc | apply pw_below_drewN | apply below_drew1 | refine below_set ?_ GE218.out) | exact HB.out)⟩
 ·replace c5 := Bool.eq_false_iff.mpr c5
  subst c5
  have H1 : (some false) = some r := by rw [if_neg (show ¬ (false = true) by decide)] at H; exact H
  clear H
  have H := H1
  clear H1
  exact absurd (Option.some.inj H) (by rw [HR_.out]; decide)
/-- THE ONE PURE STATEMENT of lanyardlaw10_MomentAdds: yours. -/
def lanyardlaw10_MomentAdds.Pure : Prop := ∀ (a0 : Int) (a1 : Int) (a2_0 : Int) (a2_1 : Int) (a2_2 : Int), (Lit.int .i64 a0).wf = true → (Lit.int .i64 a1).wf = true → (Lit.int .i64 a2_0).wf = true → (Lit.int .i64 a2_1).wf = true → (Lit.int .i64 a2_2).wf = true → ∃ k, lanyardlaw10_MomentAdds.f k a0 a1 a2_0 a2_1 a2_2 = some true
theorem lanyardlaw10_MomentAdds.walk (P : lanyardlaw10_MomentAdds.Pure) (a0 : Int) (a1 : Int) (a2_0 : Int) (a2_1 : Int) (a2_2 : Int) (w : World) (w0 : (Lit.int .i64 a0).wf = true) (w1 : (Lit.int .i64 a1).wf = true) (w2_0 : (Lit.int .i64 a2_0).wf = true) (w2_1 : (Lit.int .i64 a2_1).wf = true) (w2_2 : (Lit.int .i64 a2_2).wf = true) (hU : Uni w) :
  Calls Tryd.prog 7 #[.int .i64 a0, .int .i64 a1, .agg #[.int .i64 a2_0, .int .i64 a2_1, .int .i64 a2_2]] w fun e w' => e = .returned (.bool true) ∧ Below w.heap.size w w' := by
 obtain ⟨k, h⟩ := P a0 a1 a2_0 a2_1 a2_2 w0 w1 w2_0 w2_1 w2_2
 refine (lanyardlaw10_MomentAdds.calls k a0 a1 a2_0 a2_1 a2_2 true w hU h).mono ?_
 rintro e w' ⟨rfl, hd⟩
 exact ⟨rfl, hd⟩

end Go.Proofs.YtcikjghmelbkaaaDoor.Hp
