/- Go functions of this seat as Lean functions, and their contracts: what the Go code computes, for every input. (By hp.py, a program of this repo, over the kit's print.py.) -/
import Derived.Test.YtcikjghmelbkaaaDoorHp0
import Derived.Test.YtcikjghmelbkaaaDoorHp1
import Derived.Test.YtcikjghmelbkaaaDoorHp2
import Derived.Test.YtcikjghmelbkaaaDoorHp4
import Derived.Test.YtcikjghmelbkaaaDoorHp6
import Derived.Test.YtcikjghmelbkaaaDoorHp7
namespace Go.Proofs.YtcikjghmelbkaaaDoor.Hp
open Go.RowKit Go.Proofs.YtcikjghmelbkaaaDoorW.PrintWords Go.Proofs.YtcikjghmelbkaaaDoorW.PrintLast Go.Proofs.YtcikjghmelbkaaaDoorW.PrintMore
attribute [local go_sem] max2_int min2_int max_two min_two max_three min_three max_four min_four   -- for this text's walks alone
set_option linter.unusedVariables false
set_option linter.unusedSimpArgs false

attribute [local go_sem high] eqA26
/-! ### lanyardlaw10_MomentDays: function 4 -/
mutual
def lanyardlaw10_MomentDays.j0 : Nat → Int → Int → Int → Int → Bool → Option (Bool)
 | 0, _, _, _, _, _ => none
 | k + 1, x0, x1, x2, x7, x42 => if x42 = true then (some false) else ((moment_Date.f k (wrap64 (x7 * 86400000))).bind fun bt203 => (if bt203.2.2.2 = 0 then (lanyardlaw10_MomentDays.j1 k x0 x1 x2 x7 (!(bt203.1 == x0) || (!(bt203.2.1 == x1) || (!(bt203.2.2.1 == x2))))) else (lanyardlaw10_MomentDays.j1 k x0 x1 x2 x7 true)))
def lanyardlaw10_MomentDays.j1 : Nat → Int → Int → Int → Int → Bool → Option (Bool)
 | 0, _, _, _, _, _ => none
 | k + 1, x0, x1, x2, x7, x58 => if x58 = true then (some false) else ((moment_Date.f k (wrap64 ((wrap64 (x7 + 1)) * 86400000))).bind fun bt208 => (if x0 = 9999 then (if x1 = 12 then (if x2 = 31 then (some (bt208.2.2.2 == 21)) else ((moment_Days.f k bt208.1 bt208.2.1 bt208.2.2.1).bind fun bt212 => (if bt208.2.2.2 = 0 then (if bt212.2 = 0 then (some (bt212.1 == (wrap64 (x7 + 1)))) else (some false)) else (some false)))) else ((moment_Days.f k bt208.1 bt208.2.1 bt208.2.2.1).bind fun bt214 => (if bt208.2.2.2 = 0 then (if bt214.2 = 0 then (some (bt214.1 == (wrap64 (x7 + 1)))) else (some false)) else (some false)))) else ((moment_Days.f k bt208.1 bt208.2.1 bt208.2.2.1).bind fun bt216 => (if bt208.2.2.2 = 0 then (if bt216.2 = 0 then (some (bt216.1 == (wrap64 (x7 + 1)))) else (some false)) else (some false)))))
end
def lanyardlaw10_MomentDays.f (k : Nat) (a0 : Int) (a1 : Int) (a2 : Int) : Option (Bool) := (lanyardlaw10_awake.f k).bind fun t198 => (if t198 = true then ((moment_Days.f k a0 a1 a2).bind fun bt199 => ((lanyardref10_Right.f a0 a1 a2).bind fun t201 => (if t201 = true then (if bt199.2 = 0 then ((lanyardref10_Days.f k a0 a1 a2).bind fun t202 => (lanyardlaw10_MomentDays.j0 k a0 a1 a2 bt199.1 (bt199.1 != t202))) else (lanyardlaw10_MomentDays.j0 k a0 a1 a2 bt199.1 true)) else (if bt199.2 = 2 then (some (bt199.1 == 0)) else (some false))))) else (some false))
theorem lanyardlaw10_MomentDays.mono_l : ∀ k, (∀ y0 y1 y2 y3 y4, LeO (lanyardlaw10_MomentDays.j0 k y0 y1 y2 y3 y4) (lanyardlaw10_MomentDays.j0 (k + 1) y0 y1 y2 y3 y4)) ∧ (∀ y0 y1 y2 y3 y4, LeO (lanyardlaw10_MomentDays.j1 k y0 y1 y2 y3 y4) (lanyardlaw10_MomentDays.j1 (k + 1) y0 y1 y2 y3 y4))
 | 0 => ⟨fun _ _ _ _ _ r h => by simp [lanyardlaw10_MomentDays.j0] at h, fun _ _ _ _ _ r h => by simp [lanyardlaw10_MomentDays.j1] at h⟩
 | k + 1 => by
  obtain ⟨ih0, ih1⟩ := lanyardlaw10_MomentDays.mono_l k
  refine ⟨?_, ?_⟩
  ·intro y0 y1 y2 y3 y4
   unfold lanyardlaw10_MomentDays.j0
   repeat' first
   | (with_reducible exact ih0 _ _ _ _ _)
   | (with_reducible exact ih1 _ _ _ _ _)
   | (with_reducible exact lanyardlaw10_awake.mono _)
   | (with_reducible exact lanyardref10_Days.mono _ _ _ _)
   | (with_reducible exact moment_Date.mono _ _)
   | (with_reducible exact moment_Days.mono _ _ _ _)
   | (with_reducible exact LeO.refl _)
   | (with_reducible exact LeO.none _)
   | (with_reducible refine LeO.ite ?_ ?_)
   | (with_reducible refine LeO.bind ?_ (fun _ => ?_))
   | exact ih0 _ _ _ _ _
   | exact ih1 _ _ _ _ _
   | exact lanyardlaw10_awake.mono _
   | exact lanyardref10_Days.mono _ _ _ _
   | exact moment_Date.mono _ _
   | exact moment_Days.mono _ _ _ _
   | exact LeO.none _
   | refine LeO.ite ?_ ?_
   | refine LeO.bind ?_ (fun _ => ?_)
  ·intro y0 y1 y2 y3 y4
   unfold lanyardlaw10_MomentDays.j1
   repeat' first
   | (with_reducible exact ih0 _ _ _ _ _)
   | (with_reducible exact ih1 _ _ _ _ _)
   | (with_reducible exact lanyardlaw10_awake.mono _)
   | (with_reducible exact lanyardref10_Days.mono _ _ _ _)
   | (with_reducible exact moment_Date.mono _ _)
   | (with_reducible exact moment_Days.mono _ _ _ _)
   | (with_reducible exact LeO.refl _)
   | (with_reducible exact LeO.none _)
   | (with_reducible refine LeO.ite ?_ ?_)
   | (with_reducible refine LeO.bind ?_ (fun _ => ?_))
   | exact ih0 _ _ _ _ _
   | exact ih1 _ _ _ _ _
   | exact lanyardlaw10_awake.mono _
   | exact lanyardref10_Days.mono _ _ _ _
   | exact moment_Date.mono _ _
   | exact moment_Days.mono _ _ _ _
   | exact LeO.none _
   | refine LeO.ite ?_ ?_
   | refine LeO.bind ?_ (fun _ => ?_)
theorem lanyardlaw10_MomentDays.mono : ∀ a0 a1 a2 k, LeO (lanyardlaw10_MomentDays.f k a0 a1 a2) (lanyardlaw10_MomentDays.f (k + 1) a0 a1 a2) := by
 intro a0 a1 a2 k
 obtain ⟨ih0, ih1⟩ := lanyardlaw10_MomentDays.mono_l k
 unfold lanyardlaw10_MomentDays.f
 repeat' first
   | (with_reducible exact ih0 _ _ _ _ _)
   | (with_reducible exact ih1 _ _ _ _ _)
   | (with_reducible exact lanyardlaw10_awake.mono _)
   | (with_reducible exact lanyardref10_Days.mono _ _ _ _)
   | (with_reducible exact moment_Date.mono _ _)
   | (with_reducible exact moment_Days.mono _ _ _ _)
   | (with_reducible exact LeO.refl _)
   | (with_reducible exact LeO.none _)
   | (with_reducible refine LeO.ite ?_ ?_)
   | (with_reducible refine LeO.bind ?_ (fun _ => ?_))
   | exact ih0 _ _ _ _ _
   | exact ih1 _ _ _ _ _
   | exact lanyardlaw10_awake.mono _
   | exact lanyardref10_Days.mono _ _ _ _
   | exact moment_Date.mono _ _
   | exact moment_Days.mono _ _ _ _
   | exact LeO.none _
   | refine LeO.ite ?_ ?_
   | refine LeO.bind ?_ (fun _ => ?_)
set_option maxHeartbeats 8000000 in
set_option maxRecDepth 100000 in
theorem lanyardlaw10_MomentDays.calls (k : Nat) (a0 : Int) (a1 : Int) (a2 : Int) (r : Bool) (w : World) (hU : Uni w) (h : lanyardlaw10_MomentDays.f k a0 a1 a2 = some r) (hr_ : r = true := by rfl) :
  Calls Tryd.prog 4 #[.int .i64 a0, .int .i64 a1, .int .i64 a2] w fun e w' => e = .returned (.bool r) ∧ Below w.heap.size w w' := by
 have HU := Aside0.mk hU
 clear hU
 have HR_ := Aside0.mk hr_
 clear hr_
 have hu26 := Tryd.underlying26
 have HB := Aside0.mk (Below.refl w.heap.size w)
 have H : ((lanyardlaw10_awake.f k).bind fun t198 => (if t198 = true then ((moment_Days.f k a0 a1 a2).bind fun bt199 => ((lanyardref10_Right.f a0 a1 a2).bind fun t201 => (if t201 = true then (if bt199.2 = 0 then ((lanyardref10_Days.f k a0 a1 a2).bind fun t202 => (lanyardlaw10_MomentDays.j0 k a0 a1 a2 bt199.1 (bt199.1 != t202))) else (lanyardlaw10_MomentDays.j0 k a0 a1 a2 bt199.1 true)) else (if bt199.2 = 2 then (some (bt199.1 == 0)) else (some false))))) else (some false))) = some r := h
 clear h
 replace H := Option.bind_eq_some_iff.mp H
 obtain ⟨t198, A40, H⟩ := H
 replace H : (if t198 = true then ((moment_Days.f k a0 a1 a2).bind fun bt199 => ((lanyardref10_Right.f a0 a1 a2).bind fun t201 => (if t201 = true then (if bt199.2 = 0 then ((lanyardref10_Days.f k a0 a1 a2).bind fun t202 => (lanyardlaw10_MomentDays.j0 k a0 a1 a2 bt199.1 (bt199.1 != t202))) else (lanyardlaw10_MomentDays.j0 k a0 a1 a2 bt199.1 true)) else (if bt199.2 = 2 then (some (bt199.1 == 0)) else (some false))))) else (some false)) = some r := H
 have A4 := Aside0.mk A40
 clear A40
 by_cases c5 : t198 = true
 ·subst c5
  have H1 : ((moment_Days.f k a0 a1 a2).bind fun bt199 => ((lanyardref10_Right.f a0 a1 a2).bind fun t201 => (if t201 = true then (if bt199.2 = 0 then ((lanyardref10_Days.f k a0 a1 a2).bind fun t202 => (lanyardlaw10_MomentDays.j0 k a0 a1 a2 bt199.1 (bt199.1 != t202))) else (lanyardlaw10_MomentDays.j0 k a0 a1 a2 bt199.1 true)) else (if bt199.2 = 2 then (some (bt199.1 == 0)) else (some false))))) = some r := by rw [if_pos rfl] at H; exact H
  clear H
  have H := H1
  clear H1
  replace H := Option.bind_eq_some_iff.mp H
  obtain ⟨⟨t199, t200⟩, A60, H⟩ := H
  replace H : ((lanyardref10_Right.f a0 a1 a2).bind fun t201 => (if t201 = true then (if t200 = 0 then ((lanyardref10_Days.f k a0 a1 a2).bind fun t202 => (lanyardlaw10_MomentDays.j0 k a0 a1 a2 t199 (t199 != t202))) else (lanyardlaw10_MomentDays.j0 k a0 a1 a2 t199 true)) else (if t200 = 2 then (some (t199 == 0)) else (some false)))) = some r := H
  have A6 := Aside0.mk A60
  clear A60
  replace H := Option.bind_eq_some_iff.mp H
  obtain ⟨t201, A70, H⟩ := H
  replace H : (if t201 = true then (if t200 = 0 then ((lanyardref10_Days.f k a0 a1 a2).bind fun t202 => (lanyardlaw10_MomentDays.j0 k a0 a1 a2 t199 (t199 != t202))) else (lanyardlaw10_MomentDays.j0 k a0 a1 a2 t199 true)) else (if t200 = 2 then (some (t199 == 0)) else (some false))) = some r := H
  have A7 := Aside0.mk A70
  clear A70
  by_cases c8 : t201 = true
  ·subst c8
   have H1 : (if t200 = 0 then ((lanyardref10_Days.f k a0 a1 a2).bind fun t202 => (lanyardlaw10_MomentDays.j0 k a0 a1 a2 t199 (t199 != t202))) else (lanyardlaw10_MomentDays.j0 k a0 a1 a2 t199 true)) = some r := by rw [if_pos rfl] at H; exact H
   clear H
   have H := H1
   clear H1
   have HC9 := Aside0.mk H
   clear H
   go_enter Tryd.func4, Tryd.ntmps4
   go_upto_region 6 with (first | ((with_reducible refine gate_callee (f := 8) rfl ?_); refine goesA (some 13) Tryd.func8 #[] rfl ?_; (with_reducible refine (lanyardlaw10_awake.calls k  true _ ?sideU A4.out).mono ?_); (case sideU => first | exact HU.out | exact Uni.up HU (Bu HB) | exact Uni.below HU.out (by assumption)); rintro e w10 ⟨rfl, hb⟩; refine ⟨_, rfl, ?_⟩; have n0_ := Bs HB hb; clear HB; revert n0_; intro HB; (try clear hb); (try clear hb2); (try clear hk); (try clear hi)) | ((with_reducible refine gate_callee (f := 15) rfl ?_); refine goesA (some 19) Tryd.func15 #[.int .i64 a0, .int .i64 a1, .int .i64 a2] rfl ?_; (with_reducible refine (moment_Days.calls k a0 a1 a2 t199 t200 _ A6.out).mono ?_); rintro e w' ⟨rfl, ⟨nd, rfl⟩⟩; refine ⟨_, rfl, ?_⟩) | ((with_reducible refine gate_callee (f := 16) rfl ?_); refine goesA (some 25) Tryd.func16 #[.int .i64 a0, .int .i64 a1, .int .i64 a2] rfl ?_; (with_reducible refine (lanyardref10_Right.calls a0 a1 a2 true _ A7.out).mono ?_); rintro e w11 ⟨rfl, hb⟩; refine ⟨_, rfl, ?_⟩; have n0_ := Bs HB hb; clear HB; revert n0_; intro HB; (try clear hb); (try clear hb2); (try clear hk); (try clear hi)))
   (try simp only [Act.put, List.setIfInBounds_toArray, List.set_cons_zero, List.set_cons_succ])
   go_cut [42] (fun v42 wc => ∃ (kq : Nat) (x42_8 : Bool), v42 = .bool x42_8 ∧ Aside0 (lanyardlaw10_MomentDays.j0 kq a0 a1 a2 t199 x42_8 = some r) ∧ Aside0 (kq ≤ k) ∧ Aside0 (Below w.heap.size w wc))
   case first =>
    have H := HC9.out
    clear HC9
    by_cases c12 : t200 = 0
    ·rw [if_pos c12] at H
     have c12b0 : (t200 == 0) = true := beq_iff_eq.mpr c12
     have c12b1 : (t200 != 0) = false := bne_eq_false_iff_eq.mpr c12
     clear c12
     (first | rw [c12b0] | (simp only [i64_w, i32_w]; rw [c12b0]) | skip)
     replace H := Option.bind_eq_some_iff.mp H
     obtain ⟨t202, A130, H⟩ := H
     replace H : (lanyardlaw10_MomentDays.j0 k a0 a1 a2 t199 (t199 != t202)) = some r := H
     have A13 := Aside0.mk A130
     clear A130
     have H' := Aside0.mk H
     clear H
     go_wp2_with (first | (go_at_call 17; (with_reducible refine (lanyardref10_Days.calls k a0 a1 a2 t202 _ A13.out).mono ?_); rintro e w14 ⟨rfl, hb⟩; have n0_ := Bs HB hb; clear HB; revert n0_; intro HB; (try clear hb); (try clear hb2); (try clear hk); (try clear hi)))
     go_meet
     case rel => exact ⟨_, ((t199 != t202)), (by first | rfl | (simp; done) | (simp [*]; done)), H', ⟨by first | omega | exact Nat.le_refl _⟩, ⟨Bu HB⟩⟩
    ·rw [if_neg c12] at H
     have c12b0 : (t200 == 0) = false := beq_eq_false_iff_ne.mpr c12
     have c12b1 : (t200 != 0) = true := bne_iff_ne.mpr c12
     (first | rw [c12b0] | (simp only [i64_w, i32_w]; rw [c12b0]) | skip)
     have H' := Aside0.mk H
     clear H
     go_wp2
     go_meet
     case rel => exact ⟨_, (true), (by first | rfl | (simp; done) | (simp [*]; done)), H', ⟨by first | omega | exact Nat.le_refl _⟩, ⟨Bu HB⟩⟩
   case rest =>
    clear HC9
    try clear c1
    try clear p2
    try clear c4
    try clear c5
    try clear c8
    try clear c12
    try clear c12b0
    try clear c12b1
    obtain ⟨kq, x42_8, rfl, HA, HJ8, HB⟩ := hcut
    cases kq with
    | zero => exact absurd HA.out (by simp [lanyardlaw10_MomentDays.j0])
    | succ kj8 =>
     have H := HA.out
     clear HA
     simp only [lanyardlaw10_MomentDays.j0] at H
     by_cases c15 : x42_8 = true
     ·subst c15
      have H1 : (some false) = some r := by rw [if_pos rfl] at H; exact H
      clear H
      have H := H1
      clear H1
      exact absurd (Option.some.inj H) (by rw [HR_.out]; decide)
     ·replace c15 := Bool.eq_false_iff.mpr c15
      subst c15
      have H1 : ((moment_Date.f kj8 (wrap64 (t199 * 86400000))).bind fun bt203 => (if bt203.2.2.2 = 0 then (lanyardlaw10_MomentDays.j1 kj8 a0 a1 a2 t199 (!(bt203.1 == a0) || (!(bt203.2.1 == a1) || (!(bt203.2.2.1 == a2))))) else (lanyardlaw10_MomentDays.j1 kj8 a0 a1 a2 t199 true))) = some r := by rw [if_neg (show ¬ (false = true) by decide)] at H; exact H
      clear H
      have H := H1
      clear H1
      replace H := Option.bind_eq_some_iff.mp H
      obtain ⟨⟨t203, t204, t205, t206⟩, A160, H⟩ := H
      replace H : (if t206 = 0 then (lanyardlaw10_MomentDays.j1 kj8 a0 a1 a2 t199 (!(t203 == a0) || (!(t204 == a1) || (!(t205 == a2))))) else (lanyardlaw10_MomentDays.j1 kj8 a0 a1 a2 t199 true)) = some r := H
      have A16 := Aside0.mk A160
      clear A160
      have HC17 := Aside0.mk H
      clear H
      go_upto_region 9 with (first | ((with_reducible refine gate_callee (f := 10) rfl ?_); refine goesA (some 46) Tryd.func10 #[.int .i64 (wrap64 (t199 * 86400000))] rfl ?_; (with_reducible refine (moment_Date.calls kj8 (wrap64 (t199 * 86400000)) t203 t204 t205 t206 _ A16.out).mono ?_); rintro e w18 ⟨rfl, hb⟩; refine ⟨_, rfl, ?_⟩; have n0_ := Bs HB hb; clear HB; revert n0_; intro HB; (try clear hb); (try clear hb2); (try clear hk); (try clear hi)) | ((with_reducible refine gate_dst (N := 9) rfl ?_); refine box_event ?hg (N := 9) ?hd (cs := #[.int .i64 0, .int .i64 0, .int .i64 0]) (t := 26) ?hr ?_; (case hd => rfl); (case hg => rfl); (case hr => first | (go_simp; done) | (go_simp; rfl)); intro gb207 hg w19 hbox hb; have n0_ := Bs HB hb; have n1_ := Aside0.mk (hbox); have n2_ := Aside0.mk ((by rw [hg]; exact (Bz HB) : w.heap.size ≤ gb207)); have n3_ := Aside0.mk ((by rw [hg]; exact (Bz HB) : w.heap.size ≤ gb207)); clear HB; have HB := n0_; have BK207 := n1_; have GW207 := n2_; have GE207 := n3_; clear n0_ n1_ n2_ n3_; clear hb hbox hg; have hcz20_0 : w19.cell? ⟨gb207, 0, none⟩ = some (.int .i64 0) := (blk_cell BK207.out 0).trans rfl; have hcz20_1 : w19.cell? ⟨gb207, 1, none⟩ = some (.int .i64 0) := (blk_cell BK207.out 1).trans rfl; have hcz20_2 : w19.cell? ⟨gb207, 2, none⟩ = some (.int .i64 0) := (blk_cell BK207.out 2).trans rfl; have hfz20_0 := blk_frozen BK207.out 0; have hfz20_1 := blk_frozen BK207.out 1; have hfz20_2 := blk_frozen BK207.out 2))
      (try simp only [Act.put, List.setIfInBounds_toArray, List.set_cons_zero, List.set_cons_succ])
      go_cut [58] (fun v58 wc => ∃ (kq : Nat) (x58_16 : Bool), v58 = .bool x58_16 ∧ Aside0 (lanyardlaw10_MomentDays.j1 kq a0 a1 a2 t199 x58_16 = some r) ∧ Aside0 (kq ≤ kj8) ∧ Aside0 (wc.heap[gb207]? = some (.cells #[.int .i64 t203, .int .i64 t204, .int .i64 t205] 26 (0, 0))) ∧ Aside0 (Below w.heap.size w wc))
      case first =>
       have H := HC17.out
       clear HC17
       by_cases c21 : t206 = 0
       ·rw [if_pos c21] at H
        have c21b0 : (t206 == 0) = true := beq_iff_eq.mpr c21
        have c21b1 : (t206 != 0) = false := bne_eq_false_iff_eq.mpr c21
        clear c21
        (first | rw [c21b0] | (simp only [i64_w, i32_w]; rw [c21b0]) | skip)
        have H' := Aside0.mk H
        clear H
        have hcz22_0 : w19.cell? ⟨gb207, 0, none⟩ = some (.int .i64 0) := (blk_cell BK207.out 0).trans rfl
        have hcz22_1 : w19.cell? ⟨gb207, 1, none⟩ = some (.int .i64 0) := (blk_cell BK207.out 1).trans rfl
        have hcz22_2 : w19.cell? ⟨gb207, 2, none⟩ = some (.int .i64 0) := (blk_cell BK207.out 2).trans rfl
        have hfz22_0 := blk_frozen BK207.out 0
        have hfz22_1 := blk_frozen BK207.out 1
        have hfz22_2 := blk_frozen BK207.out 2
        go_wp2
        go_meet
        case rel => exact ⟨_, ((!(t203 == a0) || (!(t204 == a1) || (!(t205 == a2))))), (by first | rfl | (simp; done) | (simp [*]; done)), H', ⟨by have := HJ8.out; first | omega | exact Nat.le_refl _⟩, ⟨by (with_reducible repeat (first | refine blk_drewN ?_ _ | refine blk_drew ?_ | refine blk_alloc ?_ _)); refine blk_put (cs := #[.int .i64 t203, .int .i64 t204, .int .i64 0]) ?_ 2 _ rfl; (with_reducible repeat (first | refine blk_drewN ?_ _ | refine blk_drew ?_ | refine blk_alloc ?_ _)); refine blk_put (cs := #[.int .i64 t203, .int .i64 0, .int .i64 0]) ?_ 1 _ rfl; (with_reducible repeat (first | refine blk_drewN ?_ _ | refine blk_drew ?_ | refine blk_alloc ?_ _)); refine blk_put (cs := #[.int .i64 0, .int .i64 0, .int .i64 0]) ?_ 0 _ rfl; (with_reducible repeat (first | refine blk_drewN ?_ _ | refine blk_drew ?_ | refine blk_alloc ?_ _)); exact BK207.out⟩, ⟨by repeat (first | (with_reducible first | exact HB.out | apply below_alloc | apply pw_below_drewN | apply below_drew1 | refine below_set ?_ GE207.out) | exact HB.out)⟩⟩
       ·rw [if_neg c21] at H
        have c21b0 : (t206 == 0) = false := beq_eq_false_iff_ne.mpr c21
        have c21b1 : (t206 != 0) = true := bne_iff_ne.mpr c21
        (first | rw [c21b0] | (simp only [i64_w, i32_w]; rw [c21b0]) | skip)
        have H' := Aside0.mk H
        clear H
        go_wp2
        go_meet
        case rel => exact ⟨_, (true), (by first | rfl | (simp; done) | (simp [*]; done)), H', ⟨by have := HJ8.out; first | omega | exact Nat.le_refl _⟩, ⟨by (with_reducible repeat (first | refine blk_drewN ?_ _ | refine blk_drew ?_ | refine blk_alloc ?_ _)); refine blk_put (cs := #[.int .i64 t203, .int .i64 t204, .int .i64 0]) ?_ 2 _ rfl; (with_reducible repeat (first | refine blk_drewN ?_ _ | refine blk_drew ?_ | refine blk_alloc ?_ _)); refine blk_put (cs := #[.int .i64 t203, .int .i64 0, .int .i64 0]) ?_ 1 _ rfl; (with_reducible repeat (first | refine blk_drewN ?_ _ | refine blk_drew ?_ | refine blk_alloc ?_ _)); refine blk_put (cs := #[.int .i64 0, .int .i64 0, .int .i64 0]) ?_ 0 _ rfl; (with_reducible repeat (first | refine blk_drewN ?_ _ | refine blk_drew ?_ | refine blk_alloc ?_ _)); exact BK207.out⟩, ⟨by repeat (first | (with_reducible first | exact HB.out | apply below_alloc | apply pw_below_drewN | apply below_drew1 | refine below_set ?_ GE207.out) | exact HB.out)⟩⟩
      case rest =>
       clear HC17
       try clear c1
       try clear c2
       try clear p2
       try clear c4
       try clear c5
       try clear p6
       try clear c8
       try clear c10
       try clear c12
       try clear c12b0
       try clear c12b1
       try clear c15
       try clear c16
       try clear c21
       try clear c21b0
       try clear c21b1
       try clear hcz20_0
       try clear hcz20_1
       try clear hcz20_2
       try clear hcz22_0
       try clear hcz22_1
       try clear hcz22_2
       try clear hfz20_0
       try clear hfz20_1
       try clear hfz20_2
       try clear hfz22_0
       try clear hfz22_1
       try clear hfz22_2
       try clear p2
       obtain ⟨kq, x58_16, rfl, HA, HJ16, BK207, HB⟩ := hcut
       cases kq with
       | zero => exact absurd HA.out (by simp [lanyardlaw10_MomentDays.j1])
       | succ kj16 =>
        have H := HA.out
        clear HA
        simp only [lanyardlaw10_MomentDays.j1] at H
        by_cases c23 : x58_16 = true
        ·subst c23
         have H1 : (some false) = some r := by rw [if_pos rfl] at H; exact H
         clear H
         have H := H1
         clear H1
         exact absurd (Option.some.inj H) (by rw [HR_.out]; decide)
        ·replace c23 := Bool.eq_false_iff.mpr c23
         subst c23
         have H1 : ((moment_Date.f kj16 (wrap64 ((wrap64 (t199 + 1)) * 86400000))).bind fun bt208 => (if a0 = 9999 then (if a1 = 12 then (if a2 = 31 then (some (bt208.2.2.2 == 21)) else ((moment_Days.f kj16 bt208.1 bt208.2.1 bt208.2.2.1).bind fun bt212 => (if bt208.2.2.2 = 0 then (if bt212.2 = 0 then (some (bt212.1 == (wrap64 (t199 + 1)))) else (some false)) else (some false)))) else ((moment_Days.f kj16 bt208.1 bt208.2.1 bt208.2.2.1).bind fun bt214 => (if bt208.2.2.2 = 0 then (if bt214.2 = 0 then (some (bt214.1 == (wrap64 (t199 + 1)))) else (some false)) else (some false)))) else ((moment_Days.f kj16 bt208.1 bt208.2.1 bt208.2.2.1).bind fun bt216 => (if bt208.2.2.2 = 0 then (if bt216.2 = 0 then (some (bt216.1 == (wrap64 (t199 + 1)))) else (some false)) else (some false))))) = some r := by rw [if_neg (show ¬ (false = true) by decide)] at H; exact H
         clear H
         have H := H1
         clear H1
         replace H := Option.bind_eq_some_iff.mp H
         obtain ⟨⟨t208, t209, t210, t211⟩, A240, H⟩ := H
         replace H : (if a0 = 9999 then (if a1 = 12 then (if a2 = 31 then (some (t211 == 21)) else ((moment_Days.f kj16 t208 t209 t210).bind fun bt212 => (if t211 = 0 then (if bt212.2 = 0 then (some (bt212.1 == (wrap64 (t199 + 1)))) else (some false)) else (some false)))) else ((moment_Days.f kj16 t208 t209 t210).bind fun bt214 => (if t211 = 0 then (if bt214.2 = 0 then (some (bt214.1 == (wrap64 (t199 + 1)))) else (some false)) else (some false)))) else ((moment_Days.f kj16 t208 t209 t210).bind fun bt216 => (if t211 = 0 then (if bt216.2 = 0 then (some (bt216.1 == (wrap64 (t199 + 1)))) else (some false)) else (some false)))) = some r := H
         have A24 := Aside0.mk A240
         clear A240
         by_cases c25 : a0 = 9999
         ·rw [if_pos c25] at H
          have c25b0 : (a0 == 9999) = true := beq_iff_eq.mpr c25
          have c25b1 : (a0 != 9999) = false := bne_eq_false_iff_eq.mpr c25
          clear c25
          by_cases c26 : a1 = 12
          ·rw [if_pos c26] at H
           have c26b0 : (a1 == 12) = true := beq_iff_eq.mpr c26
           have c26b1 : (a1 != 12) = false := bne_eq_false_iff_eq.mpr c26
           clear c26
           by_cases c27 : a2 = 31
           ·rw [if_pos c27] at H
            have c27b0 : (a2 == 31) = true := beq_iff_eq.mpr c27
            have c27b1 : (a2 != 31) = false := bne_eq_false_iff_eq.mpr c27
            clear c27
            obtain rfl := Option.some.inj H
            go_wp2_with (first | ((with_reducible refine gate_callee (f := 10) rfl ?_); refine goesA (some 63) Tryd.func10 #[.int .i64 (wrap64 ((wrap64 (t199 + 1)) * 86400000))] rfl ?_; (with_reducible refine (moment_Date.calls kj16 (wrap64 ((wrap64 (t199 + 1)) * 86400000)) t208 t209 t210 t211 _ A24.out).mono ?_); rintro e w28 ⟨rfl, hb⟩; refine ⟨_, rfl, ?_⟩; have n0_ := Aside0.mk (blk_below (g := gb207) (o := .cells #[.int .i64 t203, .int .i64 t204, .int .i64 t205] 26 (0, 0)) (by (with_reducible repeat (first | refine blk_drewN ?_ _ | refine blk_drew ?_ | refine blk_alloc ?_ _)); exact BK207.out) hb); have n1_ := Aside0.mk (below_step (by repeat (first | (with_reducible first | exact HB.out | apply below_alloc | apply pw_below_drewN | apply below_drew1 | refine below_set ?_ GE207.out) | exact HB.out)) hb); clear BK207; clear HB; have BK207 := n0_; have HB := n1_; clear n0_ n1_; (try clear hb); (try clear hb2); (try clear hk); (try clear hi); have hcz29_0 : w28.cell? ⟨gb207, 0, none⟩ = some (.int .i64 t203) := (blk_cell BK207.out 0).trans rfl; have hcz29_1 : w28.cell? ⟨gb207, 1, none⟩ = some (.int .i64 t204) := (blk_cell BK207.out 1).trans rfl; have hcz29_2 : w28.cell? ⟨gb207, 2, none⟩ = some (.int .i64 t205) := (blk_cell BK207.out 2).trans rfl; have hfz29_0 := blk_frozen BK207.out 0; have hfz29_1 := blk_frozen BK207.out 1; have hfz29_2 := blk_frozen BK207.out 2))
            go_ret
            exact ⟨rfl_, by repeat (first | (with_reducible first | exact HB.out | apply below_alloc | apply pw_below_drewN | apply below_drew1 | refine below_set ?_ GE207.out) | exact HB.out)⟩
           ·rw [if_neg c27] at H
            have c27b0 : (a2 == 31) = false := beq_eq_false_iff_ne.mpr c27
            have c27b1 : (a2 != 31) = true := bne_iff_ne.mpr c27
            replace H := Option.bind_eq_some_iff.mp H
            obtain ⟨⟨t212, t213⟩, A300, H⟩ := H
            replace H : (if t211 = 0 then (if t213 = 0 then (some (t212 == (wrap64 (t199 + 1)))) else (some false)) else (some false)) = some r := H
            have A30 := Aside0.mk A300
            clear A300
            by_cases c31 : t211 = 0
            ·rw [if_pos c31] at H
             have c31b0 : (t211 == 0) = true := beq_iff_eq.mpr c31
             have c31b1 : (t211 != 0) = false := bne_eq_false_iff_eq.mpr c31
             clear c31
             by_cases c32 : t213 = 0
             ·rw [if_pos c32] at H
              have c32b0 : (t213 == 0) = true := beq_iff_eq.mpr c32
              have c32b1 : (t213 != 0) = false := bne_eq_false_iff_eq.mpr c32
              clear c32
              obtain rfl := Option.some.inj H
              go_wp2_with (first | ((with_reducible refine gate_callee (f := 10) rfl ?_); refine goesA (some 63) Tryd.func10 #[.int .i64 (wrap64 ((wrap64 (t199 + 1)) * 86400000))] rfl ?_; (with_reducible refine (moment_Date.calls kj16 (wrap64 ((wrap64 (t199 + 1)) * 86400000)) t208 t209 t210 t211 _ A24.out).mono ?_); rintro e w33 ⟨rfl, hb⟩; refine ⟨_, rfl, ?_⟩; have n0_ := Aside0.mk (blk_below (g := gb207) (o := .cells #[.int .i64 t203, .int .i64 t204, .int .i64 t205] 26 (0, 0)) (by (with_reducible repeat (first | refine blk_drewN ?_ _ | refine blk_drew ?_ | refine blk_alloc ?_ _)); exact BK207.out) hb); have n1_ := Aside0.mk (below_step (by repeat (first | (with_reducible first | exact HB.out | apply below_alloc | apply pw_below_drewN | apply below_drew1 | refine below_set ?_ GE207.out) | exact HB.out)) hb); clear BK207; clear HB; have BK207 := n0_; have HB := n1_; clear n0_ n1_; (try clear hb); (try clear hb2); (try clear hk); (try clear hi); have hcz34_0 : w33.cell? ⟨gb207, 0, none⟩ = some (.int .i64 t203) := (blk_cell BK207.out 0).trans rfl; have hcz34_1 : w33.cell? ⟨gb207, 1, none⟩ = some (.int .i64 t204) := (blk_cell BK207.out 1).trans rfl; have hcz34_2 : w33.cell? ⟨gb207, 2, none⟩ = some (.int .i64 t205) := (blk_cell BK207.out 2).trans rfl; have hfz34_0 := blk_frozen BK207.out 0; have hfz34_1 := blk_frozen BK207.out 1; have hfz34_2 := blk_frozen BK207.out 2) | ((with_reducible refine gate_callee (f := 15) rfl ?_); refine goesA (some 85) Tryd.func15 #[.int .i64 t208, .int .i64 t209, .int .i64 t210] rfl ?_; (with_reducible refine (moment_Days.calls kj16 t208 t209 t210 t212 t213 _ A30.out).mono ?_); rintro e w' ⟨rfl, ⟨nd, rfl⟩⟩; refine ⟨_, rfl, ?_⟩))
              go_ret
              exact ⟨rfl_, by repeat (first | (with_reducible first | exact HB.out | apply below_alloc | apply pw_below_drewN | apply below_drew1 | refine below_set ?_ GE207.out) | exact HB.out)⟩
             ·rw [if_neg c32] at H
              have c32b0 : (t213 == 0) = false := beq_eq_false_iff_ne.mpr c32
              have c32b1 : (t213 != 0) = true := bne_iff_ne.mpr c32
              exact absurd (Option.some.inj H) (by rw [HR_.out]; decide)
            ·rw [if_neg c31] at H
             have c31b0 : (t211 == 0) = false := beq_eq_false_iff_ne.mpr c31
             have c31b1 : (t211 != 0) = true := bne_iff_ne.mpr c31
             exact absurd (Option.some.inj H) (by rw [HR_.out]; decide)
          ·rw [if_neg c26] at H
           have c26b0 : (a1 == 12) = false := beq_eq_false_iff_ne.mpr c26
           have c26b1 : (a1 != 12) = true := bne_iff_ne.mpr c26
           replace H := Option.bind_eq_some_iff.mp H
           obtain ⟨⟨t214, t215⟩, A390, H⟩ := H
           replace H : (if t211 = 0 then (if t215 = 0 then (some (t214 == (wrap64 (t199 + 1)))) else (some false)) else (some false)) = some r := H
           have A39 := Aside0.mk A390
           clear A390
           by_cases c40 : t211 = 0
           ·rw [if_pos c40] at H
            have c40b0 : (t211 == 0) = true := beq_iff_eq.mpr c40
            have c40b1 : (t211 != 0) = false := bne_eq_false_iff_eq.mpr c40
            clear c40
            by_cases c41 : t215 = 0
            ·rw [if_pos c41] at H
             have c41b0 : (t215 == 0) = true := beq_iff_eq.mpr c41
             have c41b1 : (t215 != 0) = false := bne_eq_false_iff_eq.mpr c41
             clear c41
             obtain rfl := Option.some.inj H
             go_wp2_with (first | ((with_reducible refine gate_callee (f := 10) rfl ?_); refine goesA (some 63) Tryd.func10 #[.int .i64 (wrap64 ((wrap64 (t199 + 1)) * 86400000))] rfl ?_; (with_reducible refine (moment_Date.calls kj16 (wrap64 ((wrap64 (t199 + 1)) * 86400000)) t208 t209 t210 t211 _ A24.out).mono ?_); rintro e w42 ⟨rfl, hb⟩; refine ⟨_, rfl, ?_⟩; have n0_ := Aside0.mk (blk_below (g := gb207) (o := .cells #[.int .i64 t203, .int .i64 t204, .int .i64 t205] 26 (0, 0)) (by (with_reducible repeat (first | refine blk_drewN ?_ _ | refine blk_drew ?_ | refine blk_alloc ?_ _)); exact BK207.out) hb); have n1_ := Aside0.mk (below_step (by repeat (first | (with_reducible first | exact HB.out | apply below_alloc | apply pw_below_drewN | apply below_drew1 | refine below_set ?_ GE207.out) | exact HB.out)) hb); clear BK207; clear HB; have BK207 := n0_; have HB := n1_; clear n0_ n1_; (try clear hb); (try clear hb2); (try clear hk); (try clear hi); have hcz43_0 : w42.cell? ⟨gb207, 0, none⟩ = some (.int .i64 t203) := (blk_cell BK207.out 0).trans rfl; have hcz43_1 : w42.cell? ⟨gb207, 1, none⟩ = some (.int .i64 t204) := (blk_cell BK207.out 1).trans rfl; have hcz43_2 : w42.cell? ⟨gb207, 2, none⟩ = some (.int .i64 t205) := (blk_cell BK207.out 2).trans rfl; have hfz43_0 := blk_frozen BK207.out 0; have hfz43_1 := blk_frozen BK207.out 1; have hfz43_2 := blk_frozen BK207.out 2) | ((with_reducible refine gate_callee (f := 15) rfl ?_); refine goesA (some 85) Tryd.func15 #[.int .i64 t208, .int .i64 t209, .int .i64 t210] rfl ?_; (with_reducible refine (moment_Days.calls kj16 t208 t209 t210 t214 t215 _ A39.out).mono ?_); rintro e w' ⟨rfl, ⟨nd, rfl⟩⟩; refine ⟨_, rfl, ?_⟩))
             go_ret
             exact ⟨rfl_, by repeat (first | (with_reducible first | exact HB.out | apply below_alloc | apply pw_below_drewN | apply below_drew1 | refine below_set ?_ GE207.out) | exact HB.out)⟩
            ·rw [if_neg c41] at H
             have c41b0 : (t215 == 0) = false := beq_eq_false_iff_ne.mpr c41
             have c41b1 : (t215 != 0) = true := bne_iff_ne.mpr c41
             exact absurd (Option.some.inj H) (by rw [HR_.out]; decide)
           ·rw [if_neg c40] at H
            have c40b0 : (t211 == 0) = false := beq_eq_false_iff_ne.mpr c40
            have c40b1 : (t211 != 0) = true := bne_iff_ne.mpr c40
            exact absurd (Option.some.inj H) (by rw [HR_.out]; decide)
         ·rw [if_neg c25] at H
          have c25b0 : (a0 == 9999) = false := beq_eq_false_iff_ne.mpr c25
          have c25b1 : (a0 != 9999) = true := bne_iff_ne.mpr c25
          replace H := Option.bind_eq_some_iff.mp H
          obtain ⟨⟨t216, t217⟩, A480, H⟩ := H
          replace H : (if t211 = 0 then (if t217 = 0 then (some (t216 == (wrap64 (t199 + 1)))) else (some false)) else (some false)) = some r := H
          have A48 := Aside0.mk A480
          clear A480
          by_cases c49 : t211 = 0
          ·rw [if_pos c49] at H
           have c49b0 : (t211 == 0) = true := beq_iff_eq.mpr c49
           have c49b1 : (t211 != 0) = false := bne_eq_false_iff_eq.mpr c49
           clear c49
           by_cases c50 : t217 = 0
           ·rw [if_pos c50] at H
            have c50b0 : (t217 == 0) = true := beq_iff_eq.mpr c50
            have c50b1 : (t217 != 0) = false := bne_eq_false_iff_eq.mpr c50
            clear c50
            obtain rfl := Option.some.inj H
            go_wp2_with (first | ((with_reducible refine gate_callee (f := 10) rfl ?_); refine goesA (some 63) Tryd.func10 #[.int .i64 (wrap64 ((wrap64 (t199 + 1)) * 86400000))] rfl ?_; (with_reducible refine (moment_Date.calls kj16 (wrap64 ((wrap64 (t199 + 1)) * 86400000)) t208 t209 t210 t211 _ A24.out).mono ?_); rintro e w51 ⟨rfl, hb⟩; refine ⟨_, rfl, ?_⟩; have n0_ := Aside0.mk (blk_below (g := gb207) (o := .cells #[.int .i64 t203, .int .i64 t204, .int .i64 t205] 26 (0, 0)) (by (with_reducible repeat (first | refine blk_drewN ?_ _ | refine blk_drew ?_ | refine blk_alloc ?_ _)); exact BK207.out) hb); have n1_ := Aside0.mk (below_step (by repeat (first | (with_reducible first | exact HB.out | apply below_alloc | apply pw_below_drewN | apply below_drew1 | refine below_set ?_ GE207.out) | exact HB.out)) hb); clear BK207; clear HB; have BK207 := n0_; have HB := n1_; clear n0_ n1_; (try clear hb); (try clear hb2); (try clear hk); (try clear hi); have hcz52_0 : w51.cell? ⟨gb207, 0, none⟩ = some (.int .i64 t203) := (blk_cell BK207.out 0).trans rfl; have hcz52_1 : w51.cell? ⟨gb207, 1, none⟩ = some (.int .i64 t204) := (blk_cell BK207.out 1).trans rfl; have hcz52_2 : w51.cell? ⟨gb207, 2, none⟩ = some (.int .i64 t205) := (blk_cell BK207.out 2).trans rfl; have hfz52_0 := blk_frozen BK207.out 0; have hfz52_1 := blk_frozen BK207.out 1; have hfz52_2 := blk_frozen BK207.out 2) | ((with_reducible refine gate_callee (f := 15) rfl ?_); refine goesA (some 85) Tryd.func15 #[.int .i64 t208, .int .i64 t209, .int .i64 t210] rfl ?_; (with_reducible refine (moment_Days.calls kj16 t208 t209 t210 t216 t217 _ A48.out).mono ?_); rintro e w' ⟨rfl, ⟨nd, rfl⟩⟩; refine ⟨_, rfl, ?_⟩))
            go_ret
            exact ⟨rfl_, by repeat (first | (with_reducible first | exact HB.out | apply below_alloc | apply pw_below_drewN | apply below_drew1 | refine below_set ?_ GE207.out) | exact HB.out)⟩
           ·rw [if_neg c50] at H
            have c50b0 : (t217 == 0) = false := beq_eq_false_iff_ne.mpr c50
            have c50b1 : (t217 != 0) = true := bne_iff_ne.mpr c50
            exact absurd (Option.some.inj H) (by rw [HR_.out]; decide)
          ·rw [if_neg c49] at H
           have c49b0 : (t211 == 0) = false := beq_eq_false_iff_ne.mpr c49
           have c49b1 : (t211 != 0) = true := bne_iff_ne.mpr c49
           exact absurd (Option.some.inj H) (by rw [HR_.out]; decide)
  ·replace c8 := Bool.eq_false_iff.mpr c8
   subst c8
   have H1 : (if t200 = 2 then (some (t199 == 0)) else (some false)) = some r := by rw [if_neg (show ¬ (false = true) by decide)] at H; exact H
   clear H
   have H := H1
   clear H1
   by_cases c57 : t200 = 2
   ·rw [if_pos c57] at H
    have c57b0 : (t200 == 2) = true := beq_iff_eq.mpr c57
    have c57b1 : (t200 != 2) = false := bne_eq_false_iff_eq.mpr c57
    clear c57
    obtain rfl := Option.some.inj H
    go_enter Tryd.func4, Tryd.ntmps4
    go_wp2_with (first | ((with_reducible refine gate_callee (f := 8) rfl ?_); refine goesA (some 13) Tryd.func8 #[] rfl ?_; (with_reducible refine (lanyardlaw10_awake.calls k  true _ ?sideU A4.out).mono ?_); (case sideU => first | exact HU.out | exact Uni.up HU (Bu HB) | exact Uni.below HU.out (by assumption)); rintro e w58 ⟨rfl, hb⟩; refine ⟨_, rfl, ?_⟩; have n0_ := Bs HB hb; clear HB; revert n0_; intro HB; (try clear hb); (try clear hb2); (try clear hk); (try clear hi)) | ((with_reducible refine gate_callee (f := 15) rfl ?_); refine goesA (some 19) Tryd.func15 #[.int .i64 a0, .int .i64 a1, .int .i64 a2] rfl ?_; (with_reducible refine (moment_Days.calls k a0 a1 a2 t199 t200 _ A6.out).mono ?_); rintro e w' ⟨rfl, ⟨nd, rfl⟩⟩; refine ⟨_, rfl, ?_⟩) | ((with_reducible refine gate_callee (f := 16) rfl ?_); refine goesA (some 25) Tryd.func16 #[.int .i64 a0, .int .i64 a1, .int .i64 a2] rfl ?_; (with_reducible refine (lanyardref10_Right.calls a0 a1 a2 false _ A7.out).mono ?_); rintro e w59 ⟨rfl, hb⟩; refine ⟨_, rfl, ?_⟩; have n0_ := Bs HB hb; clear HB; revert n0_; intro HB; (try clear hb); (try clear hb2); (try clear hk); (try clear hi)))
    go_ret
    exact ⟨rfl_, Bu HB⟩
   ·rw [if_neg c57] at H
    have c57b0 : (t200 == 2) = false := beq_eq_false_iff_ne.mpr c57
    have c57b1 : (t200 != 2) = true := bne_iff_ne.mpr c57
    exact absurd (Option.some.inj H) (by rw [HR_.out]; decide)
 ·replace c5 := Bool.eq_false_iff.mpr c5
  subst c5
  have H1 : (some false) = some r := by rw [if_neg (show ¬ (false = true) by decide)] at H; exact H
  clear H
  have H := H1
  clear H1
  exact absurd (Option.some.inj H) (by rw [HR_.out]; decide)
/-- THE ONE PURE STATEMENT of lanyardlaw10_MomentDays: yours. -/
def lanyardlaw10_MomentDays.Pure : Prop := ∀ (a0 : Int) (a1 : Int) (a2 : Int), (Lit.int .i64 a0).wf = true → (Lit.int .i64 a1).wf = true → (Lit.int .i64 a2).wf = true → ∃ k, lanyardlaw10_MomentDays.f k a0 a1 a2 = some true
theorem lanyardlaw10_MomentDays.walk (P : lanyardlaw10_MomentDays.Pure) (a0 : Int) (a1 : Int) (a2 : Int) (w : World) (w0 : (Lit.int .i64 a0).wf = true) (w1 : (Lit.int .i64 a1).wf = true) (w2 : (Lit.int .i64 a2).wf = true) (hU : Uni w) :
  Calls Tryd.prog 4 #[.int .i64 a0, .int .i64 a1, .int .i64 a2] w fun e w' => e = .returned (.bool true) ∧ Below w.heap.size w w' := by
 obtain ⟨k, h⟩ := P a0 a1 a2 w0 w1 w2
 refine (lanyardlaw10_MomentDays.calls k a0 a1 a2 true w hU h).mono ?_
 rintro e w' ⟨rfl, hd⟩
 exact ⟨rfl, hd⟩

end Go.Proofs.YtcikjghmelbkaaaDoor.Hp
