/- Go functions of this seat as Lean functions, and their contracts: what the Go code computes, for every input. (By hp.py, a program of this repo, over the kit's print.py.) -/
import Derived.Test.YtcikjghmelbkaaaDoorHp0
import Derived.Test.YtcikjghmelbkaaaDoorHp1
import Derived.Test.YtcikjghmelbkaaaDoorHp2
import Derived.Test.YtcikjghmelbkaaaDoorHp3
import Derived.Test.YtcikjghmelbkaaaDoorHp6
import Derived.Test.YtcikjghmelbkaaaDoorHp7
namespace Go.Proofs.YtcikjghmelbkaaaDoor.Hp
open Go.RowKit Go.Proofs.YtcikjghmelbkaaaDoorW.PrintWords Go.Proofs.YtcikjghmelbkaaaDoorW.PrintLast Go.Proofs.YtcikjghmelbkaaaDoorW.PrintMore
attribute [local go_sem] max2_int min2_int max_two min_two max_three min_three max_four min_four   -- for this text's walks alone
set_option linter.unusedVariables false
set_option linter.unusedSimpArgs false

attribute [local go_sem high] eqA26
/-! ### lanyardlaw10_MomentPrints: function 3 -/
def lanyardlaw10_MomentPrints.f (k : Nat) (a0 : Int) : Option (Bool) := (lanyardlaw10_awake.f k).bind fun t183 => (if t183 = true then ((moment_Print.f k a0).bind fun bt184 => ((moment_Date.f k a0).bind fun bt186 => ((lanyardref10_Is.f a0).bind fun t191 => (if t191 = true then ((lanyardref10_Date.f k a0).bind fun bt192 => ((moment_Parse.f k bt184.1).bind fun bt195 => (if bt184.2 = 0 then ((lanyardref10_Print.f k a0).bind fun t197 => (if bt184.1.toList = t197.toList then (if bt186.2.2.2 = 0 then (if (bt186.1 == bt192.1 && (bt186.2.1 == bt192.2.1 && (bt186.2.2.1 == bt192.2.2))) = true then (if bt195.2 = 0 then (some (bt195.1 == a0)) else (some false)) else (some false)) else (some false)) else (some false))) else (some false)))) else (if bt184.2 = 21 then (if bt184.1.toList = ([] : List UInt8) then (if bt186.2.2.2 = 21 then (some (bt186.1 == 0 && (bt186.2.1 == 0 && (bt186.2.2.1 == 0)))) else (some false)) else (some false)) else (some false)))))) else (some false))
theorem lanyardlaw10_MomentPrints.mono : ∀ a0 k, LeO (lanyardlaw10_MomentPrints.f k a0) (lanyardlaw10_MomentPrints.f (k + 1) a0) := by
 intro a0 k
 unfold lanyardlaw10_MomentPrints.f
 repeat' first
   | (with_reducible exact lanyardlaw10_awake.mono _)
   | (with_reducible exact lanyardref10_Date.mono _ _)
   | (with_reducible exact lanyardref10_Print.mono _ _)
   | (with_reducible exact moment_Date.mono _ _)
   | (with_reducible exact moment_Parse.mono _ _)
   | (with_reducible exact moment_Print.mono _ _)
   | (with_reducible exact LeO.refl _)
   | (with_reducible exact LeO.none _)
   | (with_reducible refine LeO.ite ?_ ?_)
   | (with_reducible refine LeO.bind ?_ (fun _ => ?_))
   | exact lanyardlaw10_awake.mono _
   | exact lanyardref10_Date.mono _ _
   | exact lanyardref10_Print.mono _ _
   | exact moment_Date.mono _ _
   | exact moment_Parse.mono _ _
   | exact moment_Print.mono _ _
   | exact LeO.none _
   | refine LeO.ite ?_ ?_
   | refine LeO.bind ?_ (fun _ => ?_)
set_option maxHeartbeats 8000000 in
set_option maxRecDepth 100000 in
theorem lanyardlaw10_MomentPrints.calls (k : Nat) (a0 : Int) (r : Bool) (w : World) (hU : Uni w) (h : lanyardlaw10_MomentPrints.f k a0 = some r) (hr_ : r = true := by rfl) :
  Calls Tryd.prog 3 #[.int .i64 a0] w fun e w' => e = .returned (.bool r) ∧ Below w.heap.size w w' := by
 have HU := Aside0.mk hU
 clear hU
 have HR_ := Aside0.mk hr_
 clear hr_
 have hu26 := Tryd.underlying26
 have HB := Aside0.mk (Below.refl w.heap.size w)
 have H : ((lanyardlaw10_awake.f k).bind fun t183 => (if t183 = true then ((moment_Print.f k a0).bind fun bt184 => ((moment_Date.f k a0).bind fun bt186 => ((lanyardref10_Is.f a0).bind fun t191 => (if t191 = true then ((lanyardref10_Date.f k a0).bind fun bt192 => ((moment_Parse.f k bt184.1).bind fun bt195 => (if bt184.2 = 0 then ((lanyardref10_Print.f k a0).bind fun t197 => (if bt184.1.toList = t197.toList then (if bt186.2.2.2 = 0 then (if (bt186.1 == bt192.1 && (bt186.2.1 == bt192.2.1 && (bt186.2.2.1 == bt192.2.2))) = true then (if bt195.2 = 0 then (some (bt195.1 == a0)) else (some false)) else (some false)) else (some false)) else (some false))) else (some false)))) else (if bt184.2 = 21 then (if bt184.1.toList = ([] : List UInt8) then (if bt186.2.2.2 = 21 then (some (bt186.1 == 0 && (bt186.2.1 == 0 && (bt186.2.2.1 == 0)))) else (some false)) else (some false)) else (some false)))))) else (some false))) = some r := h
 clear h
 replace H := Option.bind_eq_some_iff.mp H
 obtain ⟨t183, A20, H⟩ := H
 replace H : (if t183 = true then ((moment_Print.f k a0).bind fun bt184 => ((moment_Date.f k a0).bind fun bt186 => ((lanyardref10_Is.f a0).bind fun t191 => (if t191 = true then ((lanyardref10_Date.f k a0).bind fun bt192 => ((moment_Parse.f k bt184.1).bind fun bt195 => (if bt184.2 = 0 then ((lanyardref10_Print.f k a0).bind fun t197 => (if bt184.1.toList = t197.toList then (if bt186.2.2.2 = 0 then (if (bt186.1 == bt192.1 && (bt186.2.1 == bt192.2.1 && (bt186.2.2.1 == bt192.2.2))) = true then (if bt195.2 = 0 then (some (bt195.1 == a0)) else (some false)) else (some false)) else (some false)) else (some false))) else (some false)))) else (if bt184.2 = 21 then (if bt184.1.toList = ([] : List UInt8) then (if bt186.2.2.2 = 21 then (some (bt186.1 == 0 && (bt186.2.1 == 0 && (bt186.2.2.1 == 0)))) else (some false)) else (some false)) else (some false)))))) else (some false)) = some r := H
 have A2 := Aside0.mk A20
 clear A20
 by_cases c3 : t183 = true
 ·subst c3
  have H1 : ((moment_Print.f k a0).bind fun bt184 => ((moment_Date.f k a0).bind fun bt186 => ((lanyardref10_Is.f a0).bind fun t191 => (if t191 = true then ((lanyardref10_Date.f k a0).bind fun bt192 => ((moment_Parse.f k bt184.1).bind fun bt195 => (if bt184.2 = 0 then ((lanyardref10_Print.f k a0).bind fun t197 => (if bt184.1.toList = t197.toList then (if bt186.2.2.2 = 0 then (if (bt186.1 == bt192.1 && (bt186.2.1 == bt192.2.1 && (bt186.2.2.1 == bt192.2.2))) = true then (if bt195.2 = 0 then (some (bt195.1 == a0)) else (some false)) else (some false)) else (some false)) else (some false))) else (some false)))) else (if bt184.2 = 21 then (if bt184.1.toList = ([] : List UInt8) then (if bt186.2.2.2 = 21 then (some (bt186.1 == 0 && (bt186.2.1 == 0 && (bt186.2.2.1 == 0)))) else (some false)) else (some false)) else (some false)))))) = some r := by rw [if_pos rfl] at H; exact H
  clear H
  have H := H1
  clear H1
  replace H := Option.bind_eq_some_iff.mp H
  obtain ⟨⟨t184, t185⟩, A40, H⟩ := H
  replace H : ((moment_Date.f k a0).bind fun bt186 => ((lanyardref10_Is.f a0).bind fun t191 => (if t191 = true then ((lanyardref10_Date.f k a0).bind fun bt192 => ((moment_Parse.f k t184).bind fun bt195 => (if t185 = 0 then ((lanyardref10_Print.f k a0).bind fun t197 => (if t184.toList = t197.toList then (if bt186.2.2.2 = 0 then (if (bt186.1 == bt192.1 && (bt186.2.1 == bt192.2.1 && (bt186.2.2.1 == bt192.2.2))) = true then (if bt195.2 = 0 then (some (bt195.1 == a0)) else (some false)) else (some false)) else (some false)) else (some false))) else (some false)))) else (if t185 = 21 then (if t184.toList = ([] : List UInt8) then (if bt186.2.2.2 = 21 then (some (bt186.1 == 0 && (bt186.2.1 == 0 && (bt186.2.2.1 == 0)))) else (some false)) else (some false)) else (some false))))) = some r := H
  have A4 := Aside0.mk A40
  clear A40
  replace H := Option.bind_eq_some_iff.mp H
  obtain ⟨⟨t186, t187, t188, t189⟩, A50, H⟩ := H
  replace H : ((lanyardref10_Is.f a0).bind fun t191 => (if t191 = true then ((lanyardref10_Date.f k a0).bind fun bt192 => ((moment_Parse.f k t184).bind fun bt195 => (if t185 = 0 then ((lanyardref10_Print.f k a0).bind fun t197 => (if t184.toList = t197.toList then (if t189 = 0 then (if (t186 == bt192.1 && (t187 == bt192.2.1 && (t188 == bt192.2.2))) = true then (if bt195.2 = 0 then (some (bt195.1 == a0)) else (some false)) else (some false)) else (some false)) else (some false))) else (some false)))) else (if t185 = 21 then (if t184.toList = ([] : List UInt8) then (if t189 = 21 then (some (t186 == 0 && (t187 == 0 && (t188 == 0)))) else (some false)) else (some false)) else (some false)))) = some r := H
  have A5 := Aside0.mk A50
  clear A50
  replace H := Option.bind_eq_some_iff.mp H
  obtain ⟨t191, A60, H⟩ := H
  replace H : (if t191 = true then ((lanyardref10_Date.f k a0).bind fun bt192 => ((moment_Parse.f k t184).bind fun bt195 => (if t185 = 0 then ((lanyardref10_Print.f k a0).bind fun t197 => (if t184.toList = t197.toList then (if t189 = 0 then (if (t186 == bt192.1 && (t187 == bt192.2.1 && (t188 == bt192.2.2))) = true then (if bt195.2 = 0 then (some (bt195.1 == a0)) else (some false)) else (some false)) else (some false)) else (some false))) else (some false)))) else (if t185 = 21 then (if t184.toList = ([] : List UInt8) then (if t189 = 21 then (some (t186 == 0 && (t187 == 0 && (t188 == 0)))) else (some false)) else (some false)) else (some false))) = some r := H
  have A6 := Aside0.mk A60
  clear A60
  by_cases c7 : t191 = true
  ·subst c7
   have H1 : ((lanyardref10_Date.f k a0).bind fun bt192 => ((moment_Parse.f k t184).bind fun bt195 => (if t185 = 0 then ((lanyardref10_Print.f k a0).bind fun t197 => (if t184.toList = t197.toList then (if t189 = 0 then (if (t186 == bt192.1 && (t187 == bt192.2.1 && (t188 == bt192.2.2))) = true then (if bt195.2 = 0 then (some (bt195.1 == a0)) else (some false)) else (some false)) else (some false)) else (some false))) else (some false)))) = some r := by rw [if_pos rfl] at H; exact H
   clear H
   have H := H1
   clear H1
   replace H := Option.bind_eq_some_iff.mp H
   obtain ⟨⟨t192, t193, t194⟩, A80, H⟩ := H
   replace H : ((moment_Parse.f k t184).bind fun bt195 => (if t185 = 0 then ((lanyardref10_Print.f k a0).bind fun t197 => (if t184.toList = t197.toList then (if t189 = 0 then (if (t186 == t192 && (t187 == t193 && (t188 == t194))) = true then (if bt195.2 = 0 then (some (bt195.1 == a0)) else (some false)) else (some false)) else (some false)) else (some false))) else (some false))) = some r := H
   have A8 := Aside0.mk A80
   clear A80
   replace H := Option.bind_eq_some_iff.mp H
   obtain ⟨⟨t195, t196⟩, A90, H⟩ := H
   replace H : (if t185 = 0 then ((lanyardref10_Print.f k a0).bind fun t197 => (if t184.toList = t197.toList then (if t189 = 0 then (if (t186 == t192 && (t187 == t193 && (t188 == t194))) = true then (if t196 = 0 then (some (t195 == a0)) else (some false)) else (some false)) else (some false)) else (some false))) else (some false)) = some r := H
   have A9 := Aside0.mk A90
   clear A90
   by_cases c10 : t185 = 0
   ·rw [if_pos c10] at H
    have c10b0 : (t185 == 0) = true := beq_iff_eq.mpr c10
    have c10b1 : (t185 != 0) = false := bne_eq_false_iff_eq.mpr c10
    clear c10
    replace H := Option.bind_eq_some_iff.mp H
    obtain ⟨t197, A110, H⟩ := H
    replace H : (if t184.toList = t197.toList then (if t189 = 0 then (if (t186 == t192 && (t187 == t193 && (t188 == t194))) = true then (if t196 = 0 then (some (t195 == a0)) else (some false)) else (some false)) else (some false)) else (some false)) = some r := H
    have A11 := Aside0.mk A110
    clear A110
    by_cases c12 : t184.toList = t197.toList
    ·rw [if_pos c12] at H
     have c12b0 : (t184.toList == t197.toList) = true := beq_iff_eq.mpr c12
     have c12b1 : (t184.toList != t197.toList) = false := bne_eq_false_iff_eq.mpr c12
     clear c12
     by_cases c13 : t189 = 0
     ·rw [if_pos c13] at H
      have c13b0 : (t189 == 0) = true := beq_iff_eq.mpr c13
      have c13b1 : (t189 != 0) = false := bne_eq_false_iff_eq.mpr c13
      clear c13
      by_cases c14 : (t186 == t192 && (t187 == t193 && (t188 == t194))) = true
      ·rw [if_pos c14] at H
       have c14b0 : (t186 == t192 && (t187 == t193 && (t188 == t194))) = true := c14
       (try (have c14b1 : decide (t186 = t192 && (t187 == t193 && (t188 == t194))) = true := by simpa using c14))
       (try (have c14b2 : (t186 == t192 && (t187 == t193 && (t188 == t194))) = true := by simpa using c14))
       clear c14
       by_cases c15 : t196 = 0
       ·rw [if_pos c15] at H
        have c15b0 : (t196 == 0) = true := beq_iff_eq.mpr c15
        have c15b1 : (t196 != 0) = false := bne_eq_false_iff_eq.mpr c15
        clear c15
        obtain rfl := Option.some.inj H
        go_enter Tryd.func3, Tryd.ntmps3
        go_wp2_with (first | ((with_reducible refine gate_callee (f := 8) rfl ?_); refine goesA (some 12) Tryd.func8 #[] rfl ?_; (with_reducible refine (lanyardlaw10_awake.calls k  true _ ?sideU A2.out).mono ?_); (case sideU => first | exact HU.out | exact Uni.up HU (Bu HB) | exact Uni.below HU.out (by assumption)); rintro e w16 ⟨rfl, hb⟩; refine ⟨_, rfl, ?_⟩; have n0_ := Bs HB hb; clear HB; revert n0_; intro HB; (try clear hb); (try clear hb2); (try clear hk); (try clear hi)) | ((with_reducible refine gate_callee (f := 9) rfl ?_); refine goesA (some 16) Tryd.func9 #[.int .i64 a0] rfl ?_; (with_reducible refine (moment_Print.calls k a0 t184 t185 _ A4.out).mono ?_); rintro e w17 ⟨rfl, hb⟩; refine ⟨_, rfl, ?_⟩; have n0_ := Bs HB hb; clear HB; revert n0_; intro HB; (try clear hb); (try clear hb2); (try clear hk); (try clear hi)) | ((with_reducible refine gate_callee (f := 10) rfl ?_); refine goesA (some 21) Tryd.func10 #[.int .i64 a0] rfl ?_; (with_reducible refine (moment_Date.calls k a0 t186 t187 t188 t189 _ A5.out).mono ?_); rintro e w18 ⟨rfl, hb⟩; refine ⟨_, rfl, ?_⟩; have n0_ := Bs HB hb; clear HB; revert n0_; intro HB; (try clear hb); (try clear hb2); (try clear hk); (try clear hi)) | ((with_reducible refine gate_dst (N := 5) rfl ?_); refine box_event ?hg (N := 5) ?hd (cs := #[.int .i64 0, .int .i64 0, .int .i64 0]) (t := 26) ?hr ?_; (case hd => rfl); (case hg => rfl); (case hr => first | (go_simp; done) | (go_simp; rfl)); intro gb190 hg w19 hbox hb; have n0_ := Bs HB hb; have n1_ := Aside0.mk (hbox); have n2_ := Aside0.mk ((by rw [hg]; exact (Bz HB) : w.heap.size ≤ gb190)); have n3_ := Aside0.mk ((by rw [hg]; exact (Bz HB) : w.heap.size ≤ gb190)); clear HB; have HB := n0_; have BK190 := n1_; have GW190 := n2_; have GE190 := n3_; clear n0_ n1_ n2_ n3_; clear hb hbox hg; have hcz20_0 : w19.cell? ⟨gb190, 0, none⟩ = some (.int .i64 0) := (blk_cell BK190.out 0).trans rfl; have hcz20_1 : w19.cell? ⟨gb190, 1, none⟩ = some (.int .i64 0) := (blk_cell BK190.out 1).trans rfl; have hcz20_2 : w19.cell? ⟨gb190, 2, none⟩ = some (.int .i64 0) := (blk_cell BK190.out 2).trans rfl; have hfz20_0 := blk_frozen BK190.out 0; have hfz20_1 := blk_frozen BK190.out 1; have hfz20_2 := blk_frozen BK190.out 2) | ((with_reducible refine gate_callee (f := 11) rfl ?_); refine goesA (some 25) Tryd.func11 #[.int .i64 a0] rfl ?_; (with_reducible refine (lanyardref10_Is.calls a0 true _ A6.out).mono ?_); rintro e w' ⟨rfl, ⟨nd, rfl⟩⟩; refine ⟨_, rfl, ?_⟩) | ((with_reducible refine gate_callee (f := 12) rfl ?_); refine goesA (some 44) Tryd.func12 #[.int .i64 a0] rfl ?_; (with_reducible refine (lanyardref10_Date.calls k a0 t192 t193 t194 _ A8.out).mono ?_); rintro e w21 ⟨rfl, hb⟩; refine ⟨_, rfl, ?_⟩; have n0_ := Aside0.mk (blk_below (g := gb190) (o := .cells #[.int .i64 t186, .int .i64 t187, .int .i64 t188] 26 (0, 0)) (by (with_reducible repeat (first | refine blk_drewN ?_ _ | refine blk_drew ?_ | refine blk_alloc ?_ _)); refine blk_put (cs := #[.int .i64 t186, .int .i64 t187, .int .i64 0]) ?_ 2 _ rfl; (with_reducible repeat (first | refine blk_drewN ?_ _ | refine blk_drew ?_ | refine blk_alloc ?_ _)); refine blk_put (cs := #[.int .i64 t186, .int .i64 0, .int .i64 0]) ?_ 1 _ rfl; (with_reducible repeat (first | refine blk_drewN ?_ _ | refine blk_drew ?_ | refine blk_alloc ?_ _)); refine blk_put (cs := #[.int .i64 0, .int .i64 0, .int .i64 0]) ?_ 0 _ rfl; (with_reducible repeat (first | refine blk_drewN ?_ _ | refine blk_drew ?_ | refine blk_alloc ?_ _)); exact BK190.out) hb); have n1_ := Aside0.mk (below_step (by repeat (first | (with_reducible first | exact HB.out | apply below_alloc | apply pw_below_drewN | apply below_drew1 | refine below_set ?_ GE190.out) | exact HB.out)) hb); clear BK190; clear HB; have BK190 := n0_; have HB := n1_; clear n0_ n1_; (try clear hb); (try clear hb2); (try clear hk); (try clear hi)) | ((with_reducible refine gate_callee (f := 13) rfl ?_); refine goesA (some 50) Tryd.func13 #[.string t184] rfl ?_; (with_reducible refine (moment_Parse.calls k t184 t195 t196 _ ?sideU A9.out).mono ?_); (case sideU => first | exact HU.out | exact Uni.up HU (Bu HB) | exact Uni.below HU.out (by assumption)); rintro e w22 ⟨rfl, hb⟩; refine ⟨_, rfl, ?_⟩; have n0_ := Aside0.mk (blk_below (g := gb190) (o := .cells #[.int .i64 t186, .int .i64 t187, .int .i64 t188] 26 (0, 0)) (by (with_reducible repeat (first | refine blk_drewN ?_ _ | refine blk_drew ?_ | refine blk_alloc ?_ _)); exact BK190.out) hb); have n1_ := Aside0.mk (below_step (by repeat (first | (with_reducible first | exact HB.out | apply below_alloc | apply pw_below_drewN | apply below_drew1 | refine below_set ?_ GE190.out) | exact HB.out)) hb); clear BK190; clear HB; have BK190 := n0_; have HB := n1_; clear n0_ n1_; (try clear hb); (try clear hb2); (try clear hk); (try clear hi)) | (go_at_call 14; (with_reducible refine (lanyardref10_Print.calls k a0 t197 _ A11.out).mono ?_); rintro e w23 ⟨rfl, hb⟩; have n0_ := Aside0.mk (blk_below (g := gb190) (o := .cells #[.int .i64 t186, .int .i64 t187, .int .i64 t188] 26 (0, 0)) (by (with_reducible repeat (first | refine blk_drewN ?_ _ | refine blk_drew ?_ | refine blk_alloc ?_ _)); exact BK190.out) hb); have n1_ := Aside0.mk (below_step (by repeat (first | (with_reducible first | exact HB.out | apply below_alloc | apply pw_below_drewN | apply below_drew1 | refine below_set ?_ GE190.out) | exact HB.out)) hb); clear BK190; clear HB; have BK190 := n0_; have HB := n1_; clear n0_ n1_; (try clear hb); (try clear hb2); (try clear hk); (try clear hi); have hcz24_0 : w23.cell? ⟨gb190, 0, none⟩ = some (.int .i64 t186) := (blk_cell BK190.out 0).trans rfl; have hcz24_1 : w23.cell? ⟨gb190, 1, none⟩ = some (.int .i64 t187) := (blk_cell BK190.out 1).trans rfl; have hcz24_2 : w23.cell? ⟨gb190, 2, none⟩ = some (.int .i64 t188) := (blk_cell BK190.out 2).trans rfl; have hfz24_0 := blk_frozen BK190.out 0; have hfz24_1 := blk_frozen BK190.out 1; have hfz24_2 := blk_frozen BK190.out 2))
        go_ret
        exact ⟨rfl_, by repeat (first | (with_reducible first | exact HB.out | apply below_alloc | apply pw_below_drewN | apply below_drew1 | refine below_set ?_ GE190.out) | exact HB.out)⟩
       ·rw [if_neg c15] at H
        have c15b0 : (t196 == 0) = false := beq_eq_false_iff_ne.mpr c15
        have c15b1 : (t196 != 0) = true := bne_iff_ne.mpr c15
        exact absurd (Option.some.inj H) (by rw [HR_.out]; decide)
      ·rw [if_neg c14] at H
       have c14b0 : (t186 == t192 && (t187 == t193 && (t188 == t194))) = false := by simpa using c14
       (try (have c14b1 : decide (t186 = t192 && (t187 == t193 && (t188 == t194))) = false := by simpa using c14))
       (try (have c14b2 : (t186 == t192 && (t187 == t193 && (t188 == t194))) = false := by simpa using c14))
       (try (have c14b3 : ¬ (t186 = t192 && (t187 == t193 && (t188 == t194))) := by simpa using c14))
       clear c14
       exact absurd (Option.some.inj H) (by rw [HR_.out]; decide)
     ·rw [if_neg c13] at H
      have c13b0 : (t189 == 0) = false := beq_eq_false_iff_ne.mpr c13
      have c13b1 : (t189 != 0) = true := bne_iff_ne.mpr c13
      exact absurd (Option.some.inj H) (by rw [HR_.out]; decide)
    ·rw [if_neg c12] at H
     have c12b0 : (t184.toList == t197.toList) = false := beq_eq_false_iff_ne.mpr c12
     have c12b1 : (t184.toList != t197.toList) = true := bne_iff_ne.mpr c12
     exact absurd (Option.some.inj H) (by rw [HR_.out]; decide)
   ·rw [if_neg c10] at H
    have c10b0 : (t185 == 0) = false := beq_eq_false_iff_ne.mpr c10
    have c10b1 : (t185 != 0) = true := bne_iff_ne.mpr c10
    exact absurd (Option.some.inj H) (by rw [HR_.out]; decide)
  ·replace c7 := Bool.eq_false_iff.mpr c7
   subst c7
   have H1 : (if t185 = 21 then (if t184.toList = ([] : List UInt8) then (if t189 = 21 then (some (t186 == 0 && (t187 == 0 && (t188 == 0)))) else (some false)) else (some false)) else (some false)) = some r := by rw [if_neg (show ¬ (false = true) by decide)] at H; exact H
   clear H
   have H := H1
   clear H1
   by_cases c66 : t185 = 21
   ·rw [if_pos c66] at H
    have c66b0 : (t185 == 21) = true := beq_iff_eq.mpr c66
    have c66b1 : (t185 != 21) = false := bne_eq_false_iff_eq.mpr c66
    clear c66
    by_cases c67 : t184.toList = ([] : List UInt8)
    ·rw [if_pos c67] at H
     have c67b0 : (t184.toList == ([] : List UInt8)) = true := beq_iff_eq.mpr c67
     have c67b1 : (t184.toList != ([] : List UInt8)) = false := bne_eq_false_iff_eq.mpr c67
     clear c67
     by_cases c68 : t189 = 21
     ·rw [if_pos c68] at H
      have c68b0 : (t189 == 21) = true := beq_iff_eq.mpr c68
      have c68b1 : (t189 != 21) = false := bne_eq_false_iff_eq.mpr c68
      clear c68
      obtain rfl := Option.some.inj H
      go_enter Tryd.func3, Tryd.ntmps3
      go_wp2_with (first | ((with_reducible refine gate_callee (f := 8) rfl ?_); refine goesA (some 12) Tryd.func8 #[] rfl ?_; (with_reducible refine (lanyardlaw10_awake.calls k  true _ ?sideU A2.out).mono ?_); (case sideU => first | exact HU.out | exact Uni.up HU (Bu HB) | exact Uni.below HU.out (by assumption)); rintro e w69 ⟨rfl, hb⟩; refine ⟨_, rfl, ?_⟩; have n0_ := Bs HB hb; clear HB; revert n0_; intro HB; (try clear hb); (try clear hb2); (try clear hk); (try clear hi)) | ((with_reducible refine gate_callee (f := 9) rfl ?_); refine goesA (some 16) Tryd.func9 #[.int .i64 a0] rfl ?_; (with_reducible refine (moment_Print.calls k a0 t184 t185 _ A4.out).mono ?_); rintro e w70 ⟨rfl, hb⟩; refine ⟨_, rfl, ?_⟩; have n0_ := Bs HB hb; clear HB; revert n0_; intro HB; (try clear hb); (try clear hb2); (try clear hk); (try clear hi)) | ((with_reducible refine gate_callee (f := 10) rfl ?_); refine goesA (some 21) Tryd.func10 #[.int .i64 a0] rfl ?_; (with_reducible refine (moment_Date.calls k a0 t186 t187 t188 t189 _ A5.out).mono ?_); rintro e w71 ⟨rfl, hb⟩; refine ⟨_, rfl, ?_⟩; have n0_ := Bs HB hb; clear HB; revert n0_; intro HB; (try clear hb); (try clear hb2); (try clear hk); (try clear hi)) | ((with_reducible refine gate_dst (N := 5) rfl ?_); refine box_event ?hg (N := 5) ?hd (cs := #[.int .i64 0, .int .i64 0, .int .i64 0]) (t := 26) ?hr ?_; (case hd => rfl); (case hg => rfl); (case hr => first | (go_simp; done) | (go_simp; rfl)); intro gb190 hg w72 hbox hb; have n0_ := Bs HB hb; have n1_ := Aside0.mk (hbox); have n2_ := Aside0.mk ((by rw [hg]; exact (Bz HB) : w.heap.size ≤ gb190)); have n3_ := Aside0.mk ((by rw [hg]; exact (Bz HB) : w.heap.size ≤ gb190)); clear HB; have HB := n0_; have BK190 := n1_; have GW190 := n2_; have GE190 := n3_; clear n0_ n1_ n2_ n3_; clear hb hbox hg; have hcz73_0 : w72.cell? ⟨gb190, 0, none⟩ = some (.int .i64 0) := (blk_cell BK190.out 0).trans rfl; have hcz73_1 : w72.cell? ⟨gb190, 1, none⟩ = some (.int .i64 0) := (blk_cell BK190.out 1).trans rfl; have hcz73_2 : w72.cell? ⟨gb190, 2, none⟩ = some (.int .i64 0) := (blk_cell BK190.out 2).trans rfl; have hfz73_0 := blk_frozen BK190.out 0; have hfz73_1 := blk_frozen BK190.out 1; have hfz73_2 := blk_frozen BK190.out 2) | ((with_reducible refine gate_callee (f := 11) rfl ?_); refine goesA (some 25) Tryd.func11 #[.int .i64 a0] rfl ?_; (with_reducible refine (lanyardref10_Is.calls a0 false _ A6.out).mono ?_); rintro e w' ⟨rfl, ⟨nd, rfl⟩⟩; refine ⟨_, rfl, ?_⟩))
      go_ret
      exact ⟨rfl_, by repeat (first | (with_reducible first | exact HB.out | apply below_alloc | apply pw_below_drewN | apply below_drew1 | refine below_set ?_ GE190.out) | exact HB.out)⟩
     ·rw [if_neg c68] at H
      have c68b0 : (t189 == 21) = false := beq_eq_false_iff_ne.mpr c68
      have c68b1 : (t189 != 21) = true := bne_iff_ne.mpr c68
      exact absurd (Option.some.inj H) (by rw [HR_.out]; decide)
    ·rw [if_neg c67] at H
     have c67b0 : (t184.toList == ([] : List UInt8)) = false := beq_eq_false_iff_ne.mpr c67
     have c67b1 : (t184.toList != ([] : List UInt8)) = true := bne_iff_ne.mpr c67
     exact absurd (Option.some.inj H) (by rw [HR_.out]; decide)
   ·rw [if_neg c66] at H
    have c66b0 : (t185 == 21) = false := beq_eq_false_iff_ne.mpr c66
    have c66b1 : (t185 != 21) = true := bne_iff_ne.mpr c66
    exact absurd (Option.some.inj H) (by rw [HR_.out]; decide)
 ·replace c3 := Bool.eq_false_iff.mpr c3
  subst c3
  have H1 : (some false) = some r := by rw [if_neg (show ¬ (false = true) by decide)] at H; exact H
  clear H
  have H := H1
  clear H1
  exact absurd (Option.some.inj H) (by rw [HR_.out]; decide)
/-- THE ONE PURE STATEMENT of lanyardlaw10_MomentPrints: yours. -/
def lanyardlaw10_MomentPrints.Pure : Prop := ∀ (a0 : Int), (Lit.int .i64 a0).wf = true → ∃ k, lanyardlaw10_MomentPrints.f k a0 = some true
theorem lanyardlaw10_MomentPrints.walk (P : lanyardlaw10_MomentPrints.Pure) (a0 : Int) (w : World) (w0 : (Lit.int .i64 a0).wf = true) (hU : Uni w) :
  Calls Tryd.prog 3 #[.int .i64 a0] w fun e w' => e = .returned (.bool true) ∧ Below w.heap.size w w' := by
 obtain ⟨k, h⟩ := P a0 w0
 refine (lanyardlaw10_MomentPrints.calls k a0 true w hU h).mono ?_
 rintro e w' ⟨rfl, hd⟩
 exact ⟨rfl, hd⟩

end Go.Proofs.YtcikjghmelbkaaaDoor.Hp
