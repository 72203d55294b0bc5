/- Go functions of this seat as Lean functions, and their contracts: what the Go code computes, for every input. (By hp.py, a program of this repo, over the kit's print.py.) -/
import Derived.Test.YtjmcdocoogdbiaaDoorHp0
import Derived.Test.YtjmcdocoogdbiaaDoorHp4
import Derived.Test.YtjmcdocoogdbiaaDoorHp7
import Derived.Test.YtjmcdocoogdbiaaDoorHp8
namespace Go.Proofs.YtjmcdocoogdbiaaDoor.Hp
open Go.RowKit Go.Proofs.YtjmcdocoogdbiaaDoorW.PrintWords Go.Proofs.YtjmcdocoogdbiaaDoorW.PrintLast Go.Proofs.YtjmcdocoogdbiaaDoorW.PrintMore
attribute [local go_sem] max2_int min2_int max_two min_two max_three min_three max_four min_four   -- for this text's walks alone
set_option linter.unusedVariables false
set_option linter.unusedSimpArgs false

/-! ### lanyardlaw03_FormQueries: function 4 -/
def lanyardlaw03_FormQueries.j0 : Nat → ByteArray → ByteArray → Bool → Option (Bool)
 | 0, _, _, _ => none
 | k + 1, x0, x1, x19 => if x19 = true then ((lanyardlaw03_awake.f k).bind fun t225 => (some t225)) else ((escape_ParseQuery.f k x0).bind fun bt226 => ((lanyardref03_ParseQuery.f k x0).bind fun bt230 => ((escape_Get.f k bt226.1 x1).bind fun bt234 => ((lanyardref03_Get.f k bt230.1 x1).bind fun bt236 => (if bt226.2 = bt230.2 then ((lanyardref03_Same.f k bt226.1 bt230.1).bind fun t238 => (if t238 = true then (if bt234.1.toList = bt236.1.toList then (some (bt234.2 == bt236.2)) else (some false)) else (some false))) else (some false))))))
def lanyardlaw03_FormQueries.f (k : Nat) (a0 : ByteArray) (a1 : ByteArray) : Option (Bool) := (lanyardlaw03_awake.f k).bind fun t224 => (if t224 = true then (lanyardlaw03_FormQueries.j0 k a0 a1 (decide ((a0.size : Int) > 2000))) else (lanyardlaw03_FormQueries.j0 k a0 a1 true))
theorem lanyardlaw03_FormQueries.mono_l : ∀ k, (∀ y0 y1 y2, LeO (lanyardlaw03_FormQueries.j0 k y0 y1 y2) (lanyardlaw03_FormQueries.j0 (k + 1) y0 y1 y2))
 | 0 => fun _ _ _ r h => by simp [lanyardlaw03_FormQueries.j0] at h
 | k + 1 => by
  have ih0 := lanyardlaw03_FormQueries.mono_l k
  ·intro y0 y1 y2
   unfold lanyardlaw03_FormQueries.j0
   repeat' first
   | (with_reducible exact ih0 _ _ _)
   | (with_reducible exact escape_Get.mono _ _ _)
   | (with_reducible exact escape_ParseQuery.mono _ _)
   | (with_reducible exact lanyardlaw03_awake.mono _)
   | (with_reducible exact lanyardref03_Get.mono _ _ _)
   | (with_reducible exact lanyardref03_ParseQuery.mono _ _)
   | (with_reducible exact lanyardref03_Same.mono _ _ _)
   | (with_reducible exact LeO.refl _)
   | (with_reducible exact LeO.none _)
   | (with_reducible refine LeO.ite ?_ ?_)
   | (with_reducible refine LeO.bind ?_ (fun _ => ?_))
   | exact ih0 _ _ _
   | exact escape_Get.mono _ _ _
   | exact escape_ParseQuery.mono _ _
   | exact lanyardlaw03_awake.mono _
   | exact lanyardref03_Get.mono _ _ _
   | exact lanyardref03_ParseQuery.mono _ _
   | exact lanyardref03_Same.mono _ _ _
   | exact LeO.none _
   | refine LeO.ite ?_ ?_
   | refine LeO.bind ?_ (fun _ => ?_)
theorem lanyardlaw03_FormQueries.mono : ∀ a0 a1 k, LeO (lanyardlaw03_FormQueries.f k a0 a1) (lanyardlaw03_FormQueries.f (k + 1) a0 a1) := by
 intro a0 a1 k
 have ih0 := lanyardlaw03_FormQueries.mono_l k
 unfold lanyardlaw03_FormQueries.f
 repeat' first
   | (with_reducible exact ih0 _ _ _)
   | (with_reducible exact escape_Get.mono _ _ _)
   | (with_reducible exact escape_ParseQuery.mono _ _)
   | (with_reducible exact lanyardlaw03_awake.mono _)
   | (with_reducible exact lanyardref03_Get.mono _ _ _)
   | (with_reducible exact lanyardref03_ParseQuery.mono _ _)
   | (with_reducible exact lanyardref03_Same.mono _ _ _)
   | (with_reducible exact LeO.refl _)
   | (with_reducible exact LeO.none _)
   | (with_reducible refine LeO.ite ?_ ?_)
   | (with_reducible refine LeO.bind ?_ (fun _ => ?_))
   | exact ih0 _ _ _
   | exact escape_Get.mono _ _ _
   | exact escape_ParseQuery.mono _ _
   | exact lanyardlaw03_awake.mono _
   | exact lanyardref03_Get.mono _ _ _
   | exact lanyardref03_ParseQuery.mono _ _
   | exact lanyardref03_Same.mono _ _ _
   | exact LeO.none _
   | refine LeO.ite ?_ ?_
   | refine LeO.bind ?_ (fun _ => ?_)
set_option maxHeartbeats 8000000 in
set_option maxRecDepth 100000 in
theorem lanyardlaw03_FormQueries.calls (k : Nat) (a0 : ByteArray) (a1 : ByteArray) (r : Bool) (w : World) (hU : Uni w) (h : lanyardlaw03_FormQueries.f k a0 a1 = some r) :
  Calls Tryd.prog 4 #[.string a0, .string a1] w fun e w' => e = .returned (.bool r) ∧ Below w.heap.size w w' := by
 have HU := Aside0.mk hU
 clear hU
 have HB := Aside0.mk (Below.refl w.heap.size w)
 have H : ((lanyardlaw03_awake.f k).bind fun t224 => (if t224 = true then (lanyardlaw03_FormQueries.j0 k a0 a1 (decide ((a0.size : Int) > 2000))) else (lanyardlaw03_FormQueries.j0 k a0 a1 true))) = some r := h
 clear h
 have HC3 := Aside0.mk H
 clear H
 go_enter Tryd.func4, Tryd.ntmps4
 go_upto_region 1 with (fail)
 go_cut [19] (fun v19 wc => ∃ (kq : Nat) (x19_2 : Bool), v19 = .bool x19_2 ∧ Aside0 (lanyardlaw03_FormQueries.j0 kq a0 a1 x19_2 = some r) ∧ Aside0 (kq ≤ k) ∧ Aside0 (Below w.heap.size w wc))
 case first =>
  have H := HC3.out
  clear HC3
  replace H := Option.bind_eq_some_iff.mp H
  obtain ⟨t224, A40, H⟩ := H
  replace H : (if t224 = true then (lanyardlaw03_FormQueries.j0 k a0 a1 (decide ((a0.size : Int) > 2000))) else (lanyardlaw03_FormQueries.j0 k a0 a1 true)) = some r := H
  have A4 := Aside0.mk A40
  clear A40
  by_cases c5 : t224 = true
  ·subst c5
   have H1 : (lanyardlaw03_FormQueries.j0 k a0 a1 (decide ((a0.size : Int) > 2000))) = some r := by rw [if_pos rfl] at H; exact H
   clear H
   have H := H1
   clear H1
   have H' := Aside0.mk H
   clear H
   go_wp2_with (first | ((with_reducible refine gate_callee (f := 8) rfl ?_); refine goesA (some 13) Tryd.func8 #[] rfl ?_; (with_reducible refine (lanyardlaw03_awake.calls k  true _ ?sideU A4.out).mono ?_); (case sideU => first | exact HU.out | exact Uni.up HU (Bu HB) | exact Uni.below HU.out (by assumption)); rintro e w6 ⟨rfl, hb⟩; refine ⟨_, rfl, ?_⟩; have n0_ := Bs HB hb; clear HB; revert n0_; intro HB; (try clear hb); (try clear hb2); (try clear hk); (try clear hi)))
   go_meet
   case rel => exact ⟨_, (decide ((a0.size : Int) > 2000)), (by first | rfl | (simp; done) | (simp [*]; done)), H', ⟨by first | omega | exact Nat.le_refl _⟩, ⟨Bu HB⟩⟩
  ·replace c5 := Bool.eq_false_iff.mpr c5
   subst c5
   have H1 : (lanyardlaw03_FormQueries.j0 k a0 a1 true) = some r := by rw [if_neg (show ¬ (false = true) by decide)] at H; exact H
   clear H
   have H := H1
   clear H1
   have H' := Aside0.mk H
   clear H
   go_wp2_with (first | ((with_reducible refine gate_callee (f := 8) rfl ?_); refine goesA (some 13) Tryd.func8 #[] rfl ?_; (with_reducible refine (lanyardlaw03_awake.calls k  false _ ?sideU A4.out).mono ?_); (case sideU => first | exact HU.out | exact Uni.up HU (Bu HB) | exact Uni.below HU.out (by assumption)); rintro e w7 ⟨rfl, hb⟩; refine ⟨_, rfl, ?_⟩; have n0_ := Bs HB hb; clear HB; revert n0_; intro HB; (try clear hb); (try clear hb2); (try clear hk); (try clear hi)))
   go_meet
   case rel => exact ⟨_, (true), (by first | rfl | (simp; done) | (simp [*]; done)), H', ⟨by first | omega | exact Nat.le_refl _⟩, ⟨Bu HB⟩⟩
 case rest =>
  clear HC3
  try clear p2
  try clear c4
  try clear c5
  obtain ⟨kq, x19_2, rfl, HA, HJ2, HB⟩ := hcut
  cases kq with
  | zero => exact absurd HA.out (by simp [lanyardlaw03_FormQueries.j0])
  | succ kj2 =>
   have H := HA.out
   clear HA
   simp only [lanyardlaw03_FormQueries.j0] at H
   by_cases c8 : x19_2 = true
   ·subst c8
    have H1 : ((lanyardlaw03_awake.f kj2).bind fun t225 => (some t225)) = some r := by rw [if_pos rfl] at H; exact H
    clear H
    have H := H1
    clear H1
    replace H := Option.bind_eq_some_iff.mp H
    obtain ⟨t225, A90, H⟩ := H
    replace H : (some t225) = some r := H
    have A9 := Aside0.mk A90
    clear A90
    obtain rfl := Option.some.inj H
    go_wp2_with (first | ((with_reducible refine gate_callee (f := 8) rfl ?_); refine goesA (some 20) Tryd.func8 #[] rfl ?_; (with_reducible refine (lanyardlaw03_awake.calls kj2  t225 _ ?sideU A9.out).mono ?_); (case sideU => first | exact HU.out | exact Uni.up HU (Bu HB) | exact Uni.below HU.out (by assumption)); rintro e w10 ⟨rfl, hb⟩; refine ⟨_, rfl, ?_⟩; have n0_ := Bs HB hb; clear HB; revert n0_; intro HB; (try clear hb); (try clear hb2); (try clear hk); (try clear hi)))
    go_ret
    exact ⟨rfl_, Bu HB⟩
   ·replace c8 := Bool.eq_false_iff.mpr c8
    subst c8
    have H1 : ((escape_ParseQuery.f kj2 a0).bind fun bt226 => ((lanyardref03_ParseQuery.f kj2 a0).bind fun bt230 => ((escape_Get.f kj2 bt226.1 a1).bind fun bt234 => ((lanyardref03_Get.f kj2 bt230.1 a1).bind fun bt236 => (if bt226.2 = bt230.2 then ((lanyardref03_Same.f kj2 bt226.1 bt230.1).bind fun t238 => (if t238 = true then (if bt234.1.toList = bt236.1.toList then (some (bt234.2 == bt236.2)) else (some false)) else (some false))) else (some false)))))) = some r := by rw [if_neg (show ¬ (false = true) by decide)] at H; exact H
    clear H
    have H := H1
    clear H1
    replace H := Option.bind_eq_some_iff.mp H
    obtain ⟨⟨t226, t227⟩, A110, H⟩ := H
    replace H : ((lanyardref03_ParseQuery.f kj2 a0).bind fun bt230 => ((escape_Get.f kj2 t226 a1).bind fun bt234 => ((lanyardref03_Get.f kj2 bt230.1 a1).bind fun bt236 => (if t227 = bt230.2 then ((lanyardref03_Same.f kj2 t226 bt230.1).bind fun t238 => (if t238 = true then (if bt234.1.toList = bt236.1.toList then (some (bt234.2 == bt236.2)) else (some false)) else (some false))) else (some false))))) = some r := H
    have A11 := Aside0.mk A110
    clear A110
    replace H := Option.bind_eq_some_iff.mp H
    obtain ⟨⟨t230, t231⟩, A120, H⟩ := H
    replace H : ((escape_Get.f kj2 t226 a1).bind fun bt234 => ((lanyardref03_Get.f kj2 t230 a1).bind fun bt236 => (if t227 = t231 then ((lanyardref03_Same.f kj2 t226 t230).bind fun t238 => (if t238 = true then (if bt234.1.toList = bt236.1.toList then (some (bt234.2 == bt236.2)) else (some false)) else (some false))) else (some false)))) = some r := H
    have A12 := Aside0.mk A120
    clear A120
    replace H := Option.bind_eq_some_iff.mp H
    obtain ⟨⟨t234, t235⟩, A130, H⟩ := H
    replace H : ((lanyardref03_Get.f kj2 t230 a1).bind fun bt236 => (if t227 = t231 then ((lanyardref03_Same.f kj2 t226 t230).bind fun t238 => (if t238 = true then (if t234.toList = bt236.1.toList then (some (t235 == bt236.2)) else (some false)) else (some false))) else (some false))) = some r := H
    have A13 := Aside0.mk A130
    clear A130
    replace H := Option.bind_eq_some_iff.mp H
    obtain ⟨⟨t236, t237⟩, A140, H⟩ := H
    replace H : (if t227 = t231 then ((lanyardref03_Same.f kj2 t226 t230).bind fun t238 => (if t238 = true then (if t234.toList = t236.toList then (some (t235 == t237)) else (some false)) else (some false))) else (some false)) = some r := H
    have A14 := Aside0.mk A140
    clear A140
    by_cases c15 : t227 = t231
    ·rw [if_pos c15] at H
     have c15b0 : (t227 == t231) = true := beq_iff_eq.mpr c15
     have c15b1 : (t227 != t231) = false := bne_eq_false_iff_eq.mpr c15
     clear c15
     replace H := Option.bind_eq_some_iff.mp H
     obtain ⟨t238, A160, H⟩ := H
     replace H : (if t238 = true then (if t234.toList = t236.toList then (some (t235 == t237)) else (some false)) else (some false)) = some r := H
     have A16 := Aside0.mk A160
     clear A160
     by_cases c17 : t238 = true
     ·subst c17
      have H1 : (if t234.toList = t236.toList then (some (t235 == t237)) else (some false)) = some r := by rw [if_pos rfl] at H; exact H
      clear H
      have H := H1
      clear H1
      refine (Classical.em (t234.toList = t236.toList)).elim (fun c18 => ?a86_) (fun c18 => ?b86_)
      case' a86_ =>
       rw [if_pos c18] at H
       have c18b0 : (t234.toList == t236.toList) = true := beq_iff_eq.mpr c18
       have c18b1 : (t234.toList != t236.toList) = false := bne_eq_false_iff_eq.mpr c18
       clear c18
       obtain rfl := Option.some.inj H
      case' b86_ =>
       rw [if_neg c18] at H
       have c18b0 : (t234.toList == t236.toList) = false := beq_eq_false_iff_ne.mpr c18
       have c18b1 : (t234.toList != t236.toList) = true := bne_iff_ne.mpr c18
       obtain rfl := Option.some.inj H
      case a86_ | b86_ =>
       go_wp2_with (first | ((with_reducible refine gate_callee (f := 13) rfl ?_); refine goesA (some 23) Tryd.func13 #[.string a0] rfl ?_; (with_reducible refine (escape_ParseQuery.calls kj2 a0 t226 t227 _ ?sideU A11.out).mono ?_); (case sideU => first | exact HU.out | exact Uni.up HU (Bu HB) | exact Uni.below HU.out (by assumption)); rintro e wz1 ⟨vz1, rfl, hoz1, hb⟩; refine ⟨_, rfl, ?_⟩; have n0_ := Aside0.mk (Kd.R_lower hoz1 (Bz HB)); have nz1 := Bs HB hb; clear HB; have HOz1 := n0_; have HB := nz1; clear n0_ nz1; (try clear hb); (try clear hb2); (try clear hk); (try clear hi); (try clear hoz1)) | ((with_reducible refine gate_callee (f := 14) rfl ?_); refine goesA (some 28) Tryd.func14 #[.string a0] rfl ?_; (with_reducible refine (lanyardref03_ParseQuery.calls kj2 a0 t230 t231 _ A12.out).mono ?_); rintro e wz2 ⟨vz2, rfl, hoz1, hb⟩; refine ⟨_, rfl, ?_⟩; have n0_ := Re HOz1 (Kd.R_base hoz1) hb; have nz1 := Aside0.mk (Kd.R_lower (Kd.R_new' hoz1 (Kd.R_lt (Ru HOz1))) (Bz HB)); have nz2 := Bs HB hb; clear HOz1; clear HB; have HOz1 := n0_; have HOz2 := nz1; have HB := nz2; clear n0_ nz1 nz2; (try clear hb); (try clear hb2); (try clear hk); (try clear hi); (try clear hoz1); obtain ⟨Aoz1, coz1, eoz1⟩ := Kd.R_slice HOz1.out; subst eoz1) | ((with_reducible refine gate_callee (f := 15) rfl ?_); refine goesA (some 34) Tryd.func15 #[.slice Aoz1 t226.length coz1, .string a1] rfl ?_; (with_reducible refine (escape_Get.calls kj2 _ _ t226 a1 t234 t235 _ ?side1 ?side2 A13.out).mono ?_); (case side1 => exact Cu (Kd.R_reads' HOz1.out).2.2); (case side2 => exact (Kd.R_reads' HOz1.out).2.1); rintro e wz3 ⟨rfl, hb⟩; refine ⟨_, rfl, ?_⟩; have n0_ := Rb HOz1 hb; have nz1 := Rb HOz2 hb; have nz2 := Bs HB hb; clear HOz1; clear HOz2; clear HB; have HOz1 := n0_; have HOz2 := nz1; have HB := nz2; clear n0_ nz1 nz2; (try clear hb); (try clear hb2); (try clear hk); (try clear hi); obtain ⟨Aoz2, coz2, eoz2⟩ := Kd.R_slice HOz2.out; subst eoz2) | ((with_reducible refine gate_callee (f := 16) rfl ?_); refine goesA (some 40) Tryd.func16 #[.slice Aoz2 t230.length coz2, .string a1] rfl ?_; (with_reducible refine (lanyardref03_Get.calls kj2 _ _ t230 a1 t236 t237 _ ?side1 ?side2 A14.out).mono ?_); (case side1 => exact Cu (Kd.R_reads' HOz2.out).2.2); (case side2 => exact (Kd.R_reads' HOz2.out).2.1); rintro e w' ⟨rfl, ⟨nd, rfl⟩⟩; refine ⟨_, rfl, ?_⟩) | (go_at_call 17; (with_reducible refine (lanyardref03_Same.calls kj2 _ _ t226 _ _ t230 true _ ?side1 ?side2 ?side3 ?side4 A16.out).mono ?_); (case side1 => exact Cu (Kd.R_reads' HOz1.out).2.2); (case side2 => exact (Kd.R_reads' HOz1.out).2.1); (case side3 => exact Cu (Kd.R_reads' HOz2.out).2.2); (case side4 => exact (Kd.R_reads' HOz2.out).2.1); rintro e w' ⟨rfl, ⟨nd, rfl⟩⟩))
       go_ret
       exact ⟨rfl_, Bu HB⟩
     ·replace c17 := Bool.eq_false_iff.mpr c17
      subst c17
      have H1 : (some false) = some r := by rw [if_neg (show ¬ (false = true) by decide)] at H; exact H
      clear H
      have H := H1
      clear H1
      obtain rfl := Option.some.inj H
      go_wp2_with (first | ((with_reducible refine gate_callee (f := 13) rfl ?_); refine goesA (some 23) Tryd.func13 #[.string a0] rfl ?_; (with_reducible refine (escape_ParseQuery.calls kj2 a0 t226 t227 _ ?sideU A11.out).mono ?_); (case sideU => first | exact HU.out | exact Uni.up HU (Bu HB) | exact Uni.below HU.out (by assumption)); rintro e w29 ⟨v228, rfl, ho0, hb⟩; refine ⟨_, rfl, ?_⟩; have n0_ := Aside0.mk (Kd.R_lower ho0 (Bz HB)); have n1_ := Bs HB hb; clear HB; revert n0_ n1_; intro HO229 HB; (try clear hb); (try clear hb2); (try clear hk); (try clear hi); (try clear ho0)) | ((with_reducible refine gate_callee (f := 14) rfl ?_); refine goesA (some 28) Tryd.func14 #[.string a0] rfl ?_; (with_reducible refine (lanyardref03_ParseQuery.calls kj2 a0 t230 t231 _ A12.out).mono ?_); rintro e w30 ⟨v232, rfl, ho0, hb⟩; refine ⟨_, rfl, ?_⟩; have n0_ := Re HO229 (Kd.R_base ho0) hb; have n1_ := Aside0.mk (Kd.R_lower (Kd.R_new' ho0 (Kd.R_lt (Ru HO229))) (Bz HB)); have n2_ := Bs HB hb; clear HO229 HB; revert n0_ n1_ n2_; intro HO229 HO233 HB; (try clear hb); (try clear hb2); (try clear hk); (try clear hi); (try clear ho0); obtain ⟨Ao31, co31, eo31⟩ := Kd.R_slice HO229.out; subst eo31) | ((with_reducible refine gate_callee (f := 15) rfl ?_); refine goesA (some 34) Tryd.func15 #[.slice Ao31 t226.length co31, .string a1] rfl ?_; (with_reducible refine (escape_Get.calls kj2 _ _ t226 a1 t234 t235 _ ?side1 ?side2 A13.out).mono ?_); (case side1 => exact Cu (Kd.R_reads' HO229.out).2.2); (case side2 => exact (Kd.R_reads' HO229.out).2.1); rintro e w32 ⟨rfl, hb⟩; refine ⟨_, rfl, ?_⟩; have n0_ := Rb HO229 hb; have n1_ := Rb HO233 hb; have n2_ := Bs HB hb; clear HO229 HO233 HB; revert n0_ n1_ n2_; intro HO229 HO233 HB; (try clear hb); (try clear hb2); (try clear hk); (try clear hi); obtain ⟨Ao33, co33, eo33⟩ := Kd.R_slice HO233.out; subst eo33) | ((with_reducible refine gate_callee (f := 16) rfl ?_); refine goesA (some 40) Tryd.func16 #[.slice Ao33 t230.length co33, .string a1] rfl ?_; (with_reducible refine (lanyardref03_Get.calls kj2 _ _ t230 a1 t236 t237 _ ?side1 ?side2 A14.out).mono ?_); (case side1 => exact Cu (Kd.R_reads' HO233.out).2.2); (case side2 => exact (Kd.R_reads' HO233.out).2.1); rintro e w' ⟨rfl, ⟨nd, rfl⟩⟩; refine ⟨_, rfl, ?_⟩) | (go_at_call 17; (with_reducible refine (lanyardref03_Same.calls kj2 _ _ t226 _ _ t230 false _ ?side1 ?side2 ?side3 ?side4 A16.out).mono ?_); (case side1 => exact Cu (Kd.R_reads' HO229.out).2.2); (case side2 => exact (Kd.R_reads' HO229.out).2.1); (case side3 => exact Cu (Kd.R_reads' HO233.out).2.2); (case side4 => exact (Kd.R_reads' HO233.out).2.1); rintro e w' ⟨rfl, ⟨nd, rfl⟩⟩))
      go_ret
      exact ⟨rfl_, Bu HB⟩
    ·rw [if_neg c15] at H
     have c15b0 : (t227 == t231) = false := beq_eq_false_iff_ne.mpr c15
     have c15b1 : (t227 != t231) = true := bne_iff_ne.mpr c15
     obtain rfl := Option.some.inj H
     go_wp2_with (first | ((with_reducible refine gate_callee (f := 13) rfl ?_); refine goesA (some 23) Tryd.func13 #[.string a0] rfl ?_; (with_reducible refine (escape_ParseQuery.calls kj2 a0 t226 t227 _ ?sideU A11.out).mono ?_); (case sideU => first | exact HU.out | exact Uni.up HU (Bu HB) | exact Uni.below HU.out (by assumption)); rintro e w34 ⟨v228, rfl, ho0, hb⟩; refine ⟨_, rfl, ?_⟩; have n0_ := Aside0.mk (Kd.R_lower ho0 (Bz HB)); have n1_ := Bs HB hb; clear HB; revert n0_ n1_; intro HO229 HB; (try clear hb); (try clear hb2); (try clear hk); (try clear hi); (try clear ho0)) | ((with_reducible refine gate_callee (f := 14) rfl ?_); refine goesA (some 28) Tryd.func14 #[.string a0] rfl ?_; (with_reducible refine (lanyardref03_ParseQuery.calls kj2 a0 t230 t231 _ A12.out).mono ?_); rintro e w35 ⟨v232, rfl, ho0, hb⟩; refine ⟨_, rfl, ?_⟩; have n0_ := Re HO229 (Kd.R_base ho0) hb; have n1_ := Aside0.mk (Kd.R_lower (Kd.R_new' ho0 (Kd.R_lt (Ru HO229))) (Bz HB)); have n2_ := Bs HB hb; clear HO229 HB; revert n0_ n1_ n2_; intro HO229 HO233 HB; (try clear hb); (try clear hb2); (try clear hk); (try clear hi); (try clear ho0); obtain ⟨Ao36, co36, eo36⟩ := Kd.R_slice HO229.out; subst eo36) | ((with_reducible refine gate_callee (f := 15) rfl ?_); refine goesA (some 34) Tryd.func15 #[.slice Ao36 t226.length co36, .string a1] rfl ?_; (with_reducible refine (escape_Get.calls kj2 _ _ t226 a1 t234 t235 _ ?side1 ?side2 A13.out).mono ?_); (case side1 => exact Cu (Kd.R_reads' HO229.out).2.2); (case side2 => exact (Kd.R_reads' HO229.out).2.1); rintro e w37 ⟨rfl, hb⟩; refine ⟨_, rfl, ?_⟩; have n0_ := Rb HO229 hb; have n1_ := Rb HO233 hb; have n2_ := Bs HB hb; clear HO229 HO233 HB; revert n0_ n1_ n2_; intro HO229 HO233 HB; (try clear hb); (try clear hb2); (try clear hk); (try clear hi); obtain ⟨Ao38, co38, eo38⟩ := Kd.R_slice HO233.out; subst eo38) | ((with_reducible refine gate_callee (f := 16) rfl ?_); refine goesA (some 40) Tryd.func16 #[.slice Ao38 t230.length co38, .string a1] rfl ?_; (with_reducible refine (lanyardref03_Get.calls kj2 _ _ t230 a1 t236 t237 _ ?side1 ?side2 A14.out).mono ?_); (case side1 => exact Cu (Kd.R_reads' HO233.out).2.2); (case side2 => exact (Kd.R_reads' HO233.out).2.1); rintro e w' ⟨rfl, ⟨nd, rfl⟩⟩; refine ⟨_, rfl, ?_⟩))
     go_ret
     exact ⟨rfl_, Bu HB⟩

/-- THE ONE PURE STATEMENT of lanyardlaw03_FormQueries: yours. -/
def lanyardlaw03_FormQueries.Pure : Prop := ∀ (a0 : ByteArray) (a1 : ByteArray), a0.size ≤ 140737488351232 → a1.size ≤ 140737488351232 → ∃ k, lanyardlaw03_FormQueries.f k a0 a1 = some true
theorem lanyardlaw03_FormQueries.walk (P : lanyardlaw03_FormQueries.Pure) (a0 : ByteArray) (a1 : ByteArray) (w : World) (w0 : a0.size ≤ 140737488351232) (w1 : a1.size ≤ 140737488351232) (hU : Uni w) :
  Calls Tryd.prog 4 #[.string a0, .string a1] w fun e w' => e = .returned (.bool true) ∧ Below w.heap.size w w' := by
 obtain ⟨k, h⟩ := P a0 a1 w0 w1
 refine (lanyardlaw03_FormQueries.calls k a0 a1 true w hU h).mono ?_
 rintro e w' ⟨rfl, hd⟩
 exact ⟨rfl, hd⟩

end Go.Proofs.YtjmcdocoogdbiaaDoor.Hp
