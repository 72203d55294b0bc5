/- Go functions of this seat as Lean functions, and their contracts: what the Go code computes, for every input. (By hp.py, a program of this repo, over the kit's print.py.) -/
import Derived.Test.YtcikjghmelbkaaaDoorHp0
import Derived.Test.YtcikjghmelbkaaaDoorHp3
import Derived.Test.YtcikjghmelbkaaaDoorHp6
namespace Go.Proofs.YtcikjghmelbkaaaDoor.Hp
open Go.RowKit Go.Proofs.YtcikjghmelbkaaaDoorW.PrintWords Go.Proofs.YtcikjghmelbkaaaDoorW.PrintLast Go.Proofs.YtcikjghmelbkaaaDoorW.PrintMore
attribute [local go_sem] max2_int min2_int max_two min_two max_three min_three max_four min_four   -- for this text's walks alone
set_option linter.unusedVariables false
set_option linter.unusedSimpArgs false

/-! ### lanyardlaw10_MomentOrders: function 5 -/
def lanyardlaw10_MomentOrders.j0 : Nat → Int → Int → Bool → Option (Bool)
 | 0, _, _, _ => none
 | k + 1, x0, x1, x20 => if x20 = true then ((lanyardlaw10_awake.f k).bind fun t232 => (some t232)) else ((moment_Print.f k x0).bind fun bt233 => ((moment_Print.f k x1).bind fun bt235 => (if bt233.2 = 0 then (if bt235.2 = 0 then (if ((bt233.1.toList == bt235.1.toList) == (x0 == x1)) = true then (if (bt233.1.size : Int) = (bt235.1.size : Int) then (some ((Op.bytesLess bt233.1.toList bt235.1.toList) == (decide (x0 < x1)))) else (some true)) else (some false)) else (some false)) else (some false))))
def lanyardlaw10_MomentOrders.f (k : Nat) (a0 : Int) (a1 : Int) : Option (Bool) := (lanyardlaw10_awake.f k).bind fun t229 => (if t229 = true then ((lanyardref10_Is.f a0).bind fun t230 => (if t230 = true then ((lanyardref10_Is.f a1).bind fun t231 => (lanyardlaw10_MomentOrders.j0 k a0 a1 (!t231))) else (lanyardlaw10_MomentOrders.j0 k a0 a1 true))) else (lanyardlaw10_MomentOrders.j0 k a0 a1 true))
theorem lanyardlaw10_MomentOrders.mono_l : ∀ k, (∀ y0 y1 y2, LeO (lanyardlaw10_MomentOrders.j0 k y0 y1 y2) (lanyardlaw10_MomentOrders.j0 (k + 1) y0 y1 y2))
 | 0 => fun _ _ _ r h => by simp [lanyardlaw10_MomentOrders.j0] at h
 | k + 1 => by
  have ih0 := lanyardlaw10_MomentOrders.mono_l k
  ·intro y0 y1 y2
   unfold lanyardlaw10_MomentOrders.j0
   repeat' first
   | (with_reducible exact ih0 _ _ _)
   | (with_reducible exact lanyardlaw10_awake.mono _)
   | (with_reducible exact moment_Print.mono _ _)
   | (with_reducible exact LeO.refl _)
   | (with_reducible exact LeO.none _)
   | (with_reducible refine LeO.ite ?_ ?_)
   | (with_reducible refine LeO.bind ?_ (fun _ => ?_))
   | exact ih0 _ _ _
   | exact lanyardlaw10_awake.mono _
   | exact moment_Print.mono _ _
   | exact LeO.none _
   | refine LeO.ite ?_ ?_
   | refine LeO.bind ?_ (fun _ => ?_)
theorem lanyardlaw10_MomentOrders.mono : ∀ a0 a1 k, LeO (lanyardlaw10_MomentOrders.f k a0 a1) (lanyardlaw10_MomentOrders.f (k + 1) a0 a1) := by
 intro a0 a1 k
 have ih0 := lanyardlaw10_MomentOrders.mono_l k
 unfold lanyardlaw10_MomentOrders.f
 repeat' first
   | (with_reducible exact ih0 _ _ _)
   | (with_reducible exact lanyardlaw10_awake.mono _)
   | (with_reducible exact moment_Print.mono _ _)
   | (with_reducible exact LeO.refl _)
   | (with_reducible exact LeO.none _)
   | (with_reducible refine LeO.ite ?_ ?_)
   | (with_reducible refine LeO.bind ?_ (fun _ => ?_))
   | exact ih0 _ _ _
   | exact lanyardlaw10_awake.mono _
   | exact moment_Print.mono _ _
   | exact LeO.none _
   | refine LeO.ite ?_ ?_
   | refine LeO.bind ?_ (fun _ => ?_)
set_option maxHeartbeats 8000000 in
set_option maxRecDepth 100000 in
theorem lanyardlaw10_MomentOrders.calls (k : Nat) (a0 : Int) (a1 : Int) (r : Bool) (w : World) (hU : Uni w) (h : lanyardlaw10_MomentOrders.f k a0 a1 = some r) (hr_ : r = true := by rfl) :
  Calls Tryd.prog 5 #[.int .i64 a0, .int .i64 a1] w fun e w' => e = .returned (.bool r) ∧ Below w.heap.size w w' := by
 have HU := Aside0.mk hU
 clear hU
 have HR_ := Aside0.mk hr_
 clear hr_
 have HB := Aside0.mk (Below.refl w.heap.size w)
 have H : ((lanyardlaw10_awake.f k).bind fun t229 => (if t229 = true then ((lanyardref10_Is.f a0).bind fun t230 => (if t230 = true then ((lanyardref10_Is.f a1).bind fun t231 => (lanyardlaw10_MomentOrders.j0 k a0 a1 (!t231))) else (lanyardlaw10_MomentOrders.j0 k a0 a1 true))) else (lanyardlaw10_MomentOrders.j0 k a0 a1 true))) = some r := h
 clear h
 have HC3 := Aside0.mk H
 clear H
 go_enter Tryd.func5, Tryd.ntmps5
 go_upto_region 1 with (fail)
 go_cut [20] (fun v20 wc => ∃ (kq : Nat) (x20_2 : Bool), v20 = .bool x20_2 ∧ Aside0 (lanyardlaw10_MomentOrders.j0 kq a0 a1 x20_2 = some r) ∧ Aside0 (kq ≤ k) ∧ Aside0 (Below w.heap.size w wc))
 case first =>
  have H := HC3.out
  clear HC3
  replace H := Option.bind_eq_some_iff.mp H
  obtain ⟨t229, A40, H⟩ := H
  replace H : (if t229 = true then ((lanyardref10_Is.f a0).bind fun t230 => (if t230 = true then ((lanyardref10_Is.f a1).bind fun t231 => (lanyardlaw10_MomentOrders.j0 k a0 a1 (!t231))) else (lanyardlaw10_MomentOrders.j0 k a0 a1 true))) else (lanyardlaw10_MomentOrders.j0 k a0 a1 true)) = some r := H
  have A4 := Aside0.mk A40
  clear A40
  by_cases c5 : t229 = true
  ·subst c5
   have H1 : ((lanyardref10_Is.f a0).bind fun t230 => (if t230 = true then ((lanyardref10_Is.f a1).bind fun t231 => (lanyardlaw10_MomentOrders.j0 k a0 a1 (!t231))) else (lanyardlaw10_MomentOrders.j0 k a0 a1 true))) = some r := by rw [if_pos rfl] at H; exact H
   clear H
   have H := H1
   clear H1
   replace H := Option.bind_eq_some_iff.mp H
   obtain ⟨t230, A60, H⟩ := H
   replace H : (if t230 = true then ((lanyardref10_Is.f a1).bind fun t231 => (lanyardlaw10_MomentOrders.j0 k a0 a1 (!t231))) else (lanyardlaw10_MomentOrders.j0 k a0 a1 true)) = some r := H
   have A6 := Aside0.mk A60
   clear A60
   by_cases c7 : t230 = true
   ·subst c7
    have H1 : ((lanyardref10_Is.f a1).bind fun t231 => (lanyardlaw10_MomentOrders.j0 k a0 a1 (!t231))) = some r := by rw [if_pos rfl] at H; exact H
    clear H
    have H := H1
    clear H1
    replace H := Option.bind_eq_some_iff.mp H
    obtain ⟨t231, A80, H⟩ := H
    replace H : (lanyardlaw10_MomentOrders.j0 k a0 a1 (!t231)) = some r := H
    have A8 := Aside0.mk A80
    clear A80
    have H' := Aside0.mk H
    clear H
    go_wp2_with (first | ((with_reducible refine gate_callee (f := 8) rfl ?_); refine goesA (some 9) Tryd.func8 #[] rfl ?_; (with_reducible refine (lanyardlaw10_awake.calls k  true _ ?sideU A4.out).mono ?_); (case sideU => first | exact HU.out | exact Uni.up HU (Bu HB) | exact Uni.below HU.out (by assumption)); rintro e w9 ⟨rfl, hb⟩; refine ⟨_, rfl, ?_⟩; have n0_ := Bs HB hb; clear HB; revert n0_; intro HB; (try clear hb); (try clear hb2); (try clear hk); (try clear hi)) | (go_at_call 11; (with_reducible refine (lanyardref10_Is.calls a0 true _ A6.out).mono ?_); rintro e w' ⟨rfl, ⟨nd, rfl⟩⟩) | (go_at_call 11; (with_reducible refine (lanyardref10_Is.calls a1 t231 _ A8.out).mono ?_); rintro e w' ⟨rfl, ⟨nd, rfl⟩⟩))
    go_meet
    case rel => exact ⟨_, (!t231), (by first | rfl | (simp; done) | (simp [*]; done)), H', ⟨by first | omega | exact Nat.le_refl _⟩, ⟨Bu HB⟩⟩
   ·replace c7 := Bool.eq_false_iff.mpr c7
    subst c7
    have H1 : (lanyardlaw10_MomentOrders.j0 k a0 a1 true) = some r := by rw [if_neg (show ¬ (false = true) by decide)] at H; exact H
    clear H
    have H := H1
    clear H1
    have H' := Aside0.mk H
    clear H
    go_wp2_with (first | ((with_reducible refine gate_callee (f := 8) rfl ?_); refine goesA (some 9) Tryd.func8 #[] rfl ?_; (with_reducible refine (lanyardlaw10_awake.calls k  true _ ?sideU A4.out).mono ?_); (case sideU => first | exact HU.out | exact Uni.up HU (Bu HB) | exact Uni.below HU.out (by assumption)); rintro e w10 ⟨rfl, hb⟩; refine ⟨_, rfl, ?_⟩; have n0_ := Bs HB hb; clear HB; revert n0_; intro HB; (try clear hb); (try clear hb2); (try clear hk); (try clear hi)) | (go_at_call 11; (with_reducible refine (lanyardref10_Is.calls a0 false _ A6.out).mono ?_); rintro e w' ⟨rfl, ⟨nd, rfl⟩⟩))
    go_meet
    case rel => exact ⟨_, (true), (by first | rfl | (simp; done) | (simp [*]; done)), H', ⟨by first | omega | exact Nat.le_refl _⟩, ⟨Bu HB⟩⟩
  ·replace c5 := Bool.eq_false_iff.mpr c5
   subst c5
   have H1 : (lanyardlaw10_MomentOrders.j0 k a0 a1 true) = some r := by rw [if_neg (show ¬ (false = true) by decide)] at H; exact H
   clear H
   have H := H1
   clear H1
   have H' := Aside0.mk H
   clear H
   go_wp2_with (first | ((with_reducible refine gate_callee (f := 8) rfl ?_); refine goesA (some 9) Tryd.func8 #[] rfl ?_; (with_reducible refine (lanyardlaw10_awake.calls k  false _ ?sideU A4.out).mono ?_); (case sideU => first | exact HU.out | exact Uni.up HU (Bu HB) | exact Uni.below HU.out (by assumption)); rintro e w11 ⟨rfl, hb⟩; refine ⟨_, rfl, ?_⟩; have n0_ := Bs HB hb; clear HB; revert n0_; intro HB; (try clear hb); (try clear hb2); (try clear hk); (try clear hi)))
   go_meet
   case rel => exact ⟨_, (true), (by first | rfl | (simp; done) | (simp [*]; done)), H', ⟨by first | omega | exact Nat.le_refl _⟩, ⟨Bu HB⟩⟩
 case rest =>
  clear HC3
  try clear p2
  try clear c5
  try clear c7
  try clear c8
  obtain ⟨kq, x20_2, rfl, HA, HJ2, HB⟩ := hcut
  cases kq with
  | zero => exact absurd HA.out (by simp [lanyardlaw10_MomentOrders.j0])
  | succ kj2 =>
   have H := HA.out
   clear HA
   simp only [lanyardlaw10_MomentOrders.j0] at H
   refine (Classical.em (x20_2 = true)).elim (fun c12 => ?a44_) (fun c12 => ?b44_)
   case' a44_ =>
    subst c12
    have H1 : ((lanyardlaw10_awake.f kj2).bind fun t232 => (some t232)) = some r := by rw [if_pos rfl] at H; exact H
    clear H
    have H := H1
    clear H1
    replace H := Option.bind_eq_some_iff.mp H
    obtain ⟨t232, A130, H⟩ := H
    replace H : (some t232) = some r := H
    have A13 := Aside0.mk A130
    clear A130
    obtain rfl := Option.some.inj H
    go_wp2_with (first | ((with_reducible refine gate_callee (f := 8) rfl ?_); refine goesA (some 21) Tryd.func8 #[] rfl ?_; (with_reducible refine (lanyardlaw10_awake.calls kj2  t232 _ ?sideU A13.out).mono ?_); (case sideU => first | exact HU.out | exact Uni.up HU (Bu HB) | exact Uni.below HU.out (by assumption)); rintro e w14 ⟨rfl, hb⟩; refine ⟨_, rfl, ?_⟩; have n0_ := Bs HB hb; clear HB; revert n0_; intro HB; (try clear hb); (try clear hb2); (try clear hk); (try clear hi)))
    go_ret
    exact ⟨rfl_, Bu HB⟩
   case' b44_ =>
    replace c12 := Bool.eq_false_iff.mpr c12
    subst c12
    have H1 : ((moment_Print.f kj2 a0).bind fun bt233 => ((moment_Print.f kj2 a1).bind fun bt235 => (if bt233.2 = 0 then (if bt235.2 = 0 then (if ((bt233.1.toList == bt235.1.toList) == (a0 == a1)) = true then (if (bt233.1.size : Int) = (bt235.1.size : Int) then (some ((Op.bytesLess bt233.1.toList bt235.1.toList) == (decide (a0 < a1)))) else (some true)) else (some false)) else (some false)) else (some false)))) = some r := by rw [if_neg (show ¬ (false = true) by decide)] at H; exact H
    clear H
    have H := H1
    clear H1
    replace H := Option.bind_eq_some_iff.mp H
    obtain ⟨⟨t233, t234⟩, A150, H⟩ := H
    replace H : ((moment_Print.f kj2 a1).bind fun bt235 => (if t234 = 0 then (if bt235.2 = 0 then (if ((t233.toList == bt235.1.toList) == (a0 == a1)) = true then (if (t233.size : Int) = (bt235.1.size : Int) then (some ((Op.bytesLess t233.toList bt235.1.toList) == (decide (a0 < a1)))) else (some true)) else (some false)) else (some false)) else (some false))) = some r := H
    have A15 := Aside0.mk A150
    clear A150
    replace H := Option.bind_eq_some_iff.mp H
    obtain ⟨⟨t235, t236⟩, A160, H⟩ := H
    replace H : (if t234 = 0 then (if t236 = 0 then (if ((t233.toList == t235.toList) == (a0 == a1)) = true then (if (t233.size : Int) = (t235.size : Int) then (some ((Op.bytesLess t233.toList t235.toList) == (decide (a0 < a1)))) else (some true)) else (some false)) else (some false)) else (some false)) = some r := H
    have A16 := Aside0.mk A160
    clear A160
    refine (Classical.em (t234 = 0)).elim (fun c17 => ?a45_) (fun c17 => ?b45_)
    case' a45_ =>
     rw [if_pos c17] at H
     have c17b0 : (t234 == 0) = true := beq_iff_eq.mpr c17
     have c17b1 : (t234 != 0) = false := bne_eq_false_iff_eq.mpr c17
     clear c17
     refine (Classical.em (t236 = 0)).elim (fun c18 => ?a46_) (fun c18 => ?b46_)
     case' a46_ =>
      rw [if_pos c18] at H
      have c18b0 : (t236 == 0) = true := beq_iff_eq.mpr c18
      have c18b1 : (t236 != 0) = false := bne_eq_false_iff_eq.mpr c18
      clear c18
      refine (Classical.em (((t233.toList == t235.toList) == (a0 == a1)) = true)).elim (fun c19 => ?a47_) (fun c19 => ?b47_)
      case' a47_ =>
       rw [if_pos c19] at H
       have c19b0 : ((t233.toList == t235.toList) == (a0 == a1)) = true := c19
       (try (have c19b1 : decide ((t233.toList == t235.toList) = (a0 == a1)) = true := by simpa using c19))
       (try (have c19b2 : ((t233.toList == t235.toList) == (a0 == a1)) = true := by simpa using c19))
       clear c19
       refine (Classical.em ((t233.size : Int) = (t235.size : Int))).elim (fun c20 => ?a48_) (fun c20 => ?b48_)
       case' a48_ =>
        rw [if_pos c20] at H
        have c20b0 : ((t233.size : Int) == (t235.size : Int)) = true := beq_iff_eq.mpr c20
        have c20b1 : ((t233.size : Int) != (t235.size : Int)) = false := bne_eq_false_iff_eq.mpr c20
        have c20b2 : (t233.size == t235.size) = true := by first | simpa using c20 | (simp at c20 ⊢; omega)
        clear c20
        obtain rfl := Option.some.inj H
       case' b48_ =>
        rw [if_neg c20] at H
        have c20b0 : ((t233.size : Int) == (t235.size : Int)) = false := beq_eq_false_iff_ne.mpr c20
        have c20b1 : ((t233.size : Int) != (t235.size : Int)) = true := bne_iff_ne.mpr c20
        have c20b2 : (t233.size == t235.size) = false := by first | simpa using c20 | (simp at c20 ⊢; omega)
        obtain rfl := Option.some.inj H
      case' b47_ =>
       rw [if_neg c19] at H
       have c19b0 : ((t233.toList == t235.toList) == (a0 == a1)) = false := by simpa using c19
       (try (have c19b1 : decide ((t233.toList == t235.toList) = (a0 == a1)) = false := by simpa using c19))
       (try (have c19b2 : ((t233.toList == t235.toList) == (a0 == a1)) = false := by simpa using c19))
       (try (have c19b3 : ¬ ((t233.toList == t235.toList) = (a0 == a1)) := by simpa using c19))
       clear c19
       exact absurd (Option.some.inj H) (by rw [HR_.out]; decide)
     case' b46_ =>
      rw [if_neg c18] at H
      have c18b0 : (t236 == 0) = false := beq_eq_false_iff_ne.mpr c18
      have c18b1 : (t236 != 0) = true := bne_iff_ne.mpr c18
      exact absurd (Option.some.inj H) (by rw [HR_.out]; decide)
    case' b45_ =>
     rw [if_neg c17] at H
     have c17b0 : (t234 == 0) = false := beq_eq_false_iff_ne.mpr c17
     have c17b1 : (t234 != 0) = true := bne_iff_ne.mpr c17
     exact absurd (Option.some.inj H) (by rw [HR_.out]; decide)
   case a48_ | b48_ =>
    go_wp2_with (first | ((with_reducible refine gate_callee (f := 9) rfl ?_); refine goesA (some 24) Tryd.func9 #[.int .i64 a0] rfl ?_; (with_reducible refine (moment_Print.calls kj2 a0 t233 t234 _ A15.out).mono ?_); rintro e wz1 ⟨rfl, hb⟩; refine ⟨_, rfl, ?_⟩; have n0_ := Bs HB hb; clear HB; revert n0_; intro HB; (try clear hb); (try clear hb2); (try clear hk); (try clear hi)) | ((with_reducible refine gate_callee (f := 9) rfl ?_); refine goesA (some 29) Tryd.func9 #[.int .i64 a1] rfl ?_; (with_reducible refine (moment_Print.calls kj2 a1 t235 t236 _ A16.out).mono ?_); rintro e wz2 ⟨rfl, hb⟩; refine ⟨_, rfl, ?_⟩; have n0_ := Bs HB hb; clear HB; revert n0_; intro HB; (try clear hb); (try clear hb2); (try clear hk); (try clear hi)))
    go_ret
    exact ⟨rfl_, Bu HB⟩
/-- THE ONE PURE STATEMENT of lanyardlaw10_MomentOrders: yours. -/
def lanyardlaw10_MomentOrders.Pure : Prop := ∀ (a0 : Int) (a1 : Int), (Lit.int .i64 a0).wf = true → (Lit.int .i64 a1).wf = true → ∃ k, lanyardlaw10_MomentOrders.f k a0 a1 = some true
theorem lanyardlaw10_MomentOrders.walk (P : lanyardlaw10_MomentOrders.Pure) (a0 : Int) (a1 : Int) (w : World) (w0 : (Lit.int .i64 a0).wf = true) (w1 : (Lit.int .i64 a1).wf = true) (hU : Uni w) :
  Calls Tryd.prog 5 #[.int .i64 a0, .int .i64 a1] w fun e w' => e = .returned (.bool true) ∧ Below w.heap.size w w' := by
 obtain ⟨k, h⟩ := P a0 a1 w0 w1
 refine (lanyardlaw10_MomentOrders.calls k a0 a1 true w hU h).mono ?_
 rintro e w' ⟨rfl, hd⟩
 exact ⟨rfl, hd⟩

end Go.Proofs.YtcikjghmelbkaaaDoor.Hp
