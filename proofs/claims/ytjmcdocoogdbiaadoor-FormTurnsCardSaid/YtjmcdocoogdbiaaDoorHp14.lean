/- Go functions of this seat as Lean functions, and their contracts: what the Go code computes, for every input. (By hp.py, a program of this repo, over the kit's print.py.) -/
import Derived.Test.YtjmcdocoogdbiaaDoorHp0
import Derived.Test.YtjmcdocoogdbiaaDoorHp4
import Derived.Test.YtjmcdocoogdbiaaDoorHp9
import Derived.Test.YtjmcdocoogdbiaaDoorHp10
namespace Go.Proofs.YtjmcdocoogdbiaaDoor.Hp
open Go.RowKit Go.Proofs.YtjmcdocoogdbiaaDoorW.PrintWords Go.Proofs.YtjmcdocoogdbiaaDoorW.PrintLast Go.Proofs.YtjmcdocoogdbiaaDoorW.PrintMore
attribute [local go_sem] max2_int min2_int max_two min_two max_three min_three max_four min_four   -- for this text's walks alone
set_option linter.unusedVariables false
set_option linter.unusedSimpArgs false

/-! ### lanyardlaw03_FormTurns: function 6 -/
mutual
def lanyardlaw03_FormTurns.j0 : Nat → ByteArray → Bool → Option (Bool)
 | 0, _, _ => none
 | k + 1, x0, x15 => if x15 = true then ((lanyardlaw03_awake.f k).bind fun t244 => (some t244)) else ((escape_Attr.f x0).bind fun t245 => ((escape_Text.f x0).bind fun t246 => ((escape_Page.f x0).bind fun t247 => ((lanyardref03_Turned.f k x0 1).bind fun t248 => (if t245.toList = t248.toList then ((lanyardref03_Turned.f k x0 2).bind fun t249 => (if t246.toList = t249.toList then ((lanyardref03_Turned.f k x0 3).bind fun t250 => (lanyardlaw03_FormTurns.j1 k t245 t246 t247 (t247.toList != t250.toList))) else (lanyardlaw03_FormTurns.j1 k t245 t246 t247 true))) else (lanyardlaw03_FormTurns.j1 k t245 t246 t247 true))))))
def lanyardlaw03_FormTurns.j1 : Nat → ByteArray → ByteArray → ByteArray → Bool → Option (Bool)
 | 0, _, _, _, _ => none
 | k + 1, x3, x4, x5, x38 => if x38 = true then (some false) else (lanyardlaw03_FormTurns.l0 k x3 x4 x5 0)
def lanyardlaw03_FormTurns.l0 : Nat → ByteArray → ByteArray → ByteArray → Int → Option (Bool)
 | 0, _, _, _, _ => none
 | k + 1, x3, x4, x5, x6 => if x6 < (x3.size : Int) then (if 0 ≤ x6 then (if (bt x3 x6) = 60 then (some false) else (if (bt x3 x6) = 34 then (some false) else (if (bt x3 x6) = 10 then (some false) else (lanyardlaw03_FormTurns.l0 k x3 x4 x5 (wrap64 (x6 + 1)))))) else (none)) else (lanyardlaw03_FormTurns.l1 k x4 x5 0)
def lanyardlaw03_FormTurns.l1 : Nat → ByteArray → ByteArray → Int → Option (Bool)
 | 0, _, _, _ => none
 | k + 1, x4, x5, x7 => if x7 < (x4.size : Int) then (if 0 ≤ x7 then (if (bt x4 x7) = 60 then (some false) else (if (bt x4 x7) = 62 then (some false) else (if (bt x4 x7) = 13 then (some false) else (lanyardlaw03_FormTurns.l1 k x4 x5 (wrap64 (x7 + 1)))))) else (none)) else (lanyardlaw03_FormTurns.l2 k x5 0)
def lanyardlaw03_FormTurns.l2 : Nat → ByteArray → Int → Option (Bool)
 | 0, _, _ => none
 | k + 1, x5, x8 => if x8 < (x5.size : Int) then (if 0 ≤ x8 then (if (bt x5 x8) = 60 then (some false) else (if (bt x5 x8) = 62 then (some false) else (if (bt x5 x8) = 34 then (some false) else (if (bt x5 x8) = 39 then (some false) else (lanyardlaw03_FormTurns.l2 k x5 (wrap64 (x8 + 1))))))) else (none)) else (some true)
end
def lanyardlaw03_FormTurns.f (k : Nat) (a0 : ByteArray) : Option (Bool) := (lanyardlaw03_awake.f k).bind fun t243 => (if t243 = true then (lanyardlaw03_FormTurns.j0 k a0 (decide ((a0.size : Int) > 2000))) else (lanyardlaw03_FormTurns.j0 k a0 true))
theorem lanyardlaw03_FormTurns.mono_l : ∀ k, (∀ y0 y1, LeO (lanyardlaw03_FormTurns.j0 k y0 y1) (lanyardlaw03_FormTurns.j0 (k + 1) y0 y1)) ∧ (∀ y0 y1 y2 y3, LeO (lanyardlaw03_FormTurns.j1 k y0 y1 y2 y3) (lanyardlaw03_FormTurns.j1 (k + 1) y0 y1 y2 y3)) ∧ (∀ y0 y1 y2 y3, LeO (lanyardlaw03_FormTurns.l0 k y0 y1 y2 y3) (lanyardlaw03_FormTurns.l0 (k + 1) y0 y1 y2 y3)) ∧ (∀ y0 y1 y2, LeO (lanyardlaw03_FormTurns.l1 k y0 y1 y2) (lanyardlaw03_FormTurns.l1 (k + 1) y0 y1 y2)) ∧ (∀ y0 y1, LeO (lanyardlaw03_FormTurns.l2 k y0 y1) (lanyardlaw03_FormTurns.l2 (k + 1) y0 y1))
 | 0 => ⟨fun _ _ r h => by simp [lanyardlaw03_FormTurns.j0] at h, fun _ _ _ _ r h => by simp [lanyardlaw03_FormTurns.j1] at h, fun _ _ _ _ r h => by simp [lanyardlaw03_FormTurns.l0] at h, fun _ _ _ r h => by simp [lanyardlaw03_FormTurns.l1] at h, fun _ _ r h => by simp [lanyardlaw03_FormTurns.l2] at h⟩
 | k + 1 => by
  obtain ⟨ih0, ih1, ih2, ih3, ih4⟩ := lanyardlaw03_FormTurns.mono_l k
  refine ⟨?_, ?_, ?_, ?_, ?_⟩
  ·intro y0 y1
   unfold lanyardlaw03_FormTurns.j0
   repeat' first
   | (with_reducible exact ih0 _ _)
   | (with_reducible exact ih1 _ _ _ _)
   | (with_reducible exact ih2 _ _ _ _)
   | (with_reducible exact ih3 _ _ _)
   | (with_reducible exact ih4 _ _)
   | (with_reducible exact lanyardlaw03_awake.mono _)
   | (with_reducible exact lanyardref03_Turned.mono _ _ _)
   | (with_reducible exact LeO.refl _)
   | (with_reducible exact LeO.none _)
   | (with_reducible refine LeO.ite ?_ ?_)
   | (with_reducible refine LeO.bind ?_ (fun _ => ?_))
   | exact ih0 _ _
   | exact ih1 _ _ _ _
   | exact ih2 _ _ _ _
   | exact ih3 _ _ _
   | exact ih4 _ _
   | exact lanyardlaw03_awake.mono _
   | exact lanyardref03_Turned.mono _ _ _
   | exact LeO.none _
   | refine LeO.ite ?_ ?_
   | refine LeO.bind ?_ (fun _ => ?_)
  ·intro y0 y1 y2 y3
   unfold lanyardlaw03_FormTurns.j1
   repeat' first
   | (with_reducible exact ih0 _ _)
   | (with_reducible exact ih1 _ _ _ _)
   | (with_reducible exact ih2 _ _ _ _)
   | (with_reducible exact ih3 _ _ _)
   | (with_reducible exact ih4 _ _)
   | (with_reducible exact lanyardlaw03_awake.mono _)
   | (with_reducible exact lanyardref03_Turned.mono _ _ _)
   | (with_reducible exact LeO.refl _)
   | (with_reducible exact LeO.none _)
   | (with_reducible refine LeO.ite ?_ ?_)
   | (with_reducible refine LeO.bind ?_ (fun _ => ?_))
   | exact ih0 _ _
   | exact ih1 _ _ _ _
   | exact ih2 _ _ _ _
   | exact ih3 _ _ _
   | exact ih4 _ _
   | exact lanyardlaw03_awake.mono _
   | exact lanyardref03_Turned.mono _ _ _
   | exact LeO.none _
   | refine LeO.ite ?_ ?_
   | refine LeO.bind ?_ (fun _ => ?_)
  ·intro y0 y1 y2 y3
   unfold lanyardlaw03_FormTurns.l0
   repeat' first
   | (with_reducible exact ih0 _ _)
   | (with_reducible exact ih1 _ _ _ _)
   | (with_reducible exact ih2 _ _ _ _)
   | (with_reducible exact ih3 _ _ _)
   | (with_reducible exact ih4 _ _)
   | (with_reducible exact lanyardlaw03_awake.mono _)
   | (with_reducible exact lanyardref03_Turned.mono _ _ _)
   | (with_reducible exact LeO.refl _)
   | (with_reducible exact LeO.none _)
   | (with_reducible refine LeO.ite ?_ ?_)
   | (with_reducible refine LeO.bind ?_ (fun _ => ?_))
   | exact ih0 _ _
   | exact ih1 _ _ _ _
   | exact ih2 _ _ _ _
   | exact ih3 _ _ _
   | exact ih4 _ _
   | exact lanyardlaw03_awake.mono _
   | exact lanyardref03_Turned.mono _ _ _
   | exact LeO.none _
   | refine LeO.ite ?_ ?_
   | refine LeO.bind ?_ (fun _ => ?_)
  ·intro y0 y1 y2
   unfold lanyardlaw03_FormTurns.l1
   repeat' first
   | (with_reducible exact ih0 _ _)
   | (with_reducible exact ih1 _ _ _ _)
   | (with_reducible exact ih2 _ _ _ _)
   | (with_reducible exact ih3 _ _ _)
   | (with_reducible exact ih4 _ _)
   | (with_reducible exact lanyardlaw03_awake.mono _)
   | (with_reducible exact lanyardref03_Turned.mono _ _ _)
   | (with_reducible exact LeO.refl _)
   | (with_reducible exact LeO.none _)
   | (with_reducible refine LeO.ite ?_ ?_)
   | (with_reducible refine LeO.bind ?_ (fun _ => ?_))
   | exact ih0 _ _
   | exact ih1 _ _ _ _
   | exact ih2 _ _ _ _
   | exact ih3 _ _ _
   | exact ih4 _ _
   | exact lanyardlaw03_awake.mono _
   | exact lanyardref03_Turned.mono _ _ _
   | exact LeO.none _
   | refine LeO.ite ?_ ?_
   | refine LeO.bind ?_ (fun _ => ?_)
  ·intro y0 y1
   unfold lanyardlaw03_FormTurns.l2
   repeat' first
   | (with_reducible exact ih0 _ _)
   | (with_reducible exact ih1 _ _ _ _)
   | (with_reducible exact ih2 _ _ _ _)
   | (with_reducible exact ih3 _ _ _)
   | (with_reducible exact ih4 _ _)
   | (with_reducible exact lanyardlaw03_awake.mono _)
   | (with_reducible exact lanyardref03_Turned.mono _ _ _)
   | (with_reducible exact LeO.refl _)
   | (with_reducible exact LeO.none _)
   | (with_reducible refine LeO.ite ?_ ?_)
   | (with_reducible refine LeO.bind ?_ (fun _ => ?_))
   | exact ih0 _ _
   | exact ih1 _ _ _ _
   | exact ih2 _ _ _ _
   | exact ih3 _ _ _
   | exact ih4 _ _
   | exact lanyardlaw03_awake.mono _
   | exact lanyardref03_Turned.mono _ _ _
   | exact LeO.none _
   | refine LeO.ite ?_ ?_
   | refine LeO.bind ?_ (fun _ => ?_)
theorem lanyardlaw03_FormTurns.mono : ∀ a0 k, LeO (lanyardlaw03_FormTurns.f k a0) (lanyardlaw03_FormTurns.f (k + 1) a0) := by
 intro a0 k
 obtain ⟨ih0, ih1, ih2, ih3, ih4⟩ := lanyardlaw03_FormTurns.mono_l k
 unfold lanyardlaw03_FormTurns.f
 repeat' first
   | (with_reducible exact ih0 _ _)
   | (with_reducible exact ih1 _ _ _ _)
   | (with_reducible exact ih2 _ _ _ _)
   | (with_reducible exact ih3 _ _ _)
   | (with_reducible exact ih4 _ _)
   | (with_reducible exact lanyardlaw03_awake.mono _)
   | (with_reducible exact lanyardref03_Turned.mono _ _ _)
   | (with_reducible exact LeO.refl _)
   | (with_reducible exact LeO.none _)
   | (with_reducible refine LeO.ite ?_ ?_)
   | (with_reducible refine LeO.bind ?_ (fun _ => ?_))
   | exact ih0 _ _
   | exact ih1 _ _ _ _
   | exact ih2 _ _ _ _
   | exact ih3 _ _ _
   | exact ih4 _ _
   | exact lanyardlaw03_awake.mono _
   | exact lanyardref03_Turned.mono _ _ _
   | exact LeO.none _
   | refine LeO.ite ?_ ?_
   | refine LeO.bind ?_ (fun _ => ?_)
set_option maxHeartbeats 8000000 in
set_option maxRecDepth 100000 in
theorem lanyardlaw03_FormTurns.calls (k : Nat) (a0 : ByteArray) (r : Bool) (w : World) (hU : Uni w) (h : lanyardlaw03_FormTurns.f k a0 = some r) :
  Calls Tryd.prog 6 #[.string a0] w fun e w' => e = .returned (.bool r) ∧ Below w.heap.size w w' := by
 have HU := Aside0.mk hU
 clear hU
 have HB := Aside0.mk (Below.refl w.heap.size w)
 have H : ((lanyardlaw03_awake.f k).bind fun t243 => (if t243 = true then (lanyardlaw03_FormTurns.j0 k a0 (decide ((a0.size : Int) > 2000))) else (lanyardlaw03_FormTurns.j0 k a0 true))) = some r := h
 clear h
 have HC2 := Aside0.mk H
 clear H
 go_enter Tryd.func6, Tryd.ntmps6
 go_upto_region 1 with (fail)
 go_cut [15] (fun v15 wc => ∃ (kq : Nat) (x15_1 : Bool), v15 = .bool x15_1 ∧ Aside0 (lanyardlaw03_FormTurns.j0 kq a0 x15_1 = some r) ∧ Aside0 (kq ≤ k) ∧ Aside0 (Below w.heap.size w wc))
 case first =>
  have H := HC2.out
  clear HC2
  replace H := Option.bind_eq_some_iff.mp H
  obtain ⟨t243, A30, H⟩ := H
  replace H : (if t243 = true then (lanyardlaw03_FormTurns.j0 k a0 (decide ((a0.size : Int) > 2000))) else (lanyardlaw03_FormTurns.j0 k a0 true)) = some r := H
  have A3 := Aside0.mk A30
  clear A30
  by_cases c4 : t243 = true
  ·subst c4
   have H1 : (lanyardlaw03_FormTurns.j0 k a0 (decide ((a0.size : Int) > 2000))) = some r := by rw [if_pos rfl] at H; exact H
   clear H
   have H := H1
   clear H1
   have H' := Aside0.mk H
   clear H
   go_wp2_with (first | ((with_reducible refine gate_callee (f := 8) rfl ?_); refine goesA (some 9) Tryd.func8 #[] rfl ?_; (with_reducible refine (lanyardlaw03_awake.calls k  true _ ?sideU A3.out).mono ?_); (case sideU => first | exact HU.out | exact Uni.up HU (Bu HB) | exact Uni.below HU.out (by assumption)); rintro e w5 ⟨rfl, hb⟩; refine ⟨_, rfl, ?_⟩; have n0_ := Bs HB hb; clear HB; revert n0_; intro HB; (try clear hb); (try clear hb2); (try clear hk); (try clear hi)))
   go_meet
   case rel => exact ⟨_, (decide ((a0.size : Int) > 2000)), (by first | rfl | (simp; done) | (simp [*]; done)), H', ⟨by first | omega | exact Nat.le_refl _⟩, ⟨Bu HB⟩⟩
  ·replace c4 := Bool.eq_false_iff.mpr c4
   subst c4
   have H1 : (lanyardlaw03_FormTurns.j0 k a0 true) = some r := by rw [if_neg (show ¬ (false = true) by decide)] at H; exact H
   clear H
   have H := H1
   clear H1
   have H' := Aside0.mk H
   clear H
   go_wp2_with (first | ((with_reducible refine gate_callee (f := 8) rfl ?_); refine goesA (some 9) Tryd.func8 #[] rfl ?_; (with_reducible refine (lanyardlaw03_awake.calls k  false _ ?sideU A3.out).mono ?_); (case sideU => first | exact HU.out | exact Uni.up HU (Bu HB) | exact Uni.below HU.out (by assumption)); rintro e w6 ⟨rfl, hb⟩; refine ⟨_, rfl, ?_⟩; have n0_ := Bs HB hb; clear HB; revert n0_; intro HB; (try clear hb); (try clear hb2); (try clear hk); (try clear hi)))
   go_meet
   case rel => exact ⟨_, (true), (by first | rfl | (simp; done) | (simp [*]; done)), H', ⟨by first | omega | exact Nat.le_refl _⟩, ⟨Bu HB⟩⟩
 case rest =>
  clear HC2
  try clear p2
  try clear c4
  try clear c6
  obtain ⟨kq, x15_1, rfl, HA, HJ1, HB⟩ := hcut
  cases kq with
  | zero => exact absurd HA.out (by simp [lanyardlaw03_FormTurns.j0])
  | succ kj1 =>
   have H := HA.out
   clear HA
   simp only [lanyardlaw03_FormTurns.j0] at H
   by_cases c7 : x15_1 = true
   ·subst c7
    have H1 : ((lanyardlaw03_awake.f kj1).bind fun t244 => (some t244)) = some r := by rw [if_pos rfl] at H; exact H
    clear H
    have H := H1
    clear H1
    replace H := Option.bind_eq_some_iff.mp H
    obtain ⟨t244, A80, H⟩ := H
    replace H : (some t244) = some r := H
    have A8 := Aside0.mk A80
    clear A80
    obtain rfl := Option.some.inj H
    go_wp2_with (first | ((with_reducible refine gate_callee (f := 8) rfl ?_); refine goesA (some 16) Tryd.func8 #[] rfl ?_; (with_reducible refine (lanyardlaw03_awake.calls kj1  t244 _ ?sideU A8.out).mono ?_); (case sideU => first | exact HU.out | exact Uni.up HU (Bu HB) | exact Uni.below HU.out (by assumption)); rintro e w9 ⟨rfl, hb⟩; refine ⟨_, rfl, ?_⟩; have n0_ := Bs HB hb; clear HB; revert n0_; intro HB; (try clear hb); (try clear hb2); (try clear hk); (try clear hi)))
    go_ret
    exact ⟨rfl_, Bu HB⟩
   ·replace c7 := Bool.eq_false_iff.mpr c7
    subst c7
    have H1 : ((escape_Attr.f a0).bind fun t245 => ((escape_Text.f a0).bind fun t246 => ((escape_Page.f a0).bind fun t247 => ((lanyardref03_Turned.f kj1 a0 1).bind fun t248 => (if t245.toList = t248.toList then ((lanyardref03_Turned.f kj1 a0 2).bind fun t249 => (if t246.toList = t249.toList then ((lanyardref03_Turned.f kj1 a0 3).bind fun t250 => (lanyardlaw03_FormTurns.j1 kj1 t245 t246 t247 (t247.toList != t250.toList))) else (lanyardlaw03_FormTurns.j1 kj1 t245 t246 t247 true))) else (lanyardlaw03_FormTurns.j1 kj1 t245 t246 t247 true)))))) = some r := by rw [if_neg (show ¬ (false = true) by decide)] at H; exact H
    clear H
    have H := H1
    clear H1
    replace H := Option.bind_eq_some_iff.mp H
    obtain ⟨t245, A100, H⟩ := H
    replace H : ((escape_Text.f a0).bind fun t246 => ((escape_Page.f a0).bind fun t247 => ((lanyardref03_Turned.f kj1 a0 1).bind fun t248 => (if t245.toList = t248.toList then ((lanyardref03_Turned.f kj1 a0 2).bind fun t249 => (if t246.toList = t249.toList then ((lanyardref03_Turned.f kj1 a0 3).bind fun t250 => (lanyardlaw03_FormTurns.j1 kj1 t245 t246 t247 (t247.toList != t250.toList))) else (lanyardlaw03_FormTurns.j1 kj1 t245 t246 t247 true))) else (lanyardlaw03_FormTurns.j1 kj1 t245 t246 t247 true))))) = some r := H
    have A10 := Aside0.mk A100
    clear A100
    replace H := Option.bind_eq_some_iff.mp H
    obtain ⟨t246, A110, H⟩ := H
    replace H : ((escape_Page.f a0).bind fun t247 => ((lanyardref03_Turned.f kj1 a0 1).bind fun t248 => (if t245.toList = t248.toList then ((lanyardref03_Turned.f kj1 a0 2).bind fun t249 => (if t246.toList = t249.toList then ((lanyardref03_Turned.f kj1 a0 3).bind fun t250 => (lanyardlaw03_FormTurns.j1 kj1 t245 t246 t247 (t247.toList != t250.toList))) else (lanyardlaw03_FormTurns.j1 kj1 t245 t246 t247 true))) else (lanyardlaw03_FormTurns.j1 kj1 t245 t246 t247 true)))) = some r := H
    have A11 := Aside0.mk A110
    clear A110
    replace H := Option.bind_eq_some_iff.mp H
    obtain ⟨t247, A120, H⟩ := H
    replace H : ((lanyardref03_Turned.f kj1 a0 1).bind fun t248 => (if t245.toList = t248.toList then ((lanyardref03_Turned.f kj1 a0 2).bind fun t249 => (if t246.toList = t249.toList then ((lanyardref03_Turned.f kj1 a0 3).bind fun t250 => (lanyardlaw03_FormTurns.j1 kj1 t245 t246 t247 (t247.toList != t250.toList))) else (lanyardlaw03_FormTurns.j1 kj1 t245 t246 t247 true))) else (lanyardlaw03_FormTurns.j1 kj1 t245 t246 t247 true))) = some r := H
    have A12 := Aside0.mk A120
    clear A120
    have HC13 := Aside0.mk H
    clear H
    go_upto_region 4 with (first | ((with_reducible refine gate_callee (f := 20) rfl ?_); refine goesA (some 18) Tryd.func20 #[.string a0] rfl ?_; (with_reducible refine (escape_Attr.calls a0 t245 _ A10.out).mono ?_); rintro e w14 ⟨rfl, hb⟩; refine ⟨_, rfl, ?_⟩; have n0_ := Bs HB hb; clear HB; revert n0_; intro HB; (try clear hb); (try clear hb2); (try clear hk); (try clear hi)) | ((with_reducible refine gate_callee (f := 21) rfl ?_); refine goesA (some 20) Tryd.func21 #[.string a0] rfl ?_; (with_reducible refine (escape_Text.calls a0 t246 _ A11.out).mono ?_); rintro e w15 ⟨rfl, hb⟩; refine ⟨_, rfl, ?_⟩; have n0_ := Bs HB hb; clear HB; revert n0_; intro HB; (try clear hb); (try clear hb2); (try clear hk); (try clear hi)) | ((with_reducible refine gate_callee (f := 22) rfl ?_); refine goesA (some 22) Tryd.func22 #[.string a0] rfl ?_; (with_reducible refine (escape_Page.calls a0 t247 _ A12.out).mono ?_); rintro e w16 ⟨rfl, hb⟩; refine ⟨_, rfl, ?_⟩; have n0_ := Bs HB hb; clear HB; revert n0_; intro HB; (try clear hb); (try clear hb2); (try clear hk); (try clear hi)))
    (try simp only [Act.put, List.setIfInBounds_toArray, List.set_cons_zero, List.set_cons_succ])
    go_cut [38] (fun v38 wc => ∃ (kq : Nat) (x38_12 : Bool), v38 = .bool x38_12 ∧ Aside0 (lanyardlaw03_FormTurns.j1 kq t245 t246 t247 x38_12 = some r) ∧ Aside0 (kq ≤ kj1) ∧ Aside0 (Below w.heap.size w wc))
    case first =>
     have H := HC13.out
     clear HC13
     replace H := Option.bind_eq_some_iff.mp H
     obtain ⟨t248, A170, H⟩ := H
     replace H : (if t245.toList = t248.toList then ((lanyardref03_Turned.f kj1 a0 2).bind fun t249 => (if t246.toList = t249.toList then ((lanyardref03_Turned.f kj1 a0 3).bind fun t250 => (lanyardlaw03_FormTurns.j1 kj1 t245 t246 t247 (t247.toList != t250.toList))) else (lanyardlaw03_FormTurns.j1 kj1 t245 t246 t247 true))) else (lanyardlaw03_FormTurns.j1 kj1 t245 t246 t247 true)) = some r := H
     have A17 := Aside0.mk A170
     clear A170
     by_cases c18 : t245.toList = t248.toList
     ·rw [if_pos c18] at H
      have c18b0 : (t245.toList == t248.toList) = true := beq_iff_eq.mpr c18
      have c18b1 : (t245.toList != t248.toList) = false := bne_eq_false_iff_eq.mpr c18
      clear c18
      (first | rw [c18b0] | (simp only [i64_w, i32_w]; rw [c18b0]) | skip)
      replace H := Option.bind_eq_some_iff.mp H
      obtain ⟨t249, A190, H⟩ := H
      replace H : (if t246.toList = t249.toList then ((lanyardref03_Turned.f kj1 a0 3).bind fun t250 => (lanyardlaw03_FormTurns.j1 kj1 t245 t246 t247 (t247.toList != t250.toList))) else (lanyardlaw03_FormTurns.j1 kj1 t245 t246 t247 true)) = some r := H
      have A19 := Aside0.mk A190
      clear A190
      by_cases c20 : t246.toList = t249.toList
      ·rw [if_pos c20] at H
       have c20b0 : (t246.toList == t249.toList) = true := beq_iff_eq.mpr c20
       have c20b1 : (t246.toList != t249.toList) = false := bne_eq_false_iff_eq.mpr c20
       clear c20
       replace H := Option.bind_eq_some_iff.mp H
       obtain ⟨t250, A210, H⟩ := H
       replace H : (lanyardlaw03_FormTurns.j1 kj1 t245 t246 t247 (t247.toList != t250.toList)) = some r := H
       have A21 := Aside0.mk A210
       clear A210
       have H' := Aside0.mk H
       clear H
       go_wp2_with (first | ((with_reducible refine gate_callee (f := 23) rfl ?_); refine goesA (some 25) Tryd.func23 #[.string a0, .int .i64 1] rfl ?_; (with_reducible refine (lanyardref03_Turned.calls kj1 a0 1 t248 _ A17.out).mono ?_); rintro e w22 ⟨rfl, hb⟩; refine ⟨_, rfl, ?_⟩; have n0_ := Bs HB hb; clear HB; revert n0_; intro HB; (try clear hb); (try clear hb2); (try clear hk); (try clear hi)) | (go_at_call 23; (with_reducible refine (lanyardref03_Turned.calls kj1 a0 2 t249 _ A19.out).mono ?_); rintro e w23 ⟨rfl, hb⟩; have n0_ := Bs HB hb; clear HB; revert n0_; intro HB; (try clear hb); (try clear hb2); (try clear hk); (try clear hi)) | (go_at_call 23; (with_reducible refine (lanyardref03_Turned.calls kj1 a0 3 t250 _ A21.out).mono ?_); rintro e w24 ⟨rfl, hb⟩; have n0_ := Bs HB hb; clear HB; revert n0_; intro HB; (try clear hb); (try clear hb2); (try clear hk); (try clear hi)))
       go_meet
       case rel => exact ⟨_, ((t247.toList != t250.toList)), (by first | rfl | (simp; done) | (simp [*]; done)), H', ⟨by have := HJ1.out; first | omega | exact Nat.le_refl _⟩, ⟨Bu HB⟩⟩
      ·rw [if_neg c20] at H
       have c20b0 : (t246.toList == t249.toList) = false := beq_eq_false_iff_ne.mpr c20
       have c20b1 : (t246.toList != t249.toList) = true := bne_iff_ne.mpr c20
       have H' := Aside0.mk H
       clear H
       go_wp2_with (first | ((with_reducible refine gate_callee (f := 23) rfl ?_); refine goesA (some 25) Tryd.func23 #[.string a0, .int .i64 1] rfl ?_; (with_reducible refine (lanyardref03_Turned.calls kj1 a0 1 t248 _ A17.out).mono ?_); rintro e w25 ⟨rfl, hb⟩; refine ⟨_, rfl, ?_⟩; have n0_ := Bs HB hb; clear HB; revert n0_; intro HB; (try clear hb); (try clear hb2); (try clear hk); (try clear hi)) | (go_at_call 23; (with_reducible refine (lanyardref03_Turned.calls kj1 a0 2 t249 _ A19.out).mono ?_); rintro e w26 ⟨rfl, hb⟩; have n0_ := Bs HB hb; clear HB; revert n0_; intro HB; (try clear hb); (try clear hb2); (try clear hk); (try clear hi)))
       go_meet
       case rel => exact ⟨_, (true), (by first | rfl | (simp; done) | (simp [*]; done)), H', ⟨by have := HJ1.out; first | omega | exact Nat.le_refl _⟩, ⟨Bu HB⟩⟩
     ·rw [if_neg c18] at H
      have c18b0 : (t245.toList == t248.toList) = false := beq_eq_false_iff_ne.mpr c18
      have c18b1 : (t245.toList != t248.toList) = true := bne_iff_ne.mpr c18
      (first | rw [c18b0] | (simp only [i64_w, i32_w]; rw [c18b0]) | skip)
      have H' := Aside0.mk H
      clear H
      go_wp2_with (first | ((with_reducible refine gate_callee (f := 23) rfl ?_); refine goesA (some 25) Tryd.func23 #[.string a0, .int .i64 1] rfl ?_; (with_reducible refine (lanyardref03_Turned.calls kj1 a0 1 t248 _ A17.out).mono ?_); rintro e w27 ⟨rfl, hb⟩; refine ⟨_, rfl, ?_⟩; have n0_ := Bs HB hb; clear HB; revert n0_; intro HB; (try clear hb); (try clear hb2); (try clear hk); (try clear hi)))
      go_meet
      case rel => exact ⟨_, (true), (by first | rfl | (simp; done) | (simp [*]; done)), H', ⟨by have := HJ1.out; first | omega | exact Nat.le_refl _⟩, ⟨Bu HB⟩⟩
    case rest =>
     clear HC13
     try clear c1
     try clear c2
     try clear p2
     try clear c4
     try clear c6
     try clear c7
     try clear c8
     try clear c18
     try clear c18b0
     try clear c18b1
     try clear c20
     try clear c20b0
     try clear c20b1
     try clear c21
     try clear c22
     try clear c23
     try clear p2
     obtain ⟨kq, x38_12, rfl, HA, HJ12, HB⟩ := hcut
     cases kq with
     | zero => exact absurd HA.out (by simp [lanyardlaw03_FormTurns.j1])
     | succ kj12 =>
      have H := HA.out
      clear HA
      simp only [lanyardlaw03_FormTurns.j1] at H
      by_cases c28 : x38_12 = true
      ·subst c28
       have H1 : (some false) = some r := by rw [if_pos rfl] at H; exact H
       clear H
       have H := H1
       clear H1
       obtain rfl := Option.some.inj H
       go_wp2
       go_ret
       exact ⟨rfl_, Bu HB⟩
      ·replace c28 := Bool.eq_false_iff.mpr c28
       subst c28
       have H1 : (lanyardlaw03_FormTurns.l0 kj12 t245 t246 t247 0) = some r := by rw [if_neg (show ¬ (false = true) by decide)] at H; exact H
       clear H
       have H := H1
       clear H1
       have H' := Aside0.mk H
       clear H
       go_wp2
       go_loopg [6] kj12 (fun kq v6 w' => ∃ (x6_3 : Int), v6 = .int .i64 x6_3 ∧ Aside0 (lanyardlaw03_FormTurns.l0 kq t245 t246 t247 x6_3 = some r) ∧ Aside0 (kq ≤ kj12) ∧ Aside0 (Below w.heap.size w w'))
       case atStart => exact ⟨(0), (by first | rfl | (simp; done) | (simp [*]; done)), H', ⟨Nat.le_refl _⟩, ⟨Bu HB⟩⟩
       case round =>
        clear H'
        try clear c1
        try clear c2
        try clear p2
        try clear c4
        try clear c6
        try clear c7
        try clear c8
        try clear c18
        try clear c18b0
        try clear c18b1
        try clear c20
        try clear c20b0
        try clear c20b1
        try clear c21
        try clear c22
        try clear c23
        try clear c28
        try clear p2
        obtain ⟨x6_3, rfl, HA, HK3, HB⟩ := hrel
        cases gk with
        | zero => exact absurd HA.out (by simp [lanyardlaw03_FormTurns.l0])
        | succ k3 =>
         have H := HA.out
         clear HA
         simp only [lanyardlaw03_FormTurns.l0] at H
         refine (Classical.em (x6_3 < (t245.size : Int))).elim (fun c29 => ?a87_) (fun c29 => ?b87_)
         case' a87_ =>
          rw [if_pos c29] at H
          have c29b0 : decide (x6_3 < (t245.size : Int)) = true := decide_eq_true c29
          clear c29
          refine (Classical.em (0 ≤ x6_3)).elim (fun c30 => ?a88_) (fun c30 => ?b88_)
          case' a88_ =>
           rw [if_pos c30] at H
           have c30b0 : decide (0 ≤ x6_3) = true := decide_eq_true c30
           clear c30
           refine (Classical.em ((bt t245 x6_3) = 60)).elim (fun c32 => ?a89_) (fun c32 => ?b89_)
           case' a89_ =>
            rw [if_pos c32] at H
            have c32b0 : ((bt t245 x6_3) == 60) = true := beq_iff_eq.mpr c32
            have c32b1 : ((bt t245 x6_3) != 60) = false := bne_eq_false_iff_eq.mpr c32
            clear c32
            obtain rfl := Option.some.inj H
            have p31 : 0 ≤ (x6_3 : Int) := of_decide_eq_true (by first | (with_reducible assumption) | assumption)
            have q31 : x6_3 < (t245.size : Int) := of_decide_eq_true (by first | (with_reducible assumption) | assumption)
            have hx31 := bt_at t245 x6_3
            replace p31 := eq_true p31
            replace q31 := eq_true q31
           case' b89_ =>
            rw [if_neg c32] at H
            have c32b0 : ((bt t245 x6_3) == 60) = false := beq_eq_false_iff_ne.mpr c32
            have c32b1 : ((bt t245 x6_3) != 60) = true := bne_iff_ne.mpr c32
            refine (Classical.em ((bt t245 x6_3) = 34)).elim (fun c34 => ?a90_) (fun c34 => ?b90_)
            case' a90_ =>
             rw [if_pos c34] at H
             have c34b0 : ((bt t245 x6_3) == 34) = true := beq_iff_eq.mpr c34
             have c34b1 : ((bt t245 x6_3) != 34) = false := bne_eq_false_iff_eq.mpr c34
             clear c34
             obtain rfl := Option.some.inj H
             have p31 : 0 ≤ (x6_3 : Int) := of_decide_eq_true (by first | (with_reducible assumption) | assumption)
             have q31 : x6_3 < (t245.size : Int) := of_decide_eq_true (by first | (with_reducible assumption) | assumption)
             have hx31 := bt_at t245 x6_3
             replace p31 := eq_true p31
             replace q31 := eq_true q31
             have p33 : 0 ≤ (x6_3 : Int) := of_decide_eq_true (by first | (with_reducible assumption) | assumption)
             have q33 : x6_3 < (t245.size : Int) := of_decide_eq_true (by first | (with_reducible assumption) | assumption)
             have hx33 := bt_at t245 x6_3
             replace p33 := eq_true p33
             replace q33 := eq_true q33
            case' b90_ =>
             rw [if_neg c34] at H
             have c34b0 : ((bt t245 x6_3) == 34) = false := beq_eq_false_iff_ne.mpr c34
             have c34b1 : ((bt t245 x6_3) != 34) = true := bne_iff_ne.mpr c34
             refine (Classical.em ((bt t245 x6_3) = 10)).elim (fun c36 => ?a91_) (fun c36 => ?b91_)
             case' a91_ =>
              rw [if_pos c36] at H
              have c36b0 : ((bt t245 x6_3) == 10) = true := beq_iff_eq.mpr c36
              have c36b1 : ((bt t245 x6_3) != 10) = false := bne_eq_false_iff_eq.mpr c36
              clear c36
              obtain rfl := Option.some.inj H
              have p31 : 0 ≤ (x6_3 : Int) := of_decide_eq_true (by first | (with_reducible assumption) | assumption)
              have q31 : x6_3 < (t245.size : Int) := of_decide_eq_true (by first | (with_reducible assumption) | assumption)
              have hx31 := bt_at t245 x6_3
              replace p31 := eq_true p31
              replace q31 := eq_true q31
              have p33 : 0 ≤ (x6_3 : Int) := of_decide_eq_true (by first | (with_reducible assumption) | assumption)
              have q33 : x6_3 < (t245.size : Int) := of_decide_eq_true (by first | (with_reducible assumption) | assumption)
              have hx33 := bt_at t245 x6_3
              replace p33 := eq_true p33
              replace q33 := eq_true q33
              have p35 : 0 ≤ (x6_3 : Int) := of_decide_eq_true (by first | (with_reducible assumption) | assumption)
              have q35 : x6_3 < (t245.size : Int) := of_decide_eq_true (by first | (with_reducible assumption) | assumption)
              have hx35 := bt_at t245 x6_3
              replace p35 := eq_true p35
              replace q35 := eq_true q35
             case' b91_ =>
              rw [if_neg c36] at H
              have c36b0 : ((bt t245 x6_3) == 10) = false := beq_eq_false_iff_ne.mpr c36
              have c36b1 : ((bt t245 x6_3) != 10) = true := bne_iff_ne.mpr c36
              have H' := Aside0.mk H
              clear H
              have p31 : 0 ≤ (x6_3 : Int) := of_decide_eq_true (by first | (with_reducible assumption) | assumption)
              have q31 : x6_3 < (t245.size : Int) := of_decide_eq_true (by first | (with_reducible assumption) | assumption)
              have hx31 := bt_at t245 x6_3
              replace p31 := eq_true p31
              replace q31 := eq_true q31
              have p33 : 0 ≤ (x6_3 : Int) := of_decide_eq_true (by first | (with_reducible assumption) | assumption)
              have q33 : x6_3 < (t245.size : Int) := of_decide_eq_true (by first | (with_reducible assumption) | assumption)
              have hx33 := bt_at t245 x6_3
              replace p33 := eq_true p33
              replace q33 := eq_true q33
              have p35 : 0 ≤ (x6_3 : Int) := of_decide_eq_true (by first | (with_reducible assumption) | assumption)
              have q35 : x6_3 < (t245.size : Int) := of_decide_eq_true (by first | (with_reducible assumption) | assumption)
              have hx35 := bt_at t245 x6_3
              replace p35 := eq_true p35
              replace q35 := eq_true q35
              go_wp2
              go_roundg k3
              case measure => have := HJ1.out; have := HJ12.out; have := HK3.out; omega
              case rel => exact ⟨(wrap64 (x6_3 + 1)), (by first | rfl | (simp; done) | (simp [*]; done)), H', ⟨by have := HJ1.out; have := HJ12.out; have := HK3.out; omega⟩, ⟨Bu HB⟩⟩
          case' b88_ =>
           rw [if_neg c30] at H
           exact absurd H (by simp)
         case' b87_ =>
          rw [if_neg c29] at H
          have c29b0 : decide (x6_3 < (t245.size : Int)) = false := decide_eq_false c29
          clear c29
          have H' := Aside0.mk H
          clear H
          go_wp2
          go_loopg [7] k3 (fun kq v7 w' => ∃ (x7_4 : Int), v7 = .int .i64 x7_4 ∧ Aside0 (lanyardlaw03_FormTurns.l1 kq t246 t247 x7_4 = some r) ∧ Aside0 (kq ≤ k3) ∧ Aside0 (Below w.heap.size w w'))
          case atStart => exact ⟨(0), (by first | rfl | (simp; done) | (simp [*]; done)), H', ⟨Nat.le_refl _⟩, ⟨Bu HB⟩⟩
          case round =>
           clear H'
           try clear c1
           try clear c2
           try clear p2
           try clear c3
           try clear p3
           try clear q3
           try clear hx3
           try clear c4
           try clear c6
           try clear p6
           try clear c7
           try clear c8
           try clear c18
           try clear c18b0
           try clear c18b1
           try clear c20
           try clear c20b0
           try clear c20b1
           try clear c21
           try clear c22
           try clear c23
           try clear c28
           try clear c29
           try clear c29b0
           try clear c30
           try clear c30b0
           try clear p31
           try clear q31
           try clear hx31
           try clear c32
           try clear c32b0
           try clear c32b1
           try clear p33
           try clear q33
           try clear hx33
           try clear c34
           try clear c34b0
           try clear c34b1
           try clear p35
           try clear q35
           try clear hx35
           try clear c36
           try clear c36b0
           try clear c36b1
           try clear p2
           try clear p31
           try clear p33
           try clear p35
           try clear q31
           try clear q33
           try clear q35
           obtain ⟨x7_4, rfl, HA, HK4, HB⟩ := hrel
           cases gk with
           | zero => exact absurd HA.out (by simp [lanyardlaw03_FormTurns.l1])
           | succ k4 =>
            have H := HA.out
            clear HA
            simp only [lanyardlaw03_FormTurns.l1] at H
            by_cases c37 : x7_4 < (t246.size : Int)
            ·rw [if_pos c37] at H
             have c37b0 : decide (x7_4 < (t246.size : Int)) = true := decide_eq_true c37
             clear c37
             by_cases c38 : 0 ≤ x7_4
             ·rw [if_pos c38] at H
              have c38b0 : decide (0 ≤ x7_4) = true := decide_eq_true c38
              clear c38
              by_cases c40 : (bt t246 x7_4) = 60
              ·rw [if_pos c40] at H
               have c40b0 : ((bt t246 x7_4) == 60) = true := beq_iff_eq.mpr c40
               have c40b1 : ((bt t246 x7_4) != 60) = false := bne_eq_false_iff_eq.mpr c40
               clear c40
               obtain rfl := Option.some.inj H
               have p39 : 0 ≤ (x7_4 : Int) := of_decide_eq_true (by first | (with_reducible assumption) | assumption)
               have q39 : x7_4 < (t246.size : Int) := of_decide_eq_true (by first | (with_reducible assumption) | assumption)
               have hx39 := bt_at t246 x7_4
               replace p39 := eq_true p39
               replace q39 := eq_true q39
               go_wp2
               go_ret
               exact ⟨rfl_, Bu HB⟩
              ·rw [if_neg c40] at H
               have c40b0 : ((bt t246 x7_4) == 60) = false := beq_eq_false_iff_ne.mpr c40
               have c40b1 : ((bt t246 x7_4) != 60) = true := bne_iff_ne.mpr c40
               by_cases c42 : (bt t246 x7_4) = 62
               ·rw [if_pos c42] at H
                have c42b0 : ((bt t246 x7_4) == 62) = true := beq_iff_eq.mpr c42
                have c42b1 : ((bt t246 x7_4) != 62) = false := bne_eq_false_iff_eq.mpr c42
                clear c42
                obtain rfl := Option.some.inj H
                have p39 : 0 ≤ (x7_4 : Int) := of_decide_eq_true (by first | (with_reducible assumption) | assumption)
                have q39 : x7_4 < (t246.size : Int) := of_decide_eq_true (by first | (with_reducible assumption) | assumption)
                have hx39 := bt_at t246 x7_4
                replace p39 := eq_true p39
                replace q39 := eq_true q39
                have p41 : 0 ≤ (x7_4 : Int) := of_decide_eq_true (by first | (with_reducible assumption) | assumption)
                have q41 : x7_4 < (t246.size : Int) := of_decide_eq_true (by first | (with_reducible assumption) | assumption)
                have hx41 := bt_at t246 x7_4
                replace p41 := eq_true p41
                replace q41 := eq_true q41
                go_wp2
                go_ret
                exact ⟨rfl_, Bu HB⟩
               ·rw [if_neg c42] at H
                have c42b0 : ((bt t246 x7_4) == 62) = false := beq_eq_false_iff_ne.mpr c42
                have c42b1 : ((bt t246 x7_4) != 62) = true := bne_iff_ne.mpr c42
                by_cases c44 : (bt t246 x7_4) = 13
                ·rw [if_pos c44] at H
                 have c44b0 : ((bt t246 x7_4) == 13) = true := beq_iff_eq.mpr c44
                 have c44b1 : ((bt t246 x7_4) != 13) = false := bne_eq_false_iff_eq.mpr c44
                 clear c44
                 obtain rfl := Option.some.inj H
                 have p39 : 0 ≤ (x7_4 : Int) := of_decide_eq_true (by first | (with_reducible assumption) | assumption)
                 have q39 : x7_4 < (t246.size : Int) := of_decide_eq_true (by first | (with_reducible assumption) | assumption)
                 have hx39 := bt_at t246 x7_4
                 replace p39 := eq_true p39
                 replace q39 := eq_true q39
                 have p41 : 0 ≤ (x7_4 : Int) := of_decide_eq_true (by first | (with_reducible assumption) | assumption)
                 have q41 : x7_4 < (t246.size : Int) := of_decide_eq_true (by first | (with_reducible assumption) | assumption)
                 have hx41 := bt_at t246 x7_4
                 replace p41 := eq_true p41
                 replace q41 := eq_true q41
                 have p43 : 0 ≤ (x7_4 : Int) := of_decide_eq_true (by first | (with_reducible assumption) | assumption)
                 have q43 : x7_4 < (t246.size : Int) := of_decide_eq_true (by first | (with_reducible assumption) | assumption)
                 have hx43 := bt_at t246 x7_4
                 replace p43 := eq_true p43
                 replace q43 := eq_true q43
                 go_wp2
                 go_ret
                 exact ⟨rfl_, Bu HB⟩
                ·rw [if_neg c44] at H
                 have c44b0 : ((bt t246 x7_4) == 13) = false := beq_eq_false_iff_ne.mpr c44
                 have c44b1 : ((bt t246 x7_4) != 13) = true := bne_iff_ne.mpr c44
                 have H' := Aside0.mk H
                 clear H
                 have p39 : 0 ≤ (x7_4 : Int) := of_decide_eq_true (by first | (with_reducible assumption) | assumption)
                 have q39 : x7_4 < (t246.size : Int) := of_decide_eq_true (by first | (with_reducible assumption) | assumption)
                 have hx39 := bt_at t246 x7_4
                 replace p39 := eq_true p39
                 replace q39 := eq_true q39
                 have p41 : 0 ≤ (x7_4 : Int) := of_decide_eq_true (by first | (with_reducible assumption) | assumption)
                 have q41 : x7_4 < (t246.size : Int) := of_decide_eq_true (by first | (with_reducible assumption) | assumption)
                 have hx41 := bt_at t246 x7_4
                 replace p41 := eq_true p41
                 replace q41 := eq_true q41
                 have p43 : 0 ≤ (x7_4 : Int) := of_decide_eq_true (by first | (with_reducible assumption) | assumption)
                 have q43 : x7_4 < (t246.size : Int) := of_decide_eq_true (by first | (with_reducible assumption) | assumption)
                 have hx43 := bt_at t246 x7_4
                 replace p43 := eq_true p43
                 replace q43 := eq_true q43
                 go_wp2
                 go_roundg k4
                 case measure => have := HJ1.out; have := HJ12.out; have := HK3.out; have := HK4.out; omega
                 case rel => exact ⟨(wrap64 (x7_4 + 1)), (by first | rfl | (simp; done) | (simp [*]; done)), H', ⟨by have := HJ1.out; have := HJ12.out; have := HK3.out; have := HK4.out; omega⟩, ⟨Bu HB⟩⟩
             ·rw [if_neg c38] at H
              exact absurd H (by simp)
            ·rw [if_neg c37] at H
             have c37b0 : decide (x7_4 < (t246.size : Int)) = false := decide_eq_false c37
             clear c37
             have H' := Aside0.mk H
             clear H
             go_wp2
             go_loopg [8] k4 (fun kq v8 w' => ∃ (x8_5 : Int), v8 = .int .i64 x8_5 ∧ Aside0 (lanyardlaw03_FormTurns.l2 kq t247 x8_5 = some r) ∧ Aside0 (kq ≤ k4) ∧ Aside0 (Below w.heap.size w w'))
             case atStart => exact ⟨(0), (by first | rfl | (simp; done) | (simp [*]; done)), H', ⟨Nat.le_refl _⟩, ⟨Bu HB⟩⟩
             case round =>
              clear H'
              try clear c1
              try clear c2
              try clear p2
              try clear c3
              try clear p3
              try clear q3
              try clear hx3
              try clear c4
              try clear p4
              try clear q4
              try clear hx4
              try clear c6
              try clear p6
              try clear c7
              try clear c8
              try clear c18
              try clear c18b0
              try clear c18b1
              try clear c20
              try clear c20b0
              try clear c20b1
              try clear c21
              try clear c22
              try clear c23
              try clear c28
              try clear c29
              try clear c29b0
              try clear c30
              try clear c30b0
              try clear p31
              try clear q31
              try clear hx31
              try clear c32
              try clear c32b0
              try clear c32b1
              try clear p33
              try clear q33
              try clear hx33
              try clear c34
              try clear c34b0
              try clear c34b1
              try clear p35
              try clear q35
              try clear hx35
              try clear c36
              try clear c36b0
              try clear c36b1
              try clear c37
              try clear c37b0
              try clear c38
              try clear c38b0
              try clear p39
              try clear q39
              try clear hx39
              try clear c40
              try clear c40b0
              try clear c40b1
              try clear p41
              try clear q41
              try clear hx41
              try clear c42
              try clear c42b0
              try clear c42b1
              try clear p43
              try clear q43
              try clear hx43
              try clear c44
              try clear c44b0
              try clear c44b1
              try clear p2
              try clear p3
              try clear p31
              try clear p33
              try clear p35
              try clear p39
              try clear p41
              try clear p43
              try clear p6
              try clear q3
              try clear q31
              try clear q33
              try clear q35
              try clear q39
              try clear q41
              try clear q43
              obtain ⟨x8_5, rfl, HA, HK5, HB⟩ := hrel
              cases gk with
              | zero => exact absurd HA.out (by simp [lanyardlaw03_FormTurns.l2])
              | succ k5 =>
               have H := HA.out
               clear HA
               simp only [lanyardlaw03_FormTurns.l2] at H
               by_cases c45 : x8_5 < (t247.size : Int)
               ·rw [if_pos c45] at H
                have c45b0 : decide (x8_5 < (t247.size : Int)) = true := decide_eq_true c45
                clear c45
                by_cases c46 : 0 ≤ x8_5
                ·rw [if_pos c46] at H
                 have c46b0 : decide (0 ≤ x8_5) = true := decide_eq_true c46
                 clear c46
                 by_cases c48 : (bt t247 x8_5) = 60
                 ·rw [if_pos c48] at H
                  have c48b0 : ((bt t247 x8_5) == 60) = true := beq_iff_eq.mpr c48
                  have c48b1 : ((bt t247 x8_5) != 60) = false := bne_eq_false_iff_eq.mpr c48
                  clear c48
                  obtain rfl := Option.some.inj H
                  have p47 : 0 ≤ (x8_5 : Int) := of_decide_eq_true (by first | (with_reducible assumption) | assumption)
                  have q47 : x8_5 < (t247.size : Int) := of_decide_eq_true (by first | (with_reducible assumption) | assumption)
                  have hx47 := bt_at t247 x8_5
                  replace p47 := eq_true p47
                  replace q47 := eq_true q47
                  go_wp2
                  go_ret
                  exact ⟨rfl_, Bu HB⟩
                 ·rw [if_neg c48] at H
                  have c48b0 : ((bt t247 x8_5) == 60) = false := beq_eq_false_iff_ne.mpr c48
                  have c48b1 : ((bt t247 x8_5) != 60) = true := bne_iff_ne.mpr c48
                  by_cases c50 : (bt t247 x8_5) = 62
                  ·rw [if_pos c50] at H
                   have c50b0 : ((bt t247 x8_5) == 62) = true := beq_iff_eq.mpr c50
                   have c50b1 : ((bt t247 x8_5) != 62) = false := bne_eq_false_iff_eq.mpr c50
                   clear c50
                   obtain rfl := Option.some.inj H
                   have p47 : 0 ≤ (x8_5 : Int) := of_decide_eq_true (by first | (with_reducible assumption) | assumption)
                   have q47 : x8_5 < (t247.size : Int) := of_decide_eq_true (by first | (with_reducible assumption) | assumption)
                   have hx47 := bt_at t247 x8_5
                   replace p47 := eq_true p47
                   replace q47 := eq_true q47
                   have p49 : 0 ≤ (x8_5 : Int) := of_decide_eq_true (by first | (with_reducible assumption) | assumption)
                   have q49 : x8_5 < (t247.size : Int) := of_decide_eq_true (by first | (with_reducible assumption) | assumption)
                   have hx49 := bt_at t247 x8_5
                   replace p49 := eq_true p49
                   replace q49 := eq_true q49
                   go_wp2
                   go_ret
                   exact ⟨rfl_, Bu HB⟩
                  ·rw [if_neg c50] at H
                   have c50b0 : ((bt t247 x8_5) == 62) = false := beq_eq_false_iff_ne.mpr c50
                   have c50b1 : ((bt t247 x8_5) != 62) = true := bne_iff_ne.mpr c50
                   by_cases c52 : (bt t247 x8_5) = 34
                   ·rw [if_pos c52] at H
                    have c52b0 : ((bt t247 x8_5) == 34) = true := beq_iff_eq.mpr c52
                    have c52b1 : ((bt t247 x8_5) != 34) = false := bne_eq_false_iff_eq.mpr c52
                    clear c52
                    obtain rfl := Option.some.inj H
                    have p47 : 0 ≤ (x8_5 : Int) := of_decide_eq_true (by first | (with_reducible assumption) | assumption)
                    have q47 : x8_5 < (t247.size : Int) := of_decide_eq_true (by first | (with_reducible assumption) | assumption)
                    have hx47 := bt_at t247 x8_5
                    replace p47 := eq_true p47
                    replace q47 := eq_true q47
                    have p49 : 0 ≤ (x8_5 : Int) := of_decide_eq_true (by first | (with_reducible assumption) | assumption)
                    have q49 : x8_5 < (t247.size : Int) := of_decide_eq_true (by first | (with_reducible assumption) | assumption)
                    have hx49 := bt_at t247 x8_5
                    replace p49 := eq_true p49
                    replace q49 := eq_true q49
                    have p51 : 0 ≤ (x8_5 : Int) := of_decide_eq_true (by first | (with_reducible assumption) | assumption)
                    have q51 : x8_5 < (t247.size : Int) := of_decide_eq_true (by first | (with_reducible assumption) | assumption)
                    have hx51 := bt_at t247 x8_5
                    replace p51 := eq_true p51
                    replace q51 := eq_true q51
                    go_wp2
                    go_ret
                    exact ⟨rfl_, Bu HB⟩
                   ·rw [if_neg c52] at H
                    have c52b0 : ((bt t247 x8_5) == 34) = false := beq_eq_false_iff_ne.mpr c52
                    have c52b1 : ((bt t247 x8_5) != 34) = true := bne_iff_ne.mpr c52
                    by_cases c54 : (bt t247 x8_5) = 39
                    ·rw [if_pos c54] at H
                     have c54b0 : ((bt t247 x8_5) == 39) = true := beq_iff_eq.mpr c54
                     have c54b1 : ((bt t247 x8_5) != 39) = false := bne_eq_false_iff_eq.mpr c54
                     clear c54
                     obtain rfl := Option.some.inj H
                     have p47 : 0 ≤ (x8_5 : Int) := of_decide_eq_true (by first | (with_reducible assumption) | assumption)
                     have q47 : x8_5 < (t247.size : Int) := of_decide_eq_true (by first | (with_reducible assumption) | assumption)
                     have hx47 := bt_at t247 x8_5
                     replace p47 := eq_true p47
                     replace q47 := eq_true q47
                     have p49 : 0 ≤ (x8_5 : Int) := of_decide_eq_true (by first | (with_reducible assumption) | assumption)
                     have q49 : x8_5 < (t247.size : Int) := of_decide_eq_true (by first | (with_reducible assumption) | assumption)
                     have hx49 := bt_at t247 x8_5
                     replace p49 := eq_true p49
                     replace q49 := eq_true q49
                     have p51 : 0 ≤ (x8_5 : Int) := of_decide_eq_true (by first | (with_reducible assumption) | assumption)
                     have q51 : x8_5 < (t247.size : Int) := of_decide_eq_true (by first | (with_reducible assumption) | assumption)
                     have hx51 := bt_at t247 x8_5
                     replace p51 := eq_true p51
                     replace q51 := eq_true q51
                     have p53 : 0 ≤ (x8_5 : Int) := of_decide_eq_true (by first | (with_reducible assumption) | assumption)
                     have q53 : x8_5 < (t247.size : Int) := of_decide_eq_true (by first | (with_reducible assumption) | assumption)
                     have hx53 := bt_at t247 x8_5
                     replace p53 := eq_true p53
                     replace q53 := eq_true q53
                     go_wp2
                     go_ret
                     exact ⟨rfl_, Bu HB⟩
                    ·rw [if_neg c54] at H
                     have c54b0 : ((bt t247 x8_5) == 39) = false := beq_eq_false_iff_ne.mpr c54
                     have c54b1 : ((bt t247 x8_5) != 39) = true := bne_iff_ne.mpr c54
                     have H' := Aside0.mk H
                     clear H
                     have p47 : 0 ≤ (x8_5 : Int) := of_decide_eq_true (by first | (with_reducible assumption) | assumption)
                     have q47 : x8_5 < (t247.size : Int) := of_decide_eq_true (by first | (with_reducible assumption) | assumption)
                     have hx47 := bt_at t247 x8_5
                     replace p47 := eq_true p47
                     replace q47 := eq_true q47
                     have p49 : 0 ≤ (x8_5 : Int) := of_decide_eq_true (by first | (with_reducible assumption) | assumption)
                     have q49 : x8_5 < (t247.size : Int) := of_decide_eq_true (by first | (with_reducible assumption) | assumption)
                     have hx49 := bt_at t247 x8_5
                     replace p49 := eq_true p49
                     replace q49 := eq_true q49
                     have p51 : 0 ≤ (x8_5 : Int) := of_decide_eq_true (by first | (with_reducible assumption) | assumption)
                     have q51 : x8_5 < (t247.size : Int) := of_decide_eq_true (by first | (with_reducible assumption) | assumption)
                     have hx51 := bt_at t247 x8_5
                     replace p51 := eq_true p51
                     replace q51 := eq_true q51
                     have p53 : 0 ≤ (x8_5 : Int) := of_decide_eq_true (by first | (with_reducible assumption) | assumption)
                     have q53 : x8_5 < (t247.size : Int) := of_decide_eq_true (by first | (with_reducible assumption) | assumption)
                     have hx53 := bt_at t247 x8_5
                     replace p53 := eq_true p53
                     replace q53 := eq_true q53
                     go_wp2
                     go_roundg k5
                     case measure => have := HJ1.out; have := HJ12.out; have := HK3.out; have := HK4.out; have := HK5.out; omega
                     case rel => exact ⟨(wrap64 (x8_5 + 1)), (by first | rfl | (simp; done) | (simp [*]; done)), H', ⟨by have := HJ1.out; have := HJ12.out; have := HK3.out; have := HK4.out; have := HK5.out; omega⟩, ⟨Bu HB⟩⟩
                ·rw [if_neg c46] at H
                 exact absurd H (by simp)
               ·rw [if_neg c45] at H
                have c45b0 : decide (x8_5 < (t247.size : Int)) = false := decide_eq_false c45
                clear c45
                obtain rfl := Option.some.inj H
                go_wp2
                go_ret
                exact ⟨rfl_, Bu HB⟩

         case a89_ | a90_ | b90_ =>
          go_wp2
          go_ret
          exact ⟨rfl_, Bu HB⟩
/-- THE ONE PURE STATEMENT of lanyardlaw03_FormTurns: yours. -/
def lanyardlaw03_FormTurns.Pure : Prop := ∀ (a0 : ByteArray), a0.size ≤ 140737488351232 → ∃ k, lanyardlaw03_FormTurns.f k a0 = some true
theorem lanyardlaw03_FormTurns.walk (P : lanyardlaw03_FormTurns.Pure) (a0 : ByteArray) (w : World) (w0 : a0.size ≤ 140737488351232) (hU : Uni w) :
  Calls Tryd.prog 6 #[.string a0] w fun e w' => e = .returned (.bool true) ∧ Below w.heap.size w w' := by
 obtain ⟨k, h⟩ := P a0 w0
 refine (lanyardlaw03_FormTurns.calls k a0 true w hU h).mono ?_
 rintro e w' ⟨rfl, hd⟩
 exact ⟨rfl, hd⟩

end Go.Proofs.YtjmcdocoogdbiaaDoor.Hp
