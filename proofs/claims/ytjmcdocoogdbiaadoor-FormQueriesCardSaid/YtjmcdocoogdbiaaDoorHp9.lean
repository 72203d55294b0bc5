/- Go functions of this seat as Lean functions, and their contracts: what the Go code computes, for every input. (By hp.py, a program of this repo, over the kit's print.py.) -/
import Derived.Test.YtjmcdocoogdbiaaDoorHp0
import Derived.Test.YtjmcdocoogdbiaaDoorHp2
import Derived.Test.YtjmcdocoogdbiaaDoorHp8
namespace Go.Proofs.YtjmcdocoogdbiaaDoor.Hp
open Go.RowKit Go.Proofs.YtjmcdocoogdbiaaDoorW.PrintWords Go.Proofs.YtjmcdocoogdbiaaDoorW.PrintLast Go.Proofs.YtjmcdocoogdbiaaDoorW.PrintMore
attribute [local go_sem] max2_int min2_int max_two min_two max_three min_three max_four min_four   -- for this text's walks alone
set_option linter.unusedVariables false
set_option linter.unusedSimpArgs false

/-! ### escape_inAttr: function 37 -/
def escape_inAttr.f (a0 : Int) : Option (ByteArray) := if a0 = 34 then (some (⟨#[38, 113, 117, 111, 116, 59]⟩ : ByteArray)) else (if a0 = 9 then (some (⟨#[38, 35, 120, 57, 59]⟩ : ByteArray)) else (if a0 = 10 then (some (⟨#[38, 35, 120, 65, 59]⟩ : ByteArray)) else (if a0 = 13 then (some (⟨#[38, 35, 120, 68, 59]⟩ : ByteArray)) else ((escape_common.f a0).bind fun t208 => (some t208)))))
set_option maxHeartbeats 8000000 in
set_option maxRecDepth 100000 in
theorem escape_inAttr.calls (a0 : Int) (r : ByteArray) (w : World) (h : escape_inAttr.f a0 = some r) :
  Calls Tryd.prog 37 #[.int .u8 a0] w fun e w' => e = .returned (.string r) ∧ Drawn0 w w' := by
 have H : (if a0 = 34 then (some (⟨#[38, 113, 117, 111, 116, 59]⟩ : ByteArray)) else (if a0 = 9 then (some (⟨#[38, 35, 120, 57, 59]⟩ : ByteArray)) else (if a0 = 10 then (some (⟨#[38, 35, 120, 65, 59]⟩ : ByteArray)) else (if a0 = 13 then (some (⟨#[38, 35, 120, 68, 59]⟩ : ByteArray)) else ((escape_common.f a0).bind fun t208 => (some t208)))))) = some r := h
 clear h
 refine (Classical.em (a0 = 34)).elim (fun c2 => ?a72_) (fun c2 => ?b72_)
 case' a72_ =>
  rw [if_pos c2] at H
  have c2b0 : (a0 == 34) = true := beq_iff_eq.mpr c2
  have c2b1 : (a0 != 34) = false := bne_eq_false_iff_eq.mpr c2
  clear c2
  obtain rfl := Option.some.inj H
 case' b72_ =>
  rw [if_neg c2] at H
  have c2b0 : (a0 == 34) = false := beq_eq_false_iff_ne.mpr c2
  have c2b1 : (a0 != 34) = true := bne_iff_ne.mpr c2
  refine (Classical.em (a0 = 9)).elim (fun c3 => ?a73_) (fun c3 => ?b73_)
  case' a73_ =>
   rw [if_pos c3] at H
   have c3b0 : (a0 == 9) = true := beq_iff_eq.mpr c3
   have c3b1 : (a0 != 9) = false := bne_eq_false_iff_eq.mpr c3
   clear c3
   obtain rfl := Option.some.inj H
  case' b73_ =>
   rw [if_neg c3] at H
   have c3b0 : (a0 == 9) = false := beq_eq_false_iff_ne.mpr c3
   have c3b1 : (a0 != 9) = true := bne_iff_ne.mpr c3
   refine (Classical.em (a0 = 10)).elim (fun c4 => ?a74_) (fun c4 => ?b74_)
   case' a74_ =>
    rw [if_pos c4] at H
    have c4b0 : (a0 == 10) = true := beq_iff_eq.mpr c4
    have c4b1 : (a0 != 10) = false := bne_eq_false_iff_eq.mpr c4
    clear c4
    obtain rfl := Option.some.inj H
   case' b74_ =>
    rw [if_neg c4] at H
    have c4b0 : (a0 == 10) = false := beq_eq_false_iff_ne.mpr c4
    have c4b1 : (a0 != 10) = true := bne_iff_ne.mpr c4
    refine (Classical.em (a0 = 13)).elim (fun c5 => ?a75_) (fun c5 => ?b75_)
    case' a75_ =>
     rw [if_pos c5] at H
     have c5b0 : (a0 == 13) = true := beq_iff_eq.mpr c5
     have c5b1 : (a0 != 13) = false := bne_eq_false_iff_eq.mpr c5
     clear c5
     obtain rfl := Option.some.inj H
    case' b75_ =>
     rw [if_neg c5] at H
     have c5b0 : (a0 == 13) = false := beq_eq_false_iff_ne.mpr c5
     have c5b1 : (a0 != 13) = true := bne_iff_ne.mpr c5
     replace H := Option.bind_eq_some_iff.mp H
     obtain ⟨t208, A60, H⟩ := H
     replace H : (some t208) = some r := H
     have A6 := Aside0.mk A60
     clear A60
     obtain rfl := Option.some.inj H
     go_enter Tryd.func37, Tryd.ntmps37
     go_wp2_with (first | ((with_reducible refine gate_callee (f := 48) rfl ?_); refine goesA (some 13) Tryd.func48 #[.int .u8 a0] rfl ?_; (with_reducible refine (escape_common.calls a0 t208 _ A6.out).mono ?_); rintro e w' ⟨rfl, ⟨nd, rfl⟩⟩; refine ⟨_, rfl, ?_⟩))
     go_ret
     exact ⟨by first | rfl | (simp; done) | (simp [*]; done), by repeat (first | exact Drawn0.refl _ | apply Drawn0.step)⟩

 case a72_ | a73_ | a74_ | b74_ =>
  go_enter Tryd.func37, Tryd.ntmps37
  go_wp2
  go_ret
  exact ⟨by first | rfl | (simp; done) | (simp [*]; done), by repeat (first | exact Drawn0.refl _ | apply Drawn0.step)⟩
/-! ### escape_Attr: function 20 -/
def escape_Attr.f (a0 : ByteArray) : Option ByteArray := escape_turned.f escape_inAttr.f a0
set_option maxHeartbeats 4000000 in
set_option maxRecDepth 100000 in
theorem escape_Attr.calls (a0 : ByteArray) (r : ByteArray) (w : World) (h : escape_Attr.f a0 = some r) :
    Calls Tryd.prog 20 #[.string a0] w fun e w' => e = .returned (.string r) ∧ Below w.heap.size w w' := by
  have H := Aside0.mk h
  clear h
  go_enter Tryd.func20, Tryd.ntmps20
  go_wp2_with (go_at_call 36; refine (escape_turned.walk 37 (enters_of Tryd.func37 (by kernel_rfl) rfl) escape_inAttr.f (fun c r w h => escape_inAttr.calls c r w h) _ _ _ H.out).mono ?_; rintro e w' ⟨rfl, hb⟩; have g := Aside0.mk hb; clear hb)
  go_ret
  exact ⟨rfl, g.out⟩

/-! ### escape_inText: function 38 -/
def escape_inText.f (a0 : Int) : Option (ByteArray) := if a0 = 62 then (some (⟨#[38, 103, 116, 59]⟩ : ByteArray)) else (if a0 = 13 then (some (⟨#[38, 35, 120, 68, 59]⟩ : ByteArray)) else ((escape_common.f a0).bind fun t209 => (some t209)))
set_option maxHeartbeats 8000000 in
set_option maxRecDepth 100000 in
theorem escape_inText.calls (a0 : Int) (r : ByteArray) (w : World) (h : escape_inText.f a0 = some r) :
  Calls Tryd.prog 38 #[.int .u8 a0] w fun e w' => e = .returned (.string r) ∧ Drawn0 w w' := by
 have H : (if a0 = 62 then (some (⟨#[38, 103, 116, 59]⟩ : ByteArray)) else (if a0 = 13 then (some (⟨#[38, 35, 120, 68, 59]⟩ : ByteArray)) else ((escape_common.f a0).bind fun t209 => (some t209)))) = some r := h
 clear h
 refine (Classical.em (a0 = 62)).elim (fun c2 => ?a76_) (fun c2 => ?b76_)
 case' a76_ =>
  rw [if_pos c2] at H
  have c2b0 : (a0 == 62) = true := beq_iff_eq.mpr c2
  have c2b1 : (a0 != 62) = false := bne_eq_false_iff_eq.mpr c2
  clear c2
  obtain rfl := Option.some.inj H
 case' b76_ =>
  rw [if_neg c2] at H
  have c2b0 : (a0 == 62) = false := beq_eq_false_iff_ne.mpr c2
  have c2b1 : (a0 != 62) = true := bne_iff_ne.mpr c2
  refine (Classical.em (a0 = 13)).elim (fun c3 => ?a77_) (fun c3 => ?b77_)
  case' a77_ =>
   rw [if_pos c3] at H
   have c3b0 : (a0 == 13) = true := beq_iff_eq.mpr c3
   have c3b1 : (a0 != 13) = false := bne_eq_false_iff_eq.mpr c3
   clear c3
   obtain rfl := Option.some.inj H
  case' b77_ =>
   rw [if_neg c3] at H
   have c3b0 : (a0 == 13) = false := beq_eq_false_iff_ne.mpr c3
   have c3b1 : (a0 != 13) = true := bne_iff_ne.mpr c3
   replace H := Option.bind_eq_some_iff.mp H
   obtain ⟨t209, A40, H⟩ := H
   replace H : (some t209) = some r := H
   have A4 := Aside0.mk A40
   clear A40
   obtain rfl := Option.some.inj H
   go_enter Tryd.func38, Tryd.ntmps38
   go_wp2_with (first | ((with_reducible refine gate_callee (f := 48) rfl ?_); refine goesA (some 9) Tryd.func48 #[.int .u8 a0] rfl ?_; (with_reducible refine (escape_common.calls a0 t209 _ A4.out).mono ?_); rintro e w' ⟨rfl, ⟨nd, rfl⟩⟩; refine ⟨_, rfl, ?_⟩))
   go_ret
   exact ⟨by first | rfl | (simp; done) | (simp [*]; done), by repeat (first | exact Drawn0.refl _ | apply Drawn0.step)⟩

 case a76_ | b76_ =>
  go_enter Tryd.func38, Tryd.ntmps38
  go_wp2
  go_ret
  exact ⟨by first | rfl | (simp; done) | (simp [*]; done), by repeat (first | exact Drawn0.refl _ | apply Drawn0.step)⟩
/-! ### escape_Text: function 21 -/
def escape_Text.f (a0 : ByteArray) : Option ByteArray := escape_turned.f escape_inText.f a0
set_option maxHeartbeats 4000000 in
set_option maxRecDepth 100000 in
theorem escape_Text.calls (a0 : ByteArray) (r : ByteArray) (w : World) (h : escape_Text.f a0 = some r) :
    Calls Tryd.prog 21 #[.string a0] w fun e w' => e = .returned (.string r) ∧ Below w.heap.size w w' := by
  have H := Aside0.mk h
  clear h
  go_enter Tryd.func21, Tryd.ntmps21
  go_wp2_with (go_at_call 36; refine (escape_turned.walk 38 (enters_of Tryd.func38 (by kernel_rfl) rfl) escape_inText.f (fun c r w h => escape_inText.calls c r w h) _ _ _ H.out).mono ?_; rintro e w' ⟨rfl, hb⟩; have g := Aside0.mk hb; clear hb)
  go_ret
  exact ⟨rfl, g.out⟩

/-! ### escape_inPage: function 39 -/
def escape_inPage.f (a0 : Int) : Option (ByteArray) := if a0 = 62 then (some (⟨#[38, 103, 116, 59]⟩ : ByteArray)) else (if a0 = 34 then (some (⟨#[38, 113, 117, 111, 116, 59]⟩ : ByteArray)) else (if a0 = 39 then (some (⟨#[38, 35, 51, 57, 59]⟩ : ByteArray)) else ((escape_common.f a0).bind fun t210 => (some t210))))
set_option maxHeartbeats 8000000 in
set_option maxRecDepth 100000 in
theorem escape_inPage.calls (a0 : Int) (r : ByteArray) (w : World) (h : escape_inPage.f a0 = some r) :
  Calls Tryd.prog 39 #[.int .u8 a0] w fun e w' => e = .returned (.string r) ∧ Drawn0 w w' := by
 have H : (if a0 = 62 then (some (⟨#[38, 103, 116, 59]⟩ : ByteArray)) else (if a0 = 34 then (some (⟨#[38, 113, 117, 111, 116, 59]⟩ : ByteArray)) else (if a0 = 39 then (some (⟨#[38, 35, 51, 57, 59]⟩ : ByteArray)) else ((escape_common.f a0).bind fun t210 => (some t210))))) = some r := h
 clear h
 refine (Classical.em (a0 = 62)).elim (fun c2 => ?a78_) (fun c2 => ?b78_)
 case' a78_ =>
  rw [if_pos c2] at H
  have c2b0 : (a0 == 62) = true := beq_iff_eq.mpr c2
  have c2b1 : (a0 != 62) = false := bne_eq_false_iff_eq.mpr c2
  clear c2
  obtain rfl := Option.some.inj H
 case' b78_ =>
  rw [if_neg c2] at H
  have c2b0 : (a0 == 62) = false := beq_eq_false_iff_ne.mpr c2
  have c2b1 : (a0 != 62) = true := bne_iff_ne.mpr c2
  refine (Classical.em (a0 = 34)).elim (fun c3 => ?a79_) (fun c3 => ?b79_)
  case' a79_ =>
   rw [if_pos c3] at H
   have c3b0 : (a0 == 34) = true := beq_iff_eq.mpr c3
   have c3b1 : (a0 != 34) = false := bne_eq_false_iff_eq.mpr c3
   clear c3
   obtain rfl := Option.some.inj H
  case' b79_ =>
   rw [if_neg c3] at H
   have c3b0 : (a0 == 34) = false := beq_eq_false_iff_ne.mpr c3
   have c3b1 : (a0 != 34) = true := bne_iff_ne.mpr c3
   refine (Classical.em (a0 = 39)).elim (fun c4 => ?a80_) (fun c4 => ?b80_)
   case' a80_ =>
    rw [if_pos c4] at H
    have c4b0 : (a0 == 39) = true := beq_iff_eq.mpr c4
    have c4b1 : (a0 != 39) = false := bne_eq_false_iff_eq.mpr c4
    clear c4
    obtain rfl := Option.some.inj H
   case' b80_ =>
    rw [if_neg c4] at H
    have c4b0 : (a0 == 39) = false := beq_eq_false_iff_ne.mpr c4
    have c4b1 : (a0 != 39) = true := bne_iff_ne.mpr c4
    replace H := Option.bind_eq_some_iff.mp H
    obtain ⟨t210, A50, H⟩ := H
    replace H : (some t210) = some r := H
    have A5 := Aside0.mk A50
    clear A50
    obtain rfl := Option.some.inj H
    go_enter Tryd.func39, Tryd.ntmps39
    go_wp2_with (first | ((with_reducible refine gate_callee (f := 48) rfl ?_); refine goesA (some 11) Tryd.func48 #[.int .u8 a0] rfl ?_; (with_reducible refine (escape_common.calls a0 t210 _ A5.out).mono ?_); rintro e w' ⟨rfl, ⟨nd, rfl⟩⟩; refine ⟨_, rfl, ?_⟩))
    go_ret
    exact ⟨by first | rfl | (simp; done) | (simp [*]; done), by repeat (first | exact Drawn0.refl _ | apply Drawn0.step)⟩

 case a78_ | a79_ | b79_ =>
  go_enter Tryd.func39, Tryd.ntmps39
  go_wp2
  go_ret
  exact ⟨by first | rfl | (simp; done) | (simp [*]; done), by repeat (first | exact Drawn0.refl _ | apply Drawn0.step)⟩
/-! ### escape_Page: function 22 -/
def escape_Page.f (a0 : ByteArray) : Option ByteArray := escape_turned.f escape_inPage.f a0
set_option maxHeartbeats 4000000 in
set_option maxRecDepth 100000 in
theorem escape_Page.calls (a0 : ByteArray) (r : ByteArray) (w : World) (h : escape_Page.f a0 = some r) :
    Calls Tryd.prog 22 #[.string a0] w fun e w' => e = .returned (.string r) ∧ Below w.heap.size w w' := by
  have H := Aside0.mk h
  clear h
  go_enter Tryd.func22, Tryd.ntmps22
  go_wp2_with (go_at_call 36; refine (escape_turned.walk 39 (enters_of Tryd.func39 (by kernel_rfl) rfl) escape_inPage.f (fun c r w h => escape_inPage.calls c r w h) _ _ _ H.out).mono ?_; rintro e w' ⟨rfl, hb⟩; have g := Aside0.mk hb; clear hb)
  go_ret
  exact ⟨rfl, g.out⟩

end Go.Proofs.YtjmcdocoogdbiaaDoor.Hp
