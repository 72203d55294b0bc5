/- Go functions of this seat as Lean functions, and their contracts: what the Go code computes, for every input. (By hp.py, a program of this repo, over the kit's print.py.) -/
import Derived.Test.YtjmcdocoogdbiaaDoorHp0
namespace Go.Proofs.YtjmcdocoogdbiaaDoor.Hp
open Go.RowKit Go.Proofs.YtjmcdocoogdbiaaDoorW.PrintWords Go.Proofs.YtjmcdocoogdbiaaDoorW.PrintLast Go.Proofs.YtjmcdocoogdbiaaDoorW.PrintMore
attribute [local go_sem] max2_int min2_int max_two min_two max_three min_three max_four min_four   -- for this text's walks alone
set_option linter.unusedVariables false
set_option linter.unusedSimpArgs false

/-! ### strings_IndexByte: function 40 -/
def strings_IndexByte.f (a0 : ByteArray) (a1 : Int) : Option Int := some (Lib.indexByte a0.data.toList a1.toNat.toUInt8)
theorem strings_IndexByte.calls (a0 : ByteArray) (a1 : Int) (r : Int) (w : World) (h : strings_IndexByte.f a0 a1 = some r) :
    Calls Tryd.prog 40 #[.string a0, .int .u8 a1] w fun e w' => e = .returned (.int .i64 r) ∧ Drawn0 w w' := by
  obtain rfl := Option.some.inj h
  refine (Tryd.strings_IndexByte a0 a1 w).mono ?_
  rintro e w' ⟨rfl, rfl⟩
  exact ⟨rfl, Drawn0.refl _⟩

/-! ### escape_plain: function 24 -/
def escape_plain.f (a0 : Int) : Option (Bool) := if a0 ≥ 65 then (if a0 ≤ 90 then (some true) else (if a0 ≥ 97 then (if a0 ≤ 122 then (some true) else (if a0 ≥ 48 then (if a0 ≤ 57 then (some true) else ((strings_IndexByte.f (⟨#[45, 46, 95, 126]⟩ : ByteArray) a0).bind fun t101 => (some (decide (t101 ≥ 0))))) else ((strings_IndexByte.f (⟨#[45, 46, 95, 126]⟩ : ByteArray) a0).bind fun t102 => (some (decide (t102 ≥ 0)))))) else (if a0 ≥ 48 then (if a0 ≤ 57 then (some true) else ((strings_IndexByte.f (⟨#[45, 46, 95, 126]⟩ : ByteArray) a0).bind fun t103 => (some (decide (t103 ≥ 0))))) else ((strings_IndexByte.f (⟨#[45, 46, 95, 126]⟩ : ByteArray) a0).bind fun t104 => (some (decide (t104 ≥ 0))))))) else (if a0 ≥ 97 then (if a0 ≤ 122 then (some true) else (if a0 ≥ 48 then (if a0 ≤ 57 then (some true) else ((strings_IndexByte.f (⟨#[45, 46, 95, 126]⟩ : ByteArray) a0).bind fun t105 => (some (decide (t105 ≥ 0))))) else ((strings_IndexByte.f (⟨#[45, 46, 95, 126]⟩ : ByteArray) a0).bind fun t106 => (some (decide (t106 ≥ 0)))))) else (if a0 ≥ 48 then (if a0 ≤ 57 then (some true) else ((strings_IndexByte.f (⟨#[45, 46, 95, 126]⟩ : ByteArray) a0).bind fun t107 => (some (decide (t107 ≥ 0))))) else ((strings_IndexByte.f (⟨#[45, 46, 95, 126]⟩ : ByteArray) a0).bind fun t108 => (some (decide (t108 ≥ 0))))))
set_option maxHeartbeats 8000000 in
set_option maxRecDepth 100000 in
theorem escape_plain.calls (a0 : Int) (r : Bool) (w : World) (h : escape_plain.f a0 = some r) :
  Calls Tryd.prog 24 #[.int .u8 a0] w fun e w' => e = .returned (.bool r) ∧ Drawn0 w w' := by
 have H : (if a0 ≥ 65 then (if a0 ≤ 90 then (some true) else (if a0 ≥ 97 then (if a0 ≤ 122 then (some true) else (if a0 ≥ 48 then (if a0 ≤ 57 then (some true) else ((strings_IndexByte.f (⟨#[45, 46, 95, 126]⟩ : ByteArray) a0).bind fun t101 => (some (decide (t101 ≥ 0))))) else ((strings_IndexByte.f (⟨#[45, 46, 95, 126]⟩ : ByteArray) a0).bind fun t102 => (some (decide (t102 ≥ 0)))))) else (if a0 ≥ 48 then (if a0 ≤ 57 then (some true) else ((strings_IndexByte.f (⟨#[45, 46, 95, 126]⟩ : ByteArray) a0).bind fun t103 => (some (decide (t103 ≥ 0))))) else ((strings_IndexByte.f (⟨#[45, 46, 95, 126]⟩ : ByteArray) a0).bind fun t104 => (some (decide (t104 ≥ 0))))))) else (if a0 ≥ 97 then (if a0 ≤ 122 then (some true) else (if a0 ≥ 48 then (if a0 ≤ 57 then (some true) else ((strings_IndexByte.f (⟨#[45, 46, 95, 126]⟩ : ByteArray) a0).bind fun t105 => (some (decide (t105 ≥ 0))))) else ((strings_IndexByte.f (⟨#[45, 46, 95, 126]⟩ : ByteArray) a0).bind fun t106 => (some (decide (t106 ≥ 0)))))) else (if a0 ≥ 48 then (if a0 ≤ 57 then (some true) else ((strings_IndexByte.f (⟨#[45, 46, 95, 126]⟩ : ByteArray) a0).bind fun t107 => (some (decide (t107 ≥ 0))))) else ((strings_IndexByte.f (⟨#[45, 46, 95, 126]⟩ : ByteArray) a0).bind fun t108 => (some (decide (t108 ≥ 0))))))) = some r := h
 clear h
 refine (Classical.em (a0 ≥ 65)).elim (fun c2 => ?a1_) (fun c2 => ?b1_)
 case' a1_ =>
  rw [if_pos c2] at H
  have c2b0 : decide (65 ≤ a0) = true := decide_eq_true c2
  clear c2
  refine (Classical.em (a0 ≤ 90)).elim (fun c3 => ?a2_) (fun c3 => ?b2_)
  case' a2_ =>
   rw [if_pos c3] at H
   have c3b0 : decide (a0 ≤ 90) = true := decide_eq_true c3
   clear c3
   obtain rfl := Option.some.inj H
  case' b2_ =>
   rw [if_neg c3] at H
   have c3b0 : decide (a0 ≤ 90) = false := decide_eq_false c3
   clear c3
   refine (Classical.em (a0 ≥ 97)).elim (fun c4 => ?a3_) (fun c4 => ?b3_)
   case' a3_ =>
    rw [if_pos c4] at H
    have c4b0 : decide (97 ≤ a0) = true := decide_eq_true c4
    clear c4
    refine (Classical.em (a0 ≤ 122)).elim (fun c5 => ?a4_) (fun c5 => ?b4_)
    case' a4_ =>
     rw [if_pos c5] at H
     have c5b0 : decide (a0 ≤ 122) = true := decide_eq_true c5
     clear c5
     obtain rfl := Option.some.inj H
    case' b4_ =>
     rw [if_neg c5] at H
     have c5b0 : decide (a0 ≤ 122) = false := decide_eq_false c5
     clear c5
     refine (Classical.em (a0 ≥ 48)).elim (fun c6 => ?a5_) (fun c6 => ?b5_)
     case' a5_ =>
      rw [if_pos c6] at H
      have c6b0 : decide (48 ≤ a0) = true := decide_eq_true c6
      clear c6
      refine (Classical.em (a0 ≤ 57)).elim (fun c7 => ?a6_) (fun c7 => ?b6_)
      case' a6_ =>
       rw [if_pos c7] at H
       have c7b0 : decide (a0 ≤ 57) = true := decide_eq_true c7
       clear c7
       obtain rfl := Option.some.inj H
      case' b6_ =>
       rw [if_neg c7] at H
       have c7b0 : decide (a0 ≤ 57) = false := decide_eq_false c7
       clear c7
       replace H := Option.bind_eq_some_iff.mp H
       obtain ⟨t101, A80, H⟩ := H
       replace H : (some (decide (t101 ≥ 0))) = some r := H
       have A8 := Aside0.mk A80
       clear A80
       obtain rfl := Option.some.inj H
       go_enter Tryd.func24, Tryd.ntmps24
       go_wp2_with (first | (go_at_call 40; (with_reducible refine (strings_IndexByte.calls (⟨#[45, 46, 95, 126]⟩ : ByteArray) a0 t101 _ A8.out).mono ?_); rintro e w' ⟨rfl, ⟨nd, rfl⟩⟩))
       go_ret
       exact ⟨by first | rfl | (simp; done) | (simp [*]; done), by repeat (first | exact Drawn0.refl _ | apply Drawn0.step)⟩
     case' b5_ =>
      rw [if_neg c6] at H
      have c6b0 : decide (48 ≤ a0) = false := decide_eq_false c6
      clear c6
      replace H := Option.bind_eq_some_iff.mp H
      obtain ⟨t102, A90, H⟩ := H
      replace H : (some (decide (t102 ≥ 0))) = some r := H
      have A9 := Aside0.mk A90
      clear A90
      obtain rfl := Option.some.inj H
      go_enter Tryd.func24, Tryd.ntmps24
      go_wp2_with (first | (go_at_call 40; (with_reducible refine (strings_IndexByte.calls (⟨#[45, 46, 95, 126]⟩ : ByteArray) a0 t102 _ A9.out).mono ?_); rintro e w' ⟨rfl, ⟨nd, rfl⟩⟩))
      go_ret
      exact ⟨by first | rfl | (simp; done) | (simp [*]; done), by repeat (first | exact Drawn0.refl _ | apply Drawn0.step)⟩
   case' b3_ =>
    rw [if_neg c4] at H
    have c4b0 : decide (97 ≤ a0) = false := decide_eq_false c4
    clear c4
    refine (Classical.em (a0 ≥ 48)).elim (fun c10 => ?a7_) (fun c10 => ?b7_)
    case' a7_ =>
     rw [if_pos c10] at H
     have c10b0 : decide (48 ≤ a0) = true := decide_eq_true c10
     clear c10
     refine (Classical.em (a0 ≤ 57)).elim (fun c11 => ?a8_) (fun c11 => ?b8_)
     case' a8_ =>
      rw [if_pos c11] at H
      have c11b0 : decide (a0 ≤ 57) = true := decide_eq_true c11
      clear c11
      obtain rfl := Option.some.inj H
     case' b8_ =>
      rw [if_neg c11] at H
      have c11b0 : decide (a0 ≤ 57) = false := decide_eq_false c11
      clear c11
      replace H := Option.bind_eq_some_iff.mp H
      obtain ⟨t103, A120, H⟩ := H
      replace H : (some (decide (t103 ≥ 0))) = some r := H
      have A12 := Aside0.mk A120
      clear A120
      obtain rfl := Option.some.inj H
      go_enter Tryd.func24, Tryd.ntmps24
      go_wp2_with (first | (go_at_call 40; (with_reducible refine (strings_IndexByte.calls (⟨#[45, 46, 95, 126]⟩ : ByteArray) a0 t103 _ A12.out).mono ?_); rintro e w' ⟨rfl, ⟨nd, rfl⟩⟩))
      go_ret
      exact ⟨by first | rfl | (simp; done) | (simp [*]; done), by repeat (first | exact Drawn0.refl _ | apply Drawn0.step)⟩
    case' b7_ =>
     rw [if_neg c10] at H
     have c10b0 : decide (48 ≤ a0) = false := decide_eq_false c10
     clear c10
     replace H := Option.bind_eq_some_iff.mp H
     obtain ⟨t104, A130, H⟩ := H
     replace H : (some (decide (t104 ≥ 0))) = some r := H
     have A13 := Aside0.mk A130
     clear A130
     obtain rfl := Option.some.inj H
     go_enter Tryd.func24, Tryd.ntmps24
     go_wp2_with (first | (go_at_call 40; (with_reducible refine (strings_IndexByte.calls (⟨#[45, 46, 95, 126]⟩ : ByteArray) a0 t104 _ A13.out).mono ?_); rintro e w' ⟨rfl, ⟨nd, rfl⟩⟩))
     go_ret
     exact ⟨by first | rfl | (simp; done) | (simp [*]; done), by repeat (first | exact Drawn0.refl _ | apply Drawn0.step)⟩
 case' b1_ =>
  rw [if_neg c2] at H
  have c2b0 : decide (65 ≤ a0) = false := decide_eq_false c2
  clear c2
  refine (Classical.em (a0 ≥ 97)).elim (fun c14 => ?a9_) (fun c14 => ?b9_)
  case' a9_ =>
   rw [if_pos c14] at H
   have c14b0 : decide (97 ≤ a0) = true := decide_eq_true c14
   clear c14
   refine (Classical.em (a0 ≤ 122)).elim (fun c15 => ?a10_) (fun c15 => ?b10_)
   case' a10_ =>
    rw [if_pos c15] at H
    have c15b0 : decide (a0 ≤ 122) = true := decide_eq_true c15
    clear c15
    obtain rfl := Option.some.inj H
   case' b10_ =>
    rw [if_neg c15] at H
    have c15b0 : decide (a0 ≤ 122) = false := decide_eq_false c15
    clear c15
    refine (Classical.em (a0 ≥ 48)).elim (fun c16 => ?a11_) (fun c16 => ?b11_)
    case' a11_ =>
     rw [if_pos c16] at H
     have c16b0 : decide (48 ≤ a0) = true := decide_eq_true c16
     clear c16
     refine (Classical.em (a0 ≤ 57)).elim (fun c17 => ?a12_) (fun c17 => ?b12_)
     case' a12_ =>
      rw [if_pos c17] at H
      have c17b0 : decide (a0 ≤ 57) = true := decide_eq_true c17
      clear c17
      obtain rfl := Option.some.inj H
     case' b12_ =>
      rw [if_neg c17] at H
      have c17b0 : decide (a0 ≤ 57) = false := decide_eq_false c17
      clear c17
      replace H := Option.bind_eq_some_iff.mp H
      obtain ⟨t105, A180, H⟩ := H
      replace H : (some (decide (t105 ≥ 0))) = some r := H
      have A18 := Aside0.mk A180
      clear A180
      obtain rfl := Option.some.inj H
      go_enter Tryd.func24, Tryd.ntmps24
      go_wp2_with (first | (go_at_call 40; (with_reducible refine (strings_IndexByte.calls (⟨#[45, 46, 95, 126]⟩ : ByteArray) a0 t105 _ A18.out).mono ?_); rintro e w' ⟨rfl, ⟨nd, rfl⟩⟩))
      go_ret
      exact ⟨by first | rfl | (simp; done) | (simp [*]; done), by repeat (first | exact Drawn0.refl _ | apply Drawn0.step)⟩
    case' b11_ =>
     rw [if_neg c16] at H
     have c16b0 : decide (48 ≤ a0) = false := decide_eq_false c16
     clear c16
     replace H := Option.bind_eq_some_iff.mp H
     obtain ⟨t106, A190, H⟩ := H
     replace H : (some (decide (t106 ≥ 0))) = some r := H
     have A19 := Aside0.mk A190
     clear A190
     obtain rfl := Option.some.inj H
     go_enter Tryd.func24, Tryd.ntmps24
     go_wp2_with (first | (go_at_call 40; (with_reducible refine (strings_IndexByte.calls (⟨#[45, 46, 95, 126]⟩ : ByteArray) a0 t106 _ A19.out).mono ?_); rintro e w' ⟨rfl, ⟨nd, rfl⟩⟩))
     go_ret
     exact ⟨by first | rfl | (simp; done) | (simp [*]; done), by repeat (first | exact Drawn0.refl _ | apply Drawn0.step)⟩
  case' b9_ =>
   rw [if_neg c14] at H
   have c14b0 : decide (97 ≤ a0) = false := decide_eq_false c14
   clear c14
   refine (Classical.em (a0 ≥ 48)).elim (fun c20 => ?a13_) (fun c20 => ?b13_)
   case' a13_ =>
    rw [if_pos c20] at H
    have c20b0 : decide (48 ≤ a0) = true := decide_eq_true c20
    clear c20
    refine (Classical.em (a0 ≤ 57)).elim (fun c21 => ?a14_) (fun c21 => ?b14_)
    case' a14_ =>
     rw [if_pos c21] at H
     have c21b0 : decide (a0 ≤ 57) = true := decide_eq_true c21
     clear c21
     obtain rfl := Option.some.inj H
    case' b14_ =>
     rw [if_neg c21] at H
     have c21b0 : decide (a0 ≤ 57) = false := decide_eq_false c21
     clear c21
     replace H := Option.bind_eq_some_iff.mp H
     obtain ⟨t107, A220, H⟩ := H
     replace H : (some (decide (t107 ≥ 0))) = some r := H
     have A22 := Aside0.mk A220
     clear A220
     obtain rfl := Option.some.inj H
     go_enter Tryd.func24, Tryd.ntmps24
     go_wp2_with (first | (go_at_call 40; (with_reducible refine (strings_IndexByte.calls (⟨#[45, 46, 95, 126]⟩ : ByteArray) a0 t107 _ A22.out).mono ?_); rintro e w' ⟨rfl, ⟨nd, rfl⟩⟩))
     go_ret
     exact ⟨by first | rfl | (simp; done) | (simp [*]; done), by repeat (first | exact Drawn0.refl _ | apply Drawn0.step)⟩
   case' b13_ =>
    rw [if_neg c20] at H
    have c20b0 : decide (48 ≤ a0) = false := decide_eq_false c20
    clear c20
    replace H := Option.bind_eq_some_iff.mp H
    obtain ⟨t108, A230, H⟩ := H
    replace H : (some (decide (t108 ≥ 0))) = some r := H
    have A23 := Aside0.mk A230
    clear A230
    obtain rfl := Option.some.inj H
    go_enter Tryd.func24, Tryd.ntmps24
    go_wp2_with (first | (go_at_call 40; (with_reducible refine (strings_IndexByte.calls (⟨#[45, 46, 95, 126]⟩ : ByteArray) a0 t108 _ A23.out).mono ?_); rintro e w' ⟨rfl, ⟨nd, rfl⟩⟩))
    go_ret
    exact ⟨by first | rfl | (simp; done) | (simp [*]; done), by repeat (first | exact Drawn0.refl _ | apply Drawn0.step)⟩

 case a2_ | a4_ | b4_ | b3_ | a10_ | b10_ | b9_ =>
  go_enter Tryd.func24, Tryd.ntmps24
  go_wp2
  go_ret
  exact ⟨by first | rfl | (simp; done) | (simp [*]; done), by repeat (first | exact Drawn0.refl _ | apply Drawn0.step)⟩
-- NOT PRINTED: function 50 (abi_NoEscape)

/-! ### strings_Builder_copyCheck: function 41 -/
set_option maxHeartbeats 2000000 in
set_option maxRecDepth 100000 in
theorem strings_Builder_copyCheck.used (b : Nat) (w : World) (h0 : w.cell? ⟨b, 0, none⟩ = some (.pointer (some ⟨b, 0, none⟩))) :
    Calls Tryd.prog 41 #[.pointer (some ⟨b, 0, none⟩)] w fun e w' => e = .returned (.tuple #[]) ∧ w' = w := by
  obtain ⟨j, hj, _⟩ := Option.map_eq_some_iff.1 (show (Tryd.prog.info? 49).map (·.size) = some 2 by kernel_rfl)
  go_enter Tryd.func41, Tryd.ntmps41
  go_wp2
  rw [Lib.run_neq_ptr_same w _ Tryd.underlying46 hj]
  go_wp2
  go_end0
  exact ⟨rfl, rfl⟩
set_option maxHeartbeats 2000000 in
set_option maxRecDepth 100000 in
theorem strings_Builder_copyCheck.fresh (b : Nat) (w : World) (h0 : w.cell? ⟨b, 0, none⟩ = some (.pointer none)) (hsh : w.shape? b = some (49, 2)) (hfz : w.frozen? ⟨b, 0, none⟩ = false) :
    Calls Tryd.prog 41 #[.pointer (some ⟨b, 0, none⟩)] w fun e w' => e = .returned (.tuple #[]) ∧ w' = w.setCell ⟨b, 0, none⟩ (.pointer (some ⟨b, 0, none⟩)) := by
  obtain ⟨j, hj, hjs⟩ := Option.map_eq_some_iff.1 (show (Tryd.prog.info? 49).map (·.size) = some 2 by kernel_rfl)
  go_enter Tryd.func41, Tryd.ntmps41
  go_wp2
  rw [Lib.run_to_unsafe w ⟨b, 0, none⟩ Tryd.underlying46 Tryd.underlying78 hj (by rw [hjs]; decide) hsh (Nat.zero_lt_succ 1)]
  simp only [Result.andThen]
  rw [Oper.upon_value]
  go_wp2
  rw [run_callFunc_extern Tryd.func50 (by kernel_rfl) (by kernel_rfl) (by kernel_rfl) (e := Extern.AbiNoEscape.same) (by kernel_rfl)]
  rw [Lib.run_noEscape]
  simp only [Result.andThen]
  rw [Oper.upon_value]
  go_wp2
  rw [Lib.run_from_unsafe w ⟨b, 0, none⟩ Tryd.underlying78 Tryd.underlying46 hj hsh (by kernel_rfl)]
  simp only [Result.andThen]
  rw [Oper.upon_value]
  go_wp2
  go_end0
  exact ⟨rfl, rfl⟩
/-- A builder at block b: its bytes; its row's block is one of 'ok', and not b. -/
def Bld (B b : Nat) (ok : Nat → Prop) (bs : List Value) (w : World) : Prop :=
  B ≤ b ∧ ∃ p v, (p = .pointer none ∨ p = .pointer (some ⟨b, 0, none⟩)) ∧ w.heap[b]? = some (.cells #[p, v] 49 (0, 0)) ∧ w.ownsRow B 5 1 v bs.length bs ∧ ∀ k, v.ownBlock = some k → ok k ∧ k ≠ b
theorem Bld.is {B b : Nat} {ok : Nat → Prop} {bs : List Value} {w : World} (h : Bld B b ok bs w) : Lib.IsBuilder 49 5 B b bs w := by
  obtain ⟨hB, p, v, hp, hb, ho, hk⟩ := h
  rcases hp with rfl | rfl
  · exact .inl ⟨hB, v, hb, ho, fun e => (hk b e).2 rfl⟩
  · exact .inr ⟨hB, v, hb, ho, fun e => (hk b e).2 rfl⟩
theorem Bld.new (w : World) (ok : Nat → Prop) : Bld w.heap.size w.heap.size ok [] (w.alloc (.cells #[.pointer none, .slice none 0 0] 49)) :=
  ⟨Nat.le_refl _, _, _, .inl rfl, heap_alloc_new _ _, ⟨by simp, .inl ⟨rfl, rfl⟩⟩, fun k hk => by simp [Value.ownBlock] at hk⟩
theorem Bld.lt {B b : Nat} {ok : Nat → Prop} {bs : List Value} {w : World} (h : Bld B b ok bs w) : b < w.heap.size := by
  obtain ⟨_, p, v, _, hb, _⟩ := h
  exact blk_lt hb
/-- Under what leaves its two blocks alone. -/
theorem Bld.step {B b : Nat} {ok ok' : Nat → Prop} {bs : List Value} {w w' : World} (h : Bld B b ok bs w) (hb' : w'.heap[b]? = w.heap[b]?) (hk' : ∀ k, ok k → k < w.heap.size → w'.heap[k]? = w.heap[k]?) (hok : ∀ k, ok k → k < w.heap.size → ok' k) (hs : w.heap.size ≤ w'.heap.size) : Bld B b ok' bs w' := by
  obtain ⟨hB, p, v, hp, hb, ho, hk⟩ := h
  refine ⟨hB, p, v, hp, hb'.trans hb, ⟨ho.1, ?_⟩, fun k e => ⟨hok k (hk k e).1 ((ho.lt k e).2), (hk k e).2⟩⟩
  rcases ho.2 with ⟨h1, h2⟩ | ⟨g, cap, cur, h1, h2, h3, h4⟩
  · exact .inl ⟨h1, h2⟩
  · refine .inr ⟨g, cap, cur, h1, h2, ?_, h4⟩
    have e : v.ownBlock = some g := by rw [h1]; rfl
    rw [hk' g (hk g e).1 (ho.lt g e).2]
    exact h3
theorem strings_Builder_copyCheck.any (B b : Nat) (ok : Nat → Prop) (bs : List Value) (w : World) (h : Bld B b ok bs w) :
    Calls Tryd.prog 41 #[.pointer (some ⟨b, 0, none⟩)] w fun e w' => e = .returned (.tuple #[]) ∧ (∃ v, w'.heap[b]? = some (.cells #[.pointer (some ⟨b, 0, none⟩), v] 49 (0, 0)) ∧ w'.ownsRow B 5 1 v bs.length bs ∧ ∀ k, v.ownBlock = some k → ok k ∧ k ≠ b) ∧ Kept w w' (fun k => k = b) ∧ Below B w w' := by
  obtain ⟨hB, p, v, hp, hb, ho, hk⟩ := h
  have hne : v.ownBlock ≠ some b := fun e => (hk b e).2 rfl
  rcases hp with rfl | rfl
  · have h0 : Lib.BuilderAt 49 5 B b (.pointer none) bs w := ⟨hB, v, hb, ho, hne⟩
    refine (strings_Builder_copyCheck.fresh b w h0.cell0 h0.shape h0.frozen0).mono ?_
    rintro e w' ⟨rfl, rfl⟩
    obtain ⟨_, v', hb', ho', _⟩ := h0.used (.pointer (some ⟨b, 0, none⟩))
    obtain rfl : v' = v := by
      have e1 : (w.setCell ⟨b, 0, none⟩ (.pointer (some ⟨b, 0, none⟩))).cell? ⟨b, 1, none⟩ = some v' := by rw [Lib.cell_of_heap hb']; rfl
      have e2 : w.cell? ⟨b, 1, none⟩ = some v := by rw [Lib.cell_of_heap hb]; rfl
      rw [World.cell?_setCell_other _ _ _ _ (by simp), e2] at e1
      exact (Option.some.inj e1).symm
    exact ⟨rfl, ⟨v', hb', ho', hk⟩, (Kept.refl w (fun k => k = b)).setCell (p := ⟨b, 0, none⟩) (.inl rfl) _, (Below.refl B w).setCell (p := ⟨b, 0, none⟩) hB _⟩
  · have h0 : Lib.BuilderAt 49 5 B b (.pointer (some ⟨b, 0, none⟩)) bs w := ⟨hB, v, hb, ho, hne⟩
    refine (strings_Builder_copyCheck.used b w h0.cell0).mono ?_
    rintro e w' ⟨rfl, rfl⟩
    exact ⟨rfl, ⟨v, hb, ho, hk⟩, Kept.refl _ _, Below.refl B _⟩

/-! ### strings_Builder_WriteByte: function 25 -/
set_option maxHeartbeats 4000000 in
set_option maxRecDepth 100000 in
theorem strings_Builder_WriteByte.any (B b : Nat) (ok : Nat → Prop) (bs : List Value) (c : Int) (w : World) (h : Bld B b ok bs w) (hok : ∀ k, w.heap.size ≤ k → ok k) (hlen : bs.length + 1 ≤ 140737488355328) :
    Calls Tryd.prog 25 #[.pointer (some ⟨b, 0, none⟩), .int .u8 c] w fun e w' => e = .returned .nilIface ∧ Bld B b ok (bs ++ [.int .u8 c]) w' ∧ Kept w w' (fun k => k = b ∨ ok k) ∧ Below B w w' := by
  have hBw : B ≤ w.heap.size := Nat.le_trans h.1 (Nat.le_of_lt h.lt)
  have hB := h.1
  obtain ⟨i0, hi, hz0, hz1, hz2⟩ := info_parts info5
  go_enter Tryd.func25, Tryd.ntmps25
  go_wp2_with (go_at_call 41; refine (strings_Builder_copyCheck.any B b ok bs _ h).mono ?_)
  rintro e w1 ⟨rfl, ⟨v, hbk, hown, hvk⟩, hk1, hb1⟩
  have hne : v.ownBlock ≠ some b := fun e => (hvk b e).2 rfl
  have c0 : w1.cell? ⟨b, 0, none⟩ = some (.pointer (some ⟨b, 0, none⟩)) := by rw [Lib.cell_of_heap hbk]; rfl
  have c1 : w1.cell? ⟨b, 1, none⟩ = some v := by rw [Lib.cell_of_heap hbk]; rfl
  go_wp2_with (at_builtin; refine wpList_append_own_at _ rfl _ _ 47 rfl B 5 i0 (.int .u8 0) 1 1 Tryd.underlying47 hi hz0 hz1 hz2 rfl (by decide) _ _ _ rfl (hown.alloc _) ⟨w1.heap.size, 0, none⟩ 1 1 [.int .u8 c] rfl rfl ?c1 ?c2 ?c3 ?c4 ?c5 ?_)
  case c1 =>
    intro j u hj
    match j, hj with
    | 0, hj => simp at hj; subst hj; simp [Addr.add]
  case c2 => intro u hu; simp at hu; subst hu; rfl
  case c3 => unfold maxLen; omega
  case c4 => omega
  case c5 => have := hb1.size; simp; omega
  intro v' w2 hown' hgrow _ hat
  have hlt : b < w1.heap.size := by
    rcases Nat.lt_or_ge b w1.heap.size with h' | h'
    · exact h'
    · simp [Array.getElem?_eq_none h'] at hbk
  have hb2 : w2.heap[b]? = some (.cells #[.pointer (some ⟨b, 0, none⟩), v] 49 (0, 0)) := by
    rw [hgrow.block b (by simp; omega) (fun e => hne e.symm), Lib.alloc_old w1 _ b hlt]
    exact hbk
  have d0 : w2.cell? ⟨b, 0, none⟩ = some (.pointer (some ⟨b, 0, none⟩)) := by rw [Lib.cell_of_heap hb2]; rfl
  have d1 : w2.cell? ⟨b, 1, none⟩ = some v := by rw [Lib.cell_of_heap hb2]; rfl
  have f1 : w2.frozen? ⟨b, 1, none⟩ = false := Lib.frozen_of_heap hb2 1
  obtain ⟨g, cap, rfl⟩ : ∃ g cap, v' = .slice (some ⟨g, 0, none⟩) (bs.length + 1) cap := by
    rcases hown'.2 with ⟨_, h0⟩ | ⟨g, cap, cur, hv, _⟩
    · omega
    · exact ⟨g, cap, hv⟩
  have hok' : ∀ k, (Value.slice (some ⟨g, 0, none⟩) (bs.length + 1) cap).ownBlock = some k → ok k ∧ k ≠ b := by
    intro k hk
    rcases hat with e | e
    · exact hvk k (e.symm.trans hk)
    · rw [e] at hk
      obtain rfl := Option.some.inj hk
      have := hk1.1
      exact ⟨hok _ (by first | (simp; omega) | omega), by first | (simp; omega) | omega⟩
  go_wp2
  go_ret
  refine ⟨rfl, ?_, ?_, ?_⟩
  · obtain ⟨_, v', q1, q2, q3⟩ := Lib.BuilderAt.put (T := 49) (e := 5) hB hb2 (bs' := bs ++ [.int .u8 c]) (by simpa using hown') (by decide)
    obtain rfl : v' = .slice (some ⟨g, 0, none⟩) (bs.length + 1) cap := by
      have e1 : (w2.setCell ⟨b, 1, none⟩ (.slice (some ⟨g, 0, none⟩) (bs.length + 1) cap)).cell? ⟨b, 1, none⟩ = some v' := by rw [Lib.cell_of_heap q1]; rfl
      rw [World.cell?_setCell_same _ _ _ d1] at e1
      exact (Option.some.inj e1).symm
    exact ⟨hB, _, _, .inr rfl, q1, q2, hok'⟩
  · exact (((hk1.mono (fun k hk => .inl hk)).alloc _).of_grown hgrow (fun k hk => .inl (.inr (hvk k hk).1))).setCell (p := ⟨b, 1, none⟩) (.inl (.inl rfl)) _
  · exact ((hb1.alloc (by have := hb1.size; omega) _).grown hgrow (by have := hb1.size; simp; omega) (fun k hk => (hown.lt k hk).1)).setCell (p := ⟨b, 1, none⟩) hB _

/-! ### strings_Builder_WriteString: function 26 -/
/-- A text appended to a row of the call's own: where the row lies then. -/
theorem run_str_at {P : Program} (w : World) (base : Nat) (t u ty e : TypeId) (i : TypeInfo) (ht : P.underlying t = some (.slice e)) (hu : P.underlying u = some .string) (hi : P.info? e = some i) (hz : i.zero = some (.int .u8 0))
    (hsize : i.size = 1) (hby : i.bytes = 1) (v : Value) (n : Nat) (xs : List Value) (hown : w.ownsRow base e 1 v n xs) (s : ByteArray) (hb : n + s.size ≤ 140737488355328) (hbase : base ≤ w.heap.size) :
    ∃ v' w', (Builtin.append_ #[t, u] ty #[v, .string s]).run P w = .ok v' w' ∧ w'.ownsRow base e 1 v' (n + s.size) (xs ++ Lib.strCells s) ∧ w.grownBy w' v.ownBlock ∧ (v'.ownBlock = v.ownBlock ∨ v'.ownBlock = some w.heap.size) := by
  obtain ⟨v', w', hr, h2, h3, h4⟩ := Lib.run_append_own_string (P := P) w base t u ty e i ht hu hi hz hsize hby v n xs hown s (by unfold maxLen; omega) hb hbase
  refine ⟨v', w', hr, h2, h3, ?_⟩
  rcases hown.2 with ⟨rfl, rfl⟩ | ⟨g, cap, cur, rfl, hbg, hg, hnc, hcm, hcs, htake⟩
  · by_cases hm : s.size = 0
    · rw [h4.2 ⟨rfl, hm⟩]
      exact .inl rfl
    · have hr2 := run_append_nil_string (P := P) w t u ty e i (.int .u8 0) ht hu hi hz s (by omega) (by omega) (by rw [hby]; omega)
      rw [hr] at hr2
      injection hr2 with e1 _
      rw [e1]
      exact .inr rfl
  · by_cases hroom : n + s.size ≤ cap
    · have hr2 := Lib.run_append_room_string (P := P) w t u ty e i ht hu hi hsize g n cap cur hg s hroom (by omega)
      rw [hr] at hr2
      injection hr2 with e1 _
      rw [e1]
      exact .inl rfl
    · have hxl : xs.length = n := by simpa using hown.1
      have hr2 := Lib.run_append_grow_string (P := P) w t u ty e i (.int .u8 0) ht hu hi hz ⟨g, 0, none⟩ n cap xs (by rw [hsize]; simpa using hxl) (hown.cells (g := g) rfl) s (by omega) (by omega) (by rw [hby]; exact growslice_fits (by omega) (by omega))
      rw [hr] at hr2
      injection hr2 with e1 _
      rw [e1]
      exact .inr rfl
theorem wpList_str_at {P : Program} {w : World} {ops : Array Oper} {rest : List Oper} {o : Oper} {a : Act} {Q : Exit → Act → World → Prop} (hgd : o.guard = none) (sl x : Operand) (t u : TypeId)
    (ho : o.op = .call { callee := .builtin .append, args := #[sl, x], argTypes := #[t, u] })
    (base : Nat) (e : TypeId) (i : TypeInfo) (ht : P.underlying t = some (.slice e)) (hu : P.underlying u = some .string) (hi : P.info? e = some i) (hz : i.zero = some (.int .u8 0)) (hsize : i.size = 1) (hby : i.bytes = 1)
    (v : Value) (n : Nat) (xs : List Value) (hs : a.eval sl = v) (hown : w.ownsRow base e 1 v n xs) (s : ByteArray) (hx : a.eval x = .string s) (hb : n + s.size ≤ 140737488355328) (hbase : base ≤ w.heap.size)
    (h : ∀ v' w', w'.ownsRow base e 1 v' (n + s.size) (xs ++ Lib.strCells s) → w.grownBy w' v.ownBlock → (v'.ownBlock = v.ownBlock ∨ v'.ownBlock = some w.heap.size) → wpList P ops Q rest (a.put o.dst v') w') : wpList P ops Q (o :: rest) a w := by
  refine wpList_plain hgd fun K hK => ?_
  obtain ⟨v', w', hr, h2, h3, h4⟩ := run_str_at (P := P) w base t u o.type e i ht hu hi hz hsize hby v n xs hown s hb hbase
  unfold Oper.wp execOp
  simp only [ho, resolve, invoke, builtin, Sem.run_bind, Sem.run_pure, Result.andThen_ok, List.map_toArray, List.map_cons, List.map_nil, hs, hx, hr]
  exact hK _ _ (h v' w' h2 h3 h4)
set_option maxHeartbeats 4000000 in
set_option maxRecDepth 100000 in
theorem strings_Builder_WriteString.any (B b : Nat) (ok : Nat → Prop) (bs : List Value) (s : ByteArray) (w : World) (h : Bld B b ok bs w) (hok : ∀ k, w.heap.size ≤ k → ok k) (hlen : bs.length + s.size ≤ 140737488355328) :
    Calls Tryd.prog 26 #[.pointer (some ⟨b, 0, none⟩), .string s] w fun e w' => e = .returned (.tuple #[.int .i64 s.size, .nilIface]) ∧ Bld B b ok (bs ++ Lib.strCells s) w' ∧ Kept w w' (fun k => k = b ∨ ok k) ∧ Below B w w' := by
  have hBw : B ≤ w.heap.size := Nat.le_trans h.1 (Nat.le_of_lt h.lt)
  have hB := h.1
  obtain ⟨i0, hi, hz0, hz1, hz2⟩ := info_parts info5
  go_enter Tryd.func26, Tryd.ntmps26
  go_wp2_with (go_at_call 41; refine (strings_Builder_copyCheck.any B b ok bs _ h).mono ?_)
  rintro e w1 ⟨rfl, ⟨v, hbk, hown, hvk⟩, hk1, hb1⟩
  have hne : v.ownBlock ≠ some b := fun e => (hvk b e).2 rfl
  have c0 : w1.cell? ⟨b, 0, none⟩ = some (.pointer (some ⟨b, 0, none⟩)) := by rw [Lib.cell_of_heap hbk]; rfl
  have c1 : w1.cell? ⟨b, 1, none⟩ = some v := by rw [Lib.cell_of_heap hbk]; rfl
  go_wp2_with (at_builtin; refine wpList_str_at rfl _ _ 47 9 rfl B 5 i0 Tryd.underlying47 Tryd.underlying9 hi hz0 hz1 hz2 _ _ _ rfl hown s rfl ?c4 ?c5 ?_)
  case c4 => omega
  case c5 => have := hb1.size; omega
  intro v' w2 hown' hgrow hat
  have hlt : b < w1.heap.size := by
    rcases Nat.lt_or_ge b w1.heap.size with h' | h'
    · exact h'
    · simp [Array.getElem?_eq_none h'] at hbk
  have hb2 : w2.heap[b]? = some (.cells #[.pointer (some ⟨b, 0, none⟩), v] 49 (0, 0)) := by
    rw [hgrow.block b hlt (fun e => hne e.symm)]
    exact hbk
  have d0 : w2.cell? ⟨b, 0, none⟩ = some (.pointer (some ⟨b, 0, none⟩)) := by rw [Lib.cell_of_heap hb2]; rfl
  have d1 : w2.cell? ⟨b, 1, none⟩ = some v := by rw [Lib.cell_of_heap hb2]; rfl
  have f1 : w2.frozen? ⟨b, 1, none⟩ = false := Lib.frozen_of_heap hb2 1
  obtain ⟨ao, n', cap, rfl⟩ : ∃ ao n' cap, v' = .slice ao n' cap := by
    rcases hown'.2 with ⟨hv, _⟩ | ⟨g, cap, cur, hv, _⟩
    · exact ⟨_, _, _, hv⟩
    · exact ⟨_, _, _, hv⟩
  have hok' : ∀ k, (Value.slice ao n' cap).ownBlock = some k → ok k ∧ k ≠ b := by
    intro k hk
    rcases hat with e | e
    · exact hvk k (e.symm.trans hk)
    · rw [e] at hk
      obtain rfl := Option.some.inj hk
      have := hk1.1
      exact ⟨hok _ (by omega), by omega⟩
  go_wp2
  go_ret2
  refine ⟨rfl, ?_, ?_, ?_⟩
  · obtain ⟨_, v', q1, q2, q3⟩ := Lib.BuilderAt.put (T := 49) (e := 5) hB hb2 (bs' := bs ++ Lib.strCells s) (by simpa [Lib.strCells_length] using hown') (by decide)
    obtain rfl : v' = .slice ao n' cap := by
      have e1 : (w2.setCell ⟨b, 1, none⟩ (.slice ao n' cap)).cell? ⟨b, 1, none⟩ = some v' := by rw [Lib.cell_of_heap q1]; rfl
      rw [World.cell?_setCell_same _ _ _ d1] at e1
      exact (Option.some.inj e1).symm
    exact ⟨hB, _, _, .inr rfl, q1, q2, hok'⟩
  · exact ((hk1.mono (fun k hk => .inl hk)).of_grown hgrow (fun k hk => .inl (.inr (hvk k hk).1))).setCell (p := ⟨b, 1, none⟩) (.inl (.inl rfl)) _
  · exact (hb1.grown hgrow (by have := hb1.size; omega) (fun k hk => (hown.lt k hk).1)).setCell (p := ⟨b, 1, none⟩) hB _

/-! ### escape_turned: function 36 -/
def escape_turned.go (g : Int → Option ByteArray) : List UInt8 → Option (List UInt8)
  | [] => some []
  | c :: cs => (g (c.toNat : Int)).bind fun t => if t.size ≤ 64 then (escape_turned.go g cs).bind fun r => some ((if t.data.toList.isEmpty then [c] else t.data.toList) ++ r) else none
def escape_turned.f (g : Int → Option ByteArray) (s : ByteArray) : Option ByteArray := if s.size ≤ 1099511627776 then (escape_turned.go g s.data.toList).map (fun l => ⟨l.toArray⟩) else none
/-- Bytes made of a text beside a builder that was just made. -/
theorem bytes_beside (w : World) (s : ByteArray) : Bld w.heap.size w.heap.size (fun i => i ≠ w.heap.size + 1) [] (Lib.bytesWorld (w.alloc (.cells #[.pointer none, .slice none 0 0] 49)) 5 s) ∧
    (∀ j, j < s.size → (Lib.bytesWorld (w.alloc (.cells #[.pointer none, .slice none 0 0] 49)) 5 s).cell? ⟨w.heap.size + 1, j, none⟩ = some (.int .u8 (s.data.toList.getD j 0).toNat)) ∧
    w.heap.size + 1 < (Lib.bytesWorld (w.alloc (.cells #[.pointer none, .slice none 0 0] 49)) 5 s).heap.size ∧ Below w.heap.size w (Lib.bytesWorld (w.alloc (.cells #[.pointer none, .slice none 0 0] 49)) 5 s) := by
  have hz : (w.alloc (.cells #[.pointer none, .slice none 0 0] 49)).heap.size = w.heap.size + 1 := by simp
  refine ⟨(Bld.new w (fun _ => True)).step ?_ ?_ ?_ ?_, ?_, ?_, ?_⟩
  · exact Lib.bytesWorld_at_old _ _ _ _ (by omega)
  · intro k _ hk
    exact Lib.bytesWorld_at_old _ _ _ _ hk
  · intro k _ hk
    omega
  · rw [Lib.bytesWorld_size]; omega
  · intro j hj
    have := Lib.bytesWorld_cell (w.alloc (.cells #[.pointer none, .slice none 0 0] 49)) 5 s j hj
    rw [hz] at this
    exact this
  · rw [Lib.bytesWorld_size]; omega
  · exact bytes_below ((Below.refl _ _).alloc (Nat.le_refl _) _) (by omega) _ _
theorem Bld.drewN {B b : Nat} {ok : Nat → Prop} {bs : List Value} {w : World} (h : Bld B b ok bs w) (n : Nat) : Bld B b ok bs (w.drewN n) := h.step rfl (fun _ _ _ => rfl) (fun _ h _ => h) (Nat.le_refl _)
def escape_turned.Inv (g : Int → Option ByteArray) (s : ByteArray) (l : List UInt8) (w wr : World) (v : Value) : Prop :=
  ∃ (k : Nat) (acc rest : List UInt8), k ≤ s.size ∧ v = .int .i64 k ∧ escape_turned.go g (s.data.toList.drop k) = some rest ∧ acc ++ rest = l ∧ acc.length ≤ 64 * k ∧ Bld w.heap.size w.heap.size (fun i => i ≠ w.heap.size + 1) (Lib.byteCells acc) wr ∧
    (∀ j, j < s.size → wr.cell? ⟨w.heap.size + 1, j, none⟩ = some (.int .u8 (s.data.toList.getD j 0).toNat)) ∧ w.heap.size + 1 < wr.heap.size ∧ Below w.heap.size w wr
theorem escape_turned.next {g : Int → Option ByteArray} {s : ByteArray} {k : Nat} {rest : List UInt8} (hlt : k < s.size) (h : escape_turned.go g (s.data.toList.drop k) = some rest) :
    ∃ t r', g ((s.data.toList.getD k 0).toNat : Int) = some t ∧ t.size ≤ 64 ∧ escape_turned.go g (s.data.toList.drop (k + 1)) = some r' ∧ rest = (if t.data.toList.isEmpty then [s.data.toList.getD k 0] else t.data.toList) ++ r' := by
  have hl : k < s.data.toList.length := by simpa using hlt
  rw [List.drop_eq_getElem_cons hl] at h
  simp only [escape_turned.go] at h
  obtain ⟨t, ht, h⟩ := Option.bind_eq_some_iff.1 h
  split at h
  · obtain ⟨r', hr, h⟩ := Option.bind_eq_some_iff.1 h
    rw [show s.data.toList.getD k 0 = s.data.toList[k] by rw [List.getD_eq_getElem?_getD, List.getElem?_eq_getElem hl]; rfl]
    exact ⟨t, r', ht, by assumption, hr, (Option.some.inj h).symm⟩
  · exact absurd h (by simp)
theorem escape_turned.step {g : Int → Option ByteArray} {s : ByteArray} {l : List UInt8} {w wr w' : World} {k : Nat} {acc r' add : List UInt8} (hlt : k < s.size) (hr : escape_turned.go g (s.data.toList.drop (k + 1)) = some r') (hl : acc ++ (add ++ r') = l) (ha : acc.length ≤ 64 * k) (hadd : add.length ≤ 64)
    (hb : Bld w.heap.size w.heap.size (fun i => i ≠ w.heap.size + 1) (Lib.byteCells acc ++ Lib.byteCells add) w') (hc : ∀ j, j < s.size → wr.cell? ⟨w.heap.size + 1, j, none⟩ = some (.int .u8 (s.data.toList.getD j 0).toNat)) (hz : w.heap.size + 1 < wr.heap.size) (hB : Below w.heap.size w wr)
    (hk : Kept wr w' (fun k => k = w.heap.size ∨ k ≠ w.heap.size + 1)) (hB' : Below w.heap.size wr w') : escape_turned.Inv g s l w w' (.int .i64 ((k : Int) + 1)) := by
  refine ⟨k + 1, acc ++ add, r', hlt, by push_cast; rfl, hr, by rw [List.append_assoc]; exact hl, by rw [List.length_append]; omega, by simpa [Lib.byteCells] using hb, fun j hj => cell_kept (hc j hj) hk (by simp), Nat.lt_of_lt_of_le hz hk.1, hB.trans hB'⟩
set_option maxHeartbeats 8000000 in
set_option maxRecDepth 100000 in
theorem escape_turned.walk (F : Nat) (hE : ∀ args w, (callFunc F args).run Tryd.prog w = .ok (.enter F args) w) (g : Int → Option ByteArray)
    (hF : ∀ (c : Int) (r : ByteArray) (w : World), g c = some r → Calls Tryd.prog F #[.int .u8 c] w fun e w' => e = .returned (.string r) ∧ Drawn0 w w')
    (s r : ByteArray) (w : World) (h : escape_turned.f g s = some r) :
    Calls Tryd.prog 36 #[.string s, .func (.func F) #[] #[]] w fun e w' => e = .returned (.string r) ∧ Below w.heap.size w w' := by
  unfold escape_turned.f at h
  split at h
  · rename_i hs
    obtain ⟨l, hl, rfl⟩ := Option.map_eq_some_iff.1 h
    clear h
    have HL := Aside0.mk hl
    have HF := Aside0.mk hF
    clear hl hF
    have hcb := fun W => Lib.run_convert_string_bytes (P := Tryd.prog) W 9 47 5 s Tryd.underlying9 Tryd.underlying47 Tryd.underlying5
    go_enter Tryd.func36, Tryd.ntmps36
    go_wp2
    have ST := Aside0.mk (bytes_beside w s)
    generalize Lib.bytesWorld _ _ _ = W0 at ST ⊢
    clear hcb
    go_loopw [7, 8, 12] (fun _ _ v12 wr => Aside0 (escape_turned.Inv g s l w wr v12)) (fun _ _ v12 _ => s.size - (intOf v12).toNat)
    case atStart => exact ⟨0, [], l, Nat.zero_le _, rfl, HL.out, rfl, by simp, ST.out⟩
    case round =>
      obtain ⟨k, acc, rest, hk, rfl, hg, hacc, hal, hb, hc, hz, hB⟩ := hrel.out
      clear hrel ST HL
      by_cases hlt : k < s.size
      · obtain ⟨t, r', ht, ht64, hg', hrest⟩ := escape_turned.next hlt hg
        have hck := hc k hlt
        generalize hx : s.data.toList.getD k 0 = c at hck ht hrest
        have h1 := Aside0.mk hx
        have h2 := Aside0.mk hg'
        have h3 := Aside0.mk hacc
        have h4 := Aside0.mk hb
        have h5 := Aside0.mk hc
        have h6 := Aside0.mk hB
        have h7 := Aside0.mk hrest
        have h8 := Aside0.mk ht
        clear hx hg hg' hacc hb hc hB hrest ht
        by_cases he : t.data.toList.isEmpty = true
        · have hte : (!t.toList.isEmpty) = false := by rw [ByteArray.toList_eq, he]; rfl
          have h7' := Aside0.mk (show rest = [c] ++ r' by rw [h7.out, if_pos he])
          clear he h7
          go_wp2_with (first | (go_at_fn F; refine (HF.out _ _ _ h8.out).mono ?_; rintro e w1 ⟨rfl, ⟨nd, rfl⟩⟩) | (go_at_call 25; refine (strings_Builder_WriteByte.any w.heap.size w.heap.size _ _ _ _ (Bld.drewN h4.out _) ?ok ?len).mono ?_; (case ok => intro i hi; simp at hi; omega); (case len => rw [show (Lib.byteCells acc).length = acc.length by simp [Lib.byteCells]]; omega); rintro e w2 ⟨rfl, hb2, hk2, hB2⟩; have g1 := Aside0.mk hb2; have g2 := Aside0.mk hk2; have g3 := Aside0.mk hB2; clear hb2 hk2 hB2))
          go_roundw
          case rel => exact ⟨escape_turned.step (add := [c]) (l := l) hlt h2.out (by rw [← h7'.out]; exact h3.out) hal (by simp) (by simpa [Lib.byteCells] using g1.out) h5.out hz h6.out g2.out ((pw_below_drewN (Below.refl _ wr) nd).trans g3.out)⟩
          case measure => simp [intOf]; omega
        · have hte : (!t.toList.isEmpty) = true := by rw [ByteArray.toList_eq]; simpa using he
          have h7' := Aside0.mk (show rest = t.data.toList ++ r' by rw [h7.out, if_neg he])
          clear he h7
          go_wp2_with (first | (go_at_fn F; refine (HF.out _ _ _ h8.out).mono ?_; rintro e w1 ⟨rfl, ⟨nd, rfl⟩⟩) | (go_at_call 26; refine (strings_Builder_WriteString.any w.heap.size w.heap.size _ _ _ _ (Bld.drewN h4.out _) ?ok ?len).mono ?_; (case ok => intro i hi; simp at hi; omega); (case len => rw [show (Lib.byteCells acc).length = acc.length by simp [Lib.byteCells]]; omega); rintro e w2 ⟨rfl, hb2, hk2, hB2⟩; have g1 := Aside0.mk hb2; have g2 := Aside0.mk hk2; have g3 := Aside0.mk hB2; clear hb2 hk2 hB2))
          go_roundw
          case rel => exact ⟨escape_turned.step (add := t.data.toList) (l := l) hlt h2.out (by rw [← h7'.out]; exact h3.out) hal (by simpa using ht64) g1.out h5.out hz h6.out g2.out ((pw_below_drewN (Below.refl _ wr) nd).trans g3.out)⟩
          case measure => simp [intOf]; omega
      · obtain rfl : k = s.size := by omega
        obtain rfl : rest = [] := by rw [List.drop_of_length_le (by simp)] at hg; exact (Option.some.inj hg).symm
        obtain rfl : acc = l := by simpa using hacc
        have h4 := Aside0.mk hb
        have h6 := Aside0.mk hB
        clear hg hacc hb hc hB
        go_wp2_with (go_at_call 27; refine (Tryd.Builder_String_any w.heap.size w.heap.size acc _ (Bld.is h4.out) ?hBw).mono ?_; (case hBw => omega); rintro e w2 ⟨rfl, hB2⟩; have g3 := Aside0.mk hB2; clear hB2)
        go_ret
        exact ⟨rfl, h6.out.trans g3.out⟩
  · exact absurd h (by simp)

/-! ### escape_Percent: function 9 -/
def hexd (n : Nat) : UInt8 := if n < 10 then (48 + n).toUInt8 else (55 + n).toUInt8
def hex3 (c : Int) : ByteArray := ⟨#[37, hexd (c.toNat / 16), hexd (c.toNat % 16)]⟩
theorem hex_slice (x : Nat) (hx : x < 16) : ∀ W, (Instr.slice 9 (.string ⟨#[48, 49, 50, 51, 52, 53, 54, 55, 56, 57, 65, 66, 67, 68, 69, 70]⟩) (some (.int .u8 x)) (some (.int .u8 ((x : Int) + 1))) none).run Tryd.prog W = .ok (.string ⟨#[hexd x]⟩) W := by
  obtain rfl | rfl | rfl | rfl | rfl | rfl | rfl | rfl | rfl | rfl | rfl | rfl | rfl | rfl | rfl | rfl : x = 0 ∨ x = 1 ∨ x = 2 ∨ x = 3 ∨ x = 4 ∨ x = 5 ∨ x = 6 ∨ x = 7 ∨ x = 8 ∨ x = 9 ∨ x = 10 ∨ x = 11 ∨ x = 12 ∨ x = 13 ∨ x = 14 ∨ x = 15 := by omega
  all_goals exact fun _ => by kernel_rfl
theorem u8_low4 (c : UInt8) : Go.bits .and .u8 (c.toNat : Int) 15 = ((c.toNat % 16 : Nat) : Int) := by
  have : ∀ n : Fin 256, Go.bits .and .u8 ((n.val : Nat) : Int) 15 = ((n.val % 16 : Nat) : Int) := by decide +kernel
  exact this ⟨c.toNat, c.toNat_lt⟩
theorem hex_slices (c : UInt8) : (∀ W, (Instr.slice 9 (.string ⟨#[48, 49, 50, 51, 52, 53, 54, 55, 56, 57, 65, 66, 67, 68, 69, 70]⟩) (some (.int .u8 ((c.toNat : Int) / 16))) (some (.int .u8 (IntKind.u8.wrap ((c.toNat : Int) / 16 + 1)))) none).run Tryd.prog W = .ok (.string ⟨#[hexd (c.toNat / 16)]⟩) W) ∧
    (∀ W, (Instr.slice 9 (.string ⟨#[48, 49, 50, 51, 52, 53, 54, 55, 56, 57, 65, 66, 67, 68, 69, 70]⟩) (some (.int .u8 (Go.bits .and .u8 (c.toNat : Int) 15))) (some (.int .u8 (IntKind.u8.wrap (Go.bits .and .u8 (c.toNat : Int) 15 + 1)))) none).run Tryd.prog W = .ok (.string ⟨#[hexd (c.toNat % 16)]⟩) W) := by
  have hc := c.toNat_lt
  have e1 : (c.toNat : Int) / 16 = ((c.toNat / 16 : Nat) : Int) := by omega
  have e2 : ∀ x : Nat, x < 16 → IntKind.u8.wrap ((x : Int) + 1) = (x : Int) + 1 := fun x hx => by rw [IntKind.wrap_u8]; omega
  rw [u8_low4, e1, e2 _ (by omega), e2 _ (by omega)]
  exact ⟨hex_slice _ (by omega), hex_slice _ (by omega)⟩
def escape_Percent.g (c : Int) : Option ByteArray := (escape_plain.f c).bind fun b => some (if b = true then ⟨#[]⟩ else hex3 c)
def escape_Percent.f (s : ByteArray) : Option ByteArray := escape_turned.f escape_Percent.g s
set_option maxHeartbeats 8000000 in
set_option maxRecDepth 100000 in
theorem escape_Percent.calls (s : ByteArray) (r : ByteArray) (w : World) (h : escape_Percent.f s = some r) :
    Calls Tryd.prog 9 #[.string s] w fun e w' => e = .returned (.string r) ∧ Below w.heap.size w w' := by
  unfold escape_Percent.f escape_turned.f at h
  split at h
  · rename_i hs
    obtain ⟨l, hl, rfl⟩ := Option.map_eq_some_iff.1 h
    clear h
    have HL := Aside0.mk hl
    clear hl
    have hcb := fun W => Lib.run_convert_string_bytes (P := Tryd.prog) W 9 47 5 s Tryd.underlying9 Tryd.underlying47 Tryd.underlying5
    go_enter Tryd.func9, Tryd.ntmps9
    go_wp2
    have ST := Aside0.mk (bytes_beside w s)
    generalize Lib.bytesWorld _ _ _ = W0 at ST ⊢
    clear hcb
    go_loopw [5, 9] (fun _ v9 wr => Aside0 (escape_turned.Inv escape_Percent.g s l w wr v9)) (fun _ v9 _ => s.size - (intOf v9).toNat)
    case atStart => exact ⟨0, [], l, Nat.zero_le _, rfl, HL.out, rfl, by simp, ST.out⟩
    case round =>
      obtain ⟨k, acc, rest, hk, rfl, hg, hacc, hal, hb, hc, hz, hB⟩ := hrel.out
      clear hrel ST HL
      by_cases hlt : k < s.size
      · obtain ⟨t, r', ht, ht64, hg', hrest⟩ := escape_turned.next hlt hg
        have hck := hc k hlt
        generalize hx : s.data.toList.getD k 0 = c at hck ht hrest
        obtain ⟨b, hpb, hbt⟩ := Option.bind_eq_some_iff.1 ht
        have h1 := Aside0.mk hx
        have h2 := Aside0.mk hg'
        have h3 := Aside0.mk hacc
        have h4 := Aside0.mk hb
        have h5 := Aside0.mk hc
        have h6 := Aside0.mk hB
        have h7 := Aside0.mk hrest
        have h8 := Aside0.mk hpb
        clear hx hg hg' hacc hb hc hB hrest ht hpb
        cases b with
        | true =>
          obtain rfl := Option.some.inj hbt
          have h7' := Aside0.mk (show rest = [c] ++ r' by rw [h7.out]; rfl)
          clear h7 hbt
          go_wp2_with (first | (go_at_call 24; (with_reducible refine (escape_plain.calls _ true _ h8.out).mono ?_); rintro e w1 ⟨rfl, ⟨nd, rfl⟩⟩) | (go_at_call 25; refine (strings_Builder_WriteByte.any w.heap.size w.heap.size _ _ _ _ (Bld.drewN h4.out _) ?ok ?len).mono ?_; (case ok => intro i hi; simp at hi; omega); (case len => rw [show (Lib.byteCells acc).length = acc.length by simp [Lib.byteCells]]; omega); rintro e w2 ⟨rfl, hb2, hk2, hB2⟩; have g1 := Aside0.mk hb2; have g2 := Aside0.mk hk2; have g3 := Aside0.mk hB2; clear hb2 hk2 hB2))
          go_roundw
          case rel => exact ⟨escape_turned.step (add := [c]) (l := l) hlt h2.out (by rw [← h7'.out]; exact h3.out) hal (by simp) (by simpa [Lib.byteCells] using g1.out) h5.out hz h6.out g2.out ((pw_below_drewN (Below.refl _ wr) nd).trans g3.out)⟩
          case measure => simp [intOf]; omega
        | false =>
          obtain rfl := Option.some.inj hbt
          have h7' := Aside0.mk (show rest = (hex3 (c.toNat : Int)).data.toList ++ r' by rw [h7.out]; rfl)
          clear h7 hbt
          go_wp2_with (first | (go_at_call 24; (with_reducible refine (escape_plain.calls _ false _ h8.out).mono ?_); rintro e w1 ⟨rfl, ⟨nd, rfl⟩⟩))
          obtain ⟨hs1, hs2⟩ := hex_slices c
          go_region_with (refine (strings_Builder_WriteString.any w.heap.size w.heap.size _ _ _ _ (Bld.drewN h4.out _) ?ok ?len).mono ?_; (case ok => intro i hi; simp at hi; omega); (case len => rw [show (Lib.byteCells acc).length = acc.length by simp [Lib.byteCells]]; have : acc.length ≤ 64 * k := hal; simp [ByteArray.size_append, ByteArray.size]; omega); rintro e w2 ⟨rfl, hb2, hk2, hB2⟩; have g1 := Aside0.mk hb2; have g2 := Aside0.mk hk2; have g3 := Aside0.mk hB2; clear hb2 hk2 hB2)
          clear hs1 hs2
          go_wp2
          go_roundw
          case rel => exact ⟨escape_turned.step (add := (hex3 (c.toNat : Int)).data.toList) (l := l) hlt h2.out (by rw [← h7'.out]; exact h3.out) hal (by simp [hex3]) (by simpa [Lib.byteCells, Lib.strCells, hex3] using g1.out) h5.out hz h6.out g2.out ((pw_below_drewN (Below.refl _ wr) _).trans g3.out)⟩
          case measure => simp [intOf]; omega
      · obtain rfl : k = s.size := by omega
        obtain rfl : rest = [] := by rw [List.drop_of_length_le (by simp)] at hg; exact (Option.some.inj hg).symm
        obtain rfl : acc = l := by simpa using hacc
        have h4 := Aside0.mk hb
        have h6 := Aside0.mk hB
        clear hg hacc hb hc hB
        go_wp2_with (go_at_call 27; refine (Tryd.Builder_String_any w.heap.size w.heap.size acc _ (Bld.is h4.out) ?hBw).mono ?_; (case hBw => omega); rintro e w2 ⟨rfl, hB2⟩; have g3 := Aside0.mk hB2; clear hB2)
        go_ret
        exact ⟨rfl, h6.out.trans g3.out⟩
  · exact absurd h (by simp)

/-! ### strings_ReplaceAll: function 28 -/
def strings_ReplaceAll.f (a0 a1 a2 : ByteArray) : Option ByteArray := if a0.size < 4294967281 ∧ 1 ≤ a1.size ∧ a0.size + Lib.countB a0 a1 * a2.size ≤ 140737488355328 then some ⟨(Lib.replaceAll a0.data.toList a1.data.toList a2.data.toList).toArray⟩ else none
theorem strings_ReplaceAll.calls (a0 a1 a2 : ByteArray) (r : ByteArray) (w : World) (hU : Uni w) (h : strings_ReplaceAll.f a0 a1 a2 = some r) :
    Calls Tryd.prog 28 #[.string a0, .string a1, .string a2] w fun e w' => e = .returned (.string r) ∧ Below w.heap.size w w' := by
  unfold strings_ReplaceAll.f at h
  split at h
  · rename_i hc
    obtain rfl := Option.some.inj h
    obtain ⟨m, hm⟩ := hU
    exact Tryd.strings_ReplaceAll a0 a1 a2 m w hc.1 hm hc.2.1 hc.2.2
  · exact absurd h (by simp)

/-! ### strings_Split: function 29 -/
def strings_Split.f (a0 a1 : ByteArray) : Option (List ByteArray) := if a0.size < 4294967281 ∧ 1 ≤ a1.size then some (Lib.splitB a1 0 (Lib.countB a0 a1) a0) else none
theorem own_made (w : World) (e : Nat) (cs : List Value) (n : Nat) (hl : cs.length = n) (hn : n ≤ maxLen) : (w.alloc (.cells cs.toArray e)).ownsRow w.heap.size e 1 (.slice (some ⟨w.heap.size, 0, none⟩) n n) n cs := by
  subst hl
  exact ⟨by simp, .inr ⟨w.heap.size, cs.length, cs.toArray, rfl, Nat.le_refl _, heap_alloc_new _ _, Nat.le_refl _, hn, by simp, by simp⟩⟩
theorem strings_Split.calls (a0 a1 : ByteArray) (r : List ByteArray) (w : World) (hU : Uni w) (h : strings_Split.f a0 a1 = some r) :
    Calls Tryd.prog 29 #[.string a0, .string a1] w fun e w' => ∃ v0_ : Value, e = .returned (v0_) ∧ Kd.R Kd.string 9 w' w.heap.size (fun _ => True) v0_ r ∧ Below w.heap.size w w' := by
  unfold strings_Split.f at h
  split at h
  · rename_i hc
    obtain rfl := Option.some.inj h
    obtain ⟨m, hm⟩ := hU
    refine (Tryd.strings_Split a0 a1 m w hc.1 hm hc.2).mono ?_
    rintro e w' ⟨rfl, rfl⟩
    have hl := Lib.splitB_all a1 hc.2 0 (Lib.countB a0 a1) a0 rfl
    have hle := Lib.countB_le a1 hc.2 a0.size a0 (Nat.le_refl _)
    refine ⟨_, rfl, Kd.R_of_own (h1 := fun _ => rfl) ?_ (fun _ _ => trivial), (Below.refl _ _).alloc (Nat.le_refl _) _⟩
    rw [hl]
    exact own_made w 9 _ _ (by simp [hl]) (by unfold maxLen; omega)
  · exact absurd h (by simp)
theorem strings_Split.raw (a0 a1 : ByteArray) (m : Int) (w : World) (hs : a0.size < 4294967281) (hm : w.cell? ⟨0, 0, none⟩ = some (.int .i64 m)) (h1 : 1 ≤ a1.size) (ps : List ByteArray) (hp : Lib.splitB a1 0 (Lib.countB a0 a1) a0 = ps) :
    Calls Tryd.prog 29 #[.string a0, .string a1] w fun e w' => e = .returned (.slice (some ⟨w.heap.size, 0, none⟩) ps.length ps.length) ∧ w' = w.alloc (.cells (ps.map Value.string).toArray 9) := by
  subst hp
  refine (Tryd.strings_Split a0 a1 m w hs hm h1).mono ?_
  rintro e w' ⟨rfl, rfl⟩
  rw [Lib.splitB_all a1 h1 0 (Lib.countB a0 a1) a0 rfl]
  exact ⟨rfl, rfl⟩
/-- A row of texts that was just made, in a block of its own. -/
def Fresh (w : World) (ps : List ByteArray) (v : Value) (w' : World) : Prop := v = .slice (some ⟨w.heap.size, 0, none⟩) ps.length ps.length ∧ w' = w.alloc (.cells (ps.map Value.string).toArray 9) ∧ ps.length ≤ 4294967296
theorem strings_Split.fresh (a0 a1 : ByteArray) (r : List ByteArray) (w : World) (hU : Uni w) (h : strings_Split.f a0 a1 = some r) :
    Calls Tryd.prog 29 #[.string a0, .string a1] w fun e w' => ∃ v0_ : Value, e = .returned (v0_) ∧ Kd.R Kd.string 9 w' w.heap.size (fun _ => True) v0_ r ∧ Below w.heap.size w w' ∧ Fresh w r v0_ w' := by
  unfold strings_Split.f at h
  split at h
  · rename_i hc
    obtain rfl := Option.some.inj h
    obtain ⟨m, hm⟩ := hU
    have hl := Lib.splitB_all a1 hc.2 0 (Lib.countB a0 a1) a0 rfl
    have hle := Lib.countB_le a1 hc.2 a0.size a0 (Nat.le_refl _)
    refine (strings_Split.raw a0 a1 m w hc.1 hm hc.2 _ rfl).mono ?_
    rintro e w' ⟨rfl, rfl⟩
    refine ⟨_, rfl, Kd.R_of_own (h1 := fun _ => rfl) ?_ (fun _ _ => trivial), (Below.refl _ _).alloc (Nat.le_refl _) _, rfl, rfl, by rw [hl]; omega⟩
    exact own_made w 9 _ _ (by simp) (by rw [hl]; unfold maxLen; omega)
  · exact absurd h (by simp)

end Go.Proofs.YtjmcdocoogdbiaaDoor.Hp
