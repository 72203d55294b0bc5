/- Go functions of this seat as Lean functions, and their contracts: what the Go code computes, for every input. (By hp.py, a program of this repo, over the kit's print.py.) -/
import Derived.Test.YtfphmpnkfjeceaaDoorHp0
import Derived.Test.YtfphmpnkfjeceaaDoorHp1
namespace Go.Proofs.YtfphmpnkfjeceaaDoor.Hp
open Go.RowKit Go.Proofs.YtfphmpnkfjeceaaDoorW.PrintWords Go.Proofs.YtfphmpnkfjeceaaDoorW.PrintLast Go.Proofs.YtfphmpnkfjeceaaDoorW.PrintMore
attribute [local go_sem] max2_int min2_int max_two min_two max_three min_three max_four min_four   -- for this text's walks alone
set_option linter.unusedVariables false
set_option linter.unusedSimpArgs false

/-! ### chars_Words: function 20 -/
def chars_Words.l0 : Nat → List ByteArray → List ByteArray → Int → Int → Option (List ByteArray)
 | 0, _, _, _, _ => none
 | k + 1, x3, x8, x9, x10 => if x10 < x9 then (if 0 ≤ x10 then (if x10 < (x8.length : Int) then (if (rdOf ByteArray.empty x8 x10).toList = ([] : List UInt8) then (chars_Words.l0 k x3 x8 x9 (wrap64 (x10 + 1))) else (if x3.length < 8796093022208 then (chars_Words.l0 k (x3 ++ [rdOf ByteArray.empty x8 x10]) x8 x9 (wrap64 (x10 + 1))) else (none))) else (none)) else (none)) else (some x3)
def chars_Words.f (k : Nat) (a0 : ByteArray) : Option (List ByteArray) := (chars_Flat.f a0).bind fun t101 => ((strings_Split.f t101 (⟨#[32]⟩ : ByteArray)).bind fun t102 => (chars_Words.l0 k ([] : List ByteArray) t102 (t102.length : Int) 0))
theorem chars_Words.mono_l : ∀ k, (∀ y0 y1 y2 y3, LeO (chars_Words.l0 k y0 y1 y2 y3) (chars_Words.l0 (k + 1) y0 y1 y2 y3))
 | 0 => fun _ _ _ _ r h => by simp [chars_Words.l0] at h
 | k + 1 => by
  have ih0 := chars_Words.mono_l k
  ·intro y0 y1 y2 y3
   unfold chars_Words.l0
   repeat' first
   | (with_reducible exact ih0 _ _ _ _)
   | (with_reducible exact LeO.refl _)
   | (with_reducible exact LeO.none _)
   | (with_reducible refine LeO.ite ?_ ?_)
   | (with_reducible refine LeO.bind ?_ (fun _ => ?_))
   | exact ih0 _ _ _ _
   | exact LeO.none _
   | refine LeO.ite ?_ ?_
   | refine LeO.bind ?_ (fun _ => ?_)
theorem chars_Words.mono : ∀ a0 k, LeO (chars_Words.f k a0) (chars_Words.f (k + 1) a0) := by
 intro a0 k
 have ih0 := chars_Words.mono_l k
 unfold chars_Words.f
 repeat' first
   | (with_reducible exact ih0 _ _ _ _)
   | (with_reducible exact LeO.refl _)
   | (with_reducible exact LeO.none _)
   | (with_reducible refine LeO.ite ?_ ?_)
   | (with_reducible refine LeO.bind ?_ (fun _ => ?_))
   | exact ih0 _ _ _ _
   | exact LeO.none _
   | refine LeO.ite ?_ ?_
   | refine LeO.bind ?_ (fun _ => ?_)
set_option maxHeartbeats 8000000 in
set_option maxRecDepth 100000 in
theorem chars_Words.calls (k : Nat) (a0 : ByteArray) (r : List ByteArray) (w : World) (hU : Uni w) (h : chars_Words.f k a0 = some r) :
  Calls Tryd.prog 20 #[.string a0] w fun e w' => ∃ v0_ : Value, e = .returned (v0_) ∧ Kd.R Kd.string 9 w' w.heap.size (fun _ => True) v0_ r ∧ Below w.heap.size w w' := by
 have HU := Aside0.mk hU
 clear hU
 have HB := Aside0.mk (Below.refl w.heap.size w)
 have H : ((chars_Flat.f a0).bind fun t101 => ((strings_Split.f t101 (⟨#[32]⟩ : ByteArray)).bind fun t102 => (chars_Words.l0 k ([] : List ByteArray) t102 (t102.length : Int) 0))) = some r := h
 clear h
 replace H := Option.bind_eq_some_iff.mp H
 obtain ⟨t101, A20, H⟩ := H
 replace H : ((strings_Split.f t101 (⟨#[32]⟩ : ByteArray)).bind fun t102 => (chars_Words.l0 k ([] : List ByteArray) t102 (t102.length : Int) 0)) = some r := H
 have A2 := Aside0.mk A20
 clear A20
 replace H := Option.bind_eq_some_iff.mp H
 obtain ⟨t102, A30, H⟩ := H
 replace H : (chars_Words.l0 k ([] : List ByteArray) t102 (t102.length : Int) 0) = some r := H
 have A3 := Aside0.mk A30
 clear A30
 have H' := Aside0.mk H
 clear H
 go_enter Tryd.func20, Tryd.ntmps20
 go_wp2_with (first | ((with_reducible refine gate_callee (f := 36) rfl ?_); refine goesA (some 7) Tryd.func36 #[.string a0] rfl ?_; (with_reducible refine (chars_Flat.calls a0 t101 _ A2.out).mono ?_); rintro e w4 ⟨rfl, hb⟩; refine ⟨_, rfl, ?_⟩; have n0_ := Bs HB hb; clear HB; revert n0_; intro HB; (try clear hb); (try clear hb2); (try clear hk); (try clear hi)) | ((with_reducible refine gate_callee (f := 35) rfl ?_); refine goesL_ (some 8) rfl rfl Tryd.func35 (by kernel_rfl) rfl #[.string t101, .string (⟨#[32]⟩ : ByteArray)] rfl (by (try simp only [List.map_toArray, List.map_cons, List.map_nil]); first | done | rfl | (simp only [List.length_drop, List.length_take]; rfl)) ?_; (with_reducible refine (strings_Split.calls t101 (⟨#[32]⟩ : ByteArray) t102 _ ?sideU A3.out).mono ?_); (case sideU => first | exact HU.out | exact Uni.up HU (Bu HB) | exact Uni.below HU.out (by assumption)); rintro e w5 ⟨v103, rfl, ho0, hb⟩; refine ⟨_, rfl, ?_⟩; have n0_ := Aside0.mk (Kd.R_lower ho0 (Bz HB)); have n1_ := Bs HB hb; clear HB; revert n0_ n1_; intro HO104 HB; (try clear hb); (try clear hb2); (try clear hk); (try clear hi); (try clear ho0); obtain ⟨Ao6, co6, eo6⟩ := Kd.R_slice HO104.out; subst eo6))
 go_loopg [3, 10] k (fun kq v3 v10 w' => ∃ (x3_1 : List ByteArray) (x10_1 : Int), v10 = .int .i64 x10_1 ∧ Aside0 (chars_Words.l0 kq x3_1 t102 (t102.length : Int) x10_1 = some r) ∧ Aside0 (kq ≤ k) ∧ Aside0 (Kd.R Kd.string 9 w' w.heap.size (fun k_ => some k_ ≠ ((.slice Ao6 t102.length co6) : Value).ownBlock) v3 x3_1) ∧ Aside0 (Kd.R Kd.string 9 w' w.heap.size (fun k_ => some k_ ≠ (v3 : Value).ownBlock) (.slice Ao6 t102.length co6) t102) ∧ Aside0 (Below w.heap.size w w'))
 case atStart => exact ⟨(([] : List ByteArray)), (0), (by first | rfl | (simp; done) | (simp [*]; done)), H', ⟨Nat.le_refl _⟩, ⟨by first | exact Kd.R_nil _ _ _ _ _ | exact Kd.N_nil _ _ _ _ _ | exact Kd.V_nil _ _ _ _ _ | exact Kd.Q_nil _ _ _ _ _ | exact Kd.S_nil _ _ _ _ _⟩, ⟨by (with_reducible repeat (first | apply Kd.R_alloc | apply Kd.R_drewN | apply Kd.R_drew)); exact Kd.R_mono HO104.out (fun _ hk => (by simp [Value.ownBlock]))⟩, ⟨Bu HB⟩⟩
 case round =>
  clear H'
  try clear c2
  try clear p2
  try clear c3
  obtain ⟨x3_1, x10_1, rfl, HA, HK1, HO_3, HO_8, HB⟩ := hrel
  cases gk with
  | zero => exact absurd HA.out (by simp [chars_Words.l0])
  | succ k1 =>
   have H := HA.out
   clear HA
   simp only [chars_Words.l0] at H
   by_cases c7 : x10_1 < (t102.length : Int)
   ·rw [if_pos c7] at H
    have c7b0 : decide (x10_1 < (t102.length : Int)) = true := decide_eq_true c7
    clear c7
    by_cases c8 : 0 ≤ x10_1
    ·rw [if_pos c8] at H
     have c8b0 : decide (0 ≤ x10_1) = true := decide_eq_true c8
     clear c8
     by_cases c9 : x10_1 < (t102.length : Int)
     ·rw [if_pos c9] at H
      have c9b0 : decide (x10_1 < (t102.length : Int)) = true := decide_eq_true c9
      clear c9
      by_cases c10 : (rdOf ByteArray.empty t102 x10_1).toList = ([] : List UInt8)
      ·rw [if_pos c10] at H
       have c10b0 : ((rdOf ByteArray.empty t102 x10_1).toList == ([] : List UInt8)) = true := beq_iff_eq.mpr c10
       have c10b1 : ((rdOf ByteArray.empty t102 x10_1).toList != ([] : List UInt8)) = false := bne_eq_false_iff_eq.mpr c10
       clear c10
       have H' := Aside0.mk H
       clear H
       have p105 : 0 ≤ (x10_1 : Int) := of_decide_eq_true (by first | (with_reducible assumption) | assumption)
       have q105 : x10_1 < (t102.length : Int) := of_decide_eq_true (by first | (with_reducible assumption) | assumption)
       obtain ⟨ad105, e105, hx105_0⟩ := Kd.at_string (Kd.R_reads' HO_8.out).2.2 x10_1 p105 q105
       cases e105
       replace p105 := eq_true p105
       replace q105 := eq_true q105
       go_wp2
       go_roundg k1
       case measure => have := HK1.out; omega
       case rel => exact ⟨(x3_1), (wrap64 (x10_1 + 1)), (by first | rfl | (simp; done) | (simp [*]; done)), H', ⟨by have := HK1.out; omega⟩, ⟨Ru HO_3⟩, ⟨Ru HO_8⟩, ⟨Bu HB⟩⟩
      ·rw [if_neg c10] at H
       have c10b0 : ((rdOf ByteArray.empty t102 x10_1).toList == ([] : List UInt8)) = false := beq_eq_false_iff_ne.mpr c10
       have c10b1 : ((rdOf ByteArray.empty t102 x10_1).toList != ([] : List UInt8)) = true := bne_iff_ne.mpr c10
       by_cases c11 : x3_1.length < 8796093022208
       ·rw [if_pos c11] at H
        have LMc11 := Aside0.mk c11
        clear c11
        obtain ⟨y106, hy106⟩ : ∃ y_ : List ByteArray, y_ = (x3_1 ++ [rdOf ByteArray.empty t102 x10_1]) := ⟨_, rfl⟩
        replace H : (chars_Words.l0 k1 y106 t102 (t102.length : Int) (wrap64 (x10_1 + 1))) = some r := by first | (rw [hy106]; with_reducible exact H) | (have H2_ := (Option.bind_some _ _).symm.trans H; rw [hy106]; with_reducible exact H2_) | (have H2_ := (Option.bind_some _ _).symm.trans H; with_reducible exact H2_) | with_reducible exact H | (rw [hy106]; exact H) | exact H
        have Ny106 := Aside0.mk hy106
        clear hy106
        have H' := Aside0.mk H
        clear H
        have p105 : 0 ≤ (x10_1 : Int) := of_decide_eq_true (by first | (with_reducible assumption) | assumption)
        have q105 : x10_1 < (t102.length : Int) := of_decide_eq_true (by first | (with_reducible assumption) | assumption)
        obtain ⟨ad105, e105, hx105_0⟩ := Kd.at_string (Kd.R_reads' HO_8.out).2.2 x10_1 p105 q105
        cases e105
        replace p105 := eq_true p105
        replace q105 := eq_true q105
        go_wp2_with (first | ((with_reducible refine gate_builtin (b := .append) (xs := #[.tmp 16, .tmp 18]) rfl ?_); at_builtin; refine Kd.R_append Kd.string (w0 := w) w.heap.size rfl (.tmp 16) (.tmp 18) 36 9 (.string ⟨#[]⟩) 16 rfl Tryd.underlying36 info9 rfl (by decide) (by omega) u3 x3_1 (rdOf ByteArray.empty t102 x10_1) [.string (rdOf ByteArray.empty t102 x10_1)] (fun k_ => some k_ ≠ (.slice (some ad105) t102.length co6 : Value).ownBlock) (fun _ => False) rfl rfl ?aP (fun _ hk => hk.elim) ?aF ?aO ?aB ?aS ?aL ?_; (case aP => exact rfl); (case aB => exact (Bu HB)); (case aF => exact (fun k_ hk => Kd.fresh' (Kd.R_lt (Ru HO_8)) k_ hk)); (case aO => exact (Ru HO_3)); (case aS => exact (Bz HB)); (case aL => have := LMc11.out; omega); intro v107 w12 ho hb hg hat; rw [← Ny106.out] at ho; have n0_ := Aside0.mk (Kd.R_after (ok := (fun _ => True)) (by (with_reducible repeat (first | apply Kd.R_alloc | apply Kd.R_drewN | apply Kd.R_drew)); exact Kd.R_mono HO_8.out (fun _ hk => ⟨trivial, hk⟩)) hg hat); have n1_ := Aside0.mk (hb); have n2_ := Aside0.mk (ho); clear HO_8 HB HO_3; revert n0_ n1_ n2_; intro HO_8 HB HO108; clear ho hb hg hat))
        go_roundg k1
        case measure => have := HK1.out; omega
        case rel => exact ⟨(y106), (wrap64 (x10_1 + 1)), (by first | rfl | (simp; done) | (simp [*]; done)), H', ⟨by have := HK1.out; omega⟩, ⟨Ru HO108⟩, ⟨by (with_reducible repeat (first | apply Kd.R_alloc | apply Kd.R_drewN | apply Kd.R_drew)); exact Kd.R_mono HO_8.out (fun _ hk => hk.2)⟩, ⟨Bu HB⟩⟩
       ·rw [if_neg c11] at H
        exact absurd H (by simp)
     ·rw [if_neg c9] at H
      exact absurd H (by simp)
    ·rw [if_neg c8] at H
     exact absurd H (by simp)
   ·rw [if_neg c7] at H
    have c7b0 : decide (x10_1 < (t102.length : Int)) = false := decide_eq_false c7
    clear c7
    obtain rfl := Option.some.inj H
    go_wp2
    go_ret
    exact ⟨_, rfl_, by (with_reducible repeat (first | apply Kd.R_alloc | apply Kd.R_drewN | apply Kd.R_drew)); exact Kd.R_mono HO_3.out (fun _ hk => trivial), Bu HB⟩

/-! ### strings_IndexByte: function 23 -/
def strings_IndexByte.f (a0 : ByteArray) (a1 : Int) : Option Int := some (Lib.indexByte a0.data.toList a1.toNat.toUInt8)
theorem strings_IndexByte.calls (a0 : ByteArray) (a1 : Int) (r : Int) (w : World) (h : strings_IndexByte.f a0 a1 = some r) :
    Calls Tryd.prog 23 #[.string a0, .int .u8 a1] w fun e w' => e = .returned (.int .i64 r) ∧ Drawn0 w w' := by
  obtain rfl := Option.some.inj h
  refine (Tryd.strings_IndexByte a0 a1 w).mono ?_
  rintro e w' ⟨rfl, rfl⟩
  exact ⟨rfl, Drawn0.refl _⟩

/-! ### base_foreign: function 22 -/
def base_foreign.f (a0 : Int) : Option (Int) := if a0 < 128 then (if a0 = 61 then (some (-1)) else ((strings_IndexByte.f (⟨#[65, 66, 67, 68, 69, 70, 71, 72, 73, 74, 75, 76, 77, 78, 79, 80, 81, 82, 83, 84, 85, 86, 87, 88, 89, 90, 97, 98, 99, 100, 101, 102, 103, 104, 105, 106, 107, 108, 109, 110, 111, 112, 113, 114, 115, 116, 117, 118, 119, 120, 121, 122, 48, 49, 50, 51, 52, 53, 54, 55, 56, 57, 43, 47]⟩ : ByteArray) ((a0) % 256)).bind fun t109 => (if t109 ≥ 0 then (some (-1)) else (some a0)))) else (some a0)
set_option maxHeartbeats 8000000 in
set_option maxRecDepth 100000 in
theorem base_foreign.calls (a0 : Int) (r : Int) (w : World) (h : base_foreign.f a0 = some r) :
  Calls Tryd.prog 22 #[.int .i32 a0] w fun e w' => e = .returned (.int .i32 r) ∧ Drawn0 w w' := by
 have H : (if a0 < 128 then (if a0 = 61 then (some (-1)) else ((strings_IndexByte.f (⟨#[65, 66, 67, 68, 69, 70, 71, 72, 73, 74, 75, 76, 77, 78, 79, 80, 81, 82, 83, 84, 85, 86, 87, 88, 89, 90, 97, 98, 99, 100, 101, 102, 103, 104, 105, 106, 107, 108, 109, 110, 111, 112, 113, 114, 115, 116, 117, 118, 119, 120, 121, 122, 48, 49, 50, 51, 52, 53, 54, 55, 56, 57, 43, 47]⟩ : ByteArray) ((a0) % 256)).bind fun t109 => (if t109 ≥ 0 then (some (-1)) else (some a0)))) else (some a0)) = some r := h
 clear h
 refine (Classical.em (a0 < 128)).elim (fun c2 => ?a4_) (fun c2 => ?b4_)
 case' a4_ =>
  rw [if_pos c2] at H
  have c2b0 : decide (a0 < 128) = true := decide_eq_true c2
  clear c2
  refine (Classical.em (a0 = 61)).elim (fun c3 => ?a5_) (fun c3 => ?b5_)
  case' a5_ =>
   rw [if_pos c3] at H
   have c3b0 : (a0 == 61) = true := beq_iff_eq.mpr c3
   have c3b1 : (a0 != 61) = false := bne_eq_false_iff_eq.mpr c3
   clear c3
   obtain rfl := Option.some.inj H
   go_enter Tryd.func22, Tryd.ntmps22
   go_wp2
   go_ret
   exact ⟨by first | rfl | (simp; done) | (simp [*]; done), by repeat (first | exact Drawn0.refl _ | apply Drawn0.step)⟩
  case' b5_ =>
   rw [if_neg c3] at H
   have c3b0 : (a0 == 61) = false := beq_eq_false_iff_ne.mpr c3
   have c3b1 : (a0 != 61) = true := bne_iff_ne.mpr c3
   replace H := Option.bind_eq_some_iff.mp H
   obtain ⟨t109, A40, H⟩ := H
   replace H : (if t109 ≥ 0 then (some (-1)) else (some a0)) = some r := H
   have A4 := Aside0.mk A40
   clear A40
   refine (Classical.em (t109 ≥ 0)).elim (fun c5 => ?a6_) (fun c5 => ?b6_)
   case' a6_ =>
    rw [if_pos c5] at H
    have c5b0 : decide (0 ≤ t109) = true := decide_eq_true c5
    clear c5
    obtain rfl := Option.some.inj H
   case' b6_ =>
    rw [if_neg c5] at H
    have c5b0 : decide (0 ≤ t109) = false := decide_eq_false c5
    clear c5
    obtain rfl := Option.some.inj H
 case' b4_ =>
  rw [if_neg c2] at H
  have c2b0 : decide (a0 < 128) = false := decide_eq_false c2
  clear c2
  obtain rfl := Option.some.inj H
  go_enter Tryd.func22, Tryd.ntmps22
  go_wp2
  go_ret
  exact ⟨by first | rfl | (simp; done) | (simp [*]; done), by repeat (first | exact Drawn0.refl _ | apply Drawn0.step)⟩

 case a6_ | b6_ =>
  go_enter Tryd.func22, Tryd.ntmps22
  go_wp2_with (first | (go_at_call 23; (with_reducible refine (strings_IndexByte.calls (⟨#[65, 66, 67, 68, 69, 70, 71, 72, 73, 74, 75, 76, 77, 78, 79, 80, 81, 82, 83, 84, 85, 86, 87, 88, 89, 90, 97, 98, 99, 100, 101, 102, 103, 104, 105, 106, 107, 108, 109, 110, 111, 112, 113, 114, 115, 116, 117, 118, 119, 120, 121, 122, 48, 49, 50, 51, 52, 53, 54, 55, 56, 57, 43, 47]⟩ : ByteArray) ((a0) % 256) t109 _ A4.out).mono ?_); rintro e w' ⟨rfl, ⟨nd, rfl⟩⟩))
  go_ret
  exact ⟨by first | rfl | (simp; done) | (simp [*]; done), by repeat (first | exact Drawn0.refl _ | apply Drawn0.step)⟩
/-! ### strings_Map: function 21 -/
/-- What base.foreign hands out, as a plain function: -1 at a sign. -/
def fgn (x : Int) : Int := (base_foreign.f x).getD x
theorem fgn_ascii : ∀ n : Fin 128, ∃ y, base_foreign.f (n.val : Int) = some y ∧ -2147483648 ≤ y ∧ y ≤ 2147483647 := by
  have h : ∀ n : Fin 128, ((base_foreign.f (n.val : Int)).map fun y => decide (-2147483648 ≤ y) && decide (y ≤ 2147483647)) = some true := by decide +kernel
  intro n
  obtain ⟨y, h1, h2⟩ := Option.map_eq_some_iff.1 (h n)
  exact ⟨y, h1, by simpa using h2⟩
theorem fgn_is (x : Nat) (hx : x ≤ 1114111) : base_foreign.f (x : Int) = some (fgn x) ∧ -2147483648 ≤ fgn x ∧ fgn x ≤ 2147483647 := by
  unfold fgn
  by_cases h : x < 128
  · obtain ⟨y, h1, h2⟩ := fgn_ascii ⟨x, h⟩
    rw [show ((⟨x, h⟩ : Fin 128).val : Int) = x from rfl] at h1
    rw [h1]; exact ⟨rfl, h2⟩
  · have : base_foreign.f (x : Int) = some (x : Int) := by unfold base_foreign.f; rw [if_neg (by omega)]
    rw [this]; exact ⟨rfl, by show -2147483648 ≤ (x : Int); omega, by show (x : Int) ≤ 2147483647; omega⟩
def strings_Map.f (s : ByteArray) : Option ByteArray := if s.size < 35184372088832 then some ⟨(Lib.mapD fgn s.data.toList).toArray⟩ else none
theorem strings_Map.calls (s r : ByteArray) (w : World) (hU : Uni w) (h : strings_Map.f s = some r) :
    Calls Tryd.prog 21 #[.func (.func 22) #[] #[], .string s] w fun e w' => e = .returned (.string r) ∧ Below w.heap.size w w' := by
  unfold strings_Map.f at h
  split at h
  · rename_i hs
    obtain rfl := Option.some.inj h
    refine Tryd.strings_Map_grows 22 #[] (enters_of Tryd.func22 (by kernel_rfl) rfl) fgn s w hs ?_ (fun x hx => (fgn_is x hx).2) hU.tabs
    intro W x hx _
    refine (base_foreign.calls _ _ W (fgn_is x hx).1).mono ?_
    rintro e w' ⟨rfl, n, rfl⟩
    exact ⟨rfl, pw_below_drewN (Below.refl _ _) n⟩
  · exact absurd h (by simp)

/-! ### base_Decode: function 9 -/
def base_Decode.l0 : Nat → ByteArray → List Int → Int → Int → Int → Int → Option (List Int × Int)
 | 0, _, _, _, _, _, _ => none
 | k + 1, x0, x4, x5, x6, x15, x16 => if x16 < x15 then (if 0 ≤ x16 then (if x16 < (x0.size : Int) then (if (bt x0 x16) = 61 then ((base_Encode.f x4).bind fun t116 => (if t116.toList = x0.toList then (some (x4, 0)) else (some (([] : List Int), 10)))) else ((strings_IndexByte.f (⟨#[65, 66, 67, 68, 69, 70, 71, 72, 73, 74, 75, 76, 77, 78, 79, 80, 81, 82, 83, 84, 85, 86, 87, 88, 89, 90, 97, 98, 99, 100, 101, 102, 103, 104, 105, 106, 107, 108, 109, 110, 111, 112, 113, 114, 115, 116, 117, 118, 119, 120, 121, 122, 48, 49, 50, 51, 52, 53, 54, 55, 56, 57, 43, 47]⟩ : ByteArray) (bt x0 x16)).bind fun t117 => (if (wrap64 (x6 + 6)) ≥ 8 then (if 0 ≤ (wrap64 ((wrap64 (x6 + 6)) - 8)) then (if x4.length < 140737488355328 then (base_Decode.l0 k x0 (x4 ++ [(shr .i64 (Go.bits .or .i64 (Go.bits .and .i64 (wrap64 (x5 * 64)) 4095) t117) (wrap64 ((wrap64 (x6 + 6)) - 8))) % 256]) (Go.bits .or .i64 (Go.bits .and .i64 (wrap64 (x5 * 64)) 4095) t117) (wrap64 ((wrap64 (x6 + 6)) - 8)) x15 (wrap64 (x16 + 1))) else (none)) else (none)) else (base_Decode.l0 k x0 x4 (Go.bits .or .i64 (Go.bits .and .i64 (wrap64 (x5 * 64)) 4095) t117) (wrap64 (x6 + 6)) x15 (wrap64 (x16 + 1)))))) else (none)) else (none)) else ((base_Encode.f x4).bind fun t115 => (if t115.toList = x0.toList then (some (x4, 0)) else (some (([] : List Int), 10))))
def base_Decode.f (k : Nat) (a0 : ByteArray) : Option (List Int × Int) := (chars_Words.f k a0).bind fun t110 => ((strings_Join.f t110 (⟨#[]⟩ : ByteArray)).bind fun t113 => ((strings_Map.f t113).bind fun t114 => (if t114.toList = ([] : List UInt8) then (base_Decode.l0 k t113 ([] : List Int) 0 0 (t113.size : Int) 0) else (some (([] : List Int), 13)))))
theorem base_Decode.mono_l : ∀ k, (∀ y0 y1 y2 y3 y4 y5, LeO (base_Decode.l0 k y0 y1 y2 y3 y4 y5) (base_Decode.l0 (k + 1) y0 y1 y2 y3 y4 y5))
 | 0 => fun _ _ _ _ _ _ r h => by simp [base_Decode.l0] at h
 | k + 1 => by
  have ih0 := base_Decode.mono_l k
  ·intro y0 y1 y2 y3 y4 y5
   unfold base_Decode.l0
   repeat' first
   | (with_reducible exact ih0 _ _ _ _ _ _)
   | (with_reducible exact chars_Words.mono _ _)
   | (with_reducible exact LeO.refl _)
   | (with_reducible exact LeO.none _)
   | (with_reducible refine LeO.ite ?_ ?_)
   | (with_reducible refine LeO.bind ?_ (fun _ => ?_))
   | exact ih0 _ _ _ _ _ _
   | exact chars_Words.mono _ _
   | exact LeO.none _
   | refine LeO.ite ?_ ?_
   | refine LeO.bind ?_ (fun _ => ?_)
theorem base_Decode.mono : ∀ a0 k, LeO (base_Decode.f k a0) (base_Decode.f (k + 1) a0) := by
 intro a0 k
 have ih0 := base_Decode.mono_l k
 unfold base_Decode.f
 repeat' first
   | (with_reducible exact ih0 _ _ _ _ _ _)
   | (with_reducible exact chars_Words.mono _ _)
   | (with_reducible exact LeO.refl _)
   | (with_reducible exact LeO.none _)
   | (with_reducible refine LeO.ite ?_ ?_)
   | (with_reducible refine LeO.bind ?_ (fun _ => ?_))
   | exact ih0 _ _ _ _ _ _
   | exact chars_Words.mono _ _
   | exact LeO.none _
   | refine LeO.ite ?_ ?_
   | refine LeO.bind ?_ (fun _ => ?_)
set_option maxHeartbeats 8000000 in
set_option maxRecDepth 100000 in
theorem base_Decode.calls (k : Nat) (a0 : ByteArray) (r1 : List Int) (r2 : Int) (w : World) (hU : Uni w) (h : base_Decode.f k a0 = some (r1, r2)) :
  Calls Tryd.prog 9 #[.string a0] w fun e w' => ∃ v0_ : Value, e = .returned (.tuple #[v0_, .int .i64 r2]) ∧ Kd.R (Kd.int .u8) 5 w' w.heap.size (fun _ => True) v0_ r1 ∧ Below w.heap.size w w' := by
 have HU := Aside0.mk hU
 clear hU
 have HB := Aside0.mk (Below.refl w.heap.size w)
 have H : ((chars_Words.f k a0).bind fun t110 => ((strings_Join.f t110 (⟨#[]⟩ : ByteArray)).bind fun t113 => ((strings_Map.f t113).bind fun t114 => (if t114.toList = ([] : List UInt8) then (base_Decode.l0 k t113 ([] : List Int) 0 0 (t113.size : Int) 0) else (some (([] : List Int), 13)))))) = some (r1, r2) := h
 clear h
 replace H := Option.bind_eq_some_iff.mp H
 obtain ⟨t110, A20, H⟩ := H
 replace H : ((strings_Join.f t110 (⟨#[]⟩ : ByteArray)).bind fun t113 => ((strings_Map.f t113).bind fun t114 => (if t114.toList = ([] : List UInt8) then (base_Decode.l0 k t113 ([] : List Int) 0 0 (t113.size : Int) 0) else (some (([] : List Int), 13))))) = some (r1, r2) := H
 have A2 := Aside0.mk A20
 clear A20
 replace H := Option.bind_eq_some_iff.mp H
 obtain ⟨t113, A30, H⟩ := H
 replace H : ((strings_Map.f t113).bind fun t114 => (if t114.toList = ([] : List UInt8) then (base_Decode.l0 k t113 ([] : List Int) 0 0 (t113.size : Int) 0) else (some (([] : List Int), 13)))) = some (r1, r2) := H
 have A3 := Aside0.mk A30
 clear A30
 replace H := Option.bind_eq_some_iff.mp H
 obtain ⟨t114, A40, H⟩ := H
 replace H : (if t114.toList = ([] : List UInt8) then (base_Decode.l0 k t113 ([] : List Int) 0 0 (t113.size : Int) 0) else (some (([] : List Int), 13))) = some (r1, r2) := H
 have A4 := Aside0.mk A40
 clear A40
 by_cases c5 : t114.toList = ([] : List UInt8)
 ·rw [if_pos c5] at H
  have c5b0 : (t114.toList == ([] : List UInt8)) = true := beq_iff_eq.mpr c5
  have c5b1 : (t114.toList != ([] : List UInt8)) = false := bne_eq_false_iff_eq.mpr c5
  clear c5
  have H' := Aside0.mk H
  clear H
  go_enter Tryd.func9, Tryd.ntmps9
  go_wp2_with (first | ((with_reducible refine gate_callee (f := 20) rfl ?_); refine goesA (some 9) Tryd.func20 #[.string a0] rfl ?_; (with_reducible refine (chars_Words.calls k a0 t110 _ ?sideU A2.out).mono ?_); (case sideU => first | exact HU.out | exact Uni.up HU (Bu HB) | exact Uni.below HU.out (by assumption)); rintro e w6 ⟨v111, rfl, ho0, hb⟩; refine ⟨_, rfl, ?_⟩; have n0_ := Aside0.mk (Kd.R_lower ho0 (Bz HB)); have n1_ := Bs HB hb; clear HB; revert n0_ n1_; intro HO112 HB; (try clear hb); (try clear hb2); (try clear hk); (try clear hi); (try clear ho0); obtain ⟨Ao7, co7, eo7⟩ := Kd.R_slice HO112.out; subst eo7) | ((with_reducible refine gate_callee (f := 19) rfl ?_); refine goesL_ (some 10) rfl rfl Tryd.func19 (by kernel_rfl) rfl #[.slice Ao7 t110.length co7, .string (⟨#[]⟩ : ByteArray)] rfl (by (try simp only [List.map_toArray, List.map_cons, List.map_nil]); first | done | rfl | (simp only [List.length_drop, List.length_take]; rfl)) ?_; (with_reducible refine (strings_Join.calls _ _ t110 (⟨#[]⟩ : ByteArray) t113 _ ?side1 ?side2 A3.out).mono ?_); (case side1 => exact Cu (Kd.R_reads' HO112.out).2.2); (case side2 => exact (Kd.R_reads' HO112.out).2.1); rintro e w8 ⟨rfl, hb⟩; refine ⟨_, rfl, ?_⟩; have n0_ := Rb HO112 hb; have n1_ := Bs HB hb; clear HO112 HB; revert n0_ n1_; intro HO112 HB; (try clear hb); (try clear hb2); (try clear hk); (try clear hi)) | ((with_reducible refine gate_callee (f := 21) rfl ?_); refine goesL_ (some 12) rfl rfl Tryd.func21 (by kernel_rfl) rfl #[.func (.func 22) #[] #[], .string t113] rfl (by (try simp only [List.map_toArray, List.map_cons, List.map_nil]); first | done | rfl | (simp only [List.length_drop, List.length_take]; rfl)) ?_; (with_reducible refine (strings_Map.calls t113 t114 _ ?sideU A4.out).mono ?_); (case sideU => first | exact HU.out | exact Uni.up HU (Bu HB) | exact Uni.below HU.out (by assumption)); rintro e w9 ⟨rfl, hb⟩; refine ⟨_, rfl, ?_⟩; have n0_ := Rb HO112 hb; have n1_ := Bs HB hb; clear HO112 HB; revert n0_ n1_; intro HO112 HB; (try clear hb); (try clear hb2); (try clear hk); (try clear hi)))
  go_loopg [4, 5, 6, 16] k (fun kq v4 v5 v6 v16 w' => ∃ (x4_1 : List Int) (x5_1 : Int) (x6_1 : Int) (x16_1 : Int), v5 = .int .i64 x5_1 ∧ v6 = .int .i64 x6_1 ∧ v16 = .int .i64 x16_1 ∧ Aside0 (base_Decode.l0 kq t113 x4_1 x5_1 x6_1 (t113.size : Int) x16_1 = some (r1, r2)) ∧ Aside0 (kq ≤ k) ∧ Aside0 (Kd.R (Kd.int .u8) 5 w' w.heap.size (fun _ => True) v4 x4_1) ∧ Aside0 (Below w.heap.size w w'))
  case atStart => exact ⟨(([] : List Int)), (0), (0), (0), (by first | rfl | (simp; done) | (simp [*]; done)), (by first | rfl | (simp; done) | (simp [*]; done)), (by first | rfl | (simp; done) | (simp [*]; done)), H', ⟨Nat.le_refl _⟩, ⟨by first | exact Kd.R_nil _ _ _ _ _ | exact Kd.N_nil _ _ _ _ _ | exact Kd.V_nil _ _ _ _ _ | exact Kd.Q_nil _ _ _ _ _ | exact Kd.S_nil _ _ _ _ _⟩, ⟨Bu HB⟩⟩
  case round =>
   clear H'
   try clear c1
   try clear c2
   try clear p2
   try clear c5
   try clear c5b0
   try clear c5b1
   try clear c9
   obtain ⟨x4_1, x5_1, x6_1, x16_1, rfl, rfl, rfl, HA, HK1, HO_4, HB⟩ := hrel
   cases gk with
   | zero => exact absurd HA.out (by simp [base_Decode.l0])
   | succ k1 =>
    have H := HA.out
    clear HA
    simp only [base_Decode.l0] at H
    by_cases c10 : x16_1 < (t113.size : Int)
    ·rw [if_pos c10] at H
     have c10b0 : decide (x16_1 < (t113.size : Int)) = true := decide_eq_true c10
     clear c10
     by_cases c11 : 0 ≤ x16_1
     ·rw [if_pos c11] at H
      have c11b0 : decide (0 ≤ x16_1) = true := decide_eq_true c11
      clear c11
      by_cases c12 : x16_1 < (t113.size : Int)
      ·rw [if_pos c12] at H
       have c12b0 : decide (x16_1 < (t113.size : Int)) = true := decide_eq_true c12
       clear c12
       by_cases c14 : (bt t113 x16_1) = 61
       ·rw [if_pos c14] at H
        have c14b0 : ((bt t113 x16_1) == 61) = true := beq_iff_eq.mpr c14
        have c14b1 : ((bt t113 x16_1) != 61) = false := bne_eq_false_iff_eq.mpr c14
        clear c14
        replace H := Option.bind_eq_some_iff.mp H
        obtain ⟨t116, A150, H⟩ := H
        replace H : (if t116.toList = t113.toList then (some (x4_1, 0)) else (some (([] : List Int), 10))) = some (r1, r2) := H
        have A15 := Aside0.mk A150
        clear A150
        by_cases c16 : t116.toList = t113.toList
        ·rw [if_pos c16] at H
         have c16b0 : (t116.toList == t113.toList) = true := beq_iff_eq.mpr c16
         have c16b1 : (t116.toList != t113.toList) = false := bne_eq_false_iff_eq.mpr c16
         clear c16
         simp only [Option.some.injEq, Prod.mk.injEq] at H
         obtain ⟨rfl, rfl⟩ := H
         have p13 : 0 ≤ (x16_1 : Int) := of_decide_eq_true (by first | (with_reducible assumption) | assumption)
         have q13 : x16_1 < (t113.size : Int) := of_decide_eq_true (by first | (with_reducible assumption) | assumption)
         have hx13 := bt_at t113 x16_1
         replace p13 := eq_true p13
         replace q13 := eq_true q13
         obtain ⟨Ao17, co17, eo17⟩ := Kd.R_slice HO_4.out
         subst eo17
         go_wp2_with (first | ((with_reducible refine gate_callee (f := 11) rfl ?_); refine goesA (some 46) Tryd.func11 #[.slice Ao17 x4_1.length co17] rfl ?_; (with_reducible refine (base_Encode.calls _ _ x4_1 t116 _ ?side1 ?side2 A15.out).mono ?_); (case side1 => exact Cu (Kd.R_reads' HO_4.out).2.2); (case side2 => exact (Kd.R_reads' HO_4.out).2.1); rintro e w18 ⟨rfl, hb⟩; refine ⟨_, rfl, ?_⟩; have n0_ := Rb HO_4 hb; have n1_ := Bs HB hb; clear HO_4 HB; revert n0_ n1_; intro HO_4 HB; (try clear hb); (try clear hb2); (try clear hk); (try clear hi)))
         go_ret2
         exact ⟨_, rfl_, Ru HO_4, Bu HB⟩
        ·rw [if_neg c16] at H
         have c16b0 : (t116.toList == t113.toList) = false := beq_eq_false_iff_ne.mpr c16
         have c16b1 : (t116.toList != t113.toList) = true := bne_iff_ne.mpr c16
         simp only [Option.some.injEq, Prod.mk.injEq] at H
         obtain ⟨rfl, rfl⟩ := H
         have p13 : 0 ≤ (x16_1 : Int) := of_decide_eq_true (by first | (with_reducible assumption) | assumption)
         have q13 : x16_1 < (t113.size : Int) := of_decide_eq_true (by first | (with_reducible assumption) | assumption)
         have hx13 := bt_at t113 x16_1
         replace p13 := eq_true p13
         replace q13 := eq_true q13
         obtain ⟨Ao19, co19, eo19⟩ := Kd.R_slice HO_4.out
         subst eo19
         go_wp2_with (first | ((with_reducible refine gate_callee (f := 11) rfl ?_); refine goesA (some 46) Tryd.func11 #[.slice Ao19 x4_1.length co19] rfl ?_; (with_reducible refine (base_Encode.calls _ _ x4_1 t116 _ ?side1 ?side2 A15.out).mono ?_); (case side1 => exact Cu (Kd.R_reads' HO_4.out).2.2); (case side2 => exact (Kd.R_reads' HO_4.out).2.1); rintro e w20 ⟨rfl, hb⟩; refine ⟨_, rfl, ?_⟩; have n0_ := Rb HO_4 hb; have n1_ := Bs HB hb; clear HO_4 HB; revert n0_ n1_; intro HO_4 HB; (try clear hb); (try clear hb2); (try clear hk); (try clear hi)))
         go_ret2
         exact ⟨_, rfl_, by first | exact Kd.R_nil _ _ _ _ _ | exact Kd.N_nil _ _ _ _ _ | exact Kd.V_nil _ _ _ _ _ | exact Kd.Q_nil _ _ _ _ _ | exact Kd.S_nil _ _ _ _ _, Bu HB⟩
       ·rw [if_neg c14] at H
        have c14b0 : ((bt t113 x16_1) == 61) = false := beq_eq_false_iff_ne.mpr c14
        have c14b1 : ((bt t113 x16_1) != 61) = true := bne_iff_ne.mpr c14
        replace H := Option.bind_eq_some_iff.mp H
        obtain ⟨t117, A220, H⟩ := H
        replace H : (if (wrap64 (x6_1 + 6)) ≥ 8 then (if 0 ≤ (wrap64 ((wrap64 (x6_1 + 6)) - 8)) then (if x4_1.length < 140737488355328 then (base_Decode.l0 k1 t113 (x4_1 ++ [(shr .i64 (Go.bits .or .i64 (Go.bits .and .i64 (wrap64 (x5_1 * 64)) 4095) t117) (wrap64 ((wrap64 (x6_1 + 6)) - 8))) % 256]) (Go.bits .or .i64 (Go.bits .and .i64 (wrap64 (x5_1 * 64)) 4095) t117) (wrap64 ((wrap64 (x6_1 + 6)) - 8)) (t113.size : Int) (wrap64 (x16_1 + 1))) else (none)) else (none)) else (base_Decode.l0 k1 t113 x4_1 (Go.bits .or .i64 (Go.bits .and .i64 (wrap64 (x5_1 * 64)) 4095) t117) (wrap64 (x6_1 + 6)) (t113.size : Int) (wrap64 (x16_1 + 1)))) = some (r1, r2) := H
        have A22 := Aside0.mk A220
        clear A220
        by_cases c23 : (wrap64 (x6_1 + 6)) ≥ 8
        ·rw [if_pos c23] at H
         have c23b0 : decide (8 ≤ (wrap64 (x6_1 + 6))) = true := decide_eq_true c23
         clear c23
         obtain ⟨ji24, hji24⟩ : ∃ j_ : Int, (wrap64 ((wrap64 (x6_1 + 6)) - 8)) = j_ := ⟨_, rfl⟩
         replace H : (if 0 ≤ (ji24) then (if x4_1.length < 140737488355328 then (base_Decode.l0 k1 t113 (x4_1 ++ [(shr .i64 (Go.bits .or .i64 (Go.bits .and .i64 (wrap64 (x5_1 * 64)) 4095) t117) (ji24)) % 256]) (Go.bits .or .i64 (Go.bits .and .i64 (wrap64 (x5_1 * 64)) 4095) t117) ji24 (t113.size : Int) (wrap64 (x16_1 + 1))) else (none)) else (none)) = some (r1, r2) := by first | (rw [hji24] at H; exact H) | (simp only [hji24] at H ⊢; exact H)
         (try rw [hji24] at A22)
         have hji24w : (IntKind.i64.wrap ((wrap64 (x6_1 + 6)) - 8)) = ji24 := (i64_w _).trans hji24
         by_cases c25 : 0 ≤ (ji24)
         ·rw [if_pos c25] at H
          have c25b0 := eq_true c25
          have c25b1 : decide (0 ≤ (ji24)) = true := decide_eq_true c25
          clear c25
          obtain ⟨ji26, hji26⟩ : ∃ j_ : Int, (shr .i64 (Go.bits .or .i64 (Go.bits .and .i64 (wrap64 (x5_1 * 64)) 4095) t117) (ji24)) = j_ := ⟨_, rfl⟩
          replace H : (if x4_1.length < 140737488355328 then (base_Decode.l0 k1 t113 (x4_1 ++ [(ji26) % 256]) (Go.bits .or .i64 (Go.bits .and .i64 (wrap64 (x5_1 * 64)) 4095) t117) ji24 (t113.size : Int) (wrap64 (x16_1 + 1))) else (none)) = some (r1, r2) := by first | (rw [hji26] at H; exact H) | (simp only [hji26] at H ⊢; exact H)
          (try rw [hji26] at A22)
          have hji26_ : ((Go.bits .or .i64 (Go.bits .and .i64 (wrap64 (x5_1 * 64)) 4095) t117) / 2 ^ min (ji24).toNat 64) = ji26 := hji26
          have hji26z : (ji24) ≤ 64 → ((Go.bits .or .i64 (Go.bits .and .i64 (wrap64 (x5_1 * 64)) 4095) t117) / 2 ^ (ji24).toNat) = ji26 := shr_small hji26
          by_cases c27 : x4_1.length < 140737488355328
          ·rw [if_pos c27] at H
           have LMc27 := Aside0.mk c27
           clear c27
           obtain ⟨y118, hy118⟩ : ∃ y_ : List Int, y_ = (x4_1 ++ [(ji26) % 256]) := ⟨_, rfl⟩
           replace H : (base_Decode.l0 k1 t113 y118 (Go.bits .or .i64 (Go.bits .and .i64 (wrap64 (x5_1 * 64)) 4095) t117) ji24 (t113.size : Int) (wrap64 (x16_1 + 1))) = some (r1, r2) := by first | (rw [hy118]; with_reducible exact H) | (have H2_ := (Option.bind_some _ _).symm.trans H; rw [hy118]; with_reducible exact H2_) | (have H2_ := (Option.bind_some _ _).symm.trans H; with_reducible exact H2_) | with_reducible exact H | (rw [hy118]; exact H) | exact H
           have Ny118 := Aside0.mk hy118
           clear hy118
           have H' := Aside0.mk H
           clear H
           have p13 : 0 ≤ (x16_1 : Int) := of_decide_eq_true (by first | (with_reducible assumption) | assumption)
           have q13 : x16_1 < (t113.size : Int) := of_decide_eq_true (by first | (with_reducible assumption) | assumption)
           have hx13 := bt_at t113 x16_1
           replace p13 := eq_true p13
           replace q13 := eq_true q13
           have p21 : 0 ≤ (x16_1 : Int) := of_decide_eq_true (by first | (with_reducible assumption) | assumption)
           have q21 : x16_1 < (t113.size : Int) := of_decide_eq_true (by first | (with_reducible assumption) | assumption)
           have hx21 := bt_at t113 x16_1
           replace p21 := eq_true p21
           replace q21 := eq_true q21
           go_wp2_with (first | ((with_reducible refine gate_callee (f := 23) rfl ?_); refine goesL_ (some 29) rfl rfl Tryd.func23 (by kernel_rfl) rfl #[.string (⟨#[65, 66, 67, 68, 69, 70, 71, 72, 73, 74, 75, 76, 77, 78, 79, 80, 81, 82, 83, 84, 85, 86, 87, 88, 89, 90, 97, 98, 99, 100, 101, 102, 103, 104, 105, 106, 107, 108, 109, 110, 111, 112, 113, 114, 115, 116, 117, 118, 119, 120, 121, 122, 48, 49, 50, 51, 52, 53, 54, 55, 56, 57, 43, 47]⟩ : ByteArray), .int .u8 (bt t113 x16_1)] rfl (by (try simp only [List.map_toArray, List.map_cons, List.map_nil]); first | done | rfl | (simp only [List.length_drop, List.length_take]; rfl)) ?_; (with_reducible refine (strings_IndexByte.calls (⟨#[65, 66, 67, 68, 69, 70, 71, 72, 73, 74, 75, 76, 77, 78, 79, 80, 81, 82, 83, 84, 85, 86, 87, 88, 89, 90, 97, 98, 99, 100, 101, 102, 103, 104, 105, 106, 107, 108, 109, 110, 111, 112, 113, 114, 115, 116, 117, 118, 119, 120, 121, 122, 48, 49, 50, 51, 52, 53, 54, 55, 56, 57, 43, 47]⟩ : ByteArray) (bt t113 x16_1) t117 _ A22.out).mono ?_); rintro e w' ⟨rfl, ⟨nd, rfl⟩⟩; refine ⟨_, rfl, ?_⟩) | ((with_reducible refine gate_builtin (b := .append) (xs := #[.tmp 37, .tmp 42]) rfl ?_); at_builtin; refine Kd.R_append (Kd.int .u8) (w0 := w) w.heap.size rfl (.tmp 37) (.tmp 42) 23 5 (.int .u8 0) 1 rfl Tryd.underlying23 info5 rfl (by decide) (by omega) u4 x4_1 ((ji26) % 256) [.int .u8 ((ji26) % 256)] (fun _ => True) (fun _ => False) rfl rfl ?aP (fun _ hk => hk.elim) ?aF ?aO ?aB ?aS ?aL ?_; (case aP => exact rfl); (case aB => exact (Bu HB)); (case aF => exact (fun _ _ => trivial)); (case aO => exact (Ru HO_4)); (case aS => exact (Bz HB)); (case aL => have := LMc27.out; omega); intro v119 w28 ho hb hg hat; rw [← Ny118.out] at ho; have n0_ := Aside0.mk (hb); have n1_ := Aside0.mk (ho); clear HB HO_4; revert n0_ n1_; intro HB HO120; clear ho hb hg hat))
           go_roundg k1
           case measure => have := HK1.out; omega
           case rel => exact ⟨(y118), (Go.bits .or .i64 (Go.bits .and .i64 (wrap64 (x5_1 * 64)) 4095) t117), (ji24), (wrap64 (x16_1 + 1)), (by first | rfl | (simp; done) | (simp [*]; done)), (by first | rfl | (simp; done) | (simp only [← hji24] <;> (first | rfl | simp)) | (simp [*]; done)), (by first | rfl | (simp; done) | (simp [*]; done)), H', ⟨by have := HK1.out; omega⟩, ⟨Ru HO120⟩, ⟨Bu HB⟩⟩
          ·rw [if_neg c27] at H
           exact absurd H (by simp)
         ·rw [if_neg c25] at H
          exact absurd H (by simp)
        ·rw [if_neg c23] at H
         have c23b0 : decide (8 ≤ (wrap64 (x6_1 + 6))) = false := decide_eq_false c23
         clear c23
         have H' := Aside0.mk H
         clear H
         have p13 : 0 ≤ (x16_1 : Int) := of_decide_eq_true (by first | (with_reducible assumption) | assumption)
         have q13 : x16_1 < (t113.size : Int) := of_decide_eq_true (by first | (with_reducible assumption) | assumption)
         have hx13 := bt_at t113 x16_1
         replace p13 := eq_true p13
         replace q13 := eq_true q13
         have p21 : 0 ≤ (x16_1 : Int) := of_decide_eq_true (by first | (with_reducible assumption) | assumption)
         have q21 : x16_1 < (t113.size : Int) := of_decide_eq_true (by first | (with_reducible assumption) | assumption)
         have hx21 := bt_at t113 x16_1
         replace p21 := eq_true p21
         replace q21 := eq_true q21
         go_wp2_with (first | ((with_reducible refine gate_callee (f := 23) rfl ?_); refine goesL_ (some 29) rfl rfl Tryd.func23 (by kernel_rfl) rfl #[.string (⟨#[65, 66, 67, 68, 69, 70, 71, 72, 73, 74, 75, 76, 77, 78, 79, 80, 81, 82, 83, 84, 85, 86, 87, 88, 89, 90, 97, 98, 99, 100, 101, 102, 103, 104, 105, 106, 107, 108, 109, 110, 111, 112, 113, 114, 115, 116, 117, 118, 119, 120, 121, 122, 48, 49, 50, 51, 52, 53, 54, 55, 56, 57, 43, 47]⟩ : ByteArray), .int .u8 (bt t113 x16_1)] rfl (by (try simp only [List.map_toArray, List.map_cons, List.map_nil]); first | done | rfl | (simp only [List.length_drop, List.length_take]; rfl)) ?_; (with_reducible refine (strings_IndexByte.calls (⟨#[65, 66, 67, 68, 69, 70, 71, 72, 73, 74, 75, 76, 77, 78, 79, 80, 81, 82, 83, 84, 85, 86, 87, 88, 89, 90, 97, 98, 99, 100, 101, 102, 103, 104, 105, 106, 107, 108, 109, 110, 111, 112, 113, 114, 115, 116, 117, 118, 119, 120, 121, 122, 48, 49, 50, 51, 52, 53, 54, 55, 56, 57, 43, 47]⟩ : ByteArray) (bt t113 x16_1) t117 _ A22.out).mono ?_); rintro e w' ⟨rfl, ⟨nd, rfl⟩⟩; refine ⟨_, rfl, ?_⟩))
         go_roundg k1
         case measure => have := HK1.out; omega
         case rel => exact ⟨(x4_1), (Go.bits .or .i64 (Go.bits .and .i64 (wrap64 (x5_1 * 64)) 4095) t117), (wrap64 (x6_1 + 6)), (wrap64 (x16_1 + 1)), (by first | rfl | (simp; done) | (simp [*]; done)), (by first | rfl | (simp; done) | (simp [*]; done)), (by first | rfl | (simp; done) | (simp [*]; done)), H', ⟨by have := HK1.out; omega⟩, ⟨Ru HO_4⟩, ⟨Bu HB⟩⟩
      ·rw [if_neg c12] at H
       exact absurd H (by simp)
     ·rw [if_neg c11] at H
      exact absurd H (by simp)
    ·rw [if_neg c10] at H
     have c10b0 : decide (x16_1 < (t113.size : Int)) = false := decide_eq_false c10
     clear c10
     replace H := Option.bind_eq_some_iff.mp H
     obtain ⟨t115, A290, H⟩ := H
     replace H : (if t115.toList = t113.toList then (some (x4_1, 0)) else (some (([] : List Int), 10))) = some (r1, r2) := H
     have A29 := Aside0.mk A290
     clear A290
     by_cases c30 : t115.toList = t113.toList
     ·rw [if_pos c30] at H
      have c30b0 : (t115.toList == t113.toList) = true := beq_iff_eq.mpr c30
      have c30b1 : (t115.toList != t113.toList) = false := bne_eq_false_iff_eq.mpr c30
      clear c30
      simp only [Option.some.injEq, Prod.mk.injEq] at H
      obtain ⟨rfl, rfl⟩ := H
      obtain ⟨Ao31, co31, eo31⟩ := Kd.R_slice HO_4.out
      subst eo31
      go_wp2_with (first | ((with_reducible refine gate_callee (f := 11) rfl ?_); refine goesA (some 46) Tryd.func11 #[.slice Ao31 x4_1.length co31] rfl ?_; (with_reducible refine (base_Encode.calls _ _ x4_1 t115 _ ?side1 ?side2 A29.out).mono ?_); (case side1 => exact Cu (Kd.R_reads' HO_4.out).2.2); (case side2 => exact (Kd.R_reads' HO_4.out).2.1); rintro e w32 ⟨rfl, hb⟩; refine ⟨_, rfl, ?_⟩; have n0_ := Rb HO_4 hb; have n1_ := Bs HB hb; clear HO_4 HB; revert n0_ n1_; intro HO_4 HB; (try clear hb); (try clear hb2); (try clear hk); (try clear hi)))
      go_ret2
      exact ⟨_, rfl_, Ru HO_4, Bu HB⟩
     ·rw [if_neg c30] at H
      have c30b0 : (t115.toList == t113.toList) = false := beq_eq_false_iff_ne.mpr c30
      have c30b1 : (t115.toList != t113.toList) = true := bne_iff_ne.mpr c30
      simp only [Option.some.injEq, Prod.mk.injEq] at H
      obtain ⟨rfl, rfl⟩ := H
      obtain ⟨Ao33, co33, eo33⟩ := Kd.R_slice HO_4.out
      subst eo33
      go_wp2_with (first | ((with_reducible refine gate_callee (f := 11) rfl ?_); refine goesA (some 46) Tryd.func11 #[.slice Ao33 x4_1.length co33] rfl ?_; (with_reducible refine (base_Encode.calls _ _ x4_1 t115 _ ?side1 ?side2 A29.out).mono ?_); (case side1 => exact Cu (Kd.R_reads' HO_4.out).2.2); (case side2 => exact (Kd.R_reads' HO_4.out).2.1); rintro e w34 ⟨rfl, hb⟩; refine ⟨_, rfl, ?_⟩; have n0_ := Rb HO_4 hb; have n1_ := Bs HB hb; clear HO_4 HB; revert n0_ n1_; intro HO_4 HB; (try clear hb); (try clear hb2); (try clear hk); (try clear hi)))
      go_ret2
      exact ⟨_, rfl_, by first | exact Kd.R_nil _ _ _ _ _ | exact Kd.N_nil _ _ _ _ _ | exact Kd.V_nil _ _ _ _ _ | exact Kd.Q_nil _ _ _ _ _ | exact Kd.S_nil _ _ _ _ _, Bu HB⟩
 ·rw [if_neg c5] at H
  have c5b0 : (t114.toList == ([] : List UInt8)) = false := beq_eq_false_iff_ne.mpr c5
  have c5b1 : (t114.toList != ([] : List UInt8)) = true := bne_iff_ne.mpr c5
  simp only [Option.some.injEq, Prod.mk.injEq] at H
  obtain ⟨rfl, rfl⟩ := H
  go_enter Tryd.func9, Tryd.ntmps9
  go_wp2_with (first | ((with_reducible refine gate_callee (f := 20) rfl ?_); refine goesA (some 9) Tryd.func20 #[.string a0] rfl ?_; (with_reducible refine (chars_Words.calls k a0 t110 _ ?sideU A2.out).mono ?_); (case sideU => first | exact HU.out | exact Uni.up HU (Bu HB) | exact Uni.below HU.out (by assumption)); rintro e w35 ⟨v111, rfl, ho0, hb⟩; refine ⟨_, rfl, ?_⟩; have n0_ := Aside0.mk (Kd.R_lower ho0 (Bz HB)); have n1_ := Bs HB hb; clear HB; revert n0_ n1_; intro HO112 HB; (try clear hb); (try clear hb2); (try clear hk); (try clear hi); (try clear ho0); obtain ⟨Ao36, co36, eo36⟩ := Kd.R_slice HO112.out; subst eo36) | ((with_reducible refine gate_callee (f := 19) rfl ?_); refine goesL_ (some 10) rfl rfl Tryd.func19 (by kernel_rfl) rfl #[.slice Ao36 t110.length co36, .string (⟨#[]⟩ : ByteArray)] rfl (by (try simp only [List.map_toArray, List.map_cons, List.map_nil]); first | done | rfl | (simp only [List.length_drop, List.length_take]; rfl)) ?_; (with_reducible refine (strings_Join.calls _ _ t110 (⟨#[]⟩ : ByteArray) t113 _ ?side1 ?side2 A3.out).mono ?_); (case side1 => exact Cu (Kd.R_reads' HO112.out).2.2); (case side2 => exact (Kd.R_reads' HO112.out).2.1); rintro e w37 ⟨rfl, hb⟩; refine ⟨_, rfl, ?_⟩; have n0_ := Rb HO112 hb; have n1_ := Bs HB hb; clear HO112 HB; revert n0_ n1_; intro HO112 HB; (try clear hb); (try clear hb2); (try clear hk); (try clear hi)) | ((with_reducible refine gate_callee (f := 21) rfl ?_); refine goesL_ (some 12) rfl rfl Tryd.func21 (by kernel_rfl) rfl #[.func (.func 22) #[] #[], .string t113] rfl (by (try simp only [List.map_toArray, List.map_cons, List.map_nil]); first | done | rfl | (simp only [List.length_drop, List.length_take]; rfl)) ?_; (with_reducible refine (strings_Map.calls t113 t114 _ ?sideU A4.out).mono ?_); (case sideU => first | exact HU.out | exact Uni.up HU (Bu HB) | exact Uni.below HU.out (by assumption)); rintro e w38 ⟨rfl, hb⟩; refine ⟨_, rfl, ?_⟩; have n0_ := Rb HO112 hb; have n1_ := Bs HB hb; clear HO112 HB; revert n0_ n1_; intro HO112 HB; (try clear hb); (try clear hb2); (try clear hk); (try clear hi)))
  go_ret2
  exact ⟨_, rfl_, by first | exact Kd.R_nil _ _ _ _ _ | exact Kd.N_nil _ _ _ _ _ | exact Kd.V_nil _ _ _ _ _ | exact Kd.Q_nil _ _ _ _ _ | exact Kd.S_nil _ _ _ _ _, Bu HB⟩

/-! ### lanyardlaw02_awake: function 8 -/
def lanyardlaw02_awake.f (k : Nat) : Option Bool := (base_Decode.f k ⟨#[90, 104, 61, 61]⟩).bind fun t => if t = ([], 10) then some true else none
theorem lanyardlaw02_awake.mono : ∀ k, LeO (lanyardlaw02_awake.f k) (lanyardlaw02_awake.f (k + 1)) := by
  intro k
  unfold lanyardlaw02_awake.f
  exact LeO.bind (base_Decode.mono _ _) (fun _ => LeO.refl _)
theorem below_next {B : Nat} {w W W2 : World} {o : Obj} (h : Below B w W) (hB : B ≤ w.heap.size) (h2 : Below (W.alloc o).heap.size (W.alloc o) W2) : Below B w W2 :=
  (h.alloc (Nat.le_trans hB h.size) o).trans (h2.mono (by rw [World.size_alloc]; have := h.size; omega))
theorem row1 (W : World) (fr : Nat × Nat) : Kd.C (Kd.int .u8) (W.alloc (.cells #[.int .u8 102] 5 fr)) (some ⟨W.heap.size, 0, none⟩) ([102] : List Int).length [102] :=
  bytes_row (l := [102]) (by decide) (fun j hj => by rw [World.cell?_alloc_mark]; match j, hj with | 0, _ => rfl)
theorem row2 (W : World) (fr : Nat × Nat) : Kd.C (Kd.int .u8) (W.alloc (.cells #[.int .u8 102, .int .u8 111] 5 fr)) (some ⟨W.heap.size, 0, none⟩) ([102, 111] : List Int).length [102, 111] :=
  bytes_row (l := [102, 111]) (by decide) (fun j hj => by rw [World.cell?_alloc_mark]; match j, hj with | 0, _ => rfl | 1, _ => rfl)
theorem row3 (W : World) (fr : Nat × Nat) : Kd.C (Kd.int .u8) (W.alloc (.cells #[.int .u8 102, .int .u8 111, .int .u8 111] 5 fr)) (some ⟨W.heap.size, 0, none⟩) ([102, 111, 111] : List Int).length [102, 111, 111] :=
  bytes_row (l := [102, 111, 111]) (by decide) (fun j hj => by rw [World.cell?_alloc_mark]; match j, hj with | 0, _ => rfl | 1, _ => rfl | 2, _ => rfl)
theorem row4 (W : World) : Kd.C (Kd.int .u8) (W.alloc (.cells #[.int .u8 255, .int .u8 10] 5)) (some ⟨W.heap.size, 0, none⟩) ([255, 10] : List Int).length [255, 10] :=
  bytes_row (l := [255, 10]) (by decide) (fun j hj => by rw [World.cell?_alloc_mark]; match j, hj with | 0, _ => rfl | 1, _ => rfl)
set_option maxHeartbeats 2000000 in
set_option maxRecDepth 100000 in
theorem lanyardlaw02_awake.calls (k : Nat) (r : Bool) (w : World) (hU : Uni w) (h : lanyardlaw02_awake.f k = some r) :
    Calls Tryd.prog 8 #[] w fun e w' => e = .returned (.bool r) ∧ Below w.heap.size w w' := by
  unfold lanyardlaw02_awake.f at h
  obtain ⟨t, ht, h⟩ := Option.bind_eq_some_iff.1 h
  split at h
  · rename_i e
    subst e
    obtain rfl := Option.some.inj h
    have HU := Aside0.mk hU
    have HT := Aside0.mk ht
    clear hU ht h
    have e1 : base_Encode.f [102] = some ⟨#[90, 103, 61, 61]⟩ := by kernel_rfl
    have e2 : base_Encode.f [102, 111] = some ⟨#[90, 109, 56, 61]⟩ := by kernel_rfl
    have e3 : base_Encode.f [102, 111, 111] = some ⟨#[90, 109, 57, 118]⟩ := by kernel_rfl
    have e4 : base_Hex.f [255, 10] = some ⟨#[102, 102, 48, 97]⟩ := by kernel_rfl
    have HE := Aside0.mk (And.intro e1 (And.intro e2 (And.intro e3 e4)))
    clear e1 e2 e3 e4
    have hcv := fun W C n c => Lib.run_convert_bytes_const (P := Tryd.prog) W 23 5 C n c Tryd.underlying23 Tryd.underlying5
    go_enter Tryd.func8, Tryd.ntmps8
    go_wp2_with (first
      | (go_at_call 9; refine (base_Decode.calls k _ [] 10 _ HU.out HT.out).mono ?_; rintro e w1 ⟨v, rfl, _, hb⟩; have g0 := Aside0.mk hb; clear hb)
      | (go_at_call 11; have q_ := g2; clear q_; refine (base_Encode.calls (some _) 3 [102, 111, 111] _ _ (row3 _ _) (by decide) HE.out.2.2.1).mono ?_; rintro e w4 ⟨rfl, hb⟩; have g3 := Aside0.mk hb; clear hb)
      | (go_at_call 11; have q_ := g1; clear q_; refine (base_Encode.calls (some _) 2 [102, 111] _ _ (row2 _ _) (by decide) HE.out.2.1).mono ?_; rintro e w3 ⟨rfl, hb⟩; have g2 := Aside0.mk hb; clear hb)
      | (go_at_call 11; refine (base_Encode.calls (some _) 1 [102] _ _ (row1 _ _) (by decide) HE.out.1).mono ?_; rintro e w2 ⟨rfl, hb⟩; have g1 := Aside0.mk hb; clear hb)
      | (go_at_call 12; refine (base_Hex.calls (some _) 2 [255, 10] _ _ (row4 _) (by decide) HE.out.2.2.2).mono ?_; rintro e w5 ⟨rfl, hb⟩; have g4 := Aside0.mk hb; clear hb))
    go_ret
    refine ⟨rfl, ?_⟩
    have b1 := below_next g0.out (Nat.le_refl _) g1.out
    have b2 := below_next b1 (Nat.le_refl _) g2.out
    have b3 := below_next b2 (Nat.le_refl _) g3.out
    exact below_next b3 (Nat.le_refl _) g4.out
  · exact absurd h (by simp)

/-! ### lanyardref02_pow: function 26 -/
def lanyardref02_pow.l0 : Nat → Int → Int → Int → Option (Int)
 | 0, _, _, _ => none
 | k + 1, x0, x3, x4 => if x4 < x0 then (lanyardref02_pow.l0 k x0 (wrap64 (x3 * 2)) (wrap64 (x4 + 1))) else (some x3)
def lanyardref02_pow.f (k : Nat) (a0 : Int) : Option (Int) := lanyardref02_pow.l0 k a0 1 0
theorem lanyardref02_pow.mono_l : ∀ k, (∀ y0 y1 y2, LeO (lanyardref02_pow.l0 k y0 y1 y2) (lanyardref02_pow.l0 (k + 1) y0 y1 y2))
 | 0 => fun _ _ _ r h => by simp [lanyardref02_pow.l0] at h
 | k + 1 => by
  have ih0 := lanyardref02_pow.mono_l k
  ·intro y0 y1 y2
   unfold lanyardref02_pow.l0
   repeat' first
   | (with_reducible exact ih0 _ _ _)
   | (with_reducible exact LeO.refl _)
   | (with_reducible exact LeO.none _)
   | (with_reducible refine LeO.ite ?_ ?_)
   | (with_reducible refine LeO.bind ?_ (fun _ => ?_))
   | exact ih0 _ _ _
   | exact LeO.none _
   | refine LeO.ite ?_ ?_
   | refine LeO.bind ?_ (fun _ => ?_)
theorem lanyardref02_pow.mono : ∀ a0 k, LeO (lanyardref02_pow.f k a0) (lanyardref02_pow.f (k + 1) a0) := by
 intro a0 k
 have ih0 := lanyardref02_pow.mono_l k
 unfold lanyardref02_pow.f
 repeat' first
   | (with_reducible exact ih0 _ _ _)
   | (with_reducible exact LeO.refl _)
   | (with_reducible exact LeO.none _)
   | (with_reducible refine LeO.ite ?_ ?_)
   | (with_reducible refine LeO.bind ?_ (fun _ => ?_))
   | exact ih0 _ _ _
   | exact LeO.none _
   | refine LeO.ite ?_ ?_
   | refine LeO.bind ?_ (fun _ => ?_)
set_option maxHeartbeats 8000000 in
set_option maxRecDepth 100000 in
theorem lanyardref02_pow.calls (k : Nat) (a0 : Int) (r : Int) (w : World) (h : lanyardref02_pow.f k a0 = some r) :
  Calls Tryd.prog 26 #[.int .i64 a0] w fun e w' => e = .returned (.int .i64 r) ∧ Drawn0 w w' := by
 have H : (lanyardref02_pow.l0 k a0 1 0) = some r := h
 clear h
 have H' := Aside0.mk H
 clear H
 go_enter Tryd.func26, Tryd.ntmps26
 go_wp2
 go_loopg [3, 4] k (fun kq v3 v4 w' => ∃ (x3_1 : Int) (x4_1 : Int), v3 = .int .i64 x3_1 ∧ v4 = .int .i64 x4_1 ∧ Aside0 (lanyardref02_pow.l0 kq a0 x3_1 x4_1 = some r) ∧ Aside0 (kq ≤ k) ∧ Drawn0 w w')
 case atStart => exact ⟨(1), (0), (by first | rfl | (simp; done) | (simp [*]; done)), (by first | rfl | (simp; done) | (simp [*]; done)), H', ⟨Nat.le_refl _⟩, by repeat (first | exact Drawn0.refl _ | apply Drawn0.step)⟩
 case round =>
  clear H'
  obtain ⟨x3_1, x4_1, rfl, rfl, HA, HK1, ⟨m1, rfl⟩⟩ := hrel
  cases gk with
  | zero => exact absurd HA.out (by simp [lanyardref02_pow.l0])
  | succ k1 =>
   have H := HA.out
   clear HA
   simp only [lanyardref02_pow.l0] at H
   by_cases c2 : x4_1 < a0
   ·rw [if_pos c2] at H
    have c2b0 : decide (x4_1 < a0) = true := decide_eq_true c2
    clear c2
    have H' := Aside0.mk H
    clear H
    go_wp2
    go_roundg k1
    case measure => have := HK1.out; omega
    case rel => exact ⟨(wrap64 (x3_1 * 2)), (wrap64 (x4_1 + 1)), (by first | rfl | (simp; done) | (simp [*]; done)), (by first | rfl | (simp; done) | (simp [*]; done)), H', ⟨by have := HK1.out; omega⟩, by repeat (first | exact Drawn0.refl _ | apply Drawn0.step)⟩
   ·rw [if_neg c2] at H
    have c2b0 : decide (x4_1 < a0) = false := decide_eq_false c2
    clear c2
    obtain rfl := Option.some.inj H
    go_wp2
    go_ret
    exact ⟨by first | rfl | (simp; done) | (simp [*]; done), by repeat (first | exact Drawn0.refl _ | apply Drawn0.step)⟩

/-! ### lanyardref02_bit: function 32 -/
def lanyardref02_bit.f (k : Nat) (l0 : List Int) (a1 : Int) : Option (Int) := if (wrap64 (Int.tdiv a1 8)) ≥ (l0.length : Int) then (some 0) else (if 0 ≤ (wrap64 (Int.tdiv a1 8)) then (if (wrap64 (Int.tdiv a1 8)) < (l0.length : Int) then ((lanyardref02_pow.f k (wrap64 (7 - (Int.tmod a1 8)))).bind fun t122 => (if t122 = 0 then (none) else (some (Int.tmod (wrap64 (Int.tdiv (wrap64 (rd l0 (wrap64 (Int.tdiv a1 8)))) t122)) 2)))) else (none)) else (none))
theorem lanyardref02_bit.mono : ∀ a0 a1 k, LeO (lanyardref02_bit.f k a0 a1) (lanyardref02_bit.f (k + 1) a0 a1) := by
 intro a0 a1 k
 unfold lanyardref02_bit.f
 repeat' first
   | (with_reducible exact lanyardref02_pow.mono _ _)
   | (with_reducible exact LeO.refl _)
   | (with_reducible exact LeO.none _)
   | (with_reducible refine LeO.ite ?_ ?_)
   | (with_reducible refine LeO.bind ?_ (fun _ => ?_))
   | exact lanyardref02_pow.mono _ _
   | exact LeO.none _
   | refine LeO.ite ?_ ?_
   | refine LeO.bind ?_ (fun _ => ?_)
set_option maxHeartbeats 8000000 in
set_option maxRecDepth 100000 in
theorem lanyardref02_bit.calls (k : Nat) (A0 : Option Addr) (c0 : Nat) (l0 : List Int) (a1 : Int) (r : Int) (w : World) (hr0 : Kd.C (Kd.int .u8) w A0 l0.length l0) (hc0 : l0.length ≤ c0) (h : lanyardref02_bit.f k l0 a1 = some r) :
  Calls Tryd.prog 32 #[.slice A0 l0.length c0, .int .i64 a1] w fun e w' => e = .returned (.int .i64 r) ∧ Drawn0 w w' := by
 have HR0 := Aside0.mk hr0
 have HC0 := Aside0.mk hc0
 clear hr0 hc0
 have H : (if (wrap64 (Int.tdiv a1 8)) ≥ (l0.length : Int) then (some 0) else (if 0 ≤ (wrap64 (Int.tdiv a1 8)) then (if (wrap64 (Int.tdiv a1 8)) < (l0.length : Int) then ((lanyardref02_pow.f k (wrap64 (7 - (Int.tmod a1 8)))).bind fun t122 => (if t122 = 0 then (none) else (some (Int.tmod (wrap64 (Int.tdiv (wrap64 (rd l0 (wrap64 (Int.tdiv a1 8)))) t122)) 2)))) else (none)) else (none))) = some r := h
 clear h
 by_cases c3 : (wrap64 (Int.tdiv a1 8)) ≥ (l0.length : Int)
 ·rw [if_pos c3] at H
  have c3b0 : decide ((l0.length : Int) ≤ (wrap64 (Int.tdiv a1 8))) = true := decide_eq_true c3
  clear c3
  obtain rfl := Option.some.inj H
  go_enter Tryd.func32, Tryd.ntmps32
  go_wp2
  repeat (go_quiet (fail); try go_wp2)
  go_ret
  exact ⟨by first | rfl | (simp; done) | (simp [*]; done), by repeat (first | exact Drawn0.refl _ | apply Drawn0.step)⟩
 ·rw [if_neg c3] at H
  have c3b0 : decide ((l0.length : Int) ≤ (wrap64 (Int.tdiv a1 8))) = false := decide_eq_false c3
  clear c3
  obtain ⟨ji4, hji4⟩ : ∃ j_ : Int, (wrap64 (Int.tdiv a1 8)) = j_ := ⟨_, rfl⟩
  replace H : (if 0 ≤ (ji4) then (if (ji4) < (l0.length : Int) then ((lanyardref02_pow.f k (wrap64 (7 - (Int.tmod a1 8)))).bind fun t122 => (if t122 = 0 then (none) else (some (Int.tmod (wrap64 (Int.tdiv (wrap64 (rd l0 (ji4))) t122)) 2)))) else (none)) else (none)) = some r := by first | (rw [hji4] at H; exact H) | (simp only [hji4] at H ⊢; exact H)
  (try rw [hji4] at c3b0)
  have hji4w : (IntKind.i64.wrap (Int.tdiv a1 8)) = ji4 := (i64_w _).trans hji4
  by_cases c5 : 0 ≤ (ji4)
  ·rw [if_pos c5] at H
   have c5b0 : decide (0 ≤ (ji4)) = true := decide_eq_true c5
   clear c5
   by_cases c6 : (ji4) < (l0.length : Int)
   ·rw [if_pos c6] at H
    have c6b0 : decide ((ji4) < (l0.length : Int)) = true := decide_eq_true c6
    clear c6
    replace H := Option.bind_eq_some_iff.mp H
    obtain ⟨t122, A70, H⟩ := H
    replace H : (if t122 = 0 then (none) else (some (Int.tmod (wrap64 (Int.tdiv (wrap64 (rd l0 (ji4))) t122)) 2))) = some r := H
    have A7 := Aside0.mk A70
    clear A70
    by_cases c8 : t122 = 0
    ·rw [if_pos c8] at H
     exact absurd H (by simp)
    ·rw [if_neg c8] at H
     have c8b0 : (t122 == 0) = false := beq_eq_false_iff_ne.mpr c8
     have c8b1 : (t122 != 0) = true := bne_iff_ne.mpr c8
     obtain rfl := Option.some.inj H
     have p121 : 0 ≤ ((ji4) : Int) := of_decide_eq_true (by first | (with_reducible assumption) | assumption)
     have q121 : (ji4) < (l0.length : Int) := of_decide_eq_true (by first | (with_reducible assumption) | assumption)
     obtain ⟨ad121, e121, hx121_0⟩ := Kd.at_int HR0.out (ji4) p121 q121
     cases e121
     replace p121 := eq_true p121
     replace q121 := eq_true q121
     go_enter Tryd.func32, Tryd.ntmps32
     go_wp2_with (first | (go_at_call 26; (with_reducible refine (lanyardref02_pow.calls k (wrap64 (7 - (Int.tmod a1 8))) t122 _ A7.out).mono ?_); rintro e w' ⟨rfl, ⟨nd, rfl⟩⟩; (try first | exact ⟨rfl, _, World.drewN_drewN _ _ _⟩ | exact ⟨rfl, _, Eq.trans (World.drewN_drewN _ _ _) (congrArg (World.drewN _) (Nat.add_assoc _ _ _))⟩)))
     repeat (go_quiet (first | (go_at_call 26; (with_reducible refine (lanyardref02_pow.calls k (wrap64 (7 - (Int.tmod a1 8))) t122 _ A7.out).mono ?_); rintro e w' ⟨rfl, ⟨nd, rfl⟩⟩; (try first | exact ⟨rfl, _, World.drewN_drewN _ _ _⟩ | exact ⟨rfl, _, Eq.trans (World.drewN_drewN _ _ _) (congrArg (World.drewN _) (Nat.add_assoc _ _ _))⟩))); try go_wp2_with (first | (go_at_call 26; (with_reducible refine (lanyardref02_pow.calls k (wrap64 (7 - (Int.tmod a1 8))) t122 _ A7.out).mono ?_); rintro e w' ⟨rfl, ⟨nd, rfl⟩⟩; (try first | exact ⟨rfl, _, World.drewN_drewN _ _ _⟩ | exact ⟨rfl, _, Eq.trans (World.drewN_drewN _ _ _) (congrArg (World.drewN _) (Nat.add_assoc _ _ _))⟩))))
     go_ret
     exact ⟨by first | rfl | (simp; done) | (simp only [← hji4] <;> (first | rfl | simp)) | (simp [*]; done), by repeat (first | exact Drawn0.refl _ | apply Drawn0.step)⟩
   ·rw [if_neg c6] at H
    exact absurd H (by simp)
  ·rw [if_neg c5] at H
   exact absurd H (by simp)

/-! ### lanyardref02_sign: function 33 -/
def lanyardref02_sign.f (a0 : Int) : Option (Int) := if a0 < 26 then (some ((wrap64 (65 + a0)) % 256)) else (if a0 < 52 then (some ((wrap64 ((wrap64 (97 + a0)) - 26)) % 256)) else (if a0 < 62 then (some ((wrap64 ((wrap64 (48 + a0)) - 52)) % 256)) else (if a0 = 62 then (some 43) else (some 47))))
set_option maxHeartbeats 8000000 in
set_option maxRecDepth 100000 in
theorem lanyardref02_sign.calls (a0 : Int) (r : Int) (w : World) (h : lanyardref02_sign.f a0 = some r) :
  Calls Tryd.prog 33 #[.int .i64 a0] w fun e w' => e = .returned (.int .u8 r) ∧ Drawn0 w w' := by
 have H : (if a0 < 26 then (some ((wrap64 (65 + a0)) % 256)) else (if a0 < 52 then (some ((wrap64 ((wrap64 (97 + a0)) - 26)) % 256)) else (if a0 < 62 then (some ((wrap64 ((wrap64 (48 + a0)) - 52)) % 256)) else (if a0 = 62 then (some 43) else (some 47))))) = some r := h
 clear h
 refine (Classical.em (a0 < 26)).elim (fun c2 => ?a7_) (fun c2 => ?b7_)
 case' a7_ =>
  rw [if_pos c2] at H
  have c2b0 : decide (a0 < 26) = true := decide_eq_true c2
  clear c2
  obtain rfl := Option.some.inj H
 case' b7_ =>
  rw [if_neg c2] at H
  have c2b0 : decide (a0 < 26) = false := decide_eq_false c2
  clear c2
  refine (Classical.em (a0 < 52)).elim (fun c3 => ?a8_) (fun c3 => ?b8_)
  case' a8_ =>
   rw [if_pos c3] at H
   have c3b0 : decide (a0 < 52) = true := decide_eq_true c3
   clear c3
   obtain rfl := Option.some.inj H
  case' b8_ =>
   rw [if_neg c3] at H
   have c3b0 : decide (a0 < 52) = false := decide_eq_false c3
   clear c3
   refine (Classical.em (a0 < 62)).elim (fun c4 => ?a9_) (fun c4 => ?b9_)
   case' a9_ =>
    rw [if_pos c4] at H
    have c4b0 : decide (a0 < 62) = true := decide_eq_true c4
    clear c4
    obtain rfl := Option.some.inj H
   case' b9_ =>
    rw [if_neg c4] at H
    have c4b0 : decide (a0 < 62) = false := decide_eq_false c4
    clear c4
    refine (Classical.em (a0 = 62)).elim (fun c5 => ?a10_) (fun c5 => ?b10_)
    case' a10_ =>
     rw [if_pos c5] at H
     have c5b0 : (a0 == 62) = true := beq_iff_eq.mpr c5
     have c5b1 : (a0 != 62) = false := bne_eq_false_iff_eq.mpr c5
     clear c5
     obtain rfl := Option.some.inj H
    case' b10_ =>
     rw [if_neg c5] at H
     have c5b0 : (a0 == 62) = false := beq_eq_false_iff_ne.mpr c5
     have c5b1 : (a0 != 62) = true := bne_iff_ne.mpr c5
     obtain rfl := Option.some.inj H
     go_enter Tryd.func33, Tryd.ntmps33
     go_wp2
     go_ret
     exact ⟨by first | rfl | (simp; done) | (simp [*]; done), by repeat (first | exact Drawn0.refl _ | apply Drawn0.step)⟩

 case a7_ | a8_ | a9_ | b9_ =>
  go_enter Tryd.func33, Tryd.ntmps33
  go_wp2
  go_ret
  exact ⟨by first | rfl | (simp; done) | (simp [*]; done), by repeat (first | exact Drawn0.refl _ | apply Drawn0.step)⟩
end Go.Proofs.YtfphmpnkfjeceaaDoor.Hp
