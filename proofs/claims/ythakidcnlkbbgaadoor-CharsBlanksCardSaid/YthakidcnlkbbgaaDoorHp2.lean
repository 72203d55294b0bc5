/- Go functions of this seat as Lean functions, and their contracts: what the Go code computes, for every input. (By hp.py, a program of this repo, over the kit's print.py.) -/
import Derived.Test.YthakidcnlkbbgaaDoorHp0
import Derived.Test.YthakidcnlkbbgaaDoorHp1
namespace Go.Proofs.YthakidcnlkbbgaaDoor.Hp
open Go.RowKit Go.Proofs.YthakidcnlkbbgaaDoorW.PrintWords Go.Proofs.YthakidcnlkbbgaaDoorW.PrintLast Go.Proofs.YthakidcnlkbbgaaDoorW.PrintMore
attribute [local go_sem] max2_int min2_int max_two min_two max_three min_three max_four min_four   -- for this text's walks alone
set_option linter.unusedVariables false
set_option linter.unusedSimpArgs false

/-! ### chars_Name: function 12 -/
def chars_Name.idx (k : Nat) : Nat → List ByteArray → Option Int
  | _, [] => some (-1)
  | i, x :: xs => (chars_wrong.f k x).bind fun b => if b = true then some (i : Int) else chars_Name.idx k (i + 1) xs
def chars_Name.f (k : Nat) (l0 : List ByteArray) : Option Bool := (chars_Name.idx k 0 l0).bind fun t => some (!decide (0 ≤ t))
theorem chars_Name.mono_idx (k : Nat) : ∀ (l : List ByteArray) (i : Nat), LeO (chars_Name.idx k i l) (chars_Name.idx (k + 1) i l)
  | [], i => LeO.refl _
  | x :: xs, i => by
    unfold chars_Name.idx
    exact LeO.bind (chars_wrong.mono _ _) (fun _ => LeO.ite (LeO.refl _) (chars_Name.mono_idx k xs (i + 1)))
theorem chars_Name.mono : ∀ a0 k, LeO (chars_Name.f k a0) (chars_Name.f (k + 1) a0) := by
  intro l k
  unfold chars_Name.f
  exact LeO.bind (chars_Name.mono_idx k l 0) (fun _ => LeO.refl _)
def chars_Name.Inv (k : Nat) (l : List ByteArray) (t : Int) (w wr : World) (v : Value) : Prop :=
  ∃ i : Nat, i ≤ l.length ∧ v = .int .i64 i ∧ chars_Name.idx k i (l.drop i) = some t ∧ Below w.heap.size w wr
set_option maxHeartbeats 2000000 in
set_option maxRecDepth 100000 in
theorem chars_Name.index (k : Nat) (b o c : Nat) (l : List ByteArray) (t : Int) (w : World) (hb : b < w.heap.size) (hn : l.length ≤ 9223372036854775807) (hc : ∀ (j : Nat) x, l[j]? = some x → w.cell? ⟨b, o + j, none⟩ = some (.string x)) (hU : Uni w) (h : chars_Name.idx k 0 l = some t) :
    Calls Tryd.prog 36 #[.slice (some ⟨b, o, none⟩) l.length c, .func (.func 28) #[] #[]] w fun e w' => e = .returned (.int .i64 t) ∧ Below w.heap.size w w' := by
  have HU := Aside0.mk hU
  have HC := Aside0.mk hc
  have HL := Aside0.mk h
  have eg : ∀ args w, (callFunc 28 args).run Tryd.prog w = .ok (.enter 28 args) w := enters_of Tryd.func28 (by kernel_rfl) rfl
  clear hU hc h
  go_enter Tryd.func36, Tryd.ntmps36
  go_wp2
  go_loopw [8] (fun v8 wr => Aside0 (chars_Name.Inv k l t w wr v8)) (fun v8 _ => l.length - (intOf v8).toNat)
  case atStart => exact ⟨0, Nat.zero_le _, rfl, HL.out, Below.refl _ _⟩
  case round =>
    obtain ⟨i, hi, rfl, hx, hB⟩ := hrel.out
    clear hrel HL
    by_cases hlt : i < l.length
    · obtain ⟨x, hxi⟩ : ∃ x, l[i]? = some x := ⟨l[i], List.getElem?_eq_getElem hlt⟩
      have hd : l.drop i = x :: l.drop (i + 1) := by rw [List.drop_eq_getElem_cons hlt, (List.getElem?_eq_some_iff.1 hxi).2]
      have hck : wr.cell? ⟨b, o + i, none⟩ = some (.string x) := (hB.cell (p := ⟨b, o + i, none⟩) hb).trans (HC.out i x hxi)
      rw [hd, chars_Name.idx] at hx
      obtain ⟨y, hy, hx⟩ := Option.bind_eq_some_iff.1 hx
      have hltz : (i : Int) < (l.length : Int) := by omega
      have hcall := chars_wrong.calls k x y wr (HU.out.below hB) hy
      have HX := Aside0.mk hx
      have HB2 := Aside0.mk hB
      have hs2 := hB.size
      clear hx hy hB hd hxi
      cases y with
      | true =>
        obtain rfl : (i : Int) = t := by have := HX.out; rw [if_pos rfl] at this; exact Option.some.inj this
        go_wp2_with (go_at_fn 28; refine hcall.mono ?_; rintro e w' ⟨rfl, hb'⟩; have g1 := Aside0.mk hb'; clear hb')
        go_ret
        exact ⟨rfl, HB2.out.trans (g1.out.mono hs2)⟩
      | false =>
        have HX2 := Aside0.mk (show chars_Name.idx k (i + 1) (l.drop (i + 1)) = some t by have := HX.out; rw [if_neg (by decide)] at this; exact this)
        clear HX
        go_wp2_with (go_at_fn 28; refine hcall.mono ?_; rintro e w' ⟨rfl, hb'⟩; have g1 := Aside0.mk hb'; clear hb')
        go_roundw
        case rel => exact ⟨i + 1, hlt, by push_cast; rfl, HX2.out, HB2.out.trans (g1.out.mono hs2)⟩
        case measure => simp [intOf]; omega
    · obtain rfl : i = l.length := by omega
      rw [List.drop_of_length_le (Nat.le_refl _), chars_Name.idx] at hx
      obtain rfl := Option.some.inj hx
      have HB2 := Aside0.mk hB
      clear hx hB
      have hltz : ¬ ((l.length : Int) < (l.length : Int)) := by omega
      go_wp2
      go_ret
      exact ⟨rfl, HB2.out⟩
set_option maxHeartbeats 2000000 in
set_option maxRecDepth 100000 in
theorem chars_Name.index0 (A : Option Addr) (c : Nat) (w : World) : Calls Tryd.prog 36 #[.slice A 0 c, .func (.func 28) #[] #[]] w fun e w' => e = .returned (.int .i64 (-1)) ∧ Below w.heap.size w w' := by
  go_enter Tryd.func36, Tryd.ntmps36
  go_wp2
  go_loopw [8] (fun v8 wr => v8 = .int .i64 0 ∧ wr = w) (fun v8 _ => 0)
  case atStart => exact ⟨rfl, rfl⟩
  case round =>
    obtain ⟨rfl, rfl⟩ := hrel
    go_wp2
    go_ret
    exact ⟨rfl, Below.refl _ _⟩
set_option maxHeartbeats 2000000 in
set_option maxRecDepth 100000 in
theorem chars_Name.calls (k : Nat) (A0 : Option Addr) (c0 : Nat) (l0 : List ByteArray) (r : Bool) (w : World) (hr0 : Kd.C Kd.string w A0 l0.length l0) (hc0 : l0.length ≤ c0) (hU : Uni w) (h : chars_Name.f k l0 = some r) :
    Calls Tryd.prog 12 #[.slice A0 l0.length c0] w fun e w' => e = .returned (.bool r) ∧ Below w.heap.size w w' := by
  obtain ⟨t, ht, h⟩ := Option.bind_eq_some_iff.1 h
  obtain rfl := Option.some.inj h
  have hI : Calls Tryd.prog 36 #[.slice A0 l0.length c0, .func (.func 28) #[] #[]] w fun e w' => e = .returned (.int .i64 t) ∧ Below w.heap.size w w' := by
    by_cases h0 : l0 = []
    · subst h0
      obtain rfl : (-1 : Int) = t := by rw [chars_Name.idx] at ht; exact Option.some.inj ht
      exact chars_Name.index0 A0 c0 w
    · obtain ⟨b, o, rfl, hb, hc⟩ := row_at hr0 (by cases l0 with | nil => exact absurd rfl h0 | cons => simp)
      exact chars_Name.index k b o c0 l0 t w hb hr0.2.1 hc hU ht
  clear ht hU hr0 hc0
  have hC : Calls Tryd.prog 27 #[.slice A0 l0.length c0, .func (.func 28) #[] #[]] w fun e w' => e = .returned (.bool (decide (0 ≤ t))) ∧ Below w.heap.size w w' := by
    generalize l0.length = n at hI ⊢
    go_enter Tryd.func27, Tryd.ntmps27
    go_wp2_with (go_at_call 36; refine hI.mono ?_; rintro e w' ⟨rfl, hb'⟩)
    go_ret
    exact ⟨rfl, hb'⟩
  clear hI
  generalize l0.length = n at hC ⊢
  go_enter Tryd.func12, Tryd.ntmps12
  go_wp2_with (go_at_call 27; refine hC.mono ?_; rintro e w' ⟨rfl, hb'⟩)
  go_ret
  exact ⟨rfl, hb'⟩

/-! ### strings_Split: function 33 -/
def strings_Split.f (a0 a1 : ByteArray) : Option (List ByteArray) := if a0.size < 4294967281 ∧ 1 ≤ a1.size then some (Lib.splitB a1 0 (Lib.countB a0 a1) a0) else none
theorem own_made (w : World) (e : Nat) (cs : List Value) (n : Nat) (hl : cs.length = n) (hn : n ≤ maxLen) : (w.alloc (.cells cs.toArray e)).ownsRow w.heap.size e 1 (.slice (some ⟨w.heap.size, 0, none⟩) n n) n cs := by
  subst hl
  exact ⟨by simp, .inr ⟨w.heap.size, cs.length, cs.toArray, rfl, Nat.le_refl _, heap_alloc_new _ _, Nat.le_refl _, hn, by simp, by simp⟩⟩
theorem strings_Split.calls (a0 a1 : ByteArray) (r : List ByteArray) (w : World) (hU : Uni w) (h : strings_Split.f a0 a1 = some r) :
    Calls Tryd.prog 33 #[.string a0, .string a1] w fun e w' => ∃ v0_ : Value, e = .returned (v0_) ∧ Kd.R Kd.string 9 w' w.heap.size (fun _ => True) v0_ r ∧ Below w.heap.size w w' := by
  unfold strings_Split.f at h
  split at h
  · rename_i hc
    obtain rfl := Option.some.inj h
    obtain ⟨m, hm⟩ := hU.len
    refine (Tryd.strings_Split a0 a1 m w hc.1 hm hc.2).mono ?_
    rintro e w' ⟨rfl, rfl⟩
    have hl := Lib.splitB_all a1 hc.2 0 (Lib.countB a0 a1) a0 rfl
    have hle := Lib.countB_le a1 hc.2 a0.size a0 (Nat.le_refl _)
    refine ⟨_, rfl, Kd.R_of_own (h1 := fun _ => rfl) ?_ (fun _ _ => trivial), (Below.refl _ _).alloc (Nat.le_refl _) _⟩
    rw [hl]
    exact own_made w 9 _ _ (by simp [hl]) (by unfold maxLen; omega)
  · exact absurd h (by simp)
theorem strings_Split.raw (a0 a1 : ByteArray) (m : Int) (w : World) (hs : a0.size < 4294967281) (hm : w.cell? ⟨2, 0, none⟩ = some (.int .i64 m)) (h1 : 1 ≤ a1.size) (ps : List ByteArray) (hp : Lib.splitB a1 0 (Lib.countB a0 a1) a0 = ps) :
    Calls Tryd.prog 33 #[.string a0, .string a1] w fun e w' => e = .returned (.slice (some ⟨w.heap.size, 0, none⟩) ps.length ps.length) ∧ w' = w.alloc (.cells (ps.map Value.string).toArray 9) := by
  subst hp
  refine (Tryd.strings_Split a0 a1 m w hs hm h1).mono ?_
  rintro e w' ⟨rfl, rfl⟩
  rw [Lib.splitB_all a1 h1 0 (Lib.countB a0 a1) a0 rfl]
  exact ⟨rfl, rfl⟩
/-- A row of texts that was just made, in a block of its own. -/
def Fresh (w : World) (ps : List ByteArray) (v : Value) (w' : World) : Prop := v = .slice (some ⟨w.heap.size, 0, none⟩) ps.length ps.length ∧ w' = w.alloc (.cells (ps.map Value.string).toArray 9) ∧ ps.length ≤ 4294967296
theorem strings_Split.fresh (a0 a1 : ByteArray) (r : List ByteArray) (w : World) (hU : Uni w) (h : strings_Split.f a0 a1 = some r) :
    Calls Tryd.prog 33 #[.string a0, .string a1] w fun e w' => ∃ v0_ : Value, e = .returned (v0_) ∧ Kd.R Kd.string 9 w' w.heap.size (fun _ => True) v0_ r ∧ Below w.heap.size w w' ∧ Fresh w r v0_ w' := by
  unfold strings_Split.f at h
  split at h
  · rename_i hc
    obtain rfl := Option.some.inj h
    obtain ⟨m, hm⟩ := hU.len
    have hl := Lib.splitB_all a1 hc.2 0 (Lib.countB a0 a1) a0 rfl
    have hle := Lib.countB_le a1 hc.2 a0.size a0 (Nat.le_refl _)
    refine (strings_Split.raw a0 a1 m w hc.1 hm hc.2 _ rfl).mono ?_
    rintro e w' ⟨rfl, rfl⟩
    refine ⟨_, rfl, Kd.R_of_own (h1 := fun _ => rfl) ?_ (fun _ _ => trivial), (Below.refl _ _).alloc (Nat.le_refl _) _, rfl, rfl, by rw [hl]; omega⟩
    exact own_made w 9 _ _ (by simp) (by rw [hl]; unfold maxLen; omega)
  · exact absurd h (by simp)

/-! ### chars_Words: function 20 -/
def chars_Words.l0 : Nat → List ByteArray → List ByteArray → Int → Int → Option (List ByteArray)
 | 0, _, _, _, _ => none
 | k + 1, x3, x8, x9, x10 => if x10 < x9 then (if 0 ≤ x10 then (if x10 < (x8.length : Int) then (if (rdOf ByteArray.empty x8 x10).toList = ([] : List UInt8) then (chars_Words.l0 k x3 x8 x9 (wrap64 (x10 + 1))) else (if x3.length < 8796093022208 then (chars_Words.l0 k (x3 ++ [rdOf ByteArray.empty x8 x10]) x8 x9 (wrap64 (x10 + 1))) else (none))) else (none)) else (none)) else (some x3)
def chars_Words.f (k : Nat) (a0 : ByteArray) : Option (List ByteArray) := (chars_Flat.f a0).bind fun t119 => ((strings_Split.f t119 (⟨#[32]⟩ : ByteArray)).bind fun t120 => (chars_Words.l0 k ([] : List ByteArray) t120 (t120.length : Int) 0))
theorem chars_Words.mono_l : ∀ k, (∀ y0 y1 y2 y3, LeO (chars_Words.l0 k y0 y1 y2 y3) (chars_Words.l0 (k + 1) y0 y1 y2 y3))
 | 0 => fun _ _ _ _ r h => by simp [chars_Words.l0] at h
 | k + 1 => by
  have ih0 := chars_Words.mono_l k
  ·intro y0 y1 y2 y3
   unfold chars_Words.l0
   repeat' first
   | (with_reducible exact ih0 _ _ _ _)
   | (with_reducible exact LeO.refl _)
   | (with_reducible exact LeO.none _)
   | (with_reducible refine LeO.ite ?_ ?_)
   | (with_reducible refine LeO.bind ?_ (fun _ => ?_))
   | exact ih0 _ _ _ _
   | exact LeO.none _
   | refine LeO.ite ?_ ?_
   | refine LeO.bind ?_ (fun _ => ?_)
theorem chars_Words.mono : ∀ a0 k, LeO (chars_Words.f k a0) (chars_Words.f (k + 1) a0) := by
 intro a0 k
 have ih0 := chars_Words.mono_l k
 unfold chars_Words.f
 repeat' first
   | (with_reducible exact ih0 _ _ _ _)
   | (with_reducible exact LeO.refl _)
   | (with_reducible exact LeO.none _)
   | (with_reducible refine LeO.ite ?_ ?_)
   | (with_reducible refine LeO.bind ?_ (fun _ => ?_))
   | exact ih0 _ _ _ _
   | exact LeO.none _
   | refine LeO.ite ?_ ?_
   | refine LeO.bind ?_ (fun _ => ?_)
set_option maxHeartbeats 8000000 in
set_option maxRecDepth 100000 in
theorem chars_Words.calls (k : Nat) (a0 : ByteArray) (r : List ByteArray) (w : World) (hU : Uni w) (h : chars_Words.f k a0 = some r) :
  Calls Tryd.prog 20 #[.string a0] w fun e w' => ∃ v0_ : Value, e = .returned (v0_) ∧ Kd.R Kd.string 9 w' w.heap.size (fun _ => True) v0_ r ∧ Below w.heap.size w w' := by
 have HU := Aside0.mk hU
 clear hU
 have HB := Aside0.mk (Below.refl w.heap.size w)
 have H : ((chars_Flat.f a0).bind fun t119 => ((strings_Split.f t119 (⟨#[32]⟩ : ByteArray)).bind fun t120 => (chars_Words.l0 k ([] : List ByteArray) t120 (t120.length : Int) 0))) = some r := h
 clear h
 replace H := Option.bind_eq_some_iff.mp H
 obtain ⟨t119, A20, H⟩ := H
 replace H : ((strings_Split.f t119 (⟨#[32]⟩ : ByteArray)).bind fun t120 => (chars_Words.l0 k ([] : List ByteArray) t120 (t120.length : Int) 0)) = some r := H
 have A2 := Aside0.mk A20
 clear A20
 replace H := Option.bind_eq_some_iff.mp H
 obtain ⟨t120, A30, H⟩ := H
 replace H : (chars_Words.l0 k ([] : List ByteArray) t120 (t120.length : Int) 0) = some r := H
 have A3 := Aside0.mk A30
 clear A30
 have H' := Aside0.mk H
 clear H
 go_enter Tryd.func20, Tryd.ntmps20
 go_wp2_with (first | ((with_reducible refine gate_callee (f := 15) rfl ?_); refine goesA (some 7) Tryd.func15 #[.string a0] rfl ?_; (with_reducible refine (chars_Flat.calls a0 t119 _ A2.out).mono ?_); rintro e w4 ⟨rfl, hb⟩; refine ⟨_, rfl, ?_⟩; have n0_ := Bs HB hb; clear HB; revert n0_; intro HB; (try clear hb); (try clear hb2); (try clear hk); (try clear hi)) | ((with_reducible refine gate_callee (f := 33) rfl ?_); refine goesL_ (some 8) rfl rfl Tryd.func33 (by kernel_rfl) rfl #[.string t119, .string (⟨#[32]⟩ : ByteArray)] rfl (by (try simp only [List.map_toArray, List.map_cons, List.map_nil]); first | done | rfl | (simp only [List.length_drop, List.length_take]; rfl)) ?_; (with_reducible refine (strings_Split.calls t119 (⟨#[32]⟩ : ByteArray) t120 _ ?sideU A3.out).mono ?_); (case sideU => first | exact HU.out | exact Uni.up HU (Bu HB) | exact Uni.below HU.out (by assumption)); rintro e w5 ⟨v121, rfl, ho0, hb⟩; refine ⟨_, rfl, ?_⟩; have n0_ := Aside0.mk (Kd.R_lower ho0 (Bz HB)); have n1_ := Bs HB hb; clear HB; revert n0_ n1_; intro HO122 HB; (try clear hb); (try clear hb2); (try clear hk); (try clear hi); (try clear ho0); obtain ⟨Ao6, co6, eo6⟩ := Kd.R_slice HO122.out; subst eo6))
 go_loopg [3, 10] k (fun kq v3 v10 w' => ∃ (x3_1 : List ByteArray) (x10_1 : Int), v10 = .int .i64 x10_1 ∧ Aside0 (chars_Words.l0 kq x3_1 t120 (t120.length : Int) x10_1 = some r) ∧ Aside0 (kq ≤ k) ∧ Aside0 (Kd.R Kd.string 9 w' w.heap.size (fun k_ => some k_ ≠ ((.slice Ao6 t120.length co6) : Value).ownBlock) v3 x3_1) ∧ Aside0 (Kd.R Kd.string 9 w' w.heap.size (fun k_ => some k_ ≠ (v3 : Value).ownBlock) (.slice Ao6 t120.length co6) t120) ∧ Aside0 (Below w.heap.size w w'))
 case atStart => exact ⟨(([] : List ByteArray)), (0), (by first | rfl | (simp; done) | (simp [*]; done)), H', ⟨Nat.le_refl _⟩, ⟨by first | exact Kd.R_nil _ _ _ _ _ | exact Kd.N_nil _ _ _ _ _ | exact Kd.V_nil _ _ _ _ _ | exact Kd.Q_nil _ _ _ _ _ | exact Kd.S_nil _ _ _ _ _⟩, ⟨by (with_reducible repeat (first | apply Kd.R_alloc | apply Kd.R_drewN | apply Kd.R_drew)); exact Kd.R_mono HO122.out (fun _ hk => (by simp [Value.ownBlock]))⟩, ⟨Bu HB⟩⟩
 case round =>
  clear H'
  try clear c1
  try clear c2
  try clear p2
  try clear c3
  obtain ⟨x3_1, x10_1, rfl, HA, HK1, HO_3, HO_8, HB⟩ := hrel
  cases gk with
  | zero => exact absurd HA.out (by simp [chars_Words.l0])
  | succ k1 =>
   have H := HA.out
   clear HA
   simp only [chars_Words.l0] at H
   by_cases c7 : x10_1 < (t120.length : Int)
   ·rw [if_pos c7] at H
    have c7b0 : decide (x10_1 < (t120.length : Int)) = true := decide_eq_true c7
    clear c7
    by_cases c8 : 0 ≤ x10_1
    ·rw [if_pos c8] at H
     have c8b0 : decide (0 ≤ x10_1) = true := decide_eq_true c8
     clear c8
     by_cases c9 : x10_1 < (t120.length : Int)
     ·rw [if_pos c9] at H
      have c9b0 : decide (x10_1 < (t120.length : Int)) = true := decide_eq_true c9
      clear c9
      by_cases c10 : (rdOf ByteArray.empty t120 x10_1).toList = ([] : List UInt8)
      ·rw [if_pos c10] at H
       have c10b0 : ((rdOf ByteArray.empty t120 x10_1).toList == ([] : List UInt8)) = true := beq_iff_eq.mpr c10
       have c10b1 : ((rdOf ByteArray.empty t120 x10_1).toList != ([] : List UInt8)) = false := bne_eq_false_iff_eq.mpr c10
       clear c10
       have H' := Aside0.mk H
       clear H
       have p123 : 0 ≤ (x10_1 : Int) := of_decide_eq_true (by first | (with_reducible assumption) | assumption)
       have q123 : x10_1 < (t120.length : Int) := of_decide_eq_true (by first | (with_reducible assumption) | assumption)
       obtain ⟨ad123, e123, hx123_0⟩ := Kd.at_string (Kd.R_reads' HO_8.out).2.2 x10_1 p123 q123
       cases e123
       replace p123 := eq_true p123
       replace q123 := eq_true q123
       go_wp2
       go_roundg k1
       case measure => have := HK1.out; omega
       case rel => exact ⟨(x3_1), (wrap64 (x10_1 + 1)), (by first | rfl | (simp; done) | (simp [*]; done)), H', ⟨by have := HK1.out; omega⟩, ⟨Ru HO_3⟩, ⟨Ru HO_8⟩, ⟨Bu HB⟩⟩
      ·rw [if_neg c10] at H
       have c10b0 : ((rdOf ByteArray.empty t120 x10_1).toList == ([] : List UInt8)) = false := beq_eq_false_iff_ne.mpr c10
       have c10b1 : ((rdOf ByteArray.empty t120 x10_1).toList != ([] : List UInt8)) = true := bne_iff_ne.mpr c10
       by_cases c11 : x3_1.length < 8796093022208
       ·rw [if_pos c11] at H
        have LMc11 := Aside0.mk c11
        clear c11
        obtain ⟨y124, hy124⟩ : ∃ y_ : List ByteArray, y_ = (x3_1 ++ [rdOf ByteArray.empty t120 x10_1]) := ⟨_, rfl⟩
        replace H : (chars_Words.l0 k1 y124 t120 (t120.length : Int) (wrap64 (x10_1 + 1))) = some r := by first | (rw [hy124]; with_reducible exact H) | (have H2_ := (Option.bind_some _ _).symm.trans H; rw [hy124]; with_reducible exact H2_) | (have H2_ := (Option.bind_some _ _).symm.trans H; with_reducible exact H2_) | with_reducible exact H | (rw [hy124]; exact H) | exact H
        have Ny124 := Aside0.mk hy124
        clear hy124
        have H' := Aside0.mk H
        clear H
        have p123 : 0 ≤ (x10_1 : Int) := of_decide_eq_true (by first | (with_reducible assumption) | assumption)
        have q123 : x10_1 < (t120.length : Int) := of_decide_eq_true (by first | (with_reducible assumption) | assumption)
        obtain ⟨ad123, e123, hx123_0⟩ := Kd.at_string (Kd.R_reads' HO_8.out).2.2 x10_1 p123 q123
        cases e123
        replace p123 := eq_true p123
        replace q123 := eq_true q123
        go_wp2_with (first | ((with_reducible refine gate_builtin (b := .append) (xs := #[.tmp 16, .tmp 18]) rfl ?_); at_builtin; refine Kd.R_append Kd.string (w0 := w) w.heap.size rfl (.tmp 16) (.tmp 18) 26 9 (.string ⟨#[]⟩) 16 rfl Tryd.underlying26 info9 rfl (by decide) (by omega) u3 x3_1 (rdOf ByteArray.empty t120 x10_1) [.string (rdOf ByteArray.empty t120 x10_1)] (fun k_ => some k_ ≠ (.slice (some ad123) t120.length co6 : Value).ownBlock) (fun _ => False) rfl rfl ?aP (fun _ hk => hk.elim) ?aF ?aO ?aB ?aS ?aL ?_; (case aP => exact rfl); (case aB => exact (Bu HB)); (case aF => exact (fun k_ hk => Kd.fresh' (Kd.R_lt (Ru HO_8)) k_ hk)); (case aO => exact (Ru HO_3)); (case aS => exact (Bz HB)); (case aL => have := LMc11.out; omega); intro v125 w12 ho hb hg hat; rw [← Ny124.out] at ho; have n0_ := Aside0.mk (Kd.R_after (ok := (fun _ => True)) (by (with_reducible repeat (first | apply Kd.R_alloc | apply Kd.R_drewN | apply Kd.R_drew)); exact Kd.R_mono HO_8.out (fun _ hk => ⟨trivial, hk⟩)) hg hat); have n1_ := Aside0.mk (hb); have n2_ := Aside0.mk (ho); clear HO_8 HB HO_3; revert n0_ n1_ n2_; intro HO_8 HB HO126; clear ho hb hg hat))
        go_roundg k1
        case measure => have := HK1.out; omega
        case rel => exact ⟨(y124), (wrap64 (x10_1 + 1)), (by first | rfl | (simp; done) | (simp [*]; done)), H', ⟨by have := HK1.out; omega⟩, ⟨Ru HO126⟩, ⟨by (with_reducible repeat (first | apply Kd.R_alloc | apply Kd.R_drewN | apply Kd.R_drew)); exact Kd.R_mono HO_8.out (fun _ hk => hk.2)⟩, ⟨Bu HB⟩⟩
       ·rw [if_neg c11] at H
        exact absurd H (by simp)
     ·rw [if_neg c9] at H
      exact absurd H (by simp)
    ·rw [if_neg c8] at H
     exact absurd H (by simp)
   ·rw [if_neg c7] at H
    have c7b0 : decide (x10_1 < (t120.length : Int)) = false := decide_eq_false c7
    clear c7
    obtain rfl := Option.some.inj H
    go_wp2
    go_ret
    exact ⟨_, rfl_, by (with_reducible repeat (first | apply Kd.R_alloc | apply Kd.R_drewN | apply Kd.R_drew)); exact Kd.R_mono HO_3.out (fun _ hk => trivial), Bu HB⟩

/-! ### chars_Collapse: function 17 -/
def chars_Collapse.f (k : Nat) (a0 : ByteArray) : Option (ByteArray) := (chars_Words.f k a0).bind fun t127 => ((strings_Join.f t127 (⟨#[32]⟩ : ByteArray)).bind fun t130 => (some t130))
theorem chars_Collapse.mono : ∀ a0 k, LeO (chars_Collapse.f k a0) (chars_Collapse.f (k + 1) a0) := by
 intro a0 k
 unfold chars_Collapse.f
 repeat' first
   | (with_reducible exact chars_Words.mono _ _)
   | (with_reducible exact LeO.refl _)
   | (with_reducible exact LeO.none _)
   | (with_reducible refine LeO.ite ?_ ?_)
   | (with_reducible refine LeO.bind ?_ (fun _ => ?_))
   | exact chars_Words.mono _ _
   | exact LeO.none _
   | refine LeO.ite ?_ ?_
   | refine LeO.bind ?_ (fun _ => ?_)
set_option maxHeartbeats 8000000 in
set_option maxRecDepth 100000 in
theorem chars_Collapse.calls (k : Nat) (a0 : ByteArray) (r : ByteArray) (w : World) (hU : Uni w) (h : chars_Collapse.f k a0 = some r) :
  Calls Tryd.prog 17 #[.string a0] w fun e w' => e = .returned (.string r) ∧ Below w.heap.size w w' := by
 have HU := Aside0.mk hU
 clear hU
 have HB := Aside0.mk (Below.refl w.heap.size w)
 have H : ((chars_Words.f k a0).bind fun t127 => ((strings_Join.f t127 (⟨#[32]⟩ : ByteArray)).bind fun t130 => (some t130))) = some r := h
 clear h
 replace H := Option.bind_eq_some_iff.mp H
 obtain ⟨t127, A20, H⟩ := H
 replace H : ((strings_Join.f t127 (⟨#[32]⟩ : ByteArray)).bind fun t130 => (some t130)) = some r := H
 have A2 := Aside0.mk A20
 clear A20
 replace H := Option.bind_eq_some_iff.mp H
 obtain ⟨t130, A30, H⟩ := H
 replace H : (some t130) = some r := H
 have A3 := Aside0.mk A30
 clear A30
 obtain rfl := Option.some.inj H
 go_enter Tryd.func17, Tryd.ntmps17
 go_wp2_with (first | ((with_reducible refine gate_callee (f := 20) rfl ?_); refine goesA (some 4) Tryd.func20 #[.string a0] rfl ?_; (with_reducible refine (chars_Words.calls k a0 t127 _ ?sideU A2.out).mono ?_); (case sideU => first | exact HU.out | exact Uni.up HU (Bu HB) | exact Uni.below HU.out (by assumption)); rintro e w4 ⟨v128, rfl, ho0, hb⟩; refine ⟨_, rfl, ?_⟩; have n0_ := Aside0.mk (Kd.R_lower ho0 (Bz HB)); have n1_ := Bs HB hb; clear HB; revert n0_ n1_; intro HO129 HB; (try clear hb); (try clear hb2); (try clear hk); (try clear hi); (try clear ho0); obtain ⟨Ao5, co5, eo5⟩ := Kd.R_slice HO129.out; subst eo5) | ((with_reducible refine gate_callee (f := 32) rfl ?_); refine goesL_ (some 5) rfl rfl Tryd.func32 (by kernel_rfl) rfl #[.slice Ao5 t127.length co5, .string (⟨#[32]⟩ : ByteArray)] rfl (by (try simp only [List.map_toArray, List.map_cons, List.map_nil]); first | done | rfl | (simp only [List.length_drop, List.length_take]; rfl)) ?_; (with_reducible refine (strings_Join.calls _ _ t127 (⟨#[32]⟩ : ByteArray) t130 _ ?side1 ?side2 A3.out).mono ?_); (case side1 => exact Cu (Kd.R_reads' HO129.out).2.2); (case side2 => exact (Kd.R_reads' HO129.out).2.1); rintro e w6 ⟨rfl, hb⟩; refine ⟨_, rfl, ?_⟩; have n0_ := Rb HO129 hb; have n1_ := Bs HB hb; clear HO129 HB; revert n0_ n1_; intro HO129 HB; (try clear hb); (try clear hb2); (try clear hk); (try clear hi)))
 go_ret
 exact ⟨rfl_, Bu HB⟩

/-! ### lanyardlaw01_awake: function 8 -/
def lanyardlaw01_awake.f (k : Nat)  : Option (Bool) := (chars_Bad.f k (([97, 192, 128] : List Int))).bind fun t134 => (if t134 = 1 then ((chars_Name.f k (([(⟨#[95, 97]⟩ : ByteArray), (⟨#[195, 169, 49]⟩ : ByteArray)] : List ByteArray))).bind fun t138 => (if t138 = true then ((chars_Name.f k (([(⟨#[49, 97]⟩ : ByteArray)] : List ByteArray))).bind fun t142 => (if t142 = true then (some false) else ((chars_Name.f k (([(⟨#[97, 58, 98]⟩ : ByteArray)] : List ByteArray))).bind fun t146 => (if t146 = true then (some false) else ((chars_Name.f k (([(⟨#[]⟩ : ByteArray)] : List ByteArray))).bind fun t150 => (if t150 = true then (some false) else ((chars_Collapse.f k (⟨#[32, 32, 97, 32, 10, 32, 98, 32]⟩ : ByteArray)).bind fun t151 => (some (t151.toList == ([97, 32, 98] : List UInt8)))))))))) else (some false))) else (some false))
theorem lanyardlaw01_awake.mono : ∀ k, LeO (lanyardlaw01_awake.f k ) (lanyardlaw01_awake.f (k + 1) ) := by
 intro  k
 unfold lanyardlaw01_awake.f
 repeat' first
   | (with_reducible exact chars_Bad.mono _ _)
   | (with_reducible exact chars_Collapse.mono _ _)
   | (with_reducible exact chars_Name.mono _ _)
   | (with_reducible exact LeO.refl _)
   | (with_reducible exact LeO.none _)
   | (with_reducible refine LeO.ite ?_ ?_)
   | (with_reducible refine LeO.bind ?_ (fun _ => ?_))
   | exact chars_Bad.mono _ _
   | exact chars_Collapse.mono _ _
   | exact chars_Name.mono _ _
   | exact LeO.none _
   | refine LeO.ite ?_ ?_
   | refine LeO.bind ?_ (fun _ => ?_)
set_option maxHeartbeats 8000000 in
set_option maxRecDepth 100000 in
theorem lanyardlaw01_awake.calls (k : Nat)  (r : Bool) (w : World) (hU : Uni w) (h : lanyardlaw01_awake.f k  = some r) :
  Calls Tryd.prog 8 #[] w fun e w' => e = .returned (.bool r) ∧ Below w.heap.size w w' := by
 have HU := Aside0.mk hU
 clear hU
 have HB := Aside0.mk (Below.refl w.heap.size w)
 have H : ((chars_Bad.f k (([97, 192, 128] : List Int))).bind fun t134 => (if t134 = 1 then ((chars_Name.f k (([(⟨#[95, 97]⟩ : ByteArray), (⟨#[195, 169, 49]⟩ : ByteArray)] : List ByteArray))).bind fun t138 => (if t138 = true then ((chars_Name.f k (([(⟨#[49, 97]⟩ : ByteArray)] : List ByteArray))).bind fun t142 => (if t142 = true then (some false) else ((chars_Name.f k (([(⟨#[97, 58, 98]⟩ : ByteArray)] : List ByteArray))).bind fun t146 => (if t146 = true then (some false) else ((chars_Name.f k (([(⟨#[]⟩ : ByteArray)] : List ByteArray))).bind fun t150 => (if t150 = true then (some false) else ((chars_Collapse.f k (⟨#[32, 32, 97, 32, 10, 32, 98, 32]⟩ : ByteArray)).bind fun t151 => (some (t151.toList == ([97, 32, 98] : List UInt8)))))))))) else (some false))) else (some false))) = some r := h
 clear h
 obtain ⟨y131, hy131⟩ : ∃ y_ : List Int, y_ = (([97, 192, 128] : List Int)) := ⟨_, rfl⟩
 replace H : ((chars_Bad.f k y131).bind fun t134 => (if t134 = 1 then ((chars_Name.f k (([(⟨#[95, 97]⟩ : ByteArray), (⟨#[195, 169, 49]⟩ : ByteArray)] : List ByteArray))).bind fun t138 => (if t138 = true then ((chars_Name.f k (([(⟨#[49, 97]⟩ : ByteArray)] : List ByteArray))).bind fun t142 => (if t142 = true then (some false) else ((chars_Name.f k (([(⟨#[97, 58, 98]⟩ : ByteArray)] : List ByteArray))).bind fun t146 => (if t146 = true then (some false) else ((chars_Name.f k (([(⟨#[]⟩ : ByteArray)] : List ByteArray))).bind fun t150 => (if t150 = true then (some false) else ((chars_Collapse.f k (⟨#[32, 32, 97, 32, 10, 32, 98, 32]⟩ : ByteArray)).bind fun t151 => (some (t151.toList == ([97, 32, 98] : List UInt8)))))))))) else (some false))) else (some false))) = some r := by first | (rw [hy131]; with_reducible exact H) | (have H2_ := (Option.bind_some _ _).symm.trans H; rw [hy131]; with_reducible exact H2_) | (have H2_ := (Option.bind_some _ _).symm.trans H; with_reducible exact H2_) | with_reducible exact H | (rw [hy131]; exact H) | exact H
 have Ny131 := Aside0.mk hy131
 clear hy131
 replace H := Option.bind_eq_some_iff.mp H
 obtain ⟨t134, A10, H⟩ := H
 replace H : (if t134 = 1 then ((chars_Name.f k (([(⟨#[95, 97]⟩ : ByteArray), (⟨#[195, 169, 49]⟩ : ByteArray)] : List ByteArray))).bind fun t138 => (if t138 = true then ((chars_Name.f k (([(⟨#[49, 97]⟩ : ByteArray)] : List ByteArray))).bind fun t142 => (if t142 = true then (some false) else ((chars_Name.f k (([(⟨#[97, 58, 98]⟩ : ByteArray)] : List ByteArray))).bind fun t146 => (if t146 = true then (some false) else ((chars_Name.f k (([(⟨#[]⟩ : ByteArray)] : List ByteArray))).bind fun t150 => (if t150 = true then (some false) else ((chars_Collapse.f k (⟨#[32, 32, 97, 32, 10, 32, 98, 32]⟩ : ByteArray)).bind fun t151 => (some (t151.toList == ([97, 32, 98] : List UInt8)))))))))) else (some false))) else (some false)) = some r := H
 have A1 := Aside0.mk A10
 clear A10
 by_cases c2 : t134 = 1
 ·rw [if_pos c2] at H
  have c2b0 : (t134 == 1) = true := beq_iff_eq.mpr c2
  have c2b1 : (t134 != 1) = false := bne_eq_false_iff_eq.mpr c2
  clear c2
  obtain ⟨y135, hy135⟩ : ∃ y_ : List ByteArray, y_ = (([(⟨#[95, 97]⟩ : ByteArray), (⟨#[195, 169, 49]⟩ : ByteArray)] : List ByteArray)) := ⟨_, rfl⟩
  replace H : ((chars_Name.f k y135).bind fun t138 => (if t138 = true then ((chars_Name.f k (([(⟨#[49, 97]⟩ : ByteArray)] : List ByteArray))).bind fun t142 => (if t142 = true then (some false) else ((chars_Name.f k (([(⟨#[97, 58, 98]⟩ : ByteArray)] : List ByteArray))).bind fun t146 => (if t146 = true then (some false) else ((chars_Name.f k (([(⟨#[]⟩ : ByteArray)] : List ByteArray))).bind fun t150 => (if t150 = true then (some false) else ((chars_Collapse.f k (⟨#[32, 32, 97, 32, 10, 32, 98, 32]⟩ : ByteArray)).bind fun t151 => (some (t151.toList == ([97, 32, 98] : List UInt8)))))))))) else (some false))) = some r := by first | (rw [hy135]; with_reducible exact H) | (have H2_ := (Option.bind_some _ _).symm.trans H; rw [hy135]; with_reducible exact H2_) | (have H2_ := (Option.bind_some _ _).symm.trans H; with_reducible exact H2_) | with_reducible exact H | (rw [hy135]; exact H) | exact H
  have Ny135 := Aside0.mk hy135
  clear hy135
  replace H := Option.bind_eq_some_iff.mp H
  obtain ⟨t138, A30, H⟩ := H
  replace H : (if t138 = true then ((chars_Name.f k (([(⟨#[49, 97]⟩ : ByteArray)] : List ByteArray))).bind fun t142 => (if t142 = true then (some false) else ((chars_Name.f k (([(⟨#[97, 58, 98]⟩ : ByteArray)] : List ByteArray))).bind fun t146 => (if t146 = true then (some false) else ((chars_Name.f k (([(⟨#[]⟩ : ByteArray)] : List ByteArray))).bind fun t150 => (if t150 = true then (some false) else ((chars_Collapse.f k (⟨#[32, 32, 97, 32, 10, 32, 98, 32]⟩ : ByteArray)).bind fun t151 => (some (t151.toList == ([97, 32, 98] : List UInt8)))))))))) else (some false)) = some r := H
  have A3 := Aside0.mk A30
  clear A30
  by_cases c4 : t138 = true
  ·subst c4
   have H1 : ((chars_Name.f k (([(⟨#[49, 97]⟩ : ByteArray)] : List ByteArray))).bind fun t142 => (if t142 = true then (some false) else ((chars_Name.f k (([(⟨#[97, 58, 98]⟩ : ByteArray)] : List ByteArray))).bind fun t146 => (if t146 = true then (some false) else ((chars_Name.f k (([(⟨#[]⟩ : ByteArray)] : List ByteArray))).bind fun t150 => (if t150 = true then (some false) else ((chars_Collapse.f k (⟨#[32, 32, 97, 32, 10, 32, 98, 32]⟩ : ByteArray)).bind fun t151 => (some (t151.toList == ([97, 32, 98] : List UInt8)))))))))) = some r := by rw [if_pos rfl] at H; exact H
   clear H
   have H := H1
   clear H1
   obtain ⟨y139, hy139⟩ : ∃ y_ : List ByteArray, y_ = (([(⟨#[49, 97]⟩ : ByteArray)] : List ByteArray)) := ⟨_, rfl⟩
   replace H : ((chars_Name.f k y139).bind fun t142 => (if t142 = true then (some false) else ((chars_Name.f k (([(⟨#[97, 58, 98]⟩ : ByteArray)] : List ByteArray))).bind fun t146 => (if t146 = true then (some false) else ((chars_Name.f k (([(⟨#[]⟩ : ByteArray)] : List ByteArray))).bind fun t150 => (if t150 = true then (some false) else ((chars_Collapse.f k (⟨#[32, 32, 97, 32, 10, 32, 98, 32]⟩ : ByteArray)).bind fun t151 => (some (t151.toList == ([97, 32, 98] : List UInt8)))))))))) = some r := by first | (rw [hy139]; with_reducible exact H) | (have H2_ := (Option.bind_some _ _).symm.trans H; rw [hy139]; with_reducible exact H2_) | (have H2_ := (Option.bind_some _ _).symm.trans H; with_reducible exact H2_) | with_reducible exact H | (rw [hy139]; exact H) | exact H
   have Ny139 := Aside0.mk hy139
   clear hy139
   replace H := Option.bind_eq_some_iff.mp H
   obtain ⟨t142, A50, H⟩ := H
   replace H : (if t142 = true then (some false) else ((chars_Name.f k (([(⟨#[97, 58, 98]⟩ : ByteArray)] : List ByteArray))).bind fun t146 => (if t146 = true then (some false) else ((chars_Name.f k (([(⟨#[]⟩ : ByteArray)] : List ByteArray))).bind fun t150 => (if t150 = true then (some false) else ((chars_Collapse.f k (⟨#[32, 32, 97, 32, 10, 32, 98, 32]⟩ : ByteArray)).bind fun t151 => (some (t151.toList == ([97, 32, 98] : List UInt8))))))))) = some r := H
   have A5 := Aside0.mk A50
   clear A50
   by_cases c6 : t142 = true
   ·subst c6
    have H1 : (some false) = some r := by rw [if_pos rfl] at H; exact H
    clear H
    have H := H1
    clear H1
    obtain rfl := Option.some.inj H
    go_enter Tryd.func8, Tryd.ntmps8
    go_wp2_with (first | ((with_reducible refine gate_dst (N := 1) rfl ?_); (try (refine gate_guard (by rfl) ?_; dsimp only)); refine litI .u8 5 1 [97, 192, 128] [.int .u8 97, .int .u8 192, .int .u8 128] ?hr ?_; (case hr => first | (go_simp; done) | (go_simp; rfl)); intro v132 w7 ho8 hb; (first | rw [← Ny131.out] at ho8 | (simp only [Int.reduceToNat] at ho8; rw [← Ny131.out] at ho8)); have n0_ := Aside0.mk (Kd.R_lower ho8 (Bz HB)); have n1_ := Bs HB hb; clear HB; revert n0_ n1_; intro HO133 HB; clear hb ho8; obtain ⟨Ao9, co9, eo9⟩ := Kd.R_slice HO133.out; subst eo9) | ((with_reducible refine gate_callee (f := 9) rfl ?_); refine goesA (some 2) Tryd.func9 #[.slice Ao9 y131.length co9] rfl ?_; (with_reducible refine (chars_Bad.calls k _ _ y131 t134 _ ?side1 ?side2 ?sideU A1.out).mono ?_); (case sideU => first | exact HU.out | exact Uni.up HU (Bu HB) | exact Uni.below HU.out (by assumption)); (case side1 => exact Cu (Kd.R_reads' HO133.out).2.2); (case side2 => exact (Kd.R_reads' HO133.out).2.1); rintro e w10 ⟨rfl, hb⟩; refine ⟨_, rfl, ?_⟩; have n0_ := Rb HO133 hb; have n1_ := Bs HB hb; clear HO133 HB; revert n0_ n1_; intro HO133 HB; (try clear hb); (try clear hb2); (try clear hk); (try clear hi)) | ((with_reducible refine gate_dst (N := 5) rfl ?_); (try (refine gate_guard (by rfl) ?_; dsimp only)); refine Kd.R_lit Kd.string _ 9 ?hg (N := 5) ?hd (xs := ([(⟨#[95, 97]⟩ : ByteArray), (⟨#[195, 169, 49]⟩ : ByteArray)] : List ByteArray)) (inner := [.string (⟨#[95, 97]⟩ : ByteArray), .string (⟨#[195, 169, 49]⟩ : ByteArray)]) (ok := fun _ => True) (okp := fun _ => True) ?hr ?hp (fun _ hk => hk) trivial (Below.refl _ _) (Nat.le_refl _) (by simp) ?_; (case hd => rfl); (case hg => rfl); (case hr => first | (go_simp; done) | (go_simp; rfl)); (case hp => exact (Reps.one (show Kd.M Kd.string _ _ _ (⟨#[95, 97]⟩ : ByteArray) [.string (⟨#[95, 97]⟩ : ByteArray)] from rfl) (Reps.one (show Kd.M Kd.string _ _ _ (⟨#[195, 169, 49]⟩ : ByteArray) [.string (⟨#[195, 169, 49]⟩ : ByteArray)] from rfl) (Reps.none _ _)))); intro v136 w11 ho12 hb hg_ hnew_; clear hg_ hnew_; (first | rw [← Ny135.out] at ho12 | (simp only [Int.reduceToNat] at ho12; rw [← Ny135.out] at ho12)); have n0_ := Rb HO133 hb; have n1_ := Aside0.mk (Kd.R_lower ho12 (Bz HB)); have n2_ := Bs HB hb; clear HO133 HB; revert n0_ n1_ n2_; intro HO133 HO137 HB; clear hb ho12; obtain ⟨Ao13, co13, eo13⟩ := Kd.R_slice HO137.out; subst eo13) | (go_at_call 12; (with_reducible refine (chars_Name.calls k _ _ y135 true _ ?side1 ?side2 ?sideU A3.out).mono ?_); (case sideU => first | exact HU.out | exact Uni.up HU (Bu HB) | exact Uni.below HU.out (by assumption)); (case side1 => exact Cu (Kd.R_reads' HO137.out).2.2); (case side2 => exact (Kd.R_reads' HO137.out).2.1); rintro e w14 ⟨rfl, hb⟩; have n0_ := Rb HO133 hb; have n1_ := Rb HO137 hb; have n2_ := Bs HB hb; clear HO133 HO137 HB; revert n0_ n1_ n2_; intro HO133 HO137 HB; (try clear hb); (try clear hb2); (try clear hk); (try clear hi)) | ((with_reducible refine gate_dst (N := 9) rfl ?_); (try (refine gate_guard (by rfl) ?_; dsimp only)); refine Kd.R_lit Kd.string _ 9 ?hg (N := 9) ?hd (xs := ([(⟨#[49, 97]⟩ : ByteArray)] : List ByteArray)) (inner := [.string (⟨#[49, 97]⟩ : ByteArray)]) (ok := fun _ => True) (okp := fun _ => True) ?hr ?hp (fun _ hk => hk) trivial (Below.refl _ _) (Nat.le_refl _) (by simp) ?_; (case hd => rfl); (case hg => rfl); (case hr => first | (go_simp; done) | (go_simp; rfl)); (case hp => exact (Reps.one (show Kd.M Kd.string _ _ _ (⟨#[49, 97]⟩ : ByteArray) [.string (⟨#[49, 97]⟩ : ByteArray)] from rfl) (Reps.none _ _))); intro v140 w15 ho16 hb hg_ hnew_; clear hg_ hnew_; (first | rw [← Ny139.out] at ho16 | (simp only [Int.reduceToNat] at ho16; rw [← Ny139.out] at ho16)); have n0_ := Rb HO133 hb; have n1_ := Re HO137 (Kd.R_base ho16) hb; have n2_ := Aside0.mk (Kd.R_lower (Kd.R_new' ho16 (Kd.R_lt (Ru HO137))) (Bz HB)); have n3_ := Bs HB hb; clear HO133 HO137 HB; revert n0_ n1_ n2_ n3_; intro HO133 HO137 HO141 HB; clear hb ho16; obtain ⟨Ao17, co17, eo17⟩ := Kd.R_slice HO141.out; subst eo17) | (go_at_call 12; (with_reducible refine (chars_Name.calls k _ _ y139 true _ ?side1 ?side2 ?sideU A5.out).mono ?_); (case sideU => first | exact HU.out | exact Uni.up HU (Bu HB) | exact Uni.below HU.out (by assumption)); (case side1 => exact Cu (Kd.R_reads' HO141.out).2.2); (case side2 => exact (Kd.R_reads' HO141.out).2.1); rintro e w18 ⟨rfl, hb⟩; have n0_ := Rb HO133 hb; have n1_ := Rb HO137 hb; have n2_ := Rb HO141 hb; have n3_ := Bs HB hb; clear HO133 HO137 HO141 HB; revert n0_ n1_ n2_ n3_; intro HO133 HO137 HO141 HB; (try clear hb); (try clear hb2); (try clear hk); (try clear hi)))
    go_ret
    exact ⟨rfl_, Bu HB⟩
   ·replace c6 := Bool.eq_false_iff.mpr c6
    subst c6
    have H1 : ((chars_Name.f k (([(⟨#[97, 58, 98]⟩ : ByteArray)] : List ByteArray))).bind fun t146 => (if t146 = true then (some false) else ((chars_Name.f k (([(⟨#[]⟩ : ByteArray)] : List ByteArray))).bind fun t150 => (if t150 = true then (some false) else ((chars_Collapse.f k (⟨#[32, 32, 97, 32, 10, 32, 98, 32]⟩ : ByteArray)).bind fun t151 => (some (t151.toList == ([97, 32, 98] : List UInt8)))))))) = some r := by rw [if_neg (show ¬ (false = true) by decide)] at H; exact H
    clear H
    have H := H1
    clear H1
    obtain ⟨y143, hy143⟩ : ∃ y_ : List ByteArray, y_ = (([(⟨#[97, 58, 98]⟩ : ByteArray)] : List ByteArray)) := ⟨_, rfl⟩
    replace H : ((chars_Name.f k y143).bind fun t146 => (if t146 = true then (some false) else ((chars_Name.f k (([(⟨#[]⟩ : ByteArray)] : List ByteArray))).bind fun t150 => (if t150 = true then (some false) else ((chars_Collapse.f k (⟨#[32, 32, 97, 32, 10, 32, 98, 32]⟩ : ByteArray)).bind fun t151 => (some (t151.toList == ([97, 32, 98] : List UInt8)))))))) = some r := by first | (rw [hy143]; with_reducible exact H) | (have H2_ := (Option.bind_some _ _).symm.trans H; rw [hy143]; with_reducible exact H2_) | (have H2_ := (Option.bind_some _ _).symm.trans H; with_reducible exact H2_) | with_reducible exact H | (rw [hy143]; exact H) | exact H
    have Ny143 := Aside0.mk hy143
    clear hy143
    replace H := Option.bind_eq_some_iff.mp H
    obtain ⟨t146, A190, H⟩ := H
    replace H : (if t146 = true then (some false) else ((chars_Name.f k (([(⟨#[]⟩ : ByteArray)] : List ByteArray))).bind fun t150 => (if t150 = true then (some false) else ((chars_Collapse.f k (⟨#[32, 32, 97, 32, 10, 32, 98, 32]⟩ : ByteArray)).bind fun t151 => (some (t151.toList == ([97, 32, 98] : List UInt8))))))) = some r := H
    have A19 := Aside0.mk A190
    clear A190
    by_cases c20 : t146 = true
    ·subst c20
     have H1 : (some false) = some r := by rw [if_pos rfl] at H; exact H
     clear H
     have H := H1
     clear H1
     obtain rfl := Option.some.inj H
     go_enter Tryd.func8, Tryd.ntmps8
     go_wp2_with (first | ((with_reducible refine gate_dst (N := 1) rfl ?_); (try (refine gate_guard (by rfl) ?_; dsimp only)); refine litI .u8 5 1 [97, 192, 128] [.int .u8 97, .int .u8 192, .int .u8 128] ?hr ?_; (case hr => first | (go_simp; done) | (go_simp; rfl)); intro v132 w21 ho22 hb; (first | rw [← Ny131.out] at ho22 | (simp only [Int.reduceToNat] at ho22; rw [← Ny131.out] at ho22)); have n0_ := Aside0.mk (Kd.R_lower ho22 (Bz HB)); have n1_ := Bs HB hb; clear HB; revert n0_ n1_; intro HO133 HB; clear hb ho22; obtain ⟨Ao23, co23, eo23⟩ := Kd.R_slice HO133.out; subst eo23) | ((with_reducible refine gate_callee (f := 9) rfl ?_); refine goesA (some 2) Tryd.func9 #[.slice Ao23 y131.length co23] rfl ?_; (with_reducible refine (chars_Bad.calls k _ _ y131 t134 _ ?side1 ?side2 ?sideU A1.out).mono ?_); (case sideU => first | exact HU.out | exact Uni.up HU (Bu HB) | exact Uni.below HU.out (by assumption)); (case side1 => exact Cu (Kd.R_reads' HO133.out).2.2); (case side2 => exact (Kd.R_reads' HO133.out).2.1); rintro e w24 ⟨rfl, hb⟩; refine ⟨_, rfl, ?_⟩; have n0_ := Rb HO133 hb; have n1_ := Bs HB hb; clear HO133 HB; revert n0_ n1_; intro HO133 HB; (try clear hb); (try clear hb2); (try clear hk); (try clear hi)) | ((with_reducible refine gate_dst (N := 5) rfl ?_); (try (refine gate_guard (by rfl) ?_; dsimp only)); refine Kd.R_lit Kd.string _ 9 ?hg (N := 5) ?hd (xs := ([(⟨#[95, 97]⟩ : ByteArray), (⟨#[195, 169, 49]⟩ : ByteArray)] : List ByteArray)) (inner := [.string (⟨#[95, 97]⟩ : ByteArray), .string (⟨#[195, 169, 49]⟩ : ByteArray)]) (ok := fun _ => True) (okp := fun _ => True) ?hr ?hp (fun _ hk => hk) trivial (Below.refl _ _) (Nat.le_refl _) (by simp) ?_; (case hd => rfl); (case hg => rfl); (case hr => first | (go_simp; done) | (go_simp; rfl)); (case hp => exact (Reps.one (show Kd.M Kd.string _ _ _ (⟨#[95, 97]⟩ : ByteArray) [.string (⟨#[95, 97]⟩ : ByteArray)] from rfl) (Reps.one (show Kd.M Kd.string _ _ _ (⟨#[195, 169, 49]⟩ : ByteArray) [.string (⟨#[195, 169, 49]⟩ : ByteArray)] from rfl) (Reps.none _ _)))); intro v136 w25 ho26 hb hg_ hnew_; clear hg_ hnew_; (first | rw [← Ny135.out] at ho26 | (simp only [Int.reduceToNat] at ho26; rw [← Ny135.out] at ho26)); have n0_ := Rb HO133 hb; have n1_ := Aside0.mk (Kd.R_lower ho26 (Bz HB)); have n2_ := Bs HB hb; clear HO133 HB; revert n0_ n1_ n2_; intro HO133 HO137 HB; clear hb ho26; obtain ⟨Ao27, co27, eo27⟩ := Kd.R_slice HO137.out; subst eo27) | (go_at_call 12; (with_reducible refine (chars_Name.calls k _ _ y135 true _ ?side1 ?side2 ?sideU A3.out).mono ?_); (case sideU => first | exact HU.out | exact Uni.up HU (Bu HB) | exact Uni.below HU.out (by assumption)); (case side1 => exact Cu (Kd.R_reads' HO137.out).2.2); (case side2 => exact (Kd.R_reads' HO137.out).2.1); rintro e w28 ⟨rfl, hb⟩; have n0_ := Rb HO133 hb; have n1_ := Rb HO137 hb; have n2_ := Bs HB hb; clear HO133 HO137 HB; revert n0_ n1_ n2_; intro HO133 HO137 HB; (try clear hb); (try clear hb2); (try clear hk); (try clear hi)) | ((with_reducible refine gate_dst (N := 9) rfl ?_); (try (refine gate_guard (by rfl) ?_; dsimp only)); refine Kd.R_lit Kd.string _ 9 ?hg (N := 9) ?hd (xs := ([(⟨#[49, 97]⟩ : ByteArray)] : List ByteArray)) (inner := [.string (⟨#[49, 97]⟩ : ByteArray)]) (ok := fun _ => True) (okp := fun _ => True) ?hr ?hp (fun _ hk => hk) trivial (Below.refl _ _) (Nat.le_refl _) (by simp) ?_; (case hd => rfl); (case hg => rfl); (case hr => first | (go_simp; done) | (go_simp; rfl)); (case hp => exact (Reps.one (show Kd.M Kd.string _ _ _ (⟨#[49, 97]⟩ : ByteArray) [.string (⟨#[49, 97]⟩ : ByteArray)] from rfl) (Reps.none _ _))); intro v140 w29 ho30 hb hg_ hnew_; clear hg_ hnew_; (first | rw [← Ny139.out] at ho30 | (simp only [Int.reduceToNat] at ho30; rw [← Ny139.out] at ho30)); have n0_ := Rb HO133 hb; have n1_ := Re HO137 (Kd.R_base ho30) hb; have n2_ := Aside0.mk (Kd.R_lower (Kd.R_new' ho30 (Kd.R_lt (Ru HO137))) (Bz HB)); have n3_ := Bs HB hb; clear HO133 HO137 HB; revert n0_ n1_ n2_ n3_; intro HO133 HO137 HO141 HB; clear hb ho30; obtain ⟨Ao31, co31, eo31⟩ := Kd.R_slice HO141.out; subst eo31) | (go_at_call 12; (with_reducible refine (chars_Name.calls k _ _ y139 false _ ?side1 ?side2 ?sideU A5.out).mono ?_); (case sideU => first | exact HU.out | exact Uni.up HU (Bu HB) | exact Uni.below HU.out (by assumption)); (case side1 => exact Cu (Kd.R_reads' HO141.out).2.2); (case side2 => exact (Kd.R_reads' HO141.out).2.1); rintro e w32 ⟨rfl, hb⟩; have n0_ := Rb HO133 hb; have n1_ := Rb HO137 hb; have n2_ := Rb HO141 hb; have n3_ := Bs HB hb; clear HO133 HO137 HO141 HB; revert n0_ n1_ n2_ n3_; intro HO133 HO137 HO141 HB; (try clear hb); (try clear hb2); (try clear hk); (try clear hi)) | ((with_reducible refine gate_dst (N := 14) rfl ?_); (try (refine gate_guard (by rfl) ?_; dsimp only)); refine Kd.R_lit Kd.string _ 9 ?hg (N := 14) ?hd (xs := ([(⟨#[97, 58, 98]⟩ : ByteArray)] : List ByteArray)) (inner := [.string (⟨#[97, 58, 98]⟩ : ByteArray)]) (ok := fun _ => True) (okp := fun _ => True) ?hr ?hp (fun _ hk => hk) trivial (Below.refl _ _) (Nat.le_refl _) (by simp) ?_; (case hd => rfl); (case hg => rfl); (case hr => first | (go_simp; done) | (go_simp; rfl)); (case hp => exact (Reps.one (show Kd.M Kd.string _ _ _ (⟨#[97, 58, 98]⟩ : ByteArray) [.string (⟨#[97, 58, 98]⟩ : ByteArray)] from rfl) (Reps.none _ _))); intro v144 w33 ho34 hb hg_ hnew_; clear hg_ hnew_; (first | rw [← Ny143.out] at ho34 | (simp only [Int.reduceToNat] at ho34; rw [← Ny143.out] at ho34)); have n0_ := Rb HO133 hb; have n1_ := Re HO137 (Kd.R_base ho34) hb; have n2_ := Re HO141 (Kd.R_base ho34) hb; have n3_ := Aside0.mk (Kd.R_lower (Kd.R_new' (Kd.R_new' ho34 (Kd.R_lt (Ru HO137))) (Kd.R_lt (Ru HO141))) (Bz HB)); have n4_ := Bs HB hb; clear HO133 HO137 HO141 HB; revert n0_ n1_ n2_ n3_ n4_; intro HO133 HO137 HO141 HO145 HB; clear hb ho34; obtain ⟨Ao35, co35, eo35⟩ := Kd.R_slice HO145.out; subst eo35) | (go_at_call 12; (with_reducible refine (chars_Name.calls k _ _ y143 true _ ?side1 ?side2 ?sideU A19.out).mono ?_); (case sideU => first | exact HU.out | exact Uni.up HU (Bu HB) | exact Uni.below HU.out (by assumption)); (case side1 => exact Cu (Kd.R_reads' HO145.out).2.2); (case side2 => exact (Kd.R_reads' HO145.out).2.1); rintro e w36 ⟨rfl, hb⟩; have n0_ := Rb HO133 hb; have n1_ := Rb HO137 hb; have n2_ := Rb HO141 hb; have n3_ := Rb HO145 hb; have n4_ := Bs HB hb; clear HO133 HO137 HO141 HO145 HB; revert n0_ n1_ n2_ n3_ n4_; intro HO133 HO137 HO141 HO145 HB; (try clear hb); (try clear hb2); (try clear hk); (try clear hi)))
     go_ret
     exact ⟨rfl_, Bu HB⟩
    ·replace c20 := Bool.eq_false_iff.mpr c20
     subst c20
     have H1 : ((chars_Name.f k (([(⟨#[]⟩ : ByteArray)] : List ByteArray))).bind fun t150 => (if t150 = true then (some false) else ((chars_Collapse.f k (⟨#[32, 32, 97, 32, 10, 32, 98, 32]⟩ : ByteArray)).bind fun t151 => (some (t151.toList == ([97, 32, 98] : List UInt8)))))) = some r := by rw [if_neg (show ¬ (false = true) by decide)] at H; exact H
     clear H
     have H := H1
     clear H1
     obtain ⟨y147, hy147⟩ : ∃ y_ : List ByteArray, y_ = (([(⟨#[]⟩ : ByteArray)] : List ByteArray)) := ⟨_, rfl⟩
     replace H : ((chars_Name.f k y147).bind fun t150 => (if t150 = true then (some false) else ((chars_Collapse.f k (⟨#[32, 32, 97, 32, 10, 32, 98, 32]⟩ : ByteArray)).bind fun t151 => (some (t151.toList == ([97, 32, 98] : List UInt8)))))) = some r := by first | (rw [hy147]; with_reducible exact H) | (have H2_ := (Option.bind_some _ _).symm.trans H; rw [hy147]; with_reducible exact H2_) | (have H2_ := (Option.bind_some _ _).symm.trans H; with_reducible exact H2_) | with_reducible exact H | (rw [hy147]; exact H) | exact H
     have Ny147 := Aside0.mk hy147
     clear hy147
     replace H := Option.bind_eq_some_iff.mp H
     obtain ⟨t150, A370, H⟩ := H
     replace H : (if t150 = true then (some false) else ((chars_Collapse.f k (⟨#[32, 32, 97, 32, 10, 32, 98, 32]⟩ : ByteArray)).bind fun t151 => (some (t151.toList == ([97, 32, 98] : List UInt8))))) = some r := H
     have A37 := Aside0.mk A370
     clear A370
     by_cases c38 : t150 = true
     ·subst c38
      have H1 : (some false) = some r := by rw [if_pos rfl] at H; exact H
      clear H
      have H := H1
      clear H1
      obtain rfl := Option.some.inj H
      go_enter Tryd.func8, Tryd.ntmps8
      go_wp2_with (first | ((with_reducible refine gate_dst (N := 1) rfl ?_); (try (refine gate_guard (by rfl) ?_; dsimp only)); refine litI .u8 5 1 [97, 192, 128] [.int .u8 97, .int .u8 192, .int .u8 128] ?hr ?_; (case hr => first | (go_simp; done) | (go_simp; rfl)); intro v132 w39 ho40 hb; (first | rw [← Ny131.out] at ho40 | (simp only [Int.reduceToNat] at ho40; rw [← Ny131.out] at ho40)); have n0_ := Aside0.mk (Kd.R_lower ho40 (Bz HB)); have n1_ := Bs HB hb; clear HB; revert n0_ n1_; intro HO133 HB; clear hb ho40; obtain ⟨Ao41, co41, eo41⟩ := Kd.R_slice HO133.out; subst eo41) | ((with_reducible refine gate_callee (f := 9) rfl ?_); refine goesA (some 2) Tryd.func9 #[.slice Ao41 y131.length co41] rfl ?_; (with_reducible refine (chars_Bad.calls k _ _ y131 t134 _ ?side1 ?side2 ?sideU A1.out).mono ?_); (case sideU => first | exact HU.out | exact Uni.up HU (Bu HB) | exact Uni.below HU.out (by assumption)); (case side1 => exact Cu (Kd.R_reads' HO133.out).2.2); (case side2 => exact (Kd.R_reads' HO133.out).2.1); rintro e w42 ⟨rfl, hb⟩; refine ⟨_, rfl, ?_⟩; have n0_ := Rb HO133 hb; have n1_ := Bs HB hb; clear HO133 HB; revert n0_ n1_; intro HO133 HB; (try clear hb); (try clear hb2); (try clear hk); (try clear hi)) | ((with_reducible refine gate_dst (N := 5) rfl ?_); (try (refine gate_guard (by rfl) ?_; dsimp only)); refine Kd.R_lit Kd.string _ 9 ?hg (N := 5) ?hd (xs := ([(⟨#[95, 97]⟩ : ByteArray), (⟨#[195, 169, 49]⟩ : ByteArray)] : List ByteArray)) (inner := [.string (⟨#[95, 97]⟩ : ByteArray), .string (⟨#[195, 169, 49]⟩ : ByteArray)]) (ok := fun _ => True) (okp := fun _ => True) ?hr ?hp (fun _ hk => hk) trivial (Below.refl _ _) (Nat.le_refl _) (by simp) ?_; (case hd => rfl); (case hg => rfl); (case hr => first | (go_simp; done) | (go_simp; rfl)); (case hp => exact (Reps.one (show Kd.M Kd.string _ _ _ (⟨#[95, 97]⟩ : ByteArray) [.string (⟨#[95, 97]⟩ : ByteArray)] from rfl) (Reps.one (show Kd.M Kd.string _ _ _ (⟨#[195, 169, 49]⟩ : ByteArray) [.string (⟨#[195, 169, 49]⟩ : ByteArray)] from rfl) (Reps.none _ _)))); intro v136 w43 ho44 hb hg_ hnew_; clear hg_ hnew_; (first | rw [← Ny135.out] at ho44 | (simp only [Int.reduceToNat] at ho44; rw [← Ny135.out] at ho44)); have n0_ := Rb HO133 hb; have n1_ := Aside0.mk (Kd.R_lower ho44 (Bz HB)); have n2_ := Bs HB hb; clear HO133 HB; revert n0_ n1_ n2_; intro HO133 HO137 HB; clear hb ho44; obtain ⟨Ao45, co45, eo45⟩ := Kd.R_slice HO137.out; subst eo45) | (go_at_call 12; (with_reducible refine (chars_Name.calls k _ _ y135 true _ ?side1 ?side2 ?sideU A3.out).mono ?_); (case sideU => first | exact HU.out | exact Uni.up HU (Bu HB) | exact Uni.below HU.out (by assumption)); (case side1 => exact Cu (Kd.R_reads' HO137.out).2.2); (case side2 => exact (Kd.R_reads' HO137.out).2.1); rintro e w46 ⟨rfl, hb⟩; have n0_ := Rb HO133 hb; have n1_ := Rb HO137 hb; have n2_ := Bs HB hb; clear HO133 HO137 HB; revert n0_ n1_ n2_; intro HO133 HO137 HB; (try clear hb); (try clear hb2); (try clear hk); (try clear hi)) | ((with_reducible refine gate_dst (N := 9) rfl ?_); (try (refine gate_guard (by rfl) ?_; dsimp only)); refine Kd.R_lit Kd.string _ 9 ?hg (N := 9) ?hd (xs := ([(⟨#[49, 97]⟩ : ByteArray)] : List ByteArray)) (inner := [.string (⟨#[49, 97]⟩ : ByteArray)]) (ok := fun _ => True) (okp := fun _ => True) ?hr ?hp (fun _ hk => hk) trivial (Below.refl _ _) (Nat.le_refl _) (by simp) ?_; (case hd => rfl); (case hg => rfl); (case hr => first | (go_simp; done) | (go_simp; rfl)); (case hp => exact (Reps.one (show Kd.M Kd.string _ _ _ (⟨#[49, 97]⟩ : ByteArray) [.string (⟨#[49, 97]⟩ : ByteArray)] from rfl) (Reps.none _ _))); intro v140 w47 ho48 hb hg_ hnew_; clear hg_ hnew_; (first | rw [← Ny139.out] at ho48 | (simp only [Int.reduceToNat] at ho48; rw [← Ny139.out] at ho48)); have n0_ := Rb HO133 hb; have n1_ := Re HO137 (Kd.R_base ho48) hb; have n2_ := Aside0.mk (Kd.R_lower (Kd.R_new' ho48 (Kd.R_lt (Ru HO137))) (Bz HB)); have n3_ := Bs HB hb; clear HO133 HO137 HB; revert n0_ n1_ n2_ n3_; intro HO133 HO137 HO141 HB; clear hb ho48; obtain ⟨Ao49, co49, eo49⟩ := Kd.R_slice HO141.out; subst eo49) | (go_at_call 12; (with_reducible refine (chars_Name.calls k _ _ y139 false _ ?side1 ?side2 ?sideU A5.out).mono ?_); (case sideU => first | exact HU.out | exact Uni.up HU (Bu HB) | exact Uni.below HU.out (by assumption)); (case side1 => exact Cu (Kd.R_reads' HO141.out).2.2); (case side2 => exact (Kd.R_reads' HO141.out).2.1); rintro e w50 ⟨rfl, hb⟩; have n0_ := Rb HO133 hb; have n1_ := Rb HO137 hb; have n2_ := Rb HO141 hb; have n3_ := Bs HB hb; clear HO133 HO137 HO141 HB; revert n0_ n1_ n2_ n3_; intro HO133 HO137 HO141 HB; (try clear hb); (try clear hb2); (try clear hk); (try clear hi)) | ((with_reducible refine gate_dst (N := 14) rfl ?_); (try (refine gate_guard (by rfl) ?_; dsimp only)); refine Kd.R_lit Kd.string _ 9 ?hg (N := 14) ?hd (xs := ([(⟨#[97, 58, 98]⟩ : ByteArray)] : List ByteArray)) (inner := [.string (⟨#[97, 58, 98]⟩ : ByteArray)]) (ok := fun _ => True) (okp := fun _ => True) ?hr ?hp (fun _ hk => hk) trivial (Below.refl _ _) (Nat.le_refl _) (by simp) ?_; (case hd => rfl); (case hg => rfl); (case hr => first | (go_simp; done) | (go_simp; rfl)); (case hp => exact (Reps.one (show Kd.M Kd.string _ _ _ (⟨#[97, 58, 98]⟩ : ByteArray) [.string (⟨#[97, 58, 98]⟩ : ByteArray)] from rfl) (Reps.none _ _))); intro v144 w51 ho52 hb hg_ hnew_; clear hg_ hnew_; (first | rw [← Ny143.out] at ho52 | (simp only [Int.reduceToNat] at ho52; rw [← Ny143.out] at ho52)); have n0_ := Rb HO133 hb; have n1_ := Re HO137 (Kd.R_base ho52) hb; have n2_ := Re HO141 (Kd.R_base ho52) hb; have n3_ := Aside0.mk (Kd.R_lower (Kd.R_new' (Kd.R_new' ho52 (Kd.R_lt (Ru HO137))) (Kd.R_lt (Ru HO141))) (Bz HB)); have n4_ := Bs HB hb; clear HO133 HO137 HO141 HB; revert n0_ n1_ n2_ n3_ n4_; intro HO133 HO137 HO141 HO145 HB; clear hb ho52; obtain ⟨Ao53, co53, eo53⟩ := Kd.R_slice HO145.out; subst eo53) | (go_at_call 12; (with_reducible refine (chars_Name.calls k _ _ y143 false _ ?side1 ?side2 ?sideU A19.out).mono ?_); (case sideU => first | exact HU.out | exact Uni.up HU (Bu HB) | exact Uni.below HU.out (by assumption)); (case side1 => exact Cu (Kd.R_reads' HO145.out).2.2); (case side2 => exact (Kd.R_reads' HO145.out).2.1); rintro e w54 ⟨rfl, hb⟩; have n0_ := Rb HO133 hb; have n1_ := Rb HO137 hb; have n2_ := Rb HO141 hb; have n3_ := Rb HO145 hb; have n4_ := Bs HB hb; clear HO133 HO137 HO141 HO145 HB; revert n0_ n1_ n2_ n3_ n4_; intro HO133 HO137 HO141 HO145 HB; (try clear hb); (try clear hb2); (try clear hk); (try clear hi)) | ((with_reducible refine gate_dst (N := 19) rfl ?_); (try (refine gate_guard (by rfl) ?_; dsimp only)); refine Kd.R_lit Kd.string _ 9 ?hg (N := 19) ?hd (xs := ([(⟨#[]⟩ : ByteArray)] : List ByteArray)) (inner := [.string (⟨#[]⟩ : ByteArray)]) (ok := fun _ => True) (okp := fun _ => True) ?hr ?hp (fun _ hk => hk) trivial (Below.refl _ _) (Nat.le_refl _) (by simp) ?_; (case hd => rfl); (case hg => rfl); (case hr => first | (go_simp; done) | (go_simp; rfl)); (case hp => exact (Reps.one (show Kd.M Kd.string _ _ _ (⟨#[]⟩ : ByteArray) [.string (⟨#[]⟩ : ByteArray)] from rfl) (Reps.none _ _))); intro v148 w55 ho56 hb hg_ hnew_; clear hg_ hnew_; (first | rw [← Ny147.out] at ho56 | (simp only [Int.reduceToNat] at ho56; rw [← Ny147.out] at ho56)); have n0_ := Rb HO133 hb; have n1_ := Re HO137 (Kd.R_base ho56) hb; have n2_ := Re HO141 (Kd.R_base ho56) hb; have n3_ := Re HO145 (Kd.R_base ho56) hb; have n4_ := Aside0.mk (Kd.R_lower (Kd.R_new' (Kd.R_new' (Kd.R_new' ho56 (Kd.R_lt (Ru HO137))) (Kd.R_lt (Ru HO141))) (Kd.R_lt (Ru HO145))) (Bz HB)); have n5_ := Bs HB hb; clear HO133 HO137 HO141 HO145 HB; revert n0_ n1_ n2_ n3_ n4_ n5_; intro HO133 HO137 HO141 HO145 HO149 HB; clear hb ho56; obtain ⟨Ao57, co57, eo57⟩ := Kd.R_slice HO149.out; subst eo57) | (go_at_call 12; (with_reducible refine (chars_Name.calls k _ _ y147 true _ ?side1 ?side2 ?sideU A37.out).mono ?_); (case sideU => first | exact HU.out | exact Uni.up HU (Bu HB) | exact Uni.below HU.out (by assumption)); (case side1 => exact Cu (Kd.R_reads' HO149.out).2.2); (case side2 => exact (Kd.R_reads' HO149.out).2.1); rintro e w58 ⟨rfl, hb⟩; have n0_ := Rb HO133 hb; have n1_ := Rb HO137 hb; have n2_ := Rb HO141 hb; have n3_ := Rb HO145 hb; have n4_ := Rb HO149 hb; have n5_ := Bs HB hb; clear HO133 HO137 HO141 HO145 HO149 HB; revert n0_ n1_ n2_ n3_ n4_ n5_; intro HO133 HO137 HO141 HO145 HO149 HB; (try clear hb); (try clear hb2); (try clear hk); (try clear hi)))
      go_ret
      exact ⟨rfl_, Bu HB⟩
     ·replace c38 := Bool.eq_false_iff.mpr c38
      subst c38
      have H1 : ((chars_Collapse.f k (⟨#[32, 32, 97, 32, 10, 32, 98, 32]⟩ : ByteArray)).bind fun t151 => (some (t151.toList == ([97, 32, 98] : List UInt8)))) = some r := by rw [if_neg (show ¬ (false = true) by decide)] at H; exact H
      clear H
      have H := H1
      clear H1
      replace H := Option.bind_eq_some_iff.mp H
      obtain ⟨t151, A590, H⟩ := H
      replace H : (some (t151.toList == ([97, 32, 98] : List UInt8))) = some r := H
      have A59 := Aside0.mk A590
      clear A590
      obtain rfl := Option.some.inj H
      go_enter Tryd.func8, Tryd.ntmps8
      go_wp2_with (first | ((with_reducible refine gate_dst (N := 1) rfl ?_); (try (refine gate_guard (by rfl) ?_; dsimp only)); refine litI .u8 5 1 [97, 192, 128] [.int .u8 97, .int .u8 192, .int .u8 128] ?hr ?_; (case hr => first | (go_simp; done) | (go_simp; rfl)); intro v132 w60 ho61 hb; (first | rw [← Ny131.out] at ho61 | (simp only [Int.reduceToNat] at ho61; rw [← Ny131.out] at ho61)); have n0_ := Aside0.mk (Kd.R_lower ho61 (Bz HB)); have n1_ := Bs HB hb; clear HB; revert n0_ n1_; intro HO133 HB; clear hb ho61; obtain ⟨Ao62, co62, eo62⟩ := Kd.R_slice HO133.out; subst eo62) | ((with_reducible refine gate_callee (f := 9) rfl ?_); refine goesA (some 2) Tryd.func9 #[.slice Ao62 y131.length co62] rfl ?_; (with_reducible refine (chars_Bad.calls k _ _ y131 t134 _ ?side1 ?side2 ?sideU A1.out).mono ?_); (case sideU => first | exact HU.out | exact Uni.up HU (Bu HB) | exact Uni.below HU.out (by assumption)); (case side1 => exact Cu (Kd.R_reads' HO133.out).2.2); (case side2 => exact (Kd.R_reads' HO133.out).2.1); rintro e w63 ⟨rfl, hb⟩; refine ⟨_, rfl, ?_⟩; have n0_ := Rb HO133 hb; have n1_ := Bs HB hb; clear HO133 HB; revert n0_ n1_; intro HO133 HB; (try clear hb); (try clear hb2); (try clear hk); (try clear hi)) | ((with_reducible refine gate_dst (N := 5) rfl ?_); (try (refine gate_guard (by rfl) ?_; dsimp only)); refine Kd.R_lit Kd.string _ 9 ?hg (N := 5) ?hd (xs := ([(⟨#[95, 97]⟩ : ByteArray), (⟨#[195, 169, 49]⟩ : ByteArray)] : List ByteArray)) (inner := [.string (⟨#[95, 97]⟩ : ByteArray), .string (⟨#[195, 169, 49]⟩ : ByteArray)]) (ok := fun _ => True) (okp := fun _ => True) ?hr ?hp (fun _ hk => hk) trivial (Below.refl _ _) (Nat.le_refl _) (by simp) ?_; (case hd => rfl); (case hg => rfl); (case hr => first | (go_simp; done) | (go_simp; rfl)); (case hp => exact (Reps.one (show Kd.M Kd.string _ _ _ (⟨#[95, 97]⟩ : ByteArray) [.string (⟨#[95, 97]⟩ : ByteArray)] from rfl) (Reps.one (show Kd.M Kd.string _ _ _ (⟨#[195, 169, 49]⟩ : ByteArray) [.string (⟨#[195, 169, 49]⟩ : ByteArray)] from rfl) (Reps.none _ _)))); intro v136 w64 ho65 hb hg_ hnew_; clear hg_ hnew_; (first | rw [← Ny135.out] at ho65 | (simp only [Int.reduceToNat] at ho65; rw [← Ny135.out] at ho65)); have n0_ := Rb HO133 hb; have n1_ := Aside0.mk (Kd.R_lower ho65 (Bz HB)); have n2_ := Bs HB hb; clear HO133 HB; revert n0_ n1_ n2_; intro HO133 HO137 HB; clear hb ho65; obtain ⟨Ao66, co66, eo66⟩ := Kd.R_slice HO137.out; subst eo66) | (go_at_call 12; (with_reducible refine (chars_Name.calls k _ _ y135 true _ ?side1 ?side2 ?sideU A3.out).mono ?_); (case sideU => first | exact HU.out | exact Uni.up HU (Bu HB) | exact Uni.below HU.out (by assumption)); (case side1 => exact Cu (Kd.R_reads' HO137.out).2.2); (case side2 => exact (Kd.R_reads' HO137.out).2.1); rintro e w67 ⟨rfl, hb⟩; have n0_ := Rb HO133 hb; have n1_ := Rb HO137 hb; have n2_ := Bs HB hb; clear HO133 HO137 HB; revert n0_ n1_ n2_; intro HO133 HO137 HB; (try clear hb); (try clear hb2); (try clear hk); (try clear hi)) | ((with_reducible refine gate_dst (N := 9) rfl ?_); (try (refine gate_guard (by rfl) ?_; dsimp only)); refine Kd.R_lit Kd.string _ 9 ?hg (N := 9) ?hd (xs := ([(⟨#[49, 97]⟩ : ByteArray)] : List ByteArray)) (inner := [.string (⟨#[49, 97]⟩ : ByteArray)]) (ok := fun _ => True) (okp := fun _ => True) ?hr ?hp (fun _ hk => hk) trivial (Below.refl _ _) (Nat.le_refl _) (by simp) ?_; (case hd => rfl); (case hg => rfl); (case hr => first | (go_simp; done) | (go_simp; rfl)); (case hp => exact (Reps.one (show Kd.M Kd.string _ _ _ (⟨#[49, 97]⟩ : ByteArray) [.string (⟨#[49, 97]⟩ : ByteArray)] from rfl) (Reps.none _ _))); intro v140 w68 ho69 hb hg_ hnew_; clear hg_ hnew_; (first | rw [← Ny139.out] at ho69 | (simp only [Int.reduceToNat] at ho69; rw [← Ny139.out] at ho69)); have n0_ := Rb HO133 hb; have n1_ := Re HO137 (Kd.R_base ho69) hb; have n2_ := Aside0.mk (Kd.R_lower (Kd.R_new' ho69 (Kd.R_lt (Ru HO137))) (Bz HB)); have n3_ := Bs HB hb; clear HO133 HO137 HB; revert n0_ n1_ n2_ n3_; intro HO133 HO137 HO141 HB; clear hb ho69; obtain ⟨Ao70, co70, eo70⟩ := Kd.R_slice HO141.out; subst eo70) | (go_at_call 12; (with_reducible refine (chars_Name.calls k _ _ y139 false _ ?side1 ?side2 ?sideU A5.out).mono ?_); (case sideU => first | exact HU.out | exact Uni.up HU (Bu HB) | exact Uni.below HU.out (by assumption)); (case side1 => exact Cu (Kd.R_reads' HO141.out).2.2); (case side2 => exact (Kd.R_reads' HO141.out).2.1); rintro e w71 ⟨rfl, hb⟩; have n0_ := Rb HO133 hb; have n1_ := Rb HO137 hb; have n2_ := Rb HO141 hb; have n3_ := Bs HB hb; clear HO133 HO137 HO141 HB; revert n0_ n1_ n2_ n3_; intro HO133 HO137 HO141 HB; (try clear hb); (try clear hb2); (try clear hk); (try clear hi)) | ((with_reducible refine gate_dst (N := 14) rfl ?_); (try (refine gate_guard (by rfl) ?_; dsimp only)); refine Kd.R_lit Kd.string _ 9 ?hg (N := 14) ?hd (xs := ([(⟨#[97, 58, 98]⟩ : ByteArray)] : List ByteArray)) (inner := [.string (⟨#[97, 58, 98]⟩ : ByteArray)]) (ok := fun _ => True) (okp := fun _ => True) ?hr ?hp (fun _ hk => hk) trivial (Below.refl _ _) (Nat.le_refl _) (by simp) ?_; (case hd => rfl); (case hg => rfl); (case hr => first | (go_simp; done) | (go_simp; rfl)); (case hp => exact (Reps.one (show Kd.M Kd.string _ _ _ (⟨#[97, 58, 98]⟩ : ByteArray) [.string (⟨#[97, 58, 98]⟩ : ByteArray)] from rfl) (Reps.none _ _))); intro v144 w72 ho73 hb hg_ hnew_; clear hg_ hnew_; (first | rw [← Ny143.out] at ho73 | (simp only [Int.reduceToNat] at ho73; rw [← Ny143.out] at ho73)); have n0_ := Rb HO133 hb; have n1_ := Re HO137 (Kd.R_base ho73) hb; have n2_ := Re HO141 (Kd.R_base ho73) hb; have n3_ := Aside0.mk (Kd.R_lower (Kd.R_new' (Kd.R_new' ho73 (Kd.R_lt (Ru HO137))) (Kd.R_lt (Ru HO141))) (Bz HB)); have n4_ := Bs HB hb; clear HO133 HO137 HO141 HB; revert n0_ n1_ n2_ n3_ n4_; intro HO133 HO137 HO141 HO145 HB; clear hb ho73; obtain ⟨Ao74, co74, eo74⟩ := Kd.R_slice HO145.out; subst eo74) | (go_at_call 12; (with_reducible refine (chars_Name.calls k _ _ y143 false _ ?side1 ?side2 ?sideU A19.out).mono ?_); (case sideU => first | exact HU.out | exact Uni.up HU (Bu HB) | exact Uni.below HU.out (by assumption)); (case side1 => exact Cu (Kd.R_reads' HO145.out).2.2); (case side2 => exact (Kd.R_reads' HO145.out).2.1); rintro e w75 ⟨rfl, hb⟩; have n0_ := Rb HO133 hb; have n1_ := Rb HO137 hb; have n2_ := Rb HO141 hb; have n3_ := Rb HO145 hb; have n4_ := Bs HB hb; clear HO133 HO137 HO141 HO145 HB; revert n0_ n1_ n2_ n3_ n4_; intro HO133 HO137 HO141 HO145 HB; (try clear hb); (try clear hb2); (try clear hk); (try clear hi)) | ((with_reducible refine gate_dst (N := 19) rfl ?_); (try (refine gate_guard (by rfl) ?_; dsimp only)); refine Kd.R_lit Kd.string _ 9 ?hg (N := 19) ?hd (xs := ([(⟨#[]⟩ : ByteArray)] : List ByteArray)) (inner := [.string (⟨#[]⟩ : ByteArray)]) (ok := fun _ => True) (okp := fun _ => True) ?hr ?hp (fun _ hk => hk) trivial (Below.refl _ _) (Nat.le_refl _) (by simp) ?_; (case hd => rfl); (case hg => rfl); (case hr => first | (go_simp; done) | (go_simp; rfl)); (case hp => exact (Reps.one (show Kd.M Kd.string _ _ _ (⟨#[]⟩ : ByteArray) [.string (⟨#[]⟩ : ByteArray)] from rfl) (Reps.none _ _))); intro v148 w76 ho77 hb hg_ hnew_; clear hg_ hnew_; (first | rw [← Ny147.out] at ho77 | (simp only [Int.reduceToNat] at ho77; rw [← Ny147.out] at ho77)); have n0_ := Rb HO133 hb; have n1_ := Re HO137 (Kd.R_base ho77) hb; have n2_ := Re HO141 (Kd.R_base ho77) hb; have n3_ := Re HO145 (Kd.R_base ho77) hb; have n4_ := Aside0.mk (Kd.R_lower (Kd.R_new' (Kd.R_new' (Kd.R_new' ho77 (Kd.R_lt (Ru HO137))) (Kd.R_lt (Ru HO141))) (Kd.R_lt (Ru HO145))) (Bz HB)); have n5_ := Bs HB hb; clear HO133 HO137 HO141 HO145 HB; revert n0_ n1_ n2_ n3_ n4_ n5_; intro HO133 HO137 HO141 HO145 HO149 HB; clear hb ho77; obtain ⟨Ao78, co78, eo78⟩ := Kd.R_slice HO149.out; subst eo78) | (go_at_call 12; (with_reducible refine (chars_Name.calls k _ _ y147 false _ ?side1 ?side2 ?sideU A37.out).mono ?_); (case sideU => first | exact HU.out | exact Uni.up HU (Bu HB) | exact Uni.below HU.out (by assumption)); (case side1 => exact Cu (Kd.R_reads' HO149.out).2.2); (case side2 => exact (Kd.R_reads' HO149.out).2.1); rintro e w79 ⟨rfl, hb⟩; have n0_ := Rb HO133 hb; have n1_ := Rb HO137 hb; have n2_ := Rb HO141 hb; have n3_ := Rb HO145 hb; have n4_ := Rb HO149 hb; have n5_ := Bs HB hb; clear HO133 HO137 HO141 HO145 HO149 HB; revert n0_ n1_ n2_ n3_ n4_ n5_; intro HO133 HO137 HO141 HO145 HO149 HB; (try clear hb); (try clear hb2); (try clear hk); (try clear hi)) | (go_at_call 17; (with_reducible refine (chars_Collapse.calls k (⟨#[32, 32, 97, 32, 10, 32, 98, 32]⟩ : ByteArray) t151 _ ?sideU A59.out).mono ?_); (case sideU => first | exact HU.out | exact Uni.up HU (Bu HB) | exact Uni.below HU.out (by assumption)); rintro e w80 ⟨rfl, hb⟩; have n0_ := Rb HO133 hb; have n1_ := Rb HO137 hb; have n2_ := Rb HO141 hb; have n3_ := Rb HO145 hb; have n4_ := Rb HO149 hb; have n5_ := Bs HB hb; clear HO133 HO137 HO141 HO145 HO149 HB; revert n0_ n1_ n2_ n3_ n4_ n5_; intro HO133 HO137 HO141 HO145 HO149 HB; (try clear hb); (try clear hb2); (try clear hk); (try clear hi)))
      go_ret
      exact ⟨rfl_, Bu HB⟩
  ·replace c4 := Bool.eq_false_iff.mpr c4
   subst c4
   have H1 : (some false) = some r := by rw [if_neg (show ¬ (false = true) by decide)] at H; exact H
   clear H
   have H := H1
   clear H1
   obtain rfl := Option.some.inj H
   go_enter Tryd.func8, Tryd.ntmps8
   go_wp2_with (first | ((with_reducible refine gate_dst (N := 1) rfl ?_); (try (refine gate_guard (by rfl) ?_; dsimp only)); refine litI .u8 5 1 [97, 192, 128] [.int .u8 97, .int .u8 192, .int .u8 128] ?hr ?_; (case hr => first | (go_simp; done) | (go_simp; rfl)); intro v132 w81 ho82 hb; (first | rw [← Ny131.out] at ho82 | (simp only [Int.reduceToNat] at ho82; rw [← Ny131.out] at ho82)); have n0_ := Aside0.mk (Kd.R_lower ho82 (Bz HB)); have n1_ := Bs HB hb; clear HB; revert n0_ n1_; intro HO133 HB; clear hb ho82; obtain ⟨Ao83, co83, eo83⟩ := Kd.R_slice HO133.out; subst eo83) | ((with_reducible refine gate_callee (f := 9) rfl ?_); refine goesA (some 2) Tryd.func9 #[.slice Ao83 y131.length co83] rfl ?_; (with_reducible refine (chars_Bad.calls k _ _ y131 t134 _ ?side1 ?side2 ?sideU A1.out).mono ?_); (case sideU => first | exact HU.out | exact Uni.up HU (Bu HB) | exact Uni.below HU.out (by assumption)); (case side1 => exact Cu (Kd.R_reads' HO133.out).2.2); (case side2 => exact (Kd.R_reads' HO133.out).2.1); rintro e w84 ⟨rfl, hb⟩; refine ⟨_, rfl, ?_⟩; have n0_ := Rb HO133 hb; have n1_ := Bs HB hb; clear HO133 HB; revert n0_ n1_; intro HO133 HB; (try clear hb); (try clear hb2); (try clear hk); (try clear hi)) | ((with_reducible refine gate_dst (N := 5) rfl ?_); (try (refine gate_guard (by rfl) ?_; dsimp only)); refine Kd.R_lit Kd.string _ 9 ?hg (N := 5) ?hd (xs := ([(⟨#[95, 97]⟩ : ByteArray), (⟨#[195, 169, 49]⟩ : ByteArray)] : List ByteArray)) (inner := [.string (⟨#[95, 97]⟩ : ByteArray), .string (⟨#[195, 169, 49]⟩ : ByteArray)]) (ok := fun _ => True) (okp := fun _ => True) ?hr ?hp (fun _ hk => hk) trivial (Below.refl _ _) (Nat.le_refl _) (by simp) ?_; (case hd => rfl); (case hg => rfl); (case hr => first | (go_simp; done) | (go_simp; rfl)); (case hp => exact (Reps.one (show Kd.M Kd.string _ _ _ (⟨#[95, 97]⟩ : ByteArray) [.string (⟨#[95, 97]⟩ : ByteArray)] from rfl) (Reps.one (show Kd.M Kd.string _ _ _ (⟨#[195, 169, 49]⟩ : ByteArray) [.string (⟨#[195, 169, 49]⟩ : ByteArray)] from rfl) (Reps.none _ _)))); intro v136 w85 ho86 hb hg_ hnew_; clear hg_ hnew_; (first | rw [← Ny135.out] at ho86 | (simp only [Int.reduceToNat] at ho86; rw [← Ny135.out] at ho86)); have n0_ := Rb HO133 hb; have n1_ := Aside0.mk (Kd.R_lower ho86 (Bz HB)); have n2_ := Bs HB hb; clear HO133 HB; revert n0_ n1_ n2_; intro HO133 HO137 HB; clear hb ho86; obtain ⟨Ao87, co87, eo87⟩ := Kd.R_slice HO137.out; subst eo87) | (go_at_call 12; (with_reducible refine (chars_Name.calls k _ _ y135 false _ ?side1 ?side2 ?sideU A3.out).mono ?_); (case sideU => first | exact HU.out | exact Uni.up HU (Bu HB) | exact Uni.below HU.out (by assumption)); (case side1 => exact Cu (Kd.R_reads' HO137.out).2.2); (case side2 => exact (Kd.R_reads' HO137.out).2.1); rintro e w88 ⟨rfl, hb⟩; have n0_ := Rb HO133 hb; have n1_ := Rb HO137 hb; have n2_ := Bs HB hb; clear HO133 HO137 HB; revert n0_ n1_ n2_; intro HO133 HO137 HB; (try clear hb); (try clear hb2); (try clear hk); (try clear hi)))
   go_ret
   exact ⟨rfl_, Bu HB⟩
 ·rw [if_neg c2] at H
  have c2b0 : (t134 == 1) = false := beq_eq_false_iff_ne.mpr c2
  have c2b1 : (t134 != 1) = true := bne_iff_ne.mpr c2
  obtain rfl := Option.some.inj H
  go_enter Tryd.func8, Tryd.ntmps8
  go_wp2_with (first | ((with_reducible refine gate_dst (N := 1) rfl ?_); (try (refine gate_guard (by rfl) ?_; dsimp only)); refine litI .u8 5 1 [97, 192, 128] [.int .u8 97, .int .u8 192, .int .u8 128] ?hr ?_; (case hr => first | (go_simp; done) | (go_simp; rfl)); intro v132 w89 ho90 hb; (first | rw [← Ny131.out] at ho90 | (simp only [Int.reduceToNat] at ho90; rw [← Ny131.out] at ho90)); have n0_ := Aside0.mk (Kd.R_lower ho90 (Bz HB)); have n1_ := Bs HB hb; clear HB; revert n0_ n1_; intro HO133 HB; clear hb ho90; obtain ⟨Ao91, co91, eo91⟩ := Kd.R_slice HO133.out; subst eo91) | ((with_reducible refine gate_callee (f := 9) rfl ?_); refine goesA (some 2) Tryd.func9 #[.slice Ao91 y131.length co91] rfl ?_; (with_reducible refine (chars_Bad.calls k _ _ y131 t134 _ ?side1 ?side2 ?sideU A1.out).mono ?_); (case sideU => first | exact HU.out | exact Uni.up HU (Bu HB) | exact Uni.below HU.out (by assumption)); (case side1 => exact Cu (Kd.R_reads' HO133.out).2.2); (case side2 => exact (Kd.R_reads' HO133.out).2.1); rintro e w92 ⟨rfl, hb⟩; refine ⟨_, rfl, ?_⟩; have n0_ := Rb HO133 hb; have n1_ := Bs HB hb; clear HO133 HB; revert n0_ n1_; intro HO133 HB; (try clear hb); (try clear hb2); (try clear hk); (try clear hi)))
  go_ret
  exact ⟨rfl_, Bu HB⟩

end Go.Proofs.YthakidcnlkbbgaaDoor.Hp
