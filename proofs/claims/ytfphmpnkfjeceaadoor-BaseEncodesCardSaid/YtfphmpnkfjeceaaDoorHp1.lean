/- Go functions of this seat as Lean functions, and their contracts: what the Go code computes, for every input. (By hp.py, a program of this repo, over the kit's print.py.) -/
import Derived.Test.YtfphmpnkfjeceaaDoorHp0
namespace Go.Proofs.YtfphmpnkfjeceaaDoor.Hp
open Go.RowKit Go.Proofs.YtfphmpnkfjeceaaDoorW.PrintWords Go.Proofs.YtfphmpnkfjeceaaDoorW.PrintLast Go.Proofs.YtfphmpnkfjeceaaDoorW.PrintMore
attribute [local go_sem] max2_int min2_int max_two min_two max_three min_three max_four min_four   -- for this text's walks alone
set_option linter.unusedVariables false
set_option linter.unusedSimpArgs false

/-! ### strings_Join: function 19 -/
/-- Where a cell can be read, the address is a plain one. -/
theorem plain_of_cell {w : World} {a : Addr} {v : Value} (h : w.cell? a = some v) : a = ⟨a.block, a.off, none⟩ := by
  obtain ⟨b, o, s⟩ := a
  cases s with
  | none => rfl
  | some s =>
    unfold World.cell? at h
    cases hb : w.heap[b]? with
    | none => simp [hb] at h
    | some x => cases x <;> simp [hb] at h
/-- A row that is read and holds something: where it lies, cell by cell. -/
theorem row_at {α : Type} {enc : α → Value} {h1 : ∀ x, (enc x).oneCell' = true} {w : World} {A : Option Addr} {n : Nat} {xs : List α} (h : Kd.C (Kd.scalar enc h1) w A n xs) (hn : 0 < n) :
    ∃ b o, A = some ⟨b, o, none⟩ ∧ b < w.heap.size ∧ ∀ (j : Nat) x, xs[j]? = some x → w.cell? ⟨b, o + j, none⟩ = some (enc x) := by
  obtain ⟨ad, rfl, hcell⟩ := h.2.2 hn
  have hg : ∀ (j : Nat) x, xs[j]? = some x → w.cell? (ad.add j) = some (enc x) := by
    intro j x hx
    obtain ⟨c, hcl, hk, hi⟩ := hcell j x hx
    obtain rfl : c = [enc x] := hk
    have := hi 0 _ rfl
    rwa [show j * (Kd.scalar enc h1).sz + 0 = j from by show j * 1 + 0 = j; omega] at this
  have h0 := hg 0 _ (List.getElem?_eq_getElem (by rw [h.1]; exact hn))
  have hp := plain_of_cell (show w.cell? ad = _ from h0)
  refine ⟨ad.block, ad.off, by rw [← hp], World.block_lt_of_cell? w _ h0, fun j x hx => ?_⟩
  have := hg j x hx
  rwa [hp, Addr.add_lit] at this
def strings_Join.f (l0 : List ByteArray) (a1 : ByteArray) : Option ByteArray := if l0.length ≤ 140737488355328 ∧ (Lib.join (l0.map (·.data.toList)) a1.data.toList).length ≤ 140737488355328 then some ⟨(Lib.join (l0.map (·.data.toList)) a1.data.toList).toArray⟩ else none
theorem strings_Join.calls (A0 : Option Addr) (c0 : Nat) (l0 : List ByteArray) (a1 : ByteArray) (r : ByteArray) (w : World) (hr0 : Kd.C Kd.string w A0 l0.length l0) (hc0 : l0.length ≤ c0) (h : strings_Join.f l0 a1 = some r) :
    Calls Tryd.prog 19 #[.slice A0 l0.length c0, .string a1] w fun e w' => e = .returned (.string r) ∧ Below w.heap.size w w' := by
  unfold strings_Join.f at h
  split at h
  · rename_i hl
    obtain rfl := Option.some.inj h
    by_cases h0 : l0 = []
    · subst h0
      exact (Tryd.strings_Join_none A0 c0 a1 w).mono fun e w' ⟨he, hw⟩ => ⟨he, hw ▸ Below.refl _ _⟩
    · obtain ⟨b, o, rfl, hb, hc⟩ := row_at hr0 (by cases l0 with | nil => exact absurd rfl h0 | cons => simp)
      exact Tryd.strings_Join b o c0 l0 a1 w hc hb hl.1 hc0 hl.2
  · exact absurd h (by simp)

-- NOT PRINTED: function 50 (abi_NoEscape)

/-! ### strings_Builder_copyCheck: function 43 -/
set_option maxHeartbeats 2000000 in
set_option maxRecDepth 100000 in
theorem strings_Builder_copyCheck.used (b : Nat) (w : World) (h0 : w.cell? ⟨b, 0, none⟩ = some (.pointer (some ⟨b, 0, none⟩))) :
    Calls Tryd.prog 43 #[.pointer (some ⟨b, 0, none⟩)] w fun e w' => e = .returned (.tuple #[]) ∧ w' = w := by
  obtain ⟨j, hj, _⟩ := Option.map_eq_some_iff.1 (show (Tryd.prog.info? 48).map (·.size) = some 2 by kernel_rfl)
  go_enter Tryd.func43, Tryd.ntmps43
  go_wp2
  rw [Lib.run_neq_ptr_same w _ Tryd.underlying46 hj]
  go_wp2
  go_end0
  exact ⟨rfl, rfl⟩
set_option maxHeartbeats 2000000 in
set_option maxRecDepth 100000 in
theorem strings_Builder_copyCheck.fresh (b : Nat) (w : World) (h0 : w.cell? ⟨b, 0, none⟩ = some (.pointer none)) (hsh : w.shape? b = some (48, 2)) (hfz : w.frozen? ⟨b, 0, none⟩ = false) :
    Calls Tryd.prog 43 #[.pointer (some ⟨b, 0, none⟩)] w fun e w' => e = .returned (.tuple #[]) ∧ w' = w.setCell ⟨b, 0, none⟩ (.pointer (some ⟨b, 0, none⟩)) := by
  obtain ⟨j, hj, hjs⟩ := Option.map_eq_some_iff.1 (show (Tryd.prog.info? 48).map (·.size) = some 2 by kernel_rfl)
  go_enter Tryd.func43, Tryd.ntmps43
  go_wp2
  rw [Lib.run_to_unsafe w ⟨b, 0, none⟩ Tryd.underlying46 Tryd.underlying72 hj (by rw [hjs]; decide) hsh (Nat.zero_lt_succ 1)]
  simp only [Result.andThen]
  rw [Oper.upon_value]
  go_wp2
  rw [run_callFunc_extern Tryd.func50 (by kernel_rfl) (by kernel_rfl) (by kernel_rfl) (e := Extern.AbiNoEscape.same) (by kernel_rfl)]
  rw [Lib.run_noEscape]
  simp only [Result.andThen]
  rw [Oper.upon_value]
  go_wp2
  rw [Lib.run_from_unsafe w ⟨b, 0, none⟩ Tryd.underlying72 Tryd.underlying46 hj hsh (by kernel_rfl)]
  simp only [Result.andThen]
  rw [Oper.upon_value]
  go_wp2
  go_end0
  exact ⟨rfl, rfl⟩
/-- A builder at block b: its bytes; its row's block is one of 'ok', and not b. -/
def Bld (B b : Nat) (ok : Nat → Prop) (bs : List Value) (w : World) : Prop :=
  B ≤ b ∧ ∃ p v, (p = .pointer none ∨ p = .pointer (some ⟨b, 0, none⟩)) ∧ w.heap[b]? = some (.cells #[p, v] 48 (0, 0)) ∧ w.ownsRow B 5 1 v bs.length bs ∧ ∀ k, v.ownBlock = some k → ok k ∧ k ≠ b
theorem Bld.is {B b : Nat} {ok : Nat → Prop} {bs : List Value} {w : World} (h : Bld B b ok bs w) : Lib.IsBuilder 48 5 B b bs w := by
  obtain ⟨hB, p, v, hp, hb, ho, hk⟩ := h
  rcases hp with rfl | rfl
  · exact .inl ⟨hB, v, hb, ho, fun e => (hk b e).2 rfl⟩
  · exact .inr ⟨hB, v, hb, ho, fun e => (hk b e).2 rfl⟩
theorem Bld.new (w : World) (ok : Nat → Prop) : Bld w.heap.size w.heap.size ok [] (w.alloc (.cells #[.pointer none, .slice none 0 0] 48)) :=
  ⟨Nat.le_refl _, _, _, .inl rfl, heap_alloc_new _ _, ⟨by simp, .inl ⟨rfl, rfl⟩⟩, fun k hk => by simp [Value.ownBlock] at hk⟩
theorem Bld.lt {B b : Nat} {ok : Nat → Prop} {bs : List Value} {w : World} (h : Bld B b ok bs w) : b < w.heap.size := by
  obtain ⟨_, p, v, _, hb, _⟩ := h
  exact blk_lt hb
/-- Under what leaves its two blocks alone. -/
theorem Bld.step {B b : Nat} {ok ok' : Nat → Prop} {bs : List Value} {w w' : World} (h : Bld B b ok bs w) (hb' : w'.heap[b]? = w.heap[b]?) (hk' : ∀ k, ok k → k < w.heap.size → w'.heap[k]? = w.heap[k]?) (hok : ∀ k, ok k → k < w.heap.size → ok' k) (hs : w.heap.size ≤ w'.heap.size) : Bld B b ok' bs w' := by
  obtain ⟨hB, p, v, hp, hb, ho, hk⟩ := h
  refine ⟨hB, p, v, hp, hb'.trans hb, ⟨ho.1, ?_⟩, fun k e => ⟨hok k (hk k e).1 ((ho.lt k e).2), (hk k e).2⟩⟩
  rcases ho.2 with ⟨h1, h2⟩ | ⟨g, cap, cur, h1, h2, h3, h4⟩
  · exact .inl ⟨h1, h2⟩
  · refine .inr ⟨g, cap, cur, h1, h2, ?_, h4⟩
    have e : v.ownBlock = some g := by rw [h1]; rfl
    rw [hk' g (hk g e).1 (ho.lt g e).2]
    exact h3
theorem strings_Builder_copyCheck.any (B b : Nat) (ok : Nat → Prop) (bs : List Value) (w : World) (h : Bld B b ok bs w) :
    Calls Tryd.prog 43 #[.pointer (some ⟨b, 0, none⟩)] w fun e w' => e = .returned (.tuple #[]) ∧ (∃ v, w'.heap[b]? = some (.cells #[.pointer (some ⟨b, 0, none⟩), v] 48 (0, 0)) ∧ w'.ownsRow B 5 1 v bs.length bs ∧ ∀ k, v.ownBlock = some k → ok k ∧ k ≠ b) ∧ Kept w w' (fun k => k = b) ∧ Below B w w' := by
  obtain ⟨hB, p, v, hp, hb, ho, hk⟩ := h
  have hne : v.ownBlock ≠ some b := fun e => (hk b e).2 rfl
  rcases hp with rfl | rfl
  · have h0 : Lib.BuilderAt 48 5 B b (.pointer none) bs w := ⟨hB, v, hb, ho, hne⟩
    refine (strings_Builder_copyCheck.fresh b w h0.cell0 h0.shape h0.frozen0).mono ?_
    rintro e w' ⟨rfl, rfl⟩
    obtain ⟨_, v', hb', ho', _⟩ := h0.used (.pointer (some ⟨b, 0, none⟩))
    obtain rfl : v' = v := by
      have e1 : (w.setCell ⟨b, 0, none⟩ (.pointer (some ⟨b, 0, none⟩))).cell? ⟨b, 1, none⟩ = some v' := by rw [Lib.cell_of_heap hb']; rfl
      have e2 : w.cell? ⟨b, 1, none⟩ = some v := by rw [Lib.cell_of_heap hb]; rfl
      rw [World.cell?_setCell_other _ _ _ _ (by simp), e2] at e1
      exact (Option.some.inj e1).symm
    exact ⟨rfl, ⟨v', hb', ho', hk⟩, (Kept.refl w (fun k => k = b)).setCell (p := ⟨b, 0, none⟩) (.inl rfl) _, (Below.refl B w).setCell (p := ⟨b, 0, none⟩) hB _⟩
  · have h0 : Lib.BuilderAt 48 5 B b (.pointer (some ⟨b, 0, none⟩)) bs w := ⟨hB, v, hb, ho, hne⟩
    refine (strings_Builder_copyCheck.used b w h0.cell0).mono ?_
    rintro e w' ⟨rfl, rfl⟩
    exact ⟨rfl, ⟨v, hb, ho, hk⟩, Kept.refl _ _, Below.refl B _⟩

/-! ### strings_Builder_WriteByte: function 28 -/
set_option maxHeartbeats 4000000 in
set_option maxRecDepth 100000 in
theorem strings_Builder_WriteByte.any (B b : Nat) (ok : Nat → Prop) (bs : List Value) (c : Int) (w : World) (h : Bld B b ok bs w) (hok : ∀ k, w.heap.size ≤ k → ok k) (hlen : bs.length + 1 ≤ 140737488355328) :
    Calls Tryd.prog 28 #[.pointer (some ⟨b, 0, none⟩), .int .u8 c] w fun e w' => e = .returned .nilIface ∧ Bld B b ok (bs ++ [.int .u8 c]) w' ∧ Kept w w' (fun k => k = b ∨ ok k) ∧ Below B w w' := by
  have hBw : B ≤ w.heap.size := Nat.le_trans h.1 (Nat.le_of_lt h.lt)
  have hB := h.1
  obtain ⟨i0, hi, hz0, hz1, hz2⟩ := info_parts info5
  go_enter Tryd.func28, Tryd.ntmps28
  go_wp2_with (go_at_call 43; refine (strings_Builder_copyCheck.any B b ok bs _ h).mono ?_)
  rintro e w1 ⟨rfl, ⟨v, hbk, hown, hvk⟩, hk1, hb1⟩
  have hne : v.ownBlock ≠ some b := fun e => (hvk b e).2 rfl
  have c0 : w1.cell? ⟨b, 0, none⟩ = some (.pointer (some ⟨b, 0, none⟩)) := by rw [Lib.cell_of_heap hbk]; rfl
  have c1 : w1.cell? ⟨b, 1, none⟩ = some v := by rw [Lib.cell_of_heap hbk]; rfl
  go_wp2_with (at_builtin; refine wpList_append_own_at _ rfl _ _ 23 rfl B 5 i0 (.int .u8 0) 1 1 Tryd.underlying23 hi hz0 hz1 hz2 rfl (by decide) _ _ _ rfl (hown.alloc _) ⟨w1.heap.size, 0, none⟩ 1 1 [.int .u8 c] rfl rfl ?c1 ?c2 ?c3 ?c4 ?c5 ?_)
  case c1 =>
    intro j u hj
    match j, hj with
    | 0, hj => simp at hj; subst hj; simp [Addr.add]
  case c2 => intro u hu; simp at hu; subst hu; rfl
  case c3 => unfold maxLen; omega
  case c4 => omega
  case c5 => have := hb1.size; simp; omega
  intro v' w2 hown' hgrow _ hat
  have hlt : b < w1.heap.size := by
    rcases Nat.lt_or_ge b w1.heap.size with h' | h'
    · exact h'
    · simp [Array.getElem?_eq_none h'] at hbk
  have hb2 : w2.heap[b]? = some (.cells #[.pointer (some ⟨b, 0, none⟩), v] 48 (0, 0)) := by
    rw [hgrow.block b (by simp; omega) (fun e => hne e.symm), Lib.alloc_old w1 _ b hlt]
    exact hbk
  have d0 : w2.cell? ⟨b, 0, none⟩ = some (.pointer (some ⟨b, 0, none⟩)) := by rw [Lib.cell_of_heap hb2]; rfl
  have d1 : w2.cell? ⟨b, 1, none⟩ = some v := by rw [Lib.cell_of_heap hb2]; rfl
  have f1 : w2.frozen? ⟨b, 1, none⟩ = false := Lib.frozen_of_heap hb2 1
  obtain ⟨g, cap, rfl⟩ : ∃ g cap, v' = .slice (some ⟨g, 0, none⟩) (bs.length + 1) cap := by
    rcases hown'.2 with ⟨_, h0⟩ | ⟨g, cap, cur, hv, _⟩
    · omega
    · exact ⟨g, cap, hv⟩
  have hok' : ∀ k, (Value.slice (some ⟨g, 0, none⟩) (bs.length + 1) cap).ownBlock = some k → ok k ∧ k ≠ b := by
    intro k hk
    rcases hat with e | e
    · exact hvk k (e.symm.trans hk)
    · rw [e] at hk
      obtain rfl := Option.some.inj hk
      have := hk1.1
      exact ⟨hok _ (by first | (simp; omega) | omega), by first | (simp; omega) | omega⟩
  go_wp2
  go_ret
  refine ⟨rfl, ?_, ?_, ?_⟩
  · obtain ⟨_, v', q1, q2, q3⟩ := Lib.BuilderAt.put (T := 48) (e := 5) hB hb2 (bs' := bs ++ [.int .u8 c]) (by simpa using hown') (by decide)
    obtain rfl : v' = .slice (some ⟨g, 0, none⟩) (bs.length + 1) cap := by
      have e1 : (w2.setCell ⟨b, 1, none⟩ (.slice (some ⟨g, 0, none⟩) (bs.length + 1) cap)).cell? ⟨b, 1, none⟩ = some v' := by rw [Lib.cell_of_heap q1]; rfl
      rw [World.cell?_setCell_same _ _ _ d1] at e1
      exact (Option.some.inj e1).symm
    exact ⟨hB, _, _, .inr rfl, q1, q2, hok'⟩
  · exact (((hk1.mono (fun k hk => .inl hk)).alloc _).of_grown hgrow (fun k hk => .inl (.inr (hvk k hk).1))).setCell (p := ⟨b, 1, none⟩) (.inl (.inl rfl)) _
  · exact ((hb1.alloc (by have := hb1.size; omega) _).grown hgrow (by have := hb1.size; simp; omega) (fun k hk => (hown.lt k hk).1)).setCell (p := ⟨b, 1, none⟩) hB _

/-! ### base_Hex: function 12 -/
def hexl (n : Nat) : UInt8 := if n < 10 then (48 + n).toUInt8 else (87 + n).toUInt8
def hex2 (x : Int) : List UInt8 := [hexl (x.toNat / 16), hexl (x.toNat % 16)]
theorem Bld.drawnN {B b : Nat} {ok : Nat → Prop} {bs : List Value} {w : World} (h : Bld B b ok bs w) (n : Nat) : Bld B b ok bs (w.drewN n) := h.step rfl (fun _ _ _ => rfl) (fun _ h _ => h) (Nat.le_refl _)
theorem hexl_index (x : Nat) (hx : x < 16) : ∀ W, (Instr.index 9 (.string ⟨#[48, 49, 50, 51, 52, 53, 54, 55, 56, 57, 97, 98, 99, 100, 101, 102]⟩) (.int .u8 x)).run Tryd.prog W = .ok (.int .u8 (hexl x).toNat) W := by
  obtain rfl | rfl | rfl | rfl | rfl | rfl | rfl | rfl | rfl | rfl | rfl | rfl | rfl | rfl | rfl | rfl : x = 0 ∨ x = 1 ∨ x = 2 ∨ x = 3 ∨ x = 4 ∨ x = 5 ∨ x = 6 ∨ x = 7 ∨ x = 8 ∨ x = 9 ∨ x = 10 ∨ x = 11 ∨ x = 12 ∨ x = 13 ∨ x = 14 ∨ x = 15 := by omega
  all_goals exact fun _ => by kernel_rfl
theorem hexl_get (x : Nat) (hx : x < (⟨#[48, 49, 50, 51, 52, 53, 54, 55, 56, 57, 97, 98, 99, 100, 101, 102]⟩ : ByteArray).size) : (⟨#[48, 49, 50, 51, 52, 53, 54, 55, 56, 57, 97, 98, 99, 100, 101, 102]⟩ : ByteArray)[x] = hexl x := by
  have : ∀ x : Fin 16, (⟨#[48, 49, 50, 51, 52, 53, 54, 55, 56, 57, 97, 98, 99, 100, 101, 102]⟩ : ByteArray)[x.val]'(by exact x.isLt) = hexl x.val := by decide +kernel
  exact this ⟨x, hx⟩
theorem u8_lows (n : Nat) (h : n < 256) : Go.bits .and .u8 (n : Int) 15 = ((n % 16 : Nat) : Int) := by
  have : ∀ n : Fin 256, Go.bits .and .u8 ((n.val : Nat) : Int) 15 = ((n.val % 16 : Nat) : Int) := by decide +kernel
  exact this ⟨n, h⟩
def base_Hex.f (l0 : List Int) : Option ByteArray := if (l0.all fun x => decide (0 ≤ x) && decide (x < 256)) = true ∧ l0.length ≤ 1099511627776 then some ⟨(l0.flatMap hex2).toArray⟩ else none
def base_Hex.Inv (l : List Int) (w wr : World) (v : Value) : Prop :=
  ∃ k : Nat, k ≤ l.length ∧ v = .int .i64 k ∧ Bld w.heap.size w.heap.size (fun _ => True) (Lib.byteCells ((l.take k).flatMap hex2)) wr ∧ Below w.heap.size w wr
theorem hex2_len (l : List Int) : (l.flatMap hex2).length = 2 * l.length := by
  induction l with
  | nil => rfl
  | cons a l ih => rw [List.flatMap_cons, List.length_append, ih, List.length_cons]; show 2 + _ = _; omega
set_option maxHeartbeats 4000000 in
set_option maxRecDepth 100000 in
theorem base_Hex.calls (A0 : Option Addr) (c0 : Nat) (l0 : List Int) (r : ByteArray) (w : World) (hr0 : Kd.C (Kd.int .u8) w A0 l0.length l0) (hc0 : l0.length ≤ c0) (h : base_Hex.f l0 = some r) :
    Calls Tryd.prog 12 #[.slice A0 l0.length c0] w fun e w' => e = .returned (.string r) ∧ Below w.heap.size w w' := by
  unfold base_Hex.f at h
  split at h
  · rename_i hs
    obtain rfl := Option.some.inj h
    clear h
    have HR := Aside0.mk hr0
    have HS := Aside0.mk hs.1
    have hsz := hs.2
    clear hr0 hc0 hs
    go_enter Tryd.func12, Tryd.ntmps12
    go_wp2
    have ST := Aside0.mk (show Bld w.heap.size w.heap.size (fun _ => True) [] (w.alloc (.cells #[.pointer none, .slice none 0 0] 48)) ∧ Below w.heap.size w (w.alloc (.cells #[.pointer none, .slice none 0 0] 48)) from ⟨Bld.new w _, (Below.refl _ _).alloc (Nat.le_refl _) _⟩)
    generalize w.alloc _ = W0 at ST ⊢
    go_loopw [5, 8] (fun _ v8 wr => Aside0 (base_Hex.Inv l0 w wr v8)) (fun _ v8 _ => l0.length - (intOf v8).toNat)
    case atStart => exact ⟨0, Nat.zero_le _, rfl, ST.out.1, ST.out.2⟩
    case round =>
      obtain ⟨k, hk, rfl, hb, hB⟩ := hrel.out
      clear hrel ST
      by_cases hlt : k < l0.length
      · obtain ⟨b, o, rfl, _, hc⟩ := row_at (Kd.C_below HR.out hB) (by omega)
        have hx := hc k _ (List.getElem?_eq_getElem hlt)
        have hw := List.all_eq_true.1 HS.out _ (List.getElem_mem hlt)
        have htk : (l0.take (k + 1)).flatMap hex2 = (l0.take k).flatMap hex2 ++ hex2 l0[k] := by rw [List.take_succ_eq_append_getElem hlt, List.flatMap_append]; simp
        obtain ⟨n, hn⟩ : ∃ n : Nat, l0[k] = n := ⟨l0[k].toNat, by simp at hw; omega⟩
        rw [hn] at hx hw htk
        have hn256 : n < 256 := by simp at hw; omega
        have hlen : ((l0.take k).flatMap hex2).length = 2 * k := by rw [hex2_len, List.length_take]; omega
        generalize (l0.take k).flatMap hex2 = acc at hb htk hlen
        have h3 := Aside0.mk htk
        have h4 := Aside0.mk hb
        have h6 := Aside0.mk hB
        have h7 := Aside0.mk hn
        have hi1 := hexl_index (n / 16) (by omega)
        have hi2 := hexl_index (n % 16) (by omega)
        have e2 := u8_lows n hn256
        clear hc hw htk hb hB hn
        have hck : wr.cell? ⟨b, o + k, none⟩ = some (.int .u8 n) := hx
        clear hx
        go_wp2_with (first | (go_at_call 28; refine (strings_Builder_WriteByte.any w.heap.size w.heap.size _ _ _ _ g1.out ?ok ?len).mono ?_; (case ok => intro i hi; trivial); (case len => rw [show (Lib.byteCells acc ++ _).length = acc.length + 1 by simp [Lib.byteCells]]; omega); rintro e w2 ⟨rfl, hb2, hk2, hB2⟩; have k1 := Aside0.mk hb2; have k3 := Aside0.mk hB2; clear hb2 hk2 hB2) | (go_at_call 28; refine (strings_Builder_WriteByte.any w.heap.size w.heap.size _ _ _ _ h4.out ?ok ?len).mono ?_; (case ok => intro i hi; trivial); (case len => rw [show (Lib.byteCells acc).length = acc.length by simp [Lib.byteCells]]; omega); rintro e w2 ⟨rfl, hb2, hk2, hB2⟩; have g1 := Aside0.mk hb2; have g3 := Aside0.mk hB2; clear hb2 hk2 hB2))
        go_roundw
        case rel => exact ⟨k + 1, hlt, by push_cast; rfl, by rw [h3.out]; simpa [Lib.byteCells, hex2, hexl_get] using k1.out, h6.out.trans (g3.out.trans k3.out)⟩
        case measure => simp [intOf]; omega
      · obtain rfl : k = l0.length := by omega
        rw [List.take_length] at hb
        have hsz2 := hB.size
        have h4 := Aside0.mk hb
        have h6 := Aside0.mk hB
        clear hb hB
        go_wp2_with (go_at_call 29; refine (Tryd.Builder_String_any w.heap.size w.heap.size (l0.flatMap hex2) _ (Bld.is h4.out) ?hBw).mono ?_; (case hBw => omega); rintro e w2 ⟨rfl, hB2⟩; have g3 := Aside0.mk hB2; clear hB2)
        go_ret
        exact ⟨rfl, h6.out.trans g3.out⟩
  · exact absurd h (by simp)

/-! ### slices_Chunk_byte_byte: function 27 -/
section
open Go.Shelf
attribute [-go_sem] max2_int min2_int max_two min_two max_three min_three max_four min_four
attribute [local go_sem] Oper.semAt_some
/-- What a round of the loop over the pieces keeps: what lay, and the two boxes of slices.Chunk. -/
def KpC (n₀ B1 B2 : Nat) (W W' : World) : Prop := Below n₀ W W' ∧ W'.heap[B1]? = W.heap[B1]? ∧ W'.heap[B2]? = W.heap[B2]?
theorem KpC.trans {n₀ B1 B2 : Nat} {A B C : World} (h : KpC n₀ B1 B2 A B) (k : KpC n₀ B1 B2 B C) : KpC n₀ B1 B2 A C := ⟨h.1.trans k.1, k.2.1.trans h.2.1, k.2.2.trans h.2.2⟩
theorem KpC.refl (n₀ B1 B2 : Nat) (A : World) : KpC n₀ B1 B2 A A := ⟨Below.refl _ _, rfl, rfl⟩
theorem cell_of_same {W W' : World} {b : Nat} {v : Value} (h : W'.heap[b]? = W.heap[b]?) (hc : W.cell? ⟨b, 0, none⟩ = some v) : W'.cell? ⟨b, 0, none⟩ = some v := by
  rw [← hc]; unfold World.cell?; rw [h]
def pieceV (b off len : Nat) (j : Nat) : Value := .slice (some ⟨b, off + 3 * j, none⟩) (min 3 (len - 3 * j)) (min 3 (len - 3 * j))
set_option maxRecDepth 100000 in
set_option maxHeartbeats 2000000 in
theorem chunk1_in (F : Fence) (n : Nat) (hF : F.fn 42) (hro : F.round = none) (hn : 1 ≤ n) (l Bs Bn n₀ b off len cap : Nat) (A : Option Addr) (hA : 0 < len → A = some ⟨b, off, none⟩) (hcap : len ≤ cap) (hreach : len ≤ 1099511627776) (J Jx : List Nat → World → Prop) (hJd : ∀ pre W, J pre W → J pre W.drew)
    (hY : ∀ pre x W, J pre W → pre.length < (len + 2) / 3 → YieldAt F (n - 1) Tryd.prog l #[pieceV b off len x] W fun e W' =>
      (e = .returned (.bool true) ∧ J (pre ++ [x]) W' ∧ KpC n₀ Bs Bn W W') ∨ (e = .returned (.bool false) ∧ Jx (pre ++ [x]) W'))
    (W : World) (hBs : W.cell? ⟨Bs, 0, none⟩ = some (.slice A len cap)) (hBn : W.cell? ⟨Bn, 0, none⟩ = some (.int .i64 3)) (h0 : J [] W) :
    CallsIn F n Tryd.prog 42 #[.func (.yield l) #[] #[], .pointer (some ⟨Bs, 0, none⟩), .pointer (some ⟨Bn, 0, none⟩)] W fun e W' => (∃ v, e = .returned v) ∧
      ((∃ ys, ys = List.range ((len + 2) / 3) ∧ J ys W') ∨ (∃ pre, True ∧ Jx pre W')) := by
  refine callsIn_of_wp Tryd.func42 rfl hF ?_ hro
  simp only [Tryd.ntmps42, List.size_toArray, List.length_cons, List.length_nil, Nat.reduceAdd, Nat.reduceSub, Array.replicate_succ, Array.replicate_zero, List.push_toArray, List.append_toArray, List.nil_append, List.cons_append]
  gi_wp2
  gi_loopw [4, 5] (fun i _ wr => ∃ k : Nat, k ≤ (len + 2) / 3 ∧ i = .int .i64 (3 * k : Nat) ∧ J (List.range k) wr ∧ KpC n₀ Bs Bn W wr) (fun i _ _ => len + 3 - (intOf i).toNat)
  case atStart => exact ⟨0, Nat.zero_le _, rfl, h0, KpC.refl _ _ _ _⟩
  case round =>
    obtain ⟨k, hk, rfl, hJs, hnx⟩ := hrel
    have hs := cell_of_same hnx.2.1 hBs
    have hbn := cell_of_same hnx.2.2 hBn
    by_cases hlt : 3 * k < len
    · obtain rfl := hA (by omega)
      obtain ⟨fn, tmps, assign, body, hy, hR⟩ := hY _ k wr.drew (hJd _ _ hJs) (by rw [List.length_range]; omega)
      have e3 : min 3 (len - 3 * k) = (3 * (k : Int) + min 3 ((len - 3 * k : Nat) : Int)).toNat - 3 * k := by omega
      rw [pieceV, e3] at hy
      have hnd : KpC n₀ Bs Bn W wr.drew := ⟨hnx.1.drew, hnx.2.1, hnx.2.2⟩
      gi_wp2
      gi_region
      all_goals gi_wp2
      all_goals
        refine hR.mono ?_
        rintro e W3 (⟨rfl, hJ3, hk3⟩ | ⟨rfl, hJx3⟩)
        · have hbn3 := cell_of_same hk3.2.2 (show wr.drew.cell? ⟨Bn, 0, none⟩ = some (.int .i64 3) from hbn)
          gi_wp2
          go_roundw
          case rel => exact ⟨k + 1, by omega, by congr 1, by rw [List.range_succ]; exact hJ3, hnd.trans hk3⟩
          case measure => simp [intOf]; omega
        · gi_wp2
          refine bodyPost_ret (results_none rfl _ _ _) rfl ?_
          exact ⟨⟨_, rfl⟩, .inr ⟨_, trivial, hJx3⟩⟩
    · gi_wp2
      go_end0
      exact ⟨⟨_, rfl⟩, .inl ⟨_, by rw [show (len + 2) / 3 = k by omega], hJs⟩⟩
set_option maxHeartbeats 1000000 in
/-- slices.Chunk(s, 3): the slice value and the number are boxed; the function value captures the boxes. -/
theorem chunk_in (F : Fence) (n : Nat) (hF : F.fn 27) (hro : F.round = none) (a : Option Addr) (len cap : Nat) (w : World) :
    CallsIn F n Tryd.prog 27 #[.slice a len cap, .int .i64 3] w fun e w' => e = .returned (.func (.func 42) #[] #[.pointer (some ⟨w.heap.size, 0, none⟩), .pointer (some ⟨w.heap.size + 1, 0, none⟩)]) ∧ w' = (w.alloc (.cells #[.slice a len cap] 23)).alloc (.cells #[.int .i64 3] 3) := by
  refine callsIn_of_wp Tryd.func27 rfl hF ?_ hro
  simp only [Tryd.ntmps27, List.size_toArray, List.length_cons, List.length_nil, Nat.reduceAdd, Nat.reduceSub, Array.replicate_succ, Array.replicate_zero, List.push_toArray, List.append_toArray, List.nil_append, List.cons_append]
  gi_wp2
  go_ret
  exact ⟨rfl, rfl⟩
theorem chunk_stops (F : Fence) (n : Nat) (hF : F.fn 42) (hro : F.round = none) (hn : 1 ≤ n) (Bs Bn n₀ b off len cap : Nat) (A : Option Addr) (hA : 0 < len → A = some ⟨b, off, none⟩) (hcap : len ≤ cap) (hreach : len ≤ 1099511627776) (w : World)
    (hs : w.cell? ⟨Bs, 0, none⟩ = some (.slice A len cap)) (hb : w.cell? ⟨Bn, 0, none⟩ = some (.int .i64 3)) :
    SeqStopsK F n Tryd.prog 42 #[.pointer (some ⟨Bs, 0, none⟩), .pointer (some ⟨Bn, 0, none⟩)] (fun x : Nat => #[pieceV b off len x]) (KpC n₀ Bs Bn) (fun ys => ys = List.range ((len + 2) / 3)) (fun _ => True) ((len + 2) / 3) w := fun l J Jx W hW hJ _ hY h0 =>
  chunk1_in F n hF hro hn l Bs Bn n₀ b off len cap A hA hcap hreach J Jx (fun pre W h => hJ pre W W.drew none h ⟨rfl, rfl, rfl, Nat.le_refl _, fun _ _ _ => rfl⟩ (fun r e => by cases e)) hY W ((hW.cell (p := ⟨Bs, 0, none⟩) (World.block_lt_of_cell? w _ hs)).trans hs) ((hW.cell (p := ⟨Bn, 0, none⟩) (World.block_lt_of_cell? w _ hb)).trans hb) h0
end

/-! ### base_Encode: function 11 -/
section
open Go.Shelf
attribute [local go_sem] Oper.semAt_some
theorem Bld.tight {B b : Nat} {ok : Nat → Prop} {bs : List Value} {w : World} (h : Bld B b ok bs w) : Bld B b (fun k => ok k ∧ ∀ o, w.heap[k]? = some o → o.isCells = true) bs w := by
  obtain ⟨hB, p, v, hp, hb, ho, hk⟩ := h
  refine ⟨hB, p, v, hp, hb, ho, fun k e => ⟨⟨(hk k e).1, fun o h1 => ?_⟩, (hk k e).2⟩⟩
  rcases ho.2 with ⟨h2, _⟩ | ⟨g, cap, cur, h2, h3, h4, _⟩
  · rw [h2] at e; cases e
  · rw [h2] at e
    obtain rfl : g = k := Option.some.inj e
    rw [h4] at h1
    obtain rfl := Option.some.inj h1
    rfl
theorem Bld.mono {B b : Nat} {ok ok' : Nat → Prop} {bs : List Value} {w : World} (h : Bld B b ok bs w) (hok : ∀ k, ok k → ok' k) : Bld B b ok' bs w := by
  obtain ⟨hB, p, v, hp, hb, ho, hk⟩ := h
  exact ⟨hB, p, v, hp, hb, ho, fun k e => ⟨hok k (hk k e).1, (hk k e).2⟩⟩
theorem Bld.grown {B b : Nat} {ok : Nat → Prop} {bs : List Value} {w w' : World} {row : Option Nat} (h : Bld B b ok bs w) (hg : w.grownBy w' row) (hr : ∀ r, row = some r → ∃ o : Obj, w.heap[r]? = some o ∧ o.isCells = false) : Bld B b ok bs w' := by
  obtain ⟨hB, p, v, hp, hb, ho, hk⟩ := h
  refine ⟨hB, p, v, hp, (grownBy_keeps_cells hg hr hb rfl).trans hb, ⟨ho.1, ?_⟩, hk⟩
  rcases ho.2 with ⟨h1, h2⟩ | ⟨g, cap, cur, h1, h2, h3, h4⟩
  · exact .inl ⟨h1, h2⟩
  · exact .inr ⟨g, cap, cur, h1, h2, (grownBy_keeps_cells hg hr h3 rfl).trans h3, h4⟩
/-- Three bytes as a number: the first k of them, those behind are nought. -/
def nAt (c : List Int) : Nat → Nat
  | 0 => 0
  | k + 1 => nAt c k * 256 + (if k < c.length then (c.getD k 0).toNat else 0)
theorem nAt_lt {c : List Int} (h : ∀ j, j < c.length → c.getD j 0 < 256) : ∀ k, nAt c k < 256 ^ k
  | 0 => Nat.one_pos
  | k + 1 => by
    have ih := nAt_lt h k
    have hx : (if k < c.length then (c.getD k 0).toNat else 0) < 256 := by
      split
      · have := h k (by assumption); omega
      · decide
    rw [nAt, Nat.pow_succ]
    omega
theorem or64 {a y : Int} (ha : 0 ≤ a) (ha1 : a < 65536) (hy : 0 ≤ y) (hy1 : y < 256) : Go.bits .or .i64 (a * 256) y = a * 256 + y :=
  bits_join .i64 32 (by decide) (fun n h0 h1 => by rw [IntKind.wrap_i64]; omega) 8 _ _ (by omega) (by omega) (by omega) hy (by omega) (by omega)
theorem and63 (x : Nat) (h1 : x < 16777216) : Go.bits .and .i64 (x : Int) 63 = ((x % 64 : Nat) : Int) := by
  rw [show (63 : Int) = 2 ^ 6 - 1 from rfl, bits_mask .i64 32 (by decide) (fun n h0 h1 => by rw [IntKind.wrap_i64]; omega) 6 (by decide) (x : Int) (by omega) (by omega)]
  omega
def signs64 : ByteArray := ⟨#[65, 66, 67, 68, 69, 70, 71, 72, 73, 74, 75, 76, 77, 78, 79, 80, 81, 82, 83, 84, 85, 86, 87, 88, 89, 90, 97, 98, 99, 100, 101, 102, 103, 104, 105, 106, 107, 108, 109, 110, 111, 112, 113, 114, 115, 116, 117, 118, 119, 120, 121, 122, 48, 49, 50, 51, 52, 53, 54, 55, 56, 57, 43, 47]⟩
def sgn (m : Nat) : UInt8 := signs64.data.toList.getD m 0
/-- The four signs of up to three bytes: the first k of them. -/
def quad (c : List Int) (k : Nat) : List UInt8 := ([sgn (nAt c 3 / 262144 % 64), if 1 ≤ c.length then sgn (nAt c 3 / 4096 % 64) else 61, if 2 ≤ c.length then sgn (nAt c 3 / 64 % 64) else 61, if 3 ≤ c.length then sgn (nAt c 3 % 64) else 61] : List UInt8).take k
def piece (l : List Int) (j : Nat) : List Int := (l.drop (3 * j)).take 3
def encL (l : List Int) (js : List Nat) : List UInt8 := js.flatMap fun j => quad (piece l j) 4
theorem encL_len (l : List Int) (js : List Nat) : (encL l js).length = 4 * js.length := by
  unfold encL
  induction js with
  | nil => rfl
  | cons a js ih => rw [List.flatMap_cons, List.length_append, ih, List.length_cons]; show 4 + _ = _; omega
theorem sgn_get (x : Nat) (hx : x < (⟨#[65, 66, 67, 68, 69, 70, 71, 72, 73, 74, 75, 76, 77, 78, 79, 80, 81, 82, 83, 84, 85, 86, 87, 88, 89, 90, 97, 98, 99, 100, 101, 102, 103, 104, 105, 106, 107, 108, 109, 110, 111, 112, 113, 114, 115, 116, 117, 118, 119, 120, 121, 122, 48, 49, 50, 51, 52, 53, 54, 55, 56, 57, 43, 47]⟩ : ByteArray).size) : (⟨#[65, 66, 67, 68, 69, 70, 71, 72, 73, 74, 75, 76, 77, 78, 79, 80, 81, 82, 83, 84, 85, 86, 87, 88, 89, 90, 97, 98, 99, 100, 101, 102, 103, 104, 105, 106, 107, 108, 109, 110, 111, 112, 113, 114, 115, 116, 117, 118, 119, 120, 121, 122, 48, 49, 50, 51, 52, 53, 54, 55, 56, 57, 43, 47]⟩ : ByteArray)[x] = sgn x := by
  have : ∀ x : Fin 64, (⟨#[65, 66, 67, 68, 69, 70, 71, 72, 73, 74, 75, 76, 77, 78, 79, 80, 81, 82, 83, 84, 85, 86, 87, 88, 89, 90, 97, 98, 99, 100, 101, 102, 103, 104, 105, 106, 107, 108, 109, 110, 111, 112, 113, 114, 115, 116, 117, 118, 119, 120, 121, 122, 48, 49, 50, 51, 52, 53, 54, 55, 56, 57, 43, 47]⟩ : ByteArray)[x.val]'(by exact x.isLt) = sgn x.val := by decide +kernel
  exact this ⟨x, hx⟩
theorem enc_step {B b : Nat} {ok : Nat → Prop} {l : List Int} {pre : List Nat} {P : List Int} {k : Nat} {c : UInt8} {w : World} (hq : quad P (k + 1) = quad P k ++ [c]) (h : Bld B b ok (Lib.byteCells (encL l pre ++ quad P k) ++ [.int .u8 c.toNat]) w) : Bld B b ok (Lib.byteCells (encL l pre ++ quad P (k + 1))) w := by
  rw [hq]
  simpa [Lib.byteCells] using h
def base_Encode.f (l0 : List Int) : Option ByteArray := if (l0.all fun x => decide (0 ≤ x) && decide (x < 256)) = true ∧ l0.length ≤ 1099511627776 then some ⟨(encL l0 (List.range ((l0.length + 2) / 3))).toArray⟩ else none
/-- What stands between two rounds. -/
def base_Encode.I (l0 : List Int) (A : Option Addr) (c : Nat) (w : World) (pre : List Nat) (W : World) : Prop :=
  (Bld w.heap.size w.heap.size (fun k => k ≠ w.heap.size + 1 ∧ k ≠ w.heap.size + 2) (Lib.byteCells (encL l0 pre)) W ∧ W.cell? ⟨w.heap.size + 1, 0, none⟩ = some (.slice A l0.length c) ∧ W.cell? ⟨w.heap.size + 2, 0, none⟩ = some (.int .i64 3)) ∧ Below w.heap.size w W
set_option maxHeartbeats 4000000 in
set_option maxRecDepth 100000 in
theorem base_Encode.calls (A0 : Option Addr) (c0 : Nat) (l0 : List Int) (r : ByteArray) (w : World) (hr0 : Kd.C (Kd.int .u8) w A0 l0.length l0) (hc0 : l0.length ≤ c0) (h : base_Encode.f l0 = some r) :
    Calls Tryd.prog 11 #[.slice A0 l0.length c0] w fun e w' => e = .returned (.string r) ∧ Below w.heap.size w w' := by
  unfold base_Encode.f at h
  split at h
  · rename_i hs
    obtain rfl := Option.some.inj h
    clear h
    have hsl := hs.2
    obtain ⟨b, off, hA⟩ : ∃ b off, 0 < l0.length → A0 = some ⟨b, off, none⟩ ∧ ∀ (j : Nat) x, l0[j]? = some x → w.cell? ⟨b, off + j, none⟩ = some (.int .u8 x) := by
      by_cases hl : 0 < l0.length
      · obtain ⟨b, o, hA, _, hc⟩ := row_at hr0 hl
        exact ⟨b, o, fun _ => ⟨hA, hc⟩⟩
      · exact ⟨0, 0, fun h => absurd h hl⟩
    refine (callsIn_wide (n := 5)).1 ?_
    refine callsIn_of_wp_marks Tryd.func11 rfl trivial ?_ rfl
    simp only [Tryd.ntmps11, List.size_toArray, List.length_cons, List.length_nil, Nat.reduceAdd, Nat.reduceSub, Array.replicate_succ, Array.replicate_zero, List.push_toArray, List.append_toArray, List.nil_append, List.cons_append]
    gi_wp2_with (refine ⟨trivial, ?_⟩; gi_at_call 27; refine (chunk_in Fence.wide _ trivial rfl _ _ _ _).mono ?_; rintro e w' ⟨rfl, rfl⟩)
    have c1 : ((w.alloc (.cells #[.pointer none, .slice none 0 0] 48)).alloc (.cells #[.slice A0 l0.length c0] 23)).cell? ⟨w.heap.size + 1, 0, none⟩ = some (.slice A0 l0.length c0) := by
      have := World.alloc_heap_new (w.alloc (.cells #[.pointer none, .slice none 0 0] 48)) (.cells #[.slice A0 l0.length c0] 23)
      rw [World.size_alloc] at this
      unfold World.cell?
      rw [this]
      rfl
    have ST : base_Encode.I l0 A0 c0 w [] (((w.alloc (.cells #[.pointer none, .slice none 0 0] 48)).alloc (.cells #[.slice A0 l0.length c0] 23)).alloc (.cells #[.int .i64 3] 3)) ∧ (((w.alloc (.cells #[.pointer none, .slice none 0 0] 48)).alloc (.cells #[.slice A0 l0.length c0] 23)).alloc (.cells #[.int .i64 3] 3)).heap.size = w.heap.size + 3 := by
      refine ⟨⟨⟨((Bld.new w _).grown (World.grownBy_alloc _ _ none) (fun r e => by cases e)).grown (World.grownBy_alloc _ _ none) (fun r e => by cases e), cell_kept c1 (World.grownBy_alloc _ _ none) (fun r e => by cases e), ?_⟩, (((Below.refl _ _).alloc (Nat.le_refl _) _).alloc (by simp) _).alloc (by simp; omega) _⟩, by simp⟩
      have := World.alloc_heap_new ((w.alloc (.cells #[.pointer none, .slice none 0 0] 48)).alloc (.cells #[.slice A0 l0.length c0] 23)) (.cells #[.int .i64 3] 3)
      rw [World.size_alloc, World.size_alloc] at this
      unfold World.cell?
      rw [this]
      rfl
    clear c1
    generalize ((w.alloc _).alloc _).alloc _ = W3 at ST ⊢
    obtain ⟨hI0, hz3⟩ := ST
    refine wpIn_rangeFunc_ownF rfl (by omega) (gf := 42) (lb := #[.pointer (some ⟨w.heap.size + 1, 0, none⟩), .pointer (some ⟨w.heap.size + 1 + 1, 0, none⟩)]) rfl trivial (enters_of Tryd.func42 (by kernel_rfl) rfl)
      (chunk_stops Fence.wide _ trivial rfl (by omega) (w.heap.size + 1) (w.heap.size + 1 + 1) w.heap.size b off l0.length c0 A0 (fun h => (hA h).1) hc0 hs.2 W3 hI0.1.2.1 hI0.1.2.2) KpC.trans
      (fun X l o o' hl h h1 h2 => ⟨belowK_b (w := W3) (by omega) X l o o' hl h h1 h2, World.putObj_heap_other (by omega), World.putObj_heap_other (by omega)⟩) (Below.refl _ _) (fun _ => rfl)
      (base_Encode.I l0 A0 c0 w) (fun _ _ _ => False)
      (fun s X Y row h hg hr => ⟨⟨h.1.1.grown hg (fun r e => (hr r e).2), cell_kept h.1.2.1 hg (fun r e => (hr r e).2), cell_kept h.1.2.2 hg (fun r e => (hr r e).2)⟩, h.2.grown hg h.2.size (fun k e => by have := (hr k e).1; omega)⟩)
      (fun _ _ _ _ _ h _ _ => h) hI0
      (fun x => { tmps := #[.slice A0 l0.length c0, undef, .string ⟨#[]⟩, .pointer (some ⟨w.heap.size, 0, none⟩), pieceV b off l0.length x, undef, undef, undef, .slice A0 l0.length c0, .func (.func 42) #[] #[.pointer (some ⟨w.heap.size + 1, 0, none⟩), .pointer (some ⟨w.heap.size + 1 + 1, 0, none⟩)], pieceV b off l0.length x, undef, undef, undef, undef, undef, undef, undef, undef, undef, undef, undef, undef, undef, undef, undef, undef, undef, undef, undef, undef, undef, undef, undef, undef, undef, undef, undef, undef, undef, undef, undef, undef, undef, undef, undef], defers := [] }) ?assign ?body ?done ?stop
    case assign =>
      intro l x W K hK
      gi_wp2
      exact hK
    case body =>
      intro l pre x W hI hpre
      have hPl : (piece l0 x).length = min 3 (l0.length - 3 * x) := by simp [piece]
      have hPc : ∀ j, j < (piece l0 x).length → W.cell? ⟨b, off + 3 * x + j, none⟩ = some (.int .u8 ((piece l0 x).getD j 0)) ∧ 0 ≤ (piece l0 x).getD j 0 ∧ (piece l0 x).getD j 0 < 256 := by
        intro j hj
        have hlt : 3 * x + j < l0.length := by omega
        have he : (piece l0 x).getD j 0 = l0[3 * x + j] := by
          have hj3 : j < 3 := by omega
          simp [piece, List.getD_eq_getElem?_getD, List.getElem?_take, List.getElem?_drop, hj3, hlt]
        have hc := (hA (by omega)).2 (3 * x + j) _ (List.getElem?_eq_getElem hlt)
        have hw := List.all_eq_true.1 hs.1 _ (List.getElem_mem hlt)
        rw [he]
        refine ⟨?_, by simp at hw; omega⟩
        rw [← hc, Nat.add_assoc]
        rw [hc]
        exact (hI.2.cell (World.block_lt_of_cell? w _ hc)).trans hc
      have hq : encL l0 (pre ++ [x]) = encL l0 pre ++ quad (piece l0 x) 4 := by simp [encL]
      generalize piece l0 x = P at hPl hPc hq
      have HI := Aside0.mk hI
      clear hI hA hr0
      unfold pieceV
      rw [← hPl]
      have hP3 : P.length ≤ 3 := by omega
      clear hPl
      gi_wp2
      gi_loopw [5, 6, 11] (fun v5 _ v11 wr => ∃ k : Nat, k ≤ 3 ∧ v11 = .int .i64 k ∧ v5 = .int .i64 (nAt P k) ∧ wr = W) (fun _ _ v11 _ => 3 - (intOf v11).toNat)
      case atStart => exact ⟨0, Nat.zero_le _, rfl, rfl, rfl⟩
      case round =>
        obtain ⟨k, hk, rfl, rfl, rfl⟩ := hrel
        by_cases hk3 : (k : Int) < 3
        · obtain ⟨m, hm⟩ : ∃ m, nAt P k = m := ⟨_, rfl⟩
          have hn : (m : Int) < 65536 := by
            have h1 := nAt_lt (fun j hj => (hPc j hj).2.2) k
            have h2 : 256 ^ k ≤ 256 ^ 2 := Nat.pow_le_pow_right (by decide) (by omega)
            rw [hm] at h1
            omega
          have HM := Aside0.mk hm
          rw [hm]
          clear hm
          have hPc' := Aside0.mk hPc
          have hq' := Aside0.mk hq
          have hs' := Aside0.mk hs
          by_cases hkl : (k : Int) < (P.length : Int)
          · obtain ⟨hc, hx0, hx1⟩ := hPc k (by omega)
            clear hPc hq hs
            gi_wp2
            refine ⟨⟨k + 1, by omega, by push_cast; rfl, ?_, trivial⟩, by simp [intOf]; omega⟩
            rw [← List.getD_eq_getElem?_getD, show wrap64 (P.getD k 0) = P.getD k 0 by unfold wrap64; omega, or64 (by omega) hn hx0 hx1, nAt, if_pos (by omega), HM.out]
            congr 1
            omega
          · clear hPc hq hs
            gi_wp2
            refine ⟨⟨k + 1, by omega, by push_cast; rfl, ?_, trivial⟩, by simp [intOf]; omega⟩
            rw [nAt, if_neg (by omega), HM.out]
            congr 1
        · obtain rfl : k = 3 := by omega
          rename World => V
          obtain ⟨N, hN⟩ : ∃ N, nAt P 3 = N := ⟨_, rfl⟩
          have hN1 : N < 16777216 := by have := nAt_lt (fun j hj => (hPc j hj).2.2) 3; rw [hN] at this; exact this
          have HN := Aside0.mk hN
          rw [hN]
          clear hN hPc
          have H0 : ∃ ok : Nat → Prop, (∀ i, V.heap.size ≤ i → ok i) ∧ (∀ i, ok i → i ≠ w.heap.size + 1 ∧ i ≠ w.heap.size + 2 ∧ ∀ o, V.heap[i]? = some o → o.isCells = true) ∧ Bld w.heap.size w.heap.size ok (Lib.byteCells (encL l0 pre ++ quad P 0)) V := by
            have hz := HI.out.2.size
            refine ⟨fun i => (i ≠ w.heap.size + 1 ∧ i ≠ w.heap.size + 2) ∧ ∀ o, V.heap[i]? = some o → o.isCells = true, fun i hi => ⟨?_, fun o ho => ?_⟩, fun i hi => ⟨hi.1.1, hi.1.2, hi.2⟩, ?_⟩
            · have h2 := World.block_lt_of_cell? V _ HI.out.1.2.2
              simp only at h2
              omega
            · rw [Array.getElem?_eq_none hi] at ho; cases ho
            · have := HI.out.1.1.tight
              rw [show quad P 0 = [] from rfl, List.append_nil]
              exact this
          obtain ⟨ok, hok1, hok2, hb0⟩ := H0
          have HO1 := Aside0.mk hok1
          have HO2 := Aside0.mk hok2
          have HB0 := Aside0.mk hb0
          clear hok1 hok2 hb0 hs
          gi_wp2
          gi_loopw [7, 28] (fun _ v28 w2 => Aside0 (∃ k : Nat, k ≤ 4 ∧ v28 = .int .i64 k ∧ Bld w.heap.size w.heap.size ok (Lib.byteCells (encL l0 pre ++ quad P k)) w2 ∧ Kept V w2 (fun i => i = w.heap.size ∨ ok i) ∧ Below w.heap.size V w2)) (fun _ v28 _ => 4 - (intOf v28).toNat)
          case atStart => exact ⟨0, Nat.zero_le _, rfl, HB0.out, Kept.refl _ _, Below.refl _ _⟩
          case round =>
            obtain ⟨k, hk4, rfl, hb, hKp, hB⟩ := hrel.out
            clear hrel
            have H1 := Aside0.mk hb
            have H2 := Aside0.mk hKp
            have H3 := Aside0.mk hB
            have hsz := hKp.1
            clear hb hKp hB
            by_cases hk : (k : Int) < 4
            · have hlen : (Lib.byteCells (encL l0 pre ++ quad P k)).length + 1 ≤ 140737488355328 := by
                have h1 : (quad P k).length ≤ 4 := by unfold quad; rw [List.length_take]; show min k 4 ≤ 4; omega
                have h2 := encL_len l0 pre
                rw [show (Lib.byteCells (encL l0 pre ++ quad P k)).length = (encL l0 pre ++ quad P k).length by simp [Lib.byteCells], List.length_append]
                omega
              have hok : ∀ i, wr.heap.size ≤ i → ok i := fun i hi => HO1.out i (Nat.le_trans hsz hi)
              have HW := fun c => Aside0.mk (strings_Builder_WriteByte.any w.heap.size w.heap.size ok _ c _ H1.out hok hlen)
              clear hlen hok
              by_cases hkl : (k : Int) ≤ (P.length : Int)
              · have hk' : k = 0 ∨ k = 1 ∨ k = 2 ∨ k = 3 := by omega
                rcases hk' with rfl | rfl | rfl | rfl
                · have e : Go.bits .and .i64 ((N : Int) / 262144) 63 = ((N / 262144 % 64 : Nat) : Int) := by rw [show ((N : Int) / 262144) = ((N / 262144 : Nat) : Int) by omega]; exact and63 _ (by omega)
                  gi_wp2_with (refine ⟨trivial, ?_⟩; gi_at_call 28; refine (CallsIn.inRound l (callsIn_wide.2 (HW _).out)).mono ?_; rintro e w3 ⟨rfl, hb2, hk2, hB2⟩; have g1 := Aside0.mk hb2; have g2 := Aside0.mk hk2; have g3 := Aside0.mk hB2; clear hb2 hk2 hB2)
                  exact ⟨⟨⟨1, by omega, rfl, enc_step (c := sgn (N / 262144 % 64)) (by simp [quad, HN.out]) (by simpa only [sgn_get] using g1.out), Kept.then_ H2.out g2.out (fun _ h => .inl h), H3.out.trans g3.out⟩⟩, by simp [intOf]⟩
                · have e : Go.bits .and .i64 ((N : Int) / 4096) 63 = ((N / 4096 % 64 : Nat) : Int) := by rw [show ((N : Int) / 4096) = ((N / 4096 : Nat) : Int) by omega]; exact and63 _ (by omega)
                  gi_wp2_with (refine ⟨trivial, ?_⟩; gi_at_call 28; refine (CallsIn.inRound l (callsIn_wide.2 (HW _).out)).mono ?_; rintro e w3 ⟨rfl, hb2, hk2, hB2⟩; have g1 := Aside0.mk hb2; have g2 := Aside0.mk hk2; have g3 := Aside0.mk hB2; clear hb2 hk2 hB2)
                  exact ⟨⟨⟨2, by omega, rfl, enc_step (c := sgn (N / 4096 % 64)) (by simp [quad, HN.out, show 1 ≤ P.length by omega]) (by simpa only [sgn_get] using g1.out), Kept.then_ H2.out g2.out (fun _ h => .inl h), H3.out.trans g3.out⟩⟩, by simp [intOf]⟩
                · have e : Go.bits .and .i64 ((N : Int) / 64) 63 = ((N / 64 % 64 : Nat) : Int) := by rw [show ((N : Int) / 64) = ((N / 64 : Nat) : Int) by omega]; exact and63 _ (by omega)
                  gi_wp2_with (refine ⟨trivial, ?_⟩; gi_at_call 28; refine (CallsIn.inRound l (callsIn_wide.2 (HW _).out)).mono ?_; rintro e w3 ⟨rfl, hb2, hk2, hB2⟩; have g1 := Aside0.mk hb2; have g2 := Aside0.mk hk2; have g3 := Aside0.mk hB2; clear hb2 hk2 hB2)
                  exact ⟨⟨⟨3, by omega, rfl, enc_step (c := sgn (N / 64 % 64)) (by simp [quad, HN.out, show 2 ≤ P.length by omega]) (by simpa only [sgn_get] using g1.out), Kept.then_ H2.out g2.out (fun _ h => .inl h), H3.out.trans g3.out⟩⟩, by simp [intOf]⟩
                · have e : Go.bits .and .i64 ((N : Int)) 63 = ((N % 64 : Nat) : Int) := by rw [show ((N : Int)) = ((N : Nat) : Int) by omega]; exact and63 _ (by omega)
                  gi_wp2_with (refine ⟨trivial, ?_⟩; gi_at_call 28; refine (CallsIn.inRound l (callsIn_wide.2 (HW _).out)).mono ?_; rintro e w3 ⟨rfl, hb2, hk2, hB2⟩; have g1 := Aside0.mk hb2; have g2 := Aside0.mk hk2; have g3 := Aside0.mk hB2; clear hb2 hk2 hB2)
                  exact ⟨⟨⟨4, by omega, rfl, enc_step (c := sgn (N % 64)) (by simp [quad, HN.out, show 3 ≤ P.length by omega]) (by simpa only [sgn_get] using g1.out), Kept.then_ H2.out g2.out (fun _ h => .inl h), H3.out.trans g3.out⟩⟩, by simp [intOf]⟩
              · have hk' : k = 1 ∨ k = 2 ∨ k = 3 := by omega
                rcases hk' with rfl | rfl | rfl
                · gi_wp2_with (refine ⟨trivial, ?_⟩; gi_at_call 28; refine (CallsIn.inRound l (callsIn_wide.2 (HW _).out)).mono ?_; rintro e w3 ⟨rfl, hb2, hk2, hB2⟩; have g1 := Aside0.mk hb2; have g2 := Aside0.mk hk2; have g3 := Aside0.mk hB2; clear hb2 hk2 hB2)
                  exact ⟨⟨⟨2, by omega, rfl, enc_step (c := 61) (by simp [quad, HN.out, show ¬ 1 ≤ P.length by omega]) g1.out, Kept.then_ H2.out g2.out (fun _ h => .inl h), H3.out.trans g3.out⟩⟩, by simp [intOf]⟩
                · gi_wp2_with (refine ⟨trivial, ?_⟩; gi_at_call 28; refine (CallsIn.inRound l (callsIn_wide.2 (HW _).out)).mono ?_; rintro e w3 ⟨rfl, hb2, hk2, hB2⟩; have g1 := Aside0.mk hb2; have g2 := Aside0.mk hk2; have g3 := Aside0.mk hB2; clear hb2 hk2 hB2)
                  exact ⟨⟨⟨3, by omega, rfl, enc_step (c := 61) (by simp [quad, HN.out, show ¬ 2 ≤ P.length by omega]) g1.out, Kept.then_ H2.out g2.out (fun _ h => .inl h), H3.out.trans g3.out⟩⟩, by simp [intOf]⟩
                · gi_wp2_with (refine ⟨trivial, ?_⟩; gi_at_call 28; refine (CallsIn.inRound l (callsIn_wide.2 (HW _).out)).mono ?_; rintro e w3 ⟨rfl, hb2, hk2, hB2⟩; have g1 := Aside0.mk hb2; have g2 := Aside0.mk hk2; have g3 := Aside0.mk hB2; clear hb2 hk2 hB2)
                  exact ⟨⟨⟨4, by omega, rfl, enc_step (c := 61) (by simp [quad, HN.out, show ¬ 3 ≤ P.length by omega]) g1.out, Kept.then_ H2.out g2.out (fun _ h => .inl h), H3.out.trans g3.out⟩⟩, by simp [intOf]⟩
            · obtain rfl : k = 4 := by omega
              gi_wp2
              have hne : ∀ i, i = w.heap.size + 1 ∨ i = w.heap.size + 2 → ¬ (i = w.heap.size ∨ ok i) := by
                rintro i hi (h | h)
                · omega
                · have := HO2.out i h; omega
              have hsame : ∀ i, i = w.heap.size + 1 ∨ i = w.heap.size + 2 → wr.heap[i]? = V.heap[i]? := fun i hi => H2.out.2 i (by have h2 := World.block_lt_of_cell? V _ HI.out.1.2.2; simp only at h2; omega) (hne i hi)
              refine ⟨⟨hsz, fun i o h hc => ?_⟩, ⟨H3.out, hsame _ (.inl rfl), hsame _ (.inr rfl)⟩, ⟨?_, cell_of_same (hsame _ (.inl rfl)) HI.out.1.2.1, cell_of_same (hsame _ (.inr rfl)) HI.out.1.2.2⟩, HI.out.2.trans H3.out⟩
              · refine (H2.out.2 i (Array.getElem?_eq_some_iff.1 h).1 ?_).trans h
                rintro (h1 | h1)
                · obtain ⟨_, p, v, _, hb, _⟩ := HI.out.1.1
                  rw [h1, hb] at h
                  obtain rfl := Option.some.inj h
                  cases hc
                · rw [(HO2.out i h1).2.2 o h] at hc
                  cases hc
              · rw [hq]
                exact Bld.mono H1.out (fun i h => ⟨(HO2.out i h).1, (HO2.out i h).2.1⟩)
    case done =>
      rintro D ys W hD rfl hI hK
      gi_wp2_with (refine ⟨trivial, ?_⟩; gi_at_call 29; refine (callsIn_wide.2 (Tryd.Builder_String_any_k w.heap.size w.heap.size (encL l0 (List.range ((l0.length + 2) / 3))) _ (Lib.IsBuilderF.of (Bld.is hI.1.1)) hI.2.size)).mono ?_; rintro e w2 ⟨rfl, _, hB2, hO2⟩)
      have hK2 := hO2 D _ hK (by intro h; injection h with h; omega) (fun c fz h => by cases h)
      refine ⟨by simp, .inl ⟨_, _, rfl, run_takeDeferred hK2, ?_⟩⟩
      exact ⟨_, results_tmp rfl _ _ _, rfl, (hI.2.trans hB2).trans (belowK_b (w := w) (Nat.le_refl _) w2 D _ _ (by omega) hK2 rfl rfl)⟩
    case stop =>
      intro D c pre W _ _ h _
      exact h.elim
  · exact absurd h (by simp)
end

/-! ### strings_Split: function 35 -/
def strings_Split.f (a0 a1 : ByteArray) : Option (List ByteArray) := if a0.size < 4294967281 ∧ 1 ≤ a1.size then some (Lib.splitB a1 0 (Lib.countB a0 a1) a0) else none
theorem own_made (w : World) (e : Nat) (cs : List Value) (n : Nat) (hl : cs.length = n) (hn : n ≤ maxLen) : (w.alloc (.cells cs.toArray e)).ownsRow w.heap.size e 1 (.slice (some ⟨w.heap.size, 0, none⟩) n n) n cs := by
  subst hl
  exact ⟨by simp, .inr ⟨w.heap.size, cs.length, cs.toArray, rfl, Nat.le_refl _, heap_alloc_new _ _, Nat.le_refl _, hn, by simp, by simp⟩⟩
theorem strings_Split.calls (a0 a1 : ByteArray) (r : List ByteArray) (w : World) (hU : Uni w) (h : strings_Split.f a0 a1 = some r) :
    Calls Tryd.prog 35 #[.string a0, .string a1] w fun e w' => ∃ v0_ : Value, e = .returned (v0_) ∧ Kd.R Kd.string 9 w' w.heap.size (fun _ => True) v0_ r ∧ Below w.heap.size w w' := by
  unfold strings_Split.f at h
  split at h
  · rename_i hc
    obtain rfl := Option.some.inj h
    obtain ⟨m, hm⟩ := hU.len
    refine (Tryd.strings_Split a0 a1 m w hc.1 hm hc.2).mono ?_
    rintro e w' ⟨rfl, rfl⟩
    have hl := Lib.splitB_all a1 hc.2 0 (Lib.countB a0 a1) a0 rfl
    have hle := Lib.countB_le a1 hc.2 a0.size a0 (Nat.le_refl _)
    refine ⟨_, rfl, Kd.R_of_own (h1 := fun _ => rfl) ?_ (fun _ _ => trivial), (Below.refl _ _).alloc (Nat.le_refl _) _⟩
    rw [hl]
    exact own_made w 9 _ _ (by simp [hl]) (by unfold maxLen; omega)
  · exact absurd h (by simp)
theorem strings_Split.raw (a0 a1 : ByteArray) (m : Int) (w : World) (hs : a0.size < 4294967281) (hm : w.cell? ⟨2, 0, none⟩ = some (.int .i64 m)) (h1 : 1 ≤ a1.size) (ps : List ByteArray) (hp : Lib.splitB a1 0 (Lib.countB a0 a1) a0 = ps) :
    Calls Tryd.prog 35 #[.string a0, .string a1] w fun e w' => e = .returned (.slice (some ⟨w.heap.size, 0, none⟩) ps.length ps.length) ∧ w' = w.alloc (.cells (ps.map Value.string).toArray 9) := by
  subst hp
  refine (Tryd.strings_Split a0 a1 m w hs hm h1).mono ?_
  rintro e w' ⟨rfl, rfl⟩
  rw [Lib.splitB_all a1 h1 0 (Lib.countB a0 a1) a0 rfl]
  exact ⟨rfl, rfl⟩
/-- A row of texts that was just made, in a block of its own. -/
def Fresh (w : World) (ps : List ByteArray) (v : Value) (w' : World) : Prop := v = .slice (some ⟨w.heap.size, 0, none⟩) ps.length ps.length ∧ w' = w.alloc (.cells (ps.map Value.string).toArray 9) ∧ ps.length ≤ 4294967296
theorem strings_Split.fresh (a0 a1 : ByteArray) (r : List ByteArray) (w : World) (hU : Uni w) (h : strings_Split.f a0 a1 = some r) :
    Calls Tryd.prog 35 #[.string a0, .string a1] w fun e w' => ∃ v0_ : Value, e = .returned (v0_) ∧ Kd.R Kd.string 9 w' w.heap.size (fun _ => True) v0_ r ∧ Below w.heap.size w w' ∧ Fresh w r v0_ w' := by
  unfold strings_Split.f at h
  split at h
  · rename_i hc
    obtain rfl := Option.some.inj h
    obtain ⟨m, hm⟩ := hU.len
    have hl := Lib.splitB_all a1 hc.2 0 (Lib.countB a0 a1) a0 rfl
    have hle := Lib.countB_le a1 hc.2 a0.size a0 (Nat.le_refl _)
    refine (strings_Split.raw a0 a1 m w hc.1 hm hc.2 _ rfl).mono ?_
    rintro e w' ⟨rfl, rfl⟩
    refine ⟨_, rfl, Kd.R_of_own (h1 := fun _ => rfl) ?_ (fun _ _ => trivial), (Below.refl _ _).alloc (Nat.le_refl _) _, rfl, rfl, by rw [hl]; omega⟩
    exact own_made w 9 _ _ (by simp) (by rw [hl]; unfold maxLen; omega)
  · exact absurd h (by simp)

/-! ### chars_blank: function 46 -/
def chars_blank.f (a0 : Int) : Option (Bool) := if a0 = 32 then (some true) else (if a0 = 9 then (some true) else (if a0 = 10 then (some true) else (some (a0 == 13))))
set_option maxHeartbeats 8000000 in
set_option maxRecDepth 100000 in
theorem chars_blank.calls (a0 : Int) (r : Bool) (w : World) (h : chars_blank.f a0 = some r) :
  Calls Tryd.prog 46 #[.int .u8 a0] w fun e w' => e = .returned (.bool r) ∧ Drawn0 w w' := by
 have H : (if a0 = 32 then (some true) else (if a0 = 9 then (some true) else (if a0 = 10 then (some true) else (some (a0 == 13))))) = some r := h
 clear h
 refine (Classical.em (a0 = 32)).elim (fun c2 => ?a1_) (fun c2 => ?b1_)
 case' a1_ =>
  rw [if_pos c2] at H
  have c2b0 : (a0 == 32) = true := beq_iff_eq.mpr c2
  have c2b1 : (a0 != 32) = false := bne_eq_false_iff_eq.mpr c2
  clear c2
  obtain rfl := Option.some.inj H
 case' b1_ =>
  rw [if_neg c2] at H
  have c2b0 : (a0 == 32) = false := beq_eq_false_iff_ne.mpr c2
  have c2b1 : (a0 != 32) = true := bne_iff_ne.mpr c2
  refine (Classical.em (a0 = 9)).elim (fun c3 => ?a2_) (fun c3 => ?b2_)
  case' a2_ =>
   rw [if_pos c3] at H
   have c3b0 : (a0 == 9) = true := beq_iff_eq.mpr c3
   have c3b1 : (a0 != 9) = false := bne_eq_false_iff_eq.mpr c3
   clear c3
   obtain rfl := Option.some.inj H
  case' b2_ =>
   rw [if_neg c3] at H
   have c3b0 : (a0 == 9) = false := beq_eq_false_iff_ne.mpr c3
   have c3b1 : (a0 != 9) = true := bne_iff_ne.mpr c3
   refine (Classical.em (a0 = 10)).elim (fun c4 => ?a3_) (fun c4 => ?b3_)
   case' a3_ =>
    rw [if_pos c4] at H
    have c4b0 : (a0 == 10) = true := beq_iff_eq.mpr c4
    have c4b1 : (a0 != 10) = false := bne_eq_false_iff_eq.mpr c4
    clear c4
    obtain rfl := Option.some.inj H
   case' b3_ =>
    rw [if_neg c4] at H
    have c4b0 : (a0 == 10) = false := beq_eq_false_iff_ne.mpr c4
    have c4b1 : (a0 != 10) = true := bne_iff_ne.mpr c4
    obtain rfl := Option.some.inj H
    go_enter Tryd.func46, Tryd.ntmps46
    go_wp2
    go_ret
    exact ⟨by first | rfl | (simp; done) | (simp [*]; done), by repeat (first | exact Drawn0.refl _ | apply Drawn0.step)⟩

 case a1_ | a2_ | b2_ =>
  go_enter Tryd.func46, Tryd.ntmps46
  go_wp2
  go_ret
  exact ⟨by first | rfl | (simp; done) | (simp [*]; done), by repeat (first | exact Drawn0.refl _ | apply Drawn0.step)⟩
/-! ### chars_Flat: function 36 -/
def blk (c : UInt8) : Bool := c == 32 || c == 9 || c == 10 || c == 13
def flat1 (c : UInt8) : UInt8 := if blk c then 32 else c
def chars_Flat.f (s : ByteArray) : Option ByteArray := if s.size ≤ 1099511627776 then some ⟨(s.data.toList.map flat1).toArray⟩ else none
theorem blank_is (c : UInt8) : chars_blank.f (c.toNat : Int) = some (blk c) := by
  have : ∀ n : Fin 256, chars_blank.f (n.val : Int) = some (blk (UInt8.ofNat n.val)) := by decide +kernel
  have h := this ⟨c.toNat, c.toNat_lt⟩
  simpa using h
def flatAt (s : ByteArray) (k j : Nat) : UInt8 := if j < k then flat1 (s.data.toList.getD j 0) else s.data.toList.getD j 0
theorem bytes_thawed (w : World) (e : Nat) (s : ByteArray) (j : Nat) (hj : j < s.size) : (Lib.bytesWorld w e s).frozen? ⟨w.heap.size, j, none⟩ = false := by
  have hz : s.size ≤ (Lib.bytesCells w e s).size := by rw [show (Lib.bytesCells w e s).size = s.data.size + (grownCap w s.size 0 e - s.size) by simp [Lib.bytesCells, -ByteArray.size_data]]; exact Nat.le_add_right _ _
  unfold World.frozen?
  rw [Lib.bytesWorld_at_new]
  simp; omega
def chars_Flat.Inv (s : ByteArray) (w wr : World) (v : Value) : Prop :=
  ∃ k : Nat, k ≤ s.size ∧ v = .int .i64 k ∧ (∀ j, j < s.size → wr.cell? ⟨w.heap.size, j, none⟩ = some (.int .u8 (flatAt s k j).toNat) ∧ wr.frozen? ⟨w.heap.size, j, none⟩ = false) ∧ Below w.heap.size w wr
theorem str_of_bytes (l : List UInt8) : strOfNums (l.map fun c => (c.toNat : Int)) = ⟨l.toArray⟩ := by
  unfold strOfNums
  congr 2
  rw [List.map_map]
  refine (List.map_congr_left (fun c _ => ?_)).trans (List.map_id l)
  simp
theorem chars_Flat.step1 {s : ByteArray} {w wr : World} {k : Nat} {c : UInt8} (hlt : k < s.size) (hx : s.data.toList.getD k 0 = c) (hc : ∀ j, j < s.size → wr.cell? ⟨w.heap.size, j, none⟩ = some (.int .u8 (flatAt s k j).toNat) ∧ wr.frozen? ⟨w.heap.size, j, none⟩ = false) (hB : Below w.heap.size w wr)
    (hck : wr.cell? ⟨w.heap.size, k, none⟩ = some (.int .u8 c.toNat)) (hb : blk c = true) (nd : Nat) : chars_Flat.Inv s w ((wr.drewN nd).setCell ⟨w.heap.size, k, none⟩ (.int .u8 32)) (.int .i64 ((k : Int) + 1)) := by
  refine ⟨k + 1, hlt, by push_cast; rfl, fun j hj => ?_, (pw_below_drewN hB nd).setCell (Nat.le_refl _) _⟩
  obtain ⟨c1, c2⟩ := hc j hj
  refine ⟨?_, by rw [World.frozen?_setCell]; exact c2⟩
  by_cases e : j = k
  · subst e
    rw [World.cell?_setCell_same (wr.drewN nd) _ _ (show (wr.drewN nd).cell? _ = some (.int .u8 c.toNat) from hck)]
    have e : flatAt s (j + 1) j = 32 := by unfold flatAt; rw [if_pos (by omega), hx]; unfold flat1; rw [if_pos hb]
    rw [e]; rfl
  · rw [World.cell?_setCell_other _ _ _ _ (by intro h; injection h with _ h2; omega)]
    rw [show flatAt s (k + 1) j = flatAt s k j by unfold flatAt; by_cases h : j < k; { rw [if_pos h, if_pos (by omega)] }; { rw [if_neg h, if_neg (by omega)] }]
    exact c1
theorem chars_Flat.step0 {s : ByteArray} {w wr : World} {k : Nat} {c : UInt8} (hlt : k < s.size) (hx : s.data.toList.getD k 0 = c) (hc : ∀ j, j < s.size → wr.cell? ⟨w.heap.size, j, none⟩ = some (.int .u8 (flatAt s k j).toNat) ∧ wr.frozen? ⟨w.heap.size, j, none⟩ = false) (hB : Below w.heap.size w wr)
    (hb : blk c = false) (nd : Nat) : chars_Flat.Inv s w (wr.drewN nd) (.int .i64 ((k : Int) + 1)) := by
  refine ⟨k + 1, hlt, by push_cast; rfl, fun j hj => ?_, pw_below_drewN hB nd⟩
  obtain ⟨c1, c2⟩ := hc j hj
  refine ⟨?_, c2⟩
  rw [show flatAt s (k + 1) j = flatAt s k j by
    unfold flatAt
    by_cases h : j < k
    · rw [if_pos h, if_pos (by omega)]
    · by_cases e : j = k
      · subst e; rw [if_pos (by omega), if_neg (by omega), hx]; simp [flat1, hb]
      · rw [if_neg h, if_neg (by omega)]]
  exact c1
set_option maxHeartbeats 2000000 in
set_option maxRecDepth 100000 in
theorem chars_Flat.calls (s r : ByteArray) (w : World) (h : chars_Flat.f s = some r) :
    Calls Tryd.prog 36 #[.string s] w fun e w' => e = .returned (.string r) ∧ Below w.heap.size w w' := by
  unfold chars_Flat.f at h
  split at h
  · rename_i hs
    obtain rfl := Option.some.inj h
    clear h
    have hcb := fun W => Lib.run_convert_string_bytes (P := Tryd.prog) W 9 23 5 s Tryd.underlying9 Tryd.underlying23 Tryd.underlying5
    go_enter Tryd.func36, Tryd.ntmps36
    go_wp2
    have ST := Aside0.mk (show (∀ j, j < s.size → (Lib.bytesWorld w 5 s).cell? ⟨w.heap.size, j, none⟩ = some (.int .u8 (flatAt s 0 j).toNat) ∧ (Lib.bytesWorld w 5 s).frozen? ⟨w.heap.size, j, none⟩ = false) ∧ Below w.heap.size w (Lib.bytesWorld w 5 s) from
      ⟨fun j hj => ⟨by rw [Lib.bytesWorld_cell w _ s j hj]; simp [flatAt], bytes_thawed w _ s j hj⟩, bytes_below (Below.refl _ _) (Nat.le_refl _) _ _⟩)
    generalize Lib.bytesWorld _ _ _ = W0 at ST ⊢
    generalize grownCap _ _ _ _ = cap
    clear hcb
    go_loopw [9] (fun v9 wr => Aside0 (chars_Flat.Inv s w wr v9)) (fun v9 _ => s.size - (intOf v9).toNat)
    case atStart => exact ⟨0, Nat.zero_le _, rfl, ST.out.1, ST.out.2⟩
    case round =>
      obtain ⟨k, hk, rfl, hc, hB⟩ := hrel.out
      clear hrel ST
      by_cases hlt : k < s.size
      · obtain ⟨hck, hfk⟩ := hc k hlt
        have hfa : flatAt s k k = s.data.toList.getD k 0 := by simp [flatAt]
        rw [hfa] at hck
        generalize hx : s.data.toList.getD k 0 = c at hck hfa
        have hbl := blank_is c
        have hcs : (wr.cell? ⟨w.heap.size, k, none⟩).isSome = true := by rw [hck]; rfl
        have h0 := Aside0.mk hx
        have h1 := Aside0.mk hc
        have h2 := Aside0.mk hB
        have h3 := Aside0.mk hbl
        have h4 := Aside0.mk hck
        clear hc hB hfa hbl hx
        cases hb : blk c with
        | true =>
          have h5 := Aside0.mk hb
          rw [hb] at h3
          clear hb
          go_wp2_with (go_at_call 46; refine (chars_blank.calls _ _ _ h3.out).mono ?_; rintro e w1 ⟨rfl, ⟨nd, rfl⟩⟩)
          go_roundw
          case rel => exact ⟨chars_Flat.step1 hlt h0.out h1.out h2.out h4.out h5.out nd⟩
          case measure => simp [intOf]; omega
        | false =>
          have h5 := Aside0.mk hb
          rw [hb] at h3
          clear hb
          go_wp2_with (go_at_call 46; refine (chars_blank.calls _ _ _ h3.out).mono ?_; rintro e w1 ⟨rfl, ⟨nd, rfl⟩⟩)
          go_roundw
          case rel => exact ⟨chars_Flat.step0 hlt h0.out h1.out h2.out h5.out nd⟩
          case measure => simp [intOf]; omega
      · obtain rfl : k = s.size := by omega
        have hl : (s.data.toList.map flat1).length = s.size := by rw [List.length_map]; show s.data.toList.length = s.data.size; rw [Array.length_toList]
        have hrow := bytes_row (w := wr) (b := w.heap.size) (l := s.data.toList.map flat1) (by omega) (fun j hj => by
          rw [hl] at hj
          rw [(hc j hj).1]
          simp [flatAt, hj, List.getD_eq_getElem?_getD])
        rw [hl] at hrow
        have hcv := Kd.C_string (P := Tryd.prog) (A := some ⟨w.heap.size, 0, none⟩) (c := cap) Tryd.underlying23 Tryd.underlying5 Tryd.underlying9 (show Kd.C (Kd.int .u8) wr _ ((s.data.toList.map flat1).map fun c => (c.toNat : Int)).length _ by rw [List.length_map, hl]; exact hrow)
        rw [str_of_bytes, List.length_map, hl] at hcv
        have h2 := Aside0.mk hB
        clear hc hB hrow
        go_wp2
        go_ret
        exact ⟨rfl, h2.out⟩
  · exact absurd h (by simp)

end Go.Proofs.YtfphmpnkfjeceaaDoor.Hp
