/- Go functions of this seat as Lean functions, and their contracts: what the Go code computes, for every input. (By hp.py, a program of this repo, over the kit's print.py.) -/
import Derived.Test.YtcikjghmelbkaaaDoorHp0
import Derived.Test.YtcikjghmelbkaaaDoorHp2
namespace Go.Proofs.YtcikjghmelbkaaaDoor.Hp
open Go.RowKit Go.Proofs.YtcikjghmelbkaaaDoorW.PrintWords Go.Proofs.YtcikjghmelbkaaaDoorW.PrintLast Go.Proofs.YtcikjghmelbkaaaDoorW.PrintMore
attribute [local go_sem] max2_int min2_int max_two min_two max_three min_three max_four min_four   -- for this text's walks alone
set_option linter.unusedVariables false
set_option linter.unusedSimpArgs false

/-! ### strings_Join: function 32 -/
/-- Where a cell can be read, the address is a plain one. -/
theorem plain_of_cell {w : World} {a : Addr} {v : Value} (h : w.cell? a = some v) : a = ⟨a.block, a.off, none⟩ := by
  obtain ⟨b, o, s⟩ := a
  cases s with
  | none => rfl
  | some s =>
    unfold World.cell? at h
    cases hb : w.heap[b]? with
    | none => simp [hb] at h
    | some x => cases x <;> simp [hb] at h
/-- A row that is read and holds something: where it lies, cell by cell. -/
theorem row_at {α : Type} {enc : α → Value} {h1 : ∀ x, (enc x).oneCell' = true} {w : World} {A : Option Addr} {n : Nat} {xs : List α} (h : Kd.C (Kd.scalar enc h1) w A n xs) (hn : 0 < n) :
    ∃ b o, A = some ⟨b, o, none⟩ ∧ b < w.heap.size ∧ ∀ (j : Nat) x, xs[j]? = some x → w.cell? ⟨b, o + j, none⟩ = some (enc x) := by
  obtain ⟨ad, rfl, hcell⟩ := h.2.2 hn
  have hg : ∀ (j : Nat) x, xs[j]? = some x → w.cell? (ad.add j) = some (enc x) := by
    intro j x hx
    obtain ⟨c, hcl, hk, hi⟩ := hcell j x hx
    obtain rfl : c = [enc x] := hk
    have := hi 0 _ rfl
    rwa [show j * (Kd.scalar enc h1).sz + 0 = j from by show j * 1 + 0 = j; omega] at this
  have h0 := hg 0 _ (List.getElem?_eq_getElem (by rw [h.1]; exact hn))
  have hp := plain_of_cell (show w.cell? ad = _ from h0)
  refine ⟨ad.block, ad.off, by rw [← hp], World.block_lt_of_cell? w _ h0, fun j x hx => ?_⟩
  have := hg j x hx
  rwa [hp, Addr.add_lit] at this
def strings_Join.f (l0 : List ByteArray) (a1 : ByteArray) : Option ByteArray := if l0.length ≤ 140737488355328 ∧ (Lib.join (l0.map (·.data.toList)) a1.data.toList).length ≤ 140737488355328 then some ⟨(Lib.join (l0.map (·.data.toList)) a1.data.toList).toArray⟩ else none
theorem strings_Join.calls (A0 : Option Addr) (c0 : Nat) (l0 : List ByteArray) (a1 : ByteArray) (r : ByteArray) (w : World) (hr0 : Kd.C Kd.string w A0 l0.length l0) (hc0 : l0.length ≤ c0) (h : strings_Join.f l0 a1 = some r) :
    Calls Tryd.prog 32 #[.slice A0 l0.length c0, .string a1] w fun e w' => e = .returned (.string r) ∧ Below w.heap.size w w' := by
  unfold strings_Join.f at h
  split at h
  · rename_i hl
    obtain rfl := Option.some.inj h
    by_cases h0 : l0 = []
    · subst h0
      exact (Tryd.strings_Join_none A0 c0 a1 w).mono fun e w' ⟨he, hw⟩ => ⟨he, hw ▸ Below.refl _ _⟩
    · obtain ⟨b, o, rfl, hb, hc⟩ := row_at hr0 (by cases l0 with | nil => exact absurd rfl h0 | cons => simp)
      exact Tryd.strings_Join b o c0 l0 a1 w hc hb hl.1 hc0 hl.2
  · exact absurd h (by simp)

/-! ### strings_Split: function 42 -/
def strings_Split.f (a0 a1 : ByteArray) : Option (List ByteArray) := if a0.size < 4294967281 ∧ 1 ≤ a1.size then some (Lib.splitB a1 0 (Lib.countB a0 a1) a0) else none
theorem own_made (w : World) (e : Nat) (cs : List Value) (n : Nat) (hl : cs.length = n) (hn : n ≤ maxLen) : (w.alloc (.cells cs.toArray e)).ownsRow w.heap.size e 1 (.slice (some ⟨w.heap.size, 0, none⟩) n n) n cs := by
  subst hl
  exact ⟨by simp, .inr ⟨w.heap.size, cs.length, cs.toArray, rfl, Nat.le_refl _, heap_alloc_new _ _, Nat.le_refl _, hn, by simp, by simp⟩⟩
theorem strings_Split.calls (a0 a1 : ByteArray) (r : List ByteArray) (w : World) (hU : Uni w) (h : strings_Split.f a0 a1 = some r) :
    Calls Tryd.prog 42 #[.string a0, .string a1] w fun e w' => ∃ v0_ : Value, e = .returned (v0_) ∧ Kd.R Kd.string 9 w' w.heap.size (fun _ => True) v0_ r ∧ Below w.heap.size w w' := by
  unfold strings_Split.f at h
  split at h
  · rename_i hc
    obtain rfl := Option.some.inj h
    obtain ⟨m, hm⟩ := hU.len
    refine (Tryd.strings_Split a0 a1 m w hc.1 hm hc.2).mono ?_
    rintro e w' ⟨rfl, rfl⟩
    have hl := Lib.splitB_all a1 hc.2 0 (Lib.countB a0 a1) a0 rfl
    have hle := Lib.countB_le a1 hc.2 a0.size a0 (Nat.le_refl _)
    refine ⟨_, rfl, Kd.R_of_own (h1 := fun _ => rfl) ?_ (fun _ _ => trivial), (Below.refl _ _).alloc (Nat.le_refl _) _⟩
    rw [hl]
    exact own_made w 9 _ _ (by simp [hl]) (by unfold maxLen; omega)
  · exact absurd h (by simp)
theorem strings_Split.raw (a0 a1 : ByteArray) (m : Int) (w : World) (hs : a0.size < 4294967281) (hm : w.cell? ⟨0, 0, none⟩ = some (.int .i64 m)) (h1 : 1 ≤ a1.size) (ps : List ByteArray) (hp : Lib.splitB a1 0 (Lib.countB a0 a1) a0 = ps) :
    Calls Tryd.prog 42 #[.string a0, .string a1] w fun e w' => e = .returned (.slice (some ⟨w.heap.size, 0, none⟩) ps.length ps.length) ∧ w' = w.alloc (.cells (ps.map Value.string).toArray 9) := by
  subst hp
  refine (Tryd.strings_Split a0 a1 m w hs hm h1).mono ?_
  rintro e w' ⟨rfl, rfl⟩
  rw [Lib.splitB_all a1 h1 0 (Lib.countB a0 a1) a0 rfl]
  exact ⟨rfl, rfl⟩
/-- A row of texts that was just made, in a block of its own. -/
def Fresh (w : World) (ps : List ByteArray) (v : Value) (w' : World) : Prop := v = .slice (some ⟨w.heap.size, 0, none⟩) ps.length ps.length ∧ w' = w.alloc (.cells (ps.map Value.string).toArray 9) ∧ ps.length ≤ 4294967296
theorem strings_Split.fresh (a0 a1 : ByteArray) (r : List ByteArray) (w : World) (hU : Uni w) (h : strings_Split.f a0 a1 = some r) :
    Calls Tryd.prog 42 #[.string a0, .string a1] w fun e w' => ∃ v0_ : Value, e = .returned (v0_) ∧ Kd.R Kd.string 9 w' w.heap.size (fun _ => True) v0_ r ∧ Below w.heap.size w w' ∧ Fresh w r v0_ w' := by
  unfold strings_Split.f at h
  split at h
  · rename_i hc
    obtain rfl := Option.some.inj h
    obtain ⟨m, hm⟩ := hU.len
    have hl := Lib.splitB_all a1 hc.2 0 (Lib.countB a0 a1) a0 rfl
    have hle := Lib.countB_le a1 hc.2 a0.size a0 (Nat.le_refl _)
    refine (strings_Split.raw a0 a1 m w hc.1 hm hc.2 _ rfl).mono ?_
    rintro e w' ⟨rfl, rfl⟩
    refine ⟨_, rfl, Kd.R_of_own (h1 := fun _ => rfl) ?_ (fun _ _ => trivial), (Below.refl _ _).alloc (Nat.le_refl _) _, rfl, rfl, by rw [hl]; omega⟩
    exact own_made w 9 _ _ (by simp) (by rw [hl]; unfold maxLen; omega)
  · exact absurd h (by simp)

/-! ### chars_blank: function 49 -/
def chars_blank.f (a0 : Int) : Option (Bool) := if a0 = 32 then (some true) else (if a0 = 9 then (some true) else (if a0 = 10 then (some true) else (some (a0 == 13))))
set_option maxHeartbeats 8000000 in
set_option maxRecDepth 100000 in
theorem chars_blank.calls (a0 : Int) (r : Bool) (w : World) (h : chars_blank.f a0 = some r) :
  Calls Tryd.prog 49 #[.int .u8 a0] w fun e w' => e = .returned (.bool r) ∧ Drawn0 w w' := by
 have H : (if a0 = 32 then (some true) else (if a0 = 9 then (some true) else (if a0 = 10 then (some true) else (some (a0 == 13))))) = some r := h
 clear h
 refine (Classical.em (a0 = 32)).elim (fun c2 => ?a8_) (fun c2 => ?b8_)
 case' a8_ =>
  rw [if_pos c2] at H
  have c2b0 : (a0 == 32) = true := beq_iff_eq.mpr c2
  have c2b1 : (a0 != 32) = false := bne_eq_false_iff_eq.mpr c2
  clear c2
  obtain rfl := Option.some.inj H
 case' b8_ =>
  rw [if_neg c2] at H
  have c2b0 : (a0 == 32) = false := beq_eq_false_iff_ne.mpr c2
  have c2b1 : (a0 != 32) = true := bne_iff_ne.mpr c2
  refine (Classical.em (a0 = 9)).elim (fun c3 => ?a9_) (fun c3 => ?b9_)
  case' a9_ =>
   rw [if_pos c3] at H
   have c3b0 : (a0 == 9) = true := beq_iff_eq.mpr c3
   have c3b1 : (a0 != 9) = false := bne_eq_false_iff_eq.mpr c3
   clear c3
   obtain rfl := Option.some.inj H
  case' b9_ =>
   rw [if_neg c3] at H
   have c3b0 : (a0 == 9) = false := beq_eq_false_iff_ne.mpr c3
   have c3b1 : (a0 != 9) = true := bne_iff_ne.mpr c3
   refine (Classical.em (a0 = 10)).elim (fun c4 => ?a10_) (fun c4 => ?b10_)
   case' a10_ =>
    rw [if_pos c4] at H
    have c4b0 : (a0 == 10) = true := beq_iff_eq.mpr c4
    have c4b1 : (a0 != 10) = false := bne_eq_false_iff_eq.mpr c4
    clear c4
    obtain rfl := Option.some.inj H
   case' b10_ =>
    rw [if_neg c4] at H
    have c4b0 : (a0 == 10) = false := beq_eq_false_iff_ne.mpr c4
    have c4b1 : (a0 != 10) = true := bne_iff_ne.mpr c4
    obtain rfl := Option.some.inj H
    go_enter Tryd.func49, Tryd.ntmps49
    go_wp2
    go_ret
    exact ⟨by first | rfl | (simp; done) | (simp [*]; done), by repeat (first | exact Drawn0.refl _ | apply Drawn0.step)⟩

 case a8_ | a9_ | b9_ =>
  go_enter Tryd.func49, Tryd.ntmps49
  go_wp2
  go_ret
  exact ⟨by first | rfl | (simp; done) | (simp [*]; done), by repeat (first | exact Drawn0.refl _ | apply Drawn0.step)⟩
/-! ### chars_Flat: function 43 -/
def blk (c : UInt8) : Bool := c == 32 || c == 9 || c == 10 || c == 13
def flat1 (c : UInt8) : UInt8 := if blk c then 32 else c
def chars_Flat.f (s : ByteArray) : Option ByteArray := if s.size ≤ 1099511627776 then some ⟨(s.data.toList.map flat1).toArray⟩ else none
theorem blank_is (c : UInt8) : chars_blank.f (c.toNat : Int) = some (blk c) := by
  have : ∀ n : Fin 256, chars_blank.f (n.val : Int) = some (blk (UInt8.ofNat n.val)) := by decide +kernel
  have h := this ⟨c.toNat, c.toNat_lt⟩
  simpa using h
def flatAt (s : ByteArray) (k j : Nat) : UInt8 := if j < k then flat1 (s.data.toList.getD j 0) else s.data.toList.getD j 0
theorem bytes_thawed (w : World) (e : Nat) (s : ByteArray) (j : Nat) (hj : j < s.size) : (Lib.bytesWorld w e s).frozen? ⟨w.heap.size, j, none⟩ = false := by
  have hz : s.size ≤ (Lib.bytesCells w e s).size := by rw [show (Lib.bytesCells w e s).size = s.data.size + (grownCap w s.size 0 e - s.size) by simp [Lib.bytesCells, -ByteArray.size_data]]; exact Nat.le_add_right _ _
  unfold World.frozen?
  rw [Lib.bytesWorld_at_new]
  simp; omega
def chars_Flat.Inv (s : ByteArray) (w wr : World) (v : Value) : Prop :=
  ∃ k : Nat, k ≤ s.size ∧ v = .int .i64 k ∧ (∀ j, j < s.size → wr.cell? ⟨w.heap.size, j, none⟩ = some (.int .u8 (flatAt s k j).toNat) ∧ wr.frozen? ⟨w.heap.size, j, none⟩ = false) ∧ Below w.heap.size w wr
theorem str_of_bytes (l : List UInt8) : strOfNums (l.map fun c => (c.toNat : Int)) = ⟨l.toArray⟩ := by
  unfold strOfNums
  congr 2
  rw [List.map_map]
  refine (List.map_congr_left (fun c _ => ?_)).trans (List.map_id l)
  simp
theorem chars_Flat.step1 {s : ByteArray} {w wr : World} {k : Nat} {c : UInt8} (hlt : k < s.size) (hx : s.data.toList.getD k 0 = c) (hc : ∀ j, j < s.size → wr.cell? ⟨w.heap.size, j, none⟩ = some (.int .u8 (flatAt s k j).toNat) ∧ wr.frozen? ⟨w.heap.size, j, none⟩ = false) (hB : Below w.heap.size w wr)
    (hck : wr.cell? ⟨w.heap.size, k, none⟩ = some (.int .u8 c.toNat)) (hb : blk c = true) (nd : Nat) : chars_Flat.Inv s w ((wr.drewN nd).setCell ⟨w.heap.size, k, none⟩ (.int .u8 32)) (.int .i64 ((k : Int) + 1)) := by
  refine ⟨k + 1, hlt, by push_cast; rfl, fun j hj => ?_, (pw_below_drewN hB nd).setCell (Nat.le_refl _) _⟩
  obtain ⟨c1, c2⟩ := hc j hj
  refine ⟨?_, by rw [World.frozen?_setCell]; exact c2⟩
  by_cases e : j = k
  · subst e
    rw [World.cell?_setCell_same (wr.drewN nd) _ _ (show (wr.drewN nd).cell? _ = some (.int .u8 c.toNat) from hck)]
    have e : flatAt s (j + 1) j = 32 := by unfold flatAt; rw [if_pos (by omega), hx]; unfold flat1; rw [if_pos hb]
    rw [e]; rfl
  · rw [World.cell?_setCell_other _ _ _ _ (by intro h; injection h with _ h2; omega)]
    rw [show flatAt s (k + 1) j = flatAt s k j by unfold flatAt; by_cases h : j < k; { rw [if_pos h, if_pos (by omega)] }; { rw [if_neg h, if_neg (by omega)] }]
    exact c1
theorem chars_Flat.step0 {s : ByteArray} {w wr : World} {k : Nat} {c : UInt8} (hlt : k < s.size) (hx : s.data.toList.getD k 0 = c) (hc : ∀ j, j < s.size → wr.cell? ⟨w.heap.size, j, none⟩ = some (.int .u8 (flatAt s k j).toNat) ∧ wr.frozen? ⟨w.heap.size, j, none⟩ = false) (hB : Below w.heap.size w wr)
    (hb : blk c = false) (nd : Nat) : chars_Flat.Inv s w (wr.drewN nd) (.int .i64 ((k : Int) + 1)) := by
  refine ⟨k + 1, hlt, by push_cast; rfl, fun j hj => ?_, pw_below_drewN hB nd⟩
  obtain ⟨c1, c2⟩ := hc j hj
  refine ⟨?_, c2⟩
  rw [show flatAt s (k + 1) j = flatAt s k j by
    unfold flatAt
    by_cases h : j < k
    · rw [if_pos h, if_pos (by omega)]
    · by_cases e : j = k
      · subst e; rw [if_pos (by omega), if_neg (by omega), hx]; simp [flat1, hb]
      · rw [if_neg h, if_neg (by omega)]]
  exact c1
set_option maxHeartbeats 2000000 in
set_option maxRecDepth 100000 in
theorem chars_Flat.calls (s r : ByteArray) (w : World) (h : chars_Flat.f s = some r) :
    Calls Tryd.prog 43 #[.string s] w fun e w' => e = .returned (.string r) ∧ Below w.heap.size w w' := by
  unfold chars_Flat.f at h
  split at h
  · rename_i hs
    obtain rfl := Option.some.inj h
    clear h
    have hcb := fun W => Lib.run_convert_string_bytes (P := Tryd.prog) W 9 39 5 s Tryd.underlying9 Tryd.underlying39 Tryd.underlying5
    go_enter Tryd.func43, Tryd.ntmps43
    go_wp2
    have ST := Aside0.mk (show (∀ j, j < s.size → (Lib.bytesWorld w 5 s).cell? ⟨w.heap.size, j, none⟩ = some (.int .u8 (flatAt s 0 j).toNat) ∧ (Lib.bytesWorld w 5 s).frozen? ⟨w.heap.size, j, none⟩ = false) ∧ Below w.heap.size w (Lib.bytesWorld w 5 s) from
      ⟨fun j hj => ⟨by rw [Lib.bytesWorld_cell w _ s j hj]; simp [flatAt], bytes_thawed w _ s j hj⟩, bytes_below (Below.refl _ _) (Nat.le_refl _) _ _⟩)
    generalize Lib.bytesWorld _ _ _ = W0 at ST ⊢
    generalize grownCap _ _ _ _ = cap
    clear hcb
    go_loopw [9] (fun v9 wr => Aside0 (chars_Flat.Inv s w wr v9)) (fun v9 _ => s.size - (intOf v9).toNat)
    case atStart => exact ⟨0, Nat.zero_le _, rfl, ST.out.1, ST.out.2⟩
    case round =>
      obtain ⟨k, hk, rfl, hc, hB⟩ := hrel.out
      clear hrel ST
      by_cases hlt : k < s.size
      · obtain ⟨hck, hfk⟩ := hc k hlt
        have hfa : flatAt s k k = s.data.toList.getD k 0 := by simp [flatAt]
        rw [hfa] at hck
        generalize hx : s.data.toList.getD k 0 = c at hck hfa
        have hbl := blank_is c
        have hcs : (wr.cell? ⟨w.heap.size, k, none⟩).isSome = true := by rw [hck]; rfl
        have h0 := Aside0.mk hx
        have h1 := Aside0.mk hc
        have h2 := Aside0.mk hB
        have h3 := Aside0.mk hbl
        have h4 := Aside0.mk hck
        clear hc hB hfa hbl hx
        cases hb : blk c with
        | true =>
          have h5 := Aside0.mk hb
          rw [hb] at h3
          clear hb
          go_wp2_with (go_at_call 49; refine (chars_blank.calls _ _ _ h3.out).mono ?_; rintro e w1 ⟨rfl, ⟨nd, rfl⟩⟩)
          go_roundw
          case rel => exact ⟨chars_Flat.step1 hlt h0.out h1.out h2.out h4.out h5.out nd⟩
          case measure => simp [intOf]; omega
        | false =>
          have h5 := Aside0.mk hb
          rw [hb] at h3
          clear hb
          go_wp2_with (go_at_call 49; refine (chars_blank.calls _ _ _ h3.out).mono ?_; rintro e w1 ⟨rfl, ⟨nd, rfl⟩⟩)
          go_roundw
          case rel => exact ⟨chars_Flat.step0 hlt h0.out h1.out h2.out h5.out nd⟩
          case measure => simp [intOf]; omega
      · obtain rfl : k = s.size := by omega
        have hl : (s.data.toList.map flat1).length = s.size := by rw [List.length_map]; show s.data.toList.length = s.data.size; rw [Array.length_toList]
        have hrow := bytes_row (w := wr) (b := w.heap.size) (l := s.data.toList.map flat1) (by omega) (fun j hj => by
          rw [hl] at hj
          rw [(hc j hj).1]
          simp [flatAt, hj, List.getD_eq_getElem?_getD])
        rw [hl] at hrow
        have hcv := Kd.C_string (P := Tryd.prog) (A := some ⟨w.heap.size, 0, none⟩) (c := cap) Tryd.underlying39 Tryd.underlying5 Tryd.underlying9 (show Kd.C (Kd.int .u8) wr _ ((s.data.toList.map flat1).map fun c => (c.toNat : Int)).length _ by rw [List.length_map, hl]; exact hrow)
        rw [str_of_bytes, List.length_map, hl] at hcv
        have h2 := Aside0.mk hB
        clear hc hB hrow
        go_wp2
        go_ret
        exact ⟨rfl, h2.out⟩
  · exact absurd h (by simp)

/-! ### chars_Words: function 33 -/
def chars_Words.l0 : Nat → List ByteArray → List ByteArray → Int → Int → Option (List ByteArray)
 | 0, _, _, _, _ => none
 | k + 1, x3, x8, x9, x10 => if x10 < x9 then (if 0 ≤ x10 then (if x10 < (x8.length : Int) then (if (rdOf ByteArray.empty x8 x10).toList = ([] : List UInt8) then (chars_Words.l0 k x3 x8 x9 (wrap64 (x10 + 1))) else (if x3.length < 8796093022208 then (chars_Words.l0 k (x3 ++ [rdOf ByteArray.empty x8 x10]) x8 x9 (wrap64 (x10 + 1))) else (none))) else (none)) else (none)) else (some x3)
def chars_Words.f (k : Nat) (a0 : ByteArray) : Option (List ByteArray) := (chars_Flat.f a0).bind fun t127 => ((strings_Split.f t127 (⟨#[32]⟩ : ByteArray)).bind fun t128 => (chars_Words.l0 k ([] : List ByteArray) t128 (t128.length : Int) 0))
theorem chars_Words.mono_l : ∀ k, (∀ y0 y1 y2 y3, LeO (chars_Words.l0 k y0 y1 y2 y3) (chars_Words.l0 (k + 1) y0 y1 y2 y3))
 | 0 => fun _ _ _ _ r h => by simp [chars_Words.l0] at h
 | k + 1 => by
  have ih0 := chars_Words.mono_l k
  ·intro y0 y1 y2 y3
   unfold chars_Words.l0
   repeat' first
   | (with_reducible exact ih0 _ _ _ _)
   | (with_reducible exact LeO.refl _)
   | (with_reducible exact LeO.none _)
   | (with_reducible refine LeO.ite ?_ ?_)
   | (with_reducible refine LeO.bind ?_ (fun _ => ?_))
   | exact ih0 _ _ _ _
   | exact LeO.none _
   | refine LeO.ite ?_ ?_
   | refine LeO.bind ?_ (fun _ => ?_)
theorem chars_Words.mono : ∀ a0 k, LeO (chars_Words.f k a0) (chars_Words.f (k + 1) a0) := by
 intro a0 k
 have ih0 := chars_Words.mono_l k
 unfold chars_Words.f
 repeat' first
   | (with_reducible exact ih0 _ _ _ _)
   | (with_reducible exact LeO.refl _)
   | (with_reducible exact LeO.none _)
   | (with_reducible refine LeO.ite ?_ ?_)
   | (with_reducible refine LeO.bind ?_ (fun _ => ?_))
   | exact ih0 _ _ _ _
   | exact LeO.none _
   | refine LeO.ite ?_ ?_
   | refine LeO.bind ?_ (fun _ => ?_)
set_option maxHeartbeats 8000000 in
set_option maxRecDepth 100000 in
theorem chars_Words.calls (k : Nat) (a0 : ByteArray) (r : List ByteArray) (w : World) (hU : Uni w) (h : chars_Words.f k a0 = some r) :
  Calls Tryd.prog 33 #[.string a0] w fun e w' => ∃ v0_ : Value, e = .returned (v0_) ∧ Kd.R Kd.string 9 w' w.heap.size (fun _ => True) v0_ r ∧ Below w.heap.size w w' := by
 have HU := Aside0.mk hU
 clear hU
 have HB := Aside0.mk (Below.refl w.heap.size w)
 have H : ((chars_Flat.f a0).bind fun t127 => ((strings_Split.f t127 (⟨#[32]⟩ : ByteArray)).bind fun t128 => (chars_Words.l0 k ([] : List ByteArray) t128 (t128.length : Int) 0))) = some r := h
 clear h
 replace H := Option.bind_eq_some_iff.mp H
 obtain ⟨t127, A20, H⟩ := H
 replace H : ((strings_Split.f t127 (⟨#[32]⟩ : ByteArray)).bind fun t128 => (chars_Words.l0 k ([] : List ByteArray) t128 (t128.length : Int) 0)) = some r := H
 have A2 := Aside0.mk A20
 clear A20
 replace H := Option.bind_eq_some_iff.mp H
 obtain ⟨t128, A30, H⟩ := H
 replace H : (chars_Words.l0 k ([] : List ByteArray) t128 (t128.length : Int) 0) = some r := H
 have A3 := Aside0.mk A30
 clear A30
 have H' := Aside0.mk H
 clear H
 go_enter Tryd.func33, Tryd.ntmps33
 go_wp2_with (first | ((with_reducible refine gate_callee (f := 43) rfl ?_); refine goesA (some 7) Tryd.func43 #[.string a0] rfl ?_; (with_reducible refine (chars_Flat.calls a0 t127 _ A2.out).mono ?_); rintro e w4 ⟨rfl, hb⟩; refine ⟨_, rfl, ?_⟩; have n0_ := Bs HB hb; clear HB; revert n0_; intro HB; (try clear hb); (try clear hb2); (try clear hk); (try clear hi)) | ((with_reducible refine gate_callee (f := 42) rfl ?_); refine goesL_ (some 8) rfl rfl Tryd.func42 (by kernel_rfl) rfl #[.string t127, .string (⟨#[32]⟩ : ByteArray)] rfl (by (try simp only [List.map_toArray, List.map_cons, List.map_nil]); first | done | rfl | (simp only [List.length_drop, List.length_take]; rfl)) ?_; (with_reducible refine (strings_Split.calls t127 (⟨#[32]⟩ : ByteArray) t128 _ ?sideU A3.out).mono ?_); (case sideU => first | exact HU.out | exact Uni.up HU (Bu HB) | exact Uni.below HU.out (by assumption)); rintro e w5 ⟨v129, rfl, ho0, hb⟩; refine ⟨_, rfl, ?_⟩; have n0_ := Aside0.mk (Kd.R_lower ho0 (Bz HB)); have n1_ := Bs HB hb; clear HB; revert n0_ n1_; intro HO130 HB; (try clear hb); (try clear hb2); (try clear hk); (try clear hi); (try clear ho0); obtain ⟨Ao6, co6, eo6⟩ := Kd.R_slice HO130.out; subst eo6))
 go_loopg [3, 10] k (fun kq v3 v10 w' => ∃ (x3_1 : List ByteArray) (x10_1 : Int), v10 = .int .i64 x10_1 ∧ Aside0 (chars_Words.l0 kq x3_1 t128 (t128.length : Int) x10_1 = some r) ∧ Aside0 (kq ≤ k) ∧ Aside0 (Kd.R Kd.string 9 w' w.heap.size (fun k_ => some k_ ≠ ((.slice Ao6 t128.length co6) : Value).ownBlock) v3 x3_1) ∧ Aside0 (Kd.R Kd.string 9 w' w.heap.size (fun k_ => some k_ ≠ (v3 : Value).ownBlock) (.slice Ao6 t128.length co6) t128) ∧ Aside0 (Below w.heap.size w w'))
 case atStart => exact ⟨(([] : List ByteArray)), (0), (by first | rfl | (simp; done) | (simp [*]; done)), H', ⟨Nat.le_refl _⟩, ⟨by first | exact Kd.R_nil _ _ _ _ _ | exact Kd.N_nil _ _ _ _ _ | exact Kd.V_nil _ _ _ _ _ | exact Kd.Q_nil _ _ _ _ _ | exact Kd.S_nil _ _ _ _ _⟩, ⟨by (with_reducible repeat (first | apply Kd.R_alloc | apply Kd.R_drewN | apply Kd.R_drew)); exact Kd.R_mono HO130.out (fun _ hk => (by simp [Value.ownBlock]))⟩, ⟨Bu HB⟩⟩
 case round =>
  clear H'
  try clear p2
  try clear c3
  try clear c4
  obtain ⟨x3_1, x10_1, rfl, HA, HK1, HO_3, HO_8, HB⟩ := hrel
  cases gk with
  | zero => exact absurd HA.out (by simp [chars_Words.l0])
  | succ k1 =>
   have H := HA.out
   clear HA
   simp only [chars_Words.l0] at H
   by_cases c7 : x10_1 < (t128.length : Int)
   ·rw [if_pos c7] at H
    have c7b0 : decide (x10_1 < (t128.length : Int)) = true := decide_eq_true c7
    clear c7
    by_cases c8 : 0 ≤ x10_1
    ·rw [if_pos c8] at H
     have c8b0 : decide (0 ≤ x10_1) = true := decide_eq_true c8
     clear c8
     by_cases c9 : x10_1 < (t128.length : Int)
     ·rw [if_pos c9] at H
      have c9b0 : decide (x10_1 < (t128.length : Int)) = true := decide_eq_true c9
      clear c9
      by_cases c10 : (rdOf ByteArray.empty t128 x10_1).toList = ([] : List UInt8)
      ·rw [if_pos c10] at H
       have c10b0 : ((rdOf ByteArray.empty t128 x10_1).toList == ([] : List UInt8)) = true := beq_iff_eq.mpr c10
       have c10b1 : ((rdOf ByteArray.empty t128 x10_1).toList != ([] : List UInt8)) = false := bne_eq_false_iff_eq.mpr c10
       clear c10
       have H' := Aside0.mk H
       clear H
       have p131 : 0 ≤ (x10_1 : Int) := of_decide_eq_true (by first | (with_reducible assumption) | assumption)
       have q131 : x10_1 < (t128.length : Int) := of_decide_eq_true (by first | (with_reducible assumption) | assumption)
       obtain ⟨ad131, e131, hx131_0⟩ := Kd.at_string (Kd.R_reads' HO_8.out).2.2 x10_1 p131 q131
       cases e131
       replace p131 := eq_true p131
       replace q131 := eq_true q131
       go_wp2
       go_roundg k1
       case measure => have := HK1.out; omega
       case rel => exact ⟨(x3_1), (wrap64 (x10_1 + 1)), (by first | rfl | (simp; done) | (simp [*]; done)), H', ⟨by have := HK1.out; omega⟩, ⟨Ru HO_3⟩, ⟨Ru HO_8⟩, ⟨Bu HB⟩⟩
      ·rw [if_neg c10] at H
       have c10b0 : ((rdOf ByteArray.empty t128 x10_1).toList == ([] : List UInt8)) = false := beq_eq_false_iff_ne.mpr c10
       have c10b1 : ((rdOf ByteArray.empty t128 x10_1).toList != ([] : List UInt8)) = true := bne_iff_ne.mpr c10
       by_cases c11 : x3_1.length < 8796093022208
       ·rw [if_pos c11] at H
        have LMc11 := Aside0.mk c11
        clear c11
        obtain ⟨y132, hy132⟩ : ∃ y_ : List ByteArray, y_ = (x3_1 ++ [rdOf ByteArray.empty t128 x10_1]) := ⟨_, rfl⟩
        replace H : (chars_Words.l0 k1 y132 t128 (t128.length : Int) (wrap64 (x10_1 + 1))) = some r := by first | (rw [hy132]; with_reducible exact H) | (have H2_ := (Option.bind_some _ _).symm.trans H; rw [hy132]; with_reducible exact H2_) | (have H2_ := (Option.bind_some _ _).symm.trans H; with_reducible exact H2_) | with_reducible exact H | (rw [hy132]; exact H) | exact H
        have Ny132 := Aside0.mk hy132
        clear hy132
        have H' := Aside0.mk H
        clear H
        have p131 : 0 ≤ (x10_1 : Int) := of_decide_eq_true (by first | (with_reducible assumption) | assumption)
        have q131 : x10_1 < (t128.length : Int) := of_decide_eq_true (by first | (with_reducible assumption) | assumption)
        obtain ⟨ad131, e131, hx131_0⟩ := Kd.at_string (Kd.R_reads' HO_8.out).2.2 x10_1 p131 q131
        cases e131
        replace p131 := eq_true p131
        replace q131 := eq_true q131
        go_wp2_with (first | ((with_reducible refine gate_builtin (b := .append) (xs := #[.tmp 16, .tmp 18]) rfl ?_); at_builtin; refine Kd.R_append Kd.string (w0 := w) w.heap.size rfl (.tmp 16) (.tmp 18) 56 9 (.string ⟨#[]⟩) 16 rfl Tryd.underlying56 info9 rfl (by decide) (by omega) u3 x3_1 (rdOf ByteArray.empty t128 x10_1) [.string (rdOf ByteArray.empty t128 x10_1)] (fun k_ => some k_ ≠ (.slice (some ad131) t128.length co6 : Value).ownBlock) (fun _ => False) rfl rfl ?aP (fun _ hk => hk.elim) ?aF ?aO ?aB ?aS ?aL ?_; (case aP => exact rfl); (case aB => exact (Bu HB)); (case aF => exact (fun k_ hk => Kd.fresh' (Kd.R_lt (Ru HO_8)) k_ hk)); (case aO => exact (Ru HO_3)); (case aS => exact (Bz HB)); (case aL => have := LMc11.out; omega); intro v133 w12 ho hb hg hat; rw [← Ny132.out] at ho; have n0_ := Aside0.mk (Kd.R_after (ok := (fun _ => True)) (by (with_reducible repeat (first | apply Kd.R_alloc | apply Kd.R_drewN | apply Kd.R_drew)); exact Kd.R_mono HO_8.out (fun _ hk => ⟨trivial, hk⟩)) hg hat); have n1_ := Aside0.mk (hb); have n2_ := Aside0.mk (ho); clear HO_8 HB HO_3; revert n0_ n1_ n2_; intro HO_8 HB HO134; clear ho hb hg hat))
        go_roundg k1
        case measure => have := HK1.out; omega
        case rel => exact ⟨(y132), (wrap64 (x10_1 + 1)), (by first | rfl | (simp; done) | (simp [*]; done)), H', ⟨by have := HK1.out; omega⟩, ⟨Ru HO134⟩, ⟨by (with_reducible repeat (first | apply Kd.R_alloc | apply Kd.R_drewN | apply Kd.R_drew)); exact Kd.R_mono HO_8.out (fun _ hk => hk.2)⟩, ⟨Bu HB⟩⟩
       ·rw [if_neg c11] at H
        exact absurd H (by simp)
     ·rw [if_neg c9] at H
      exact absurd H (by simp)
    ·rw [if_neg c8] at H
     exact absurd H (by simp)
   ·rw [if_neg c7] at H
    have c7b0 : decide (x10_1 < (t128.length : Int)) = false := decide_eq_false c7
    clear c7
    obtain rfl := Option.some.inj H
    go_wp2
    go_ret
    exact ⟨_, rfl_, by (with_reducible repeat (first | apply Kd.R_alloc | apply Kd.R_drewN | apply Kd.R_drew)); exact Kd.R_mono HO_3.out (fun _ hk => trivial), Bu HB⟩

/-! ### chars_Collapse: function 28 -/
def chars_Collapse.f (k : Nat) (a0 : ByteArray) : Option (ByteArray) := (chars_Words.f k a0).bind fun t135 => ((strings_Join.f t135 (⟨#[32]⟩ : ByteArray)).bind fun t138 => (some t138))
theorem chars_Collapse.mono : ∀ a0 k, LeO (chars_Collapse.f k a0) (chars_Collapse.f (k + 1) a0) := by
 intro a0 k
 unfold chars_Collapse.f
 repeat' first
   | (with_reducible exact chars_Words.mono _ _)
   | (with_reducible exact LeO.refl _)
   | (with_reducible exact LeO.none _)
   | (with_reducible refine LeO.ite ?_ ?_)
   | (with_reducible refine LeO.bind ?_ (fun _ => ?_))
   | exact chars_Words.mono _ _
   | exact LeO.none _
   | refine LeO.ite ?_ ?_
   | refine LeO.bind ?_ (fun _ => ?_)
set_option maxHeartbeats 8000000 in
set_option maxRecDepth 100000 in
theorem chars_Collapse.calls (k : Nat) (a0 : ByteArray) (r : ByteArray) (w : World) (hU : Uni w) (h : chars_Collapse.f k a0 = some r) :
  Calls Tryd.prog 28 #[.string a0] w fun e w' => e = .returned (.string r) ∧ Below w.heap.size w w' := by
 have HU := Aside0.mk hU
 clear hU
 have HB := Aside0.mk (Below.refl w.heap.size w)
 have H : ((chars_Words.f k a0).bind fun t135 => ((strings_Join.f t135 (⟨#[32]⟩ : ByteArray)).bind fun t138 => (some t138))) = some r := h
 clear h
 replace H := Option.bind_eq_some_iff.mp H
 obtain ⟨t135, A20, H⟩ := H
 replace H : ((strings_Join.f t135 (⟨#[32]⟩ : ByteArray)).bind fun t138 => (some t138)) = some r := H
 have A2 := Aside0.mk A20
 clear A20
 replace H := Option.bind_eq_some_iff.mp H
 obtain ⟨t138, A30, H⟩ := H
 replace H : (some t138) = some r := H
 have A3 := Aside0.mk A30
 clear A30
 obtain rfl := Option.some.inj H
 go_enter Tryd.func28, Tryd.ntmps28
 go_wp2_with (first | ((with_reducible refine gate_callee (f := 33) rfl ?_); refine goesA (some 4) Tryd.func33 #[.string a0] rfl ?_; (with_reducible refine (chars_Words.calls k a0 t135 _ ?sideU A2.out).mono ?_); (case sideU => first | exact HU.out | exact Uni.up HU (Bu HB) | exact Uni.below HU.out (by assumption)); rintro e w4 ⟨v136, rfl, ho0, hb⟩; refine ⟨_, rfl, ?_⟩; have n0_ := Aside0.mk (Kd.R_lower ho0 (Bz HB)); have n1_ := Bs HB hb; clear HB; revert n0_ n1_; intro HO137 HB; (try clear hb); (try clear hb2); (try clear hk); (try clear hi); (try clear ho0); obtain ⟨Ao5, co5, eo5⟩ := Kd.R_slice HO137.out; subst eo5) | ((with_reducible refine gate_callee (f := 32) rfl ?_); refine goesL_ (some 5) rfl rfl Tryd.func32 (by kernel_rfl) rfl #[.slice Ao5 t135.length co5, .string (⟨#[32]⟩ : ByteArray)] rfl (by (try simp only [List.map_toArray, List.map_cons, List.map_nil]); first | done | rfl | (simp only [List.length_drop, List.length_take]; rfl)) ?_; (with_reducible refine (strings_Join.calls _ _ t135 (⟨#[32]⟩ : ByteArray) t138 _ ?side1 ?side2 A3.out).mono ?_); (case side1 => exact Cu (Kd.R_reads' HO137.out).2.2); (case side2 => exact (Kd.R_reads' HO137.out).2.1); rintro e w6 ⟨rfl, hb⟩; refine ⟨_, rfl, ?_⟩; have n0_ := Rb HO137 hb; have n1_ := Bs HB hb; clear HO137 HB; revert n0_ n1_; intro HO137 HB; (try clear hb); (try clear hb2); (try clear hk); (try clear hi)))
 go_ret
 exact ⟨rfl_, Bu HB⟩

/-! ### moment_Days: function 15 -/
mutual
def moment_Days.j0 : Nat → Int → Int → Int → Bool → Option (Int × Int)
 | 0, _, _, _, _ => none
 | k + 1, x0, x1, x2, x35 => if x35 = true then (some (0, 2)) else (moment_Days.l0 k x0 x1 x2 (wrap64 ((wrap64 ((wrap64 ((wrap64 ((wrap64 (365 * (wrap64 (x0 - 1)))) + (wrap64 (Int.tdiv (wrap64 (x0 - 1)) 4)))) - (wrap64 (Int.tdiv (wrap64 (x0 - 1)) 100)))) + (wrap64 (Int.tdiv (wrap64 (x0 - 1)) 400)))) - 719162)) 1)
def moment_Days.l0 : Nat → Int → Int → Int → Int → Int → Option (Int × Int)
 | 0, _, _, _, _, _ => none
 | k + 1, x0, x1, x2, x9, x10 => if x10 < x1 then ((moment_length.f x0 x10).bind fun t140 => (moment_Days.l0 k x0 x1 x2 (wrap64 (x9 + t140)) (wrap64 (x10 + 1)))) else (some (wrap64 ((wrap64 (x9 + x2)) - 1), 0))
end
def moment_Days.f (k : Nat) (a0 : Int) (a1 : Int) (a2 : Int) : Option (Int × Int) := if a0 < 1 then (moment_Days.j0 k a0 a1 a2 true) else (if a0 > 9999 then (moment_Days.j0 k a0 a1 a2 true) else (if a1 < 1 then (moment_Days.j0 k a0 a1 a2 true) else (if a1 > 12 then (moment_Days.j0 k a0 a1 a2 true) else (if a2 < 1 then (moment_Days.j0 k a0 a1 a2 true) else ((moment_length.f a0 a1).bind fun t139 => (moment_Days.j0 k a0 a1 a2 (decide (a2 > t139))))))))
theorem moment_Days.mono_l : ∀ k, (∀ y0 y1 y2 y3, LeO (moment_Days.j0 k y0 y1 y2 y3) (moment_Days.j0 (k + 1) y0 y1 y2 y3)) ∧ (∀ y0 y1 y2 y3 y4, LeO (moment_Days.l0 k y0 y1 y2 y3 y4) (moment_Days.l0 (k + 1) y0 y1 y2 y3 y4))
 | 0 => ⟨fun _ _ _ _ r h => by simp [moment_Days.j0] at h, fun _ _ _ _ _ r h => by simp [moment_Days.l0] at h⟩
 | k + 1 => by
  obtain ⟨ih0, ih1⟩ := moment_Days.mono_l k
  refine ⟨?_, ?_⟩
  ·intro y0 y1 y2 y3
   unfold moment_Days.j0
   repeat' first
   | (with_reducible exact ih0 _ _ _ _)
   | (with_reducible exact ih1 _ _ _ _ _)
   | (with_reducible exact LeO.refl _)
   | (with_reducible exact LeO.none _)
   | (with_reducible refine LeO.ite ?_ ?_)
   | (with_reducible refine LeO.bind ?_ (fun _ => ?_))
   | exact ih0 _ _ _ _
   | exact ih1 _ _ _ _ _
   | exact LeO.none _
   | refine LeO.ite ?_ ?_
   | refine LeO.bind ?_ (fun _ => ?_)
  ·intro y0 y1 y2 y3 y4
   unfold moment_Days.l0
   repeat' first
   | (with_reducible exact ih0 _ _ _ _)
   | (with_reducible exact ih1 _ _ _ _ _)
   | (with_reducible exact LeO.refl _)
   | (with_reducible exact LeO.none _)
   | (with_reducible refine LeO.ite ?_ ?_)
   | (with_reducible refine LeO.bind ?_ (fun _ => ?_))
   | exact ih0 _ _ _ _
   | exact ih1 _ _ _ _ _
   | exact LeO.none _
   | refine LeO.ite ?_ ?_
   | refine LeO.bind ?_ (fun _ => ?_)
theorem moment_Days.mono : ∀ a0 a1 a2 k, LeO (moment_Days.f k a0 a1 a2) (moment_Days.f (k + 1) a0 a1 a2) := by
 intro a0 a1 a2 k
 obtain ⟨ih0, ih1⟩ := moment_Days.mono_l k
 unfold moment_Days.f
 repeat' first
   | (with_reducible exact ih0 _ _ _ _)
   | (with_reducible exact ih1 _ _ _ _ _)
   | (with_reducible exact LeO.refl _)
   | (with_reducible exact LeO.none _)
   | (with_reducible refine LeO.ite ?_ ?_)
   | (with_reducible refine LeO.bind ?_ (fun _ => ?_))
   | exact ih0 _ _ _ _
   | exact ih1 _ _ _ _ _
   | exact LeO.none _
   | refine LeO.ite ?_ ?_
   | refine LeO.bind ?_ (fun _ => ?_)
set_option maxHeartbeats 8000000 in
set_option maxRecDepth 100000 in
theorem moment_Days.calls (k : Nat) (a0 : Int) (a1 : Int) (a2 : Int) (r1 : Int) (r2 : Int) (w : World) (h : moment_Days.f k a0 a1 a2 = some (r1, r2)) :
  Calls Tryd.prog 15 #[.int .i64 a0, .int .i64 a1, .int .i64 a2] w fun e w' => e = .returned (.tuple #[.int .i64 r1, .int .i64 r2]) ∧ Drawn0 w w' := by
 have H : (if a0 < 1 then (moment_Days.j0 k a0 a1 a2 true) else (if a0 > 9999 then (moment_Days.j0 k a0 a1 a2 true) else (if a1 < 1 then (moment_Days.j0 k a0 a1 a2 true) else (if a1 > 12 then (moment_Days.j0 k a0 a1 a2 true) else (if a2 < 1 then (moment_Days.j0 k a0 a1 a2 true) else ((moment_length.f a0 a1).bind fun t139 => (moment_Days.j0 k a0 a1 a2 (decide (a2 > t139))))))))) = some (r1, r2) := h
 clear h
 have HC4 := Aside0.mk H
 clear H
 go_enter Tryd.func15, Tryd.ntmps15
 go_upto_region 1 with (fail)
 go_cut [35] (fun v35 wc => ∃ (kq : Nat) (x35_3 : Bool), v35 = .bool x35_3 ∧ Aside0 (moment_Days.j0 kq a0 a1 a2 x35_3 = some (r1, r2)) ∧ Aside0 (kq ≤ k) ∧ Drawn0 w wc)
 case first =>
  have H := HC4.out
  clear HC4
  refine (Classical.em (a0 < 1)).elim (fun c5 => ?a11_) (fun c5 => ?b11_)
  case' a11_ =>
   rw [if_pos c5] at H
   have c5b0 : decide (a0 < 1) = true := decide_eq_true c5
   clear c5
   (first | rw [c5b0] | (simp only [i64_w, i32_w]; rw [c5b0]) | skip)
   have H' := Aside0.mk H
   clear H
  case' b11_ =>
   rw [if_neg c5] at H
   have c5b0 : decide (a0 < 1) = false := decide_eq_false c5
   clear c5
   (first | rw [c5b0] | (simp only [i64_w, i32_w]; rw [c5b0]) | skip)
   refine (Classical.em (a0 > 9999)).elim (fun c6 => ?a12_) (fun c6 => ?b12_)
   case' a12_ =>
    rw [if_pos c6] at H
    have c6b0 : decide (9999 < a0) = true := decide_eq_true c6
    clear c6
    have H' := Aside0.mk H
    clear H
   case' b12_ =>
    rw [if_neg c6] at H
    have c6b0 : decide (9999 < a0) = false := decide_eq_false c6
    clear c6
    refine (Classical.em (a1 < 1)).elim (fun c7 => ?a13_) (fun c7 => ?b13_)
    case' a13_ =>
     rw [if_pos c7] at H
     have c7b0 : decide (a1 < 1) = true := decide_eq_true c7
     clear c7
     have H' := Aside0.mk H
     clear H
    case' b13_ =>
     rw [if_neg c7] at H
     have c7b0 : decide (a1 < 1) = false := decide_eq_false c7
     clear c7
     refine (Classical.em (a1 > 12)).elim (fun c8 => ?a14_) (fun c8 => ?b14_)
     case' a14_ =>
      rw [if_pos c8] at H
      have c8b0 : decide (12 < a1) = true := decide_eq_true c8
      clear c8
      have H' := Aside0.mk H
      clear H
     case' b14_ =>
      rw [if_neg c8] at H
      have c8b0 : decide (12 < a1) = false := decide_eq_false c8
      clear c8
      refine (Classical.em (a2 < 1)).elim (fun c9 => ?a15_) (fun c9 => ?b15_)
      case' a15_ =>
       rw [if_pos c9] at H
       have c9b0 : decide (a2 < 1) = true := decide_eq_true c9
       clear c9
       have H' := Aside0.mk H
       clear H
      case' b15_ =>
       rw [if_neg c9] at H
       have c9b0 : decide (a2 < 1) = false := decide_eq_false c9
       clear c9
       replace H := Option.bind_eq_some_iff.mp H
       obtain ⟨t139, A100, H⟩ := H
       replace H : (moment_Days.j0 k a0 a1 a2 (decide (a2 > t139))) = some (r1, r2) := H
       have A10 := Aside0.mk A100
       clear A100
       have H' := Aside0.mk H
       clear H
       go_wp2_with (first | (go_at_call 26; (with_reducible refine (moment_length.calls a0 a1 t139 _ A10.out).mono ?_); rintro e w' ⟨rfl, ⟨nd, rfl⟩⟩))
       go_meet
       case rel => exact ⟨_, (decide (a2 > t139)), (by first | rfl | (simp; done) | (simp [*]; done)), H', ⟨by first | omega | exact Nat.le_refl _⟩, by repeat (first | exact Drawn0.refl _ | apply Drawn0.step)⟩
  case a11_ | a12_ | a13_ | a14_ | b14_ =>
   go_wp2
   go_meet
   case rel => exact ⟨_, (true), (by first | rfl | (simp; done) | (simp [*]; done)), H', ⟨by first | omega | exact Nat.le_refl _⟩, by repeat (first | exact Drawn0.refl _ | apply Drawn0.step)⟩
 case rest =>
  clear HC4
  try clear c1
  try clear p2
  try clear c5
  try clear c5b0
  try clear c6
  try clear c6b0
  try clear c7
  try clear c7b0
  try clear c8
  try clear c8b0
  try clear c9
  try clear c9b0
  obtain ⟨kq, x35_3, rfl, HA, HJ3, ⟨mc3, rfl⟩⟩ := hcut
  cases kq with
  | zero => exact absurd HA.out (by simp [moment_Days.j0])
  | succ kj3 =>
   have H := HA.out
   clear HA
   simp only [moment_Days.j0] at H
   by_cases c11 : x35_3 = true
   ·subst c11
    have H1 : (some (0, 2)) = some (r1, r2) := by rw [if_pos rfl] at H; exact H
    clear H
    have H := H1
    clear H1
    simp only [Option.some.injEq, Prod.mk.injEq] at H
    obtain ⟨rfl, rfl⟩ := H
    go_wp2
    go_ret2
    exact ⟨by first | rfl | (simp; done) | (simp [*]; done), by repeat (first | exact Drawn0.refl _ | apply Drawn0.step)⟩
   ·replace c11 := Bool.eq_false_iff.mpr c11
    subst c11
    have H1 : (moment_Days.l0 kj3 a0 a1 a2 (wrap64 ((wrap64 ((wrap64 ((wrap64 ((wrap64 (365 * (wrap64 (a0 - 1)))) + (wrap64 (Int.tdiv (wrap64 (a0 - 1)) 4)))) - (wrap64 (Int.tdiv (wrap64 (a0 - 1)) 100)))) + (wrap64 (Int.tdiv (wrap64 (a0 - 1)) 400)))) - 719162)) 1) = some (r1, r2) := by rw [if_neg (show ¬ (false = true) by decide)] at H; exact H
    clear H
    have H := H1
    clear H1
    have H' := Aside0.mk H
    clear H
    go_wp2
    go_loopg [9, 10] kj3 (fun kq v9 v10 w' => ∃ (x9_2 : Int) (x10_2 : Int), v9 = .int .i64 x9_2 ∧ v10 = .int .i64 x10_2 ∧ Aside0 (moment_Days.l0 kq a0 a1 a2 x9_2 x10_2 = some (r1, r2)) ∧ Aside0 (kq ≤ kj3) ∧ Drawn0 w w')
    case atStart => exact ⟨(wrap64 ((wrap64 ((wrap64 ((wrap64 ((wrap64 (365 * (wrap64 (a0 - 1)))) + (wrap64 (Int.tdiv (wrap64 (a0 - 1)) 4)))) - (wrap64 (Int.tdiv (wrap64 (a0 - 1)) 100)))) + (wrap64 (Int.tdiv (wrap64 (a0 - 1)) 400)))) - 719162)), (1), (by first | rfl | (simp; done) | (simp [*]; done)), (by first | rfl | (simp; done) | (simp [*]; done)), H', ⟨Nat.le_refl _⟩, by repeat (first | exact Drawn0.refl _ | apply Drawn0.step)⟩
    case round =>
     clear H'
     try clear c1
     try clear p2
     try clear c3
     try clear c5
     try clear c5b0
     try clear c6
     try clear c6b0
     try clear p6
     try clear c7
     try clear c7b0
     try clear c8
     try clear c8b0
     try clear c9
     try clear c9b0
     try clear c11
     try clear p2
     obtain ⟨x9_2, x10_2, rfl, rfl, HA, HK2, ⟨m2, rfl⟩⟩ := hrel
     cases gk with
     | zero => exact absurd HA.out (by simp [moment_Days.l0])
     | succ k2 =>
      have H := HA.out
      clear HA
      simp only [moment_Days.l0] at H
      by_cases c12 : x10_2 < a1
      ·rw [if_pos c12] at H
       have c12b0 : decide (x10_2 < a1) = true := decide_eq_true c12
       clear c12
       replace H := Option.bind_eq_some_iff.mp H
       obtain ⟨t140, A130, H⟩ := H
       replace H : (moment_Days.l0 k2 a0 a1 a2 (wrap64 (x9_2 + t140)) (wrap64 (x10_2 + 1))) = some (r1, r2) := H
       have A13 := Aside0.mk A130
       clear A130
       have H' := Aside0.mk H
       clear H
       go_wp2_with (first | ((with_reducible refine gate_callee (f := 26) rfl ?_); refine goesA (some 58) Tryd.func26 #[.int .i64 a0, .int .i64 x10_2] rfl ?_; (with_reducible refine (moment_length.calls a0 x10_2 t140 _ A13.out).mono ?_); rintro e w' ⟨rfl, ⟨nd, rfl⟩⟩; refine ⟨_, rfl, ?_⟩))
       go_roundg k2
       case measure => have := HJ3.out; have := HK2.out; omega
       case rel => exact ⟨(wrap64 (x9_2 + t140)), (wrap64 (x10_2 + 1)), (by first | rfl | (simp; done) | (simp [*]; done)), (by first | rfl | (simp; done) | (simp [*]; done)), H', ⟨by have := HJ3.out; have := HK2.out; omega⟩, by repeat (first | exact Drawn0.refl _ | apply Drawn0.step)⟩
      ·rw [if_neg c12] at H
       have c12b0 : decide (x10_2 < a1) = false := decide_eq_false c12
       clear c12
       simp only [Option.some.injEq, Prod.mk.injEq] at H
       obtain ⟨rfl, rfl⟩ := H
       go_wp2
       go_ret2
       exact ⟨by first | rfl | (simp; done) | (simp [*]; done), by repeat (first | exact Drawn0.refl _ | apply Drawn0.step)⟩

/-! ### stringslite_HasPrefix: function 50 -/
def stringslite_HasPrefix.f (a0 : ByteArray) (a1 : ByteArray) : Option (Bool) := if (a0.size : Int) ≥ (a1.size : Int) then (if 0 ≤ (a1.size : Int) then (if (a1.size : Int) ≤ (a0.size : Int) then (some ((a0.extract 0 ((a1.size : Int) : Int).toNat).toList == a1.toList)) else (none)) else (none)) else (some false)
set_option maxHeartbeats 8000000 in
set_option maxRecDepth 100000 in
theorem stringslite_HasPrefix.calls (a0 : ByteArray) (a1 : ByteArray) (r : Bool) (w : World) (h : stringslite_HasPrefix.f a0 a1 = some r) :
  Calls Tryd.prog 50 #[.string a0, .string a1] w fun e w' => e = .returned (.bool r) ∧ Drawn0 w w' := by
 have H : (if (a0.size : Int) ≥ (a1.size : Int) then (if 0 ≤ (a1.size : Int) then (if (a1.size : Int) ≤ (a0.size : Int) then (some ((a0.extract 0 ((a1.size : Int) : Int).toNat).toList == a1.toList)) else (none)) else (none)) else (some false)) = some r := h
 clear h
 by_cases c3 : (a0.size : Int) ≥ (a1.size : Int)
 ·rw [if_pos c3] at H
  have c3b0 : decide ((a1.size : Int) ≤ (a0.size : Int)) = true := decide_eq_true c3
  have c3b1 : decide (a1.size ≤ a0.size) = true := decide_eq_true (Int.ofNat_le.mp c3)
  clear c3
  by_cases c4 : 0 ≤ (a1.size : Int)
  ·rw [if_pos c4] at H
   have c4b0 := eq_true c4
   have c4b1 : decide (0 ≤ (a1.size : Int)) = true := decide_eq_true c4
   clear c4
   by_cases c5 : (a1.size : Int) ≤ (a0.size : Int)
   ·rw [if_pos c5] at H
    have c5b0 := eq_true c5
    have c5b1 : decide ((a1.size : Int) ≤ (a0.size : Int)) = true := decide_eq_true c5
    clear c5
    obtain rfl := Option.some.inj H
    go_enter Tryd.func50, Tryd.ntmps50
    go_wp2
    go_ret
    exact ⟨by first | rfl | (simp; done) | (simp [*]; done), by repeat (first | exact Drawn0.refl _ | apply Drawn0.step)⟩
   ·rw [if_neg c5] at H
    exact absurd H (by simp)
  ·rw [if_neg c4] at H
   exact absurd H (by simp)
 ·rw [if_neg c3] at H
  have c3b0 : decide ((a1.size : Int) ≤ (a0.size : Int)) = false := decide_eq_false c3
  have c3b1 : decide (a1.size ≤ a0.size) = false := decide_eq_false (fun h => c3 (Int.ofNat_le.mpr h))
  clear c3
  obtain rfl := Option.some.inj H
  go_enter Tryd.func50, Tryd.ntmps50
  go_wp2
  go_ret
  exact ⟨by first | rfl | (simp; done) | (simp [*]; done), by repeat (first | exact Drawn0.refl _ | apply Drawn0.step)⟩

/-! ### strings_HasPrefix: function 44 -/
def strings_HasPrefix.f (a0 : ByteArray) (a1 : ByteArray) : Option (Bool) := (stringslite_HasPrefix.f a0 a1).bind fun t141 => (some t141)
set_option maxHeartbeats 8000000 in
set_option maxRecDepth 100000 in
theorem strings_HasPrefix.calls (a0 : ByteArray) (a1 : ByteArray) (r : Bool) (w : World) (h : strings_HasPrefix.f a0 a1 = some r) :
  Calls Tryd.prog 44 #[.string a0, .string a1] w fun e w' => e = .returned (.bool r) ∧ Drawn0 w w' := by
 have H : ((stringslite_HasPrefix.f a0 a1).bind fun t141 => (some t141)) = some r := h
 clear h
 replace H := Option.bind_eq_some_iff.mp H
 obtain ⟨t141, A30, H⟩ := H
 replace H : (some t141) = some r := H
 have A3 := Aside0.mk A30
 clear A30
 obtain rfl := Option.some.inj H
 go_enter Tryd.func44, Tryd.ntmps44
 go_wp2_with (first | ((with_reducible refine gate_callee (f := 50) rfl ?_); refine goesA (some 7) Tryd.func50 #[.string a0, .string a1] rfl ?_; (with_reducible refine (stringslite_HasPrefix.calls a0 a1 t141 _ A3.out).mono ?_); rintro e w' ⟨rfl, ⟨nd, rfl⟩⟩; refine ⟨_, rfl, ?_⟩))
 go_ret
 exact ⟨by first | rfl | (simp; done) | (simp [*]; done), by repeat (first | exact Drawn0.refl _ | apply Drawn0.step)⟩

/-! ### moment_reader_sign: function 35 -/
def bl (l : List UInt8) : ByteArray := ⟨l.toArray⟩
theorem bl_size (l : List UInt8) : (bl l).size = l.length := by simp [bl, ByteArray.size]
theorem bl_ext {a b : ByteArray} (h : a.data.toList = b.data.toList) : a = b := by
  rcases a with ⟨⟨l⟩⟩; rcases b with ⟨⟨m⟩⟩; simpa using h
theorem bl_drop (l : List UInt8) (n : Nat) : (bl l).extract n (bl l).size = bl (l.drop n) := bl_ext (by
  rw [ByteArray.data_extract, Array.toList_extract, List.extract_eq_take_drop]
  show List.take ((bl l).size - n) (l.drop n) = l.drop n
  rw [bl_size, List.take_of_length_le (by rw [List.length_drop]; exact Nat.le_refl _)])
theorem bl_take (l : List UInt8) (n : Nat) : (bl l).extract 0 n = bl (l.take n) := bl_ext (by
  rw [ByteArray.data_extract, Array.toList_extract, List.extract_eq_take_drop]
  show List.take (n - 0) (l.drop 0) = l.take n
  simp)
theorem bl_list (l : List UInt8) : (bl l).toList = l := by rw [ByteArray.toList_eq]; rfl
/-- A reader at block b: what is left of its text. -/
def Rdr (b : Nat) (l : List UInt8) (w : World) : Prop := w.heap[b]? = some (.cells #[.string (bl l)] 54 (0, 0))
theorem Rdr.cell {b : Nat} {l : List UInt8} {w : World} (h : Rdr b l w) : w.cell? ⟨b, 0, none⟩ = some (.string (bl l)) := by rw [Lib.cell_of_heap h]; rfl
theorem Rdr.frozen {b : Nat} {l : List UInt8} {w : World} (h : Rdr b l w) : w.frozen? ⟨b, 0, none⟩ = false := Lib.frozen_of_heap h 0
theorem Rdr.lt {b : Nat} {l : List UInt8} {w : World} (h : Rdr b l w) : b < w.heap.size := blk_lt h
theorem Rdr.drewN {b : Nat} {l : List UInt8} {w : World} (h : Rdr b l w) (n : Nat) : Rdr b l (w.drewN n) := blk_drewN h n
theorem Rdr.drew {b : Nat} {l : List UInt8} {w : World} (h : Rdr b l w) : Rdr b l w.drew := blk_drew h
theorem Rdr.set {b : Nat} {l : List UInt8} {w : World} (h : Rdr b l w) (s : List UInt8) : Rdr b s (w.setCell ⟨b, 0, none⟩ (.string (bl s))) := by
  unfold Rdr at h ⊢
  simp [World.setCell, Array.getElem?_modify, h]
/-- What a method keeps: all but the reader's block. -/
def KB (b : Nat) (w w' : World) : Prop := Kept w w' (fun k => k = b) ∧ Below b w w'
theorem KB.refl (b : Nat) (w : World) : KB b w w := ⟨Kept.refl _ _, Below.refl _ _⟩
theorem KB.trans {b : Nat} {u v w : World} (h : KB b u v) (k : KB b v w) : KB b u w := ⟨Kept.then_ h.1 k.1 (fun _ h => .inl h), h.2.trans k.2⟩
theorem KB.set (b : Nat) (w : World) (v : Value) : KB b w (w.setCell ⟨b, 0, none⟩ v) := ⟨(Kept.refl w (fun k => k = b)).setCell (p := ⟨b, 0, none⟩) (.inl rfl) _, (Below.refl b w).setCell (p := ⟨b, 0, none⟩) (Nat.le_refl _) _⟩
theorem KB.drewN (b : Nat) (w : World) (n : Nat) : KB b w (w.drewN n) := ⟨Kept.of_below (pw_below_drewN (Below.refl _ _) n) _, pw_below_drewN (Below.refl _ _) n⟩
theorem KB.drew (b : Nat) (w : World) : KB b w w.drew := ⟨Kept.of_below (below_drew1 (Below.refl _ _)) _, below_drew1 (Below.refl _ _)⟩
theorem KB.below {b : Nat} {w w' : World} (h : Below w.heap.size w w') (hb : b ≤ w.heap.size) : KB b w w' := ⟨Kept.of_below h _, h.mono hb⟩
theorem Rdr.kept {b : Nat} {l : List UInt8} {w w' : World} (h : Rdr b l w) (k : Below w.heap.size w w') : Rdr b l w' := (k.block b h.lt).trans h
def wrongV : List PanicEntry := [{ v := .iface 50 (.agg #[]), recovered := false }]
def signL (c l : List UInt8) : Option (List UInt8) := if c.isPrefixOf l = true then some (l.drop c.length) else none
theorem prefix_f (l c : List UInt8) : strings_HasPrefix.f (bl l) (bl c) = some (c.isPrefixOf l) := by
  unfold strings_HasPrefix.f stringslite_HasPrefix.f
  rw [bl_size, bl_size]
  by_cases h : c.length ≤ l.length
  · rw [if_pos (by omega), if_pos (by omega), if_pos (by omega)]
    show (some (((bl l).extract 0 ((c.length : Int)).toNat).toList == (bl c).toList)).bind _ = _
    rw [Int.toNat_natCast, bl_take, bl_list, bl_list]
    show some _ = some _
    congr 1
    rw [Bool.eq_iff_iff, List.isPrefixOf_iff_prefix, beq_iff_eq, List.prefix_iff_eq_take]
    exact ⟨fun h => h.symm, fun h => h.symm⟩
  · rw [if_neg (by omega)]
    show some false = some _
    congr 1
    symm
    rw [Bool.eq_false_iff]
    intro hp
    have := (List.isPrefixOf_iff_prefix.1 hp).length_le
    omega
set_option maxRecDepth 100000 in
set_option maxHeartbeats 2000000 in
theorem moment_reader_sign.any (b : Nat) (c l : List UInt8) (w : World) (h : Rdr b l w) :
    Calls Tryd.prog 35 #[.pointer (some ⟨b, 0, none⟩), .string (bl c)] w fun e w' =>
      KB b w w' ∧ ((∃ l', signL c l = some l' ∧ e = .returned (.tuple #[]) ∧ Rdr b l' w') ∨ (signL c l = none ∧ e = .panicked wrongV)) := by
  have hc := h.cell
  have hf := h.frozen
  have hp := prefix_f l c
  by_cases hs : c.isPrefixOf l = true
  · have hle : c.length ≤ l.length := (List.isPrefixOf_iff_prefix.1 hs).length_le
    have hsg : signL c l = some (l.drop c.length) := if_pos hs
    rw [hs] at hp
    have hsz := bl_size c
    have hsz2 := bl_size l
    have H := Aside0.mk h
    have HS := Aside0.mk hsg
    clear h hsg hs
    go_enter Tryd.func35, Tryd.ntmps35
    go_wp2_with (go_at_call 44; refine (strings_HasPrefix.calls _ _ _ _ hp).mono ?_; rintro e w1 ⟨rfl, nd, rfl⟩)
    go_end0
    rw [show (bl l).extract c.length l.length = bl (l.drop c.length) by rw [← hsz2]; exact bl_drop l c.length]
    exact ⟨(KB.drewN b w nd).trans (KB.set b _ _), .inl ⟨_, HS.out, rfl, (H.out.drewN nd).set _⟩⟩
  · have hsg : signL c l = none := if_neg hs
    have hs : c.isPrefixOf l = false := Bool.eq_false_iff.2 hs
    rw [hs] at hp
    have HS := Aside0.mk hsg
    clear h hsg hs
    go_enter Tryd.func35, Tryd.ntmps35
    go_wp2_with (go_at_call 44; refine (strings_HasPrefix.calls _ _ _ _ hp).mono ?_; rintro e w1 ⟨rfl, nd, rfl⟩)
    exact ⟨rfl, KB.drewN b w nd, .inr ⟨HS.out, rfl⟩⟩

end Go.Proofs.YtcikjghmelbkaaaDoor.Hp
