/- Go functions of this seat as Lean functions, and their contracts: what the Go code computes, for every input. (By hp.py, a program of this repo, over the kit's print.py.) -/
import Derived.Test.YtbokeoncpilgpaaHp0
import Derived.Test.YtbokeoncpilgpaaHp1
namespace Go.Proofs.Ytbokeoncpilgpaa.Hp
open Go.RowKit Go.Proofs.YtbokeoncpilgpaaW.PrintWords Go.Proofs.YtbokeoncpilgpaaW.PrintLast Go.Proofs.YtbokeoncpilgpaaW.PrintMore
attribute [local go_sem] max2_int min2_int max_two min_two max_three min_three max_four min_four   -- for this text's walks alone
set_option linter.unusedVariables false
set_option linter.unusedSimpArgs false

/-! ### flate_reader_sign: function 48 -/
/-- A book at block kb: how many codes there are by length, the signs; its blocks are of S. -/
def Bk (kb : Nat) (S : Nat → Prop) (cnt : List Nat) (sg : List Int) (w : World) : Prop :=
  ∃ v, w.heap[kb]? = some (.cells (cnt.map (fun n : Nat => Value.int .i64 n) ++ [v]).toArray 80 (0, 0)) ∧ S kb ∧ cnt.length = 16 ∧ Kd.R (Kd.int .i64) 3 w 0 S v sg
theorem Bk.kept {kb : Nat} {S : Nat → Prop} {cnt : List Nat} {sg : List Int} {w w' : World} (h : Bk kb S cnt sg w) (hk : ∀ k, S k → k < w.heap.size → w'.heap[k]? = w.heap[k]?) : Bk kb S cnt sg w' := by
  obtain ⟨v, hb, hS, hl, hR⟩ := h
  exact ⟨v, (hk kb hS (blk_lt hb)).trans hb, hS, hl, Kd.R_step hR hk⟩
theorem Bk.KB {kb q : Nat} {S : Nat → Prop} {cnt : List Nat} {sg : List Int} {w w' : World} (h : Bk kb S cnt sg w) (hq : ¬ S q) (hk : KB q w w') : Bk kb S cnt sg w' :=
  h.kept (fun k hS hlt => hk.1.2 k hlt (fun e => hq (e ▸ hS)))
theorem or_one (a b : Nat) (hb : b < 2) (ha : a < 1099511627776) : Go.bits .or .i64 ((a : Int) * 2) (b : Int) = ((2 * a + b : Nat) : Int) := by
  have e : (a : Int) * 2 = ((2 * a : Nat) : Int) := by push_cast; omega
  rw [e, or_i64 (2 * a) b (by omega) (by omega)]
  have := Nat.two_pow_add_eq_or_of_lt (i := 1) (b := b) (by omega) a
  rw [show 2 ^ 1 = 2 from rfl] at this
  rw [← this]
def signGo (B : List Int) (cnt : List Nat) (sg : List Int) : Nat → Nat → Nat → Nat → Nat → Nat → Except Int (Int × Nat)
  | 0, _, _, _, _, _ => .error 10
  | f + 1, n, code, first, at_, t =>
    if at_ < sg.length then
      if t < 8 * B.length then
        if 2 * code + bitAt B t < 2 * first + cnt.getD n 0 then .ok (sg.getD (at_ + (2 * code + bitAt B t - 2 * first)) 0, t + 1)
        else signGo B cnt sg f (n + 1) (2 * code + bitAt B t) (2 * first + cnt.getD n 0) (at_ + cnt.getD n 0) (t + 1)
      else .error 11
    else .error 10
/-- A sign by a code. -/
def signL (B : List Int) (cnt : List Nat) (sg : List Int) (t : Nat) : Except Int (Int × Nat) := signGo B cnt sg 15 1 0 0 0 t
def flate_reader_sign.Inv (w0 : World) (q : Nat) (B : List Int) (t : Nat) (v : Value) (m : Int) (cnt : List Nat) (sg : List Int) (w : World) (wr : World) (v5 v6 v7 v8 : Value) : Prop :=
  ∃ (f n code first at_ t' : Nat), v5 = .int .i64 code ∧ v6 = .int .i64 first ∧ v7 = .int .i64 at_ ∧ v8 = .int .i64 n ∧ n + f = 16 ∧ code < 2 ^ n ∧ first ≤ code ∧ at_ + (cnt.drop n).sum = sg.length ∧ signGo B cnt sg f n code first at_ t' = signL B cnt sg t ∧ Rdr w0 q B t' v m wr ∧ KB q w wr
theorem drop_sum (cnt : List Nat) (n : Nat) (h : n < cnt.length) : (cnt.drop n).sum = cnt.getD n 0 + (cnt.drop (n + 1)).sum := by
  rw [List.drop_eq_getElem_cons h, List.sum_cons]
  simp [h]
theorem Bk.count {kb : Nat} {S : Nat → Prop} {cnt : List Nat} {sg : List Int} {w : World} (h : Bk kb S cnt sg w) (n : Nat) (hn : n < 16) : w.cell? ⟨kb, n, none⟩ = some (.int .i64 (cnt.getD n 0 : Nat)) := by
  obtain ⟨v, hb, hS, hl, hR⟩ := h
  rw [Lib.cell_of_heap hb]
  simp [List.getElem?_append, hl, hn]
theorem Bk.signs {kb : Nat} {S : Nat → Prop} {cnt : List Nat} {sg : List Int} {w : World} (h : Bk kb S cnt sg w) : ∃ A c, w.cell? ⟨kb, 16, none⟩ = some (.slice A sg.length c) ∧ sg.length ≤ c ∧ Kd.C (Kd.int .i64) w A sg.length sg := by
  obtain ⟨v, hb, hS, hl, hR⟩ := h
  obtain ⟨A, c, rfl, hc, hC⟩ := Kd.R_reads hR
  refine ⟨A, c, ?_, hc, hC⟩
  rw [Lib.cell_of_heap hb]
  simp [List.getElem?_append, hl]
set_option maxRecDepth 100000 in
set_option maxHeartbeats 8000000 in
theorem flate_reader_sign.any (w0 : World) (q : Nat) (B : List Int) (t : Nat) (v : Value) (m : Int) (kb : Nat) (S : Nat → Prop) (cnt : List Nat) (sg : List Int) (w : World) (h : Rdr w0 q B t v m w) (hb : Bk kb S cnt sg w) (hS : ¬ S q) (hsum : cnt.sum = sg.length) (hc0 : cnt.getD 0 0 = 0) (hsg : sg.length ≤ 10000) :
    Calls Try.prog 48 #[.pointer (some ⟨q, 0, none⟩), .pointer (some ⟨kb, 0, none⟩)] w fun e w' =>
      KB q w w' ∧ ((∃ s t', signL B cnt sg t = .ok (s, t') ∧ e = .returned (.int .i64 s) ∧ Rdr w0 q B t' v m w') ∨ (∃ x, signL B cnt sg t = .error x ∧ e = .panicked (faultV x))) := by
  have H := Aside0.mk h
  have HK := Aside0.mk hb
  have hl : cnt.length = 16 := hb.choose_spec.2.2.1
  have hd := drop_sum cnt 0 (by omega)
  rw [List.drop_zero, hc0] at hd
  replace hd : 0 + (cnt.drop 1).sum = sg.length := by rw [← hsum]; exact hd.symm
  clear h hb hc0
  have HS := Aside0.mk hS
  clear hS
  go_enter Try.func48, Try.ntmps48
  go_wp2
  go_loopw [5, 6, 7, 8] (fun v5 v6 v7 v8 wr => Aside0 (flate_reader_sign.Inv w0 q B t v m cnt sg w wr v5 v6 v7 v8)) (fun _ _ _ v8 _ => 16 - (intOf v8).toNat)
  case atStart => exact ⟨15, 1, 0, 0, 0, t, rfl, rfl, rfl, rfl, rfl, by decide, Nat.le_refl _, hd, rfl, H.out, KB.refl _ _⟩
  case round =>
    obtain ⟨f, n, code, first, at_, t', rfl, rfl, rfl, rfl, hnf, hcode, hfc, hat, hgo, hr, hB⟩ := hrel.out
    have h1 := Aside0.mk hr
    have h2 := Aside0.mk hB
    have hb1 := HK.out.KB HS.out hB
    have HK1 := Aside0.mk hb1
    obtain ⟨A, c, hsl, _, _⟩ := hb1.signs
    clear hrel hr hB hb1
    have hp : 2 ^ n ≤ 2 ^ 16 := Nat.pow_le_pow_right (by decide) (by omega)
    cases f with
    | zero =>
      have HG := Aside0.mk hgo
      have hn16 : ¬ (n : Int) < 16 := by omega
      clear hgo hat hcode hp hd
      go_wp2
      exact ⟨rfl, h2.out, .inr ⟨10, HG.out.symm, rfl⟩⟩
    | succ f =>
      have hn16 : (n : Int) < 16 := by omega
      rw [signGo] at hgo
      by_cases ha : at_ < sg.length
      · rw [if_pos ha] at hgo
        by_cases ht : t' < 8 * B.length
        · rw [if_pos ht] at hgo
          have hb2 := bitAt_lt B t'
          have hdr := drop_sum cnt n (by omega)
          obtain ⟨cn, hcn⟩ : ∃ cn, cnt.getD n 0 = cn := ⟨_, rfl⟩
          obtain ⟨bt, hbt⟩ : ∃ bt, bitAt B t' = bt := ⟨_, rfl⟩
          obtain ⟨code2, hc2⟩ : ∃ code2, 2 * code + bt = code2 := ⟨_, rfl⟩
          have ha' : (at_ : Int) < sg.length := by omega
          have hw1 : wrap64 ((code : Int) * 2) = (code : Int) * 2 := by unfold wrap64; omega
          have hw2 : wrap64 ((first : Int) * 2) = (first : Int) * 2 := by unfold wrap64; omega
          rw [hbt] at hb2
          have hor : Go.bits .or .i64 ((code : Int) * 2) (bt : Int) = (code2 : Int) := by rw [or_one code bt hb2 (by omega), hc2]
          rw [hcn, hbt, hc2] at hgo
          have hcs : code2 < 2 ^ (n + 1) := by rw [Nat.pow_succ]; omega
          have B1 : (first : Int) ≤ 65536 := by omega
          have B2 : (code2 : Int) ≤ 131073 := by omega
          have B3 : (cn : Int) ≤ 10000 := by omega
          by_cases hlt : code2 < 2 * first + cn
          · rw [if_pos hlt] at hgo
            have HG := Aside0.mk hgo
            obtain ⟨d, hdd⟩ : ∃ d, code2 - 2 * first = d := ⟨_, rfl⟩
            rw [hdd] at HG
            have hd1 : (code2 : Int) - (first : Int) * 2 = (d : Int) := by omega
            have hd2 : (d : Int) < (cn : Int) := by omega
            have hix : at_ + d < sg.length := by omega
            obtain ⟨ix, hixe⟩ : ∃ ix, at_ + d = ix := ⟨_, rfl⟩
            have hix1 : (at_ : Int) + (d : Int) = (ix : Int) := by omega
            have hix2 : (ix : Int) < sg.length := by omega
            have HN := Aside0.mk hcn
            have HT := Aside0.mk ht
            have HI := Aside0.mk hixe
            have HHB := Aside0.mk hbt
            clear hgo hat hp hd hcode hdr hcs hdd hc2 hcn hlt ht hixe hbt hix
            go_wp2_with (go_at_call 39; refine (flate_reader_bit.any w0 q B t' v m _ h1.out).mono ?_; rintro e w2 ⟨hB2, ⟨g1, rfl, hr2⟩ | ⟨g1, rfl⟩⟩; rotate_left; (exact absurd HT.out (by omega)); have b2 := HK1.out.KB HS.out hB2; have hcell := b2.count n (by omega); rw [HN.out] at hcell; obtain ⟨A', c', hsl2, hcc, hC2⟩ := b2.signs; obtain ⟨ad, hA, hx⟩ := Kd.at_int hC2 (ix : Int) (by omega) (by omega); subst hA; rw [Int.toNat_natCast] at hx; have k1 := Aside0.mk hB2; have k2 := Aside0.mk hr2; clear hB2 hr2 g1 b2 hcc hC2; rw [HHB.out])
            go_ret
            have e : rd sg (ix : Int) = sg.getD ix 0 := by unfold rd; rw [Int.toNat_natCast]
            refine ⟨h2.out.trans k1.out, .inl ⟨_, _, HG.out.symm, ?_, k2.out⟩⟩
            rw [HI.out, ← e]
            rfl
          · rw [if_neg hlt] at hgo
            have HG := Aside0.mk hgo
            have hd2 : ¬ (code2 : Int) - (first : Int) * 2 < (cn : Int) := by omega
            have HFC := Aside0.mk (show 2 * first + cn ≤ code2 by omega)
            have HN := Aside0.mk hcn
            have HT := Aside0.mk ht
            have HHB := Aside0.mk hbt
            have HD := Aside0.mk hdr
            have HAT := Aside0.mk hat
            have HCS := Aside0.mk hcs
            clear hgo hat hd hdr hcs hc2 hcn ht hbt hlt
            go_wp2_with (go_at_call 39; refine (flate_reader_bit.any w0 q B t' v m _ h1.out).mono ?_; rintro e w2 ⟨hB2, ⟨g1, rfl, hr2⟩ | ⟨g1, rfl⟩⟩; rotate_left; (exact absurd HT.out (by omega)); have b2 := HK1.out.KB HS.out hB2; have hcell := b2.count n (by omega); rw [HN.out] at hcell; have k1 := Aside0.mk hB2; have k2 := Aside0.mk hr2; clear hB2 hr2 g1 b2; rw [HHB.out])
            go_roundw
            case rel =>
              have e := HD.out
              rw [HN.out] at e
              have h3 := HAT.out
              exact ⟨f, n + 1, code2, 2 * first + cn, at_ + cn, t' + 1, rfl, by push_cast; first | rfl | (congr 1; omega), by push_cast; rfl, by push_cast; rfl, by omega, HCS.out, HFC.out, by omega, HG.out, k2.out, h2.out.trans k1.out⟩
            case measure => simp [intOf]; omega
        · rw [if_neg ht] at hgo
          have HG := Aside0.mk hgo
          have ha' : (at_ : Int) < sg.length := by omega
          have hw1 : wrap64 ((code : Int) * 2) = (code : Int) * 2 := by unfold wrap64; omega
          clear hgo hat hp hd hcode
          go_wp2_with (go_at_call 39; refine (flate_reader_bit.any w0 q B t' v m _ h1.out).mono ?_; rintro e w2 ⟨hB2, ⟨g1, rfl, hr2⟩ | ⟨g1, rfl⟩⟩; (exact absurd g1 (by omega)))
          exact ⟨rfl, h2.out.trans hB2, .inr ⟨11, HG.out.symm, rfl⟩⟩
      · rw [if_neg ha] at hgo
        have HG := Aside0.mk hgo
        have ha' : ¬ (at_ : Int) < sg.length := by omega
        clear hgo hat hcode hp hd
        go_wp2
        exact ⟨rfl, h2.out, .inr ⟨10, HG.out.symm, rfl⟩⟩

/-! ### flate_reader_copy: function 49 -/
def lenBase : List Nat := [3, 4, 5, 6, 7, 8, 9, 10, 11, 13, 15, 17, 19, 23, 27, 31, 35, 43, 51, 59, 67, 83, 99, 115, 131, 163, 195, 227, 258]
def lenMore : List Nat := [0, 0, 0, 0, 0, 0, 0, 0, 1, 1, 1, 1, 2, 2, 2, 2, 3, 3, 3, 3, 4, 4, 4, 4, 5, 5, 5, 5, 0]
def farBase : List Nat := [1, 2, 3, 4, 5, 7, 9, 13, 17, 25, 33, 49, 65, 97, 129, 193, 257, 385, 513, 769, 1025, 1537, 2049, 3073, 4097, 6145, 8193, 12289, 16385, 24577]
def farMore : List Nat := [0, 0, 0, 0, 1, 1, 2, 2, 3, 3, 4, 4, 5, 5, 6, 6, 7, 7, 8, 8, 9, 9, 10, 10, 11, 11, 12, 12, 13, 13]
theorem len_tab : ∀ i : Nat, i < 29 → flate_lengthOf.f ((257 + i : Nat) : Int) = some (((lenBase.getD i 0 : Nat) : Int), ((lenMore.getD i 0 : Nat) : Int)) ∧ lenBase.getD i 0 ≤ 258 ∧ lenMore.getD i 0 ≤ 5 := by decide +kernel
theorem far_tab : ∀ i : Nat, i < 30 → flate_farOf.f (i : Int) = some (((farBase.getD i 0 : Nat) : Int), ((farMore.getD i 0 : Nat) : Int)) ∧ 1 ≤ farBase.getD i 0 ∧ farBase.getD i 0 ≤ 24577 ∧ farMore.getD i 0 ≤ 13 := by decide +kernel
/-- A book's numbers fit. -/
def BW (cnt : List Nat) (sg : List Int) : Prop := cnt.sum = sg.length ∧ cnt.getD 0 0 = 0 ∧ sg.length ≤ 10000 ∧ ∀ x ∈ sg, 0 ≤ x
theorem getD_nonneg (sg : List Int) (h : ∀ x ∈ sg, 0 ≤ x) (i : Nat) : 0 ≤ sg.getD i 0 := by
  rw [List.getD_eq_getElem?_getD]
  cases e : sg[i]? with
  | none => simp
  | some x => exact h x (List.mem_of_getElem? e)
theorem signGo_ok (B : List Int) (cnt : List Nat) (sg : List Int) (h : ∀ x ∈ sg, 0 ≤ x) : ∀ f n code first at_ t s t', signGo B cnt sg f n code first at_ t = .ok (s, t') → 0 ≤ s ∧ t < t' ∧ t' ≤ 8 * B.length
  | 0, _, _, _, _, _, _, _, e => by cases e
  | f + 1, n, code, first, at_, t, s, t', e => by
    rw [signGo] at e
    split at e
    · split at e
      · split at e
        · simp only [Except.ok.injEq, Prod.mk.injEq] at e
          obtain ⟨rfl, rfl⟩ := e
          exact ⟨getD_nonneg sg h _, by omega, by omega⟩
        · have := signGo_ok B cnt sg h f _ _ _ _ _ _ _ e
          exact ⟨this.1, by omega, this.2.2⟩
      · cases e
    · cases e
theorem signL_ok {B : List Int} {cnt : List Nat} {sg : List Int} {t t' : Nat} {s : Int} (h : ∀ x ∈ sg, 0 ≤ x) (e : signL B cnt sg t = .ok (s, t')) : 0 ≤ s ∧ t < t' ∧ t' ≤ 8 * B.length := signGo_ok B cnt sg h _ _ _ _ _ _ _ _ e
/-- So many bytes of what stands so far back. -/
def copyN : Nat → Nat → List Int → List Int
  | 0, _, O => O
  | n + 1, far, O => copyN n far (O ++ [O.getD (O.length - far) 0])
theorem copyN_len : ∀ n far O, (copyN n far O).length = O.length + n
  | 0, _, _ => rfl
  | n + 1, far, O => by rw [copyN, copyN_len]; simp; omega
theorem copyN_succ : ∀ n far O, copyN (n + 1) far O = copyN n far O ++ [(copyN n far O).getD ((copyN n far O).length - far) 0]
  | 0, _, _ => rfl
  | n + 1, far, O => by rw [copyN, copyN_succ n far]; rfl
def copyH (B : List Int) (n f0 y t2 : Nat) (O : List Int) (m : Int) : Except Int (Nat × List Int) :=
  if 8 * B.length < t2 + y then .error 11 else if O.length < f0 + numAt B t2 y then .error 10 else if m < (O.length : Int) + n then .error 12 else .ok (t2 + y, copyN n (f0 + numAt B t2 y) O)
def copyG (B : List Int) (cnt : List Nat) (sg : List Int) (l x t : Nat) (O : List Int) (m : Int) : Except Int (Nat × List Int) :=
  if 8 * B.length < t + x then .error 11 else match signL B cnt sg (t + x) with
    | .error e => .error e
    | .ok (d, t2) => if 29 < d then .error 10 else copyH B (l + numAt B t x) (farBase.getD d.toNat 0) (farMore.getD d.toNat 0) t2 O m
/-- What stands back, copied. -/
def copyL (B : List Int) (cnt : List Nat) (sg : List Int) (s t : Nat) (O : List Int) (m : Int) : Except Int (Nat × List Int) := copyG B cnt sg (lenBase.getD (s - 257) 0) (lenMore.getD (s - 257) 0) t O m
theorem lit_row (W : World) (x : Int) : Kd.C (Kd.int .u8) (W.alloc (.cells #[.int .u8 x] 5)) (some ⟨W.heap.size, 0, none⟩) 1 [x] := by
  have hb := heap_alloc_new W (.cells #[.int .u8 x] 5)
  have hc : (W.alloc (.cells #[.int .u8 x] 5)).cell? ⟨W.heap.size, 0, none⟩ = some (.int .u8 x) := by rw [Lib.cell_of_heap hb]; rfl
  refine ⟨rfl, by simp, fun _ => ⟨_, rfl, fun j p hj => ?_⟩⟩
  match j, hj with
  | 0, hj =>
    obtain rfl : x = p := by simpa using hj
    refine ⟨[.int .u8 x], rfl, rfl, fun i u hu => ?_⟩
    match i, hu with
    | 0, hu =>
      obtain rfl : Value.int .u8 x = u := by simpa using hu
      exact hc
def flate_reader_copy.Inv (w0 : World) (q : Nat) (B O : List Int) (t n far : Nat) (m : Int) (ok : Nat → Prop) (w wr : World) (v : Value) : Prop :=
  ∃ (j : Nat) (X : List Int) (A : Option Addr) (c : Nat), v = .int .i64 j ∧ j ≤ n ∧ X = copyN j far O ∧ Rdr w0 q B t (.slice A X.length c) m wr ∧ Kd.R (Kd.int .u8) 5 wr w0.heap.size (fun k => ok k ∧ k ≠ q) (.slice A X.length c) X ∧ KO w0 q ok w wr
theorem Rdr.alloc {w0 : World} {q : Nat} {B : List Int} {t : Nat} {v : Value} {m : Int} {w : World} (h : Rdr w0 q B t v m w) (o : Obj) : Rdr w0 q B t v m (w.alloc o) := by
  obtain ⟨⟨A, c, hb, hc, hC⟩, h1, h2, h3, h4, h5⟩ := h
  exact ⟨⟨A, c, (Lib.alloc_old w _ q (blk_lt hb)).trans hb, hc, hC⟩, h1, h2, h3, h4, h5.alloc h5.size _⟩
theorem KO.alloc {w0 : World} {q : Nat} {ok : Nat → Prop} (w : World) (o : Obj) (hs : w0.heap.size ≤ w.heap.size) : KO w0 q ok w (w.alloc o) := ⟨Kept.alloc (Kept.refl w _) o, (Below.refl _ w).alloc hs _⟩
set_option maxRecDepth 100000 in
set_option maxHeartbeats 16000000 in
theorem flate_reader_copy.any (w0 : World) (q : Nat) (B O : List Int) (t : Nat) (m : Int) (ok : Nat → Prop) (s : Nat) (kb : Nat) (S : Nat → Prop) (cnt : List Nat) (sg : List Int) (w : World) (h : Rdo w0 q B t O m ok w) (hok : ∀ k, w.heap.size ≤ k → ok k) (hm : 0 ≤ m ∧ m ≤ 9223372036854775807) (hs : 257 ≤ s ∧ s ≤ 285) (hb : Bk kb S cnt sg w) (hS : ¬ S q) (hbw : BW cnt sg) :
    Calls Try.prog 49 #[.pointer (some ⟨q, 0, none⟩), .int .i64 s, .pointer (some ⟨kb, 0, none⟩)] w fun e w' =>
      KO w0 q ok w w' ∧ ((∃ t' O', copyL B cnt sg s t O m = .ok (t', O') ∧ e = .returned (.tuple #[]) ∧ Rdo w0 q B t' O' m ok w') ∨ (∃ x, copyL B cnt sg s t O m = .error x ∧ e = .panicked (faultV x))) := by
  obtain ⟨v, hr, hR, ho, hBl⟩ := h
  obtain ⟨A2, c2, rfl⟩ := Kd.R_slice hR
  have HR := Aside0.mk hR
  have ht : t ≤ 8 * B.length := hr.2.2.2.1
  have hq : w0.heap.size ≤ q := hr.2.2.2.2.1
  have HQ := Aside0.mk hq
  have HR1 := Aside0.mk hr
  obtain ⟨i, rfl⟩ : ∃ i, s = 257 + i := ⟨s - 257, by omega⟩
  obtain ⟨hl1, hl2, hl3⟩ := len_tab i (by omega)
  have hcopy : copyL B cnt sg (257 + i) t O m = copyG B cnt sg (lenBase.getD i 0) (lenMore.getD i 0) t O m := by unfold copyL; rw [show 257 + i - 257 = i by omega]
  obtain ⟨l, hl⟩ : ∃ l, lenBase.getD i 0 = l := ⟨_, rfl⟩
  obtain ⟨x, hx⟩ : ∃ x, lenMore.getD i 0 = x := ⟨_, rfl⟩
  rw [hl, hx] at hl1 hcopy
  rw [hl] at hl2
  rw [hx] at hl3
  obtain ⟨nx, hnx⟩ : ∃ nx, numAt B t x = nx := ⟨_, rfl⟩
  have hnb : nx < 32 := by
    have h1 := numAt_lt B t x
    have h2 : 2 ^ x ≤ 2 ^ 5 := Nat.pow_le_pow_right (by decide) hl3
    omega
  obtain ⟨n, hn⟩ : ∃ n, l + nx = n := ⟨_, rfl⟩
  rw [copyG, hnx, hn] at hcopy
  have hn1 : (l : Int) + (nx : Int) = (n : Int) := by omega
  have HLEN := Aside0.mk hl1
  have HX := Aside0.mk (show x ≤ 16 by omega)
  have HN := Aside0.mk hnx
  have HA := Aside0.mk (show t ≤ 8 * B.length ∧ O.length ≤ 300 * t ∧ B.length ≤ 16777216 ∧ n ≤ 300 from ⟨ht, ho, hBl, by omega⟩)
  have HM := Aside0.mk hm
  have HOK := Aside0.mk hok
  have HS := Aside0.mk hS
  have HK := Aside0.mk hb
  have HW := Aside0.mk hbw
  have B1 : (l : Int) ≤ 258 := by omega
  have B2 : (nx : Int) < 32 := by omega
  clear hr hR ht hq hl hx hl1 hl2 hl3 hnx hnb hn hs ho hBl hm hok hS hb hbw
  cases hsg : signL B cnt sg (t + x) with
  | error x3 =>
    rw [hsg] at hcopy
    have HC := Aside0.mk hcopy
    have HSG := Aside0.mk hsg
    clear hcopy hsg
    go_enter Try.func49, Try.ntmps49
    go_wp2_with (first
      | (go_at_call 48; refine (flate_reader_sign.any w0 q B (t + x) _ m kb S cnt sg _ R2.out (HK.out.KB HS.out G2.out) HS.out HW.out.1 HW.out.2.1 HW.out.2.2.1).mono ?_; rintro e w3 ⟨hB3, ⟨s3, t3, hs3, rfl, hr3⟩ | ⟨x3, hs3, rfl⟩⟩; (exact absurd (HSG.out.symm.trans hs3) (by simp)))
      | (go_at_call 40; refine (flate_reader_bits.any w0 q B t _ m x _ rfl _ (HR1.out.drewN _) HX.out).mono ?_; rintro e w2 ⟨hB2, ⟨g1, rfl, hr2⟩ | ⟨g1, rfl⟩⟩; have G2 := Aside0.mk ((KB.drewN q w nd1).trans hB2); have R2 := Aside0.mk hr2; clear hB2 hr2; rw [HN.out])
      | (go_at_call 37; refine (flate_lengthOf.calls _ _ _ _ HLEN.out).mono ?_; rintro e w1 ⟨rfl, nd1, rfl⟩; have G1 := Aside0.mk True.intro))
    · obtain rfl := Except.error.inj (HSG.out.symm.trans hs3)
      exact ⟨rfl, (G2.out.trans hB3).ko HQ.out, .inr ⟨_, HC.out.trans (if_neg (by omega)), rfl⟩⟩
    · exact ⟨rfl, ((KB.drewN q w nd1).trans hB2).ko HQ.out, .inr ⟨11, HC.out.trans (if_pos g1), rfl⟩⟩
  | ok r =>
    obtain ⟨d', t2⟩ := r
    obtain ⟨hd0, ht2, ht2b⟩ := signL_ok HW.out.2.2.2 hsg
    obtain ⟨d, rfl⟩ : ∃ d : Nat, d' = d := ⟨d'.toNat, by omega⟩
    rw [hsg] at hcopy
    have HSG := Aside0.mk hsg
    have HT2 := Aside0.mk (show t + x < t2 ∧ t2 ≤ 8 * B.length from ⟨ht2, ht2b⟩)
    replace hcopy : copyL B cnt sg (257 + i) t O m = if 8 * B.length < t + x then .error 11 else if 29 < (d : Int) then .error 10 else copyH B n (farBase.getD (d : Int).toNat 0) (farMore.getD (d : Int).toNat 0) t2 O m := hcopy
    rw [Int.toNat_natCast] at hcopy
    clear hsg ht2 ht2b hd0
    by_cases hd : 29 < (d : Int)
    · rw [if_pos hd] at hcopy
      have HC := Aside0.mk hcopy
      clear hcopy
      go_enter Try.func49, Try.ntmps49
      go_wp2_with (first
        | (go_at_call 48; refine (flate_reader_sign.any w0 q B (t + x) _ m kb S cnt sg _ R2.out (HK.out.KB HS.out G2.out) HS.out HW.out.1 HW.out.2.1 HW.out.2.2.1).mono ?_; rintro e w3 ⟨hB3, ⟨s3, t3, hs3, rfl, hr3⟩ | ⟨x3, hs3, rfl⟩⟩; rotate_left; (exact absurd (HSG.out.symm.trans hs3) (by simp)); have hs4 := HSG.out.symm.trans hs3; simp only [Except.ok.injEq, Prod.mk.injEq] at hs4; obtain ⟨rfl, rfl⟩ := hs4; have G3 := Aside0.mk (G2.out.trans hB3); have R3 := Aside0.mk hr3; clear hB3 hr3 hs3)
        | (go_at_call 40; refine (flate_reader_bits.any w0 q B t _ m x _ rfl _ (HR1.out.drewN _) HX.out).mono ?_; rintro e w2 ⟨hB2, ⟨g1, rfl, hr2⟩ | ⟨g1, rfl⟩⟩; have G2 := Aside0.mk ((KB.drewN q w nd1).trans hB2); have R2 := Aside0.mk hr2; clear hB2 hr2; rw [HN.out])
        | (go_at_call 37; refine (flate_lengthOf.calls _ _ _ _ HLEN.out).mono ?_; rintro e w1 ⟨rfl, nd1, rfl⟩; have G1 := Aside0.mk True.intro))
      · exact ⟨rfl, G3.out.ko HQ.out, .inr ⟨10, HC.out.trans (if_neg (by omega)), rfl⟩⟩
      · exact ⟨rfl, ((KB.drewN q w nd1).trans hB2).ko HQ.out, .inr ⟨11, HC.out.trans (if_pos g1), rfl⟩⟩
    · rw [if_neg hd] at hcopy
      obtain ⟨hf1, hf2, hf3, hf4⟩ := far_tab d (by omega)
      obtain ⟨f0, hf0⟩ : ∃ f0, farBase.getD d 0 = f0 := ⟨_, rfl⟩
      obtain ⟨y, hy⟩ : ∃ y, farMore.getD d 0 = y := ⟨_, rfl⟩
      obtain ⟨nf, hnf⟩ : ∃ nf, numAt B t2 y = nf := ⟨_, rfl⟩
      obtain ⟨far, hfar⟩ : ∃ far, f0 + nf = far := ⟨_, rfl⟩
      rw [hf0, hy] at hf1 hcopy
      rw [hf0] at hf2 hf3
      rw [hy] at hf4
      have hnfb : nf < 8192 := by
        have h1 := numAt_lt B t2 y
        have h2 : 2 ^ y ≤ 2 ^ 13 := Nat.pow_le_pow_right (by decide) hf4
        omega
      rw [copyH, hnf, hfar] at hcopy
      have hfar1 : (f0 : Int) + (nf : Int) = (far : Int) := by omega
      have HFAR := Aside0.mk hf1
      have HY := Aside0.mk (show y ≤ 16 by omega)
      have HNF := Aside0.mk hnf
      have B3 : (f0 : Int) ≤ 24577 := by omega
      have B4 : (nf : Int) < 8192 := by omega
      have HFP := Aside0.mk (show 1 ≤ far by omega)
      clear hf1 hf2 hf3 hf4 hf0 hy hnf hfar hnfb
      by_cases hfl : O.length < far
      · rw [if_pos hfl] at hcopy
        have HC := Aside0.mk hcopy
        have hfl1 : (O.length : Int) < (far : Int) := by omega
        clear hcopy hfl
        go_enter Try.func49, Try.ntmps49
        go_wp2_with (first
          | (go_at_call 40; have q_ := G4; clear q_; refine (flate_reader_bits.any w0 q B t2 _ m y _ rfl _ (R3.out.drewN _) HY.out).mono ?_; rintro e w5 ⟨hB5, ⟨g5, rfl, hr5⟩ | ⟨g5, rfl⟩⟩; have G5 := Aside0.mk (G4.out.trans hB5); have R5 := Aside0.mk hr5; obtain ⟨⟨A7, c7, hbq, _, _⟩, _⟩ := id hr5; have p2 := (show w5.cell? ⟨q, 2, none⟩ = some (.slice A2 O.length c2) by rw [Lib.cell_of_heap hbq]; rfl); clear hB5 hr5 hbq; rw [HNF.out])
          | (go_at_call 38; have q_ := G3; clear q_; refine (flate_farOf.calls _ _ _ _ HFAR.out).mono ?_; rintro e w4 ⟨rfl, nd4, rfl⟩; have G4 := Aside0.mk (G3.out.trans (KB.drewN q _ nd4)))
          | (go_at_call 48; refine (flate_reader_sign.any w0 q B (t + x) _ m kb S cnt sg _ R2.out (HK.out.KB HS.out G2.out) HS.out HW.out.1 HW.out.2.1 HW.out.2.2.1).mono ?_; rintro e w3 ⟨hB3, ⟨s3, t3, hs3, rfl, hr3⟩ | ⟨x3, hs3, rfl⟩⟩; rotate_left; (exact absurd (HSG.out.symm.trans hs3) (by simp)); have hs4 := HSG.out.symm.trans hs3; simp only [Except.ok.injEq, Prod.mk.injEq] at hs4; obtain ⟨rfl, rfl⟩ := hs4; have G3 := Aside0.mk (G2.out.trans hB3); have R3 := Aside0.mk hr3; clear hB3 hr3 hs3)
          | (go_at_call 40; refine (flate_reader_bits.any w0 q B t _ m x _ rfl _ (HR1.out.drewN _) HX.out).mono ?_; rintro e w2 ⟨hB2, ⟨g1, rfl, hr2⟩ | ⟨g1, rfl⟩⟩; have G2 := Aside0.mk ((KB.drewN q w nd1).trans hB2); have R2 := Aside0.mk hr2; clear hB2 hr2; rw [HN.out])
          | (go_at_call 37; refine (flate_lengthOf.calls _ _ _ _ HLEN.out).mono ?_; rintro e w1 ⟨rfl, nd1, rfl⟩; have G1 := Aside0.mk True.intro))
        · exact ⟨rfl, G5.out.ko HQ.out, .inr ⟨10, HC.out.trans ((if_neg (by omega)).trans (if_neg (by omega))), rfl⟩⟩
        · exact ⟨rfl, (G4.out.trans hB5).ko HQ.out, .inr ⟨11, HC.out.trans ((if_neg (by omega)).trans (if_pos g5)), rfl⟩⟩
        · exact ⟨rfl, ((KB.drewN q w nd1).trans hB2).ko HQ.out, .inr ⟨11, HC.out.trans (if_pos g1), rfl⟩⟩
      · rw [if_neg hfl] at hcopy
        have HC := Aside0.mk hcopy
        have hfl1 : ¬ (O.length : Int) < (far : Int) := by omega
        have HFL := Aside0.mk hfl
        clear hcopy hfl
        go_enter Try.func49, Try.ntmps49
        go_wp2_with (first
          | (go_at_call 47; refine (flate_reader_room.any w0 q B (t2 + y) A2 O.length c2 m n _ R5.out (by have := HA.out; omega) HM.out).mono ?_; rintro e w6 ⟨hB6, hr6, ⟨g6, rfl⟩ | ⟨g6, rfl⟩⟩; have G6 := Aside0.mk (G5.out.trans hB6); have R6 := Aside0.mk hr6; clear hB6 hr6)
          | (go_at_call 40; have q_ := G4; clear q_; refine (flate_reader_bits.any w0 q B t2 _ m y _ rfl _ (R3.out.drewN _) HY.out).mono ?_; rintro e w5 ⟨hB5, ⟨g5, rfl, hr5⟩ | ⟨g5, rfl⟩⟩; have G5 := Aside0.mk (G4.out.trans hB5); have R5 := Aside0.mk hr5; obtain ⟨⟨A7, c7, hbq, _, _⟩, _⟩ := id hr5; have p2 := (show w5.cell? ⟨q, 2, none⟩ = some (.slice A2 O.length c2) by rw [Lib.cell_of_heap hbq]; rfl); clear hB5 hr5 hbq; rw [HNF.out])
          | (go_at_call 38; have q_ := G3; clear q_; refine (flate_farOf.calls _ _ _ _ HFAR.out).mono ?_; rintro e w4 ⟨rfl, nd4, rfl⟩; have G4 := Aside0.mk (G3.out.trans (KB.drewN q _ nd4)))
          | (go_at_call 48; refine (flate_reader_sign.any w0 q B (t + x) _ m kb S cnt sg _ R2.out (HK.out.KB HS.out G2.out) HS.out HW.out.1 HW.out.2.1 HW.out.2.2.1).mono ?_; rintro e w3 ⟨hB3, ⟨s3, t3, hs3, rfl, hr3⟩ | ⟨x3, hs3, rfl⟩⟩; rotate_left; (exact absurd (HSG.out.symm.trans hs3) (by simp)); have hs4 := HSG.out.symm.trans hs3; simp only [Except.ok.injEq, Prod.mk.injEq] at hs4; obtain ⟨rfl, rfl⟩ := hs4; have G3 := Aside0.mk (G2.out.trans hB3); have R3 := Aside0.mk hr3; clear hB3 hr3 hs3)
          | (go_at_call 40; refine (flate_reader_bits.any w0 q B t _ m x _ rfl _ (HR1.out.drewN _) HX.out).mono ?_; rintro e w2 ⟨hB2, ⟨g1, rfl, hr2⟩ | ⟨g1, rfl⟩⟩; have G2 := Aside0.mk ((KB.drewN q w nd1).trans hB2); have R2 := Aside0.mk hr2; clear hB2 hr2; rw [HN.out])
          | (go_at_call 37; refine (flate_lengthOf.calls _ _ _ _ HLEN.out).mono ?_; rintro e w1 ⟨rfl, nd1, rfl⟩; have G1 := Aside0.mk True.intro))
        rotate_left
        · exact ⟨rfl, (G5.out.trans hB6).ko HQ.out, .inr ⟨12, HC.out.trans ((if_neg (by omega)).trans ((if_neg (by omega)).trans (if_pos g6))), rfl⟩⟩
        · exact ⟨rfl, (G4.out.trans hB5).ko HQ.out, .inr ⟨11, HC.out.trans ((if_neg (by omega)).trans (if_pos g5)), rfl⟩⟩
        · exact ⟨rfl, ((KB.drewN q w nd1).trans hB2).ko HQ.out, .inr ⟨11, HC.out.trans (if_pos g1), rfl⟩⟩
        have HC2 := Aside0.mk (HC.out.trans ((if_neg (by omega)).trans ((if_neg (by omega)).trans (if_neg (by omega)))))
        have R6' := Aside0.mk (Kd.R_step HR.out (fun k hk2 hlt => G6.out.1.2 k hlt hk2.2))
        clear p2
        go_loopw [48] (fun v48 wr => Aside0 (flate_reader_copy.Inv w0 q B O (t2 + y) n far m ok w wr v48)) (fun v48 _ => n - (intOf v48).toNat)
        case atStart => exact ⟨0, O, A2, c2, rfl, Nat.zero_le _, rfl, R6.out, R6'.out, G6.out.ko HQ.out⟩
        case round =>
          obtain ⟨j, X, A, c, rfl, hj, hX, hr, hRX, hKO⟩ := hrel.out
          clear hrel R6 R6'
          have H1 := Aside0.mk hr
          have H2 := Aside0.mk hRX
          have H3 := Aside0.mk hKO
          have hXl : X.length = O.length + j := by rw [hX, copyN_len]
          have HXE := Aside0.mk hX
          have HXL := Aside0.mk hXl
          by_cases hlt : (j : Int) < n
          · obtain ⟨⟨A8, c8, hbq, _, _⟩, _⟩ := id hr
            have qlt : q < wr.heap.size := blk_lt hbq
            have p2 : wr.cell? ⟨q, 2, none⟩ = some (.slice A X.length c) := by rw [Lib.cell_of_heap hbq]; rfl
            have z2 : wr.frozen? ⟨q, 2, none⟩ = false := Lib.frozen_of_heap hbq 2
            obtain ⟨ix, hix⟩ : ∃ ix, X.length - far = ix := ⟨_, rfl⟩
            have hixl : ix < X.length := by have := HFL.out; have := HFP.out; omega
            have hix1 : (X.length : Int) - (far : Int) = (ix : Int) := by have := HFL.out; omega
            have hix2 : (ix : Int) < (X.length : Int) := by omega
            obtain ⟨hrl, hrc, hC⟩ := Kd.R_reads' hRX
            obtain ⟨ad, hA, hcell⟩ := Kd.at_int hC (ix : Int) (by omega) (by omega)
            subst hA
            rw [Int.toNat_natCast] at hcell
            obtain ⟨b, hb⟩ : ∃ b, rd X (ix : Int) = b := ⟨_, rfl⟩
            rw [hb] at hcell
            have adlt : (ad.add ix).block < wr.heap.size := World.block_lt_of_cell? wr (ad.add ix) hcell
            have hwx : IntKind.i64.wrap (ix : Int) = (ix : Int) := by rw [IntKind.wrap_i64]; have := HXL.out; have := HA.out; omega
            have hbg : X.getD (X.length - far) 0 = b := by rw [hix, ← hb]; unfold rd; rw [Int.toNat_natCast]
            have HE := Aside0.mk (show X ++ [b] = copyN (j + 1) far O by rw [copyN_succ, ← hX, hbg])
            obtain ⟨Y, hY⟩ : ∃ Y, X ++ [b] = Y := ⟨_, rfl⟩
            rw [hY] at HE
            have HY := Aside0.mk hY
            have hso : some q ≠ (Value.slice (some ad) X.length c).ownBlock := fun e => (H2.out.1 q e.symm).2 rfl
            have HSO := Aside0.mk hso
            have HSZ := Aside0.mk (show w0.heap.size ≤ wr.heap.size from hr.2.2.2.2.2.size)
            have HB0 := Aside0.mk hr.2.2.2.2.2
            have HQL := Aside0.mk qlt
            have HFR := Aside0.mk (show ∀ k, wr.heap.size + 1 ≤ k → ok k ∧ k ≠ q from fun k hk => ⟨HOK.out k (Nat.le_trans hKO.1.1 (by omega)), by omega⟩)
            have HLE := Aside0.mk (show X.length + 1 ≤ 140737488355328 by have := HA.out; omega)
            clear hbq hr hRX hKO hX hXl hrl hrc hC hb hbg hY hso hix hixl
            go_wp2
            go_region_law (refine step_rows (Kd.int .u8) (w0 := w0) w0.heap.size rfl (.tmp 54) (.tmp 68) 22 5 (.int .u8 0) 1 rfl Try.underlying22 info5 rfl (by decide) (by omega) (.slice (some ad) X.length c) X [b] (some ⟨wr.heap.size, 0, none⟩) 1 1 (fun k => ok k ∧ k ≠ q) (by simp [Act.eval, Act.put]) (by simp [Act.eval, Act.put]) (Kd.R_alloc (Kd.R_drew H2.out) _) (lit_row wr.drew b) (fun _ _ h => h) (by intro k hk; refine HFR.out k ?_; simpa using hk) ((below_drew1 HB0.out).alloc HSZ.out _) (by simp; have := HSZ.out; omega) (by have := HLE.out; omega) ?_; intro v1 w8 ho hb hg; rw [HY.out] at ho; obtain ⟨A9, c9, rfl⟩ := Kd.R_slice ho; have R9 := ((H1.out.drew).alloc (.cells #[.int .u8 b] 5)); obtain ⟨⟨A7, c7, hbq, _, _⟩, _⟩ := id R9; have hb9 := blk_grown hbq hg HSO.out; have p3 : w8.cell? ⟨q, 2, none⟩ = some (.slice (some ad) X.length c) := (by rw [Lib.cell_of_heap hb9]; rfl); have z3 : w8.frozen? ⟨q, 2, none⟩ = false := Lib.frozen_of_heap hb9 2; have HR9 := Aside0.mk R9; have HO9 := Aside0.mk ho; have HG9 := Aside0.mk hg; have HB9 := Aside0.mk hb; clear hb9 hbq ho hg hb R9)
            all_goals
              have hrow : ∀ k, (Value.slice (some ad) X.length c).ownBlock = some k → ok k ∧ w0.heap.size ≤ k := fun k e => ⟨(H2.out.1 k e).1, Kd.R_base H2.out k e⟩
              go_wp2
              go_roundw
              case rel => exact ⟨j + 1, Y, A9, c9, by push_cast; rfl, by omega, HE.out, HR9.out.row HG9.out HSO.out HB9.out, R_set HO9.out, H3.out.trans ((KO.drew wr).trans ((KO.alloc wr.drew _ (show w0.heap.size ≤ wr.drew.heap.size from HSZ.out)).trans ((KO.grown HG9.out (by simp; have := HSZ.out; omega) hrow).trans (KO.set _ _ _ HQ.out))))⟩
              case measure => simp [intOf]; omega
          · obtain rfl : j = n := by omega
            clear hr hRX hKO hX hXl
            go_wp2
            go_end0
            exact ⟨H3.out, .inl ⟨_, _, HC2.out, rfl, _, by rw [← HXE.out]; exact ⟨H1.out, H2.out, by have := HXL.out; have := HA.out; have := HT2.out; omega, by have := HA.out; omega⟩⟩⟩

/-! ### flate_bits_put: function 17 -/
/-- A byte of a row of bits, the lowest first. -/
def byteOf (bl : List Nat) (i : Nat) : Nat → Nat
  | 0 => 0
  | j + 1 => byteOf bl i j + bl.getD (8 * i + j) 0 * 2 ^ j
def packL (bl : List Nat) : List Nat := (List.range ((bl.length + 7) / 8)).map (fun i => byteOf bl i 8)
theorem packL_len (bl : List Nat) : (packL bl).length = (bl.length + 7) / 8 := by simp [packL]
theorem byteOf_congr (a b : List Nat) (i : Nat) : ∀ j, (∀ k, k < j → a.getD (8 * i + k) 0 = b.getD (8 * i + k) 0) → byteOf a i j = byteOf b i j
  | 0, _ => rfl
  | j + 1, h => by rw [byteOf, byteOf, byteOf_congr a b i j (fun k hk => h k (by omega)), h j (by omega)]
theorem getD_app (bl : List Nat) (x k : Nat) : (bl ++ [x]).getD k 0 = if k < bl.length then bl.getD k 0 else if k = bl.length then x else 0 := by
  rw [List.getD_eq_getElem?_getD, List.getD_eq_getElem?_getD]
  by_cases h : k < bl.length
  · rw [if_pos h, List.getElem?_append_left h]
  · rw [if_neg h, List.getElem?_append_right (by omega)]
    by_cases h2 : k = bl.length
    · subst h2; simp
    · rw [if_neg h2, List.getElem?_eq_none (by simp; omega)]; rfl
theorem getD_out (bl : List Nat) (k : Nat) (h : bl.length ≤ k) : bl.getD k 0 = 0 := by
  rw [List.getD_eq_getElem?_getD, List.getElem?_eq_none h]; rfl
/-- One bit more, up to a place of its byte. -/
theorem byteOf_last (bl : List Nat) (x i r : Nat) (h : bl.length = 8 * i + r) : ∀ j, byteOf (bl ++ [x]) i j = byteOf bl i j + (if r < j then x * 2 ^ r else 0)
  | 0 => by simp [byteOf]
  | j + 1 => by
    rw [byteOf, byteOf, byteOf_last bl x i r h j, getD_app]
    by_cases h1 : j < r
    · rw [if_neg (show ¬ r < j by omega), if_pos (show 8 * i + j < bl.length by omega), if_neg (show ¬ r < j + 1 by omega)]; omega
    · rw [if_neg (show ¬ 8 * i + j < bl.length by omega), getD_out bl (8 * i + j) (by omega)]
      by_cases h2 : j = r
      · subst h2
        rw [if_neg (show ¬ j < j by omega), if_pos (show 8 * i + j = bl.length by omega), if_pos (show j < j + 1 by omega)]; omega
      · rw [if_pos (show r < j by omega), if_neg (show ¬ 8 * i + j = bl.length by omega), if_pos (show r < j + 1 by omega)]; omega
theorem byteOf_zero (bl : List Nat) (i : Nat) (h : bl.length ≤ 8 * i) : ∀ j, byteOf bl i j = 0
  | 0 => rfl
  | j + 1 => by rw [byteOf, byteOf_zero bl i h j, getD_out bl _ (by omega)]; simp
theorem pack_new (bl : List Nat) (x : Nat) (h : bl.length % 8 = 0) : packL (bl ++ [x]) = packL bl ++ [x] := by
  obtain ⟨i, hi⟩ : ∃ i, bl.length = 8 * i := ⟨bl.length / 8, by omega⟩
  unfold packL
  rw [List.length_append, List.length_singleton, show (bl.length + 1 + 7) / 8 = i + 1 by omega, show (bl.length + 7) / 8 = i by omega, List.range_succ, List.map_append, List.map_singleton]
  congr 1
  · apply List.map_congr_left
    intro k hk
    have hk := List.mem_range.1 hk
    exact byteOf_congr _ _ k 8 (fun j hj => by rw [getD_app, if_pos (by omega)])
  · rw [byteOf_last bl x i 0 (by omega), byteOf_zero bl i (by omega)]
    simp
theorem pack_old (bl : List Nat) (x i r : Nat) (h : bl.length = 8 * i + r) (h1 : 1 ≤ r) (h2 : r < 8) : packL (bl ++ [x]) = (packL bl).set i ((packL bl).getD i 0 + x * 2 ^ r) := by
  have hl : (packL bl).length = i + 1 := by rw [packL_len]; omega
  have hg : (packL bl).getD i 0 = byteOf bl i 8 := by
    unfold packL
    rw [List.getD_eq_getElem?_getD, List.getElem?_map, List.getElem?_range (by omega)]
    rfl
  rw [hg]
  apply List.ext_getElem
  · rw [packL_len, List.length_set, hl, List.length_append, List.length_singleton]; omega
  · intro k hk1 hk2
    rw [List.getElem_set]
    by_cases he : i = k
    · subst he
      simp only [packL, List.getElem_map, List.getElem_range, if_true]
      rw [byteOf_last bl x i r h, if_pos h2]
    · rw [if_neg he]
      simp only [packL, List.getElem_map, List.getElem_range]
      have : k < i + 1 := by rw [List.length_set, hl] at hk2; exact hk2
      exact byteOf_congr _ _ k 8 (fun j hj => by rw [getD_app, if_pos (by omega)])
theorem byteOf_lt (bl : List Nat) (i : Nat) (hb : ∀ k, bl.getD k 0 < 2) : ∀ j, byteOf bl i j < 2 ^ j
  | 0 => Nat.zero_lt_one
  | j + 1 => by
    have h1 := byteOf_lt bl i hb j
    have h2 := hb (8 * i + j)
    have h3 : bl.getD (8 * i + j) 0 * 2 ^ j ≤ 1 * 2 ^ j := Nat.mul_le_mul_right _ (by omega)
    rw [byteOf, Nat.pow_succ]
    omega
/-- A bit of a byte. -/
theorem byteOf_bit (bl : List Nat) (i : Nat) (hb : ∀ k, bl.getD k 0 < 2) (r : Nat) : ∀ j, r < j → byteOf bl i j / 2 ^ r % 2 = bl.getD (8 * i + r) 0
  | 0, h => by omega
  | j + 1, h => by
    rw [byteOf]
    by_cases hr : r = j
    · subst hr
      have h1 := byteOf_lt bl i hb r
      rw [Nat.add_mul_div_right _ _ (Nat.two_pow_pos r), Nat.div_eq_of_lt h1, Nat.zero_add]
      exact Nat.mod_eq_of_lt (hb _)
    · have ih := byteOf_bit bl i hb r j (by omega)
      obtain ⟨d, hd⟩ : ∃ d, j = r + 1 + d := ⟨j - r - 1, by omega⟩
      rw [← ih, hd, show bl.getD (8 * i + (r + 1 + d)) 0 * 2 ^ (r + 1 + d) = (bl.getD (8 * i + (r + 1 + d)) 0 * 2 ^ d * 2) * 2 ^ r by rw [Nat.pow_add, Nat.pow_succ]; simp only [Nat.mul_assoc, Nat.mul_comm, Nat.mul_left_comm], Nat.add_mul_div_right _ _ (Nat.two_pow_pos r), Nat.add_mul_mod_self_right]
theorem pack_bit (bl : List Nat) (hb : ∀ k, bl.getD k 0 < 2) (t : Nat) (ht : t < bl.length) : (packL bl).getD (t / 8) 0 / 2 ^ (t % 8) % 2 = bl.getD t 0 := by
  have hg : (packL bl).getD (t / 8) 0 = byteOf bl (t / 8) 8 := by
    unfold packL
    rw [List.getD_eq_getElem?_getD, List.getElem?_map, List.getElem?_range (by omega)]
    rfl
  rw [hg, byteOf_bit bl (t / 8) hb (t % 8) 8 (by omega), show 8 * (t / 8) + t % 8 = t by omega]

/-- A number's bits, the lowest first. -/
def numB (n : Nat) : Nat → List Nat
  | 0 => []
  | k + 1 => n % 2 :: numB (n / 2) k
/-- Bits as bytes, as the program's numbers. -/
def bytesL (bl : List Nat) : List Int := (packL bl).map (fun n : Nat => (n : Int))
def freeOf (bl : List Nat) : Nat := (8 - bl.length % 8) % 8
/-- A writer at block b: its row, its free bits. -/
def Wr (w0 : World) (b : Nat) (Y : List Int) (f : Int) (v : Value) (w : World) : Prop :=
  w.heap[b]? = some (.cells #[v, .int .i64 f] 40 (0, 0)) ∧ Kd.R (Kd.int .u8) 5 w w0.heap.size (fun k => k ≠ b) v Y ∧ w0.heap.size ≤ b ∧ Below w0.heap.size w0 w
/-- A writer that has written so many bits. -/
def Wrt (w0 : World) (b : Nat) (bl : List Nat) (w : World) : Prop := (∃ v, Wr w0 b (bytesL bl) (freeOf bl) v w) ∧ (∀ x ∈ bl, x < 2)
theorem Wr.drew {w0 : World} {b : Nat} {Y : List Int} {f : Int} {v : Value} {w : World} (h : Wr w0 b Y f v w) : Wr w0 b Y f v w.drew :=
  ⟨h.1, Kd.R_step h.2.1 (fun _ _ _ => rfl), h.2.2.1, below_drew1 h.2.2.2⟩
theorem Wr.drewN {w0 : World} {b : Nat} {Y : List Int} {f : Int} {v : Value} {w : World} (h : Wr w0 b Y f v w) (n : Nat) : Wr w0 b Y f v (w.drewN n) :=
  ⟨h.1, Kd.R_step h.2.1 (fun _ _ _ => rfl), h.2.2.1, pw_below_drewN h.2.2.2 n⟩
theorem Wrt.drewN {w0 : World} {b : Nat} {bl : List Nat} {w : World} (h : Wrt w0 b bl w) (n : Nat) : Wrt w0 b bl (w.drewN n) := ⟨h.1.imp (fun _ h => h.drewN n), h.2⟩
theorem Wr.free {w0 : World} {b : Nat} {Y : List Int} {f : Int} {v : Value} {w : World} (h : Wr w0 b Y f v w) (f' : Int) : Wr w0 b Y f' v (w.setCell ⟨b, 1, none⟩ (.int .i64 f')) :=
  ⟨by simp [World.setCell, Array.getElem?_modify, h.1], Kd.R_step h.2.1 (fun k hk _ => by simp [World.setCell, Array.getElem?_modify, Ne.symm hk]), h.2.2.1, h.2.2.2.setCell (p := ⟨b, 1, none⟩) h.2.2.1 _⟩
theorem Wr.put {w0 : World} {b g n cap : Nat} {Y : List Int} {f : Int} {w : World} (h : Wr w0 b Y f (.slice (some ⟨g, 0, none⟩) n cap) w) (i : Nat) (z : Int) : Wr w0 b (Y.set i z) f (.slice (some ⟨g, 0, none⟩) n cap) (w.setCell ⟨g, i, none⟩ (.int .u8 z)) := by
  have hgb : g ≠ b := h.2.1.1 g rfl
  have hbase : w0.heap.size ≤ g := Kd.R_base h.2.1 g rfl
  refine ⟨by simp [World.setCell, Array.getElem?_modify, hgb, h.1], ?_, h.2.2.1, h.2.2.2.setCell (p := ⟨g, i, none⟩) hbase _⟩
  have := (Kd.R_putg h.2.1 (i : Int) z).1
  rwa [Int.toNat_natCast] at this
/-- Behind an append of the method's own. -/
theorem Wr.grown {w0 : World} {b : Nat} {Y Y1 : List Int} {f : Int} {v v1 : Value} {w w1 : World} {o : Obj} (h : Wr w0 b Y f v w) (hg : (w.alloc o).grownBy w1 v.ownBlock) (hR : Kd.R (Kd.int .u8) 5 w1 w0.heap.size (fun k => k ≠ b) v1 Y1) (hB : Below w0.heap.size w0 w1) :
    w1.heap[b]? = some (.cells #[v, .int .i64 f] 40 (0, 0)) ∧ ∀ f', Wr w0 b Y1 f' v1 ((w1.setCell ⟨b, 0, none⟩ v1).setCell ⟨b, 1, none⟩ (.int .i64 f')) := by
  have hb1 : (w.alloc o).heap[b]? = some (.cells #[v, .int .i64 f] 40 (0, 0)) := (Lib.alloc_old w o b (blk_lt h.1)).trans h.1
  have hb2 := blk_grown hb1 hg (fun e => h.2.1.1 b e.symm rfl)
  refine ⟨hb2, fun f' => ⟨?_, ?_, h.2.2.1, (hB.setCell (p := ⟨b, 0, none⟩) h.2.2.1 _).setCell (p := ⟨b, 1, none⟩) h.2.2.1 _⟩⟩
  · simp [World.setCell, Array.getElem?_modify, hb2]
  · exact Kd.R_step hR (fun k hk _ => by simp [World.setCell, Array.getElem?_modify, Ne.symm hk])
theorem or_u8 : ∀ r : Nat, r < 8 → ∀ y : Nat, y < 2 ^ r → ∀ x : Nat, x < 2 → Go.bits .or .u8 (y : Int) ((x * 2 ^ r : Nat) : Int) = ((y + x * 2 ^ r : Nat) : Int) ∧ y + x * 2 ^ r < 256 := by decide +kernel
theorem bit_le (bl : List Nat) (h : ∀ x ∈ bl, x < 2) (k : Nat) : bl.getD k 0 < 2 := by
  rw [List.getD_eq_getElem?_getD]
  cases e : bl[k]? with
  | none => simp
  | some x => exact h x (List.mem_of_getElem? e)
theorem byteOf_lt2 (bl : List Nat) (hb : ∀ x ∈ bl, x < 2) (i r : Nat) (h : bl.length = 8 * i + r) : ∀ j, byteOf bl i j < 2 ^ r
  | 0 => by rw [byteOf]; exact Nat.two_pow_pos r
  | j + 1 => by
    rw [byteOf]
    by_cases hj : r ≤ j
    · rw [getD_out bl (8 * i + j) (by omega), Nat.zero_mul, Nat.add_zero]
      exact byteOf_lt2 bl hb i r h j
    · have h1 := byteOf_lt bl i (fun k => bit_le bl hb k) (j + 1)
      rw [byteOf] at h1
      exact Nat.lt_of_lt_of_le h1 (Nat.pow_le_pow_right (by decide) (by omega))
theorem bytesL_len (bl : List Nat) : (bytesL bl).length = (bl.length + 7) / 8 := by rw [bytesL, List.length_map, packL_len]
/-- One bit more, into a new byte. -/
theorem bytes_new (bl : List Nat) (x i : Nat) (h : bl.length = 8 * i) : bytesL (bl ++ [x]) = (bytesL bl ++ [0]).set i ((x * 2 ^ 0 : Nat) : Int) ∧ (bytesL bl ++ [0]).length = i + 1 := by
  have hl : (bytesL bl).length = i := by rw [bytesL_len]; omega
  refine ⟨?_, by rw [List.length_append, hl]; rfl⟩
  rw [bytesL, pack_new bl x (by omega), List.map_append, ← bytesL, List.set_append_right _ _ (by omega), hl, Nat.sub_self]
  simp
/-- One bit more, into the last byte. -/
theorem bytes_old (bl : List Nat) (hb : ∀ x ∈ bl, x < 2) (x i r : Nat) (h : bl.length = 8 * i + r) (h1 : 1 ≤ r) (h2 : r < 8) : ∃ y : Nat, (bytesL bl)[i]? = some (y : Int) ∧ y < 2 ^ r ∧ bytesL (bl ++ [x]) = (bytesL bl).set i ((y + x * 2 ^ r : Nat) : Int) ∧ (bytesL bl).length = i + 1 := by
  have hl : (packL bl).length = i + 1 := by rw [packL_len]; omega
  have hg : (packL bl)[i]? = some (byteOf bl i 8) := by
    unfold packL
    rw [List.getElem?_map, List.getElem?_range (by omega)]
    rfl
  refine ⟨byteOf bl i 8, by rw [bytesL, List.getElem?_map, hg]; rfl, byteOf_lt2 bl hb i r h 8, ?_, by rw [bytesL, List.length_map, hl]⟩
  rw [bytesL, pack_old bl x i r h h1 h2, List.map_set, ← bytesL, List.getD_eq_getElem?_getD, hg]
  rfl
theorem numB_app (bl : List Nat) (m k : Nat) : bl ++ numB m (k + 1) = (bl ++ [m % 2]) ++ numB (m / 2) k := by rw [numB, List.append_assoc]; rfl
theorem numB_lt (k : Nat) : ∀ m, ∀ x ∈ numB m k, x < 2 := by
  induction k with
  | zero => intro m x h; cases h
  | succ k ih =>
    intro m x h
    rw [numB] at h
    rcases List.mem_cons.1 h with rfl | h
    · exact Nat.mod_lt _ (by decide)
    · exact ih _ x h
theorem numB_len (k : Nat) : ∀ m, (numB m k).length = k := by
  induction k with
  | zero => intro m; rfl
  | succ k ih => intro m; rw [numB, List.length_cons, ih]
theorem Wr.done {w0 : World} {b g n cap i : Nat} {Y : List Int} {f f2 s : Int} {W : World} {bl : List Nat} (h : Wr w0 b Y f (.slice (some ⟨g, 0, none⟩) n cap) W) (hY : Y.set i s = bytesL bl) (hf : f2 = (freeOf bl : Nat)) (hb : ∀ x ∈ bl, x < 2) :
    Wrt w0 b bl ((W.drew.setCell ⟨g, i, none⟩ (.int .u8 s)).setCell ⟨b, 1, none⟩ (.int .i64 f2)) := by
  refine ⟨⟨.slice (some ⟨g, 0, none⟩) n cap, ?_⟩, hb⟩
  have := (h.drew.put i s).free f2
  rw [hY] at this
  rw [← hf]
  exact this
theorem shl_u8 : ∀ r : Nat, r < 8 → ∀ x : Nat, x < 2 → IntKind.u8.wrap ((x : Int) * 2 ^ r) = ((x * 2 ^ r : Nat) : Int) := by decide +kernel
theorem all_lt2 (bl : List Nat) (x : Nat) (h : ∀ y ∈ bl, y < 2) (hx : x < 2) : ∀ y ∈ bl ++ [x], y < 2 := by
  intro y hy
  rcases List.mem_append.1 hy with h1 | h1
  · exact h y h1
  · obtain rfl := List.mem_singleton.1 h1; exact hx
def flate_bits_put.Inv (w0 : World) (b : Nat) (bl : List Nat) (n size : Nat) (wr : World) (v1 v7 : Value) : Prop :=
  ∃ (j m : Nat) (bl' : List Nat), v1 = .int .i64 m ∧ v7 = .int .i64 j ∧ j ≤ size ∧ m ≤ n ∧ bl'.length = bl.length + j ∧ bl' ++ numB m (size - j) = bl ++ numB n size ∧ Wrt w0 b bl' wr
set_option maxRecDepth 100000 in
set_option maxHeartbeats 8000000 in
theorem flate_bits_put.any (w0 : World) (b : Nat) (bl : List Nat) (n size : Nat) (ni si : Int) (hni : ni = (n : Int)) (hsi : si = (size : Int)) (w : World) (h : Wrt w0 b bl w) (hn : n ≤ 1099511627776) (hs : size ≤ 64) (hl : bl.length ≤ 1099511627776) :
    Calls Try.prog 17 #[.pointer (some ⟨b, 0, none⟩), .int .i64 ni, .int .i64 si] w fun e w' => e = .returned (.tuple #[]) ∧ Wrt w0 b (bl ++ numB n size) w' := by
  subst hni hsi
  have H := Aside0.mk h
  have HL := Aside0.mk (show bl.length ≤ 1099511627776 ∧ n ≤ 1099511627776 ∧ size ≤ 64 from ⟨hl, hn, hs⟩)
  clear h hn hl
  go_enter Try.func17, Try.ntmps17
  go_wp2
  go_loopw [1, 7] (fun v1 v7 wr => Aside0 (flate_bits_put.Inv w0 b bl n size wr v1 v7)) (fun _ v7 _ => size - (intOf v7).toNat)
  case atStart => exact ⟨0, n, bl, rfl, rfl, Nat.zero_le _, Nat.le_refl _, rfl, rfl, H.out⟩
  case round =>
    obtain ⟨j, m, bl', rfl, rfl, hj, hm, hl', he, hw⟩ := hrel.out
    clear hrel
    by_cases hlt : (j : Int) < size
    · obtain ⟨x, hx⟩ : ∃ x, m % 2 = x := ⟨_, rfl⟩
      have hx2 : x < 2 := by omega
      obtain ⟨m2, hm2⟩ : ∃ m2, m / 2 = m2 := ⟨_, rfl⟩
      have e1 : (m : Int) / 2 = (m2 : Int) := by omega
      have e2 : Go.bits .and .i64 (m : Int) 1 = (x : Int) := (and_i64 (m : Int) 1 (by decide) (by omega) (by have := HL.out; omega)).trans (by rw [show (2 : Int) ^ 1 = 2 from rfl]; omega)
      have e3 : IntKind.u8.wrap (x : Int) = (x : Int) := by rw [IntKind.wrap_u8]; omega
      have HE := Aside0.mk (show (bl' ++ [x]) ++ numB m2 (size - (j + 1)) = bl ++ numB n size by rw [← he, show size - j = (size - (j + 1)) + 1 by omega, numB_app, hx, hm2])
      have HM := Aside0.mk (show m2 ≤ n ∧ j < size ∧ bl'.length = bl.length + j from ⟨by omega, by omega, hl'⟩)
      obtain ⟨⟨v, hwr⟩, hb2⟩ := hw
      have HB2 := Aside0.mk hb2
      obtain ⟨A9, c9, rfl⟩ := Kd.R_slice hwr.2.1
      have HW := Aside0.mk hwr
      have c0 : wr.cell? ⟨b, 0, none⟩ = some (.slice A9 (bytesL bl').length c9) := by rw [Lib.cell_of_heap hwr.1]; rfl
      have c1 : wr.cell? ⟨b, 1, none⟩ = some (.int .i64 (freeOf bl' : Nat)) := by rw [Lib.cell_of_heap hwr.1]; rfl
      have z0 : wr.frozen? ⟨b, 0, none⟩ = false := Lib.frozen_of_heap hwr.1 0
      have z1 : wr.frozen? ⟨b, 1, none⟩ = false := Lib.frozen_of_heap hwr.1 1
      by_cases h8 : bl'.length % 8 = 0
      · obtain ⟨i, hi⟩ : ∃ i, bl'.length = 8 * i := ⟨bl'.length / 8, by omega⟩
        obtain ⟨hnew, hlen⟩ := bytes_new bl' x i hi
        have f0 : freeOf bl' = 0 := by unfold freeOf; omega
        rw [f0] at c1
        have HN := Aside0.mk hnew
        have hl0 : (bytesL bl').length = i := by rw [bytesL_len]; omega
        obtain ⟨Y, hY⟩ : ∃ Y, bytesL bl' ++ [0] = Y := ⟨_, rfl⟩
        rw [hY] at hlen
        have HY := Aside0.mk hY
        have HYL := Aside0.mk hlen
        have HI := Aside0.mk (show (bytesL bl').length ≤ 137438953500 by have := HL.out; omega)
        have HI8 := Aside0.mk hi
        replace HI := Aside0.mk (show i ≤ 137438953500 ∧ (bytesL bl').length ≤ 137438953500 from ⟨by have := HL.out; omega, HI.out⟩)
        clear he hm hl' hwr hb2 h8 hnew hlen hj hx hm2 hi hY f0 hl0
        go_wp2_with ((with_reducible refine gate_builtin (b := .append) (xs := #[.tmp 19, .tmp 20]) rfl ?_); at_builtin; refine Kd.R_append_rows (Kd.int .u8) (w0 := w0) w0.heap.size rfl (.tmp 19) (.tmp 20) 22 5 (.int .u8 0) 1 rfl Try.underlying22 info5 rfl (by decide) (by omega) (.slice A9 (bytesL bl').length c9) (bytesL bl') [0] (some ⟨wr.heap.size, 0, none⟩) 1 1 (fun k => k ≠ b) (fun _ => False) rfl rfl ?aO ?aR (fun _ _ h => h) (fun _ h => h.elim) ?aF ?aB ?aS ?aL ?_; (case aO => exact Kd.R_alloc HW.out.2.1 _); (case aR => exact lit_row wr 0); (case aF => intro k hk; have h1 : wr.heap.size + 1 ≤ k := (by simpa using hk); have := blk_lt HW.out.1; omega); (case aB => exact HW.out.2.2.2.alloc HW.out.2.2.2.size _); (case aS => have := HW.out.2.2.2.size; simp; omega); (case aL => have := HI.out.2; simp; omega); intro v1 w8 ho hb hg _; rw [HY.out] at ho; obtain ⟨hb8, hwr8⟩ := HW.out.grown hg ho hb; obtain ⟨A8, c8, rfl⟩ := Kd.R_slice ho; have p0 : w8.cell? ⟨b, 0, none⟩ = some (.slice A9 (bytesL bl').length c9) := (by rw [Lib.cell_of_heap hb8]; rfl); have q0 : w8.frozen? ⟨b, 0, none⟩ = false := Lib.frozen_of_heap hb8 0; have p1 : w8.cell? ⟨b, 1, none⟩ = some (.int .i64 (freeOf bl' : Nat)) := (by rw [Lib.cell_of_heap hb8]; rfl); have q1 : w8.frozen? ⟨b, 1, none⟩ = false := Lib.frozen_of_heap hb8 1; have HW8 := Aside0.mk (hwr8 8); clear hb8 hwr8 ho hb hg)
        generalize ((w8.setCell ⟨b, 0, none⟩ (.slice A8 Y.length c8)).setCell ⟨b, 1, none⟩ (.int .i64 8)) = W at HW8 ⊢
        obtain ⟨fr, hfr⟩ : ∃ fr : Nat, fr = 8 := ⟨_, rfl⟩
        obtain ⟨r, hr⟩ : ∃ r : Nat, r = 0 := ⟨_, rfl⟩
        obtain ⟨y, hy⟩ : ∃ y : Nat, y = 0 := ⟨_, rfl⟩
        have hW8 : Wr w0 b Y ((fr : Nat) : Int) (.slice A8 Y.length c8) W := by rw [hfr]; exact HW8.out
        clear HW8 p0 q0 p1 q1 c0 c1 z0 z1
        have HW8 := Aside0.mk hW8
        clear hW8
        have hi : bl'.length = 8 * i + r := by have := HI8.out; omega
        have hr8 : r < 8 := by omega
        have hy2 : y < 2 ^ r := by rw [hy]; exact Nat.two_pow_pos r
        have hys : bytesL (bl' ++ [x]) = Y.set i ((y + x * 2 ^ r : Nat) : Int) := by rw [HN.out, HY.out, hy, hr, Nat.zero_add]
        have hyi : rdOf 0 Y (i : Int) = (y : Int) := by rw [← HY.out, hy]; unfold rdOf; rw [Int.toNat_natCast]; have := HYL.out; rw [← HY.out, List.length_append] at this; simp at this; simp [this]
        replace hfr : fr + r = 8 := by omega
        clear hr hy
        obtain ⟨g, cap, hform, _, _, _⟩ := Kd.R_form HW8.out.2.1 (by have := HYL.out; omega)
        injection hform with ea_ en_ ec_
        subst ea_ ec_
        obtain ⟨hcg, hzg⟩ := Kd.R_celln 0 HW8.out.2.1 (i : Int) (by omega) (by have := HYL.out; omega)
        rw [Int.toNat_natCast] at hcg hzg
        obtain ⟨z, hz⟩ : ∃ z, x * 2 ^ r = z := ⟨_, rfl⟩
        obtain ⟨hor, hsum⟩ := or_u8 r hr8 y hy2 x hx2
        have hsh := shl_u8 r hr8 x hx2
        rw [hz] at hor hsum hsh
        obtain ⟨sm, hsm⟩ : ∃ sm, y + z = sm := ⟨_, rfl⟩
        rw [hsm] at hor hsum
        have HZ := Aside0.mk (show y + x * 2 ^ r = sm by rw [hz, hsm])
        have HYS := Aside0.mk hys
        have hrd : rdOf 0 Y (i : Int) = (y : Int) := hyi
        rw [hrd] at hcg
        have p0 : W.cell? ⟨b, 0, none⟩ = some (.slice (some ⟨g, 0, none⟩) Y.length c8) := by rw [Lib.cell_of_heap HW8.out.1]; rfl
        have p1 : W.cell? ⟨b, 1, none⟩ = some (.int .i64 (fr : Nat)) := by rw [Lib.cell_of_heap HW8.out.1]; rfl
        have q1 : W.frozen? ⟨b, 1, none⟩ = false := Lib.frozen_of_heap HW8.out.1 1
        have n1 : (Y.length : Int) - 1 = (i : Int) := by have := HYL.out; omega
        have n2 : (i : Int) < (Y.length : Int) := by have := HYL.out; omega
        have n3 : 8 - (fr : Int) = (r : Int) := by omega
        have n4 : (r : Int) ≤ 64 := by omega
        have n5 : min r 64 = r := by omega
        have n6 : (i : Int) ≤ 137438953500 := by have := HI.out; omega
        have n7 : (0 : Int) ≤ (i : Int) := by omega
        have n8 : (fr : Int) ≤ 8 := by omega
        have n9 : IntKind.i64.wrap (i : Int) = (i : Int) := by rw [IntKind.wrap_i64]; omega
        have n10 : IntKind.i64.wrap (r : Int) = (r : Int) := by rw [IntKind.wrap_i64]; omega
        have HR8 := Aside0.mk (show fr + r = 8 ∧ r < 8 ∧ bl'.length = 8 * i + r ∧ x < 2 from ⟨by omega, hr8, hi, hx2⟩)
        have HGB := Aside0.mk (show g ≠ b from HW8.out.2.1.1 g rfl)
        clear hz hsm hsum hys hyi hrd hi hr8 hy2 hx2 hfr
        go_still_tail 22, (by kernel_rfl)
        change wpList _ _ _ _ _ W.drew
        have hcg2 : W.drew.cell? ⟨g, i, none⟩ = some (.int .u8 (y : Int)) := hcg
        have hzg2 : W.drew.frozen? ⟨g, i, none⟩ = false := hzg
        have p1' : (W.drew.setCell ⟨g, i, none⟩ (.int .u8 (sm : Int))).cell? ⟨b, 1, none⟩ = some (.int .i64 (fr : Int)) := by rw [World.cell?_setCell_other _ _ _ _ (by simp [HGB.out])]; exact p1
        have q1' : (W.drew.setCell ⟨g, i, none⟩ (.int .u8 (sm : Int))).frozen? ⟨b, 1, none⟩ = false := by simpa using q1
        clear hcg hzg p0 p1 q1
        have HD := Aside0.mk (HW8.out.done (i := i) (s := (sm : Int)) (f2 := (fr : Int) - 1) (bl := bl' ++ [x]) (by rw [HYS.out, HZ.out]) (by unfold freeOf; rw [List.length_append, List.length_singleton]; have := HR8.out; omega) (all_lt2 _ _ HB2.out HR8.out.2.2.2))
        generalize W.drew = W2 at hcg2 hzg2 p1' q1' HD ⊢
        go_wp2
        go_roundw
        case rel => exact ⟨j + 1, m2, bl' ++ [x], rfl, by push_cast; rfl, by have := HM.out; omega, HM.out.1, by rw [List.length_append, List.length_singleton]; have := HM.out; omega, HE.out, HD.out⟩
        case measure => simp [intOf]; have := HM.out; omega
      · obtain ⟨i, hi⟩ : ∃ i, bl'.length / 8 = i := ⟨_, rfl⟩
        obtain ⟨r, hr⟩ : ∃ r, bl'.length % 8 = r := ⟨_, rfl⟩
        replace hi : bl'.length = 8 * i + r := by omega
        have hr8 : r < 8 := by omega
        have hr1 : 1 ≤ r := by omega
        obtain ⟨y, hyi0, hy2, hys, hlen⟩ := bytes_old bl' hb2 x i r hi hr1 hr8
        obtain ⟨fr, hfr0⟩ : ∃ fr, freeOf bl' = fr := ⟨_, rfl⟩
        have hfr : fr + r = 8 := by unfold freeOf at hfr0; omega
        have hfi : ((fr : Int) == 0) = false := by simp; omega
        rw [hfr0] at c1
        obtain ⟨Y, hY⟩ : ∃ Y, bytesL bl' = Y := ⟨_, rfl⟩
        have HI := Aside0.mk (show i ≤ 137438953500 by have := HL.out; omega)
        rw [hY] at hys hlen hyi0 c0
        have HYL := Aside0.mk hlen
        have HW8 := Aside0.mk (show Wr w0 b Y ((fr : Nat) : Int) (.slice A9 Y.length c9) wr by have := HW.out; rw [hY, hfr0] at this; exact this)
        have hyi : rdOf 0 Y (i : Int) = (y : Int) := by unfold rdOf; rw [Int.toNat_natCast]; simp [hyi0]
        clear he hm hl' hwr hb2 h8 hlen hj hx hm2 HW hr hr1 hfr0 hyi0 hY
        go_wp2
        generalize wr = W at HW8 ⊢
        obtain ⟨g, cap, hform, _, _, _⟩ := Kd.R_form HW8.out.2.1 (by have := HYL.out; omega)
        injection hform with ea_ en_ ec_
        subst ea_ ec_
        obtain ⟨hcg, hzg⟩ := Kd.R_celln 0 HW8.out.2.1 (i : Int) (by omega) (by have := HYL.out; omega)
        rw [Int.toNat_natCast] at hcg hzg
        obtain ⟨z, hz⟩ : ∃ z, x * 2 ^ r = z := ⟨_, rfl⟩
        obtain ⟨hor, hsum⟩ := or_u8 r hr8 y hy2 x hx2
        have hsh := shl_u8 r hr8 x hx2
        rw [hz] at hor hsum hsh
        obtain ⟨sm, hsm⟩ : ∃ sm, y + z = sm := ⟨_, rfl⟩
        rw [hsm] at hor hsum
        have HZ := Aside0.mk (show y + x * 2 ^ r = sm by rw [hz, hsm])
        have HYS := Aside0.mk hys
        have hrd : rdOf 0 Y (i : Int) = (y : Int) := hyi
        rw [hrd] at hcg
        have p0 : W.cell? ⟨b, 0, none⟩ = some (.slice (some ⟨g, 0, none⟩) Y.length c9) := by rw [Lib.cell_of_heap HW8.out.1]; rfl
        have p1 : W.cell? ⟨b, 1, none⟩ = some (.int .i64 (fr : Nat)) := by rw [Lib.cell_of_heap HW8.out.1]; rfl
        have q1 : W.frozen? ⟨b, 1, none⟩ = false := Lib.frozen_of_heap HW8.out.1 1
        have n1 : (Y.length : Int) - 1 = (i : Int) := by have := HYL.out; omega
        have n2 : (i : Int) < (Y.length : Int) := by have := HYL.out; omega
        have n3 : 8 - (fr : Int) = (r : Int) := by omega
        have n4 : (r : Int) ≤ 64 := by omega
        have n5 : min r 64 = r := by omega
        have n6 : (i : Int) ≤ 137438953500 := by have := HI.out; omega
        have n7 : (0 : Int) ≤ (i : Int) := by omega
        have n8 : (fr : Int) ≤ 8 := by omega
        have n9 : IntKind.i64.wrap (i : Int) = (i : Int) := by rw [IntKind.wrap_i64]; omega
        have n10 : IntKind.i64.wrap (r : Int) = (r : Int) := by rw [IntKind.wrap_i64]; omega
        have HR8 := Aside0.mk (show fr + r = 8 ∧ r < 8 ∧ bl'.length = 8 * i + r ∧ x < 2 from ⟨by omega, hr8, hi, hx2⟩)
        have HGB := Aside0.mk (show g ≠ b from HW8.out.2.1.1 g rfl)
        clear hz hsm hsum hys hyi hrd hi hr8 hy2 hx2 hfr
        go_still_tail 22, (by kernel_rfl)
        change wpList _ _ _ _ _ W.drew
        have hcg2 : W.drew.cell? ⟨g, i, none⟩ = some (.int .u8 (y : Int)) := hcg
        have hzg2 : W.drew.frozen? ⟨g, i, none⟩ = false := hzg
        have p1' : (W.drew.setCell ⟨g, i, none⟩ (.int .u8 (sm : Int))).cell? ⟨b, 1, none⟩ = some (.int .i64 (fr : Int)) := by rw [World.cell?_setCell_other _ _ _ _ (by simp [HGB.out])]; exact p1
        have q1' : (W.drew.setCell ⟨g, i, none⟩ (.int .u8 (sm : Int))).frozen? ⟨b, 1, none⟩ = false := by simpa using q1
        clear hcg hzg p0 p1 q1
        have HD := Aside0.mk (HW8.out.done (i := i) (s := (sm : Int)) (f2 := (fr : Int) - 1) (bl := bl' ++ [x]) (by rw [HYS.out, HZ.out]) (by unfold freeOf; rw [List.length_append, List.length_singleton]; have := HR8.out; omega) (all_lt2 _ _ HB2.out HR8.out.2.2.2))
        generalize W.drew = W2 at hcg2 hzg2 p1' q1' HD ⊢
        go_wp2
        go_roundw
        case rel => exact ⟨j + 1, m2, bl' ++ [x], rfl, by push_cast; rfl, by have := HM.out; omega, HM.out.1, by rw [List.length_append, List.length_singleton]; have := HM.out; omega, HE.out, HD.out⟩
        case measure => simp [intOf]; have := HM.out; omega
    · obtain rfl : j = size := by omega
      rw [Nat.sub_self] at he
      have HE := Aside0.mk he
      have HW := Aside0.mk hw
      clear he hw hl' hj
      go_wp2
      go_end0
      refine ⟨rfl, ?_⟩
      have e := HE.out
      rw [numB, List.append_nil] at e
      rw [← e]
      exact HW.out

/-! ### flate_bits_code: function 36 -/
/-- A code's bits, the first first. -/
def codeB (n : Nat) : Nat → List Nat
  | 0 => []
  | k + 1 => n / 2 ^ k % 2 :: codeB n k
theorem codeB_len (n : Nat) : ∀ k, (codeB n k).length = k
  | 0 => rfl
  | k + 1 => by rw [codeB, List.length_cons, codeB_len n k]
def flate_bits_code.Inv (w0 : World) (b : Nat) (bl : List Nat) (n size : Nat) (wr : World) (v6 : Value) : Prop :=
  ∃ (k : Nat) (bl' : List Nat), v6 = .int .i64 ((k : Int) - 1) ∧ k ≤ size ∧ bl'.length + k = bl.length + size ∧ bl' ++ codeB n k = bl ++ codeB n size ∧ Wrt w0 b bl' wr
set_option maxRecDepth 100000 in
set_option maxHeartbeats 4000000 in
theorem flate_bits_code.any (w0 : World) (b : Nat) (bl : List Nat) (n size : Nat) (ni si : Int) (hni : ni = (n : Int)) (hsi : si = (size : Int)) (w : World) (h : Wrt w0 b bl w) (hn : n ≤ 1099511627776) (hs : size ≤ 60) (hl : bl.length ≤ 1099511627700) :
    Calls Try.prog 36 #[.pointer (some ⟨b, 0, none⟩), .int .i64 ni, .int .i64 si] w fun e w' => e = .returned (.tuple #[]) ∧ Wrt w0 b (bl ++ codeB n size) w' := by
  subst hni hsi
  have H := Aside0.mk h
  have HL := Aside0.mk (show bl.length ≤ 1099511627700 ∧ n ≤ 1099511627776 ∧ size ≤ 60 from ⟨hl, hn, hs⟩)
  clear h hl
  go_enter Try.func36, Try.ntmps36
  go_wp2
  go_loopw [6] (fun v6 wr => Aside0 (flate_bits_code.Inv w0 b bl n size wr v6)) (fun v6 _ => (intOf v6 + 1).toNat)
  case atStart => exact ⟨size, bl, rfl, Nat.le_refl _, rfl, rfl, H.out⟩
  case round =>
    obtain ⟨k, bl', rfl, hk, hl', he, hw⟩ := hrel.out
    have HW := Aside0.mk hw
    clear hrel hw
    cases k with
    | zero =>
      have HE := Aside0.mk he
      clear he hk hl'
      go_wp2
      go_end0
      refine ⟨rfl, ?_⟩
      have e := HE.out
      rw [codeB, List.append_nil] at e
      rw [← e]
      exact HW.out
    | succ i =>
      have hi : ((i + 1 : Nat) : Int) - 1 = (i : Int) := by omega
      rw [hi]
      have n1 : (0 : Int) ≤ (i : Int) := by omega
      have n2 : (i : Int) ≤ 64 := by omega
      have n3 : min i 64 = i := by omega
      have HE := Aside0.mk (show (bl' ++ numB (n / 2 ^ i) 1) ++ codeB n i = bl ++ codeB n size by rw [← he, numB, numB, codeB, List.append_assoc]; rfl)
      have HK := Aside0.mk (show i < size ∧ bl'.length + (i + 1) = bl.length + size from ⟨hk, hl'⟩)
      clear he hk hl' hi
      go_wp2_with (go_at_call 17; refine (flate_bits_put.any w0 b bl' (n / 2 ^ i) 1 _ _ ?hni rfl _ HW.out ?hn (by decide) ?hl).mono ?_; (case hni => rw [pow2_cast]; push_cast; rfl); (case hn => exact Nat.le_trans (Nat.div_le_self _ _) HL.out.2.1); (case hl => have := HL.out; have := HK.out; omega); rintro e w2 ⟨rfl, hw2⟩; have HW2 := Aside0.mk hw2; clear hw2)
      go_roundw
      case rel => exact ⟨i, bl' ++ numB (n / 2 ^ i) 1, rfl, by have := HK.out; omega, by rw [List.length_append, numB_len]; have := HK.out; omega, HE.out, HW2.out⟩
      case measure => first | (simp [intOf]; done) | (simp [intOf]; omega)

/-! ### flate_bits_sign: function 19 -/
/-- A sign by the fixed code. -/
def signB (s : Nat) : List Nat := if s < 144 then codeB (48 + s) 8 else if s < 256 then codeB (256 + s) 9 else if s < 280 then codeB (s - 256) 7 else codeB (s - 88) 8
theorem signB_len (s : Nat) : (signB s).length ≤ 9 := by
  unfold signB
  repeat' split
  all_goals (rw [codeB_len]; try decide)
set_option maxRecDepth 100000 in
set_option maxHeartbeats 4000000 in
theorem flate_bits_sign.any (w0 : World) (b : Nat) (bl : List Nat) (s : Nat) (si : Int) (hsi : si = (s : Int)) (w : World) (h : Wrt w0 b bl w) (hs : s ≤ 287) (hl : bl.length ≤ 1099511627000) :
    Calls Try.prog 19 #[.pointer (some ⟨b, 0, none⟩), .int .i64 si] w fun e w' => e = .returned (.tuple #[]) ∧ Wrt w0 b (bl ++ signB s) w' := by
  subst hsi
  have H := Aside0.mk h
  have HL := Aside0.mk (show bl.length ≤ 1099511627000 ∧ s ≤ 287 from ⟨hl, hs⟩)
  clear h hl
  by_cases h1 : (s : Int) < 144
  · have e : signB s = codeB (48 + s) 8 := if_pos (by omega)
    go_enter Try.func19, Try.ntmps19
    go_wp2_with (go_at_call 36; refine (flate_bits_code.any w0 b bl (48 + s) 8 _ _ ?hni rfl _ H.out ?hn (by decide) ?hl).mono ?_; (case hni => push_cast; first | rfl | omega); (case hn => omega); (case hl => have := HL.out; omega); rintro e w2 ⟨rfl, hw2⟩; have HW2 := Aside0.mk hw2; clear hw2)
    go_end0
    rw [e]
    exact ⟨rfl, HW2.out⟩
  · by_cases h2 : (s : Int) < 256
    · have e : signB s = codeB (256 + s) 9 := by unfold signB; rw [if_neg (by omega), if_pos (by omega)]
      go_enter Try.func19, Try.ntmps19
      go_wp2_with (go_at_call 36; refine (flate_bits_code.any w0 b bl (256 + s) 9 _ _ ?hni rfl _ H.out ?hn (by decide) ?hl).mono ?_; (case hni => push_cast; first | rfl | omega); (case hn => omega); (case hl => have := HL.out; omega); rintro e w2 ⟨rfl, hw2⟩; have HW2 := Aside0.mk hw2; clear hw2)
      go_end0
      rw [e]
      exact ⟨rfl, HW2.out⟩
    · by_cases h3 : (s : Int) < 280
      · have e : signB s = codeB (s - 256) 7 := by unfold signB; rw [if_neg (by omega), if_neg (by omega), if_pos (by omega)]
        go_enter Try.func19, Try.ntmps19
        go_wp2_with (go_at_call 36; refine (flate_bits_code.any w0 b bl (s - 256) 7 _ _ ?hni rfl _ H.out ?hn (by decide) ?hl).mono ?_; (case hni => omega); (case hn => omega); (case hl => have := HL.out; omega); rintro e w2 ⟨rfl, hw2⟩; have HW2 := Aside0.mk hw2; clear hw2)
        go_end0
        rw [e]
        exact ⟨rfl, HW2.out⟩
      · have e : signB s = codeB (s - 88) 8 := by unfold signB; rw [if_neg (by omega), if_neg (by omega), if_neg (by omega)]
        go_enter Try.func19, Try.ntmps19
        go_wp2_with (go_at_call 36; refine (flate_bits_code.any w0 b bl (s - 88) 8 _ _ ?hni rfl _ H.out ?hn (by decide) ?hl).mono ?_; (case hni => omega); (case hn => omega); (case hl => have := HL.out; omega); rintro e w2 ⟨rfl, hw2⟩; have HW2 := Aside0.mk hw2; clear hw2)
        go_end0
        rw [e]
        exact ⟨rfl, HW2.out⟩

end Go.Proofs.Ytbokeoncpilgpaa.Hp
