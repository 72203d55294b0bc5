/- Go functions of this seat as Lean functions, and their contracts: what the Go code computes, for every input. (By hp.py, a program of this repo, over the kit's print.py.) -/
import Derived.Test.YtbokeoncpilgpaaHp0
import Derived.Test.YtbokeoncpilgpaaHp1
import Derived.Test.YtbokeoncpilgpaaHp2
import Derived.Test.YtbokeoncpilgpaaHp7
import Derived.Test.YtbokeoncpilgpaaHp8
namespace Go.Proofs.Ytbokeoncpilgpaa.Hp
open Go.RowKit Go.Proofs.YtbokeoncpilgpaaW.PrintWords Go.Proofs.YtbokeoncpilgpaaW.PrintLast Go.Proofs.YtbokeoncpilgpaaW.PrintMore
attribute [local go_sem] max2_int min2_int max_two min_two max_three min_three max_four min_four   -- for this text's walks alone
set_option linter.unusedVariables false
set_option linter.unusedSimpArgs false

/-! ### flate_reader_all: function 29 -/
/-- A block of a kind. -/
def blockL (B : List Int) (m : Int) (kind t : Nat) (O : List Int) : Except Int (Nat × List Int) :=
  if kind = 0 then rawL B t O m
  else if kind = 1 then codedL B (cntP fixL 15 0) (allS fixL 15) (cntP fixD 15 0) (allS fixD 15) m (8 * B.length + 1) t O
  else if kind = 2 then match booksL B t with
    | .error e => .error e
    | .ok r => codedL B r.2.1.1 r.2.1.2 r.2.2.1 r.2.2.2 m (8 * B.length + 1) r.1 O
  else .error 10
def allStep (B : List Int) (m : Int) (K : Nat → List Int → Except Int (Nat × List Int)) (t : Nat) (O : List Int) : Except Int (Nat × List Int) :=
  if 8 * B.length < t + 3 then .error 11
  else match blockL B m (numAt B (t + 1) 2) (t + 3) O with
    | .error e => .error e
    | .ok r => if bitAt B t = 0 then K r.1 r.2 else .ok r
/-- All blocks. -/
def allL (B : List Int) (m : Int) : Nat → Nat → List Int → Except Int (Nat × List Int)
  | 0 => fun _ _ => .error 99
  | f + 1 => allStep B m (allL B m f)
theorem rawL_le {B O O' : List Int} {t t' : Nat} {m : Int} (h : rawL B t O m = .ok (t', O')) : t ≤ t' := by
  unfold rawL at h
  split at h
  · cases h
  · split at h
    · cases h
    · split at h
      · cases h
      · split at h
        · cases h
        · simp only [Except.ok.injEq, Prod.mk.injEq] at h
          omega
theorem lensL_le (B : List Int) (C : List Nat) (S : List Int) (ab : Nat) (hS : ∀ x ∈ S, 0 ≤ x) : ∀ f t L t' L', lensL B C S ab f t L = .ok (t', L') → t ≤ t'
  | 0, _, _, _, _, h => by cases h
  | f + 1, t, L, t', L', h => by
    replace h : lensStep B C S ab (lensL B C S ab f) t L = .ok (t', L') := h
    unfold lensStep at h
    have ih := lensL_le B C S ab hS f
    split at h
    · split at h
      · cases h
      · rename_i s t2 hs
        have ht := (signL_ok hS hs).2.1
        split at h
        · split at h
          · cases h
          · split at h
            · cases h
            · have := ih _ _ _ _ h; omega
        · split at h
          · split at h
            · cases h
            · have := ih _ _ _ _ h; omega
          · split at h
            · split at h
              · cases h
              · have := ih _ _ _ _ h; omega
            · have := ih _ _ _ _ h; omega
    · simp only [Except.ok.injEq, Prod.mk.injEq] at h
      omega
theorem pairL_ok {a ab t : Nat} {L : List Int} {r : Nat × (List Nat × List Int) × (List Nat × List Int)} (h : pairL a ab t L = .ok r) (ha : a ≤ 300) (hab : ab ≤ 600) : r.1 = t ∧ BW r.2.1.1 r.2.1.2 ∧ BW r.2.2.1 r.2.2.2 := by
  unfold pairL at h
  split at h
  · cases h
  · rename_i hn
    split at h
    · cases h
    · rename_i b1 h1
      split at h
      · cases h
      · rename_i b2 h2
        obtain rfl := Except.ok.inj h
        exact ⟨rfl, bookL_ok h1 (by rw [List.length_take]; omega), bookL_ok h2 (by rw [List.length_drop]; omega)⟩
theorem booksL_ok {B : List Int} {t : Nat} {r : Nat × (List Nat × List Int) × (List Nat × List Int)} (h : booksL B t = .ok r) : t ≤ r.1 ∧ BW r.2.1.1 r.2.1.2 ∧ BW r.2.2.1 r.2.2.2 := by
  unfold booksL at h
  split at h
  · cases h
  · generalize 257 + numAt B t 5 = a at h
    generalize 1 + numAt B (t + 5) 5 = b at h
    generalize 4 + numAt B (t + 10) 4 = c at h
    unfold booksG at h
    split at h
    · cases h
    · rename_i hab
      split at h
      · cases h
      · split at h
        · cases h
        · rename_i k hk
          split at h
          · cases h
          · rename_i r2 hr2
            have h1 := pairL_ok h (by omega) (by omega)
            have h2 := lensL_le B k.1 k.2 (a + b) (bookL_ok hk (by rw [smallK_len]; decide)).2.2.2 _ _ _ r2.1 r2.2 hr2
            exact ⟨by rw [h1.1]; omega, h1.2⟩
theorem booksL_le {B : List Int} {t : Nat} {r : Nat × (List Nat × List Int) × (List Nat × List Int)} (h : booksL B t = .ok r) : t ≤ r.1 := (booksL_ok h).1
theorem booksL_bw {B : List Int} {t : Nat} {r : Nat × (List Nat × List Int) × (List Nat × List Int)} (h : booksL B t = .ok r) : BW r.2.1.1 r.2.1.2 ∧ BW r.2.2.1 r.2.2.2 := (booksL_ok h).2
theorem codedL_le (B : List Int) (c1 : List Nat) (s1 : List Int) (c2 : List Nat) (s2 : List Int) (m : Int) (h1 : ∀ x ∈ s1, 0 ≤ x) (h2 : ∀ x ∈ s2, 0 ≤ x) : ∀ f t O t' O', codedL B c1 s1 c2 s2 m f t O = .ok (t', O') → t ≤ t'
  | 0, _, _, _, _, h => by cases h
  | f + 1, t, O, t', O', h => by
    have ih := codedL_le B c1 s1 c2 s2 m h1 h2 f
    replace h : codedStep B c1 s1 c2 s2 m (codedL B c1 s1 c2 s2 m f) t O = .ok (t', O') := h
    unfold codedStep at h
    split at h
    · cases h
    · rename_i s t2 hs
      have ht := (signL_ok h1 hs).2.1
      split at h
      · simp only [Except.ok.injEq, Prod.mk.injEq] at h
        omega
      · split at h
        · cases h
        · split at h
          · split at h
            · cases h
            · rename_i t3 O3 hc
              have := copyL_ok h2 hc
              have := ih _ _ _ _ h
              omega
          · split at h
            · cases h
            · have := ih _ _ _ _ h; omega
theorem Rdo.lt {w0 : World} {q : Nat} {B O : List Int} {t : Nat} {m : Int} {ok : Nat → Prop} {w : World} (h : Rdo w0 q B t O m ok w) : q < w.heap.size := blk_lt h.choose_spec.1.1.choose_spec.choose_spec.1
theorem Rdo.base {w0 : World} {q : Nat} {B O : List Int} {t : Nat} {m : Int} {ok : Nat → Prop} {w : World} (h : Rdo w0 q B t O m ok w) : w0.heap.size ≤ w.heap.size := h.choose_spec.1.2.2.2.2.2.size
theorem Rdo.enter {w0 : World} {q : Nat} {B O : List Int} {t : Nat} {m : Int} {ok : Nat → Prop} {w w' : World} (h : Rdo w0 q B t O m ok w) (hb : Below w.heap.size w w') : Rdo w0 q B t O m (fun k => ok k ∧ ¬ (w.heap.size ≤ k ∧ k < w'.heap.size)) w' := by
  obtain ⟨v, hr, hR, ho, hB⟩ := h
  exact ⟨v, hr.below hb, Kd.R_mono (Kd.R_below (Kd.R_bound hR) hb) (fun k hk => ⟨⟨hk.1.1, by have := hk.2.2.1; omega⟩, hk.1.2⟩), ho, hB⟩
theorem Rdo.enterKB {w0 : World} {q : Nat} {B O : List Int} {t t' : Nat} {m : Int} {ok : Nat → Prop} {w w' : World} {v : Value} (hr : Rdr w0 q B t v m w) (hR : Kd.R (Kd.int .u8) 5 w w0.heap.size (fun k => ok k ∧ k ≠ q) v O) (ho : O.length ≤ 300 * t) (hB : B.length ≤ 16777216) (k : KB q w w') (r : Rdr w0 q B t' v m w') (ht : t ≤ t') : Rdo w0 q B t' O m (fun k => ok k ∧ ¬ (w.heap.size ≤ k ∧ k < w'.heap.size)) w' :=
  ⟨v, r, Kd.R_mono (Kd.R_step (Kd.R_bound hR) (fun j hj hl => k.1.2 j hl hj.1.2)) (fun k hk => ⟨⟨hk.1.1, by have := hk.2.2.1; omega⟩, hk.1.2⟩), by omega, hB⟩
theorem Rdo.leave {w0 : World} {q : Nat} {B O : List Int} {t : Nat} {m : Int} {ok ok' : Nat → Prop} {w : World} (h : Rdo w0 q B t O m ok w) (hk : ∀ k, ok k → ok' k) : Rdo w0 q B t O m ok' w := by
  obtain ⟨v, hr, hR, ho, hB⟩ := h
  exact ⟨v, hr, Kd.R_mono hR (fun k h => ⟨hk k h.1, h.2⟩), ho, hB⟩
theorem KO.of_below {w0 : World} {q : Nat} {ok : Nat → Prop} {w w' : World} (hb : Below w.heap.size w w') (hs : w0.heap.size ≤ w.heap.size) : KO w0 q ok w w' := ⟨Kept.of_below hb _, hb.mono hs⟩
theorem KO.mono {w0 : World} {q : Nat} {ok ok' : Nat → Prop} {w w' : World} (h : KO w0 q ok w w') (hk : ∀ k, ok k → ok' k) : KO w0 q ok' w w' := ⟨h.1.mono (fun k hh => hh.elim .inl (fun hh => .inr (hk k hh))), h.2⟩
def flate_reader_all.Inv (w0 : World) (q : Nat) (B O : List Int) (t : Nat) (m : Int) (ok : Nat → Prop) (f0 : Nat) (w wr : World) (v2 : Value) : Prop :=
  ∃ (l f tt : Nat) (X : List Int), v2 = .int .i64 l ∧ Rdo w0 q B tt X m ok wr ∧ KO w0 q ok w wr ∧ ((l = 0 ∧ 8 * B.length - tt < f ∧ allL B m f tt X = allL B m f0 t O) ∨ (l = 1 ∧ allL B m f0 t O = .ok (tt, X)))
theorem all_step (B : List Int) (m : Int) (f t : Nat) (O : List Int) (h : ¬ 8 * B.length < t + 3) : allL B m (f + 1) t O = match blockL B m (numAt B (t + 1) 2) (t + 3) O with
    | .error e => .error e
    | .ok r => if bitAt B t = 0 then allL B m f r.1 r.2 else .ok r := if_neg h
theorem all_short (B : List Int) (m : Int) (f t : Nat) (O : List Int) (h : 8 * B.length < t + 3) : allL B m (f + 1) t O = .error 11 := if_pos h
set_option maxRecDepth 100000 in
set_option maxHeartbeats 16000000 in
theorem flate_reader_all.any (w0 : World) (q : Nat) (B O : List Int) (t : Nat) (m : Int) (ok : Nat → Prop) (f : Nat) (w : World) (h : Rdo w0 q B t O m ok w) (hok : ∀ k, w.heap.size ≤ k → ok k) (hm : 0 ≤ m ∧ m ≤ 9223372036854775807) (hf : 8 * B.length - t < f) :
    Calls Try.prog 29 #[.pointer (some ⟨q, 0, none⟩)] w fun e w' =>
      KO w0 q ok w w' ∧ ((∃ t' O', allL B m f t O = .ok (t', O') ∧ e = .returned (.tuple #[]) ∧ Rdo w0 q B t' O' m ok w') ∨ (∃ x, allL B m f t O = .error x ∧ e = .panicked (faultV x))) := by
  have H0 := Aside0.mk h
  have HOK := Aside0.mk hok
  have HM := Aside0.mk hm
  have HF := Aside0.mk hf
  have HQ := Aside0.mk (show w0.heap.size ≤ q from h.choose_spec.1.2.2.2.2.1)
  clear h hok hm hf
  go_enter Try.func29, Try.ntmps29
  go_wp2
  go_loopw [2] (fun v2 wr => Aside0 (flate_reader_all.Inv w0 q B O t m ok f w wr v2)) (fun v2 wr => (8 * B.length - atOf wr q) * 2 + (1 - (intOf v2).toNat))
  case atStart => exact ⟨0, f, t, O, rfl, H0.out, KO.refl _ _ _ _, .inl ⟨rfl, HF.out, rfl⟩⟩
  case round =>
    obtain ⟨l, f1, tt, X, rfl, hrdo, hko, hcase⟩ := hrel.out
    clear hrel
    have HRDO := Aside0.mk hrdo
    have HKO := Aside0.mk hko
    clear hrdo hko
    rcases hcase with ⟨rfl, hf1, hgo⟩ | ⟨rfl, hend⟩
    · obtain ⟨f1, rfl⟩ : ∃ f2, f1 = f2 + 1 := ⟨f1 - 1, by omega⟩
      obtain ⟨v, hr, hR, ho, hBl⟩ := HRDO.out
      have HR := Aside0.mk hr
      have HRR := Aside0.mk hR
      have HOL := Aside0.mk (show X.length ≤ 300 * tt ∧ B.length ≤ 16777216 from ⟨ho, hBl⟩)
      have HAT := Aside0.mk hr.atOf
      obtain ⟨la, hla⟩ : ∃ la, bitAt B tt = la := ⟨_, rfl⟩
      obtain ⟨kd, hkd⟩ : ∃ kd, numAt B (tt + 1) 2 = kd := ⟨_, rfl⟩
      have hla2 : la < 2 := hla ▸ bitAt_lt B tt
      have hkd2 : kd < 4 := hkd ▸ numAt_lt B (tt + 1) 2
      have HLA := Aside0.mk hla
      have HKD := Aside0.mk hkd
      have HFF := Aside0.mk hf1
      have HGO := Aside0.mk hgo
      have H4 := Aside0.mk hkd2
      have H2 := Aside0.mk hla2
      clear hr hR ho hBl hla hkd hf1 hgo hla2
      by_cases k0 : (kd : Int) = 0
      · clear hkd2
        go_wp2_with (first
          | (go_at_call 41; have q_ := q7; clear q_; refine (flate_reader_raw.any w0 q B X (tt + 1 + 2) m ok w7 D7.out (fun k hk => HOK.out k (Nat.le_trans (Nat.le_trans HKO.out.1.1 q7.out.1.1) hk)) HM.out).mono ?_; rintro e w8 ⟨hB8, ⟨t8, O8, hc8, rfl, hd8⟩ | ⟨x8, hc8, rfl⟩⟩; have K8 := Aside0.mk (HKO.out.trans ((q7.out.ko HQ.out).trans hB8)); have C8 := Aside0.mk hc8; clear hB8 hc8)
          | (go_at_call 40; have q_ := q6; clear q_; refine (flate_reader_bits.any w0 q B (tt + 1) _ m 2 2 rfl _ R6.out (by decide)).mono ?_; rintro e w7 ⟨hB7, ⟨g7, rfl, hr7⟩ | ⟨g7, rfl⟩⟩; have q7 := Aside0.mk (q6.out.trans hB7); have D7 := Aside0.mk (Rdo.kb HRR.out HOL.out.1 HOL.out.2 (q6.out.trans hB7) hr7 (by omega)); have g77 := Aside0.mk g7; rw [HKD.out]; clear hB7 hr7)
          | (go_at_call 39; refine (flate_reader_bit.any w0 q B tt _ m _ HR.out).mono ?_; rintro e w6 ⟨hB6, ⟨g6, rfl, hr6⟩ | ⟨g6, rfl⟩⟩; have q6 := Aside0.mk hB6; have R6 := Aside0.mk hr6; rw [HLA.out]; clear hB6 hr6))
        · have hb : blockL B m kd (tt + 3) X = .ok (t8, O8) := by unfold blockL; rw [if_pos (by omega)]; exact C8.out
          have e := all_step B m f1 tt X (by have := g77.out; omega)
          rw [HKD.out, hb, HLA.out] at e
          replace e : allL B m (f1 + 1) tt X = if la = 0 then allL B m f1 t8 O8 else .ok (t8, O8) := e
          have hle := rawL_le C8.out
          obtain ⟨v8, hr8, _, _, _⟩ := id hd8
          go_roundw
          case rel =>
            rcases (show la = 0 ∨ la = 1 by have := H2.out; omega) with hl | hl
            · rw [if_pos hl] at e
              exact ⟨la, f1, t8, O8, rfl, hd8, K8.out, .inl ⟨hl, by have := HFF.out; omega, e.symm.trans HGO.out⟩⟩
            · rw [if_neg (by omega)] at e
              exact ⟨la, f1, t8, O8, rfl, hd8, K8.out, .inr ⟨hl, HGO.out.symm.trans e⟩⟩
          case measure =>
            rw [hr8.atOf, HAT.out]
            have := H2.out; have := hr8.2.2.2.1; have := g77.out
            simp [intOf]; omega
        · have hb : blockL B m kd (tt + 3) X = .error x8 := by unfold blockL; rw [if_pos (by omega)]; exact hc8
          have e := all_step B m f1 tt X (by have := g77.out; omega)
          rw [HKD.out, hb] at e
          exact ⟨rfl, HKO.out.trans ((q7.out.ko HQ.out).trans hB8), .inr ⟨_, HGO.out.symm.trans e, rfl⟩⟩
        · exact ⟨rfl, HKO.out.trans ((q6.out.trans hB7).ko HQ.out), .inr ⟨_, HGO.out.symm.trans (all_short B m f1 tt X (by omega)), rfl⟩⟩
        · exact ⟨rfl, HKO.out.trans (hB6.ko HQ.out), .inr ⟨_, HGO.out.symm.trans (all_short B m f1 tt X (by omega)), rfl⟩⟩
      · by_cases k1 : (kd : Int) = 1
        · clear hkd2
          go_wp2_with (first
            | (go_at_call 42; have q_ := B9; clear q_; refine (flate_reader_coded.any w0 q B X (tt + 1 + 2) m (fun k => ok k ∧ ¬ (w7.heap.size ≤ k ∧ k < w9.heap.size)) (fun k => w7.heap.size ≤ k ∧ k < w9.heap.size) k1 C1 S1 k2 C2 S2 (8 * B.length + 1) w9 (D7.out.enter B9.out) (fun k hk => ⟨HOK.out k (Nat.le_trans (Nat.le_trans (Nat.le_trans HKO.out.1.1 q7.out.1.1) B9.out.size) hk), by omega⟩) HM.out (by omega) K1.out K2.out ⟨by have := D7.out.lt; omega, fun k h h2 => h2.2 h⟩ (bookL_ok F1.out (by decide)) (bookL_ok F2.out (by decide))).mono ?_; rintro e w8 ⟨hB8, ⟨t8, O8, hc8, rfl, hd8⟩ | ⟨x8, hc8, rfl⟩⟩; have K8 := Aside0.mk (HKO.out.trans ((q7.out.ko HQ.out).trans ((KO.of_below B9.out D7.out.base).trans (hB8.mono (fun k h => h.1))))); have C8 := Aside0.mk hc8; clear hB8 hc8)
            | (go_at_call 43; have q_ := q7; clear q_; refine (flate_fixed.any w7).mono ?_; rintro e w9 ⟨hB9, k1, k2, C1, S1, C2, S2, rfl, hf1, hf2, hk1, hk2⟩; have B9 := Aside0.mk hB9; have F1 := Aside0.mk hf1; have F2 := Aside0.mk hf2; have K1 := Aside0.mk hk1.bound; have K2 := Aside0.mk hk2.bound; clear hB9 hf1 hf2 hk1 hk2)
            | (go_at_call 40; have q_ := q6; clear q_; refine (flate_reader_bits.any w0 q B (tt + 1) _ m 2 2 rfl _ R6.out (by decide)).mono ?_; rintro e w7 ⟨hB7, ⟨g7, rfl, hr7⟩ | ⟨g7, rfl⟩⟩; have q7 := Aside0.mk (q6.out.trans hB7); have D7 := Aside0.mk (Rdo.kb HRR.out HOL.out.1 HOL.out.2 (q6.out.trans hB7) hr7 (by omega)); have g77 := Aside0.mk g7; rw [HKD.out]; clear hB7 hr7)
            | (go_at_call 39; refine (flate_reader_bit.any w0 q B tt _ m _ HR.out).mono ?_; rintro e w6 ⟨hB6, ⟨g6, rfl, hr6⟩ | ⟨g6, rfl⟩⟩; have q6 := Aside0.mk hB6; have R6 := Aside0.mk hr6; rw [HLA.out]; clear hB6 hr6))
          · have e1 := Except.ok.inj (F1.out.symm.trans fix_ok)
            have e2 := Except.ok.inj (F2.out.symm.trans fixD_ok)
            simp only [Prod.mk.injEq] at e1 e2
            obtain ⟨rfl, rfl⟩ := e1
            obtain ⟨rfl, rfl⟩ := e2
            have hb : blockL B m kd (tt + 3) X = .ok (t8, O8) := by unfold blockL; rw [if_neg (by omega), if_pos (by omega)]; exact C8.out
            have e := all_step B m f1 tt X (by have := g77.out; omega)
            rw [HKD.out, hb, HLA.out] at e
            replace e : allL B m (f1 + 1) tt X = if la = 0 then allL B m f1 t8 O8 else .ok (t8, O8) := e
            have hle := codedL_le _ _ _ _ _ _ (bookL_ok F1.out (by decide)).2.2.2 (bookL_ok F2.out (by decide)).2.2.2 _ _ _ _ _ C8.out
            replace hd8 := hd8.leave (ok' := ok) (fun k h => h.1)
            obtain ⟨v8, hr8, _, _, _⟩ := id hd8
            go_roundw
            case rel =>
              rcases (show la = 0 ∨ la = 1 by have := H2.out; omega) with hl | hl
              · rw [if_pos hl] at e
                exact ⟨la, f1, t8, O8, rfl, hd8, K8.out, .inl ⟨hl, by have := HFF.out; omega, e.symm.trans HGO.out⟩⟩
              · rw [if_neg (by omega)] at e
                exact ⟨la, f1, t8, O8, rfl, hd8, K8.out, .inr ⟨hl, HGO.out.symm.trans e⟩⟩
            case measure =>
              rw [hr8.atOf, HAT.out]
              have := H2.out; have := hr8.2.2.2.1; have := g77.out
              simp [intOf]; omega
          · have e1 := Except.ok.inj (F1.out.symm.trans fix_ok)
            have e2 := Except.ok.inj (F2.out.symm.trans fixD_ok)
            simp only [Prod.mk.injEq] at e1 e2
            obtain ⟨rfl, rfl⟩ := e1
            obtain ⟨rfl, rfl⟩ := e2
            have hb : blockL B m kd (tt + 3) X = .error x8 := by unfold blockL; rw [if_neg (by omega), if_pos (by omega)]; exact hc8
            have e := all_step B m f1 tt X (by have := g77.out; omega)
            rw [HKD.out, hb] at e
            exact ⟨rfl, HKO.out.trans ((q7.out.ko HQ.out).trans ((KO.of_below B9.out D7.out.base).trans (hB8.mono (fun k h => h.1)))), .inr ⟨_, HGO.out.symm.trans e, rfl⟩⟩
          · exact ⟨rfl, HKO.out.trans ((q6.out.trans hB7).ko HQ.out), .inr ⟨_, HGO.out.symm.trans (all_short B m f1 tt X (by omega)), rfl⟩⟩
          · exact ⟨rfl, HKO.out.trans (hB6.ko HQ.out), .inr ⟨_, HGO.out.symm.trans (all_short B m f1 tt X (by omega)), rfl⟩⟩
        · by_cases k2 : (kd : Int) = 2
          · clear hkd2
            go_wp2_with (first
              | (go_at_call 42; have q_ := D9; clear q_; refine (flate_reader_coded.any w0 q B X t9 m (fun k => ok k ∧ ¬ (w7.heap.size ≤ k ∧ k < w9.heap.size)) (fun k => w7.heap.size ≤ k ∧ k < w9.heap.size) k1 bb1.1 bb1.2 k2 bb2.1 bb2.2 (8 * B.length + 1) w9 D9.out (fun k hk => ⟨HOK.out k (Nat.le_trans (Nat.le_trans (Nat.le_trans HKO.out.1.1 q7.out.1.1) B9.out.1.1) hk), by omega⟩) HM.out (by omega) K1.out K2.out ⟨by have := D7.out.lt; omega, fun k h h2 => h2.2 h⟩ (booksL_bw F1.out).1 (booksL_bw F1.out).2).mono ?_; rintro e w8 ⟨hB8, ⟨t8, O8, hc8, rfl, hd8⟩ | ⟨x8, hc8, rfl⟩⟩; have K8 := Aside0.mk (HKO.out.trans ((q7.out.ko HQ.out).trans ((B9.out.ko HQ.out).trans (hB8.mono (fun k h => h.1))))); have C8 := Aside0.mk hc8; clear hB8 hc8)
              | (go_at_call 44; have q_ := q7; clear q_; obtain ⟨v7, hr7, hR7, ho7, hb7⟩ := D7.out; refine (flate_reader_books.any w0 q B (tt + 1 + 2) v7 m w7 hr7).mono ?_; rintro e w9 ⟨hB9, ⟨k1, k2, t9, bb1, bb2, hf1, rfl, hk1, hk2, hr9⟩ | ⟨x9, hx9, rfl⟩⟩; have B9 := Aside0.mk hB9; have F1 := Aside0.mk hf1; have K1 := Aside0.mk hk1.bound; have K2 := Aside0.mk hk2.bound; have D9 := Aside0.mk (Rdo.enterKB hr7 hR7 ho7 hb7 hB9 hr9 (booksL_le hf1)); clear hB9 hf1 hk1 hk2 hr9 hr7 hR7 ho7 hb7)
              | (go_at_call 40; have q_ := q6; clear q_; refine (flate_reader_bits.any w0 q B (tt + 1) _ m 2 2 rfl _ R6.out (by decide)).mono ?_; rintro e w7 ⟨hB7, ⟨g7, rfl, hr7⟩ | ⟨g7, rfl⟩⟩; have q7 := Aside0.mk (q6.out.trans hB7); have D7 := Aside0.mk (Rdo.kb HRR.out HOL.out.1 HOL.out.2 (q6.out.trans hB7) hr7 (by omega)); have g77 := Aside0.mk g7; rw [HKD.out]; clear hB7 hr7)
              | (go_at_call 39; refine (flate_reader_bit.any w0 q B tt _ m _ HR.out).mono ?_; rintro e w6 ⟨hB6, ⟨g6, rfl, hr6⟩ | ⟨g6, rfl⟩⟩; have q6 := Aside0.mk hB6; have R6 := Aside0.mk hr6; rw [HLA.out]; clear hB6 hr6))
            · have hb : blockL B m kd (tt + 3) X = .ok (t8, O8) := by unfold blockL; rw [if_neg (by omega), if_neg (by omega), if_pos (by omega), show tt + 3 = tt + 1 + 2 from rfl, F1.out]; exact C8.out
              have e := all_step B m f1 tt X (by have := g77.out; omega)
              rw [HKD.out, hb, HLA.out] at e
              replace e : allL B m (f1 + 1) tt X = if la = 0 then allL B m f1 t8 O8 else .ok (t8, O8) := e
              have hle := codedL_le _ _ _ _ _ _ (booksL_bw F1.out).1.2.2.2 (booksL_bw F1.out).2.2.2.2 _ _ _ _ _ C8.out
              have hle2 : tt + 1 + 2 ≤ t9 := booksL_le F1.out
              replace hd8 := hd8.leave (ok' := ok) (fun k h => h.1)
              obtain ⟨v8, hr8, _, _, _⟩ := id hd8
              go_roundw
              case rel =>
                rcases (show la = 0 ∨ la = 1 by have := H2.out; omega) with hl | hl
                · rw [if_pos hl] at e
                  exact ⟨la, f1, t8, O8, rfl, hd8, K8.out, .inl ⟨hl, by have := HFF.out; omega, e.symm.trans HGO.out⟩⟩
                · rw [if_neg (by omega)] at e
                  exact ⟨la, f1, t8, O8, rfl, hd8, K8.out, .inr ⟨hl, HGO.out.symm.trans e⟩⟩
              case measure =>
                rw [hr8.atOf, HAT.out]
                have := H2.out; have := hr8.2.2.2.1; have := g77.out
                simp [intOf]; omega
            · have hb : blockL B m kd (tt + 3) X = .error x8 := by unfold blockL; rw [if_neg (by omega), if_neg (by omega), if_pos (by omega), show tt + 3 = tt + 1 + 2 from rfl, F1.out]; exact hc8
              have e := all_step B m f1 tt X (by have := g77.out; omega)
              rw [HKD.out, hb] at e
              exact ⟨rfl, HKO.out.trans ((q7.out.ko HQ.out).trans ((B9.out.ko HQ.out).trans (hB8.mono (fun k h => h.1)))), .inr ⟨_, HGO.out.symm.trans e, rfl⟩⟩
            · have hb : blockL B m kd (tt + 3) X = .error x9 := by unfold blockL; rw [if_neg (by omega), if_neg (by omega), if_pos (by omega), show tt + 3 = tt + 1 + 2 from rfl, hx9]
              have e := all_step B m f1 tt X (by have := g77.out; omega)
              rw [HKD.out, hb] at e
              exact ⟨rfl, HKO.out.trans ((q7.out.ko HQ.out).trans (hB9.ko HQ.out)), .inr ⟨_, HGO.out.symm.trans e, rfl⟩⟩
            · exact ⟨rfl, HKO.out.trans ((q6.out.trans hB7).ko HQ.out), .inr ⟨_, HGO.out.symm.trans (all_short B m f1 tt X (by omega)), rfl⟩⟩
            · exact ⟨rfl, HKO.out.trans (hB6.ko HQ.out), .inr ⟨_, HGO.out.symm.trans (all_short B m f1 tt X (by omega)), rfl⟩⟩
          · have k3 : (kd : Int) = 3 := by omega
            clear hkd2
            go_wp2_with (first
              | (go_at_call 40; have q_ := q6; clear q_; refine (flate_reader_bits.any w0 q B (tt + 1) _ m 2 2 rfl _ R6.out (by decide)).mono ?_; rintro e w7 ⟨hB7, ⟨g7, rfl, hr7⟩ | ⟨g7, rfl⟩⟩; have q7 := Aside0.mk (q6.out.trans hB7); have D7 := Aside0.mk (Rdo.kb HRR.out HOL.out.1 HOL.out.2 (q6.out.trans hB7) hr7 (by omega)); have g77 := Aside0.mk g7; rw [HKD.out]; clear hB7 hr7)
              | (go_at_call 39; refine (flate_reader_bit.any w0 q B tt _ m _ HR.out).mono ?_; rintro e w6 ⟨hB6, ⟨g6, rfl, hr6⟩ | ⟨g6, rfl⟩⟩; have q6 := Aside0.mk hB6; have R6 := Aside0.mk hr6; rw [HLA.out]; clear hB6 hr6))
            · have e := all_step B m f1 tt X (by omega)
              rw [HKD.out] at e
              have hb : blockL B m kd (tt + 3) X = .error 10 := by unfold blockL; rw [if_neg (by omega), if_neg (by omega), if_neg (by omega)]
              rw [hb] at e
              exact ⟨rfl, HKO.out.trans (q7.out.ko HQ.out), .inr ⟨_, HGO.out.symm.trans e, rfl⟩⟩
            · exact ⟨rfl, HKO.out.trans ((q6.out.trans hB7).ko HQ.out), .inr ⟨_, HGO.out.symm.trans (all_short B m f1 tt X (by omega)), rfl⟩⟩
            · exact ⟨rfl, HKO.out.trans (hB6.ko HQ.out), .inr ⟨_, HGO.out.symm.trans (all_short B m f1 tt X (by omega)), rfl⟩⟩
    · have HEND := Aside0.mk hend
      clear hend
      go_wp2
      go_end0
      exact ⟨HKO.out, .inl ⟨_, _, HEND.out, rfl, HRDO.out⟩⟩

/-! ### flate_Inflate: function 14 -/
theorem caught_panicking (p q s : Addr) (older : List PanicEntry) (w : World) (x : Int) (v1 v2 v3 : Value) (hp : w.cell? p = some v1) (hzp : w.frozen? p = false) (hq : w.cell? q = some v2) (hzq : w.frozen? q = false) (hs : w.cell? s = some v3) (hzs : w.frozen? s = false) (h1 : q ≠ p) (h2 : s ≠ p) (h3 : s ≠ q) :
    CallsD Try.prog 28 #[.pointer (some p), .pointer (some q), .pointer (some s)] (.panicking ({ v := .iface 59 (.int .i64 x), recovered := false } :: older)) w fun e u' w' =>
      e = .returned (.tuple #[]) ∧ u' = .panicking ({ v := .iface 59 (.int .i64 x), recovered := true } :: older) ∧ w' = (((w.setCell p (.slice none 0 0)).setCell q (.int .i64 0)).setCell s (.int .i64 x)).drew := by
  have hq2 : (w.setCell p (.slice none 0 0)).cell? q = some v2 := by rw [World.cell?_setCell_other _ _ _ _ h1.symm]; exact hq
  have hs2 : ((w.setCell p (.slice none 0 0)).setCell q (.int .i64 0)).cell? s = some v3 := by rw [World.cell?_setCell_other _ _ _ _ h3.symm, World.cell?_setCell_other _ _ _ _ h2.symm]; exact hs
  have hta : ∀ w : World, (Instr.typeAssert (.iface 59 (.int .i64 x)) 20 59 false).run Try.prog w = .ok (.int .i64 x) w := fun _ => by kernel_rfl
  refine callsD_of_wpS Try.func28 rfl fun c₀ cs hu => ?_
  apply wpS_seq
  apply wpS_region
  simp [wpOpsS, go_sem, recoverD, hu, Try.ntmps28, Exit.thenS]
  apply wpS_seq
  apply wpS_region
  simp [wpOpsS, go_sem, Exit.thenS]
  refine wpS_cond (t := true) (by simp [Act.eval, Array.replicate]) ?_
  simp only [if_true]
  refine wpS_of_wp ?_
  go_region
  all_goals simp [go_sem, hta, hp, hzp, hq2, hzq, hs2, hzs, bodyPostS, results, Try.results28]
theorem caught_idle (p q s : Addr) (w : World) :
    CallsD Try.prog 28 #[.pointer (some p), .pointer (some q), .pointer (some s)] .returning w fun e u' w' => e = .returned (.tuple #[]) ∧ u' = .returning ∧ w' = w := by
  refine callsD_of_wpS Try.func28 rfl fun c₀ cs hu => ?_
  apply wpS_seq
  apply wpS_region
  simp [wpOpsS, go_sem, recoverD, hu, Try.ntmps28, Exit.thenS]
  apply wpS_seq
  apply wpS_region
  simp [wpOpsS, go_sem, Exit.thenS]
  refine wpS_cond (t := false) (by simp [Act.eval, Array.replicate]) ?_
  simp only [Bool.false_eq_true, if_false]
  refine wpS_of_wp (wp_skip ?_)
  cases c₀
  simp_all [bodyPostS, results, Try.results28]
def infR (r : Except Int (Nat × List Int)) : List Int × Int × Int :=
  match r with
  | .ok r => (r.2, ((r.1 + 7) / 8 : Nat), 0)
  | .error x => ([], 0, x)
/-- What Inflate answers. -/
def inflL (l0 : List Int) (a1 : Int) : List Int × Int × Int := if a1 < 0 then ([], 0, 2) else infR (allL l0 a1 (8 * l0.length + 1) 0 [])
def flate_Inflate.f (l0 : List Int) (a1 : Int) : Option (List Int × Int × Int) := if l0.length ≤ 16777216 ∧ a1 ≤ 9223372036854775807 ∧ ∀ x ∈ l0, 0 ≤ x ∧ x < 256 then some (inflL l0 a1) else none
theorem boxes3 {w w4 : World} {o1 o2 o3 o4 : Obj} (hK : KO w (w.heap.size + 1 + 1 + 1) (fun k => w.heap.size + 3 < k) ((((w.alloc o1).alloc o2).alloc o3).alloc o4) w4) :
    w4.heap[w.heap.size]? = some o1 ∧ w4.heap[w.heap.size + 1]? = some o2 ∧ w4.heap[w.heap.size + 1 + 1]? = some o3 ∧ Below w.heap.size w w4 ∧ w.heap.size + 4 ≤ w4.heap.size := by
  have step : ∀ i, i < w.heap.size + 3 → w4.heap[i]? = ((((w.alloc o1).alloc o2).alloc o3).alloc o4).heap[i]? := fun i hi => hK.1.2 i (by simp; omega) (fun h => h.elim (fun h => by omega) (fun h => by omega))
  have hsz := hK.1.1
  simp only [World.alloc, Array.size_push] at hsz
  refine ⟨(step _ (by omega)).trans ?_, (step _ (by omega)).trans ?_, (step _ (by omega)).trans ?_, ?_, by omega⟩
  · rw [Lib.alloc_old _ _ _ (by simp only [World.alloc, Array.size_push]; omega), Lib.alloc_old _ _ _ (by simp only [World.alloc, Array.size_push]; omega), Lib.alloc_old _ _ _ (by simp only [World.alloc, Array.size_push]; omega)]; exact heap_alloc_new _ _
  · rw [Lib.alloc_old _ _ _ (by simp only [World.alloc, Array.size_push]; omega), Lib.alloc_old _ _ _ (by simp only [World.alloc, Array.size_push]; omega)]
    have := heap_alloc_new (w.alloc o1) o2
    simpa using this
  · rw [Lib.alloc_old _ _ _ (by simp)]
    have := heap_alloc_new ((w.alloc o1).alloc o2) o3
    simpa using this
  · exact (((((Below.refl _ _).alloc (Nat.le_refl _) _).alloc (by simp) _).alloc (by simp; omega) _).alloc (by simp; omega) _).trans hK.2
theorem infl_start (w : World) (A0 : Option Addr) (c0 : Nat) (l0 : List Int) (a1 : Int) (o1 o2 o3 : Obj) (hr0 : Kd.C (Kd.int .u8) w A0 l0.length l0) (hc0 : l0.length ≤ c0) (g1 : l0.length ≤ 16777216) (g3 : ∀ x ∈ l0, 0 ≤ x ∧ x < 256) :
    Rdo w (w.heap.size + 1 + 1 + 1) l0 0 [] a1 (fun k => w.heap.size + 3 < k) ((((w.alloc o1).alloc o2).alloc o3).alloc (.cells #[.slice A0 l0.length c0, .int .i64 0, .slice none 0 0, .int .i64 a1] 58)) := by
  refine ⟨.slice none 0 0, ⟨⟨A0, c0, ?_, hc0, hr0⟩, g3, by omega, Nat.zero_le _, by omega, (((((Below.refl _ _).alloc (Nat.le_refl _) _).alloc (by simp) _).alloc (by simp; omega) _).alloc (by simp; omega) _)⟩, Kd.R_nil _ _ _ _ _, by simp, g1⟩
  have := heap_alloc_new (((w.alloc o1).alloc o2).alloc o3) (.cells #[.slice A0 l0.length c0, .int .i64 0, .slice none 0 0, .int .i64 a1] 58)
  simpa using this
/-- Behind the stores into the boxes. -/
theorem box_end {w w4 : World} {v : Value} {O : List Int} (v1 v2 : Value) (hR : Kd.R (Kd.int .u8) 5 w4 w.heap.size (fun k => w.heap.size + 3 < k ∧ k ≠ w.heap.size + 1 + 1 + 1) v O) (hB : Below w.heap.size w w4) :
    Kd.R (Kd.int .u8) 5 (((w4.setCell ⟨w.heap.size, 0, none⟩ v).setCell ⟨w.heap.size + 1, 0, none⟩ v1).setCell ⟨w.heap.size + 1 + 1, 0, none⟩ v2).drew w.heap.size (fun _ => True) v O ∧ Below w.heap.size w (((w4.setCell ⟨w.heap.size, 0, none⟩ v).setCell ⟨w.heap.size + 1, 0, none⟩ v1).setCell ⟨w.heap.size + 1 + 1, 0, none⟩ v2).drew := by
  refine ⟨Kd.R_mono (Kd.R_step hR (fun k hk hlt => ?_)) (fun _ _ => trivial), below_drew1 ?_⟩
  · have h1 := hk.1
    rw [(Kept.drew (Kept.setCell (p := ⟨w.heap.size + 1 + 1, 0, none⟩) (Kept.setCell (p := ⟨w.heap.size + 1, 0, none⟩) (Kept.setCell (p := ⟨w.heap.size, 0, none⟩) (Kept.refl w4 (fun k => k < w.heap.size + 3)) (.inl (by simp)) v) (.inl (by simp)) v1) (.inl (by simp)) v2)).2 k hlt (by omega)]
  · exact ((hB.setCell (p := ⟨w.heap.size, 0, none⟩) (Nat.le_refl _) _).setCell (p := ⟨w.heap.size + 1, 0, none⟩) (by simp) _).setCell (p := ⟨w.heap.size + 1 + 1, 0, none⟩) (by simp; omega) _
theorem box_cells {w w4 : World} {u1 u2 u3 : Value} (v1 v2 v3 : Value) (c1 : w4.cell? ⟨w.heap.size, 0, none⟩ = some u1) (c2 : w4.cell? ⟨w.heap.size + 1, 0, none⟩ = some u2) (c3 : w4.cell? ⟨w.heap.size + 1 + 1, 0, none⟩ = some u3) :
    (((w4.setCell ⟨w.heap.size, 0, none⟩ v1).setCell ⟨w.heap.size + 1, 0, none⟩ v2).setCell ⟨w.heap.size + 1 + 1, 0, none⟩ v3).drew.cell? ⟨w.heap.size, 0, none⟩ = some v1 ∧
    (((w4.setCell ⟨w.heap.size, 0, none⟩ v1).setCell ⟨w.heap.size + 1, 0, none⟩ v2).setCell ⟨w.heap.size + 1 + 1, 0, none⟩ v3).drew.cell? ⟨w.heap.size + 1, 0, none⟩ = some v2 ∧
    (((w4.setCell ⟨w.heap.size, 0, none⟩ v1).setCell ⟨w.heap.size + 1, 0, none⟩ v2).setCell ⟨w.heap.size + 1 + 1, 0, none⟩ v3).drew.cell? ⟨w.heap.size + 1 + 1, 0, none⟩ = some v3 := by
  have a0 : (w4.setCell ⟨w.heap.size, 0, none⟩ v1).cell? ⟨w.heap.size, 0, none⟩ = some v1 := World.cell?_setCell_same _ _ _ c1
  have a1 : (w4.setCell ⟨w.heap.size, 0, none⟩ v1).cell? ⟨w.heap.size + 1, 0, none⟩ = some u2 := by rw [World.cell?_setCell_other _ _ _ _ (by simp)]; exact c2
  have a2 : (w4.setCell ⟨w.heap.size, 0, none⟩ v1).cell? ⟨w.heap.size + 1 + 1, 0, none⟩ = some u3 := by rw [World.cell?_setCell_other _ _ _ _ (by simp)]; exact c3
  generalize w4.setCell ⟨w.heap.size, 0, none⟩ v1 = W1 at a0 a1 a2 ⊢
  have b1 : (W1.setCell ⟨w.heap.size + 1, 0, none⟩ v2).cell? ⟨w.heap.size + 1, 0, none⟩ = some v2 := World.cell?_setCell_same _ _ _ a1
  have b0 : (W1.setCell ⟨w.heap.size + 1, 0, none⟩ v2).cell? ⟨w.heap.size, 0, none⟩ = some v1 := by rw [World.cell?_setCell_other _ _ _ _ (by simp)]; exact a0
  have b2 : (W1.setCell ⟨w.heap.size + 1, 0, none⟩ v2).cell? ⟨w.heap.size + 1 + 1, 0, none⟩ = some u3 := by rw [World.cell?_setCell_other _ _ _ _ (by simp)]; exact a2
  generalize W1.setCell ⟨w.heap.size + 1, 0, none⟩ v2 = W2 at b0 b1 b2 ⊢
  refine ⟨?_, ?_, ?_⟩
  · have : (W2.setCell ⟨w.heap.size + 1 + 1, 0, none⟩ v3).cell? ⟨w.heap.size, 0, none⟩ = some v1 := by rw [World.cell?_setCell_other _ _ _ _ (by simp)]; exact b0
    simpa using this
  · have : (W2.setCell ⟨w.heap.size + 1 + 1, 0, none⟩ v3).cell? ⟨w.heap.size + 1, 0, none⟩ = some v2 := by rw [World.cell?_setCell_other _ _ _ _ (by simp)]; exact b1
    simpa using this
  · have : (W2.setCell ⟨w.heap.size + 1 + 1, 0, none⟩ v3).cell? ⟨w.heap.size + 1 + 1, 0, none⟩ = some v3 := World.cell?_setCell_same _ _ _ b2
    simpa using this
set_option maxRecDepth 100000 in
set_option maxHeartbeats 4000000 in
theorem flate_Inflate.calls (A0 : Option Addr) (c0 : Nat) (l0 : List Int) (a1 : Int) (r1 : List Int) (r2 r3 : Int) (w : World) (hr0 : Kd.C (Kd.int .u8) w A0 l0.length l0) (hc0 : l0.length ≤ c0) (h : flate_Inflate.f l0 a1 = some (r1, r2, r3)) :
    Calls Try.prog 14 #[.slice A0 l0.length c0, .int .i64 a1] w fun e w' => ∃ v0_ : Value, e = .returned (.tuple #[v0_, .int .i64 r2, .int .i64 r3]) ∧ Kd.R (Kd.int .u8) 5 w' w.heap.size (fun _ => True) v0_ r1 ∧ Below w.heap.size w w' := by
  have hmf : ∀ (fn : Fn) (first cap : Array Value) (w : World), (Instr.makeFunc fn first cap).run Try.prog w = .ok (.func fn first cap) w := fun _ _ _ _ => rfl
  unfold flate_Inflate.f at h
  by_cases hg : l0.length ≤ 16777216 ∧ a1 ≤ 9223372036854775807 ∧ ∀ x ∈ l0, 0 ≤ x ∧ x < 256
  · rw [if_pos hg] at h
    obtain ⟨g1, g2, g3⟩ := hg
    replace h := Option.some.inj h
    have HR0 := Aside0.mk hr0
    have HC0 := Aside0.mk hc0
    have G1 := Aside0.mk g1
    have G2 := Aside0.mk g2
    have G3 := Aside0.mk g3
    clear hr0 hc0 g1 g2 g3
    unfold inflL at h
    by_cases hs : a1 < 0
    · rw [if_pos hs] at h
      simp only [Prod.mk.injEq] at h
      obtain ⟨rfl, rfl, rfl⟩ := h
      go_enter_defers Try.func14, Try.ntmps14
      go_wp2
      simp [bodyPostD, Leaves, settle, results, Try.results14, go_sem]
      exact ⟨Kd.R_nil _ _ _ _ _, ((((Below.refl _ _).alloc (Nat.le_refl _) _).alloc (by simp) _).alloc (by simp; omega) _)⟩
    · rw [if_neg hs] at h
      have hs0 : 0 ≤ a1 := by omega
      obtain ⟨r, hr⟩ : ∃ r, allL l0 a1 (8 * l0.length + 1) 0 [] = r := ⟨_, rfl⟩
      rw [hr] at h
      have HR := Aside0.mk hr
      have HM := Aside0.mk hs0
      have H := Aside0.mk h
      clear hr hs0 h
      go_enter_defers Try.func14, Try.ntmps14
      go_wp2_with (go_at_call 29; refine (flate_reader_all.any w (w.heap.size + 1 + 1 + 1) l0 [] 0 a1 (fun k => w.heap.size + 3 < k) (8 * l0.length + 1) _ (infl_start w A0 c0 l0 a1 _ _ _ HR0.out HC0.out G1.out G3.out) ?hok ⟨HM.out, G2.out⟩ (by omega)).mono ?_; (case hok => intro k hk; simp at hk; omega); rintro e w4 ⟨hK, h4⟩; obtain ⟨b1, b2, b3, b4, b5⟩ := boxes3 hK; have c1 : w4.cell? ⟨w.heap.size, 0, none⟩ = some (.slice none 0 0) := (by rw [Lib.cell_of_heap b1]; rfl); have c2 : w4.cell? ⟨w.heap.size + 1, 0, none⟩ = some (.int .i64 0) := (by rw [Lib.cell_of_heap b2]; rfl); have c3 : w4.cell? ⟨w.heap.size + 1 + 1, 0, none⟩ = some (.int .i64 0) := (by rw [Lib.cell_of_heap b3]; rfl); have f1 : w4.frozen? ⟨w.heap.size, 0, none⟩ = false := Lib.frozen_of_heap b1 0; have f2 : w4.frozen? ⟨w.heap.size + 1, 0, none⟩ = false := Lib.frozen_of_heap b2 0; have f3 : w4.frozen? ⟨w.heap.size + 1 + 1, 0, none⟩ = false := Lib.frozen_of_heap b3 0; have B4 := Aside0.mk b4; clear b1 b2 b3 b4 b5 hK; rcases h4 with ⟨t', O', hc4, rfl, hd4⟩ | ⟨x, hc4, rfl⟩)
      · have e := H.out
        rw [← HR.out, hc4] at e
        simp only [infR, Prod.mk.injEq] at e
        obtain ⟨rfl, rfl, rfl⟩ := e
        obtain ⟨v, ⟨⟨A, c, hb, _, _⟩, _, _, ht, _, hB⟩, hRv, _, _⟩ := hd4
        obtain ⟨A9, c9, rfl⟩ := Kd.R_slice hRv
        have c4 : w4.cell? ⟨w.heap.size + 1 + 1 + 1, 1, none⟩ = some (.int .i64 t') := by rw [Lib.cell_of_heap hb]; rfl
        have c5 : w4.cell? ⟨w.heap.size + 1 + 1 + 1, 2, none⟩ = some (.slice A9 O'.length c9) := by rw [Lib.cell_of_heap hb]; rfl
        have RV := Aside0.mk hRv
        obtain ⟨mm, hmm⟩ : ∃ mm : Nat, (t' + 7) / 8 = mm := ⟨_, rfl⟩
        have e1 : ((t' : Int) + 7) / 8 = (mm : Int) := by omega
        have ht2 : (t' : Int) ≤ 134217728 := by have := G1.out; omega
        clear hb hRv ht hc4 hB
        have HMM := Aside0.mk hmm
        clear hmm
        go_region
        all_goals
          go_wp2
          refine leaves_cons (f := 28) (args := #[.pointer (some ⟨w.heap.size, 0, none⟩), .pointer (some ⟨w.heap.size + 1, 0, none⟩), .pointer (some ⟨w.heap.size + 1 + 1, 0, none⟩)]) (by simp) (by simp [go_sem]) ?_
          refine (caught_idle ⟨w.heap.size, 0, none⟩ ⟨w.heap.size + 1, 0, none⟩ ⟨w.heap.size + 1 + 1, 0, none⟩ _).mono ?_
          rintro e u' w'' ⟨rfl, rfl, rfl⟩
          have hfin := box_end (.int .i64 (mm : Int)) (.int .i64 0) RV.out B4.out
          obtain ⟨d0, d1, d2⟩ := box_cells (.slice A9 O'.length c9) (.int .i64 (mm : Int)) (.int .i64 0) c1 c2 c3
          generalize (((w4.setCell ⟨w.heap.size, 0, none⟩ (.slice A9 O'.length c9)).setCell ⟨w.heap.size + 1, 0, none⟩ (.int .i64 (mm : Int))).setCell ⟨w.heap.size + 1 + 1, 0, none⟩ (.int .i64 0)).drew = W5 at d0 d1 d2 hfin ⊢
          have hm2 := HMM.out
          subst hm2
          simp only [Leaves, settle]
          refine ⟨.tuple #[.slice A9 O'.length c9, .int .i64 (((t' + 7) / 8 : Nat) : Int), .int .i64 0], ?_, _, rfl, hfin⟩
          simp [results, Try.results14, go_sem, d0, d1, d2]
      · have e := H.out
        rw [← HR.out, hc4] at e
        simp only [infR, Prod.mk.injEq] at e
        obtain ⟨rfl, rfl, rfl⟩ := e
        refine leaves_cons (f := 28) (args := #[.pointer (some ⟨w.heap.size, 0, none⟩), .pointer (some ⟨w.heap.size + 1, 0, none⟩), .pointer (some ⟨w.heap.size + 1 + 1, 0, none⟩)]) (by simp) (by simp [go_sem]) ?_
        refine (caught_panicking ⟨w.heap.size, 0, none⟩ ⟨w.heap.size + 1, 0, none⟩ ⟨w.heap.size + 1 + 1, 0, none⟩ [] _ x _ _ _ c1 f1 c2 f2 c3 f3 (by simp) (by simp) (by simp)).mono ?_
        rintro e u' w'' ⟨rfl, rfl, rfl⟩
        have hfin := box_end (w := w) (w4 := w4) (v := .slice none 0 0) (O := []) (.int .i64 0) (.int .i64 x) (Kd.R_nil _ _ _ _ _) B4.out
        obtain ⟨d0, d1, d2⟩ := box_cells (.slice none 0 0) (.int .i64 0) (.int .i64 x) c1 c2 c3
        generalize (((w4.setCell ⟨w.heap.size, 0, none⟩ (.slice none 0 0)).setCell ⟨w.heap.size + 1, 0, none⟩ (.int .i64 0)).setCell ⟨w.heap.size + 1 + 1, 0, none⟩ (.int .i64 x)).drew = W5 at d0 d1 d2 hfin ⊢
        simp [Leaves, settle, results, Try.results14, go_sem, d0, d1, d2]
        exact hfin
  · rw [if_neg hg] at h
    cases h

end Go.Proofs.Ytbokeoncpilgpaa.Hp
