/- Go functions of this seat as Lean functions, and their contracts: what the Go code computes, for every input. (By hp.py, a program of this repo, over the kit's print.py.) -/
import Derived.Test.YtbokeoncpilgpaaHp0
import Derived.Test.YtbokeoncpilgpaaHp1
import Derived.Test.YtbokeoncpilgpaaHp2
namespace Go.Proofs.Ytbokeoncpilgpaa.Hp
open Go.RowKit Go.Proofs.YtbokeoncpilgpaaW.PrintWords Go.Proofs.YtbokeoncpilgpaaW.PrintLast Go.Proofs.YtbokeoncpilgpaaW.PrintMore
attribute [local go_sem] max2_int min2_int max_two min_two max_three min_three max_four min_four   -- for this text's walks alone
set_option linter.unusedVariables false
set_option linter.unusedSimpArgs false

/-! ### flate_bits_copied: function 20 -/
/-- The greatest of the least lengths up to a place that is not above n. -/
def lenS (n : Nat) : Nat → Nat
  | 0 => 0
  | i + 1 => if lenBase.getD (i + 1) 0 ≤ n then i + 1 else lenS n i
def farS (n : Nat) : Nat → Nat
  | 0 => 0
  | i + 1 => if farBase.getD (i + 1) 0 ≤ n then i + 1 else farS n i
def lenI (n : Nat) : Nat := if n < 258 then lenS n 27 else 28
/-- A length and a distance. -/
def copyB (n far : Nat) : List Nat := signB (257 + lenI n) ++ numB (n - lenBase.getD (lenI n) 0) (lenMore.getD (lenI n) 0) ++ codeB (farS far 29) 5 ++ numB (far - farBase.getD (farS far 29) 0) (farMore.getD (farS far 29) 0)
theorem Wrt.drawn {w0 : World} {b : Nat} {bl : List Nat} {w w' : World} (h : Wrt w0 b bl w) (hd : Drawn0 w w') : Wrt w0 b bl w' := by
  obtain ⟨n, rfl⟩ := hd
  exact h.drewN n
theorem lenS_le (n : Nat) : ∀ i, lenS n i ≤ i
  | 0 => Nat.le_refl _
  | i + 1 => by
    rw [lenS]
    split
    · exact Nat.le_refl _
    · exact Nat.le_succ_of_le (lenS_le n i)
theorem lenS_base (n : Nat) (h : 3 ≤ n) : ∀ i, lenBase.getD (lenS n i) 0 ≤ n
  | 0 => h
  | i + 1 => by
    rw [lenS]
    split
    · assumption
    · exact lenS_base n h i
theorem lenI_le (n : Nat) : lenI n ≤ 28 := by
  unfold lenI
  split
  · exact Nat.le_trans (lenS_le n 27) (by decide)
  · exact Nat.le_refl _
theorem lenI_base (n : Nat) (h : 3 ≤ n ∧ n ≤ 258) : lenBase.getD (lenI n) 0 ≤ n := by
  unfold lenI
  split
  · exact lenS_base n h.1 27
  · rw [show lenBase.getD 28 0 = 258 from rfl]; omega
theorem farS_le (n : Nat) : ∀ i, farS n i ≤ i
  | 0 => Nat.le_refl _
  | i + 1 => by
    rw [farS]
    split
    · exact Nat.le_refl _
    · exact Nat.le_succ_of_le (farS_le n i)
theorem farS_base (n : Nat) (h : 1 ≤ n) : ∀ i, farBase.getD (farS n i) 0 ≤ n
  | 0 => h
  | i + 1 => by
    rw [farS]
    split
    · assumption
    · exact farS_base n h i
def flate_bits_copied.Inv (w0 : World) (b : Nat) (bl : List Nat) (n : Nat) (wr : World) (v6 : Value) : Prop :=
  ∃ i s : Nat, v6 = .int .i64 s ∧ s = 257 + i ∧ (i = 28 ∨ (n < 258 ∧ i ≤ 27 ∧ lenS n 27 = lenS n i)) ∧ Wrt w0 b bl wr
def flate_bits_copied.Inv2 (w0 : World) (b : Nat) (bl : List Nat) (far : Nat) (wr : World) (v11 : Value) : Prop :=
  ∃ d : Nat, v11 = .int .i64 d ∧ d ≤ 29 ∧ farS far 29 = farS far d ∧ Wrt w0 b bl wr
set_option maxRecDepth 100000 in
set_option maxHeartbeats 16000000 in
theorem flate_bits_copied.any (w0 : World) (b : Nat) (bl : List Nat) (n far : Nat) (ni fi : Int) (hni : ni = (n : Int)) (hfi : fi = (far : Int)) (w : World) (h : Wrt w0 b bl w) (hn : 3 ≤ n ∧ n ≤ 258) (hf : 1 ≤ far ∧ far ≤ 32768) (hl : bl.length ≤ 1099511626000) :
    Calls Try.prog 20 #[.pointer (some ⟨b, 0, none⟩), .int .i64 ni, .int .i64 fi] w fun e w' => e = .returned (.tuple #[]) ∧ Wrt w0 b (bl ++ copyB n far) w' := by
  subst hni hfi
  have H := Aside0.mk h
  have HL := Aside0.mk hl
  have HN := Aside0.mk hn
  have HF := Aside0.mk hf
  have hn1 : (n : Int) ≤ 258 := by omega
  have hn2 : (3 : Int) ≤ n := by omega
  have hf1 : (1 : Int) ≤ far := by omega
  have hf2 : (far : Int) ≤ 32768 := by omega
  clear h hl hn hf
  go_enter Try.func20, Try.ntmps20
  go_wp2
  go_loopw [6, 7, 8] (fun v6 _ _ wr => Aside0 (flate_bits_copied.Inv w0 b bl n wr v6)) (fun v6 _ _ _ => (intOf v6).toNat)
  case atStart => exact ⟨28, 285, rfl, rfl, .inl rfl, H.out⟩
  case round =>
    obtain ⟨i, s, rfl, hs, hi, hw⟩ := hrel.out
    have HW := Aside0.mk hw
    have HI := Aside0.mk (show s = 257 + i ∧ (i = 28 ∨ (n < 258 ∧ i ≤ 27 ∧ lenS n 27 = lenS n i)) from ⟨hs, hi⟩)
    have hi28 : i < 29 := by omega
    have hs0 : (s : Int) ≤ 285 := by omega
    obtain ⟨hlen, hle, hmo⟩ := len_tab i hi28
    obtain ⟨l, hl0⟩ : ∃ l, lenBase.getD i 0 = l := ⟨_, rfl⟩
    obtain ⟨x, hx0⟩ : ∃ x, lenMore.getD i 0 = x := ⟨_, rfl⟩
    rw [hl0] at hlen hle
    rw [hx0] at hlen hmo
    rw [← hs] at hlen
    have HLEN := Aside0.mk hlen
    have HLX := Aside0.mk (show lenBase.getD i 0 = l ∧ lenMore.getD i 0 = x ∧ l ≤ 258 ∧ x ≤ 5 from ⟨hl0, hx0, hle, hmo⟩)
    clear hrel hw hlen hl0 hx0
    by_cases h1 : (257 : Int) < s
    · by_cases h2 : (n : Int) < 258
      · by_cases h3 : (s : Int) < 285
        · by_cases h4 : (l : Int) ≤ n
          · have hI := Aside0.mk (show lenI n = i by unfold lenI; rw [if_pos (by omega)]; rcases HI.out.2 with h | ⟨_, _, h⟩; (· omega); (· rw [h]; obtain ⟨k, rfl⟩ : ∃ k, i = k + 1 := ⟨i - 1, by omega⟩; rw [lenS, if_pos (by have := HLX.out; omega)]))
            clear hi hi28 hs
            have HLE := Aside0.mk (show l ≤ n ∧ i ≤ 28 ∧ n ≤ 258 from ⟨by rw [← HLX.out.1, ← hI.out]; exact lenI_base n HN.out, by rw [← hI.out]; exact lenI_le n, HN.out.2⟩)
            go_wp2_with (first
              | (go_at_call 17; have q_ := HW6; clear q_; refine (flate_bits_put.any w0 b (bl ++ signB s) (n - l) x _ _ ?hni rfl _ HW6.out ?hn ?hs ?hl).mono ?_; (case hni => have := HLX.out; have := HLE.out; omega); (case hn => omega); (case hs => have := HLX.out; omega); (case hl => have := HL.out; have := signB_len s; rw [List.length_append]; omega); rintro e w7 ⟨rfl, hw7⟩; have HW7 := Aside0.mk hw7; clear hw7)
              | (go_at_call 19; have q_ := HW5; clear q_; refine (flate_bits_sign.any w0 b bl s _ rfl _ HW5.out ?hs ?hl).mono ?_; (case hs => have := HLX.out; have := HI.out; have := HLE.out; omega); (case hl => have := HL.out; omega); rintro e w6 ⟨rfl, hw6⟩; have HW6 := Aside0.mk hw6; clear hw6)
              | (go_at_call 37; have q_ := HW1; clear q_; refine (flate_lengthOf.calls _ _ _ _ HLEN.out).mono ?_; rintro e w5 ⟨rfl, hd5⟩; have HW5 := Aside0.mk (HW1.out.drawn hd5); clear hd5)
              | (go_at_call 37; refine (flate_lengthOf.calls _ _ _ _ HLEN.out).mono ?_; rintro e w1 ⟨rfl, hd1⟩; have HW1 := Aside0.mk (HW.out.drawn hd1); clear hd1))
            have HBL := Aside0.mk (show (bl ++ signB s ++ numB (n - l) x).length ≤ 1099511626100 by rw [List.length_append, List.length_append, numB_len]; have := HL.out; have := signB_len s; have := HLX.out; omega)
            obtain ⟨bl2, hbl2⟩ : ∃ bl2, bl ++ signB s ++ numB (n - l) x = bl2 := ⟨_, rfl⟩
            rw [hbl2] at HW7 HBL
            have HB2 := Aside0.mk (show bl ++ copyB n far = bl2 ++ codeB (farS far 29) 5 ++ numB (far - farBase.getD (farS far 29) 0) (farMore.getD (farS far 29) 0) by rw [← hbl2, copyB, hI.out, HLX.out.1, HLX.out.2.1, ← HI.out.1, List.append_assoc, List.append_assoc, List.append_assoc, List.append_assoc, List.append_assoc])
            clear hbl2
            go_loopw [11, 12, 13] (fun v11 _ _ wr => Aside0 (flate_bits_copied.Inv2 w0 b bl2 far wr v11)) (fun v11 _ _ _ => (intOf v11).toNat)
            case atStart => exact ⟨29, rfl, Nat.le_refl _, rfl, HW7.out⟩
            case round =>
              obtain ⟨d, rfl, hd, hfs, hwd⟩ := hrel.out
              obtain ⟨hfar, hfl, hfu, hfm⟩ := far_tab d (by omega)
              obtain ⟨fl, hfl0⟩ : ∃ l, farBase.getD d 0 = l := ⟨_, rfl⟩
              obtain ⟨fx, hfx0⟩ : ∃ x, farMore.getD d 0 = x := ⟨_, rfl⟩
              rw [hfl0] at hfar hfl hfu
              rw [hfx0] at hfar hfm
              have HFAR := Aside0.mk hfar
              have HWD := Aside0.mk hwd
              have HFX := Aside0.mk (show farBase.getD d 0 = fl ∧ farMore.getD d 0 = fx ∧ 1 ≤ fl ∧ fl ≤ 24577 ∧ fx ≤ 13 from ⟨hfl0, hfx0, hfl, hfu, hfm⟩)
              have HD := Aside0.mk (show d ≤ 29 ∧ farS far 29 = farS far d from ⟨hd, hfs⟩)
              have hd1 : (d : Int) ≤ 29 := by omega
              clear hrel hwd hfar hfl0 hfx0 hfl hfu hfm hd hfs
              by_cases hc : (fl : Int) ≤ far
              · have HC := Aside0.mk (show farS far 29 = d ∧ fl ≤ far by refine ⟨HD.out.2.trans ?_, by omega⟩; cases d with | zero => rfl | succ d => rw [farS, if_pos (by have := HFX.out; omega)])
                go_wp2_with (first
                  | (go_at_call 17; have q_ := HW9; clear q_; refine (flate_bits_put.any w0 b (bl2 ++ codeB d 5) (far - fl) fx _ _ ?hni rfl _ HW9.out ?hn ?hs ?hl).mono ?_; (case hni => have := HC.out; omega); (case hn => omega); (case hs => have := HFX.out; omega); (case hl => have := HBL.out; rw [List.length_append, codeB_len]; omega); rintro e wq ⟨rfl, hwq⟩; have HWQ := Aside0.mk hwq; clear hwq)
                  | (go_at_call 36; have q_ := HW8; clear q_; refine (flate_bits_code.any w0 b bl2 d 5 _ _ rfl rfl _ HW8.out ?hn (by decide) ?hl).mono ?_; (case hn => have := HD.out; omega); (case hl => have := HBL.out; omega); rintro e w9 ⟨rfl, hw9⟩; have HW9 := Aside0.mk hw9; clear hw9)
                  | (go_at_call 38; refine (flate_farOf.calls _ _ _ _ HFAR.out).mono ?_; rintro e w8 ⟨rfl, hd8⟩; have HW8 := Aside0.mk (HWD.out.drawn hd8); clear hd8))
                refine bodyPost_ret (results_none rfl _ _ _) rfl ?_
                refine ⟨rfl, ?_⟩
                rw [HB2.out, HC.out.1, HFX.out.1, HFX.out.2.1]
                exact HWQ.out
              · have HC := Aside0.mk (show 1 ≤ d ∧ farS far 29 = farS far (d - 1) by
                  have h := HFX.out
                  cases d with
                  | zero => exact absurd h.1 (by intro h1; rw [show farBase.getD 0 0 = 1 from rfl] at h1; omega)
                  | succ d => exact ⟨by omega, by rw [HD.out.2, farS, if_neg (by omega)]; rfl⟩)
                have hd2 : (1 : Int) ≤ d := by have := HC.out; omega
                go_wp2_with (go_at_call 38; refine (flate_farOf.calls _ _ _ _ HFAR.out).mono ?_; rintro e w8 ⟨rfl, hd8⟩; have HW8 := Aside0.mk (HWD.out.drawn hd8); clear hd8)
                go_roundw
                case rel => exact ⟨d - 1, by have := HC.out; congr 1; omega, by have := HD.out; omega, HC.out.2, HW8.out⟩
                case measure => have := HC.out; simp [intOf]; omega
          · have hk : s = 257 + i ∧ 1 ≤ i := ⟨hs, by omega⟩
            have hno : ¬ l ≤ n := by omega
            have HK := Aside0.mk (show s = 257 + i ∧ 1 ≤ i ∧ i ≤ 27 from ⟨hs, by omega, by omega⟩)
            clear hi hi28 hk hno hs
            go_wp2_with (go_at_call 37; refine (flate_lengthOf.calls _ _ _ _ HLEN.out).mono ?_; rintro e w1 ⟨rfl, hd1⟩; have HW1 := Aside0.mk (HW.out.drawn hd1); clear hd1)
            go_roundw
            case rel =>
              refine ⟨i - 1, s - 1, by have := HK.out; congr 1; omega, by have := HK.out; omega, .inr ⟨by omega, by have := HK.out; omega, ?_⟩, HW1.out⟩
              rcases HI.out.2 with h | ⟨_, _, h⟩
              · have := HK.out; omega
              · rw [h]
                obtain ⟨k, hk⟩ : ∃ k, i = k + 1 := ⟨i - 1, by have := HK.out; omega⟩
                rw [hk, lenS, if_neg (by rw [← hk]; have := HLX.out; omega)]
                rfl
            case measure => have := HK.out; simp [intOf]; omega
        · have HK := Aside0.mk (show s = 257 + i ∧ i = 28 from ⟨hs, by omega⟩)
          clear hi hi28 hs
          go_wp2_with (go_at_call 37; refine (flate_lengthOf.calls _ _ _ _ HLEN.out).mono ?_; rintro e w1 ⟨rfl, hd1⟩; have HW1 := Aside0.mk (HW.out.drawn hd1); clear hd1)
          go_roundw
          case rel => exact ⟨i - 1, s - 1, by have := HK.out; congr 1; omega, by have := HK.out; omega, .inr ⟨by omega, by have := HK.out; omega, by have := HK.out; rw [this.2]⟩, HW1.out⟩
          case measure => have := HK.out; simp [intOf]; omega
      · have hn0 : n = 258 := by omega
        have hI := Aside0.mk (show lenI n = i by unfold lenI; rw [if_neg (by omega)]; rcases HI.out.2 with h | ⟨h, _, _⟩ <;> omega)
        have h3 : ¬ (s : Int) < 285 := by have := HI.out; rcases this.2 with h | ⟨h, _, _⟩ <;> omega
        clear hi hi28 hn0 hs
        have HLE := Aside0.mk (show l ≤ n ∧ i ≤ 28 ∧ n ≤ 258 from ⟨by rw [← HLX.out.1, ← hI.out]; exact lenI_base n HN.out, by rw [← hI.out]; exact lenI_le n, HN.out.2⟩)
        go_wp2_with (first
          | (go_at_call 17; have q_ := HW6; clear q_; refine (flate_bits_put.any w0 b (bl ++ signB s) (n - l) x _ _ ?hni rfl _ HW6.out ?hn ?hs ?hl).mono ?_; (case hni => have := HLX.out; have := HLE.out; omega); (case hn => omega); (case hs => have := HLX.out; omega); (case hl => have := HL.out; have := signB_len s; rw [List.length_append]; omega); rintro e w7 ⟨rfl, hw7⟩; have HW7 := Aside0.mk hw7; clear hw7)
          | (go_at_call 19; have q_ := HW5; clear q_; refine (flate_bits_sign.any w0 b bl s _ rfl _ HW5.out ?hs ?hl).mono ?_; (case hs => have := HLX.out; have := HI.out; have := HLE.out; omega); (case hl => have := HL.out; omega); rintro e w6 ⟨rfl, hw6⟩; have HW6 := Aside0.mk hw6; clear hw6)
          | (go_at_call 37; refine (flate_lengthOf.calls _ _ _ _ HLEN.out).mono ?_; rintro e w5 ⟨rfl, hd5⟩; have HW5 := Aside0.mk (HW.out.drawn hd5); clear hd5))
        have HBL := Aside0.mk (show (bl ++ signB s ++ numB (n - l) x).length ≤ 1099511626100 by rw [List.length_append, List.length_append, numB_len]; have := HL.out; have := signB_len s; have := HLX.out; omega)
        obtain ⟨bl2, hbl2⟩ : ∃ bl2, bl ++ signB s ++ numB (n - l) x = bl2 := ⟨_, rfl⟩
        rw [hbl2] at HW7 HBL
        have HB2 := Aside0.mk (show bl ++ copyB n far = bl2 ++ codeB (farS far 29) 5 ++ numB (far - farBase.getD (farS far 29) 0) (farMore.getD (farS far 29) 0) by rw [← hbl2, copyB, hI.out, HLX.out.1, HLX.out.2.1, ← HI.out.1, List.append_assoc, List.append_assoc, List.append_assoc, List.append_assoc, List.append_assoc])
        clear hbl2
        go_loopw [11, 12, 13] (fun v11 _ _ wr => Aside0 (flate_bits_copied.Inv2 w0 b bl2 far wr v11)) (fun v11 _ _ _ => (intOf v11).toNat)
        case atStart => exact ⟨29, rfl, Nat.le_refl _, rfl, HW7.out⟩
        case round =>
          obtain ⟨d, rfl, hd, hfs, hwd⟩ := hrel.out
          obtain ⟨hfar, hfl, hfu, hfm⟩ := far_tab d (by omega)
          obtain ⟨fl, hfl0⟩ : ∃ l, farBase.getD d 0 = l := ⟨_, rfl⟩
          obtain ⟨fx, hfx0⟩ : ∃ x, farMore.getD d 0 = x := ⟨_, rfl⟩
          rw [hfl0] at hfar hfl hfu
          rw [hfx0] at hfar hfm
          have HFAR := Aside0.mk hfar
          have HWD := Aside0.mk hwd
          have HFX := Aside0.mk (show farBase.getD d 0 = fl ∧ farMore.getD d 0 = fx ∧ 1 ≤ fl ∧ fl ≤ 24577 ∧ fx ≤ 13 from ⟨hfl0, hfx0, hfl, hfu, hfm⟩)
          have HD := Aside0.mk (show d ≤ 29 ∧ farS far 29 = farS far d from ⟨hd, hfs⟩)
          have hd1 : (d : Int) ≤ 29 := by omega
          clear hrel hwd hfar hfl0 hfx0 hfl hfu hfm hd hfs
          by_cases hc : (fl : Int) ≤ far
          · have HC := Aside0.mk (show farS far 29 = d ∧ fl ≤ far by refine ⟨HD.out.2.trans ?_, by omega⟩; cases d with | zero => rfl | succ d => rw [farS, if_pos (by have := HFX.out; omega)])
            go_wp2_with (first
              | (go_at_call 17; have q_ := HW9; clear q_; refine (flate_bits_put.any w0 b (bl2 ++ codeB d 5) (far - fl) fx _ _ ?hni rfl _ HW9.out ?hn ?hs ?hl).mono ?_; (case hni => have := HC.out; omega); (case hn => omega); (case hs => have := HFX.out; omega); (case hl => have := HBL.out; rw [List.length_append, codeB_len]; omega); rintro e wq ⟨rfl, hwq⟩; have HWQ := Aside0.mk hwq; clear hwq)
              | (go_at_call 36; have q_ := HW8; clear q_; refine (flate_bits_code.any w0 b bl2 d 5 _ _ rfl rfl _ HW8.out ?hn (by decide) ?hl).mono ?_; (case hn => have := HD.out; omega); (case hl => have := HBL.out; omega); rintro e w9 ⟨rfl, hw9⟩; have HW9 := Aside0.mk hw9; clear hw9)
              | (go_at_call 38; refine (flate_farOf.calls _ _ _ _ HFAR.out).mono ?_; rintro e w8 ⟨rfl, hd8⟩; have HW8 := Aside0.mk (HWD.out.drawn hd8); clear hd8))
            refine bodyPost_ret (results_none rfl _ _ _) rfl ?_
            refine ⟨rfl, ?_⟩
            rw [HB2.out, HC.out.1, HFX.out.1, HFX.out.2.1]
            exact HWQ.out
          · have HC := Aside0.mk (show 1 ≤ d ∧ farS far 29 = farS far (d - 1) by
              have h := HFX.out
              cases d with
              | zero => exact absurd h.1 (by intro h1; rw [show farBase.getD 0 0 = 1 from rfl] at h1; omega)
              | succ d => exact ⟨by omega, by rw [HD.out.2, farS, if_neg (by omega)]; rfl⟩)
            have hd2 : (1 : Int) ≤ d := by have := HC.out; omega
            go_wp2_with (go_at_call 38; refine (flate_farOf.calls _ _ _ _ HFAR.out).mono ?_; rintro e w8 ⟨rfl, hd8⟩; have HW8 := Aside0.mk (HWD.out.drawn hd8); clear hd8)
            go_roundw
            case rel => exact ⟨d - 1, by have := HC.out; congr 1; omega, by have := HD.out; omega, HC.out.2, HW8.out⟩
            case measure => have := HC.out; simp [intOf]; omega
    · have hI := Aside0.mk (show lenI n = i by have := HI.out; unfold lenI; rcases this.2 with h | ⟨h, _, h'⟩; (· omega); (· rw [if_pos h, h', show i = 0 by omega]; rfl))
      clear hi hi28 hs
      have HLE := Aside0.mk (show l ≤ n ∧ i ≤ 28 ∧ n ≤ 258 from ⟨by rw [← HLX.out.1, ← hI.out]; exact lenI_base n HN.out, by rw [← hI.out]; exact lenI_le n, HN.out.2⟩)
      go_wp2_with (first
        | (go_at_call 17; have q_ := HW6; clear q_; refine (flate_bits_put.any w0 b (bl ++ signB s) (n - l) x _ _ ?hni rfl _ HW6.out ?hn ?hs ?hl).mono ?_; (case hni => have := HLX.out; have := HLE.out; omega); (case hn => omega); (case hs => have := HLX.out; omega); (case hl => have := HL.out; have := signB_len s; rw [List.length_append]; omega); rintro e w7 ⟨rfl, hw7⟩; have HW7 := Aside0.mk hw7; clear hw7)
        | (go_at_call 19; have q_ := HW5; clear q_; refine (flate_bits_sign.any w0 b bl s _ rfl _ HW5.out ?hs ?hl).mono ?_; (case hs => have := HLX.out; have := HI.out; have := HLE.out; omega); (case hl => have := HL.out; omega); rintro e w6 ⟨rfl, hw6⟩; have HW6 := Aside0.mk hw6; clear hw6)
        | (go_at_call 37; refine (flate_lengthOf.calls _ _ _ _ HLEN.out).mono ?_; rintro e w5 ⟨rfl, hd5⟩; have HW5 := Aside0.mk (HW.out.drawn hd5); clear hd5))
      have HBL := Aside0.mk (show (bl ++ signB s ++ numB (n - l) x).length ≤ 1099511626100 by rw [List.length_append, List.length_append, numB_len]; have := HL.out; have := signB_len s; have := HLX.out; omega)
      obtain ⟨bl2, hbl2⟩ : ∃ bl2, bl ++ signB s ++ numB (n - l) x = bl2 := ⟨_, rfl⟩
      rw [hbl2] at HW7 HBL
      have HB2 := Aside0.mk (show bl ++ copyB n far = bl2 ++ codeB (farS far 29) 5 ++ numB (far - farBase.getD (farS far 29) 0) (farMore.getD (farS far 29) 0) by rw [← hbl2, copyB, hI.out, HLX.out.1, HLX.out.2.1, ← HI.out.1, List.append_assoc, List.append_assoc, List.append_assoc, List.append_assoc, List.append_assoc])
      clear hbl2
      go_loopw [11, 12, 13] (fun v11 _ _ wr => Aside0 (flate_bits_copied.Inv2 w0 b bl2 far wr v11)) (fun v11 _ _ _ => (intOf v11).toNat)
      case atStart => exact ⟨29, rfl, Nat.le_refl _, rfl, HW7.out⟩
      case round =>
        obtain ⟨d, rfl, hd, hfs, hwd⟩ := hrel.out
        obtain ⟨hfar, hfl, hfu, hfm⟩ := far_tab d (by omega)
        obtain ⟨fl, hfl0⟩ : ∃ l, farBase.getD d 0 = l := ⟨_, rfl⟩
        obtain ⟨fx, hfx0⟩ : ∃ x, farMore.getD d 0 = x := ⟨_, rfl⟩
        rw [hfl0] at hfar hfl hfu
        rw [hfx0] at hfar hfm
        have HFAR := Aside0.mk hfar
        have HWD := Aside0.mk hwd
        have HFX := Aside0.mk (show farBase.getD d 0 = fl ∧ farMore.getD d 0 = fx ∧ 1 ≤ fl ∧ fl ≤ 24577 ∧ fx ≤ 13 from ⟨hfl0, hfx0, hfl, hfu, hfm⟩)
        have HD := Aside0.mk (show d ≤ 29 ∧ farS far 29 = farS far d from ⟨hd, hfs⟩)
        have hd1 : (d : Int) ≤ 29 := by omega
        clear hrel hwd hfar hfl0 hfx0 hfl hfu hfm hd hfs
        by_cases hc : (fl : Int) ≤ far
        · have HC := Aside0.mk (show farS far 29 = d ∧ fl ≤ far by refine ⟨HD.out.2.trans ?_, by omega⟩; cases d with | zero => rfl | succ d => rw [farS, if_pos (by have := HFX.out; omega)])
          go_wp2_with (first
            | (go_at_call 17; have q_ := HW9; clear q_; refine (flate_bits_put.any w0 b (bl2 ++ codeB d 5) (far - fl) fx _ _ ?hni rfl _ HW9.out ?hn ?hs ?hl).mono ?_; (case hni => have := HC.out; omega); (case hn => omega); (case hs => have := HFX.out; omega); (case hl => have := HBL.out; rw [List.length_append, codeB_len]; omega); rintro e wq ⟨rfl, hwq⟩; have HWQ := Aside0.mk hwq; clear hwq)
            | (go_at_call 36; have q_ := HW8; clear q_; refine (flate_bits_code.any w0 b bl2 d 5 _ _ rfl rfl _ HW8.out ?hn (by decide) ?hl).mono ?_; (case hn => have := HD.out; omega); (case hl => have := HBL.out; omega); rintro e w9 ⟨rfl, hw9⟩; have HW9 := Aside0.mk hw9; clear hw9)
            | (go_at_call 38; refine (flate_farOf.calls _ _ _ _ HFAR.out).mono ?_; rintro e w8 ⟨rfl, hd8⟩; have HW8 := Aside0.mk (HWD.out.drawn hd8); clear hd8))
          refine bodyPost_ret (results_none rfl _ _ _) rfl ?_
          refine ⟨rfl, ?_⟩
          rw [HB2.out, HC.out.1, HFX.out.1, HFX.out.2.1]
          exact HWQ.out
        · have HC := Aside0.mk (show 1 ≤ d ∧ farS far 29 = farS far (d - 1) by
            have h := HFX.out
            cases d with
            | zero => exact absurd h.1 (by intro h1; rw [show farBase.getD 0 0 = 1 from rfl] at h1; omega)
            | succ d => exact ⟨by omega, by rw [HD.out.2, farS, if_neg (by omega)]; rfl⟩)
          have hd2 : (1 : Int) ≤ d := by have := HC.out; omega
          go_wp2_with (go_at_call 38; refine (flate_farOf.calls _ _ _ _ HFAR.out).mono ?_; rintro e w8 ⟨rfl, hd8⟩; have HW8 := Aside0.mk (HWD.out.drawn hd8); clear hd8)
          go_roundw
          case rel => exact ⟨d - 1, by have := HC.out; congr 1; omega, by have := HD.out; omega, HC.out.2, HW8.out⟩
          case measure => have := HC.out; simp [intOf]; omega

/-! ### flate_Deflate: function 10 -/
/-- How many bytes from a place on stand so far back too. -/
def runK (l : List Int) (at_ far : Nat) : Nat → Nat → Nat
  | 0, n => n
  | f + 1, n => if at_ + n < l.length ∧ l.getD (at_ + n) 0 = l.getD (at_ + n - far) 0 then runK l at_ far f (n + 1) else n
/-- The longest, and how far back, of the distances up to k. -/
def bestK (l : List Int) (at_ : Nat) : Nat → Nat × Nat
  | 0 => (0, 0)
  | k + 1 => if (bestK l at_ k).1 < runK l at_ (k + 1) 258 0 then (runK l at_ (k + 1) 258 0, k + 1) else bestK l at_ k
def matchP (l : List Int) (at_ : Nat) : Nat × Nat := bestK l at_ (min at_ 512)
def deflG (l : List Int) : Nat → Nat → List Nat
  | 0, _ => []
  | f + 1, at_ => if at_ < l.length then (if (matchP l at_).1 < 3 then signB (l.getD at_ 0).toNat ++ deflG l f (at_ + 1) else copyB (matchP l at_).1 (matchP l at_).2 ++ deflG l f (at_ + (matchP l at_).1)) else []
/-- A text, deflated, as bits. -/
def deflB (l : List Int) : List Nat := numB 3 3 ++ deflG l (l.length + 1) 0 ++ signB 256
def deflL (l : List Int) : List Int × Int := if 65536 < l.length then ([], 12) else (bytesL (deflB l), 0)
def flate_Deflate.f (l0 : List Int) : Option (List Int × Int) := if l0.length ≤ 1099511627776 ∧ (∀ x ∈ l0, 0 ≤ x ∧ x < 256) then some (deflL l0) else none
theorem runK_le (l : List Int) (at_ far : Nat) : ∀ f n, n ≤ runK l at_ far f n ∧ runK l at_ far f n ≤ n + f ∧ (at_ + n ≤ l.length → at_ + runK l at_ far f n ≤ l.length)
  | 0, n => ⟨Nat.le_refl _, Nat.le_refl _, id⟩
  | f + 1, n => by
    rw [runK]
    split
    · rename_i h
      obtain ⟨h1, h2, h3⟩ := runK_le l at_ far f (n + 1)
      exact ⟨by omega, by omega, fun _ => h3 (by omega)⟩
    · exact ⟨Nat.le_refl _, by omega, id⟩
theorem bestK_le (l : List Int) (at_ : Nat) (h : at_ ≤ l.length) : ∀ k, (bestK l at_ k).1 ≤ 258 ∧ (bestK l at_ k).2 ≤ k ∧ at_ + (bestK l at_ k).1 ≤ l.length ∧ (1 ≤ (bestK l at_ k).1 → 1 ≤ (bestK l at_ k).2)
  | 0 => by rw [bestK]; exact ⟨by decide, Nat.le_refl _, h, fun h => absurd h (by decide)⟩
  | k + 1 => by
    obtain ⟨h1, h2, h3, h4⟩ := bestK_le l at_ h k
    obtain ⟨g1, g2, g3⟩ := runK_le l at_ (k + 1) 258 0
    rw [bestK]
    split
    · exact ⟨by simpa using g2, Nat.le_refl _, g3 (by omega), fun _ => by simp⟩
    · exact ⟨h1, by omega, h3, h4⟩
theorem matchP_le (l : List Int) (at_ : Nat) (h : at_ ≤ l.length) : (matchP l at_).1 ≤ 258 ∧ (matchP l at_).2 ≤ 512 ∧ at_ + (matchP l at_).1 ≤ l.length ∧ (1 ≤ (matchP l at_).1 → 1 ≤ (matchP l at_).2) := by
  obtain ⟨h1, h2, h3, h4⟩ := bestK_le l at_ h (min at_ 512)
  exact ⟨h1, by unfold matchP; omega, h3, h4⟩
theorem w64 (x : Int) (h0 : -9000000000000000000 ≤ x) (h1 : x ≤ 9000000000000000000) : wrap64 x = x := by unfold wrap64; omega
/-- The program's search, one distance. -/
theorem match_run (l : List Int) (at_ far : Nat) (hl : l.length ≤ 65536) (ha : at_ ≤ l.length) (hf : 1 ≤ far ∧ far ≤ at_) (bt bk : Nat) (r : Int × Int) : ∀ f n, n + f = 258 → at_ + n ≤ l.length →
    (∃ k, flate_match.l0 k l at_ (if bt < runK l at_ far f n then (runK l at_ far f n : Nat) else (bt : Nat) : Int) (if bt < runK l at_ far f n then (far : Nat) else (bk : Nat) : Int) ((far + 1 : Nat) : Int) = some r) → ∃ k, flate_match.l1 k l at_ bt bk far n = some r := by
  have fin : ∀ n k, n ≤ 258 → flate_match.l0 k l at_ (if bt < n then (n : Nat) else (bt : Nat) : Int) (if bt < n then (far : Nat) else (bk : Nat) : Int) ((far + 1 : Nat) : Int) = some r → (if (n : Int) > bt then (flate_match.l0 k l at_ n far (wrap64 ((far : Int) + 1))) else (flate_match.l0 k l at_ bt bk (wrap64 ((far : Int) + 1)))) = some r := by
    intro n k hn h
    rw [w64 ((far : Int) + 1) (by omega) (by omega)]
    push_cast at h
    by_cases hb : bt < n
    · rw [if_pos hb, if_pos hb] at h; rw [if_pos (by omega)]; exact h
    · rw [if_neg hb, if_neg hb] at h; rw [if_neg (by omega)]; exact h
  intro f
  induction f with
  | zero =>
    intro n hn _ h
    obtain ⟨k, h⟩ := h
    rw [runK] at h
    refine ⟨k + 1, ?_⟩
    rw [flate_match.l1, if_neg (by omega)]
    exact fin n k (by omega) h
  | succ f ih =>
    intro n hn hle h
    rw [runK] at h
    by_cases hc : at_ + n < l.length ∧ l.getD (at_ + n) 0 = l.getD (at_ + n - far) 0
    · rw [if_pos hc] at h
      obtain ⟨k, h⟩ := ih (n + 1) (by omega) (by omega) h
      refine ⟨k + 1, ?_⟩
      have b0 : (n : Int) < 258 := by omega
      have b1 : ((at_ + n : Nat) : Int) < (l.length : Int) := by omega
      have b2 : (0 : Int) ≤ ((at_ + n : Nat) : Int) := by omega
      have b3 : (0 : Int) ≤ ((at_ + n - far : Nat) : Int) := by omega
      have b4 : ((at_ + n - far : Nat) : Int) < (l.length : Int) := by omega
      have e2 : wrap64 (((at_ + n : Nat) : Int) - far) = ((at_ + n - far : Nat) : Int) := by exact (w64 _ (by omega) (by omega)).trans (by omega)
      have e3 : wrap64 ((n : Int) + 1) = ((n + 1 : Nat) : Int) := w64 _ (by omega) (by omega)
      have e1 : wrap64 ((at_ : Int) + n) = ((at_ + n : Nat) : Int) := w64 _ (by omega) (by omega)
      have b5 : rd l ((at_ + n : Nat) : Int) = rd l ((at_ + n - far : Nat) : Int) := by unfold rd; rw [Int.toNat_natCast, Int.toNat_natCast]; exact hc.2
      rw [flate_match.l1, if_pos b0, e1, if_pos b1, if_pos b2, e2, if_pos b3, if_pos b4, if_pos b5, e3]
      exact h
    · rw [if_neg hc] at h
      obtain ⟨k, h⟩ := h
      refine ⟨k + 1, ?_⟩
      have b0 : (n : Int) < 258 := by omega
      have bf := fin n k (by omega) h
      by_cases hd : at_ + n < l.length
      · have b1 : ((at_ + n : Nat) : Int) < (l.length : Int) := by omega
        have b2 : (0 : Int) ≤ ((at_ + n : Nat) : Int) := by omega
        have b3 : (0 : Int) ≤ ((at_ + n - far : Nat) : Int) := by omega
        have b4 : ((at_ + n - far : Nat) : Int) < (l.length : Int) := by omega
        have e2 : wrap64 (((at_ + n : Nat) : Int) - far) = ((at_ + n - far : Nat) : Int) := by exact (w64 _ (by omega) (by omega)).trans (by omega)
        have e1 : wrap64 ((at_ : Int) + n) = ((at_ + n : Nat) : Int) := w64 _ (by omega) (by omega)
        have b5 : ¬ rd l ((at_ + n : Nat) : Int) = rd l ((at_ + n - far : Nat) : Int) := by unfold rd; rw [Int.toNat_natCast, Int.toNat_natCast]; exact fun e => hc ⟨hd, e⟩
        rw [flate_match.l1, if_pos b0, e1, if_pos b1, if_pos b2, e2, if_pos b3, if_pos b4, if_neg b5]
        exact bf
      · have b1 : ¬ ((at_ + n : Nat) : Int) < (l.length : Int) := by omega
        have e1 : wrap64 ((at_ : Int) + n) = ((at_ + n : Nat) : Int) := w64 _ (by omega) (by omega)
        rw [flate_match.l1, if_pos b0, e1, if_neg b1]
        exact bf
theorem match_all (l : List Int) (at_ : Nat) (hl : l.length ≤ 65536) (ha : at_ ≤ l.length) : ∀ d j, j + d = min at_ 512 → ∃ k, flate_match.l0 k l at_ (bestK l at_ j).1 (bestK l at_ j).2 ((j + 1 : Nat) : Int) = some (((matchP l at_).1 : Int), ((matchP l at_).2 : Int)) := by
  have hmn : mn (at_ : Int) 512 = ((min at_ 512 : Nat) : Int) := by unfold mn; split <;> omega
  intro d
  induction d with
  | zero =>
    intro j hj
    refine ⟨1, ?_⟩
    rw [flate_match.l0, hmn, if_neg (by omega)]
    unfold matchP
    rw [← hj, Nat.add_zero]
  | succ d ih =>
    intro j hj
    obtain ⟨k, h⟩ := ih (j + 1) (by omega)
    obtain ⟨k2, h2⟩ := match_run l at_ (j + 1) hl ha (by omega) (bestK l at_ j).1 (bestK l at_ j).2 _ 258 0 rfl (by omega) ⟨k, by
      rw [bestK] at h
      by_cases hb : (bestK l at_ j).1 < runK l at_ (j + 1) 258 0
      · rw [if_pos hb, if_pos hb]; rw [if_pos hb] at h; exact h
      · rw [if_neg hb, if_neg hb]; rw [if_neg hb] at h; exact h⟩
    refine ⟨k2 + 1, ?_⟩
    rw [flate_match.l0, hmn, if_pos (by omega)]
    exact h2
theorem match_ok (l : List Int) (at_ : Nat) (hl : l.length ≤ 65536) (ha : at_ ≤ l.length) : ∃ k, flate_match.f k l at_ = some (((matchP l at_).1 : Int), ((matchP l at_).2 : Int)) := match_all l at_ hl ha (min at_ 512) 0 (by omega)
theorem Wrt.below {w0 : World} {b : Nat} {bl : List Nat} {w w' : World} (h : Wrt w0 b bl w) (hb : Below w.heap.size w w') : Wrt w0 b bl w' := by
  obtain ⟨⟨v, h1, h2, h3, h4⟩, h5⟩ := h
  exact ⟨⟨v, (hb.block b (blk_lt h1)).trans h1, Kd.R_below h2 hb, h3, h4.trans (hb.mono h4.size)⟩, h5⟩
theorem Wrt.bel {w0 : World} {b : Nat} {bl : List Nat} {w : World} (h : Wrt w0 b bl w) : Below w0.heap.size w0 w := h.1.choose_spec.2.2.2
theorem Wrt.start (w : World) : Wrt w w.heap.size [] (w.alloc (.cells #[.slice none 0 0, .int .i64 0] 40)) :=
  ⟨⟨.slice none 0 0, heap_alloc_new _ _, Kd.R_nil _ _ _ _ _, Nat.le_refl _, (Below.refl _ _).alloc (Nat.le_refl _) _⟩, fun x h => by cases h⟩
theorem copyB_len (n far : Nat) : (copyB n far).length ≤ 60 := by
  unfold copyB
  rw [List.length_append, List.length_append, List.length_append, numB_len, numB_len, codeB_len]
  have h1 := signB_len (257 + lenI n)
  have h2 := (len_tab (lenI n) (by have := lenI_le n; omega)).2.2
  have h3 := (far_tab (farS far 29) (by have := farS_le far 29; omega)).2.2.2
  omega
def flate_Deflate.Inv (l0 : List Int) (w wr : World) (v5 : Value) : Prop :=
  ∃ (at_ f : Nat) (bl : List Nat), v5 = .int .i64 at_ ∧ Wrt w w.heap.size bl wr ∧ bl ++ deflG l0 f at_ = numB 3 3 ++ deflG l0 (l0.length + 1) 0 ∧ l0.length - at_ < f ∧ at_ ≤ l0.length ∧ bl.length ≤ 3 + 60 * at_
set_option maxHeartbeats 8000000 in
set_option maxRecDepth 100000 in
theorem flate_Deflate.calls (A0 : Option Addr) (c0 : Nat) (l0 : List Int) (r1 : List Int) (r2 : Int) (w : World) (hr0 : Kd.C (Kd.int .u8) w A0 l0.length l0) (hc0 : l0.length ≤ c0) (h : flate_Deflate.f l0 = some (r1, r2)) :
    Calls Try.prog 10 #[.slice A0 l0.length c0] w fun e w' => ∃ v0_ : Value, e = .returned (.tuple #[v0_, .int .i64 r2]) ∧ Kd.R (Kd.int .u8) 5 w' w.heap.size (fun _ => True) v0_ r1 ∧ Below w.heap.size w w' := by
  unfold flate_Deflate.f at h
  by_cases hg : l0.length ≤ 1099511627776 ∧ (∀ x ∈ l0, 0 ≤ x ∧ x < 256)
  · rw [if_pos hg] at h
    obtain ⟨g1, g2⟩ := hg
    replace h := Option.some.inj h
    have HR0 := Aside0.mk hr0
    have HC0 := Aside0.mk hc0
    have G2 := Aside0.mk g2
    clear hr0 hc0 g2
    unfold deflL at h
    by_cases hs : 65536 < l0.length
    · rw [if_pos hs] at h
      simp only [Prod.mk.injEq] at h
      obtain ⟨rfl, rfl⟩ := h
      have hs1 : (65536 : Int) < l0.length := by omega
      clear hs
      go_enter Try.func10, Try.ntmps10
      go_wp2
      go_ret2
      exact ⟨_, rfl, Kd.R_nil _ _ _ _ _, Below.refl _ _⟩
    · rw [if_neg hs] at h
      simp only [Prod.mk.injEq] at h
      obtain ⟨rfl, rfl⟩ := h
      have hs1 : (l0.length : Int) ≤ 65536 := by omega
      have HS := Aside0.mk (show l0.length ≤ 65536 by omega)
      clear hs g1
      go_enter Try.func10, Try.ntmps10
      go_wp2_with (go_at_call 17; refine (flate_bits_put.any w w.heap.size [] 3 3 _ _ rfl rfl _ (Wrt.start w) (by decide) (by decide) (by decide)).mono ?_; rintro e w2 ⟨rfl, hw2⟩; have HW2 := Aside0.mk hw2; clear hw2)
      go_loopw [5, 6, 7] (fun v5 _ _ wr => Aside0 (flate_Deflate.Inv l0 w wr v5)) (fun v5 _ _ _ => l0.length - (intOf v5).toNat)
      case atStart => exact ⟨0, l0.length + 1, _, rfl, HW2.out, rfl, by omega, Nat.zero_le _, by decide⟩
      case round =>
        obtain ⟨at_, f, bl, rfl, hw, he, hf, ha, hbl⟩ := hrel.out
        have HW := Aside0.mk hw
        have HB := Aside0.mk hbl
        clear hrel hw hbl
        obtain ⟨f, rfl⟩ : ∃ f', f = f' + 1 := ⟨f - 1, by omega⟩
        by_cases hlt : (at_ : Int) < l0.length
        · rw [deflG, if_pos (by omega)] at he
          obtain ⟨n, far, hp⟩ : ∃ n far, matchP l0 at_ = (n, far) := ⟨_, _, rfl⟩
          obtain ⟨m1, m2, m3, m4⟩ := matchP_le l0 at_ ha
          obtain ⟨k, hk⟩ := match_ok l0 at_ HS.out ha
          rw [hp] at he m1 m2 m3 m4 hk
          have HK := Aside0.mk hk
          have HP := Aside0.mk (show n ≤ 258 ∧ far ≤ 512 ∧ at_ + n ≤ l0.length ∧ (1 ≤ n → 1 ≤ far) ∧ l0.length - at_ < f + 1 ∧ at_ < l0.length from ⟨m1, m2, m3, m4, hf, by omega⟩)
          have hat : (0 : Int) ≤ at_ := by omega
          clear hp m1 m2 m3 m4 hk hf ha
          by_cases h3 : (n : Int) < 3
          · rw [if_pos (show n < 3 by omega)] at he
            have HE := Aside0.mk he
            obtain ⟨ad, hA, hcell⟩ := Kd.at_int HR0.out (at_ : Int) hat hlt
            rw [Int.toNat_natCast] at hcell
            subst hA
            have hrd : rd l0 (at_ : Int) = l0.getD at_ 0 := by unfold rd; rw [Int.toNat_natCast]
            have hmem := G2.out (l0.getD at_ 0) (by rw [List.getD_eq_getElem?_getD, List.getElem?_eq_getElem (by omega)]; exact List.getElem_mem _)
            rw [hrd] at hcell
            obtain ⟨s, hs⟩ : ∃ s : Nat, l0.getD at_ 0 = s := ⟨(l0.getD at_ 0).toNat, by omega⟩
            rw [hs] at hcell hmem
            have HSS := Aside0.mk (show (l0.getD at_ 0).toNat = s ∧ s < 256 from ⟨by rw [hs]; rfl, by omega⟩)
            have hsb : (s : Int) < 256 := by omega
            replace hcell := pw_cell_below HW.out.bel hcell
            have HCELL := Aside0.mk hcell
            clear he hrd hmem hs
            go_wp2_with (first
              | (go_at_call 19; refine (flate_bits_sign.any w w.heap.size bl s _ rfl _ HW5.out ?hs ?hl).mono ?_; (case hs => have := HSS.out; omega); (case hl => have := HB.out; have := HP.out; have := HS.out; omega); rintro e w6 ⟨rfl, hw6⟩; have HW6 := Aside0.mk hw6; clear hw6)
              | (go_at_call 18; refine (flate_match.calls k _ c0 l0 _ _ _ _ (Kd.C_below HR0.out HW.out.bel) HC0.out HK.out).mono ?_; rintro e w5 ⟨rfl, hb5⟩; have HW5 := Aside0.mk (HW.out.below hb5); replace hcell := pw_cell_below hb5 hcell; clear hb5))
            go_roundw
            case rel =>
              have e := HE.out
              rw [HSS.out.1, ← List.append_assoc] at e
              exact ⟨at_ + 1, f, bl ++ signB s, by push_cast; rfl, HW6.out, e, by have := HP.out; omega, by have := HP.out; omega, by rw [List.length_append]; have := HB.out; have := signB_len s; omega⟩
            case measure => have := HP.out; simp [intOf]; omega
          · rw [if_neg (show ¬ n < 3 by omega)] at he
            have HE := Aside0.mk he
            have hn1 : (n : Int) ≤ 258 := by have := HP.out; omega
            clear he
            go_wp2_with (first
              | (go_at_call 20; refine (flate_bits_copied.any w w.heap.size bl n far _ _ rfl rfl _ HW5.out ?hn ?hf ?hl).mono ?_; (case hn => omega); (case hf => have := HP.out; omega); (case hl => have := HB.out; have := HP.out; have := HS.out; omega); rintro e w6 ⟨rfl, hw6⟩; have HW6 := Aside0.mk hw6; clear hw6)
              | (go_at_call 18; refine (flate_match.calls k _ c0 l0 _ _ _ _ (Kd.C_below HR0.out HW.out.bel) HC0.out HK.out).mono ?_; rintro e w5 ⟨rfl, hb5⟩; have HW5 := Aside0.mk (HW.out.below hb5); clear hb5))
            go_roundw
            case rel =>
              have e := HE.out
              rw [← List.append_assoc] at e
              exact ⟨at_ + n, f, bl ++ copyB n far, by push_cast; rfl, HW6.out, e, by have := HP.out; omega, by have := HP.out; omega, by rw [List.length_append]; have := HB.out; have := copyB_len n far; omega⟩
            case measure => have := HP.out; simp [intOf]; omega
        · rw [deflG, if_neg (by omega), List.append_nil] at he
          have HE := Aside0.mk he
          have HA := Aside0.mk ha
          clear he hf ha
          go_wp2_with (go_at_call 19; refine (flate_bits_sign.any w w.heap.size bl 256 _ rfl _ HW.out (by decide) ?hl).mono ?_; (case hl => have := HB.out; have := HA.out; have := HS.out; omega); rintro e w6 ⟨rfl, hw6⟩; obtain ⟨⟨v6, hv6⟩, _⟩ := hw6; obtain ⟨A6, c6, rfl⟩ := Kd.R_slice hv6.2.1; have cw := (show w6.cell? ⟨w.heap.size, 0, none⟩ = some (.slice A6 (bytesL (bl ++ signB 256)).length c6) by rw [Lib.cell_of_heap hv6.1]; rfl); have HV := Aside0.mk hv6; clear hv6)
          go_ret2
          refine ⟨_, rfl, ?_, HV.out.2.2.2⟩
          have hv := HV.out.2.1
          have e : deflB l0 = bl ++ signB 256 := by unfold deflB; rw [HE.out]
          rw [e]
          exact Kd.R_mono hv (fun _ _ => trivial)
  · rw [if_neg hg] at h
    cases h

/-! ### flate_Stored: function 11 -/
def stHead (last : Int) (n : Nat) : List Int := [last, ((n % 256 : Nat) : Int), ((n / 256 : Nat) : Int), ((255 - n % 256 : Nat) : Int), ((255 - n / 256 : Nat) : Int)]
/-- A text in blocks as it is. -/
def storedL : Nat → List Int → List Int
  | 0, _ => []
  | k + 1, l => if l.length ≤ 65535 then stHead 1 l.length ++ l else stHead 0 65535 ++ l.take 65535 ++ storedL k (l.drop 65535)
theorem storedL_last (k : Nat) (l : List Int) (h : l.length ≤ 65535) : storedL (k + 1) l = stHead 1 l.length ++ l := if_pos h
theorem storedL_more (k : Nat) (l : List Int) (h : ¬ l.length ≤ 65535) : storedL (k + 1) l = stHead 0 65535 ++ l.take 65535 ++ storedL k (l.drop 65535) := if_neg h
def sliceLen : Value → Nat
  | .slice _ n _ => n
  | _ => 0
theorem lit_rows (W : World) (xs : List Int) (hx : xs.length ≤ 1000) : Kd.C (Kd.int .u8) (W.alloc (.cells (xs.map (fun x => Value.int .u8 x)).toArray 5)) (some ⟨W.heap.size, 0, none⟩) xs.length xs := by
  have hb := heap_alloc_new W (.cells (xs.map (fun x => Value.int .u8 x)).toArray 5)
  refine ⟨rfl, by omega, fun _ => ⟨_, rfl, fun j p hj => ?_⟩⟩
  refine ⟨[.int .u8 p], rfl, rfl, fun i u hu => ?_⟩
  match i, hu with
  | 0, hu =>
    obtain rfl : Value.int .u8 p = u := by simpa using hu
    have : (Addr.add ⟨W.heap.size, 0, none⟩ (j * (Kd.int .u8).sz + 0)) = ⟨W.heap.size, j, none⟩ := by rw [show (Kd.int .u8).sz = 1 from rfl, Nat.mul_one, Nat.add_zero, Addr.add_lit, Nat.zero_add]
    rw [this, Lib.cell_of_heap hb]
    simp [hj]
theorem xor_u8 : ∀ a : Nat, a < 256 → Go.bits .xor .u8 IntKind.u8.max (a : Int) = ((255 - a : Nat) : Int) := by decide +kernel
def flate_Stored.f (l0 : List Int) : Option (List Int) := if l0.length ≤ 1099511627776 then some (storedL (l0.length + 1) l0) else none
def flate_Stored.Inv (w : World) (l0 : List Int) (wr : World) (v0 v3 : Value) : Prop :=
  ∃ (x y : List Int) (A : Option Addr) (c k : Nat), v0 = .slice A x.length c ∧ x.length ≤ c ∧ Kd.C (Kd.int .u8) w A x.length x ∧ Kd.R (Kd.int .u8) 5 wr w.heap.size (fun _ => True) v3 y ∧ y ++ storedL k x = storedL (l0.length + 1) l0 ∧ x.length < k ∧ y.length + 6 * x.length ≤ 6 * l0.length ∧ Below w.heap.size w wr
set_option maxHeartbeats 8000000 in
set_option maxRecDepth 100000 in
theorem flate_Stored.calls (A0 : Option Addr) (c0 : Nat) (l0 : List Int) (r : List Int) (w : World) (hr0 : Kd.C (Kd.int .u8) w A0 l0.length l0) (hc0 : l0.length ≤ c0) (h : flate_Stored.f l0 = some r) :
    Calls Try.prog 11 #[.slice A0 l0.length c0] w fun e w' => ∃ v0_ : Value, e = .returned (v0_) ∧ Kd.R (Kd.int .u8) 5 w' w.heap.size (fun _ => True) v0_ r ∧ Below w.heap.size w w' := by
  unfold flate_Stored.f at h
  by_cases hl0 : l0.length ≤ 1099511627776
  · rw [if_pos hl0] at h
    obtain rfl := Option.some.inj h
    have HR0 := Aside0.mk hr0
    have HC0 := Aside0.mk hc0
    have HL0 := Aside0.mk hl0
    clear hr0 hc0 h hl0
    obtain ⟨i0, hi0, _, hsz, _⟩ := info_parts info5
    have HI0 := Aside0.mk hi0
    have HSZ := Aside0.mk hsz
    clear hi0 hsz
    go_enter Try.func11, Try.ntmps11
    go_wp2
    go_loopw [0, 3] (fun v0 v3 wr => Aside0 (flate_Stored.Inv w l0 wr v0 v3)) (fun v0 _ _ => sliceLen v0)
    case atStart => exact ⟨l0, [], A0, c0, l0.length + 1, rfl, HC0.out, HR0.out, Kd.R_nil _ _ _ _ _, rfl, Nat.lt_succ_self _, by simp, Below.refl _ _⟩
    case round =>
      obtain ⟨x, y, A, c, k, rfl, hc, hC, hR, he, hk, hy, hB⟩ := hrel.out
      clear hrel
      obtain ⟨k, rfl⟩ : ∃ k2, k = k2 + 1 := ⟨k - 1, by omega⟩
      obtain ⟨A9, c9, rfl⟩ := Kd.R_slice hR
      have HR := Aside0.mk hR
      have HB := Aside0.mk hB
      have HA := Aside0.mk (show x.length ≤ c ∧ x.length < k + 1 ∧ y.length + 6 * x.length ≤ 6 * l0.length ∧ l0.length ≤ 1099511627776 from ⟨hc, hk, hy, HL0.out⟩)
      by_cases hx : x.length ≤ 65535
      · rw [storedL_last k x hx] at he
        have HE := Aside0.mk he
        obtain ⟨n, hn⟩ : ∃ n, x.length = n := ⟨_, rfl⟩
        have hxl : (x.length : Int) = (n : Int) := by rw [hn]
        have HN := Aside0.mk hn
        obtain ⟨a0, e0⟩ : ∃ a0, n % 256 = a0 := ⟨_, rfl⟩
        obtain ⟨a1, e1⟩ : ∃ a1, n / 256 = a1 := ⟨_, rfl⟩
        obtain ⟨b0, f0⟩ : ∃ b0, 255 - a0 = b0 := ⟨_, rfl⟩
        obtain ⟨b1, f1⟩ : ∃ b1, 255 - a1 = b1 := ⟨_, rfl⟩
        have ha1 : a1 < 256 := by omega
        have ha0 : a0 < 256 := by omega
        have HH := Aside0.mk (show stHead 1 x.length = [1, (a0 : Int), (a1 : Int), Go.bits .xor .u8 IntKind.u8.max (a0 : Int), Go.bits .xor .u8 IntKind.u8.max (a1 : Int)] by rw [hn, xor_u8 a0 ha0, xor_u8 a1 ha1, ← e0, ← e1]; rfl)
        have n1 : (n : Int) ≤ 65535 := by omega
        have m0 : (n : Int) % 256 = (a0 : Int) := by omega
        have m1 : (n : Int) / 256 = (a1 : Int) := by omega
        have m2 : Int.tmod (n : Int) 256 = (a0 : Int) := by rw [Int.tmod_eq_emod_of_nonneg (by omega)]; omega
        have m3 : Int.tdiv (n : Int) 256 = (a1 : Int) := by rw [Int.tdiv_eq_ediv_of_nonneg (by omega)]; omega
        have m4 : (a1 : Int) % 256 = (a1 : Int) := by omega
        have m5 : (a0 : Int) % 256 = (a0 : Int) := by omega
        have m6 : 255 - (a0 : Int) = (b0 : Int) := by omega
        have m7 : 255 - (a1 : Int) = (b1 : Int) := by omega
        have m8 : (b0 : Int) % 256 = (b0 : Int) := by omega
        have m9 : (b1 : Int) % 256 = (b1 : Int) := by omega
        have u0 : IntKind.u8.wrap (n : Int) = (a0 : Int) := by rw [IntKind.wrap_u8]; omega
        have u1 : IntKind.u8.wrap (a1 : Int) = (a1 : Int) := by rw [IntKind.wrap_u8]; omega
        have u2_ : IntKind.u8.wrap (a0 : Int) = (a0 : Int) := by rw [IntKind.wrap_u8]; omega
        have u3_ : IntKind.u8.wrap (b0 : Int) = (b0 : Int) := by rw [IntKind.wrap_u8]; omega
        have u4_ : IntKind.u8.wrap (b1 : Int) = (b1 : Int) := by rw [IntKind.wrap_u8]; omega
        have HT := Aside0.mk (show Kd.C (Kd.int .u8) w A n x by rw [← hn]; exact hC)
        have hcut1 := cut_to (P := Try.prog) 22 5 .i64 Try.underlying22 HI0.out A x.length c (n : Int) (by omega) (by omega) hc
        have hcut2 := cut_from (P := Try.prog) 22 5 .i64 Try.underlying22 HI0.out 1 HSZ.out A x.length c (n : Int) (by omega) (by omega)
        rw [Int.toNat_natCast] at hcut1 hcut2
        obtain ⟨A6, hA6⟩ : ∃ A6, (if c = n then A else A.map (·.add (n * 1))) = A6 := ⟨_, rfl⟩
        rw [hA6] at hcut2
        clear he hk hy hB hR hC hx hn e0 e1 f0 f1 hc hA6
        go_wp2_with (first
          | ((with_reducible refine gate_builtin (b := .append) (xs := #[.tmp 29, .tmp 32]) rfl ?_); at_builtin; have q_ := HO5; clear q_; refine Kd.R_append_rows (Kd.int .u8) (w0 := w) w.heap.size rfl (.tmp 29) (.tmp 32) 22 5 (.int .u8 0) 1 rfl Try.underlying22 info5 rfl (by decide) (by omega) v5 (y ++ ([1, (a0 : Int), (a1 : Int), Go.bits .xor .u8 IntKind.u8.max (a0 : Int), Go.bits .xor .u8 IntKind.u8.max (a1 : Int)])) (x) A n c (fun _ => True) (fun _ => False) rfl rfl ?aO ?aR (fun _ _ h => h) (fun _ h => h.elim) (fun _ _ => trivial) ?aB ?aS ?aL ?_; (case aO => exact HO5.out); (case aR => exact Kd.C_below HT.out HB5.out); (case aB => exact HB5.out); (case aS => exact HB5.out.size); (case aL => have := HA.out; rw [List.length_append]; show (y.length + 5 + _) * 1 ≤ _; omega); intro v6 w6 ho6 hb6 hg6 hat6; have HO6 := Aside0.mk ho6; have HB6 := Aside0.mk hb6; clear ho6 hb6 hg6 hat6)
          | ((with_reducible refine gate_builtin (b := .append) (xs := #[.tmp 13, .tmp 27]) rfl ?_); at_builtin; refine Kd.R_append_rows (Kd.int .u8) (w0 := w) w.heap.size rfl (.tmp 13) (.tmp 27) 22 5 (.int .u8 0) 1 rfl Try.underlying22 info5 rfl (by decide) (by omega) (.slice A9 y.length c9) y ([1, (a0 : Int), (a1 : Int), Go.bits .xor .u8 IntKind.u8.max (a0 : Int), Go.bits .xor .u8 IntKind.u8.max (a1 : Int)]) (some ⟨wr.heap.size, 0, none⟩) 5 5 (fun _ => True) (fun _ => False) rfl rfl ?aO ?aR (fun _ _ h => h) (fun _ h => h.elim) (fun _ _ => trivial) ?aB ?aS ?aL ?_; (case aO => exact Kd.R_alloc HR.out _); (case aR => exact lit_rows wr ([1, (a0 : Int), (a1 : Int), Go.bits .xor .u8 IntKind.u8.max (a0 : Int), Go.bits .xor .u8 IntKind.u8.max (a1 : Int)]) (show 5 ≤ 1000 by decide)); (case aB => exact HB.out.alloc HB.out.size _); (case aS => have := HB.out.size; simp; omega); (case aL => have := HA.out; omega); intro v5 w5 ho5 hb5 hg5 hat5; have HO5 := Aside0.mk ho5; have HB5 := Aside0.mk hb5; clear ho5 hb5 hg5 hat5))
        all_goals
          go_ret
          refine ⟨_, rfl, ?_, HB6.out⟩
          have e := HO6.out
          rw [List.append_assoc, ← HH.out, HE.out] at e
          exact e
      · rw [storedL_more k x hx] at he
        have HE := Aside0.mk he
        have hx1 : 65535 < (x.length : Int) := by omega
        have HH := Aside0.mk (show stHead 0 65535 = [0, 255, 255, Go.bits .xor .u8 IntKind.u8.max 255, Go.bits .xor .u8 IntKind.u8.max 255] by rw [show (255 : Int) = ((255 : Nat) : Int) from rfl, xor_u8 255 (by decide)]; rfl)
        have hT := Kd.C_take (m := 65535) hC (by omega)
        have hTl : (x.take 65535).length = 65535 := by rw [List.length_take]; omega
        rw [hTl] at hT
        have HT := Aside0.mk hT
        have hD := Kd.C_drop (m := 65535) (c := c) hC (by omega) hc
        rw [show (Kd.int .u8).sz = 1 from rfl, Nat.mul_one] at hD
        have hDl : (x.drop 65535).length = x.length - 65535 := List.length_drop
        have hcut1 := cut_to (P := Try.prog) 22 5 .i64 Try.underlying22 HI0.out A x.length c 65535 (by omega) (by omega) hc
        have hcut2 := cut_from (P := Try.prog) 22 5 .i64 Try.underlying22 HI0.out 1 HSZ.out A x.length c 65535 (by omega) (by omega)
        rw [show (65535 : Int).toNat = 65535 from rfl] at hcut1 hcut2
        rw [Nat.mul_one] at hcut2
        obtain ⟨A6, hA6⟩ : ∃ A6, (if c = 65535 then A else A.map (·.add 65535)) = A6 := ⟨_, rfl⟩
        rw [hA6] at hD hcut2
        obtain ⟨x', hx'⟩ : ∃ x', x.drop 65535 = x' := ⟨_, rfl⟩
        rw [hx'] at hD hDl
        rw [← hDl] at hcut2
        have HD := Aside0.mk hD
        have HDL := Aside0.mk hDl
        have HX' := Aside0.mk hx'
        have HX := Aside0.mk hx
        clear he hk hy hB hR hC hx hT hTl hD hDl hA6 hx' hc
        go_wp2_with (first
          | ((with_reducible refine gate_builtin (b := .append) (xs := #[.tmp 29, .tmp 32]) rfl ?_); at_builtin; have q_ := HO5; clear q_; refine Kd.R_append_rows (Kd.int .u8) (w0 := w) w.heap.size rfl (.tmp 29) (.tmp 32) 22 5 (.int .u8 0) 1 rfl Try.underlying22 info5 rfl (by decide) (by omega) v5 (y ++ ([0, 255, 255, Go.bits .xor .u8 IntKind.u8.max 255, Go.bits .xor .u8 IntKind.u8.max 255])) (x.take 65535) A 65535 c (fun _ => True) (fun _ => False) rfl rfl ?aO ?aR (fun _ _ h => h) (fun _ h => h.elim) (fun _ _ => trivial) ?aB ?aS ?aL ?_; (case aO => exact HO5.out); (case aR => exact Kd.C_below HT.out HB5.out); (case aB => exact HB5.out); (case aS => exact HB5.out.size); (case aL => have := HA.out; rw [List.length_append]; show (y.length + 5 + _) * 1 ≤ _; omega); intro v6 w6 ho6 hb6 hg6 hat6; have HO6 := Aside0.mk ho6; have HB6 := Aside0.mk hb6; clear ho6 hb6 hg6 hat6)
          | ((with_reducible refine gate_builtin (b := .append) (xs := #[.tmp 13, .tmp 27]) rfl ?_); at_builtin; refine Kd.R_append_rows (Kd.int .u8) (w0 := w) w.heap.size rfl (.tmp 13) (.tmp 27) 22 5 (.int .u8 0) 1 rfl Try.underlying22 info5 rfl (by decide) (by omega) (.slice A9 y.length c9) y ([0, 255, 255, Go.bits .xor .u8 IntKind.u8.max 255, Go.bits .xor .u8 IntKind.u8.max 255]) (some ⟨wr.heap.size, 0, none⟩) 5 5 (fun _ => True) (fun _ => False) rfl rfl ?aO ?aR (fun _ _ h => h) (fun _ h => h.elim) (fun _ _ => trivial) ?aB ?aS ?aL ?_; (case aO => exact Kd.R_alloc HR.out _); (case aR => exact lit_rows wr ([0, 255, 255, Go.bits .xor .u8 IntKind.u8.max 255, Go.bits .xor .u8 IntKind.u8.max 255]) (show 5 ≤ 1000 by decide)); (case aB => exact HB.out.alloc HB.out.size _); (case aS => have := HB.out.size; simp; omega); (case aL => have := HA.out; omega); intro v5 w5 ho5 hb5 hg5 hat5; have HO5 := Aside0.mk ho5; have HB5 := Aside0.mk hb5; clear ho5 hb5 hg5 hat5))
        go_roundw
        case rel =>
          have e := HO6.out
          rw [← HH.out] at e
          have he := HE.out
          have hl : (y ++ stHead 0 65535 ++ x.take 65535).length = y.length + 5 + 65535 := by rw [List.length_append, List.length_append, List.length_take]; have := HX.out; show y.length + 5 + _ = _; omega
          refine ⟨x', _, A6, c - 65535, k, rfl, by have := HA.out; have := HDL.out; omega, HD.out, e, ?_, by have := HA.out; have := HDL.out; have := HX.out; omega, by rw [hl]; have := HA.out; have := HDL.out; have := HX.out; omega, HB6.out⟩
          rw [← he, ← HX'.out, List.append_assoc, List.append_assoc, List.append_assoc]
        case measure =>
          show x'.length < x.length
          have := HDL.out; have := HX.out
          omega
  · rw [if_neg hl0] at h
    cases h

/-! ### lanyardlaw04_awake: function 9 -/
theorem awake_d0 : flate_Deflate.f [] = some ([3, 0], 0) := by decide +kernel
theorem awake_d1 : flate_Deflate.f [97, 97, 97, 97, 97] = some ([75, 4, 1, 0], 0) := by decide +kernel
theorem awake_s : flate_Stored.f [97] = some [1, 1, 0, 254, 255, 97] := by decide +kernel
theorem below_next {B : Nat} {w W W2 : World} {o : Obj} (h : Below B w W) (hB : B ≤ w.heap.size) (h2 : Below (W.alloc o).heap.size (W.alloc o) W2) : Below B w W2 :=
  (h.alloc (Nat.le_trans hB h.size) o).trans (h2.mono (by rw [World.size_alloc]; have := h.size; omega))
theorem lit_a1 (W : World) (fr : Nat × Nat) : Kd.C (Kd.int .u8) (W.alloc (.cells #[.int .u8 97] 5 fr)) (some ⟨W.heap.size, 0, none⟩) ([97] : List Int).length [97] :=
  bytes_row (l := [97]) (by decide) (fun j hj => by rw [World.cell?_alloc_mark]; match j, hj with | 0, _ => rfl)
theorem lit_a5 (W : World) (fr : Nat × Nat) : Kd.C (Kd.int .u8) (W.alloc (.cells #[.int .u8 97, .int .u8 97, .int .u8 97, .int .u8 97, .int .u8 97] 5 fr)) (some ⟨W.heap.size, 0, none⟩) ([97, 97, 97, 97, 97] : List Int).length [97, 97, 97, 97, 97] :=
  bytes_row (l := [97, 97, 97, 97, 97]) (by decide) (fun j hj => by rw [World.cell?_alloc_mark]; match j, hj with | 0, _ => rfl | 1, _ => rfl | 2, _ => rfl | 3, _ => rfl | 4, _ => rfl)
theorem R_next {b : Nat} {W W2 : World} {o : Obj} {v : Value} {xs : List Int} {ok : Nat → Prop} (h : Kd.R (Kd.int .u8) 5 W b ok v xs) (h2 : Below (W.alloc o).heap.size (W.alloc o) W2) : Kd.R (Kd.int .u8) 5 W2 b ok v xs := Kd.R_below (Kd.R_alloc h o) h2
def lanyardlaw04_awake.f : Option Bool := some true
set_option maxHeartbeats 8000000 in
set_option maxRecDepth 100000 in
theorem lanyardlaw04_awake.calls (r : Bool) (w : World) (h : lanyardlaw04_awake.f = some r) :
    Calls Try.prog 9 #[] w fun e w' => e = .returned (.bool r) ∧ Below w.heap.size w w' := by
  obtain rfl := Option.some.inj h
  have hcv := fun W C n c => Lib.run_convert_bytes_const (P := Try.prog) W 22 5 C n c Try.underlying22 Try.underlying5
  go_enter Try.func9, Try.ntmps9
  go_wp2_with (first
    | (go_at_call 11; refine (flate_Stored.calls (some _) 1 [97] [1, 1, 0, 254, 255, 97] _ (lit_a1 _ _) (by decide) awake_s).mono ?_; rintro e w3 ⟨v3, rfl, ho3, hb3⟩; have B3 := Aside0.mk (below_next B2.out (Nat.le_refl _) hb3); have c1 := own_string (P := Try.prog) Try.underlying22 Try.underlying5 Try.underlying9 (Kd.own_of_R (R_next O1.out hb3)); have c2 := own_string (P := Try.prog) Try.underlying22 Try.underlying5 Try.underlying9 (Kd.own_of_R (R_next O2.out hb3)); have c3 := own_string (P := Try.prog) Try.underlying22 Try.underlying5 Try.underlying9 (Kd.own_of_R ho3); rw [show strOfNums [3, 0] = ⟨#[3, 0]⟩ from rfl] at c1; rw [show strOfNums [75, 4, 1, 0] = ⟨#[75, 4, 1, 0]⟩ from rfl] at c2; rw [show strOfNums [1, 1, 0, 254, 255, 97] = ⟨#[1, 1, 0, 254, 255, 97]⟩ from rfl] at c3; clear ho3 hb3)
    | (go_at_call 10; have q_ := B1; clear q_; refine (flate_Deflate.calls (some _) 5 [97, 97, 97, 97, 97] [75, 4, 1, 0] 0 _ (lit_a5 _ _) (by decide) awake_d1).mono ?_; rintro e w2 ⟨v2, rfl, ho2, hb2⟩; have B2 := Aside0.mk (below_next B1.out (Nat.le_refl _) hb2); replace O1 := Aside0.mk (R_next O1.out hb2); have O2 := Aside0.mk ho2; clear ho2 hb2)
    | (go_at_call 10; refine (flate_Deflate.calls none 0 [] [3, 0] 0 _ (Kd.C_nil _ _) (Nat.le_refl _) awake_d0).mono ?_; rintro e w1 ⟨v1, rfl, ho1, hb1⟩; have O1 := Aside0.mk ho1; have B1 := Aside0.mk hb1; clear ho1 hb1))
  go_ret
  exact ⟨rfl, B3.out⟩

end Go.Proofs.Ytbokeoncpilgpaa.Hp
