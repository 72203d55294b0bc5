/- Which bytes are characters: the place of the first bad byte, by the program and by the document. -/
import Derived.Test.YthakidcnlkbbgaaDoorDec
import Derived.Test.YthakidcnlkbbgaaDoorHp1
import Derived.Test.YthakidcnlkbbgaaDoorHp3
import Derived.Test.YthakidcnlkbbgaaDoorHp4
namespace Go.Proofs.YthakidcnlkbbgaaDoor.Esc
open Go.RowKit Go.Proofs.YthakidcnlkbbgaaDoor.Hp Go.Proofs.YthakidcnlkbbgaaDoorW.PrintWords Go.Proofs.YthakidcnlkbbgaaDoorW.PrintLast
def charB (a : Int) : Bool := decide (9 ≤ a ∧ a ≤ 10 ∨ a = 13 ∨ 32 ≤ a ∧ a ≤ 55295 ∨ 57344 ≤ a ∧ a ≤ 65533 ∨ 65536 ≤ a ∧ a ≤ 1114111)
theorem char_f (a : Int) : chars_char.f a = some (charB a) := by
  unfold chars_char.f chars_inside.f charB
  simp only [List.length_cons, List.length_nil, Nat.zero_add, Nat.lt_add_left_iff_pos, Nat.zero_lt_succ, if_true, Option.bind_some, List.any_cons, List.any_nil, inSpan, Bool.or_false]
  congr 1
  rw [Bool.eq_iff_iff]
  simp only [Bool.or_eq_true, Bool.and_eq_true, decide_eq_true_eq]
  omega
theorem ref_char_f (a : Int) : lanyardref01_Char.f a = some (charB a) := by
  unfold lanyardref01_Char.f charB
  repeat' split
  all_goals (congr 1; first | (symm; apply decide_eq_true; omega) | (symm; apply decide_eq_false; omega) | (rw [decide_eq_decide]; omega))
/-- How many bytes the character has with which bytes begin; 0: there is none that is right. -/
def gd (b : List UInt8) : Nat := if b = [] then 0 else if Right (dN b) ∧ charB ((dN b).1 : Int) = true then (dN b).2 else 0
def badF : Nat → List UInt8 → Option Nat
  | 0, _ => none
  | f + 1, b => if b = [] then none else if gd b = 0 then some 0 else (badF f (b.drop (gd b))).map (· + gd b)
def told (i : Nat) : Option Nat → Int
  | none => -1
  | some p => ((i + p : Nat) : Int)
theorem gd_pos (b : List UInt8) (h : gd b ≠ 0) : b ≠ [] ∧ Right (dN b) ∧ charB ((dN b).1 : Int) = true ∧ gd b = (dN b).2 := by
  unfold gd at h ⊢
  by_cases h0 : b = []
  · rw [if_pos h0] at h; exact absurd rfl h
  rw [if_neg h0] at h ⊢
  by_cases h1 : Right (dN b) ∧ charB ((dN b).1 : Int) = true
  · rw [if_pos h1]; exact ⟨h0, h1.1, h1.2, rfl⟩
  · rw [if_neg h1] at h; exact absurd rfl h
theorem gd_zero (b : List UInt8) (h0 : b ≠ []) (h : gd b = 0) : ¬ (Right (dN b) ∧ charB ((dN b).1 : Int) = true) := by
  intro h1
  unfold gd at h
  rw [if_neg h0, if_pos h1] at h
  have := dN_wide b h0
  omega
theorem gd_le (b : List UInt8) : gd b ≤ b.length ∧ gd b ≤ 4 := by
  by_cases h : gd b = 0
  · omega
  · obtain ⟨h0, _, _, e⟩ := gd_pos b h
    have := dN_wide b h0
    omega
theorem bad_loop (b : List UInt8) (hb : b.length ≤ 1000000000) : ∀ (f i : Nat), b.length - i < f → i ≤ b.length → Ev (fun k => chars_Bad.l0 k (I b) (i : Int)) (told i (badF f (b.drop i)))
  | 0, i, hf, _ => absurd hf (by omega)
  | f + 1, i, hf, hi => by
    by_cases he : i < b.length
    · have hne : b.drop i ≠ [] := by intro h; have := congrArg List.length h; rw [List.length_drop] at this; simp at this; omega
      refine Ev.step (fun k => by rw [chars_Bad.l0]) (Ev.ifT (by rw [I_len]; omega) (Ev.ifT (by omega) (Ev.ifT (by rw [I_len]; omega) ?_)))
      rw [show ((i : Int)).toNat = i by omega, I_drop]
      refine Ev.bindC (dec_f _ hne) ?_
      rw [badF, if_neg hne]
      have hw := dN_wide _ hne
      have hl : (b.drop i).length = b.length - i := List.length_drop
      have good : gd (b.drop i) ≠ 0 → gd (b.drop i) = (dN (b.drop i)).2 → Ev (fun k => chars_Bad.l0 k (I b) (wrap64 ((i : Int) + ((dN (b.drop i)).2 : Int)))) (told i (if gd (b.drop i) = 0 then some 0 else (badF f ((b.drop i).drop (gd (b.drop i)))).map (· + gd (b.drop i)))) := by
        intro hg e
        rw [if_neg hg, w64 (by omega) (by omega), List.drop_drop, e]
        have := bad_loop b hb f (i + (dN (b.drop i)).2) (by omega) (by omega)
        have e2 : told i ((badF f (b.drop (i + (dN (b.drop i)).2))).map (· + (dN (b.drop i)).2)) = told (i + (dN (b.drop i)).2) (badF f (b.drop (i + (dN (b.drop i)).2))) := by
          cases badF f (b.drop (i + (dN (b.drop i)).2)) with
          | none => rfl
          | some p => simp only [Option.map_some, told]; congr 1; omega
        rw [e2]
        exact this
      have badHere : ¬ (Right (dN (b.drop i)) ∧ charB ((dN (b.drop i)).1 : Int) = true) → ((i : Int)) = told i (if gd (b.drop i) = 0 then some 0 else (badF f ((b.drop i).drop (gd (b.drop i)))).map (· + gd (b.drop i))) := by
        intro h
        have : gd (b.drop i) = 0 := by unfold gd; rw [if_neg hne, if_neg h]
        rw [if_pos this]; rfl
      have okHere : Right (dN (b.drop i)) → charB ((dN (b.drop i)).1 : Int) = true → gd (b.drop i) ≠ 0 ∧ gd (b.drop i) = (dN (b.drop i)).2 := by
        intro h1 h2
        have : gd (b.drop i) = (dN (b.drop i)).2 := by unfold gd; rw [if_neg hne, if_pos ⟨h1, h2⟩]
        exact ⟨by omega, this⟩
      have test : Right (dN (b.drop i)) → Ev (fun k => (chars_char.f ((dN (b.drop i)).1 : Int)).bind fun t => if t = true then chars_Bad.l0 k (I b) (wrap64 ((i : Int) + ((dN (b.drop i)).2 : Int))) else some (i : Int)) (told i (if gd (b.drop i) = 0 then some 0 else (badF f ((b.drop i).drop (gd (b.drop i)))).map (· + gd (b.drop i)))) := by
        intro hr
        refine Ev.bindC (char_f _) ?_
        cases hc : charB ((dN (b.drop i)).1 : Int) with
        | true => exact Ev.ifT rfl (good (okHere hr hc).1 (okHere hr hc).2)
        | false => rw [← badHere (fun h => by rw [hc] at h; simp at h)]; exact Ev.ifF (by simp) (Ev.now _)
      by_cases h1 : ((dN (b.drop i)).1 : Int) = 65533
      · refine Ev.ifT h1 ?_
        by_cases h2 : ((dN (b.drop i)).2 : Int) < 3
        · rw [← badHere (fun h => h.1 ⟨by omega, by omega⟩)]
          exact Ev.ifT h2 (Ev.now _)
        · exact Ev.ifF h2 (test (fun h => h2 (by omega)))
      · exact Ev.ifF h1 (test (fun h => h1 (by omega)))
    · obtain rfl : i = b.length := by omega
      refine Ev.step (fun k => by rw [chars_Bad.l0]) (Ev.ifF (by rw [I_len]; omega) ?_)
      rw [List.drop_of_length_le (Nat.le_refl _), badF, if_pos rfl]
      exact Ev.now _
def bad (b : List UInt8) : Option Nat := badF (b.length + 1) b
theorem bad_ev (b : List UInt8) (hb : b.length ≤ 1000000000) : Ev (fun k => chars_Bad.f k (I b)) (told 0 (bad b)) := by
  unfold chars_Bad.f
  have := bad_loop b hb (b.length + 1) 0 (by omega) (by omega)
  rw [List.drop_zero] at this
  exact this
theorem ref_bad_loop (b : List UInt8) (hb : b.length ≤ 1000000000) : ∀ (f i : Nat), b.length - i < f → i ≤ b.length → Ev (fun k => lanyardref01_Bad.l0 k (I b) (i : Int)) (told i (badF f (b.drop i)))
  | 0, i, hf, _ => absurd hf (by omega)
  | f + 1, i, hf, hi => by
    by_cases he : i < b.length
    · have hne : b.drop i ≠ [] := by intro h; have := congrArg List.length h; rw [List.length_drop] at this; simp at this; omega
      refine Ev.step (fun k => by rw [lanyardref01_Bad.l0]) (Ev.ifT (by rw [I_len]; omega) (Ev.ifT (by omega) (Ev.ifT (by rw [I_len]; omega) ?_)))
      rw [show ((i : Int)).toNat = i by omega, I_drop]
      refine Ev.bind (one_ev _) ?_
      rw [badF, if_neg hne]
      have hw := dN_wide _ hne
      have hl : (b.drop i).length = b.length - i := List.length_drop
      unfold one
      rw [if_neg hne]
      by_cases hr : Right (dN (b.drop i))
      · rw [if_pos hr]
        refine Ev.ifF (by show ¬ ((dN (b.drop i)).2 : Int) = 0; omega) (Ev.bindC (ref_char_f _) ?_)
        by_cases hc : charB ((dN (b.drop i)).1 : Int) = true
        · have e : gd (b.drop i) = (dN (b.drop i)).2 := by unfold gd; rw [if_neg hne, if_pos ⟨hr, hc⟩]
          refine Ev.ifT hc ?_
          show Ev (fun k => lanyardref01_Bad.l0 k (I b) (wrap64 ((i : Int) + ((dN (b.drop i)).2 : Int)))) _
          rw [if_neg (by omega), w64 (by omega) (by omega), List.drop_drop, e]
          have := ref_bad_loop b hb f (i + (dN (b.drop i)).2) (by omega) (by omega)
          have e2 : told i ((badF f (b.drop (i + (dN (b.drop i)).2))).map (· + (dN (b.drop i)).2)) = told (i + (dN (b.drop i)).2) (badF f (b.drop (i + (dN (b.drop i)).2))) := by
            cases badF f (b.drop (i + (dN (b.drop i)).2)) with
            | none => rfl
            | some p => simp only [Option.map_some, told]; congr 1; omega
          rw [e2]
          exact this
        · have e : gd (b.drop i) = 0 := by unfold gd; rw [if_neg hne, if_neg (fun h => hc h.2)]
          refine Ev.ifF hc ?_
          rw [if_pos e]
          exact Ev.now _
      · have e : gd (b.drop i) = 0 := by unfold gd; rw [if_neg hne, if_neg (fun h => hr h.1)]
        rw [if_neg hr]
        refine Ev.ifT rfl ?_
        rw [if_pos e]
        exact Ev.now _
    · obtain rfl : i = b.length := by omega
      refine Ev.step (fun k => by rw [lanyardref01_Bad.l0]) (Ev.ifF (by rw [I_len]; omega) ?_)
      rw [List.drop_of_length_le (Nat.le_refl _), badF, if_pos rfl]
      exact Ev.now _
theorem ref_bad_ev (b : List UInt8) (hb : b.length ≤ 1000000000) : Ev (fun k => lanyardref01_Bad.f k (I b)) (told 0 (bad b)) := by
  unfold lanyardref01_Bad.f
  have := ref_bad_loop b hb (b.length + 1) 0 (by omega) (by omega)
  rw [List.drop_zero] at this
  exact this
end Go.Proofs.YthakidcnlkbbgaaDoor.Esc
