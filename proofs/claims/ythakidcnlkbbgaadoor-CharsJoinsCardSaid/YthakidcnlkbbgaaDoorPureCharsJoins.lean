/- The plain law of CharsJoins: what the printed functions answer, of any bytes and any cut. -/
import Derived.Test.YthakidcnlkbbgaaDoorChr
import Derived.Test.YthakidcnlkbbgaaDoorAwk
import Derived.Test.YthakidcnlkbbgaaDoorHp10
namespace Go.Proofs.YthakidcnlkbbgaaDoor.Esc
open Go.RowKit Go.Proofs.YthakidcnlkbbgaaDoor.Hp Go.Proofs.YthakidcnlkbbgaaDoorW.PrintWords Go.Proofs.YthakidcnlkbbgaaDoorW.PrintLast
theorem gd_nil : gd [] = 0 := rfl
/-- What a character is hangs on its own bytes alone. -/
theorem gd_same (b c : List UInt8) (h : gd b ≠ 0) (hc : c.take (gd b) = b.take (gd b)) : gd c = gd b := by
  obtain ⟨h0, h1, h2, h3⟩ := gd_pos b h
  have e := dN_same b c h0 h1 (by rw [← h3]; exact hc)
  have hn : c ≠ [] := by
    rintro rfl
    have := congrArg List.length hc
    have := gd_le b
    simp at *; omega
  rw [h3]
  unfold gd
  rw [if_neg hn, e, if_pos ⟨h1, h2⟩]
theorem gd_app (b t : List UInt8) (h : gd b ≠ 0) : gd (b ++ t) = gd b := gd_same b _ h (List.take_append_of_le_length (gd_le b).1)
theorem drop_app (b t : List UInt8) (n : Nat) (h : n ≤ b.length) : (b ++ t).drop n = b.drop n ++ t := List.drop_append_of_le_length h
/-- More rounds than bytes are as good as any. -/
theorem badF_more : ∀ (f g : Nat) (b : List UInt8), b.length < f → b.length < g → badF f b = badF g b
  | 0, _, _, h, _ => absurd h (by omega)
  | _ + 1, 0, _, _, h => absurd h (by omega)
  | f + 1, g + 1, b, h1, h2 => by
    rw [badF, badF]
    by_cases h0 : b = []
    · rw [if_pos h0, if_pos h0]
    rw [if_neg h0, if_neg h0]
    by_cases hg : gd b = 0
    · rw [if_pos hg, if_pos hg]
    · have := gd_le b
      rw [if_neg hg, if_neg hg, badF_more f g (b.drop (gd b)) (by rw [List.length_drop]; omega) (by rw [List.length_drop]; omega)]
theorem badF_app : ∀ (f : Nat) (a b : List UInt8), a.length + b.length < f → badF f a = none → badF f (a ++ b) = (badF f b).map (· + a.length)
  | 0, _, _, h, _ => absurd h (by omega)
  | f + 1, a, b, h, hn => by
    by_cases h0 : a = []
    · subst h0
      rw [List.nil_append]
      cases badF (f + 1) b <;> rfl
    rw [badF, if_neg h0] at hn
    by_cases hg : gd a = 0
    · rw [if_pos hg] at hn; simp at hn
    rw [if_neg hg] at hn
    have hl := gd_le a
    have hn' : badF f (a.drop (gd a)) = none := by simpa using hn
    have hab : a ++ b ≠ [] := by simp [h0]
    have ih := badF_app f (a.drop (gd a)) b (by rw [List.length_drop]; omega) hn'
    rw [badF, if_neg hab, gd_app a b hg, if_neg hg, drop_app a b _ hl.1, ih, badF_more f (f + 1) b (by omega) (by omega)]
    cases badF (f + 1) b with
    | none => rfl
    | some p => simp only [Option.map_some, List.length_drop]; congr 1; omega
theorem badF_lt : ∀ (f : Nat) (a : List UInt8) (p : Nat), badF f a = some p → p < a.length
  | 0, _, _, h => by simp [badF] at h
  | f + 1, a, p, h => by
    rw [badF] at h
    by_cases h0 : a = []
    · rw [if_pos h0] at h; simp at h
    rw [if_neg h0] at h
    by_cases hg : gd a = 0
    · rw [if_pos hg] at h
      obtain rfl := Option.some.inj h
      exact List.length_pos_iff.2 h0
    · rw [if_neg hg] at h
      obtain ⟨q, hq, rfl⟩ := Option.map_eq_some_iff.1 h
      have := badF_lt f _ q hq
      rw [List.length_drop] at this
      omega
theorem badF_take : ∀ (f : Nat) (a : List UInt8) (p : Nat), a.length < f → badF f a = some p → badF f (a.take p) = none
  | 0, _, _, h, _ => absurd h (by omega)
  | f + 1, a, p, hf, h => by
    have hlt := badF_lt (f + 1) a p h
    rw [badF] at h
    by_cases h0 : a = []
    · rw [if_pos h0] at h; simp at h
    rw [if_neg h0] at h
    by_cases hg : gd a = 0
    · rw [if_pos hg] at h
      obtain rfl := Option.some.inj h
      rw [List.take_zero, badF, if_pos rfl]
    · rw [if_neg hg] at h
      obtain ⟨q, hq, rfl⟩ := Option.map_eq_some_iff.1 h
      have hl := gd_le a
      have e : gd (a.take (q + gd a)) = gd a := gd_same a _ hg (by rw [List.take_take, Nat.min_eq_left (by omega)])
      have ih := badF_take f _ q (by rw [List.length_drop]; omega) hq
      have hne : a.take (q + gd a) ≠ [] := by intro h; have := congrArg List.length h; rw [List.length_take, List.length_nil] at this; omega
      rw [badF, if_neg hne, e, if_neg hg, List.drop_take, Nat.add_sub_cancel, ih]; rfl
theorem badF_cut : ∀ (f : Nat) (a : List UInt8) (k z : Nat), a.length < f → k ≤ a.length → badF f a = none → badF f (a.take k) = some z → k - z < 4
  | 0, _, _, _, h, _, _, _ => absurd h (by omega)
  | f + 1, a, k, z, hf, hk, hn, hz => by
    have hlt := badF_lt _ _ _ hz
    rw [List.length_take] at hlt
    have h0 : a ≠ [] := by rintro rfl; simp at hlt
    rw [badF, if_neg h0] at hn
    by_cases hg : gd a = 0
    · rw [if_pos hg] at hn; simp at hn
    rw [if_neg hg] at hn
    have hn' : badF f (a.drop (gd a)) = none := by simpa using hn
    have hl := gd_le a
    have hne : a.take k ≠ [] := by intro h; have := congrArg List.length h; rw [List.length_take, List.length_nil] at this; omega
    rw [badF, if_neg hne] at hz
    by_cases hw : gd a ≤ k
    · have e : gd (a.take k) = gd a := gd_same a _ hg (by rw [List.take_take, Nat.min_eq_left hw])
      rw [e, if_neg hg] at hz
      obtain ⟨q, hq, rfl⟩ := Option.map_eq_some_iff.1 hz
      rw [List.drop_take] at hq
      have := badF_cut f (a.drop (gd a)) (k - gd a) q (by rw [List.length_drop]; omega) (by rw [List.length_drop]; omega) hn' hq
      omega
    · by_cases hg2 : gd (a.take k) = 0
      · rw [if_pos hg2] at hz
        obtain rfl := Option.some.inj hz
        omega
      · exfalso
        have hl2 := gd_le (a.take k)
        rw [List.length_take] at hl2
        have := gd_same (a.take k) a hg2 (by rw [List.take_take, Nat.min_eq_left (by omega)])
        omega
theorem tmod_in (x : Int) (n : Nat) (hn : n ≤ 100000) :
    ∃ k : Nat, k ≤ n ∧ Int.tmod (wrap64 (wrap64 (Int.tmod x (wrap64 ((n : Int) + 1)) + (n : Int)) + 1)) (wrap64 ((n : Int) + 1)) = (k : Int) := by
  rw [w64 (x := (n : Int) + 1) (by omega) (by omega)]
  have hb : -((n : Int) + 1) < Int.tmod x ((n : Int) + 1) ∧ Int.tmod x ((n : Int) + 1) < (n : Int) + 1 := by
    have h1 := Int.natAbs_tmod x ((n : Int) + 1)
    have h2 : x.natAbs % ((n : Int) + 1).natAbs < ((n : Int) + 1).natAbs := Nat.mod_lt _ (by omega)
    omega
  generalize Int.tmod x ((n : Int) + 1) = y at hb
  rw [w64 (x := y + (n : Int)) (by omega) (by omega), w64 (x := y + (n : Int) + 1) (by omega) (by omega)]
  have h3 : 0 ≤ y + (n : Int) + 1 := by omega
  refine ⟨(Int.tmod (y + (n : Int) + 1) ((n : Int) + 1)).toNat, ?_, ?_⟩
  · have := Int.tmod_lt_of_pos (y + (n : Int) + 1) (show 0 < (n : Int) + 1 by omega)
    omega
  · have := Int.tmod_nonneg ((n : Int) + 1) h3
    omega
theorem told0 (p : Nat) : told 0 (some p) = (p : Int) := by show ((0 + p : Nat) : Int) = p; omega
end Go.Proofs.YthakidcnlkbbgaaDoor.Esc
namespace Go.Proofs.YthakidcnlkbbgaaDoor.Pure
open Go.RowKit Go.Proofs.YthakidcnlkbbgaaDoor.Hp Go.Proofs.YthakidcnlkbbgaaDoor.Esc Go.Proofs.YthakidcnlkbbgaaDoorW.PrintWords Go.Proofs.YthakidcnlkbbgaaDoorW.PrintLast
theorem joins_tail (a : List UInt8) (c : Int) (ha : a.length ≤ 2000) : Ev (fun k => lanyardlaw01_CharsJoins.j1 k (I a) c (told 0 (bad a)) false) true := by
  refine Ev.step (fun k => by rw [lanyardlaw01_CharsJoins.j1]) (Ev.ifF (by simp) ?_)
  cases hb : bad a with
  | some x =>
    have hlt := badF_lt _ _ _ hb
    have ht := badF_take _ _ _ (Nat.lt_succ_self _) hb
    rw [told0]
    refine Ev.ifT (by omega) (Ev.ifT (by omega) (Ev.ifT (by rw [I_len]; omega) ?_))
    rw [show ((x : Int)).toNat = x by omega, I_take]
    have e := bad_ev (a.take x) (by rw [List.length_take]; omega)
    rw [show bad (a.take x) = none from (badF_more _ _ _ (Nat.lt_succ_self _) (by rw [List.length_take]; omega)).trans ht] at e
    refine Ev.bind e (Ev.ifT rfl ?_)
    rw [decide_eq_true (by rw [I_len]; omega)]
    exact Ev.now true
  | none =>
    refine Ev.ifF (by decide) ?_
    rw [I_len]
    obtain ⟨k, hk, e⟩ := tmod_in c a.length (by omega)
    rw [e]
    refine Ev.ifF (by rw [w64 (by omega) (by omega)]; omega) (Ev.ifT (by omega) (Ev.ifT (by omega) ?_))
    rw [show ((k : Int)).toNat = k by omega, I_take]
    refine Ev.bind (bad_ev (a.take k) (by rw [List.length_take]; omega)) ?_
    cases hz : bad (a.take k) with
    | none => exact Ev.ifT (by decide) (Ev.now true)
    | some z =>
      have hcut := badF_cut (a.length + 1) a k z (Nat.lt_succ_self _) hk hb ((badF_more _ _ _ (by rw [List.length_take]; omega) (Nat.lt_succ_self _)).trans hz)
      have hlt := badF_lt _ _ _ hz
      rw [List.length_take] at hlt
      rw [told0]
      refine Ev.ifF (by omega) ?_
      rw [decide_eq_true (by rw [w64 (by omega) (by omega)]; omega)]
      exact Ev.now true
theorem CharsJoins : lanyardlaw01_CharsJoins.Pure := by
  intro l0 l1 c _ _ hw _ _ hw1 _
  obtain ⟨a, rfl⟩ := I_of hw
  obtain ⟨b, rfl⟩ := I_of hw1
  refine Ev.rounds (?_ : Ev (fun k => lanyardlaw01_CharsJoins.f k (I a) (I b) c) true)
  have slow : Ev (fun k => lanyardlaw01_CharsJoins.j0 k (I a) (I b) c true) true := Ev.step (fun k => by rw [lanyardlaw01_CharsJoins.j0]) (Ev.ifT rfl (Ev.bind awake_ev (Ev.now _)))
  unfold lanyardlaw01_CharsJoins.f
  refine Ev.bind awake_ev (Ev.ifT rfl ?_)
  by_cases h0 : ((I a).length : Int) > 2000
  · exact Ev.ifT h0 slow
  refine Ev.ifF h0 ?_
  by_cases h1 : ((I b).length : Int) > 2000
  · rw [decide_eq_true h1]; exact slow
  rw [decide_eq_false h1]
  rw [I_len] at h0 h1
  refine Ev.step (fun k => by rw [lanyardlaw01_CharsJoins.j0]) (Ev.ifF (by simp) ?_)
  refine Ev.bind (bad_ev a (by omega)) (Ev.bind (bad_ev b (by omega)) ?_)
  refine Ev.bindC (a := ([] : List Int)) rfl ?_
  refine Ev.ifT (by rw [I_len, List.length_nil]; omega) ?_
  rw [List.nil_append]
  refine Ev.bindC (a := I a) rfl ?_
  refine Ev.ifT (by rw [I_len, I_len]; omega) ?_
  rw [← I_app]
  refine Ev.bindC (a := I (a ++ b)) rfl ?_
  have tail := joins_tail a c (by omega)
  have eAll := bad_ev (a ++ b) (by rw [List.length_append]; omega)
  cases hb : bad a with
  | some x =>
    rw [told0]
    rw [hb, told0] at tail
    exact Ev.ifF (by omega) tail
  | none =>
    have hab : bad (a ++ b) = (bad b).map (· + a.length) := by
      have := badF_app ((a ++ b).length + 1) a b (by rw [List.length_append]; omega) ((badF_more _ _ _ (by rw [List.length_append]; omega) (Nat.lt_succ_self _)).trans hb)
      unfold bad
      rw [this, badF_more _ (b.length + 1) b (by rw [List.length_append]; omega) (Nat.lt_succ_self _)]
    rw [hab] at eAll
    rw [hb] at tail
    refine Ev.ifT (by decide) (Ev.bind eAll ?_)
    cases hb2 : bad b with
    | none =>
      rw [hb2] at eAll
      refine Ev.ifF (by simp [told]) (Ev.ifF (by decide) tail)
    | some y =>
      rw [hb2] at eAll
      have hlt := badF_lt _ _ _ hb2
      have e2 : told 0 ((some y).map (· + a.length)) = ((y + a.length : Nat) : Int) := told0 _
      rw [e2] at eAll ⊢
      rw [told0]
      refine Ev.ifF ?_ (Ev.ifT (by omega) (Ev.bind eAll ?_))
      · rw [decide_eq_false (show ¬ (y : Int) < 0 by omega), decide_eq_false (show ¬ ((y + a.length : Nat) : Int) < 0 by omega)]; decide
      · rw [I_len, w64 (by omega) (by omega), show (((y + a.length : Nat) : Int) != (a.length : Int) + (y : Int)) = false by simp; omega]
        exact tail
end Go.Proofs.YthakidcnlkbbgaaDoor.Pure
