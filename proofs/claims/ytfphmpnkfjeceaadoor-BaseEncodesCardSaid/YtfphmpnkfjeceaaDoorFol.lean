/- Texts in lines: the program's fold, the document's, and the statement's own reading of it. -/
import Derived.Test.YtfphmpnkfjeceaaDoorBas
import Derived.Test.YtfphmpnkfjeceaaDoorHp5
import Derived.Test.YtfphmpnkfjeceaaDoorHp9
namespace Go.Proofs.YtfphmpnkfjeceaaDoor.Esc
open Go.RowKit Go.Proofs.YtfphmpnkfjeceaaDoor.Hp Go.Proofs.YtfphmpnkfjeceaaDoorW.PrintWords Go.Proofs.YtfphmpnkfjeceaaDoorW.PrintLast
/-- j bytes stand in the line. -/
def fo (n : Nat) : Nat → List UInt8 → List UInt8
  | _, [] => []
  | j, c :: t => if j = n then 10 :: c :: fo n 1 t else c :: fo n (j + 1) t
theorem fo_zero (n : Nat) (hn : 1 ≤ n) (c : UInt8) (t : List UInt8) : fo n 0 (c :: t) = c :: fo n 1 t := by rw [fo, if_neg (by omega)]
theorem fo_len (n : Nat) : ∀ (l : List UInt8) (j : Nat), (fo n j l).length ≤ 2 * l.length
  | [], _ => by simp [fo]
  | c :: t, j => by
    rw [fo]
    split
    · have := fo_len n t 1; simp only [List.length_cons]; omega
    · have := fo_len n t (j + 1); simp only [List.length_cons]; omega
theorem fo_cut (n : Nat) (hn : 1 ≤ n) : ∀ (l : List UInt8) (j : Nat), j ≤ n → fo n j l = if n - j < l.length then l.take (n - j) ++ 10 :: fo n 0 (l.drop (n - j)) else l
  | [], j, _ => by simp [fo]
  | c :: t, j, hj => by
    rw [fo]
    by_cases h : j = n
    · rw [if_pos h, if_pos (by simp; omega), show n - j = 0 by omega, List.take_zero, List.drop_zero, List.nil_append, fo_zero n hn]
    · rw [if_neg h, fo_cut n hn t (j + 1) (by omega)]
      obtain ⟨m, hm⟩ : ∃ m, n - j = m + 1 := ⟨n - j - 1, by omega⟩
      rw [hm, show n - (j + 1) = m by omega]
      by_cases h2 : m < t.length
      · rw [if_pos h2, if_pos (by simp; omega)]; simp
      · rw [if_neg h2, if_neg (by simp; omega)]
theorem foldL_fo (n : Nat) (hn : 1 ≤ n) : ∀ (k : Nat) (l : List UInt8), l.length ≤ k → foldL n k l = fo n 0 l
  | 0, l, h => by
    obtain rfl : l = [] := List.length_eq_zero_iff.1 (by omega)
    rfl
  | k + 1, l, h => by
    rw [foldL, fo_cut n hn l 0 (by omega), Nat.sub_zero]
    by_cases h2 : n < l.length
    · rw [if_pos h2, if_pos h2, foldL_fo n hn k _ (by rw [List.length_drop]; omega)]
    · rw [if_neg h2, if_neg h2]
theorem ref_fold (s : ByteArray) (hs : s.size ≤ 5000) (n : Nat) (hn : 1 ≤ n) : ∀ (m i j : Nat) (acc : List Int), i + m = s.size → acc.length ≤ 2 * i → (i = 0 ∧ j = 0 ∨ 0 < i ∧ (j = n ∧ i % n = 0 ∨ i % n = j ∧ 0 < j ∧ j < n)) →
    Ev (fun k => lanyardref02_Fold.l0 k s (n : Int) acc (i : Int)) (strOfNums (acc ++ I (fo n j (s.data.toList.drop i))))
  | 0, i, j, acc, hi, ha, hj => by
    rw [drop_end s i (by omega), fo, show I [] = [] from rfl, List.append_nil]
    exact Ev.step (fun k => by rw [lanyardref02_Fold.l0]) (Ev.ifF (by omega) (Ev.now _))
  | m + 1, i, j, acc, hi, ha, hj => by
    have hb := bt_nat s i (by omega)
    have hw : wrap64 ((i : Int) + 1) = ((i + 1 : Nat) : Int) := by unfold wrap64; omega
    have htm : Int.tmod (i : Int) (n : Int) = ((i % n : Nat) : Int) := (Int.ofNat_tmod i n).symm
    rw [drop_cons s i (by omega)]
    generalize s.data.toList.getD i 0 = c at hb
    have hmod : ∀ q : Nat, q < n → i % n = q → (q + 1 = n → (i + 1) % n = 0) ∧ (q + 1 < n → (i + 1) % n = q + 1) := fun q _ h => by
      rw [Nat.add_mod, h]
      constructor
      · intro h1
        by_cases h2 : n = 1
        · subst h2; omega
        · rw [Nat.mod_eq_of_lt (show 1 < n by omega), h1, Nat.mod_self]
      · intro h1
        rw [Nat.mod_eq_of_lt (show 1 < n by omega), Nat.mod_eq_of_lt h1]
    refine Ev.step (fun k => by rw [lanyardref02_Fold.l0]) (Ev.ifT (by omega) (Ev.ifT (by omega) ?_))
    rw [hb, htm, hw]
    rcases hj with ⟨h1, h2⟩ | ⟨h1, h2 | h2⟩
    · refine Ev.ifF (by omega) (Ev.ifT (by omega) (Ev.ifT (by omega) ?_))
      have ih := ref_fold s hs n hn m (i + 1) 1 (acc ++ [(c.toNat : Int)]) (by omega) (by simp; omega) (by
        have := hmod 0 (by omega) (by rw [h1]; exact Nat.zero_mod n)
        by_cases h3 : n = 1
        · exact .inr ⟨by omega, .inl ⟨h3.symm, this.1 (by omega)⟩⟩
        · exact .inr ⟨by omega, .inr ⟨this.2 (by omega), by omega, by omega⟩⟩)
      rw [h2, fo_zero n hn, show I (c :: fo n 1 (s.data.toList.drop (i + 1))) = (c.toNat : Int) :: I (fo n 1 (s.data.toList.drop (i + 1))) from rfl]
      rw [List.append_assoc] at ih
      exact ih
    · refine Ev.ifT (by omega) (Ev.ifF (by omega) (Ev.ifT (by omega) (Ev.ifT (by omega) (Ev.bind (Ev.now _) (Ev.ifT (by omega) (Ev.ifT (by simp; omega) ?_))))))
      have ih := ref_fold s hs n hn m (i + 1) 1 (acc ++ [10] ++ [(c.toNat : Int)]) (by omega) (by simp; omega) (by
        have := hmod 0 (by omega) h2.2
        by_cases h3 : n = 1
        · exact .inr ⟨by omega, .inl ⟨h3.symm, this.1 (by omega)⟩⟩
        · exact .inr ⟨by omega, .inr ⟨this.2 (by omega), by omega, by omega⟩⟩)
      rw [fo, if_pos h2.1, show I (10 :: c :: fo n 1 (s.data.toList.drop (i + 1))) = 10 :: (c.toNat : Int) :: I (fo n 1 (s.data.toList.drop (i + 1))) from rfl]
      rw [show acc ++ 10 :: (c.toNat : Int) :: I (fo n 1 (s.data.toList.drop (i + 1))) = acc ++ [10] ++ [(c.toNat : Int)] ++ I (fo n 1 (s.data.toList.drop (i + 1))) by simp]
      exact ih
    · refine Ev.ifT (by omega) (Ev.ifF (by omega) (Ev.ifF (by omega) (Ev.ifT (by omega) (Ev.ifT (by omega) ?_))))
      have ih := ref_fold s hs n hn m (i + 1) (j + 1) (acc ++ [(c.toNat : Int)]) (by omega) (by simp; omega) (by
        have := hmod j h2.2.2 h2.1
        by_cases h3 : j + 1 = n
        · exact .inr ⟨by omega, .inl ⟨h3, this.1 h3⟩⟩
        · exact .inr ⟨by omega, .inr ⟨this.2 (by omega), by omega, by omega⟩⟩)
      rw [fo, if_neg (by omega), show I (c :: fo n (j + 1) (s.data.toList.drop (i + 1))) = (c.toNat : Int) :: I (fo n (j + 1) (s.data.toList.drop (i + 1))) from rfl]
      rw [List.append_assoc] at ih
      exact ih
theorem ref_none (s : ByteArray) (hs : s.size ≤ 5000) (n : Int) (hn : n < 1) : ∀ (m i : Nat) (acc : List Int), i + m = s.size → acc.length ≤ i →
    Ev (fun k => lanyardref02_Fold.l0 k s n acc (i : Int)) (strOfNums (acc ++ I (s.data.toList.drop i)))
  | 0, i, acc, hi, ha => by
    rw [drop_end s i (by omega), show I [] = [] from rfl, List.append_nil]
    exact Ev.step (fun k => by rw [lanyardref02_Fold.l0]) (Ev.ifF (by omega) (Ev.now _))
  | m + 1, i, acc, hi, ha => by
    have hb := bt_nat s i (by omega)
    have hw : wrap64 ((i : Int) + 1) = ((i + 1 : Nat) : Int) := by unfold wrap64; omega
    rw [drop_cons s i (by omega)]
    generalize s.data.toList.getD i 0 = c at hb
    refine Ev.step (fun k => by rw [lanyardref02_Fold.l0]) (Ev.ifT (by omega) (Ev.ifF (by omega) (Ev.ifT (by omega) (Ev.ifT (by omega) ?_))))
    rw [hb, hw]
    have ih := ref_none s hs n hn m (i + 1) (acc ++ [(c.toNat : Int)]) (by omega) (by simp; omega)
    rw [List.append_assoc] at ih
    exact ih
theorem law_loop (s t : ByteArray) (hs : s.size ≤ 3000) (ht : t.size ≤ 6000) (n : Nat) (hn : 1 ≤ n) : ∀ (m i j p : Nat), p + m = t.size → i ≤ s.size → j ≤ n → j ≤ i → t.data.toList.drop p = fo n j (s.data.toList.drop i) →
    Ev (fun k => lanyardlaw02_BaseFolds.l0 k s (n : Int) t (i : Int) (j : Int) (p : Int)) true
  | 0, i, j, p, hp, hi, hj, hji, h => by
    rw [drop_end t p (by omega)] at h
    have he : i = s.size := by
      by_cases hlt : i < s.size
      · rw [drop_cons s i hlt, fo] at h
        split at h <;> cases h
      · omega
    refine Ev.step (fun k => by rw [lanyardlaw02_BaseFolds.l0]) (Ev.ifF (by omega) ?_)
    rw [show ((i : Int) == (s.size : Int)) = true by rw [he]; simp]
    exact Ev.now _
  | m + 1, i, j, p, hp, hi, hj, hji, h => by
    have hb := bt_nat t p (by omega)
    have hwp : wrap64 ((p : Int) + 1) = ((p + 1 : Nat) : Int) := by unfold wrap64; omega
    rw [drop_cons t p (by omega)] at h
    generalize t.data.toList.getD p 0 = d at hb h
    by_cases hlt : i < s.size
    · have hc := bt_nat s i hlt
      rw [drop_cons s i hlt] at h
      generalize s.data.toList.getD i 0 = c at hc h
      rw [fo] at h
      refine Ev.step (fun k => by rw [lanyardlaw02_BaseFolds.l0]) (Ev.ifT (by omega) ?_)
      by_cases hjn : j = n
      · rw [if_pos hjn] at h
        injection h with h1 h2
        subst h1
        refine Ev.ifT (by omega) (Ev.ifT (by omega) ?_)
        rw [hb, show (((10 : UInt8).toNat : Int) == 10) = true from rfl]
        refine Ev.step (fun k => by rw [lanyardlaw02_BaseFolds.j2]) (Ev.ifT rfl ?_)
        rw [hwp]
        refine law_loop s t hs ht n hn m i 0 (p + 1) (by omega) hi (by omega) (by omega) ?_
        rw [h2, drop_cons s i hlt, fo_zero n hn]
        have h3 : (bt s i) = ((s.data.toList.getD i 0).toNat : Int) := bt_nat s i hlt
        rw [h3] at hc
        have : s.data.toList.getD i 0 = c := UInt8.toNat_inj.1 (by omega)
        rw [this]
      · rw [if_neg hjn] at h
        injection h with h1 h2
        subst h1
        refine Ev.ifF (by omega) ?_
        refine Ev.step (fun k => by rw [lanyardlaw02_BaseFolds.j2]) (Ev.ifF (by simp) (Ev.ifF (by omega) (Ev.ifT (by omega) (Ev.ifT (by omega) (Ev.ifT (by omega) (Ev.ifT (by omega) ?_))))))
        refine Ev.ifT (by rw [hb, hc]) (Ev.ifF (by omega) ?_)
        rw [hwp, show wrap64 ((i : Int) + 1) = ((i + 1 : Nat) : Int) by unfold wrap64; omega, show wrap64 ((j : Int) + 1) = ((j + 1 : Nat) : Int) by unfold wrap64; omega]
        exact law_loop s t hs ht n hn m (i + 1) (j + 1) (p + 1) (by omega) (by omega) (by omega) (by omega) h2
    · rw [drop_end s i (by omega), fo] at h
      cases h
end Go.Proofs.YtfphmpnkfjeceaaDoor.Esc
