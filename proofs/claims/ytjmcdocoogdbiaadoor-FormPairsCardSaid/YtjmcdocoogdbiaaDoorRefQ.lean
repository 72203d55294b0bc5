/- A query's pairs: the document's printed function gives the plain answer. -/
import Derived.Test.YtjmcdocoogdbiaaDoorPq
import Derived.Test.YtjmcdocoogdbiaaDoorHp0
import Derived.Test.YtjmcdocoogdbiaaDoorHp7
namespace Go.Proofs.YtjmcdocoogdbiaaDoor.Esc
open Go.RowKit Go.Proofs.YtjmcdocoogdbiaaDoor.Hp Go.Proofs.YtjmcdocoogdbiaaDoorW.PrintWords Go.Proofs.YtjmcdocoogdbiaaDoorW.PrintLast
/-- What stands before the first '=' and behind it, place by place. -/
theorem cut_at (x : List UInt8) (i : Nat) (h : i < x.length) (hne : ∀ j, j < i → x.getD j 0 ≠ 61) (he : x.getD i 0 = 61) : nameOf x = x.take i ∧ valOf x = x.drop (i + 1) := by
  have hi : Lib.index x [61] = i := by
    induction x generalizing i with
    | nil => simp at h
    | cons c l ih =>
      rw [index_cons]
      cases i with
      | zero => rw [if_pos (by simpa using he)]; rfl
      | succ i =>
        have h0 := hne 0 (by omega)
        rw [if_neg (by simpa using h0)]
        have := ih i (by simpa using h) (fun j hj => by simpa using hne (j + 1) (by omega)) (by simpa using he)
        rw [this, if_neg (by omega)]; omega
  unfold nameOf valOf Lib.cut
  rw [hi, if_pos (by omega)]
  simp
theorem cut_none (x : List UInt8) (hne : ∀ j, j < x.length → x.getD j 0 ≠ 61) : nameOf x = x ∧ valOf x = [] := by
  have hi : Lib.index x [61] = -1 := by
    induction x with
    | nil => rfl
    | cons c l ih =>
      have h0 := hne 0 (by simp)
      rw [index_cons, if_neg (by simpa using h0), if_pos (ih (fun j hj => by simpa using hne (j + 1) (by simpa using hj)))]
  unfold nameOf valOf Lib.cut
  rw [hi, if_neg (by omega)]
  simp
theorem ext_take (x : List UInt8) (n : Nat) : (bs x).extract 0 n = bs (x.take n) := ext (by rw [ByteArray.data_extract, Array.toList_extract, List.extract_eq_take_drop, bs_data, bs_data]; simp)
theorem ext_drop (x : List UInt8) (n : Nat) : (bs x).extract n (bs x).size = bs (x.drop n) := ext (by rw [ByteArray.data_extract, Array.toList_extract, List.extract_eq_take_drop, bs_data, bs_data, bs_size, List.take_of_length_le (by rw [List.length_drop]; exact Nat.le_refl _)])
theorem rq_pair (ps : List (List UInt8)) (i : Nat) (x : List UInt8) (hx : ps[i]? = some x) (hl : x.length ≤ 10000000) (acc : List S40) (ha : acc.length ≤ 1000000) (hn : i < 1000000) (p : Nat) (hp : p ≤ x.length)
    (hcut : (p < x.length ∧ nameOf x = x.take p ∧ valOf x = x.drop (p + 1)) ∨ (p = x.length ∧ nameOf x = x ∧ valOf x = [])) (o : Option (List S40))
    (next : ∀ q : S40, Ev (fun k => lanyardref03_ParseQuery.l1 k (ps.map bs) (acc ++ [q]) ((i : Int) + 1)) (toldP (acc ++ [q]) o)) :
    Ev (fun k => lanyardref03_ParseQuery.j4 k (ps.map bs) acc (i : Int) (p : Int)) (toldP acc ((pairOf x).bind fun q => o.map (q :: ·))) := by
  obtain ⟨hlt, hxe⟩ := List.getElem?_eq_some_iff.1 hx
  have hz : (bs x).size = x.length := bs_size x
  refine Ev.step (fun k => by rw [lanyardref03_ParseQuery.j4]) ?_
  refine Ev.ifT (by omega) (Ev.ifT (by rw [List.length_map]; omega) (Ev.ifT (by omega) ?_))
  rw [rd_bs ps i x hx]
  refine Ev.ifT (by omega) ?_
  have hw : wrap64 ((i : Int) + 1) = (i : Int) + 1 := w64 (by omega) (by omega)
  have hnx : ∀ q : S40, toldP acc (o.map (q :: ·)) = toldP (acc ++ [q]) o := fun q => by cases o <;> simp [toldP]
  rw [show ((p : Int)).toNat = p by omega, ext_take]
  rcases hcut with ⟨hpl, h1, h2⟩ | ⟨hpl, h1, h2⟩
  · have e1 := ref_unp_ev (bs (x.take p)) true (by rw [bs_size, List.length_take]; omega)
    have e2 := ref_unp_ev (bs (x.drop (p + 1))) true (by rw [bs_size, List.length_drop]; omega)
    rw [bs_data, ← h1] at e1
    rw [bs_data, ← h2] at e2
    rw [← h1]
    refine Ev.bind e1 (Ev.ifT (by omega) ?_)
    rw [w64 (x := (p : Int) + 1) (by omega) (by omega)]
    refine Ev.ifT (by omega) (Ev.ifT (by omega) ?_)
    rw [show ((p : Int) + 1).toNat = p + 1 by omega, ext_drop, ← h2]
    refine Ev.bind e2 ?_
    rw [pairOf]
    rcases unp true (nameOf x) with _ | a
    · exact Ev.ifF (by simp [said]) (Ev.now _)
    · refine Ev.ifT rfl ?_
      rcases unp true (valOf x) with _ | b
      · exact Ev.ifF (by simp [said]) (Ev.now _)
      · refine Ev.ifT rfl (Ev.ifT (by omega) ?_)
        rw [hw]
        exact (hnx ⟨bs a, bs b⟩) ▸ next ⟨bs a, bs b⟩
  · have e1 := ref_unp_ev (bs (x.take p)) true (by rw [bs_size, List.length_take]; omega)
    rw [bs_data, show x.take p = nameOf x by rw [h1, hpl, List.take_length]] at e1
    rw [show x.take p = nameOf x by rw [h1, hpl, List.take_length]]
    refine Ev.bind e1 (Ev.ifF (by omega) ?_)
    rw [pairOf, h2, unp_nil]
    rcases unp true (nameOf x) with _ | a
    · exact Ev.ifF (by simp [said]) (Ev.now _)
    · refine Ev.ifT rfl (Ev.ifT (by omega) ?_)
      rw [hw]
      exact (hnx ⟨bs a, bs []⟩) ▸ next ⟨bs a, bs []⟩
theorem bt_bs (x : List UInt8) (j : Nat) (h : j < x.length) : bt (bs x) (j : Int) = ((x.getD j 0).toNat : Int) := bt_nat (bs x) j (by rw [bs_size]; exact h)
theorem rq_scan (ps : List (List UInt8)) (i : Nat) (x : List UInt8) (hx : ps[i]? = some x) (hl : x.length ≤ 10000000) (acc : List S40) (ha : acc.length ≤ 1000000) (hn : i < 1000000) (o : Option (List S40))
    (next : ∀ q : S40, Ev (fun k => lanyardref03_ParseQuery.l1 k (ps.map bs) (acc ++ [q]) ((i : Int) + 1)) (toldP (acc ++ [q]) o)) : ∀ (m j : Nat), x.length - j = m → j ≤ x.length → (∀ t, t < j → x.getD t 0 ≠ 61) →
    Ev (fun k => lanyardref03_ParseQuery.l2 k (ps.map bs) acc (i : Int) (j : Int)) (toldP acc ((pairOf x).bind fun q => o.map (q :: ·)))
  | 0, j, hm, hj, hne => by
    obtain ⟨hlt, _⟩ := List.getElem?_eq_some_iff.1 hx
    refine Ev.step (fun k => by rw [lanyardref03_ParseQuery.l2]) ?_
    refine Ev.ifT (by omega) (Ev.ifT (by rw [List.length_map]; omega) ?_)
    rw [rd_bs ps i x hx]
    refine Ev.ifF (by rw [bs_size]; omega) ?_
    obtain rfl : j = x.length := by omega
    exact rq_pair ps i x hx hl acc ha hn _ (Nat.le_refl _) (.inr ⟨rfl, cut_none x hne⟩) o next
  | m + 1, j, hm, hj, hne => by
    obtain ⟨hlt, _⟩ := List.getElem?_eq_some_iff.1 hx
    refine Ev.step (fun k => by rw [lanyardref03_ParseQuery.l2]) ?_
    refine Ev.ifT (by omega) (Ev.ifT (by rw [List.length_map]; omega) ?_)
    rw [rd_bs ps i x hx]
    refine Ev.ifT (by rw [bs_size]; omega) (Ev.ifT (by omega) ?_)
    rw [bt_bs x j (by omega)]
    by_cases he : x.getD j 0 = 61
    · rw [he]
      refine Ev.ifT (by decide) ?_
      exact rq_pair ps i x hx hl acc ha hn j (by omega) (.inl ⟨by omega, cut_at x j (by omega) hne he⟩) o next
    · refine Ev.ifF (ne_int (n := 61) (by omega) he) ?_
      rw [w64 (by omega) (by omega), show (j : Int) + 1 = ((j + 1 : Nat) : Int) by omega]
      refine rq_scan ps i x hx hl acc ha hn o next m (j + 1) (by omega) (by omega) (fun t ht => ?_)
      by_cases h : t = j
      · subst h; exact he
      · exact hne t (by omega)
theorem rq_loop (ps : List (List UInt8)) (hl : ∀ x ∈ ps, x.length ≤ 10000000) (hn : ps.length ≤ 1000000) : ∀ (m i : Nat) (acc : List S40), ps.length - i = m → i ≤ ps.length → acc.length ≤ i →
    Ev (fun k => lanyardref03_ParseQuery.l1 k (ps.map bs) acc (i : Int)) (toldP acc (pairsOf (ps.drop i)))
  | 0, i, acc, hm, hi, _ => by
    refine Ev.step (fun k => by rw [lanyardref03_ParseQuery.l1]) (Ev.ifF (by rw [List.length_map]; omega) ?_)
    rw [List.drop_of_length_le (by omega)]
    simp only [pairsOf, toldP, List.append_nil]
    exact Ev.now _
  | m + 1, i, acc, hm, hi, ha => by
    obtain ⟨x, hx⟩ : ∃ x, ps[i]? = some x := ⟨ps[i], List.getElem?_eq_getElem (by omega)⟩
    obtain ⟨hlt, hxe⟩ := List.getElem?_eq_some_iff.1 hx
    have hd : ps.drop i = x :: ps.drop (i + 1) := by rw [List.drop_eq_getElem_cons hlt, hxe]
    refine Ev.step (fun k => by rw [lanyardref03_ParseQuery.l1]) (Ev.ifT (by rw [List.length_map]; omega) ?_)
    rw [hd, pairsOf]
    refine rq_scan ps i x hx (hl x (hxe ▸ List.getElem_mem hlt)) acc (by omega) (by omega) _ (fun q => ?_) _ 0 rfl (by omega) (fun t ht => absurd ht (by omega))
    have := rq_loop ps hl hn m (i + 1) (acc ++ [q]) (by omega) (by omega) (by simp; omega)
    rw [show (i : Int) + 1 = ((i + 1 : Nat) : Int) by omega]
    exact this
theorem index_at (c : UInt8) : ∀ (x : List UInt8) (i : Nat), i < x.length → (∀ j, j < i → x.getD j 0 ≠ c) → x.getD i 0 = c → Lib.index x [c] = i
  | [], i, h, _, _ => by simp at h
  | d :: l, i, h, hne, he => by
    rw [index_cons]
    cases i with
    | zero => rw [if_pos (by simpa using he)]; rfl
    | succ i =>
      have h0 := hne 0 (by omega)
      rw [if_neg (by simpa using h0)]
      have := index_at c l i (by simpa using h) (fun j hj => by simpa using hne (j + 1) (by omega)) (by simpa using he)
      rw [this, if_neg (by omega)]; omega
theorem index_no (c : UInt8) : ∀ (x : List UInt8), (∀ j, j < x.length → x.getD j 0 ≠ c) → Lib.index x [c] = -1
  | [], _ => rfl
  | d :: l, hne => by
    have h0 := hne 0 (by simp)
    rw [index_cons, if_neg (by simpa using h0), if_pos (index_no c l (fun j hj => by simpa using hne (j + 1) (by simpa using hj)))]
end Go.Proofs.YtjmcdocoogdbiaaDoor.Esc
