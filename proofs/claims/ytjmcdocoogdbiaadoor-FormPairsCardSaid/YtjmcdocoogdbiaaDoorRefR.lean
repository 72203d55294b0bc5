/- The document's cutting of a query at '&', and its whole answer. -/
import Derived.Test.YtjmcdocoogdbiaaDoorRefQ
import Derived.Test.YtjmcdocoogdbiaaDoorHp0
import Derived.Test.YtjmcdocoogdbiaaDoorHp7
namespace Go.Proofs.YtjmcdocoogdbiaaDoor.Esc
open Go.RowKit Go.Proofs.YtjmcdocoogdbiaaDoor.Hp Go.Proofs.YtjmcdocoogdbiaaDoorW.PrintWords Go.Proofs.YtjmcdocoogdbiaaDoorW.PrintLast
def full (x : List UInt8) : Bool := !x.isEmpty
def answer (ps : List (List UInt8)) : List S40 × Int := if 64 < ps.length then ([], 12) else toldP [] (pairsOf ps)
theorem getD_drop (l : List UInt8) (f j : Nat) : (l.drop f).getD j 0 = l.getD (f + j) 0 := by
  simp [List.getD_eq_getElem?_getD, List.getElem?_drop]
theorem ext_cut (s : ByteArray) (f i : Nat) : s.extract f i = bs ((s.data.toList.drop f).take (i - f)) := ext (by rw [ByteArray.data_extract, Array.toList_extract, List.extract_eq_take_drop, bs_data])
theorem rs_loop (s : ByteArray) (hs : s.size ≤ 100000) : ∀ (m i f : Nat) (acc : List (List UInt8)), s.size + 1 - i = m → i ≤ s.size + 1 → f ≤ i → (∀ t, f ≤ t → t < i → t < s.size → s.data.toList.getD t 0 ≠ 38) → (i = s.size + 1 → f = i) → acc.length ≤ i → (∀ x ∈ acc, x.length ≤ 100000) →
    Ev (fun k => lanyardref03_ParseQuery.l0 k s (acc.map bs) (f : Int) (i : Int)) (answer (acc ++ if f ≤ s.size then (spl 38 (s.data.toList.drop f)).filter full else []))
  | 0, i, f, acc, hm, hi, hf, hne, hend, ha, hb => by
    obtain rfl : i = s.size + 1 := by omega
    have := hend rfl
    rw [if_neg (by omega), List.append_nil]
    refine Ev.step (fun k => by rw [lanyardref03_ParseQuery.l0]) (Ev.ifF (by omega) ?_)
    unfold answer
    by_cases h : 64 < acc.length
    · rw [if_pos h]
      exact Ev.ifT (by rw [List.length_map]; omega) (Ev.now _)
    · rw [if_neg h]
      refine Ev.ifF (by rw [List.length_map]; omega) ?_
      exact rq_loop acc (fun x hx => by have := hb x hx; omega) (by omega) _ 0 [] rfl (by omega) (by simp)
  | m + 1, i, f, acc, hm, hi, hf, hne, hend, ha, hb => by
    have hLs : s.data.toList.length = s.size := len_data s
    have hw : wrap64 ((i : Int) + 1) = ((i + 1 : Nat) : Int) := by rw [w64 (by omega) (by omega)]; omega
    rw [if_pos (by omega)]
    -- a piece ends here
    have cutHere : (i = s.size ∨ (i < s.size ∧ s.data.toList.getD i 0 = 38)) → Ev (fun k => lanyardref03_ParseQuery.j1 k s (acc.map bs) (f : Int) (i : Int) true) (answer (acc ++ (spl 38 (s.data.toList.drop f)).filter full)) := by
      intro hc
      have hspl : (spl 38 (s.data.toList.drop f)).filter full = (if f < i then [(s.data.toList.drop f).take (i - f)] else []) ++ (if i + 1 ≤ s.size then (spl 38 (s.data.toList.drop (i + 1))).filter full else []) := by
        rcases hc with rfl | ⟨hlt, h38⟩
        · rw [if_neg (by omega : ¬ s.size + 1 ≤ s.size), List.append_nil, spl_miss 38 _ (index_no 38 _ (fun j hj => by rw [getD_drop]; rw [List.length_drop] at hj; exact hne _ (by omega) (by omega) (by omega)))]
          rw [List.take_of_length_le (by rw [List.length_drop]; omega)]
          by_cases h : f < s.size
          · rw [if_pos h]
            have : full (s.data.toList.drop f) = true := by
              unfold full
              simp only [Bool.not_eq_true', List.isEmpty_eq_false_iff]
              intro e
              have := congrArg List.length e
              rw [List.length_drop] at this
              simp at this; omega
            rw [List.filter_cons_of_pos this]; rfl
          · rw [if_neg h, List.drop_of_length_le (by omega)]; rfl
        · rw [if_pos (by omega : i + 1 ≤ s.size), spl_hit 38 _ (i - f) (index_at 38 _ _ (by rw [List.length_drop]; omega) (fun j hj => by rw [getD_drop]; exact hne _ (by omega) (by omega) (by omega)) (by rw [getD_drop, show f + (i - f) = i by omega]; exact h38))]
          rw [List.drop_drop, show f + (i - f + 1) = i + 1 by omega]
          by_cases h : f < i
          · have : full ((s.data.toList.drop f).take (i - f)) = true := by
              unfold full
              simp only [Bool.not_eq_true', List.isEmpty_eq_false_iff]
              intro e
              have := congrArg List.length e
              rw [List.length_take, List.length_drop] at this
              simp at this; omega
            rw [if_pos h, List.filter_cons_of_pos this]; rfl
          · rw [if_neg h, show i - f = 0 by omega]; rfl
      refine Ev.step (fun k => by rw [lanyardref03_ParseQuery.j1]) (Ev.ifT rfl ?_)
      rw [hw, hspl]
      by_cases h : f < i
      · rw [if_pos h]
        refine Ev.ifT (by omega) (Ev.ifT (by omega) (Ev.ifT (by omega) (Ev.ifT (by omega) (Ev.ifT (by rw [List.length_map]; omega) ?_))))
        rw [show ((f : Int)).toNat = f by omega, show ((i : Int)).toNat = i by omega, ext_cut]
        have := rs_loop s hs m (i + 1) (i + 1) (acc ++ [(s.data.toList.drop f).take (i - f)]) (by omega) (by omega) (by omega) (fun t h1 h2 => absurd h1 (by omega)) (fun _ => rfl) (by simp; omega) (fun x hx => by
          rcases List.mem_append.1 hx with hx | hx
          · exact hb x hx
          · rw [List.mem_singleton.1 hx, List.length_take, List.length_drop]; omega)
        rw [List.map_append, List.append_assoc] at this
        exact this
      · rw [if_neg h]
        refine Ev.ifF (by omega) ?_
        exact rs_loop s hs m (i + 1) (i + 1) acc (by omega) (by omega) (by omega) (fun t h1 h2 => absurd h1 (by omega)) (fun _ => rfl) (by omega) hb
    refine Ev.step (fun k => by rw [lanyardref03_ParseQuery.l0]) (Ev.ifT (by omega) ?_)
    by_cases hil : i = s.size
    · exact Ev.ifT (by omega) (cutHere (.inl hil))
    · refine Ev.ifF (by omega) (Ev.ifT (by omega) (Ev.ifT (by omega) ?_))
      rw [bt_nat s i (by omega)]
      by_cases h38 : s.data.toList.getD i 0 = 38
      · rw [h38]
        exact cutHere (.inr ⟨by omega, h38⟩)
      · rw [show ((((s.data.toList.getD i 0).toNat : Int)) == 38) = false from beq_eq_false_iff_ne.2 (ne_int (n := 38) (by omega) h38)]
        refine Ev.step (fun k => by rw [lanyardref03_ParseQuery.j1]) (Ev.ifF (by simp) ?_)
        rw [hw]
        have := rs_loop s hs m (i + 1) f acc (by omega) (by omega) (by omega) (fun t h1 h2 h3 => by
          by_cases e : t = i
          · subst e; exact h38
          · exact hne t h1 (by omega) h3) (fun h => absurd h (by omega)) (by omega) hb
        rw [if_pos (by omega)] at this
        exact this
theorem ref_pq_ev (s : ByteArray) (hs : s.size ≤ 100000) : Ev (fun k => lanyardref03_ParseQuery.f k s) (pq s.data.toList) := by
  have := rs_loop s hs (s.size + 1) 0 0 [] (by omega) (by omega) (by omega) (fun t h1 h2 => absurd h2 (by omega)) (fun h => by omega) (by simp) (fun x hx => by cases hx)
  rw [if_pos (by omega), List.nil_append, List.drop_zero] at this
  unfold lanyardref03_ParseQuery.f
  exact this
end Go.Proofs.YtjmcdocoogdbiaaDoor.Esc
