/- The plain law of FormPairs: what the printed functions answer, of any pairs and any name. -/
import Derived.Test.YtjmcdocoogdbiaaDoorQry
import Derived.Test.YtjmcdocoogdbiaaDoorHp0
import Derived.Test.YtjmcdocoogdbiaaDoorHp13
namespace Go.Proofs.YtjmcdocoogdbiaaDoor.Pure
open Go.RowKit Go.Proofs.YtjmcdocoogdbiaaDoor.Hp Go.Proofs.YtjmcdocoogdbiaaDoor.Esc Go.Proofs.YtjmcdocoogdbiaaDoorW.PrintWords Go.Proofs.YtjmcdocoogdbiaaDoorW.PrintLast
theorem pairs_tail (ps : List S40) (n : ByteArray) (hs : Small ps) (hn : ps.length ≤ 100) (i : Int) (hi : ¬ i < (ps.length : Int)) : Ev (fun k => lanyardlaw03_FormPairs.l0 k ps n i) true := by
  have hq := query_len hs
  have e1 := pq_ev (bs (query ps)) (by rw [bs_size]; omega)
  rw [bs_data, pq_query] at e1
  refine Ev.step (fun k => by rw [lanyardlaw03_FormPairs.l0]) (Ev.ifF hi (Ev.bind (query_ev ps hs hn) (Ev.bind e1 (Ev.bind (ref_query_ev ps hs hn) (Ev.ifT rfl ?_)))))
  by_cases h : 64 < ps.length
  · rw [if_pos h]
    exact Ev.ifT (by omega) (Ev.ifT rfl (Ev.now true))
  · rw [if_neg h]
    refine Ev.ifF (by omega) (Ev.bind (get_ev ps n (by omega)) (Ev.bind (ref_get_ev ps n (by omega)) (Ev.ifT rfl (Ev.bind (same_ev ps (by omega)) (Ev.ifT rfl (Ev.ifT rfl ?_))))))
    rw [beq_self_eq_true]
    exact Ev.now true
theorem pairs_loop (ps : List S40) (n : ByteArray) (hn : ps.length ≤ 100) : ∀ (m i : Nat), ps.length - i = m → i ≤ ps.length → (∀ j p, j < i → ps[j]? = some p → p.f0.size ≤ 200 ∧ p.f1.size ≤ 200) → Ev (fun k => lanyardlaw03_FormPairs.l0 k ps n (i : Int)) true
  | 0, i, hm, hi, hs => pairs_tail ps n (fun p hp => by
      obtain ⟨j, hj⟩ := List.getElem?_of_mem hp
      obtain ⟨hlt, _⟩ := List.getElem?_eq_some_iff.1 hj
      exact hs j p (by omega) hj) hn _ (by omega)
  | m + 1, i, hm, hi, hs => by
    obtain ⟨p, hp⟩ : ∃ p, ps[i]? = some p := ⟨ps[i], List.getElem?_eq_getElem (by omega)⟩
    have hw : wrap64 ((i : Int) + 1) = ((i + 1 : Nat) : Int) := by rw [w64 (by omega) (by omega)]; omega
    refine Ev.step (fun k => by rw [lanyardlaw03_FormPairs.l0]) (Ev.ifT (by omega) (Ev.ifT (by omega) ?_))
    rw [rd40 ps i p hp, hw]
    by_cases h0 : (p.f0.size : Int) > 200
    · exact Ev.ifT h0 (Ev.now true)
    refine Ev.ifF h0 ?_
    by_cases h1 : (p.f1.size : Int) > 200
    · exact Ev.ifT h1 (Ev.now true)
    refine Ev.ifF h1 (pairs_loop ps n hn m (i + 1) (by omega) (by omega) (fun j q hj hq => ?_))
    by_cases e : j = i
    · subst e
      obtain rfl : p = q := Option.some.inj (hp.symm.trans hq)
      omega
    · exact hs j q (by omega) hq
theorem FormPairs : lanyardlaw03_FormPairs.Pure := by
  intro l0 a1 _ _ _
  refine Ev.rounds (?_ : Ev (fun k => lanyardlaw03_FormPairs.f k l0 a1) true)
  have slow : Ev (fun k => lanyardlaw03_FormPairs.j0 k l0 a1 true) true := Ev.step (fun k => by rw [lanyardlaw03_FormPairs.j0]) (Ev.ifT rfl (Ev.bind awake_ev (Ev.now _)))
  unfold lanyardlaw03_FormPairs.f
  refine Ev.bind awake_ev (Ev.ifT rfl ?_)
  by_cases h0 : (l0.length : Int) > 100
  · rw [decide_eq_true h0]; exact slow
  rw [decide_eq_false h0]
  refine Ev.step (fun k => by rw [lanyardlaw03_FormPairs.j0]) (Ev.ifF (by simp) ?_)
  exact pairs_loop l0 a1 (by omega) _ 0 rfl (by omega) (fun j p hj => absurd hj (by omega))
end Go.Proofs.YtjmcdocoogdbiaaDoor.Pure
