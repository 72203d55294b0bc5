/- Pairs as a query: the plain answer, that the program and the document give it, and that it is read as the pairs. -/
import Derived.Test.YtjmcdocoogdbiaaDoorGets
import Derived.Test.YtjmcdocoogdbiaaDoorRefP
import Derived.Test.YtjmcdocoogdbiaaDoorHp0
import Derived.Test.YtjmcdocoogdbiaaDoorHp2
import Derived.Test.YtjmcdocoogdbiaaDoorHp6
import Derived.Test.YtjmcdocoogdbiaaDoorHp8
import Derived.Test.YtjmcdocoogdbiaaDoorHp9
namespace Go.Proofs.YtjmcdocoogdbiaaDoor.Esc
open Go.RowKit Go.Proofs.YtjmcdocoogdbiaaDoor.Hp Go.Proofs.YtjmcdocoogdbiaaDoorW.PrintWords Go.Proofs.YtjmcdocoogdbiaaDoorW.PrintLast
def pc (l : List UInt8) : List UInt8 := fl (hof escape_Percent.g) l
def piece (p : S40) : List UInt8 := pc p.f0.data.toList ++ 61 :: pc p.f1.data.toList
def query (ps : List S40) : List UInt8 := Lib.join (ps.map piece) [38]
def Small (ps : List S40) : Prop := ∀ p ∈ ps, p.f0.size ≤ 200 ∧ p.f1.size ≤ 200
theorem pc_len (l : List UInt8) : (pc l).length ≤ 3 * l.length := fl_len _ 3 (fun c => by rw [percent_h]; split <;> simp) l
theorem piece_len {p : S40} (h : p.f0.size ≤ 200 ∧ p.f1.size ≤ 200) : (piece p).length ≤ 1201 := by
  have h0 := pc_len p.f0.data.toList
  have h1 := pc_len p.f1.data.toList
  rw [len_data] at h0 h1
  unfold piece
  rw [List.length_append, List.length_cons]; omega
theorem join_snoc (s : List UInt8) (x : List UInt8) : ∀ l : List (List UInt8), l ≠ [] → Lib.join (l ++ [x]) s = Lib.join l s ++ s ++ x
  | [], h => absurd rfl h
  | a :: r, _ => by
    rw [List.cons_append, Lib.join_cons, Lib.join_cons, Lib.joinTail, Lib.joinTail]
    simp
theorem join_len (n : Nat) (s : List UInt8) (hs : s.length ≤ 1) : ∀ l : List (List UInt8), (∀ x ∈ l, x.length ≤ n) → (Lib.join l s).length ≤ (n + 1) * l.length
  | [], _ => by simp [Lib.join_nil]
  | x :: r, h => by
    have hr : Lib.lens r ≤ n * r.length := by
      have : ∀ r : List (List UInt8), (∀ x ∈ r, x.length ≤ n) → (r.map List.length).sum ≤ n * r.length := by
        intro r
        induction r with
        | nil => simp
        | cons y r ih =>
          intro h
          have h1 := h y (by simp)
          have h2 := ih (fun z hz => h z (by simp [hz]))
          simp only [List.map_cons, List.sum_cons, List.length_cons]
          rw [Nat.mul_add]; omega
      exact this r (fun z hz => h z (by simp [hz]))
    have hx := h x (by simp)
    rw [Lib.join_length]
    have e : Lib.lens (x :: r) = x.length + Lib.lens r := by simp [Lib.lens]
    have h3 : s.length * r.length ≤ 1 * r.length := Nat.mul_le_mul_right _ hs
    rw [e, List.length_cons, Nat.add_mul, Nat.mul_add]; omega
theorem query_len {ps : List S40} (h : Small ps) : (query ps).length ≤ 1202 * ps.length := by
  have := join_len 1201 [38] (by simp) (ps.map piece) (fun x hx => by
    obtain ⟨p, hp, rfl⟩ := List.mem_map.1 hx
    exact piece_len (h p hp))
  rw [List.length_map] at this
  exact this
theorem small_at {ps : List S40} (h : Small ps) {i : Nat} {p : S40} (hp : ps[i]? = some p) : p.f0.size ≤ 200 ∧ p.f1.size ≤ 200 := h p (List.mem_of_getElem? hp)
theorem bs_app (a b : List UInt8) : bs a ++ bs b = bs (a ++ b) := ext (by rw [app_data, bs_data, bs_data, bs_data])
theorem piece_bs (p : S40) : (bs (pc p.f0.data.toList) ++ (⟨#[61]⟩ : ByteArray)) ++ bs (pc p.f1.data.toList) = bs (piece p) := by
  rw [show (⟨#[61]⟩ : ByteArray) = bs [61] from rfl, bs_app, bs_app, List.append_assoc]; rfl
theorem query_loop (ps : List S40) (hs : Small ps) (hn : ps.length ≤ 100) : ∀ (m i : Nat), ps.length - i = m → i ≤ ps.length →
    Ev (fun k => escape_Query.l0 k ((ps.take i).map fun p => bs (piece p)) ps ((ps.length : Nat) : Int) (i : Int)) (bs (query ps))
  | 0, i, hm, hi => by
    obtain rfl : i = ps.length := by omega
    have hq := query_len hs
    refine Ev.step (fun k => by rw [escape_Query.l0]) (Ev.ifF (by omega) ?_)
    rw [List.take_length]
    have e : (ps.map fun p => bs (piece p)).map (·.data.toList) = ps.map piece := by rw [List.map_map]; rfl
    refine Ev.bindC (a := bs (query ps)) ?_ (Ev.now _)
    unfold strings_Join.f
    rw [if_pos (by rw [e, List.length_map]; exact ⟨by omega, by have : (Lib.join (ps.map piece) [38]).length ≤ _ := hq; show (Lib.join (ps.map piece) [38]).length ≤ _; omega⟩), e]
    rfl
  | m + 1, i, hm, hi => by
    obtain ⟨p, hp⟩ : ∃ p, ps[i]? = some p := ⟨ps[i], List.getElem?_eq_getElem (by omega)⟩
    obtain ⟨hlt, hpe⟩ := List.getElem?_eq_some_iff.1 hp
    have hsm := small_at hs hp
    have h0 := pc_len p.f0.data.toList
    have h1 := pc_len p.f1.data.toList
    rw [len_data] at h0 h1
    have hw : wrap64 ((i : Int) + 1) = ((i + 1 : Nat) : Int) := by rw [w64 (by omega) (by omega)]; omega
    refine Ev.step (fun k => by rw [escape_Query.l0]) (Ev.ifT (by omega) (Ev.ifT (by omega) (Ev.ifT (by omega) ?_)))
    rw [rd40 ps i p hp, hw]
    refine Ev.bindC (percent_f p.f0 (by omega)) (Ev.ifT (by rw [bs_size]; show (pc p.f0.data.toList).length + 1 ≤ _; omega) (Ev.bindC (percent_f p.f1 (by omega)) (Ev.ifT ?_ (Ev.ifT (by rw [List.length_map, List.length_take]; omega) ?_))))
    · show (bs (pc p.f0.data.toList) ++ (⟨#[61]⟩ : ByteArray)).size + (bs (pc p.f1.data.toList)).size ≤ _
      rw [show (⟨#[61]⟩ : ByteArray) = bs [61] from rfl, bs_app, bs_size, bs_size, List.length_append]
      simp; omega
    · show Ev (fun k => escape_Query.l0 k (_ ++ [(bs (pc p.f0.data.toList) ++ (⟨#[61]⟩ : ByteArray)) ++ bs (pc p.f1.data.toList)]) ps _ _) _
      rw [piece_bs]
      have := query_loop ps hs hn m (i + 1) (by omega) (by omega)
      rw [List.take_succ_eq_append_getElem hlt, List.map_append, hpe] at this
      exact this
theorem query_ev (ps : List S40) (hs : Small ps) (hn : ps.length ≤ 100) : Ev (fun k => escape_Query.f k ps) (bs (query ps)) := by
  unfold escape_Query.f
  have := query_loop ps hs hn _ 0 rfl (by omega)
  rw [List.take_zero] at this
  exact this
theorem ref_query_step (ps : List S40) (i : Nat) (p : S40) (hp : ps[i]? = some p) (hi : i < 100) (Q P0 P1 : List UInt8) (hQ : Q.length ≤ 4000000) (h0 : P0.length ≤ 12800) (h1 : P1.length ≤ 12800)
    (e0 : Ev (fun k => lanyardref03_Percent.f k p.f0) (bs P0)) (e1 : Ev (fun k => lanyardref03_Percent.f k p.f1) (bs P1)) (r : ByteArray)
    (nxt : Ev (fun k => lanyardref03_Query.l0 k ps (bs (Q ++ (if i = 0 then [] else [38]) ++ P0 ++ [61] ++ P1)) ((i + 1 : Nat) : Int)) r) : Ev (fun k => lanyardref03_Query.l0 k ps (bs Q) (i : Int)) r := by
  obtain ⟨hlt, hpe⟩ := List.getElem?_eq_some_iff.1 hp
  have hw : wrap64 ((i : Int) + 1) = ((i + 1 : Nat) : Int) := by rw [w64 (by omega) (by omega)]; omega
  refine Ev.step (fun k => by rw [lanyardref03_Query.l0]) (Ev.ifT (by omega) ?_)
  rw [rd40 ps i p hp, hw]
  by_cases hz : i = 0
  · rw [if_pos hz, List.append_nil] at nxt
    refine Ev.ifF (by omega) (Ev.ifT (by omega) (Ev.bind e0 (Ev.ifT ?_ (Ev.ifT ?_ (Ev.bind e1 (Ev.ifT ?_ ?_))))))
    · rw [bs_size, bs_size]; omega
    · rw [bs_app, bs_size, List.length_append]; omega
    · rw [show (⟨#[61]⟩ : ByteArray) = bs [61] from rfl, bs_app, bs_app, bs_size, bs_size, List.length_append, List.length_append, List.length_singleton]; omega
    · rw [show (⟨#[61]⟩ : ByteArray) = bs [61] from rfl, bs_app, bs_app, bs_app]
      exact nxt
  · rw [if_neg hz] at nxt
    refine Ev.ifT (by omega) (Ev.ifT ?_ (Ev.ifT (by omega) (Ev.bind e0 (Ev.ifT ?_ (Ev.ifT ?_ (Ev.bind e1 (Ev.ifT ?_ ?_)))))))
    · rw [bs_size]; omega
    · rw [show (⟨#[38]⟩ : ByteArray) = bs [38] from rfl, bs_app, bs_size, bs_size, List.length_append, List.length_singleton]; omega
    · rw [show (⟨#[38]⟩ : ByteArray) = bs [38] from rfl, bs_app, bs_app, bs_size, List.length_append, List.length_append, List.length_singleton]; omega
    · rw [show (⟨#[38]⟩ : ByteArray) = bs [38] from rfl, show (⟨#[61]⟩ : ByteArray) = bs [61] from rfl, bs_app, bs_app, bs_app, bs_size, bs_size, List.length_append, List.length_append, List.length_append, List.length_singleton, List.length_singleton]; omega
    · rw [show (⟨#[38]⟩ : ByteArray) = bs [38] from rfl, show (⟨#[61]⟩ : ByteArray) = bs [61] from rfl, bs_app, bs_app, bs_app, bs_app]
      exact nxt
theorem query_take (ps : List S40) (i : Nat) (p : S40) (hp : ps[i]? = some p) : query (ps.take (i + 1)) = query (ps.take i) ++ (if i = 0 then [] else [38]) ++ pc p.f0.data.toList ++ [61] ++ pc p.f1.data.toList := by
  obtain ⟨hlt, hpe⟩ := List.getElem?_eq_some_iff.1 hp
  rw [List.take_succ_eq_append_getElem hlt, hpe]
  unfold query
  by_cases hz : i = 0
  · subst hz
    simp [Lib.join_one, piece, Lib.join_nil]
  · rw [if_neg hz, List.map_append, List.map_cons, List.map_nil, join_snoc _ _ _ (by intro h; have := congrArg List.length h; rw [List.length_map, List.length_take, List.length_nil] at this; omega)]
    simp [piece]
theorem ref_query_loop (ps : List S40) (hs : Small ps) (hn : ps.length ≤ 100) : ∀ (m i : Nat), ps.length - i = m → i ≤ ps.length →
    Ev (fun k => lanyardref03_Query.l0 k ps (bs (query (ps.take i))) (i : Int)) (bs (query ps))
  | 0, i, hm, hi => by
    obtain rfl : i = ps.length := by omega
    refine Ev.step (fun k => by rw [lanyardref03_Query.l0]) (Ev.ifF (by omega) ?_)
    rw [List.take_length]
    exact Ev.now _
  | m + 1, i, hm, hi => by
    obtain ⟨p, hp⟩ : ∃ p, ps[i]? = some p := ⟨ps[i], List.getElem?_eq_getElem (by omega)⟩
    have hsm := small_at hs hp
    have h0 := pc_len p.f0.data.toList
    have h1 := pc_len p.f1.data.toList
    rw [len_data] at h0 h1
    have hq := query_len (ps := ps.take i) (fun p hp => hs p (List.mem_of_mem_take hp))
    have hl : (ps.take i).length ≤ 100 := by rw [List.length_take]; omega
    refine ref_query_step ps i p hp (by omega) _ (pc p.f0.data.toList) (pc p.f1.data.toList) (by omega) (by omega) (by omega) (ref_percent_ev p.f0 (by omega)) (ref_percent_ev p.f1 (by omega)) _ ?_
    rw [← query_take ps i p hp]
    exact ref_query_loop ps hs hn m (i + 1) (by omega) (by omega)
theorem ref_query_ev (ps : List S40) (hs : Small ps) (hn : ps.length ≤ 100) : Ev (fun k => lanyardref03_Query.f k ps) (bs (query ps)) := by
  unfold lanyardref03_Query.f
  exact ref_query_loop ps hs hn _ 0 rfl (by omega)
/-- No sign of percent coding is '&' or '='. -/
theorem pc_no (l : List UInt8) : ∀ x ∈ pc l, x ≠ 38 ∧ x ≠ 61 := by
  have f : ∀ c, (hof escape_Percent.g c).all (fun x => x != 38 && x != 61) = true := bytes_all (by decide +kernel)
  intro x hx
  obtain ⟨c, _, hc⟩ := List.mem_flatMap.1 hx
  have := List.all_eq_true.1 (f c) x hc
  simpa using this
theorem getD_mem (l : List UInt8) (j : Nat) (h : j < l.length) : l.getD j 0 ∈ l := by
  rw [List.getD_eq_getElem?_getD, List.getElem?_eq_getElem h]; exact List.getElem_mem h
theorem getD_left (a b : List UInt8) (j : Nat) (h : j < a.length) : (a ++ b).getD j 0 = a.getD j 0 := by
  rw [List.getD_eq_getElem?_getD, List.getD_eq_getElem?_getD, List.getElem?_append_left h]
theorem getD_at (a b : List UInt8) (x : UInt8) : (a ++ x :: b).getD a.length 0 = x := by
  rw [List.getD_eq_getElem?_getD, List.getElem?_append_right (Nat.le_refl _)]; simp
theorem piece_no (p : S40) : ∀ x ∈ piece p, x ≠ 38 := by
  intro x hx
  rcases List.mem_append.1 hx with h | h
  · exact (pc_no _ x h).1
  · rcases List.mem_cons.1 h with rfl | h
    · decide
    · exact (pc_no _ x h).1
theorem pair_back (p : S40) : pairOf (piece p) = some p := by
  obtain ⟨h1, h2⟩ := cut_at (piece p) (pc p.f0.data.toList).length (by unfold piece; simp) (fun j hj => by
      unfold piece
      rw [getD_left _ _ _ hj]
      exact (pc_no _ _ (getD_mem _ _ hj)).2) (getD_at _ _ _)
  have e1 : (piece p).take (pc p.f0.data.toList).length = pc p.f0.data.toList := by unfold piece; simp
  have e2 : (piece p).drop ((pc p.f0.data.toList).length + 1) = pc p.f1.data.toList := by unfold piece; simp
  unfold pairOf
  rw [h1, h2, e1, e2]
  unfold pc
  rw [pct_back, pct_back]
  rfl
theorem pairs_back : ∀ ps : List S40, pairsOf (ps.map piece) = some ps
  | [] => rfl
  | p :: ps => by rw [List.map_cons, pairsOf, pair_back, pairs_back ps]; rfl
theorem spl_join : ∀ (x : List UInt8) (r : List (List UInt8)), (∀ y ∈ x :: r, ∀ c ∈ y, c ≠ 38) → spl 38 (Lib.join (x :: r) [38]) = x :: r
  | x, [], h => by
    rw [Lib.join_one]
    exact spl_miss 38 x (index_no 38 x (fun j hj => h x (by simp) _ (getD_mem _ _ hj)))
  | x, y :: r, h => by
    have e : Lib.join (x :: y :: r) [38] = x ++ 38 :: Lib.join (y :: r) [38] := by
      rw [Lib.join_cons, Lib.join_cons]; simp [Lib.joinTail]
    rw [e, spl_hit 38 _ x.length (index_at 38 _ _ (by simp) (fun j hj => by rw [getD_left _ _ _ hj]; exact h x (by simp) _ (getD_mem _ _ hj)) (getD_at _ _ _))]
    rw [show (x ++ 38 :: Lib.join (y :: r) [38]).take x.length = x by simp, show (x ++ 38 :: Lib.join (y :: r) [38]).drop (x.length + 1) = Lib.join (y :: r) [38] by simp]
    rw [spl_join y r (fun z hz => h z (List.mem_cons_of_mem _ hz))]
theorem pieces_query (ps : List S40) : pieces (query ps) = ps.map piece := by
  unfold pieces query
  cases ps with
  | nil => rfl
  | cons p r =>
    rw [List.map_cons, spl_join _ _ (fun y hy => by
      obtain ⟨q, _, rfl⟩ := List.mem_map.1 (show y ∈ (p :: r).map piece by simpa using hy)
      exact piece_no q), ← List.map_cons]
    apply List.filter_eq_self.2
    intro x hx
    obtain ⟨q, _, rfl⟩ := List.mem_map.1 hx
    simp [piece]
theorem pq_query (ps : List S40) : pq (query ps) = if 64 < ps.length then ([], 12) else (ps, 0) := by
  unfold pq
  rw [pieces_query, List.length_map, pairs_back]
  rfl
end Go.Proofs.YtjmcdocoogdbiaaDoor.Esc
