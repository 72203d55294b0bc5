/- Blanks, words and line ends: the plain answers, and that the program and the document give them. -/
import Derived.Test.YthakidcnlkbbgaaDoorBas
import Derived.Test.YthakidcnlkbbgaaDoorHp1
import Derived.Test.YthakidcnlkbbgaaDoorHp2
import Derived.Test.YthakidcnlkbbgaaDoorHp6
import Derived.Test.YthakidcnlkbbgaaDoorHp7
namespace Go.Proofs.YthakidcnlkbbgaaDoor.Esc
open Go.RowKit Go.Proofs.YthakidcnlkbbgaaDoor.Hp Go.Proofs.YthakidcnlkbbgaaDoorW.PrintWords Go.Proofs.YthakidcnlkbbgaaDoorW.PrintLast
theorem ref_blank_f (c : UInt8) : lanyardref01_Blank.f (c.toNat : Int) = some (blk c) := by
  have : ∀ n : Fin 256, lanyardref01_Blank.f (n.val : Int) = some (blk (UInt8.ofNat n.val)) := by decide +kernel
  have h := this ⟨c.toNat, c.toNat_lt⟩
  simpa using h
theorem flat_f (s : ByteArray) (hs : s.size ≤ 1000000) : chars_Flat.f s = some (bs (s.data.toList.map flat1)) := by
  unfold chars_Flat.f
  rw [if_pos (by omega)]; rfl
theorem ref_flat_loop (s : ByteArray) (hs : s.size ≤ 1000000) : ∀ (m i : Nat), s.size - i = m → i ≤ s.size → Ev (fun k => lanyardref01_Flat.l0 k s (I ((s.data.toList.take i).map flat1)) (i : Int)) (bs (s.data.toList.map flat1))
  | 0, i, hm, hi => by
    have hL : s.data.toList.length = s.size := len_data s
    refine Ev.step (fun k => by rw [lanyardref01_Flat.l0]) (Ev.ifF (by omega) ?_)
    rw [List.take_of_length_le (by omega), I_str]
    exact Ev.now _
  | m + 1, i, hm, hi => by
    have hL : s.data.toList.length = s.size := len_data s
    have hw : wrap64 ((i : Int) + 1) = ((i + 1 : Nat) : Int) := by rw [w64 (by omega) (by omega)]; omega
    have hlen : (I ((s.data.toList.take i).map flat1)).length = i := by rw [I_len, List.length_map, List.length_take]; omega
    have ih := ref_flat_loop s hs m (i + 1) (by omega) (by omega)
    have e : (s.data.toList.take (i + 1)).map flat1 = (s.data.toList.take i).map flat1 ++ [flat1 (s.data.toList.getD i 0)] := by
      rw [List.take_succ_eq_append_getElem (show i < s.data.toList.length by omega), List.map_append, List.getD_eq_getElem?_getD, List.getElem?_eq_getElem (show i < s.data.toList.length by omega)]; rfl
    rw [e, I_app] at ih
    refine Ev.step (fun k => by rw [lanyardref01_Flat.l0]) (Ev.ifT (by omega) (Ev.ifT (by omega) ?_))
    rw [bt_nat s i (by omega), hw]
    refine Ev.bindC (ref_blank_f _) ?_
    cases hb : blk (s.data.toList.getD i 0) with
    | true =>
      refine Ev.ifT rfl (Ev.ifT (by omega) ?_)
      rw [show flat1 (s.data.toList.getD i 0) = 32 by unfold flat1; rw [if_pos hb]] at ih
      exact ih
    | false =>
      refine Ev.ifF (by decide) (Ev.ifT (by omega) ?_)
      rw [show flat1 (s.data.toList.getD i 0) = s.data.toList.getD i 0 by unfold flat1; rw [if_neg (by rw [hb]; decide)]] at ih
      exact ih
theorem ref_flat_ev (s : ByteArray) (hs : s.size ≤ 1000000) : Ev (fun k => lanyardref01_Flat.f k s) (bs (s.data.toList.map flat1)) := by
  have := ref_flat_loop s hs s.size 0 rfl (by omega)
  rw [List.take_zero] at this
  unfold lanyardref01_Flat.f
  exact this
/-! ### words -/
def full (x : List UInt8) : Bool := !x.isEmpty
def wds (b : List UInt8) : List (List UInt8) := (spl 32 (b.map flat1)).filter full
theorem rd_bs (ps : List (List UInt8)) (i : Nat) (x : List UInt8) (h : ps[i]? = some x) : rdOf ByteArray.empty (ps.map bs) (i : Int) = bs x := by
  unfold rdOf
  simp [List.getD_eq_getElem?_getD, h]
theorem words_loop (ps : List (List UInt8)) (hn : ps.length ≤ 10000000) : ∀ (m i : Nat) (acc : List (List UInt8)), ps.length - i = m → i ≤ ps.length → acc.length ≤ i →
    Ev (fun k => chars_Words.l0 k (acc.map bs) (ps.map bs) ((ps.length : Nat) : Int) (i : Int)) ((acc ++ (ps.drop i).filter full).map bs)
  | 0, i, acc, hm, hi, ha => by
    refine Ev.step (fun k => by rw [chars_Words.l0]) (Ev.ifF (by omega) ?_)
    rw [List.drop_of_length_le (by omega), List.filter_nil, List.append_nil]
    exact Ev.now _
  | m + 1, i, acc, hm, hi, ha => by
    obtain ⟨x, hx⟩ : ∃ x, ps[i]? = some x := ⟨ps[i], List.getElem?_eq_getElem (by omega)⟩
    obtain ⟨hlt, hxe⟩ := List.getElem?_eq_some_iff.1 hx
    have hd : ps.drop i = x :: ps.drop (i + 1) := by rw [List.drop_eq_getElem_cons hlt, hxe]
    have hw : wrap64 ((i : Int) + 1) = ((i + 1 : Nat) : Int) := by rw [w64 (by omega) (by omega)]; omega
    refine Ev.step (fun k => by rw [chars_Words.l0]) (Ev.ifT (by omega) (Ev.ifT (by omega) (Ev.ifT (by rw [List.length_map]; omega) ?_)))
    rw [rd_bs ps i x hx, hw, hd, bs_toList]
    by_cases h : x = []
    · subst h
      rw [List.filter_cons_of_neg (by simp [full])]
      exact Ev.ifT rfl (words_loop ps hn m (i + 1) acc (by omega) (by omega) (by omega))
    · rw [List.filter_cons_of_pos (by unfold full; cases x with | nil => exact absurd rfl h | cons => rfl)]
      refine Ev.ifF h (Ev.ifT (by rw [List.length_map]; omega) ?_)
      have := words_loop ps hn m (i + 1) (acc ++ [x]) (by omega) (by omega) (by simp; omega)
      rw [List.map_append, List.append_assoc] at this
      exact this
theorem wds_count (b : List UInt8) : (wds b).length ≤ b.length + 1 := by
  have h1 := spl_count 32 (b.map flat1)
  rw [List.length_map] at h1
  exact Nat.le_trans (List.length_filter_le _ _) h1
theorem wds_mem (b : List UInt8) : ∀ x ∈ wds b, x.length ≤ b.length := by
  intro x hx
  have := spl_mem 32 (b.map flat1) x (List.mem_filter.1 hx).1
  rwa [List.length_map] at this
theorem words_ev (s : ByteArray) (hs : s.size ≤ 1000000) : Ev (fun k => chars_Words.f k s) ((wds s.data.toList).map bs) := by
  have hL : s.data.toList.length = s.size := len_data s
  unfold chars_Words.f
  have e1 : strings_Split.f (bs (s.data.toList.map flat1)) ⟨#[32]⟩ = some ((spl 32 (s.data.toList.map flat1)).map bs) := by
    unfold strings_Split.f
    rw [if_pos ⟨by rw [bs_size, List.length_map]; omega, by decide⟩, splitB_spl 32 _ _ (Nat.le_refl _)]; rfl
  refine Ev.bindC (flat_f s hs) (Ev.bindC e1 ?_)
  rw [List.length_map]
  have hc := spl_count 32 (s.data.toList.map flat1)
  rw [List.length_map] at hc
  exact words_loop _ (by omega) _ 0 [] rfl (by omega) (by simp)
def collapse (b : List UInt8) : List UInt8 := Lib.join (wds b) [32]
theorem collapse_len (b : List UInt8) (h : b.length ≤ 100000) : (collapse b).length ≤ 100001 * 100001 := by
  have h1 := join_len 100000 [32] (by simp) (wds b) (fun x hx => by have := wds_mem b x hx; omega)
  have h2 := wds_count b
  exact Nat.le_trans h1 (Nat.mul_le_mul (by omega) (by omega))
theorem collapse_ev (s : ByteArray) (hs : s.size ≤ 100000) : Ev (fun k => chars_Collapse.f k s) (bs (collapse s.data.toList)) := by
  have hL : s.data.toList.length = s.size := len_data s
  have hc := collapse_len s.data.toList (by omega)
  have hn := wds_count s.data.toList
  have e : ((wds s.data.toList).map bs).map (·.data.toList) = wds s.data.toList := by
    rw [List.map_map]
    exact (List.map_congr_left (fun x _ => rfl)).trans (List.map_id _)
  unfold chars_Collapse.f
  refine Ev.bind (words_ev s (by omega)) (Ev.bindC (a := bs (collapse s.data.toList)) ?_ (Ev.now _))
  unfold strings_Join.f
  rw [e, List.length_map, if_pos ⟨by omega, by have : (Lib.join (wds s.data.toList) [32]).length ≤ _ := hc; show (Lib.join (wds s.data.toList) [32]).length ≤ _; omega⟩]
  rfl
/-! ### the document's words: bytes between blanks -/
theorem flat_no (c : UInt8) : flat1 c = 32 ↔ blk c = true := by
  unfold flat1
  by_cases h : blk c = true
  · rw [if_pos h]; simp [h]
  · rw [if_neg h]
    constructor
    · intro e; subst e; exact absurd rfl h
    · intro e; exact absurd e h
theorem flat_keep (l : List UInt8) (h : ∀ x ∈ l, blk x = false) : l.map flat1 = l := by
  refine (List.map_congr_left (fun x hx => ?_)).trans (List.map_id l)
  unfold flat1
  rw [if_neg (by rw [h x hx]; decide)]; rfl
theorem wds_nil : wds [] = [] := rfl
theorem wds_blank (c : UInt8) (l : List UInt8) (h : blk c = true) : wds (c :: l) = wds l := by
  unfold wds
  rw [List.map_cons, (flat_no c).2 h, spl, if_pos rfl]
  rfl
theorem wds_all (l : List UInt8) (h : ∀ x ∈ l, blk x = false) (hn : l ≠ []) : wds l = [l] := by
  unfold wds
  rw [flat_keep l h, spl_miss 32 l (index_no 32 l (fun j hj => by
    have := h _ (getD_mem l j hj)
    intro e; rw [e] at this; simp [blk] at this))]
  cases l with
  | nil => exact absurd rfl hn
  | cons => rfl
theorem wds_cut (l m : List UInt8) (c : UInt8) (h : ∀ x ∈ l, blk x = false) (hc : blk c = true) : wds (l ++ c :: m) = (if l = [] then [] else [l]) ++ wds m := by
  unfold wds
  rw [List.map_append, List.map_cons, flat_keep l h, (flat_no c).2 hc, spl_hit 32 _ l.length (index_at 32 _ _ (by simp) (fun j hj => by
    rw [getD_left _ _ _ hj]
    have := h _ (getD_mem l j hj)
    intro e; rw [e] at this; simp [blk] at this) (getD_at _ _ _))]
  rw [show (l ++ 32 :: m.map flat1).take l.length = l by simp, show (l ++ 32 :: m.map flat1).drop (l.length + 1) = m.map flat1 by simp]
  cases l with
  | nil => rfl
  | cons x l => rw [List.filter_cons_of_pos rfl]; rfl
theorem rw_loop (s : ByteArray) (hs : s.size ≤ 1000000) : ∀ (m i : Nat) (acc : List (List UInt8)) (f : Nat) (inn : Bool), s.size + 1 - i = m → i ≤ s.size + 1 → f ≤ i → (inn = true → f < i) → (inn = false → f = i) → (∀ t, f ≤ t → t < i → blk (s.data.toList.getD t 0) = false) → (i = s.size + 1 → inn = false) → acc.length ≤ i →
    Ev (fun k => lanyardref01_Words.l0 k s (acc.map bs) (if inn = true then (f : Int) else -1) (i : Int)) ((acc ++ wds (s.data.toList.drop f)).map bs)
  | 0, i, acc, f, inn, hm, hi, hf, h1, h2, hb, he, ha => by
    have hL : s.data.toList.length = s.size := len_data s
    obtain rfl : i = s.size + 1 := by omega
    have := h2 (he rfl)
    refine Ev.step (fun k => by rw [lanyardref01_Words.l0]) (Ev.ifF (by omega) ?_)
    rw [List.drop_of_length_le (by omega), wds_nil, List.append_nil]
    exact Ev.now _
  | m + 1, i, acc, f, inn, hm, hi, hf, h1, h2, hb, he, ha => by
    have hL : s.data.toList.length = s.size := len_data s
    have hw : wrap64 ((i : Int) + 1) = ((i + 1 : Nat) : Int) := by rw [w64 (by omega) (by omega)]; omega
    -- what stands between f and i
    have hpiece : ∀ x ∈ (s.data.toList.drop f).take (i - f), blk x = false := by
      intro x hx
      obtain ⟨j, hj⟩ := List.getElem?_of_mem hx
      obtain ⟨hjl, hje⟩ := List.getElem?_eq_some_iff.1 hj
      rw [List.length_take, List.length_drop] at hjl
      have := hb (f + j) (by omega) (by omega)
      rw [List.getElem_take, List.getElem_drop] at hje
      rw [List.getD_eq_getElem?_getD, List.getElem?_eq_getElem (by omega)] at this
      rw [← hje]; exact this
    refine Ev.step (fun k => by rw [lanyardref01_Words.l0]) (Ev.ifT (by omega) ?_)
    -- a blank, or the end
    have stop : (i = s.size ∨ i < s.size ∧ blk (s.data.toList.getD i 0) = true) → Ev (fun k => lanyardref01_Words.j1 k s (acc.map bs) (if inn = true then (f : Int) else -1) (i : Int) false) ((acc ++ wds (s.data.toList.drop f)).map bs) := by
      intro hc
      have hsp : wds (s.data.toList.drop f) = (if f < i then [(s.data.toList.drop f).take (i - f)] else []) ++ (if i + 1 ≤ s.size then wds (s.data.toList.drop (i + 1)) else []) := by
        rcases hc with rfl | ⟨hlt, hbl⟩
        · rw [if_neg (by omega : ¬ s.size + 1 ≤ s.size), List.append_nil]
          by_cases h : f < s.size
          · rw [if_pos h, List.take_of_length_le (by rw [List.length_drop]; omega)]
            rw [List.take_of_length_le (by rw [List.length_drop]; omega)] at hpiece
            exact wds_all _ hpiece (by intro h0; have := congrArg List.length h0; rw [List.length_drop, List.length_nil] at this; omega)
          · rw [if_neg h, List.drop_of_length_le (by omega)]; rfl
        · have e : s.data.toList.drop f = (s.data.toList.drop f).take (i - f) ++ s.data.toList.getD i 0 :: s.data.toList.drop (i + 1) := by
            rw [← drop_cons s i hlt]
            have := List.take_append_drop (i - f) (s.data.toList.drop f)
            rw [List.drop_drop, show f + (i - f) = i by omega] at this
            exact this.symm
          have := wds_cut _ (s.data.toList.drop (i + 1)) _ hpiece hbl
          rw [← e] at this
          rw [this, if_pos (by omega : i + 1 ≤ s.size)]
          by_cases h : f < i
          · rw [if_pos h, if_neg (by intro h0; have := congrArg List.length h0; rw [List.length_take, List.length_drop, List.length_nil] at this; omega)]
          · rw [if_neg h, if_pos (by rw [show i - f = 0 by omega]; rfl)]
      have next : ∀ acc2 : List (List UInt8), acc2.length ≤ i + 1 → Ev (fun k => lanyardref01_Words.l0 k s (acc2.map bs) (-1) ((i + 1 : Nat) : Int)) ((acc2 ++ (if i + 1 ≤ s.size then wds (s.data.toList.drop (i + 1)) else [])).map bs) := by
        intro acc2 ha2
        have := rw_loop s hs m (i + 1) acc2 (i + 1) false (by omega) (by omega) (by omega) (fun h => by simp at h) (fun _ => rfl) (fun t h3 h4 => absurd h3 (by omega)) (fun _ => rfl) ha2
        rw [if_neg (by decide)] at this
        by_cases h : i + 1 ≤ s.size
        · rw [if_pos h]; exact this
        · rw [if_neg h]
          rw [List.drop_of_length_le (by omega), wds_nil] at this
          exact this
      refine Ev.step (fun k => by rw [lanyardref01_Words.j1]) (Ev.ifF (by decide) ?_)
      rw [hw, hsp]
      cases inn with
      | true =>
        have hlt := h1 rfl
        rw [if_pos rfl, if_pos hlt]
        refine Ev.ifT (by omega) (Ev.ifT (by omega) (Ev.ifT (by omega) (Ev.ifT (by omega) (Ev.ifT (by rw [List.length_map]; omega) ?_))))
        rw [show ((f : Int)).toNat = f by omega, show ((i : Int)).toNat = i by omega, ext_cut]
        have := next (acc ++ [(s.data.toList.drop f).take (i - f)]) (by simp; omega)
        rw [List.map_append, List.append_assoc] at this
        exact this
      | false =>
        have hlt := h2 rfl
        rw [if_neg (by decide), if_neg (by omega), List.nil_append]
        exact Ev.ifF (by decide) (next acc (by omega))
    by_cases hil : i < s.size
    · refine Ev.ifT (by omega) (Ev.ifT (by omega) ?_)
      rw [bt_nat s i hil]
      refine Ev.bindC (ref_blank_f _) ?_
      cases hbl : blk (s.data.toList.getD i 0) with
      | true => exact stop (.inr ⟨hil, hbl⟩)
      | false =>
        refine Ev.step (fun k => by rw [lanyardref01_Words.j1]) ?_
        refine Ev.ifT rfl ?_
        rw [hw]
        have hb2 : ∀ t, f ≤ t → t < i + 1 → blk (s.data.toList.getD t 0) = false := by
          intro t h3 h4
          by_cases e : t = i
          · subst e; exact hbl
          · exact hb t h3 (by omega)
        have ih := rw_loop s hs m (i + 1) acc f true (by omega) (by omega) (by omega) (fun _ => by omega) (fun h => by simp at h) hb2 (fun h => by omega) (by omega)
        rw [if_pos rfl] at ih
        cases inn with
        | true =>
          rw [if_pos rfl]
          exact Ev.ifF (by omega) ih
        | false =>
          have := h2 rfl
          subst this
          rw [if_neg (by decide)]
          exact Ev.ifT (by decide) ih
    · exact Ev.ifF (by omega) (stop (.inl (by omega)))
theorem ref_words_ev (s : ByteArray) (hs : s.size ≤ 1000000) : Ev (fun k => lanyardref01_Words.f k s) ((wds s.data.toList).map bs) := by
  have := rw_loop s hs (s.size + 1) 0 [] 0 false (by omega) (by omega) (by omega) (fun h => by simp at h) (fun _ => rfl) (fun t h3 h4 => absurd h4 (by omega)) (fun _ => rfl) (by simp)
  rw [if_neg (by decide), List.drop_zero] at this
  unfold lanyardref01_Words.f
  exact this
theorem rc_loop (ps : List (List UInt8)) (hn : ps.length ≤ 100001) (hx : ∀ x ∈ ps, x.length ≤ 100000) : ∀ (m i : Nat), ps.length - i = m → i ≤ ps.length → Ev (fun k => lanyardref01_Collapse.l0 k (ps.map bs) (bs (Lib.join (ps.take i) [32])) (i : Int)) (bs (Lib.join ps [32]))
  | 0, i, hm, hi => by
    obtain rfl : i = ps.length := by omega
    refine Ev.step (fun k => by rw [lanyardref01_Collapse.l0]) (Ev.ifF (by rw [List.length_map]; omega) ?_)
    rw [List.take_length]
    exact Ev.now _
  | m + 1, i, hm, hi => by
    obtain ⟨x, hxi⟩ : ∃ x, ps[i]? = some x := ⟨ps[i], List.getElem?_eq_getElem (by omega)⟩
    obtain ⟨hlt, hxe⟩ := List.getElem?_eq_some_iff.1 hxi
    have hxl := hx x (List.mem_of_getElem? hxi)
    have hw : wrap64 ((i : Int) + 1) = ((i + 1 : Nat) : Int) := by rw [w64 (by omega) (by omega)]; omega
    have hj : (Lib.join (ps.take i) [32]).length ≤ 100001 * 100001 := by
      have h1 := join_len 100000 [32] (by simp) (ps.take i) (fun y hy => hx y (List.mem_of_mem_take hy))
      exact Nat.le_trans h1 (Nat.mul_le_mul (by omega) (by rw [List.length_take]; omega))
    have ih := rc_loop ps hn hx m (i + 1) (by omega) (by omega)
    have e : Lib.join (ps.take (i + 1)) [32] = Lib.join (ps.take i) [32] ++ (if i = 0 then [] else [32]) ++ x := by
      rw [List.take_succ_eq_append_getElem hlt, hxe]
      by_cases h0 : i = 0
      · subst h0; simp [Lib.join_one, Lib.join_nil]
      · rw [if_neg h0, join_snoc _ _ _ (by intro h; have := congrArg List.length h; rw [List.length_take, List.length_nil] at this; omega)]
    rw [e] at ih
    generalize Lib.join (ps.take i) [32] = Q at hj ih ⊢
    refine Ev.step (fun k => by rw [lanyardref01_Collapse.l0]) (Ev.ifT (by rw [List.length_map]; omega) ?_)
    rw [rd_bs ps i x hxi, hw]
    by_cases h0 : i = 0
    · rw [if_pos h0, List.append_nil] at ih
      refine Ev.ifF (by omega) (Ev.ifT (by omega) (Ev.ifT (by rw [bs_size, bs_size]; omega) ?_))
      rw [bs_app]
      exact ih
    · rw [if_neg h0] at ih
      refine Ev.ifT (by omega) (Ev.ifT (by rw [bs_size]; omega) (Ev.ifT (by omega) (Ev.ifT ?_ ?_)))
      · rw [show (⟨#[32]⟩ : ByteArray) = bs [32] from rfl, bs_app, bs_size, bs_size, List.length_append, List.length_singleton]; omega
      · rw [show (⟨#[32]⟩ : ByteArray) = bs [32] from rfl, bs_app, bs_app]
        exact ih
theorem ref_collapse_ev (s : ByteArray) (hs : s.size ≤ 100000) : Ev (fun k => lanyardref01_Collapse.f k s) (bs (collapse s.data.toList)) := by
  have hL : s.data.toList.length = s.size := len_data s
  have hn := wds_count s.data.toList
  unfold lanyardref01_Collapse.f
  refine Ev.bind (ref_words_ev s (by omega)) ?_
  exact rc_loop (wds s.data.toList) (by omega) (fun x hx => by have := wds_mem _ x hx; omega) _ 0 rfl (by omega)
theorem texts_loop (l : List ByteArray) (hn : l.length ≤ 1000000) : ∀ (m i : Nat), l.length - i = m → i ≤ l.length → Ev (fun k => lanyardref01_Texts.l0 k l l (i : Int)) true
  | 0, i, hm, hi => Ev.step (fun k => by rw [lanyardref01_Texts.l0]) (Ev.ifF (by omega) (Ev.now _))
  | m + 1, i, hm, hi => by
    have hw : wrap64 ((i : Int) + 1) = ((i + 1 : Nat) : Int) := by rw [w64 (by omega) (by omega)]; omega
    refine Ev.step (fun k => by rw [lanyardref01_Texts.l0]) (Ev.ifT (by omega) (Ev.ifT (by omega) (Ev.ifT (by omega) (Ev.ifT rfl ?_))))
    rw [hw]
    exact texts_loop l hn m (i + 1) (by omega) (by omega)
theorem texts_ev (l : List ByteArray) (hn : l.length ≤ 1000000) : Ev (fun k => lanyardref01_Texts.f k l l) true := by
  unfold lanyardref01_Texts.f
  exact Ev.ifT rfl (texts_loop l hn _ 0 rfl (by omega))
end Go.Proofs.YthakidcnlkbbgaaDoor.Esc
