/- The program's own Unpercent: pieces between '%', each read. -/
import Derived.Test.YtjmcdocoogdbiaaDoorUnp
import Derived.Lib.SplitLaws
import Derived.Test.YtjmcdocoogdbiaaDoorHp2
import Derived.Test.YtjmcdocoogdbiaaDoorHp3
namespace Go.Proofs.YtjmcdocoogdbiaaDoor.Esc
open Go.RowKit Go.Proofs.YtjmcdocoogdbiaaDoor.Hp Go.Proofs.YtjmcdocoogdbiaaDoorW.PrintWords Go.Proofs.YtjmcdocoogdbiaaDoorW.PrintLast
/-! ### a text cut at a byte -/
def spl (c : UInt8) : List UInt8 → List (List UInt8)
  | [] => [[]]
  | x :: l => if x = c then [] :: spl c l else match spl c l with
    | p :: ps => (x :: p) :: ps
    | [] => [[x]]
theorem spl_ne (c : UInt8) (l : List UInt8) : spl c l ≠ [] := by
  cases l with
  | nil => simp [spl]
  | cons x l =>
    rw [spl]
    split
    · simp
    · split <;> simp
theorem index_nil (c : UInt8) : Lib.index [] [c] = -1 := rfl
theorem index_cons (c x : UInt8) (l : List UInt8) : Lib.index (x :: l) [c] = if x = c then 0 else if Lib.index l [c] = -1 then -1 else Lib.index l [c] + 1 := by
  rw [Lib.index]
  by_cases h : x = c
  · subst h; simp
  · have h2 : ¬ c = x := fun e => h e.symm
    simp [h, h2]
theorem spl_miss (c : UInt8) : ∀ l : List UInt8, Lib.index l [c] = -1 → spl c l = [l]
  | [], _ => rfl
  | x :: l, h => by
    rw [index_cons] at h
    have g := Lib.index_ge l [c]
    split at h
    · omega
    · rename_i hx
      split at h
      · rename_i hm
        rw [spl, if_neg hx, spl_miss c l hm]
      · omega
theorem spl_hit (c : UInt8) : ∀ (l : List UInt8) (i : Nat), Lib.index l [c] = i → spl c l = l.take i :: spl c (l.drop (i + 1))
  | [], i, h => by rw [index_nil] at h; omega
  | x :: l, i, h => by
    rw [index_cons] at h
    have g := Lib.index_ge l [c]
    split at h
    · rename_i hx
      obtain rfl : i = 0 := by omega
      rw [spl, if_pos hx]; simp
    · rename_i hx
      split at h
      · omega
      · obtain ⟨j, rfl⟩ : ∃ j, i = j + 1 := ⟨i - 1, by omega⟩
        rw [spl, if_neg hx, spl_hit c l j (by omega)]
        simp
theorem splitB_spl (c : UInt8) : ∀ (k : Nat) (s : ByteArray), Lib.countB s ⟨#[c]⟩ ≤ k → Lib.splitB ⟨#[c]⟩ 0 k s = (spl c s.data.toList).map bs := by
  intro k
  induction k with
  | zero =>
    intro s h
    have hm : Lib.index s.data.toList [c] = -1 := by
      have g := Lib.index_ge s.data.toList [c]
      by_cases e : Lib.index s.data.toList [c] = -1
      · exact e
      · have := Lib.count_hit (s := s.data.toList) (sub := [c]) (i := (Lib.index s.data.toList [c]).toNat) (by simp) (by omega)
        have h' : Lib.count s.data.toList [c] ≤ 0 := h
        omega
    rw [spl_miss c _ hm, Lib.splitB_zero]; rfl
  | succ k ih =>
    intro s h
    by_cases hm : Lib.index s.data.toList [c] = -1
    · rw [spl_miss c _ hm, Lib.splitB_miss _ _ _ _ hm]; rfl
    · have g := Lib.index_ge s.data.toList [c]
      obtain ⟨i, hi⟩ : ∃ i : Nat, Lib.index s.data.toList [c] = i := ⟨(Lib.index s.data.toList [c]).toNat, by omega⟩
      have hc := Lib.count_hit (s := s.data.toList) (sub := [c]) (i := i) (by simp) hi
      have e1 : (s.extract (i + 1) s.size).data.toList = s.data.toList.drop (i + 1) := by
        rw [ByteArray.data_extract, Array.toList_extract, List.extract_eq_take_drop, List.take_of_length_le (by rw [List.length_drop, len_data]; exact Nat.le_refl _)]
      have e2 : s.extract 0 i = bs (s.data.toList.take i) := ext (by rw [ByteArray.data_extract, Array.toList_extract, List.extract_eq_take_drop, bs_data]; simp)
      rw [Lib.splitB_hit (⟨#[c]⟩ : ByteArray) 0 k s i hi, spl_hit c _ i hi, List.map_cons, ← e1]
      rw [Nat.add_zero, e2]
      congr 1
      refine ih _ ?_
      show Lib.count (s.extract (i + 1) s.size).data.toList [c] ≤ k
      rw [e1]
      have h' : Lib.count s.data.toList [c] ≤ k + 1 := h
      have hc' : Lib.count s.data.toList [c] = 1 + Lib.count (s.data.toList.drop (i + 1)) [c] := hc
      omega
theorem spl_sum (c : UInt8) : ∀ l : List UInt8, ((spl c l).map fun p => p.length + 1).sum = l.length + 1
  | [] => rfl
  | x :: l => by
    have ih := spl_sum c l
    rw [spl]
    split
    · simp only [List.map_cons, List.sum_cons, ih, List.length_cons, List.length_nil]; omega
    · have hn := spl_ne c l
      split
      · rename_i p ps he
        rw [he] at ih
        simp only [List.map_cons, List.sum_cons, List.length_cons] at ih ⊢
        omega
      · rename_i he; exact absurd he hn
/-! ### the program's digits -/
theorem idx_f (c : UInt8) : strings_IndexByte.f (⟨#[48, 49, 50, 51, 52, 53, 54, 55, 56, 57, 97, 98, 99, 100, 101, 102]⟩ : ByteArray) (c.toNat : Int) = some (Lib.indexByte [48, 49, 50, 51, 52, 53, 54, 55, 56, 57, 97, 98, 99, 100, 101, 102] c) := by
  unfold strings_IndexByte.f
  rw [show ((c.toNat : Int)).toNat.toUInt8 = c by simp]
theorem b_step (s : ByteArray) (acc : List Int) (x5 n i : Int) (c : UInt8) (r : List Int × Int) (h0 : 0 ≤ i) (hi : i < n) (hs : i < (s.size : Int)) (hc : bt s i = (c.toNat : Int)) (k : Ev (fun k => base_Unhex.j2 k s acc x5 i (dg c) n i) r) : Ev (fun k => base_Unhex.l0 k s acc x5 n i) r := by
  refine Ev.step (fun k => by rw [base_Unhex.l0]) (Ev.ifT hi (Ev.ifT h0 (Ev.ifT hs ?_)))
  rw [hc]
  refine Ev.bindC (idx_f c) ?_
  by_cases h1 : (c.toNat : Int) ≥ 65
  · refine Ev.ifT h1 ?_
    by_cases h2 : (c.toNat : Int) ≤ 70
    · rw [decide_eq_true h2]
      refine Ev.step (fun k => by rw [base_Unhex.j1]) (Ev.ifT rfl (Ev.ifT h0 (Ev.ifT hs ?_)))
      rw [hc, show 10 + (((c.toNat : Int) - 65) % 256) = dg c by rw [← bd_dg, bd, if_pos ⟨h1, h2⟩]]
      exact k
    · rw [decide_eq_false h2]
      refine Ev.step (fun k => by rw [base_Unhex.j1]) (Ev.ifF (by simp) ?_)
      have : dg c = Lib.indexByte [48, 49, 50, 51, 52, 53, 54, 55, 56, 57, 97, 98, 99, 100, 101, 102] c := by rw [← bd_dg, bd, if_neg (fun h => h2 h.2)]
      rw [← this]
      exact k
  · refine Ev.ifF h1 ?_
    refine Ev.step (fun k => by rw [base_Unhex.j1]) (Ev.ifF (by simp) ?_)
    have : dg c = Lib.indexByte [48, 49, 50, 51, 52, 53, 54, 55, 56, 57, 97, 98, 99, 100, 101, 102] c := by rw [← bd_dg, bd, if_neg (fun h => h1 h.1)]
    rw [← this]
    exact k
theorem bits1 {x : Int} (h0 : 0 ≤ x) (h1 : x < 16) : Go.bits .or .i64 (Go.bits .and .i64 (wrap64 (0 * 16)) 240) x = x := by
  have : ∀ a : Fin 16, Go.bits .or .i64 (Go.bits .and .i64 (wrap64 (0 * 16)) 240) ((a.val : Nat) : Int) = ((a.val : Nat) : Int) := by decide +kernel
  have := this ⟨x.toNat, by omega⟩
  simpa [Int.toNat_of_nonneg h0] using this
theorem bits2 {x y : Int} (h0 : 0 ≤ x) (h1 : x < 16) (k0 : 0 ≤ y) (k1 : y < 16) : Go.bits .or .i64 (Go.bits .and .i64 (wrap64 (x * 16)) 240) y % 256 = 16 * x + y := by
  have : ∀ a b : Fin 16, Go.bits .or .i64 (Go.bits .and .i64 (wrap64 (((a.val : Nat) : Int) * 16)) 240) ((b.val : Nat) : Int) % 256 = 16 * ((a.val : Nat) : Int) + ((b.val : Nat) : Int) := by decide +kernel
  have := this ⟨x.toNat, by omega⟩ ⟨y.toNat, by omega⟩
  simpa [Int.toNat_of_nonneg h0, Int.toNat_of_nonneg k0] using this
def bu : List UInt8 → List Int × Int
  | [] => ([], 0)
  | [a] => if dg a < 0 then ([], 13) else ([], 10)
  | a :: b :: _ => if dg a < 0 ∨ dg b < 0 then ([], 13) else ([16 * dg a + dg b], 0)
theorem bu_ev (s : ByteArray) (hs : s.size ≤ 2) : Ev (fun k => base_Unhex.f k s) (bu s.data.toList) := by
  unfold base_Unhex.f
  rcases hl : s.data.toList with _ | ⟨a, _ | ⟨b, l⟩⟩
  · have hz : s.size = 0 := by rw [← len_data, hl]; rfl
    refine Ev.step (fun k => by rw [base_Unhex.l0]) (Ev.ifF (by omega) (Ev.ifF (by omega) ?_))
    exact Ev.now _
  · have hz : s.size = 1 := by rw [← len_data, hl]; rfl
    have ba : bt s 0 = (a.toNat : Int) := by have := bt_nat s 0 (by omega); rw [hl] at this; simpa using this
    refine b_step s [] 0 _ 0 a _ (by omega) (by omega) (by omega) ba ?_
    by_cases ha : dg a < 0
    · rw [bu, if_pos ha]
      exact Ev.step (fun k => by rw [base_Unhex.j2]) (Ev.ifT ha (Ev.now _))
    · rw [bu, if_neg ha]
      refine Ev.step (fun k => by rw [base_Unhex.j2]) (Ev.ifF ha (Ev.ifF (by decide) ?_))
      rw [show wrap64 (0 + 1) = 1 by unfold wrap64; omega]
      exact Ev.step (fun k => by rw [base_Unhex.l0]) (Ev.ifF (by omega) (Ev.ifT (by omega) (Ev.now _)))
  · have hz : s.size = 2 := by
      have := len_data s
      rw [hl] at this
      simp at this
      omega
    obtain rfl : l = [] := by
      have := len_data s
      rw [hl] at this
      simp at this
      exact List.eq_nil_of_length_eq_zero (by omega)
    have ba : bt s 0 = (a.toNat : Int) := by have := bt_nat s 0 (by omega); rw [hl] at this; simpa using this
    have bb : bt s 1 = (b.toNat : Int) := by have := bt_nat s 1 (by omega); rw [hl] at this; simpa using this
    have sa := dg_span a
    have sb := dg_span b
    refine b_step s [] 0 _ 0 a _ (by omega) (by omega) (by omega) ba ?_
    rw [bu]
    by_cases ha : dg a < 0
    · rw [if_pos (.inl ha)]
      exact Ev.step (fun k => by rw [base_Unhex.j2]) (Ev.ifT ha (Ev.now _))
    · refine Ev.step (fun k => by rw [base_Unhex.j2]) (Ev.ifF ha (Ev.ifF (by decide) ?_))
      rw [show wrap64 (0 + 1) = 1 by unfold wrap64; omega, bits1 (by omega) (by omega)]
      refine b_step s [] _ _ 1 b _ (by omega) (by omega) (by omega) bb ?_
      by_cases hb : dg b < 0
      · rw [if_pos (.inr hb)]
        exact Ev.step (fun k => by rw [base_Unhex.j2]) (Ev.ifT hb (Ev.now _))
      · rw [if_neg (by omega)]
        refine Ev.step (fun k => by rw [base_Unhex.j2]) (Ev.ifF hb (Ev.ifT (by decide) (Ev.ifT (by simp) ?_)))
        rw [show wrap64 (1 + 1) = 2 by unfold wrap64; omega, bits2 (by omega) (by omega) (by omega) (by omega)]
        refine Ev.step (fun k => by rw [base_Unhex.l0]) (Ev.ifF (by omega) (Ev.ifF (by omega) ?_))
        exact Ev.now _
/-! ### the pieces -/
def gp : Bool → List (List UInt8) → Option (List UInt8)
  | _, [] => some []
  | true, p :: ps => (gp false ps).map (p ++ ·)
  | false, p :: ps => match p with
    | a :: b :: r => if hexok a b = true then (gp false ps).map ((hexval a b :: r) ++ ·) else none
    | _ => none
theorem bu_ok (q : List UInt8) : (bu (q.take 2)).2 = 0 ∧ (bu (q.take 2)).1.length = 1 ↔ ∃ a b r, q = a :: b :: r ∧ hexok a b = true := by
  rcases q with _ | ⟨a, _ | ⟨b, r⟩⟩
  · simp [bu]
  · simp [bu]; split <;> simp
  · simp only [List.take_succ_cons, List.take_zero, bu]
    by_cases h : dg a < 0 ∨ dg b < 0
    · rw [if_pos h]
      constructor
      · intro h'; simp at h'
      · rintro ⟨a', b', r', e, hk⟩
        simp only [List.cons.injEq] at e
        obtain ⟨rfl, rfl, _⟩ := e
        simp [hexok] at hk
        omega
    · rw [if_neg h]
      constructor
      · intro _
        exact ⟨a, b, r, rfl, by simp [hexok]; omega⟩
      · intro _; simp
theorem go_ev : ∀ (ps : List (List UInt8)) (b : Bool), Ev (fun k => escape_Unpercent.go k b (ps.map bs)) (gp b ps)
  | [], b => by cases b <;> exact Ev.congr (fun k => by rfl) (Ev.now _)
  | p :: ps, true => by
    refine Ev.congr (fun k => by rw [List.map_cons, escape_Unpercent.go]) (Ev.bind (go_ev ps false) ?_)
    rw [gp, bs_data]
    exact Ev.now _
  | p :: ps, false => by
    refine Ev.congr (fun k => by rw [List.map_cons, escape_Unpercent.go]) ?_
    have he : ((bs p).extract 0 (min 2 (bs p).size)).data.toList = p.take 2 := by
      rw [ByteArray.data_extract, Array.toList_extract, List.extract_eq_take_drop, bs_data, bs_size]
      simp [List.take_eq_take_iff]
    have hu := bu_ev ((bs p).extract 0 (min 2 (bs p).size)) (by rw [ByteArray.size_extract]; omega)
    rw [he] at hu
    refine Ev.bind hu ?_
    by_cases hk : (bu (p.take 2)).2 = 0 ∧ (bu (p.take 2)).1.length = 1
    · refine Ev.ifT hk ?_
      obtain ⟨a, b, r, rfl, hh⟩ := (bu_ok p).1 hk
      refine Ev.ifT (by rw [bs_size]; simp) (Ev.bind (go_ev ps false) ?_)
      rw [gp, if_pos hh]
      have hv := hexval_int hh
      have e1 : bu ((a :: b :: r).take 2) = ([((hexval a b).toNat : Int)], 0) := by
        simp only [hexok, Bool.and_eq_true, decide_eq_true_eq] at hh
        simp only [List.take_succ_cons, List.take_zero, bu]
        rw [if_neg (by omega), hv]
      have e2 : (strOfNums (bu ((a :: b :: r).take 2)).1).data.toList ++ ((bs (a :: b :: r)).extract 2 (bs (a :: b :: r)).size).data.toList = hexval a b :: r := by
        rw [e1]
        have := str_ints [hexval a b]
        simp only [ints, List.map_cons, List.map_nil] at this
        rw [this, bs_data, ByteArray.data_extract, Array.toList_extract, List.extract_eq_take_drop, bs_data, bs_size]
        simp
      rw [e2]
      exact Ev.now _
    · refine Ev.ifF hk ?_
      have : gp false (p :: ps) = none := by
        rcases p with _ | ⟨a, _ | ⟨b, r⟩⟩
        · rfl
        · rfl
        · rw [gp, if_neg (fun hh => hk ((bu_ok _).2 ⟨a, b, r, rfl, hh⟩))]
      rw [this]
      exact Ev.now _
theorem not_pct (a : UInt8) : hexok 37 a = false ∧ hexok a 37 = false := by
  have : dg 37 = -1 := by decide +kernel
  simp [hexok, this]
theorem gp_spl : ∀ (n : Nat) (l : List UInt8), l.length ≤ n → gp true (spl 37 l) = unp false l ∧ gp false (spl 37 l) = unp false (37 :: l)
  | n, [], _ => by
    refine ⟨by rw [unp_nil]; rfl, ?_⟩
    rw [unp_short _ _ (by simp)]; rfl
  | 0, x :: l, h => by simp at h
  | n + 1, x :: l, h => by
    have hl : l.length ≤ n := by simpa using h
    have hA : gp true (spl 37 (x :: l)) = unp false (x :: l) := by
      by_cases hx : x = 37
      · subst hx
        rw [spl, if_pos rfl, gp, (gp_spl n l hl).2.symm]
        cases gp false (spl 37 l) <;> simp
      · have ih := (gp_spl n l hl).1
        rw [spl, if_neg hx, unp_cons _ _ _ hx, ← ih]
        rcases hs : spl 37 l with _ | ⟨p, ps⟩
        · exact absurd hs (spl_ne _ _)
        · simp only [gp, Option.map_map]
          rw [if_neg (by simp)]
          rfl
    refine ⟨hA, ?_⟩
    rcases l with _ | ⟨b, r⟩
    · rw [unp_short _ _ (by simp)]
      by_cases hx : x = 37
      · subst hx; rfl
      · rw [spl, if_neg hx]; rfl
    · rw [unp_pct]
      by_cases hx : x = 37
      · subst hx
        rw [(not_pct b).1, if_neg (by simp), spl, if_pos rfl]; rfl
      · by_cases hb : b = 37
        · subst hb
          rw [(not_pct x).2, if_neg (by simp), spl, if_neg hx, spl, if_pos rfl]; rfl
        · have ih := (gp_spl n r (by simp at hl; omega)).1
          rw [spl, if_neg hx, spl, if_neg hb, ← ih]
          rcases hs : spl 37 r with _ | ⟨p, ps⟩
          · exact absurd hs (spl_ne _ _)
          · simp only [gp, Option.map_map]
            rfl
end Go.Proofs.YtjmcdocoogdbiaaDoor.Esc
