/- Line ends made one, and what is made again: the plain laws. -/
import Derived.Test.YthakidcnlkbbgaaDoorWds
import Derived.Test.YthakidcnlkbbgaaDoorHp1
import Derived.Test.YthakidcnlkbbgaaDoorHp6
namespace Go.Proofs.YthakidcnlkbbgaaDoor.Esc
open Go.RowKit Go.Proofs.YthakidcnlkbbgaaDoor.Hp Go.Proofs.YthakidcnlkbbgaaDoorW.PrintWords Go.Proofs.YthakidcnlkbbgaaDoorW.PrintLast
def crlf : List UInt8 → List UInt8
  | [] => []
  | c :: r => if c = 13 ∧ r.head? = some 10 then crlf r else c :: crlf r
def lns : List UInt8 → List UInt8
  | [] => []
  | c :: r => if c = 13 then (if r.head? = some 10 then lns r else 10 :: lns r) else c :: lns r
theorem index2_nil : Lib.index [] [13, 10] = -1 := rfl
theorem index2_cons (x : UInt8) (l : List UInt8) : Lib.index (x :: l) [13, 10] = if x = 13 ∧ l.head? = some 10 then 0 else if Lib.index l [13, 10] = -1 then -1 else Lib.index l [13, 10] + 1 := by
  rw [Lib.index]
  have e : ([13, 10] : List UInt8).isPrefixOf (x :: l) = decide (x = 13 ∧ l.head? = some 10) := by
    cases l with
    | nil => simp [List.isPrefixOf]
    | cons y l =>
      simp only [List.isPrefixOf, Bool.and_true, List.head?_cons, Option.some.injEq]
      rw [Bool.eq_iff_iff]
      simp only [Bool.and_eq_true, beq_iff_eq, decide_eq_true_eq]
      constructor
      · rintro ⟨rfl, rfl⟩; exact ⟨rfl, rfl⟩
      · rintro ⟨rfl, rfl⟩; exact ⟨rfl, rfl⟩
  rw [e]
  by_cases h : x = 13 ∧ l.head? = some 10
  · rw [if_pos (by simpa using h), if_pos h]
  · rw [if_neg (by simpa using h), if_neg h]
    by_cases h2 : Lib.index l [13, 10] = -1
    · rw [if_pos (by simpa using h2), if_pos h2]
    · rw [if_neg (by simpa using h2), if_neg h2]
theorem crlf_miss : ∀ l : List UInt8, Lib.index l [13, 10] = -1 → crlf l = l
  | [], _ => rfl
  | x :: l, h => by
    rw [index2_cons] at h
    have g := Lib.index_ge l [13, 10]
    by_cases h1 : x = 13 ∧ l.head? = some 10
    · rw [if_pos h1] at h; omega
    rw [if_neg h1] at h
    by_cases h2 : Lib.index l [13, 10] = -1
    · rw [crlf, if_neg h1, crlf_miss l h2]
    · rw [if_neg h2] at h; omega
theorem crlf_hit : ∀ (l : List UInt8) (i : Nat), Lib.index l [13, 10] = i → crlf l = l.take i ++ [10] ++ crlf (l.drop (i + 2))
  | [], i, h => by rw [index2_nil] at h; omega
  | x :: l, i, h => by
    rw [index2_cons] at h
    have g := Lib.index_ge l [13, 10]
    by_cases h1 : x = 13 ∧ l.head? = some 10
    · rw [if_pos h1] at h
      obtain rfl : i = 0 := by omega
      rw [crlf, if_pos h1]
      cases l with
      | nil => simp at h1
      | cons y r =>
        obtain rfl : y = 10 := by simpa using h1.2
        rw [crlf, if_neg (by simp)]
        simp
    rw [if_neg h1] at h
    by_cases h2 : Lib.index l [13, 10] = -1
    · rw [if_pos h2] at h; omega
    rw [if_neg h2] at h
    obtain ⟨j, rfl⟩ : ∃ j, i = j + 1 := ⟨i - 1, by omega⟩
    rw [crlf, if_neg h1, crlf_hit l j (by omega)]
    simp
theorem replaceK_crlf : ∀ (k : Nat) (l : List UInt8), Lib.count l [13, 10] ≤ k → Lib.replaceK [13, 10] [10] k l = crlf l := by
  intro k
  induction k with
  | zero =>
    intro l h
    have hm : Lib.index l [13, 10] = -1 := by
      have g := Lib.index_ge l [13, 10]
      by_cases e : Lib.index l [13, 10] = -1
      · exact e
      · have := Lib.count_hit (s := l) (sub := [13, 10]) (i := (Lib.index l [13, 10]).toNat) (by simp) (by omega)
        omega
    rw [crlf_miss l hm]; rfl
  | succ k ih =>
    intro l h
    by_cases hm : Lib.index l [13, 10] = -1
    · rw [crlf_miss l hm, Lib.replaceK, if_pos (by simp [hm])]
    · have g := Lib.index_ge l [13, 10]
      obtain ⟨i, hi⟩ : ∃ i : Nat, Lib.index l [13, 10] = i := ⟨(Lib.index l [13, 10]).toNat, by omega⟩
      have hc := Lib.count_hit (s := l) (sub := [13, 10]) (i := i) (by simp) hi
      rw [Lib.replaceK_hit _ _ _ _ i hi, crlf_hit l i hi, show ([13, 10] : List UInt8).length = 2 from rfl, ih _ (by simp at hc; omega)]
theorem replaceAll_crlf (l : List UInt8) : Lib.replaceAll l [13, 10] [10] = crlf l := by
  unfold Lib.replaceAll Lib.replace
  rw [if_neg (by decide)]
  refine replaceK_crlf _ l ?_
  unfold Lib.replaceNum
  rw [if_pos (.inl (by decide))]
  exact Nat.le_refl _
theorem crlf_len : ∀ l : List UInt8, (crlf l).length ≤ l.length
  | [] => Nat.le_refl _
  | c :: r => by
    have := crlf_len r
    rw [crlf]
    split
    · simp; omega
    · simp; omega
theorem lns_is : ∀ l : List UInt8, (crlf l).map (repl 13 10) = lns l
  | [] => rfl
  | c :: r => by
    have ih := lns_is r
    rw [crlf, lns]
    by_cases h : c = 13
    · rw [if_pos h]
      by_cases h2 : r.head? = some 10
      · rw [if_pos ⟨h, h2⟩, if_pos h2, ih]
      · rw [if_neg (fun e => h2 e.2), if_neg h2, List.map_cons, ih, repl, if_pos h]
    · rw [if_neg (fun e => h e.1), if_neg h, List.map_cons, ih, repl, if_neg h]
theorem lines_f (s : ByteArray) (hs : s.size ≤ 1000000) : chars_Lines.f s = some (bs (lns s.data.toList)) := by
  have hL : s.data.toList.length = s.size := len_data s
  have h1 : Lib.countB s ⟨#[13, 10]⟩ ≤ s.size := Lib.countB_le ⟨#[13, 10]⟩ (by decide) s.size s (Nat.le_refl _)
  have hc := crlf_len s.data.toList
  have h2 : Lib.countB (bs (crlf s.data.toList)) ⟨#[13]⟩ ≤ (bs (crlf s.data.toList)).size := Lib.countB_le ⟨#[13]⟩ (by decide) _ _ (Nat.le_refl _)
  rw [bs_size] at h2
  have e1 : strings_ReplaceAll.f s ⟨#[13, 10]⟩ ⟨#[10]⟩ = some (bs (crlf s.data.toList)) := by
    unfold strings_ReplaceAll.f
    rw [if_pos ⟨by omega, by decide, by rw [show (⟨#[10]⟩ : ByteArray).size = 1 from rfl]; omega⟩]
    rw [show Lib.replaceAll s.data.toList (⟨#[13, 10]⟩ : ByteArray).data.toList (⟨#[10]⟩ : ByteArray).data.toList = crlf s.data.toList from replaceAll_crlf _]; rfl
  have e2 : strings_ReplaceAll.f (bs (crlf s.data.toList)) ⟨#[13]⟩ ⟨#[10]⟩ = some (bs (lns s.data.toList)) := by
    unfold strings_ReplaceAll.f
    rw [if_pos ⟨by rw [bs_size]; omega, by decide, by rw [show (⟨#[10]⟩ : ByteArray).size = 1 from rfl, bs_size]; omega⟩]
    rw [show Lib.replaceAll (bs (crlf s.data.toList)).data.toList (⟨#[13]⟩ : ByteArray).data.toList (⟨#[10]⟩ : ByteArray).data.toList = lns s.data.toList from (replaceAll_map 13 10 (by decide) _).trans (lns_is _)]; rfl
  unfold chars_Lines.f
  rw [e1, Option.bind_some, e2, Option.bind_some]
theorem head_drop (s : ByteArray) (i : Nat) : (s.data.toList.drop i).head? = if i < s.size then some (s.data.toList.getD i 0) else none := by
  have hL : s.data.toList.length = s.size := len_data s
  by_cases h : i < s.size
  · rw [if_pos h, drop_cons s i h]; rfl
  · rw [if_neg h, List.drop_of_length_le (by omega)]; rfl
theorem ne_byte {c : UInt8} {n : Nat} (hn : n < 256) (h : c ≠ UInt8.ofNat n) : (c.toNat : Int) ≠ n := by
  intro e
  apply h
  apply UInt8.toNat_inj.1
  rw [UInt8.toNat_ofNat', Nat.mod_eq_of_lt hn]
  omega
theorem rl_loop (s : ByteArray) (hs : s.size ≤ 1000000) : ∀ (m i : Nat) (acc : List UInt8), s.size - i = m → i ≤ s.size → acc.length ≤ i → Ev (fun k => lanyardref01_Lines.l0 k s (I acc) (i : Int)) (bs (acc ++ lns (s.data.toList.drop i)))
  | 0, i, acc, hm, hi, ha => by
    refine Ev.step (fun k => by rw [lanyardref01_Lines.l0]) (Ev.ifF (by omega) ?_)
    rw [drop_end s i (by omega), lns, List.append_nil, I_str]
    exact Ev.now _
  | m + 1, i, acc, hm, hi, ha => by
    have hw : wrap64 ((i : Int) + 1) = ((i + 1 : Nat) : Int) := by rw [w64 (by omega) (by omega)]; omega
    have hlen : (I acc).length < 140737488355328 := by rw [I_len]; omega
    have put : ∀ c : UInt8, Ev (fun k => lanyardref01_Lines.l0 k s (I acc ++ [(c.toNat : Int)]) ((i + 1 : Nat) : Int)) (bs (acc ++ c :: lns (s.data.toList.drop (i + 1)))) := by
      intro c
      have := rl_loop s hs m (i + 1) (acc ++ [c]) (by omega) (by omega) (by simp; omega)
      rw [I_app, List.append_assoc] at this
      exact this
    refine Ev.step (fun k => by rw [lanyardref01_Lines.l0]) (Ev.ifT (by omega) (Ev.ifT (by omega) ?_))
    rw [bt_nat s i (by omega), hw, drop_cons s i (by omega), lns, head_drop s (i + 1)]
    by_cases hc : s.data.toList.getD i 0 = 13
    · rw [hc, if_pos rfl]
      refine Ev.ifT (by decide) ?_
      by_cases h1 : i + 1 < s.size
      · rw [if_pos h1]
        refine Ev.ifF (by omega) (Ev.ifT (by omega) (Ev.ifT (by omega) ?_))
        rw [bt_nat s (i + 1) h1]
        by_cases h2 : s.data.toList.getD (i + 1) 0 = 10
        · rw [h2, if_pos rfl]
          exact Ev.ifT (by decide) (rl_loop s hs m (i + 1) acc (by omega) (by omega) (by omega))
        · rw [if_neg (fun e => h2 (Option.some.inj e))]
          exact Ev.ifF (ne_byte (n := 10) (by omega) h2) (Ev.ifT hlen (put 10))
      · rw [if_neg h1, if_neg (by simp)]
        exact Ev.ifT (by omega) (Ev.ifT hlen (put 10))
    · rw [if_neg hc]
      exact Ev.ifF (ne_byte (n := 13) (by omega) hc) (Ev.ifT hlen (put _))
theorem ref_lines_ev (s : ByteArray) (hs : s.size ≤ 1000000) : Ev (fun k => lanyardref01_Lines.f k s) (bs (lns s.data.toList)) := by
  have := rl_loop s hs s.size 0 [] rfl (by omega) (by simp)
  rw [List.drop_zero, List.nil_append] at this
  unfold lanyardref01_Lines.f
  exact this
/-! ### made again -/
theorem lns_no : ∀ l : List UInt8, ∀ x ∈ lns l, x ≠ 13
  | [], x, h => by cases h
  | c :: r, x, h => by
    have ih := lns_no r
    rw [lns] at h
    by_cases h1 : c = 13
    · rw [if_pos h1] at h
      by_cases h2 : r.head? = some 10
      · rw [if_pos h2] at h; exact ih x h
      · rw [if_neg h2] at h
        rcases List.mem_cons.1 h with rfl | h
        · decide
        · exact ih x h
    · rw [if_neg h1] at h
      rcases List.mem_cons.1 h with rfl | h
      · exact h1
      · exact ih x h
theorem lns_keep : ∀ l : List UInt8, (∀ x ∈ l, x ≠ 13) → lns l = l
  | [], _ => rfl
  | c :: r, h => by rw [lns, if_neg (h c (by simp)), lns_keep r (fun x hx => h x (by simp [hx]))]
theorem lns_twice (l : List UInt8) : lns (lns l) = lns l := lns_keep _ (lns_no l)
theorem lns_len : ∀ l : List UInt8, (lns l).length ≤ l.length
  | [] => Nat.le_refl _
  | c :: r => by
    have := lns_len r
    rw [lns]
    split
    · split <;> simp <;> omega
    · simp; omega
theorem flat_twice (l : List UInt8) : (l.map flat1).map flat1 = l.map flat1 := by
  rw [List.map_map]
  apply List.map_congr_left
  intro c _
  show flat1 (flat1 c) = flat1 c
  by_cases h : blk c = true
  · rw [(flat_no c).2 h]; rfl
  · have : flat1 c = c := by unfold flat1; rw [if_neg h]
    rw [this, this]
theorem spl_eq (c d : UInt8) (l : List UInt8) : spl c (d :: l) = if d = c then [] :: spl c l else match spl c l with | p :: ps => (d :: p) :: ps | [] => [[d]] := rfl
theorem spl_app (c : UInt8) (y : List UInt8) : ∀ x : List UInt8, spl c (x ++ c :: y) = spl c x ++ spl c y
  | [] => by rw [List.nil_append, spl_eq, if_pos rfl]; rfl
  | d :: x => by
    have ih := spl_app c y x
    rw [List.cons_append, spl_eq, spl_eq c d x]
    by_cases h : d = c
    · rw [if_pos h, if_pos h, ih]; rfl
    · rw [if_neg h, if_neg h, ih]
      cases hs : spl c x with
      | nil => exact absurd hs (spl_ne c x)
      | cons p ps => rfl
theorem wds_app (a b : List UInt8) (c : UInt8) (h : blk c = true) : wds (a ++ c :: b) = wds a ++ wds b := by
  unfold wds
  rw [List.map_append, List.map_cons, (flat_no c).2 h, spl_app, List.filter_append]
theorem spl_no (c : UInt8) : ∀ l : List UInt8, ∀ p ∈ spl c l, ∀ x ∈ p, x ≠ c ∧ x ∈ l
  | [], p, hp, x, hx => by
    rw [spl] at hp
    rw [List.mem_singleton.1 hp] at hx; cases hx
  | d :: l, p, hp, x, hx => by
    have ih := spl_no c l
    rw [spl] at hp
    by_cases h : d = c
    · rw [if_pos h] at hp
      rcases List.mem_cons.1 hp with rfl | hp
      · cases hx
      · exact ⟨(ih p hp x hx).1, List.mem_cons_of_mem _ (ih p hp x hx).2⟩
    · rw [if_neg h] at hp
      cases hs : spl c l with
      | nil => exact absurd hs (spl_ne c l)
      | cons q qs =>
        rw [hs] at hp ih
        rcases List.mem_cons.1 hp with rfl | hp
        · rcases List.mem_cons.1 hx with rfl | hx
          · exact ⟨h, List.mem_cons_self⟩
          · exact ⟨(ih q List.mem_cons_self x hx).1, List.mem_cons_of_mem _ (ih q List.mem_cons_self x hx).2⟩
        · exact ⟨(ih p (List.mem_cons_of_mem _ hp) x hx).1, List.mem_cons_of_mem _ (ih p (List.mem_cons_of_mem _ hp) x hx).2⟩
theorem wds_word (b : List UInt8) : ∀ w ∈ wds b, w ≠ [] ∧ ∀ x ∈ w, blk x = false := by
  intro w hw
  obtain ⟨h1, h2⟩ := List.mem_filter.1 hw
  refine ⟨by rintro rfl; simp [full] at h2, fun x hx => ?_⟩
  obtain ⟨h3, h4⟩ := spl_no 32 _ w h1 x hx
  obtain ⟨c, _, rfl⟩ := List.mem_map.1 h4
  by_cases hb : blk c = true
  · exact absurd ((flat_no c).2 hb) h3
  · have : flat1 c = c := by unfold flat1; rw [if_neg hb]
    rw [this]; simpa using hb
theorem wds_join : ∀ ws : List (List UInt8), (∀ w ∈ ws, w ≠ [] ∧ ∀ x ∈ w, blk x = false) → wds (Lib.join ws [32]) = ws
  | [], _ => rfl
  | [x], h => by rw [Lib.join_one]; exact wds_all x (h x (by simp)).2 (h x (by simp)).1
  | x :: y :: r, h => by
    have e : Lib.join (x :: y :: r) [32] = x ++ 32 :: Lib.join (y :: r) [32] := by
      rw [Lib.join_cons, Lib.join_cons]; simp [Lib.joinTail]
    rw [e, wds_cut _ _ 32 (h x (by simp)).2 rfl, if_neg (h x (by simp)).1, wds_join (y :: r) (fun w hw => h w (List.mem_cons_of_mem _ hw))]
    rfl
theorem wds_collapse (b : List UInt8) : wds (collapse b) = wds b := wds_join _ (wds_word b)
theorem join_sum (c : UInt8) : ∀ l : List (List UInt8), l ≠ [] → (Lib.join l [c]).length + 1 = (l.map fun p => p.length + 1).sum
  | [], h => absurd rfl h
  | x :: r, _ => by
    rw [Lib.join_length]
    simp only [List.length_singleton, Nat.one_mul, List.map_cons, List.sum_cons]
    have : ∀ r : List (List UInt8), r.length + Lib.lens r = (r.map fun p => p.length + 1).sum := by
      intro r
      induction r with
      | nil => rfl
      | cons y r ih =>
        have e : Lib.lens (y :: r) = y.length + Lib.lens r := by simp [Lib.lens]
        simp only [List.length_cons, List.map_cons, List.sum_cons]
        omega
    have h2 := this r
    have e : Lib.lens (x :: r) = x.length + Lib.lens r := by simp [Lib.lens]
    omega
theorem filter_sum (f : List UInt8 → Bool) : ∀ l : List (List UInt8), ((l.filter f).map fun p => p.length + 1).sum ≤ (l.map fun p => p.length + 1).sum
  | [] => Nat.le_refl _
  | x :: r => by
    have ih := filter_sum f r
    cases hf : f x with
    | true => rw [List.filter_cons_of_pos hf]; simp only [List.map_cons, List.sum_cons]; omega
    | false => rw [List.filter_cons_of_neg (by rw [hf]; decide)]; simp only [List.map_cons, List.sum_cons]; omega
theorem collapse_short (b : List UInt8) : (collapse b).length ≤ b.length := by
  by_cases h : wds b = []
  · unfold collapse; rw [h, Lib.join_nil]; simp
  · have h1 := join_sum 32 (wds b) h
    have h2 := filter_sum full (spl 32 (b.map flat1))
    have h3 := spl_sum 32 (b.map flat1)
    rw [List.length_map] at h3
    have h4 : ((wds b).map fun p => p.length + 1).sum ≤ b.length + 1 := by unfold wds; omega
    unfold collapse
    omega
end Go.Proofs.YthakidcnlkbbgaaDoor.Esc
