/- The plain law of CharsNames: what the printed functions answer, of any texts. -/
import Derived.Test.YthakidcnlkbbgaaDoorChr
import Derived.Test.YthakidcnlkbbgaaDoorAwk
import Derived.Test.YthakidcnlkbbgaaDoorHp0
import Derived.Test.YthakidcnlkbbgaaDoorHp1
import Derived.Test.YthakidcnlkbbgaaDoorHp2
import Derived.Test.YthakidcnlkbbgaaDoorHp4
import Derived.Test.YthakidcnlkbbgaaDoorHp5
import Derived.Test.YthakidcnlkbbgaaDoorHp9
namespace Go.Proofs.YthakidcnlkbbgaaDoor.Esc
open Go.RowKit Go.Proofs.YthakidcnlkbbgaaDoor.Hp Go.Proofs.YthakidcnlkbbgaaDoorW.PrintWords Go.Proofs.YthakidcnlkbbgaaDoorW.PrintLast
def firstB (c : Int) : Bool := decide (65 ≤ c ∧ c ≤ 90 ∨ 97 ≤ c ∧ c ≤ 122 ∨ c = 95 ∨ 192 ≤ c ∧ c ≤ 214 ∨ 216 ≤ c ∧ c ≤ 246 ∨ 248 ≤ c ∧ c ≤ 767 ∨ 880 ≤ c ∧ c ≤ 893 ∨ 895 ≤ c ∧ c ≤ 8191 ∨ 8204 ≤ c ∧ c ≤ 8205 ∨ 8304 ≤ c ∧ c ≤ 8591 ∨ 11264 ≤ c ∧ c ≤ 12271 ∨ 12289 ≤ c ∧ c ≤ 55295 ∨ 63744 ≤ c ∧ c ≤ 64975 ∨ 65008 ≤ c ∧ c ≤ 65533 ∨ 65536 ≤ c ∧ c ≤ 983039)
def moreB (c : Int) : Bool := decide (48 ≤ c ∧ c ≤ 57 ∨ c = 45 ∨ c = 46 ∨ c = 183 ∨ 768 ≤ c ∧ c ≤ 879 ∨ c = 8255 ∨ c = 8256)
theorem first_f (a : Int) : chars_first.f a = some (firstB a) := by
  unfold chars_first.f chars_inside.f firstB
  simp only [List.length_cons, List.length_nil, Nat.zero_add, Nat.zero_lt_succ, if_true, Option.bind_some, List.any_cons, List.any_nil, inSpan, Bool.or_false]
  congr 1
  rw [Bool.eq_iff_iff]
  simp only [Bool.or_eq_true, Bool.and_eq_true, decide_eq_true_eq]
  omega
theorem later_f (a : Int) : chars_later.f a = some (firstB a || moreB a) := by
  unfold chars_later.f
  rw [first_f]
  simp only [Option.bind_some]
  cases firstB a with
  | true => rfl
  | false =>
    unfold chars_inside.f moreB
    simp only [List.length_cons, List.length_nil, Nat.zero_add, Nat.zero_lt_succ, if_true, Option.bind_some, List.any_cons, List.any_nil, inSpan, Bool.or_false, Bool.false_or, Bool.false_eq_true, if_false]
    congr 1
    rw [Bool.eq_iff_iff]
    simp only [Bool.or_eq_true, Bool.and_eq_true, decide_eq_true_eq]
    omega
def froms : List Int := [65, 97, 95, 192, 216, 248, 880, 895, 8204, 8304, 11264, 12289, 63744, 65008, 65536]
def tos : List Int := [90, 122, 95, 214, 246, 767, 893, 8191, 8205, 8591, 12271, 55295, 64975, 65533, 983039]
def within (c : Int) : List Int → List Int → Bool
  | x :: xs, y :: ys => if c ≥ x then (if c ≤ y then true else within c xs ys) else within c xs ys
  | _, _ => false
theorem rd_nat (l : List Int) (i : Nat) : rd l (i : Int) = l.getD i 0 := by
  unfold rd
  rw [show ((i : Int)).toNat = i by omega]
theorem first_loop (c : Int) (xs ys : List Int) (hl : xs.length = ys.length) (hn : xs.length ≤ 100) : ∀ (m i : Nat), xs.length - i = m → i ≤ xs.length → Ev (fun k => lanyardref01_first.l0 k c xs ys (i : Int)) (within c (xs.drop i) (ys.drop i))
  | 0, i, hm, hi => by
    refine Ev.step (fun k => by rw [lanyardref01_first.l0]) (Ev.ifF (by omega) ?_)
    rw [List.drop_of_length_le (by omega)]
    exact Ev.now _
  | m + 1, i, hm, hi => by
    have hw : wrap64 ((i : Int) + 1) = ((i + 1 : Nat) : Int) := by rw [w64 (by omega) (by omega)]; omega
    have e1 : xs.drop i = xs.getD i 0 :: xs.drop (i + 1) := by rw [List.drop_eq_getElem_cons (show i < xs.length by omega), List.getD_eq_getElem?_getD, List.getElem?_eq_getElem (show i < xs.length by omega)]; rfl
    have e2 : ys.drop i = ys.getD i 0 :: ys.drop (i + 1) := by rw [List.drop_eq_getElem_cons (show i < ys.length by omega), List.getD_eq_getElem?_getD, List.getElem?_eq_getElem (show i < ys.length by omega)]; rfl
    have ih := first_loop c xs ys hl hn m (i + 1) (by omega) (by omega)
    refine Ev.step (fun k => by rw [lanyardref01_first.l0]) (Ev.ifT (by omega) (Ev.ifT (by omega) ?_))
    rw [rd_nat, rd_nat, hw, e1, e2, within]
    by_cases h1 : c ≥ xs.getD i 0
    · rw [if_pos h1]
      refine Ev.ifT h1 (Ev.ifT (by omega) ?_)
      by_cases h2 : c ≤ ys.getD i 0
      · rw [if_pos h2]; exact Ev.ifT h2 (Ev.now _)
      · rw [if_neg h2]; exact Ev.ifF h2 ih
    · rw [if_neg h1]; exact Ev.ifF h1 ih
theorem within_first (c : Int) : within c froms tos = firstB c := by
  have cons : ∀ (x y : Int) (xs ys : List Int), within c (x :: xs) (y :: ys) = (decide (x ≤ c ∧ c ≤ y) || within c xs ys) := by
    intro x y xs ys
    rw [within]
    by_cases h1 : c ≥ x
    · rw [if_pos h1]
      by_cases h2 : c ≤ y
      · rw [if_pos h2, decide_eq_true ⟨h1, h2⟩]; rfl
      · rw [if_neg h2, decide_eq_false (fun h => h2 h.2)]; rfl
    · rw [if_neg h1, decide_eq_false (fun h => h1 h.1)]; rfl
  have none_ : within c [] [] = false := rfl
  unfold firstB froms tos
  simp only [cons, none_, Bool.or_false]
  rw [Bool.eq_iff_iff]
  simp only [Bool.or_eq_true, decide_eq_true_eq]
  omega
theorem ref_first_ev (c : Int) : Ev (fun k => lanyardref01_first.f k c) (firstB c) := by
  have := first_loop c froms tos rfl (by decide) froms.length 0 rfl (by omega)
  rw [List.drop_zero, List.drop_zero, within_first] at this
  unfold lanyardref01_first.f
  exact this
/-- A name's characters from a place on; lead: it is the first. -/
def okN : Nat → Bool → List UInt8 → Bool
  | 0, _, _ => true
  | f + 1, lead, b => if b = [] then true else if gd b = 0 then false else (firstB ((dN b).1 : Int) || !lead && moreB ((dN b).1 : Int)) && okN f false (b.drop (gd b))
def name (b : List UInt8) : Bool := !b.isEmpty && decide (b.length ≤ 256) && okN (b.length + 1) true b
theorem okN_bad : ∀ (f : Nat) (lead : Bool) (b : List UInt8), okN f lead b = true → badF f b = none
  | 0, _, _, _ => rfl
  | f + 1, lead, b, h => by
    rw [okN] at h
    rw [badF]
    by_cases h0 : b = []
    · rw [if_pos h0]
    rw [if_neg h0] at h ⊢
    by_cases hg : gd b = 0
    · rw [if_pos hg] at h; simp at h
    rw [if_neg hg] at h ⊢
    rw [okN_bad f false _ ((Bool.and_eq_true_iff.1 h).2)]; rfl
theorem data_bs (s : ByteArray) : bs s.data.toList = s := rfl
/-- The program's look at the characters, one by one. -/
theorem wl_ev (s : ByteArray) (hs : s.size ≤ 1000) : ∀ (f i : Nat) (lead : Bool), s.size - i < f → i ≤ s.size → (lead = true ↔ i = 0) → badF f (s.data.toList.drop i) = none →
    Ev (fun k => chars_wrong.l s k i) (!okN f lead (s.data.toList.drop i))
  | 0, i, lead, hf, _, _, _ => absurd hf (by omega)
  | f + 1, i, lead, hf, hi, hlead, hb => by
    have hL : s.data.toList.length = s.size := len_data s
    by_cases he : i < s.size
    · have hne : s.data.toList.drop i ≠ [] := by intro h; have := congrArg List.length h; rw [List.length_drop, List.length_nil] at this; omega
      rw [badF, if_neg hne] at hb
      by_cases hg : gd (s.data.toList.drop i) = 0
      · rw [if_pos hg] at hb; simp at hb
      rw [if_neg hg] at hb
      have hb' : badF f ((s.data.toList.drop i).drop (gd (s.data.toList.drop i))) = none := by simpa using hb
      obtain ⟨_, _, _, hgd⟩ := gd_pos _ hg
      have hle := gd_le (s.data.toList.drop i)
      rw [List.length_drop] at hle
      rw [List.drop_drop] at hb'
      have ih := wl_ev s hs f (i + gd (s.data.toList.drop i)) false (by omega) (by omega) (by simp; omega) hb'
      have hd : Utf8.decode s i = dN (s.data.toList.drop i) := decode_bs s.data.toList i
      refine Ev.step (fun k => by rw [chars_wrong.l]) (Ev.ifT he ?_)
      rw [hd, okN, if_neg hne, if_neg hg, List.drop_drop, ← hgd]
      cases lead with
      | true =>
        have h0 := hlead.1 rfl
        refine Ev.bindC (a := firstB ((dN (s.data.toList.drop i)).1 : Int)) (by rw [if_pos h0, first_f]) ?_
        cases hfb : firstB ((dN (s.data.toList.drop i)).1 : Int) with
        | true =>
          refine Ev.ifT rfl (Ev.bindC (later_f _) ?_)
          rw [hfb]
          exact Ev.ifT rfl ih
        | false => exact Ev.ifF (by simp) (Ev.now _)
      | false =>
        have h0 : ¬ i = 0 := fun h => by have := hlead.2 h; simp at this
        refine Ev.bindC (a := true) (by rw [if_neg h0]) (Ev.ifT rfl (Ev.bindC (later_f _) ?_))
        cases hl : (firstB ((dN (s.data.toList.drop i)).1 : Int) || moreB ((dN (s.data.toList.drop i)).1 : Int)) with
        | true =>
          refine Ev.ifT rfl ?_
          rw [show (firstB ((dN (s.data.toList.drop i)).1 : Int) || !false && moreB ((dN (s.data.toList.drop i)).1 : Int)) = true by simpa using hl, Bool.true_and]
          exact ih
        | false =>
          refine Ev.ifF (by simp) ?_
          rw [show (firstB ((dN (s.data.toList.drop i)).1 : Int) || !false && moreB ((dN (s.data.toList.drop i)).1 : Int)) = false by simpa using hl, Bool.false_and]
          exact Ev.now _
    · obtain rfl : i = s.size := by omega
      refine Ev.step (fun k => by rw [chars_wrong.l]) (Ev.ifF he ?_)
      rw [okN, if_pos (by rw [List.drop_of_length_le (by omega)])]
      exact Ev.now _
theorem okN_not : ∀ (f : Nat) (lead : Bool) (b : List UInt8), badF f b ≠ none → okN f lead b = false := by
  intro f lead b h
  cases ho : okN f lead b with
  | false => rfl
  | true => exact absurd (okN_bad f lead b ho) h
theorem wrong_ev (s : ByteArray) (hs : s.size ≤ 1000) : Ev (fun k => chars_wrong.f k s) (!name s.data.toList) := by
  have hL : s.data.toList.length = s.size := len_data s
  unfold chars_wrong.f name
  by_cases h0 : s.size = 0
  · rw [List.length_eq_zero_iff.1 (hL.trans h0)]
    exact Ev.ifT h0 (Ev.now _)
  refine Ev.ifF h0 ?_
  have hne : s.data.toList.isEmpty = false := by
    cases hd : s.data.toList with
    | nil => rw [hd] at hL; simp at hL; omega
    | cons => rfl
  rw [hne, Bool.not_false, Bool.true_and]
  by_cases h1 : 256 < s.size
  · rw [decide_eq_false (by omega), Bool.false_and]
    exact Ev.ifT h1 (Ev.now _)
  refine Ev.ifF h1 ?_
  rw [decide_eq_true (by omega), Bool.true_and]
  have eb : Ev (fun k => chars_Bad.f k (bints s)) (told 0 (bad s.data.toList)) := bad_ev s.data.toList (by omega)
  refine Ev.bind eb ?_
  cases hb : bad s.data.toList with
  | none =>
    refine Ev.ifF (by decide) ?_
    have := wl_ev s hs (s.data.toList.length + 1) 0 true (by omega) (by omega) (by simp) (by rw [List.drop_zero]; exact hb)
    rw [List.drop_zero] at this
    exact this
  | some p =>
    refine Ev.ifT (by unfold told; simp only []; omega) ?_
    rw [okN_not _ _ _ (by unfold bad at hb; rw [hb]; simp)]
    exact Ev.now _
theorem ref_name_two (b : List UInt8) (lead : Bool) (i : Nat) (c n : Int) (hlead : lead = true ↔ i = 0) (r : Bool) (hw0 : 0 ≤ n) (hw1 : n ≤ 4) (hi : i ≤ 1000)
    (k : (firstB c || !lead && moreB c) = true → Ev (fun k => lanyardref01_Name.l0 k (I b) ((i : Int) + n)) r) (hno : (firstB c || !lead && moreB c) = false → r = false) : Ev (fun k => lanyardref01_Name.j2 k (I b) (i : Int) c n false) r := by
  refine Ev.step (fun k => by rw [lanyardref01_Name.j2]) (Ev.ifF (by simp) ?_)
  have hw : wrap64 ((i : Int) + n) = (i : Int) + n := w64 (by omega) (by omega)
  rw [hw]
  -- the two ends of each way: 'more' is so, or not
  have yes : moreB c = true → Ev (fun k => (lanyardref01_first.f k c).bind fun t => if t = true then lanyardref01_Name.l0 k (I b) ((i : Int) + n) else if (i : Int) = 0 then some false else lanyardref01_Name.l0 k (I b) ((i : Int) + n)) r := by
    intro hm
    refine Ev.bind (ref_first_ev c) ?_
    cases hf : firstB c with
    | true => exact Ev.ifT rfl (k (by rw [hf]; rfl))
    | false =>
      refine Ev.ifF (by simp) ?_
      by_cases h0 : (i : Int) = 0
      · have : lead = true := hlead.2 (by omega)
        rw [hno (by rw [hf, this]; rfl)]
        exact Ev.ifT h0 (Ev.now _)
      · have : lead = false := by cases lead with | false => rfl | true => exact absurd (hlead.1 rfl) (by omega)
        exact Ev.ifF h0 (k (by rw [hf, this, hm]; rfl))
  have last : ∀ e : Prop, [Decidable e] → (e ↔ moreB c = true) → Ev (fun k => (lanyardref01_first.f k c).bind fun t => if t = true then lanyardref01_Name.l0 k (I b) ((i : Int) + n) else if (i : Int) = 0 then some false else if e then lanyardref01_Name.l0 k (I b) ((i : Int) + n) else some false) r := by
    intro e _ he
    refine Ev.bind (ref_first_ev c) ?_
    cases hf : firstB c with
    | true => exact Ev.ifT rfl (k (by rw [hf]; rfl))
    | false =>
      refine Ev.ifF (by simp) ?_
      by_cases h0 : (i : Int) = 0
      · have : lead = true := hlead.2 (by omega)
        rw [hno (by rw [hf, this]; rfl)]
        exact Ev.ifT h0 (Ev.now _)
      · have hl : lead = false := by cases lead with | false => rfl | true => exact absurd (hlead.1 rfl) (by omega)
        refine Ev.ifF h0 ?_
        by_cases h : e
        · exact Ev.ifT h (k (by rw [hf, hl, he.1 h]; rfl))
        · have hm : moreB c = false := by cases hm : moreB c with | false => rfl | true => exact absurd (he.2 hm) h
          rw [hno (by rw [hf, hl, hm]; rfl)]
          exact Ev.ifF h (Ev.now _)
  have Y : (48 ≤ c ∧ c ≤ 57 ∨ c = 45 ∨ c = 46 ∨ c = 183 ∨ 768 ≤ c ∧ c ≤ 879 ∨ c = 8255 ∨ c = 8256) → moreB c = true := fun h => decide_eq_true h
  have N : ∀ e : Prop, (e ↔ (48 ≤ c ∧ c ≤ 57 ∨ c = 45 ∨ c = 46 ∨ c = 183 ∨ 768 ≤ c ∧ c ≤ 879 ∨ c = 8255 ∨ c = 8256)) → (e ↔ moreB c = true) := fun e h => h.trans (by unfold moreB; rw [decide_eq_true_eq])
  repeat' first
    | (refine yes (Y ?_); omega)
    | (refine last _ (N _ ?_); omega)
    | (refine Ev.parts (fun _ => ?_) (fun _ => ?_))
theorem ref_name_loop (b : List UInt8) (hb : b.length ≤ 1000) : ∀ (f i : Nat) (lead : Bool), b.length - i < f → i ≤ b.length → (lead = true ↔ i = 0) → Ev (fun k => lanyardref01_Name.l0 k (I b) (i : Int)) (okN f lead (b.drop i))
  | 0, i, lead, hf, _, _ => absurd hf (by omega)
  | f + 1, i, lead, hf, hi, hlead => by
    by_cases he : i < b.length
    · have hne : b.drop i ≠ [] := by intro h; have := congrArg List.length h; rw [List.length_drop, List.length_nil] at this; omega
      have hw := dN_wide _ hne
      have hl : (b.drop i).length = b.length - i := List.length_drop
      refine Ev.step (fun k => by rw [lanyardref01_Name.l0]) (Ev.ifT (by rw [I_len]; omega) (Ev.ifT (by omega) (Ev.ifT (by rw [I_len]; omega) ?_)))
      rw [show ((i : Int)).toNat = i by omega, I_drop]
      refine Ev.bind (one_ev _) ?_
      rw [okN, if_neg hne]
      unfold one
      rw [if_neg hne]
      by_cases hr : Right (dN (b.drop i))
      · rw [if_pos hr]
        refine Ev.ifF (by show ¬ ((dN (b.drop i)).2 : Int) = 0; omega) (Ev.bindC (ref_char_f _) ?_)
        cases hc : charB ((dN (b.drop i)).1 : Int) with
        | true =>
          have e : gd (b.drop i) = (dN (b.drop i)).2 := by unfold gd; rw [if_neg hne, if_pos ⟨hr, hc⟩]
          rw [if_neg (by omega)]
          show Ev (fun k => lanyardref01_Name.j2 k (I b) (i : Int) ((dN (b.drop i)).1 : Int) ((dN (b.drop i)).2 : Int) false) _
          refine ref_name_two b lead i _ _ hlead _ (by omega) (by omega) (by omega) (fun hy => ?_) (fun hn => by rw [hn]; rfl)
          rw [hy, Bool.true_and, List.drop_drop, e]
          have := ref_name_loop b hb f (i + (dN (b.drop i)).2) false (by omega) (by omega) (by simp; omega)
          rw [show (i : Int) + ((dN (b.drop i)).2 : Int) = ((i + (dN (b.drop i)).2 : Nat) : Int) by omega]
          exact this
        | false =>
          have e : gd (b.drop i) = 0 := by unfold gd; rw [if_neg hne, if_neg (fun h => by rw [hc] at h; simp at h)]
          rw [if_pos e]
          refine Ev.step (fun k => by rw [lanyardref01_Name.j2]) ?_
          exact Ev.ifT rfl (Ev.now _)
      · have e : gd (b.drop i) = 0 := by unfold gd; rw [if_neg hne, if_neg (fun h => hr h.1)]
        rw [if_neg hr, if_pos e]
        refine Ev.ifT rfl ?_
        refine Ev.step (fun k => by rw [lanyardref01_Name.j2]) ?_
        exact Ev.ifT rfl (Ev.now _)
    · obtain rfl : i = b.length := by omega
      refine Ev.step (fun k => by rw [lanyardref01_Name.l0]) (Ev.ifF (by rw [I_len]; omega) ?_)
      rw [okN, if_pos (by rw [List.drop_of_length_le (Nat.le_refl _)])]
      exact Ev.now _
theorem ref_name_ev (s : ByteArray) (hs : s.size ≤ 1000) : Ev (fun k => lanyardref01_Name.f k s) (name s.data.toList) := by
  have hL : s.data.toList.length = s.size := len_data s
  have hI : bints s = I s.data.toList := rfl
  unfold lanyardref01_Name.f lanyardref01_Name.fc name
  refine Ev.ifT (by omega) ?_
  rw [hI, I_len]
  by_cases h0 : s.data.toList.length = 0
  · rw [List.length_eq_zero_iff.1 h0]
    refine Ev.ifT rfl ?_
    refine Ev.step (fun k => by rw [lanyardref01_Name.j0]) ?_
    exact Ev.ifT rfl (Ev.now _)
  refine Ev.ifF (by omega) ?_
  have hne : s.data.toList.isEmpty = false := by
    cases hd : s.data.toList with
    | nil => rw [hd] at h0; simp at h0
    | cons => rfl
  rw [hne, Bool.not_false, Bool.true_and]
  by_cases h1 : (s.data.toList.length : Int) > 256
  · rw [decide_eq_true h1, decide_eq_false (by omega), Bool.false_and]
    refine Ev.step (fun k => by rw [lanyardref01_Name.j0]) ?_
    exact Ev.ifT rfl (Ev.now _)
  · rw [decide_eq_false h1, decide_eq_true (by omega), Bool.true_and]
    refine Ev.step (fun k => by rw [lanyardref01_Name.j0]) (Ev.ifF (by simp) ?_)
    have := ref_name_loop s.data.toList (by omega) (s.data.toList.length + 1) 0 true (by omega) (by omega) (by simp)
    rw [List.drop_zero] at this
    exact this
/-- Several names: is there one that is wrong, and where? -/
theorem idx_ev : ∀ (l : List ByteArray) (i : Nat), (∀ x ∈ l, x.size ≤ 1000) → ∃ t, Ev (fun k => chars_Name.idx k i l) t ∧ (0 ≤ t ↔ (l.all fun x => name x.data.toList) = false)
  | [], i, _ => ⟨-1, Ev.now _, by simp⟩
  | x :: xs, i, h => by
    have hx := h x (by simp)
    cases hn : name x.data.toList with
    | true =>
      obtain ⟨t, ht, hi⟩ := idx_ev xs (i + 1) (fun y hy => h y (by simp [hy]))
      refine ⟨t, ?_, by rw [hi, List.all_cons, hn, Bool.true_and]⟩
      have hw := wrong_ev x hx
      rw [hn, Bool.not_true] at hw
      refine Ev.congr (fun k => by rw [chars_Name.idx]) (Ev.bind hw ?_)
      exact Ev.ifF (by decide) ht
    | false =>
      refine ⟨(i : Int), ?_, by rw [List.all_cons, hn]; simp⟩
      have hw := wrong_ev x hx
      rw [hn, Bool.not_false] at hw
      refine Ev.congr (fun k => by rw [chars_Name.idx]) (Ev.bind hw ?_)
      exact Ev.ifT rfl (Ev.now _)
theorem name_ev (l : List ByteArray) (h : ∀ x ∈ l, x.size ≤ 1000) : Ev (fun k => chars_Name.f k l) (l.all fun x => name x.data.toList) := by
  obtain ⟨t, ht, hi⟩ := idx_ev l 0 h
  unfold chars_Name.f
  refine Ev.bind ht ?_
  cases ha : (l.all fun x => name x.data.toList) with
  | true => rw [decide_eq_false (fun h => by have := hi.1 h; rw [ha] at this; simp at this)]; exact Ev.now _
  | false => rw [decide_eq_true (hi.2 ha)]; exact Ev.now _
end Go.Proofs.YthakidcnlkbbgaaDoor.Esc
namespace Go.Proofs.YthakidcnlkbbgaaDoor.Pure
open Go.RowKit Go.Proofs.YthakidcnlkbbgaaDoor.Hp Go.Proofs.YthakidcnlkbbgaaDoor.Esc Go.Proofs.YthakidcnlkbbgaaDoorW.PrintWords Go.Proofs.YthakidcnlkbbgaaDoorW.PrintLast
theorem names_loop (l : List ByteArray) (hn : l.length ≤ 50) : ∀ (m i : Nat), l.length - i = m → i ≤ l.length → (∀ j x, j < i → l[j]? = some x → x.size ≤ 1000) → Ev (fun k => lanyardlaw01_CharsNames.l0 k l ((l.take i).all fun x => name x.data.toList) (i : Int)) true
  | 0, i, hm, hi, hs => by
    obtain rfl : i = l.length := by omega
    refine Ev.step (fun k => by rw [lanyardlaw01_CharsNames.l0]) (Ev.ifF (by omega) ?_)
    rw [List.take_length]
    refine Ev.bind (name_ev l (fun x hx => by
      obtain ⟨j, hj⟩ := List.getElem?_of_mem hx
      exact hs j x (List.getElem?_eq_some_iff.1 hj).1 hj)) ?_
    rw [beq_self_eq_true]
    exact Ev.now true
  | m + 1, i, hm, hi, hs => by
    obtain ⟨x, hx⟩ : ∃ x, l[i]? = some x := ⟨l[i], List.getElem?_eq_getElem (by omega)⟩
    obtain ⟨hlt, hxe⟩ := List.getElem?_eq_some_iff.1 hx
    have hw : wrap64 ((i : Int) + 1) = ((i + 1 : Nat) : Int) := by rw [w64 (by omega) (by omega)]; omega
    have hrd : rdOf ByteArray.empty l (i : Int) = x := by
      unfold rdOf
      simp [List.getD_eq_getElem?_getD, hx]
    refine Ev.step (fun k => by rw [lanyardlaw01_CharsNames.l0]) (Ev.ifT (by omega) (Ev.ifT (by omega) ?_))
    rw [hrd, hw]
    by_cases h0 : (x.size : Int) > 1000
    · exact Ev.ifT h0 (Ev.now true)
    refine Ev.ifF h0 (Ev.bind (ref_name_ev x (by omega)) ?_)
    have e1 := name_ev [x] (fun y hy => by rw [List.mem_singleton.1 hy]; omega)
    rw [show ([x].all fun x => name x.data.toList) = name x.data.toList by simp] at e1
    refine Ev.bind e1 (Ev.ifF (by simp) ?_)
    have ih := names_loop l hn m (i + 1) (by omega) (by omega) (fun j y hj hy => by
      by_cases e : j = i
      · subst e
        obtain rfl : x = y := Option.some.inj (hx.symm.trans hy)
        omega
      · exact hs j y (by omega) hy)
    rw [List.take_succ_eq_append_getElem hlt, hxe, List.all_append, show ([x].all fun x => name x.data.toList) = name x.data.toList by simp] at ih
    cases ha : (l.take i).all fun x => name x.data.toList with
    | true => rw [ha, Bool.true_and] at ih; exact Ev.ifT rfl ih
    | false => rw [ha, Bool.false_and] at ih; exact Ev.ifF (by simp) ih
theorem CharsNames : lanyardlaw01_CharsNames.Pure := by
  intro l0 _ _
  refine Ev.rounds (?_ : Ev (fun k => lanyardlaw01_CharsNames.f k l0) true)
  have slow : Ev (fun k => lanyardlaw01_CharsNames.j0 k l0 true) true := Ev.step (fun k => by rw [lanyardlaw01_CharsNames.j0]) (Ev.ifT rfl (Ev.bind awake_ev (Ev.now _)))
  unfold lanyardlaw01_CharsNames.f
  refine Ev.bind awake_ev (Ev.ifT rfl ?_)
  by_cases h0 : (l0.length : Int) > 50
  · rw [decide_eq_true h0]; exact slow
  rw [decide_eq_false h0]
  refine Ev.step (fun k => by rw [lanyardlaw01_CharsNames.j0]) (Ev.ifF (by simp) ?_)
  have := names_loop l0 (by omega) l0.length 0 rfl (by omega) (fun j x hj => absurd hj (by omega))
  rw [List.take_zero] at this
  exact this
end Go.Proofs.YthakidcnlkbbgaaDoor.Pure
