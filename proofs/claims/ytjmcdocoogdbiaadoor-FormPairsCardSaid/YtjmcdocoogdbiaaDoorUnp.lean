/- Percent coding undone: the plain answer, and that both the document's printed function and the program's give it. -/
import Derived.Test.YtjmcdocoogdbiaaDoorEsc
import Derived.Test.YtjmcdocoogdbiaaDoorHp4
import Derived.Test.YtjmcdocoogdbiaaDoorHp5
namespace Go.Proofs.YtjmcdocoogdbiaaDoor.Esc
open Go.RowKit Go.Proofs.YtjmcdocoogdbiaaDoor.Hp Go.Proofs.YtjmcdocoogdbiaaDoorW.PrintWords Go.Proofs.YtjmcdocoogdbiaaDoorW.PrintLast
/-! ### digits -/
def dg (c : UInt8) : Int := (lanyardref02_digit.f 3 (c.toNat : Int)).getD (-2)
theorem dg_f (c : UInt8) : lanyardref02_digit.f 3 (c.toNat : Int) = some (dg c) := by
  have : ∀ c : UInt8, (lanyardref02_digit.f 3 (c.toNat : Int) == some (dg c)) = true := bytes_all (by decide +kernel)
  simpa using this c
theorem dg_ev (c : UInt8) : Ev (fun k => lanyardref02_digit.f k (c.toNat : Int)) (dg c) := Ev.of (fun k => lanyardref02_digit.mono _ k) (dg_f c)
theorem dg_span (c : UInt8) : -1 ≤ dg c ∧ dg c < 16 := by
  have : ∀ c : UInt8, (decide (-1 ≤ dg c) && decide (dg c < 16)) = true := bytes_all (by decide +kernel)
  simpa using this c
/-- The program's own digit. -/
def bd (c : UInt8) : Int := if 65 ≤ (c.toNat : Int) ∧ (c.toNat : Int) ≤ 70 then 10 + (((c.toNat : Int) - 65) % 256) else Lib.indexByte [48, 49, 50, 51, 52, 53, 54, 55, 56, 57, 97, 98, 99, 100, 101, 102] c
theorem bd_dg (c : UInt8) : bd c = dg c := by
  have : ∀ c : UInt8, (bd c == dg c) = true := bytes_all (by decide +kernel)
  simpa using this c
def hexok (a b : UInt8) : Bool := decide (0 ≤ dg a) && decide (0 ≤ dg b)
def hexval (a b : UInt8) : UInt8 := UInt8.ofNat (16 * dg a + dg b).toNat
/-! ### the plain answer -/
def unp (plus : Bool) : List UInt8 → Option (List UInt8)
  | [] => some []
  | c :: l => if c = 37 then (match l with
      | a :: b :: r => if hexok a b = true then (unp plus r).map (hexval a b :: ·) else none
      | _ => none) else (unp plus l).map ((if c = 43 ∧ plus = true then 32 else c) :: ·)
theorem unp_nil (p : Bool) : unp p [] = some [] := by rw [unp]
theorem unp_pct (p : Bool) (a b : UInt8) (r : List UInt8) : unp p (37 :: a :: b :: r) = if hexok a b = true then (unp p r).map (hexval a b :: ·) else none := by rw [unp, if_pos rfl]
theorem unp_short (p : Bool) (l : List UInt8) (h : l.length < 2) : unp p (37 :: l) = none := by
  match l, h with
  | [], _ => simp [unp]
  | [a], _ => simp [unp]
theorem unp_cons (p : Bool) (c : UInt8) (l : List UInt8) (h : c ≠ 37) : unp p (c :: l) = (unp p l).map ((if c = 43 ∧ p = true then 32 else c) :: ·) := by
  match l with
  | [] => simp [unp, h]
  | [a] => rw [unp]; simp only [if_neg h]; exact fun _ _ _ e => by cases e
  | a :: b :: r => rw [unp]; simp only [if_neg h]
theorem ne_int {c : UInt8} {n : Nat} (hn : n < 256) (h : c ≠ UInt8.ofNat n) : (c.toNat : Int) ≠ n := by
  intro e
  apply h
  apply UInt8.toNat_inj.1
  rw [UInt8.toNat_ofNat']
  omega
/-! ### the document's -/
theorem ru_digits (s : ByteArray) (a b : UInt8) (hs : s.data.toList = [a, b]) : Ev (fun k => lanyardref02_Unhex.f k s) (if dg a < 0 ∨ dg b < 0 then ([], 13) else ([16 * dg a + dg b], 0)) := by
  have hz : s.size = 2 := by rw [← len_data, hs]; rfl
  have ba : bt s 0 = (a.toNat : Int) := by have := bt_nat s 0 (by omega); rw [hs] at this; simpa using this
  have bb : bt s 1 = (b.toNat : Int) := by have := bt_nat s 1 (by omega); rw [hs] at this; simpa using this
  have sa := dg_span a
  have sb := dg_span b
  unfold lanyardref02_Unhex.f
  refine Ev.step (fun k => by rw [lanyardref02_Unhex.l0]) (Ev.ifT (by omega) (Ev.ifT (by omega) ?_))
  rw [ba]
  refine Ev.bind (dg_ev a) ?_
  by_cases ha : dg a < 0
  · rw [if_pos (.inl ha)]; exact Ev.ifT ha (Ev.now _)
  refine Ev.ifF ha ?_
  rw [show wrap64 (0 + 1) = 1 by unfold wrap64; omega]
  refine Ev.step (fun k => by rw [lanyardref02_Unhex.l0]) (Ev.ifT (by omega) (Ev.ifT (by omega) ?_))
  rw [bb]
  refine Ev.bind (dg_ev b) ?_
  by_cases hb : dg b < 0
  · rw [if_pos (.inr hb)]; exact Ev.ifT hb (Ev.now _)
  refine Ev.ifF hb ?_
  rw [if_neg (by omega), show wrap64 (1 + 1) = 2 by unfold wrap64; omega]
  refine Ev.step (fun k => by rw [lanyardref02_Unhex.l0]) (Ev.ifF (by omega) (Ev.ifT (by omega) ?_))
  refine Ev.step (fun k => by rw [lanyardref02_Unhex.l1]) (Ev.ifT (by omega) (Ev.ifT (by omega) ?_))
  rw [ba]
  refine Ev.bind (dg_ev a) ?_
  rw [show wrap64 (0 + 1) = 1 by unfold wrap64; omega]
  refine Ev.ifT (by omega) (Ev.ifT (by omega) ?_)
  rw [bb]
  refine Ev.bind (dg_ev b) (Ev.ifT (by simp) ?_)
  rw [show wrap64 (0 + 2) = 2 by unfold wrap64; omega, w64 (x := 16 * dg a) (by omega) (by omega), w64 (x := 16 * dg a + dg b) (by omega) (by omega), show (16 * dg a + dg b) % 256 = 16 * dg a + dg b by omega]
  refine Ev.step (fun k => by rw [lanyardref02_Unhex.l1]) (Ev.ifF (by omega) ?_)
  exact Ev.now _
def ints (l : List UInt8) : List Int := l.map fun c => (c.toNat : Int)
theorem str_ints (l : List UInt8) : strOfNums (ints l) = bs l := by
  apply ext
  rw [bs_data, strOfNums_data, ints, List.map_map]
  conv => rhs; rw [← List.map_id l]
  apply List.map_congr_left
  intro c _
  simp
theorem hexval_int {a b : UInt8} (h : hexok a b = true) : ((hexval a b).toNat : Int) = 16 * dg a + dg b := by
  have sa := dg_span a
  have sb := dg_span b
  simp only [hexok, Bool.and_eq_true, decide_eq_true_eq] at h
  unfold hexval
  rw [UInt8.toNat_ofNat']
  omega
def said (acc : List UInt8) : Option (List UInt8) → ByteArray × Bool
  | some l => (bs (acc ++ l), true)
  | none => (⟨#[]⟩, false)
theorem said_map (acc u : List UInt8) (o : Option (List UInt8)) : said acc (o.map (u ++ ·)) = said (acc ++ u) o := by
  cases o <;> simp [said]
theorem ref_unp (s : ByteArray) (plus : Bool) (hs : s.size ≤ 10000000) : ∀ (m i : Nat) (acc : List UInt8), s.size - i ≤ m → i ≤ s.size → acc.length ≤ i →
    Ev (fun k => lanyardref03_Unpercent.l0 k s plus (ints acc) (i : Int)) (said acc (unp plus (s.data.toList.drop i)))
  | 0, i, acc, hm, hi, _ => by
    refine Ev.step (fun k => by rw [lanyardref03_Unpercent.l0]) (Ev.ifF (by omega) ?_)
    rw [drop_end s i (by omega), unp_nil, str_ints]
    simp only [said, List.append_nil]
    exact Ev.now _
  | m + 1, i, acc, hm, hi, ha => by
    have hal : (ints acc).length = acc.length := by simp [ints]
    by_cases hlt : i < s.size
    · refine Ev.step (fun k => by rw [lanyardref03_Unpercent.l0]) (Ev.ifT (by omega) (Ev.ifT (by omega) ?_))
      rw [bt_nat s i hlt, drop_cons s i hlt]
      have one : ∀ c : UInt8, ints acc ++ [(c.toNat : Int)] = ints (acc ++ [c]) := fun c => by simp [ints]
      by_cases hc : s.data.toList.getD i 0 = 37
      · rw [hc]
        refine Ev.ifT (by decide) ?_
        rw [w64 (x := (i : Int) + 2) (by omega) (by omega)]
        by_cases h2 : (i : Int) + 2 ≥ (s.size : Int)
        · rw [unp_short _ _ (by rw [List.length_drop, len_data]; omega)]
          exact Ev.ifT h2 (Ev.now _)
        refine Ev.ifF h2 ?_
        rw [w64 (x := (i : Int) + 1) (by omega) (by omega), w64 (x := (i : Int) + 3) (by omega) (by omega)]
        refine Ev.ifT (by omega) (Ev.ifT (by omega) (Ev.ifT (by omega) ?_))
        rw [drop_cons s (i + 1) (by omega), drop_cons s (i + 1 + 1) (by omega), unp_pct]
        generalize hA : s.data.toList.getD (i + 1) 0 = a
        generalize hB : s.data.toList.getD (i + 1 + 1) 0 = b
        have hx : (s.extract ((i : Int) + 1).toNat ((i : Int) + 3).toNat).data.toList = [a, b] := by
          rw [show ((i : Int) + 1).toNat = i + 1 by omega, show ((i : Int) + 3).toNat = i + 3 by omega, ByteArray.data_extract, Array.toList_extract, List.extract_eq_take_drop, drop_cons s (i + 1) (by omega), drop_cons s (i + 1 + 1) (by omega), hA, hB, show i + 3 - (i + 1) = 2 by omega]
          rfl
        refine Ev.bind (ru_digits _ a b hx) ?_
        have sa := dg_span a
        have sb := dg_span b
        by_cases hh : hexok a b = true
        · have hv := hexval_int hh
          rw [if_pos hh]
          simp only [hexok, Bool.and_eq_true, decide_eq_true_eq] at hh
          rw [if_neg (by omega)]
          refine Ev.ifT rfl (Ev.ifT (by simp) (Ev.ifT (by omega) ?_))
          rw [w64 (x := (i : Int) + 2 + 1) (by omega) (by omega), show (i : Int) + 2 + 1 = ((i + 3 : Nat) : Int) by omega, show rd [16 * dg a + dg b] 0 = 16 * dg a + dg b from rfl, ← hv, one]
          have := said_map acc [hexval a b] (unp plus (s.data.toList.drop (i + 1 + 1 + 1)))
          simp only [List.singleton_append] at this
          rw [this]
          exact ref_unp s plus hs m (i + 3) _ (by omega) (by omega) (by simp; omega)
        · rw [if_neg hh]
          simp only [hexok, Bool.and_eq_true, decide_eq_true_eq] at hh
          rw [if_pos (by omega)]
          exact Ev.ifF (by decide) (Ev.now _)
      · have hne : ((s.data.toList.getD i 0).toNat : Int) ≠ 37 := ne_int (n := 37) (by omega) hc
        refine Ev.ifF hne ?_
        rw [unp_cons _ _ _ hc]
        generalize s.data.toList.getD i 0 = c at *
        have next : ∀ d : UInt8, Ev (fun k => lanyardref03_Unpercent.l0 k s plus (ints acc ++ [(d.toNat : Int)]) (wrap64 ((i : Int) + 1))) (said acc ((unp plus (s.data.toList.drop (i + 1))).map (d :: ·))) := by
          intro d
          rw [one, w64 (by omega) (by omega), show (i : Int) + 1 = ((i + 1 : Nat) : Int) by omega]
          have := said_map acc [d] (unp plus (s.data.toList.drop (i + 1)))
          simp only [List.singleton_append] at this
          rw [this]
          exact ref_unp s plus hs m (i + 1) _ (by omega) (by omega) (by simp; omega)
        by_cases h43 : c = 43
        · subst h43
          refine Ev.ifT (by decide) ?_
          cases plus with
          | true => exact Ev.ifT rfl (Ev.ifT (by omega) (next 32))
          | false => exact Ev.ifF (by simp) (Ev.ifT (by omega) (next 43))
        · have hne : (c.toNat : Int) ≠ 43 := ne_int (n := 43) (by omega) h43
          rw [if_neg (by simp [h43])]
          exact Ev.ifF hne (Ev.ifT (by omega) (next c))
    · refine Ev.step (fun k => by rw [lanyardref03_Unpercent.l0]) (Ev.ifF (by omega) ?_)
      rw [drop_end s i (by omega), unp_nil, str_ints]
      simp only [said, List.append_nil]
      exact Ev.now _
theorem ref_unp_ev (s : ByteArray) (plus : Bool) (hs : s.size ≤ 10000000) : Ev (fun k => lanyardref03_Unpercent.f k s plus) (said [] (unp plus s.data.toList)) := by
  have := ref_unp s plus hs s.size 0 [] (by omega) (by omega) (by simp)
  unfold lanyardref03_Unpercent.f
  exact this
end Go.Proofs.YtjmcdocoogdbiaaDoor.Esc
