/- Hexadecimal digits: the program's reading and the document's. -/
import Derived.Test.YtfphmpnkfjeceaaDoorBas
import Derived.Test.YtfphmpnkfjeceaaDoorHp2
import Derived.Test.YtfphmpnkfjeceaaDoorHp5
import Derived.Test.YtfphmpnkfjeceaaDoorHp6
namespace Go.Proofs.YtfphmpnkfjeceaaDoor.Esc
open Go.RowKit Go.Proofs.YtfphmpnkfjeceaaDoor.Hp Go.Proofs.YtfphmpnkfjeceaaDoorW.PrintWords Go.Proofs.YtfphmpnkfjeceaaDoorW.PrintLast
def dg (c : UInt8) : Int := if 48 ≤ c.toNat ∧ c.toNat ≤ 57 then (c.toNat : Int) - 48 else if 97 ≤ c.toNat ∧ c.toNat ≤ 102 then (c.toNat : Int) - 87 else if 65 ≤ c.toNat ∧ c.toNat ≤ 70 then (c.toNat : Int) - 55 else -1
theorem dg_lt (c : UInt8) : -1 ≤ dg c ∧ dg c < 16 := by unfold dg; split <;> (try split) <;> (try split) <;> omega
theorem all_bytes {p : UInt8 → Prop} (h : ∀ n : Fin 256, p (UInt8.ofNat n.val)) (c : UInt8) : p c := by
  have := h ⟨c.toNat, c.toNat_lt⟩
  simpa using this
theorem digit_ev (c : UInt8) : Ev (fun k => lanyardref02_digit.f k (c.toNat : Int)) (dg c) :=
  Ev.of (fun k => lanyardref02_digit.mono _ k) (k := 4) (all_bytes (p := fun c => lanyardref02_digit.f 4 (c.toNat : Int) = some (dg c)) (by decide +kernel) c)
theorem idx_dg (c : UInt8) : (if (c.toNat : Int) ≥ 65 ∧ (c.toNat : Int) ≤ 70 then 10 + (((c.toNat : Int) - 65) % 256) else Lib.indexByte [48, 49, 50, 51, 52, 53, 54, 55, 56, 57, 97, 98, 99, 100, 101, 102] c) = dg c :=
  all_bytes (p := fun c => (if (c.toNat : Int) ≥ 65 ∧ (c.toNat : Int) ≤ 70 then 10 + (((c.toNat : Int) - 65) % 256) else Lib.indexByte [48, 49, 50, 51, 52, 53, 54, 55, 56, 57, 97, 98, 99, 100, 101, 102] c) = dg c) (by decide +kernel) c
theorem idx_f (c : UInt8) : strings_IndexByte.f (⟨#[48, 49, 50, 51, 52, 53, 54, 55, 56, 57, 97, 98, 99, 100, 101, 102]⟩ : ByteArray) (c.toNat : Int) = some (Lib.indexByte [48, 49, 50, 51, 52, 53, 54, 55, 56, 57, 97, 98, 99, 100, 101, 102] c) := by
  unfold strings_IndexByte.f
  rw [show ((c.toNat : Int)).toNat.toUInt8 = c by simp]
theorem half {x d : Int} (h0 : 0 ≤ x) (h1 : x < 256) (k0 : 0 ≤ d) (k1 : d < 16) : Go.bits .or .i64 (Go.bits .and .i64 (wrap64 (x * 16)) 240) d = 16 * (x % 16) + d := by
  have : ∀ (a : Fin 256) (b : Fin 16), Go.bits .or .i64 (Go.bits .and .i64 (wrap64 (((a.val : Nat) : Int) * 16)) 240) ((b.val : Nat) : Int) = 16 * (((a.val : Nat) : Int) % 16) + ((b.val : Nat) : Int) := by decide +kernel
  have := this ⟨x.toNat, by omega⟩ ⟨d.toNat, by omega⟩
  simpa [Int.toNat_of_nonneg h0, Int.toNat_of_nonneg k0] using this
theorem b_step (s : ByteArray) (acc : List Int) (x5 n i : Int) (c : UInt8) (r : List Int × Int) (h0 : 0 ≤ i) (hi : i < n) (hs : i < (s.size : Int)) (hc : bt s i = (c.toNat : Int)) (k : Ev (fun k => base_Unhex.j2 k s acc x5 i (dg c) n i) r) : Ev (fun k => base_Unhex.l0 k s acc x5 n i) r := by
  refine Ev.step (fun k => by rw [base_Unhex.l0]) (Ev.ifT hi (Ev.ifT h0 (Ev.ifT hs ?_)))
  rw [hc]
  refine Ev.bindC (idx_f c) ?_
  have hd := idx_dg c
  by_cases h1 : (c.toNat : Int) ≥ 65
  · refine Ev.ifT h1 ?_
    by_cases h2 : (c.toNat : Int) ≤ 70
    · rw [decide_eq_true h2]
      refine Ev.step (fun k => by rw [base_Unhex.j1]) (Ev.ifT rfl (Ev.ifT h0 (Ev.ifT hs ?_)))
      rw [if_pos ⟨h1, h2⟩] at hd
      rw [hc, hd]
      exact k
    · rw [decide_eq_false h2]
      refine Ev.step (fun k => by rw [base_Unhex.j1]) (Ev.ifF (by simp) ?_)
      rw [if_neg (fun h => h2 h.2)] at hd
      rw [hd]
      exact k
  · refine Ev.ifF h1 ?_
    refine Ev.step (fun k => by rw [base_Unhex.j1]) (Ev.ifF (by simp) ?_)
    rw [if_neg (fun h => h1 h.1)] at hd
    rw [hd]
    exact k
/-- What is read behind an even (or odd) number of digits. -/
def R : Bool → Int → List UInt8 → List Int
  | _, _, [] => []
  | true, h, c :: t => (16 * (h % 16) + dg c) :: R false (16 * (h % 16) + dg c) t
  | false, h, c :: t => R true (16 * (h % 16) + dg c) t
def prs : List UInt8 → List Int
  | a :: b :: t => (16 * dg a + dg b) :: prs t
  | _ => []
theorem R_prs : ∀ (l : List UInt8) (h : Int), (∀ c ∈ l, 0 ≤ dg c) → R false h l = prs l
  | [], _, _ => rfl
  | [a], _, _ => rfl
  | a :: b :: t, h, H => by
    have h1 := dg_lt a
    have h2 := H a (by simp)
    have e : (16 * (h % 16) + dg a) % 16 = dg a := by omega
    rw [R, R, prs, e, R_prs t _ (fun c hc => H c (by simp [hc]))]
def bad (l : List UInt8) : Bool := l.any fun c => decide (dg c < 0)
theorem b_loop (s : ByteArray) (hs : s.size ≤ 8000) : ∀ (n i : Nat) (acc : List Int) (x : Int), i + n = s.size → 0 ≤ x → x < 256 → acc.length ≤ i →
    Ev (fun k => base_Unhex.l0 k s acc x (s.size : Int) (i : Int)) (if bad (s.data.toList.drop i) = true then ([], 13) else if s.size % 2 = 1 then ([], 10) else (acc ++ R (i % 2 == 1) x (s.data.toList.drop i), 0))
  | 0, i, acc, x, hi, h0, h1, ha => by
    rw [drop_end s i (by omega), show bad [] = false from rfl, if_neg (by decide)]
    refine Ev.step (fun k => by rw [base_Unhex.l0]) (Ev.ifF (by omega) ?_)
    by_cases hp : s.size % 2 = 1
    · rw [if_pos hp]; exact Ev.ifT (by omega) (Ev.now _)
    · rw [if_neg hp]
      refine Ev.ifF (by omega) ?_
      rw [show R (i % 2 == 1) x [] = [] by cases (i % 2 == 1) <;> rfl, List.append_nil]
      exact Ev.now _
  | n + 1, i, acc, x, hi, h0, h1, ha => by
    have hlt : i < s.size := by omega
    have hb := bt_nat s i hlt
    rw [drop_cons s i hlt]
    generalize s.data.toList.getD i 0 = c at hb
    have hd := dg_lt c
    refine b_step s acc x _ i c _ (by omega) (by omega) (by omega) hb ?_
    by_cases hc : dg c < 0
    · rw [show bad (c :: s.data.toList.drop (i + 1)) = true by simp [bad, hc], if_pos rfl]
      exact Ev.step (fun k => by rw [base_Unhex.j2]) (Ev.ifT hc (Ev.now _))
    · have hbad : bad (c :: s.data.toList.drop (i + 1)) = bad (s.data.toList.drop (i + 1)) := by simp [bad, hc]
      rw [hbad]
      have hh := half h0 h1 (show 0 ≤ dg c by omega) hd.2
      refine Ev.step (fun k => by rw [base_Unhex.j2]) (Ev.ifF hc ?_)
      have htm : Int.tmod (i : Int) 2 = ((i % 2 : Nat) : Int) := (Int.ofNat_tmod i 2).symm
      rw [hh, htm, show wrap64 ((i : Int) + 1) = ((i + 1 : Nat) : Int) by unfold wrap64; omega]
      by_cases hp : i % 2 = 1
      · refine Ev.ifT (by omega) (Ev.ifT (by omega) ?_)
        have ih := b_loop s hs n (i + 1) (acc ++ [16 * (x % 16) + dg c]) (16 * (x % 16) + dg c) (by omega) (by omega) (by omega) (by simp; omega)
        rw [show (16 * (x % 16) + dg c) % 256 = 16 * (x % 16) + dg c by omega]
        rw [show (i % 2 == 1) = true by simp [hp], R]
        rw [show ((i + 1) % 2 == 1) = false by simp; omega, List.append_assoc] at ih
        exact ih
      · refine Ev.ifF (by omega) ?_
        have ih := b_loop s hs n (i + 1) acc (16 * (x % 16) + dg c) (by omega) (by omega) (by omega) (by omega)
        rw [show (i % 2 == 1) = false by simp; omega, R]
        rw [show ((i + 1) % 2 == 1) = true by simp; omega] at ih
        exact ih
theorem r_l1 (s : ByteArray) (hs : s.size ≤ 8000) (hg : ∀ j, j < s.size → 0 ≤ dg (s.data.toList.getD j 0)) : ∀ (n i : Nat) (acc : List Int), i + 2 * n = s.size → acc.length ≤ i →
    Ev (fun k => lanyardref02_Unhex.l1 k s acc (i : Int)) (acc ++ prs (s.data.toList.drop i), 0)
  | 0, i, acc, hi, ha => by
    rw [drop_end s i (by omega), show prs [] = [] from rfl, List.append_nil]
    exact Ev.step (fun k => by rw [lanyardref02_Unhex.l1]) (Ev.ifF (by omega) (Ev.now _))
  | n + 1, i, acc, hi, ha => by
    have hb := bt_nat s i (by omega)
    have hb2 := bt_nat s (i + 1) (by omega)
    have g1 := hg i (by omega)
    have g2 := hg (i + 1) (by omega)
    rw [drop_cons s i (by omega), drop_cons s (i + 1) (by omega), prs]
    generalize s.data.toList.getD i 0 = c at hb g1
    generalize s.data.toList.getD (i + 1) 0 = d at hb2 g2
    have hc := dg_lt c
    have hd := dg_lt d
    refine Ev.step (fun k => by rw [lanyardref02_Unhex.l1]) (Ev.ifT (by omega) (Ev.ifT (by omega) ?_))
    rw [hb, show wrap64 ((i : Int) + 1) = ((i + 1 : Nat) : Int) by unfold wrap64; omega, hb2]
    refine Ev.bind (digit_ev c) (Ev.ifT (by omega) (Ev.ifT (by omega) (Ev.bind (digit_ev d) (Ev.ifT (by omega) ?_))))
    rw [show wrap64 (wrap64 (16 * dg c) + dg d) % 256 = 16 * dg c + dg d by unfold wrap64; omega, show wrap64 ((i : Int) + 2) = ((i + 2 : Nat) : Int) by unfold wrap64; omega]
    have ih := r_l1 s hs hg n (i + 2) (acc ++ [16 * dg c + dg d]) (by omega) (by simp; omega)
    rw [List.append_assoc] at ih
    exact ih
theorem r_l0 (s : ByteArray) (hs : s.size ≤ 8000) (T : List Int × Int) (hT : s.size % 2 = 0 → bad s.data.toList = false → Ev (fun k => lanyardref02_Unhex.l1 k s [] 0) T) (hT2 : s.size % 2 = 1 → T = ([], 10)) : ∀ (n i : Nat), i + n = s.size → (bad s.data.toList = bad (s.data.toList.drop i)) →
    Ev (fun k => lanyardref02_Unhex.l0 k s (i : Int)) (if bad (s.data.toList.drop i) = true then ([], 13) else T)
  | 0, i, hi, hbd => by
    rw [drop_end s i (by omega), show bad [] = false from rfl] at hbd ⊢
    rw [if_neg (by decide)]
    refine Ev.step (fun k => by rw [lanyardref02_Unhex.l0]) (Ev.ifF (by omega) ?_)
    by_cases hp : s.size % 2 = 1
    · rw [hT2 hp]; exact Ev.ifF (by omega) (Ev.now _)
    · exact Ev.ifT (by omega) (hT (by omega) hbd)
  | n + 1, i, hi, hbd => by
    have hlt : i < s.size := by omega
    have hb := bt_nat s i hlt
    rw [drop_cons s i hlt] at hbd ⊢
    generalize s.data.toList.getD i 0 = c at hb hbd
    refine Ev.step (fun k => by rw [lanyardref02_Unhex.l0]) (Ev.ifT (by omega) (Ev.ifT (by omega) ?_))
    rw [hb]
    refine Ev.bind (digit_ev c) ?_
    by_cases hc : dg c < 0
    · rw [show bad (c :: s.data.toList.drop (i + 1)) = true by simp [bad, hc], if_pos rfl]
      exact Ev.ifT hc (Ev.now _)
    · have hbad : bad (c :: s.data.toList.drop (i + 1)) = bad (s.data.toList.drop (i + 1)) := by simp [bad, hc]
      rw [hbad] at hbd ⊢
      refine Ev.ifF hc ?_
      rw [show wrap64 ((i : Int) + 1) = ((i + 1 : Nat) : Int) by unfold wrap64; omega]
      exact r_l0 s hs T hT hT2 n (i + 1) (by omega) hbd
def unhexd (l : List UInt8) : List Int × Int := if bad l = true then ([], 13) else if l.length % 2 = 1 then ([], 10) else (prs l, 0)
theorem good_of {l : List UInt8} (h : bad l = false) : ∀ c ∈ l, 0 ≤ dg c := by
  intro c hc
  have := List.any_eq_false.1 h c hc
  simp at this
  omega
theorem base_Unhex_ev (s : ByteArray) (hs : s.size ≤ 8000) : Ev (fun k => base_Unhex.f k s) (unhexd s.data.toList) := by
  have h := b_loop s hs s.size 0 [] 0 (by omega) (by decide) (by decide) (by simp)
  rw [List.drop_zero] at h
  unfold unhexd base_Unhex.f
  rw [len_data]
  by_cases hb : bad s.data.toList = true
  · rw [if_pos hb] at h ⊢; exact h
  · rw [if_neg hb] at h ⊢
    rw [show R (0 % 2 == 1) 0 s.data.toList = prs s.data.toList from R_prs _ _ (good_of (by simpa using hb)), List.nil_append] at h
    exact h
theorem ref_Unhex_ev (s : ByteArray) (hs : s.size ≤ 8000) : Ev (fun k => lanyardref02_Unhex.f k s) (unhexd s.data.toList) := by
  unfold unhexd lanyardref02_Unhex.f
  rw [len_data]
  have h := r_l0 s hs (if s.size % 2 = 1 then ([], 10) else (prs s.data.toList, 0)) (fun h0 hb => by
    have := r_l1 s hs (fun j hj => good_of hb _ (getD_mem _ j (by rw [len_data]; exact hj))) (s.size / 2) 0 [] (by omega) (by simp)
    rw [List.drop_zero, List.nil_append] at this
    rw [if_neg (by omega)]
    exact this) (fun h => if_pos h) s.size 0 (by omega) (by rw [List.drop_zero])
  rw [List.drop_zero] at h
  exact h
end Go.Proofs.YtfphmpnkfjeceaaDoor.Esc
