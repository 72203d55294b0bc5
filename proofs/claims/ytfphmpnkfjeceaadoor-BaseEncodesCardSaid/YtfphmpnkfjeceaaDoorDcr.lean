/- base64 back, as the document reads it: sign by sign, bit by bit. -/
import Derived.Test.YtfphmpnkfjeceaaDoorDcd
import Derived.Test.YtfphmpnkfjeceaaDoorHp1
import Derived.Test.YtfphmpnkfjeceaaDoorHp4
namespace Go.Proofs.YtfphmpnkfjeceaaDoor.Esc
open Go.RowKit Go.Proofs.YtfphmpnkfjeceaaDoor.Hp Go.Proofs.YtfphmpnkfjeceaaDoorW.PrintWords Go.Proofs.YtfphmpnkfjeceaaDoorW.PrintLast
/-- The six bits of a number. -/
def b6 (v : Nat) : List Int := [((v / 32 % 2 : Nat) : Int), ((v / 16 % 2 : Nat) : Int), ((v / 8 % 2 : Nat) : Int), ((v / 4 % 2 : Nat) : Int), ((v / 2 % 2 : Nat) : Int), ((v % 2 : Nat) : Int)]
theorem l2_step (t : List Int) (B : List Int) (hB : B.length ≤ 30000) (i : Int) (v j : Nat) (hv : v < 64) (hj : j ≤ 5) (r : List Int × Int) (k : Ev (fun k => lanyardref02_Decode.l2 k t (B ++ [((v / 2 ^ j % 2 : Nat) : Int)]) i (v : Int) ((j : Int) - 1)) r) : Ev (fun k => lanyardref02_Decode.l2 k t B i (v : Int) (j : Int)) r := by
  have hp : 0 < 2 ^ j := Nat.two_pow_pos _
  have h3 : v / 2 ^ j ≤ v := Nat.div_le_self _ _
  refine Ev.step (fun k => by rw [lanyardref02_Decode.l2]) ?_
  refine Ev.ifT (by omega) ?_
  refine Ev.bind (pow_ev j (by omega)) ?_
  refine Ev.ifF (fun e => by have := Int.ofNat_inj.1 (show ((2 ^ j : Nat) : Int) = ((0 : Nat) : Int) from e); omega) ?_
  refine Ev.ifT (by omega) ?_
  rw [show Int.tdiv (v : Int) ((2 ^ j : Nat) : Int) = ((v / 2 ^ j : Nat) : Int) from (Int.ofNat_tdiv v (2 ^ j)).symm]
  generalize v / 2 ^ j = y at h3 k ⊢
  rw [show wrap64 (y : Int) = (y : Int) by unfold wrap64; omega, show Int.tmod (y : Int) 2 = ((y % 2 : Nat) : Int) from (Int.ofNat_tmod y 2).symm, show wrap64 ((j : Int) - 1) = (j : Int) - 1 by unfold wrap64; omega]
  exact k
theorem l2_all (t : List Int) (B : List Int) (hB : B.length ≤ 29000) (i : Int) (v : Nat) (hv : v < 64) (r : List Int × Int) (k : Ev (fun k => lanyardref02_Decode.l1 k t (B ++ b6 v) (wrap64 (i + 1))) r) : Ev (fun k => lanyardref02_Decode.l2 k t B i (v : Int) 5) r := by
  refine l2_step t B (by omega) i v 5 hv (by decide) r ?_
  refine l2_step t _ (by simp; omega) i v 4 hv (by decide) r ?_
  refine l2_step t _ (by simp; omega) i v 3 hv (by decide) r ?_
  refine l2_step t _ (by simp; omega) i v 2 hv (by decide) r ?_
  refine l2_step t _ (by simp; omega) i v 1 hv (by decide) r ?_
  refine l2_step t _ (by simp; omega) i v 0 hv (by decide) r ?_
  refine Ev.step (fun k => by rw [lanyardref02_Decode.l2]) (Ev.ifF (by omega) ?_)
  have e : B ++ [((v / 2 ^ 5 % 2 : Nat) : Int)] ++ [((v / 2 ^ 4 % 2 : Nat) : Int)] ++ [((v / 2 ^ 3 % 2 : Nat) : Int)] ++ [((v / 2 ^ 2 % 2 : Nat) : Int)] ++ [((v / 2 ^ 1 % 2 : Nat) : Int)] ++ [((v / 2 ^ 0 % 2 : Nat) : Int)] = B ++ b6 v := by
    simp [b6]
  rw [e]
  exact k
theorem bits_len (vs : List Nat) : (vs.flatMap b6).length = 6 * vs.length := by
  induction vs with
  | nil => rfl
  | cons v vs ih => rw [List.flatMap_cons, List.length_append, ih, List.length_cons]; show 6 + _ = _; omega
theorem rd_I (b : List UInt8) (i : Nat) (h : i < b.length) : rd (I b) (i : Int) = ((b.getD i 0).toNat : Int) := I_at b i h
theorem l1_loop (t : List UInt8) (ht : t.length ≤ 4000) (hg : t.all good = true) (R : List Int × Int) (hR : Ev (fun k => lanyardref02_Decode.l3 k (I t) ((vals t).flatMap b6) ([] : List Int) 0) R) :
    ∀ (m i : Nat) (vs0 : List Nat), t.length - i = m → i ≤ t.length → vs0.length ≤ i → vs0 ++ vals (t.drop i) = vals t → Ev (fun k => lanyardref02_Decode.l1 k (I t) (vs0.flatMap b6) (i : Int)) R := by
  intro m
  induction m with
  | zero =>
    intro i vs0 hm hi hl hv
    rw [List.drop_of_length_le (by omega), vals, List.append_nil] at hv
    subst hv
    refine Ev.step (fun k => by rw [lanyardref02_Decode.l1]) (Ev.ifF (by rw [I_len]; omega) ?_)
    exact Ev.step (fun k => by rw [lanyardref02_Decode.j2]) (Ev.ifF (by simp) hR)
  | succ m ih =>
    intro i vs0 hm hi hl hv
    have hlt : i < t.length := by omega
    have hd : t.drop i = t.getD i 0 :: t.drop (i + 1) := by
      rw [List.drop_eq_getElem_cons hlt, List.getD_eq_getElem?_getD, List.getElem?_eq_getElem hlt]; rfl
    have hmem := List.all_eq_true.1 hg _ (getD_mem t i hlt)
    have hr := rd_I t i hlt
    rw [hd] at hv
    generalize t.getD i 0 = c at hd hmem hr hv
    rw [vals] at hv
    refine Ev.step (fun k => by rw [lanyardref02_Decode.l1]) (Ev.ifT (by rw [I_len]; omega) (Ev.ifT (by omega) ?_))
    rw [hr]
    by_cases hc : c = 61
    · rw [if_pos hc, List.append_nil] at hv
      subst hv
      rw [show ((c.toNat : Int) != 61) = false by subst hc; rfl]
      exact Ev.step (fun k => by rw [lanyardref02_Decode.j2]) (Ev.ifF (by simp) hR)
    · rw [if_neg hc] at hv
      have hne : ((c.toNat : Int) != 61) = true := by
        rw [bne_iff_ne]; intro e
        exact hc (UInt8.toNat_inj.1 (by rw [show (61 : UInt8).toNat = 61 from rfl]; omega))
      have h3 : 0 ≤ sv c := by simpa [good, hc] using hmem
      have h4 := sv_lt c
      rw [hne]
      refine Ev.step (fun k => by rw [lanyardref02_Decode.j2]) (Ev.ifT rfl (Ev.ifT (by omega) (Ev.ifT (by rw [I_len]; omega) ?_)))
      rw [hr]
      refine Ev.bind (six_ev c) ?_
      have ih' := ih (i + 1) (vs0 ++ [(sv c).toNat]) (by omega) (by omega) (by simp; omega) (by rw [List.append_assoc]; exact hv)
      rw [show ((sv c : Int)) = (((sv c).toNat : Nat) : Int) by omega]
      refine l2_all (I t) _ (by rw [bits_len]; omega) i (sv c).toNat (by omega) R ?_
      rw [show wrap64 ((i : Int) + 1) = ((i + 1 : Nat) : Int) by unfold wrap64; omega]
      rw [List.flatMap_append, List.flatMap_singleton] at ih'
      exact ih'
/-! ### bits to bytes -/
theorem rd_drop (B : List Int) (i : Nat) (q : Int) (rest : List Int) (h : B.drop i = q :: rest) : rd B (i : Int) = q ∧ i < B.length := by
  have hi : i < B.length := by
    by_cases hi : i < B.length
    · exact hi
    · rw [List.drop_of_length_le (by omega)] at h; cases h
  refine ⟨?_, hi⟩
  rw [List.drop_eq_getElem_cons hi] at h
  injection h with h1 _
  unfold rd
  rw [show ((i : Int)).toNat = i by omega, List.getD_eq_getElem?_getD, List.getElem?_eq_getElem hi, h1]; rfl
theorem l4_loop (t B X : List Int) (hX : X.length ≤ 30000) (i : Nat) (hi : i ≤ 30000) (rest : List Int) (R : List Int × Int) : ∀ (qs : List Int) (j : Nat) (x : Int), qs.length + j = 8 → B.drop (i + j) = qs ++ rest → (∀ q ∈ qs, 0 ≤ q ∧ q ≤ 1) → 0 ≤ x → x < 2 ^ j →
    Ev (fun k => lanyardref02_Decode.l3 k t B (X ++ [(qs.foldl (fun x q => x * 2 + q) x) % 256]) ((i + 8 : Nat) : Int)) R → Ev (fun k => lanyardref02_Decode.l4 k t B X (i : Int) x (j : Int)) R
  | [], j, x, hl, hd, hq, h0, h1, k => by
    obtain rfl : j = 8 := by simpa using hl
    refine Ev.step (fun k => by rw [lanyardref02_Decode.l4]) (Ev.ifF (by decide) (Ev.ifT (by omega) ?_))
    rw [show wrap64 ((i : Int) + 8) = ((i + 8 : Nat) : Int) by unfold wrap64; omega]
    exact k
  | q :: qs, j, x, hl, hd, hq, h0, h1, k => by
    obtain ⟨hr, hlt⟩ := rd_drop B (i + j) q _ hd
    have hq0 := hq q (by simp)
    have hj : j < 8 := by simp at hl; omega
    have hx : x < 256 := by
      have : (2 : Int) ^ j ≤ 2 ^ 8 := by
        have := Nat.pow_le_pow_right (show 0 < 2 by decide) (show j ≤ 8 by omega)
        exact_mod_cast this
      omega
    refine Ev.step (fun k => by rw [lanyardref02_Decode.l4]) (Ev.ifT (by omega) ?_)
    rw [show wrap64 ((i : Int) + (j : Int)) = ((i + j : Nat) : Int) by unfold wrap64; omega, hr]
    refine Ev.ifT (by omega) (Ev.ifT (by omega) ?_)
    rw [show wrap64 (wrap64 (x * 2) + q) = x * 2 + q by unfold wrap64; omega, show wrap64 ((j : Int) + 1) = ((j + 1 : Nat) : Int) by unfold wrap64; omega]
    refine l4_loop t B X hX i hi rest R qs (j + 1) (x * 2 + q) (by simp at hl; omega) ?_ (fun y hy => hq y (by simp [hy])) (by omega) (by rw [Int.pow_succ]; omega) k
    rw [← Nat.add_assoc, ← List.drop_drop, hd]; rfl
theorem l3_byte (t B X : List Int) (hX : X.length ≤ 20000) (i : Nat) (hi : i ≤ 30000) (qs rest : List Int) (R : List Int × Int) (hl : qs.length = 8) (hd : B.drop i = qs ++ rest) (hq : ∀ q ∈ qs, 0 ≤ q ∧ q ≤ 1) (y : Int) (hy : (qs.foldl (fun x q => x * 2 + q) 0) % 256 = y)
    (k : Ev (fun k => lanyardref02_Decode.l3 k t B (X ++ [y]) ((i + 8 : Nat) : Int)) R) : Ev (fun k => lanyardref02_Decode.l3 k t B X (i : Int)) R := by
  have hlen := congrArg List.length hd
  rw [List.length_drop, List.length_append, hl] at hlen
  refine Ev.step (fun k => by rw [lanyardref02_Decode.l3]) (Ev.ifT (by unfold wrap64; omega) ?_)
  subst hy
  exact l4_loop t B X (by omega) i hi rest R qs 0 0 (by omega) hd hq (by decide) (by decide) k
theorem l3_end (t A : List UInt8) (hA : A.length ≤ 4000) (B : List Int) (i : Nat) (hi : i ≤ 30000) (hB : B.length < i + 8) : Ev (fun k => lanyardref02_Decode.l3 k (I t) B (I A) (i : Int)) (fin t A) := by
  refine Ev.step (fun k => by rw [lanyardref02_Decode.l3]) (Ev.ifF (by unfold wrap64; omega) (Ev.bind (ref_enc_ev A hA) ?_))
  rw [bs_toList, I_str, bs_toList, fin]
  by_cases h : e3 A = t
  · rw [if_pos h, if_pos h]; exact Ev.now _
  · rw [if_neg h, if_neg h]; exact Ev.now _
theorem b2 (v j : Nat) : 0 ≤ ((v / j % 2 : Nat) : Int) ∧ ((v / j % 2 : Nat) : Int) ≤ 1 := by omega
theorem b1 (v : Nat) : 0 ≤ ((v % 2 : Nat) : Int) ∧ ((v % 2 : Nat) : Int) ≤ 1 := by omega
theorem l3_0 (t A : List UInt8) (hA : A.length ≤ 4000) (B : List Int) (i : Nat) (hi : i ≤ 30000) (a b : Nat) (ha : a < 64) (hb : b < 64) (rest : List Int) (R : List Int × Int) (hd : B.drop i = b6 a ++ (b6 b ++ rest))
    (k : Ev (fun k => lanyardref02_Decode.l3 k (I t) B (I (A ++ [by0 a b])) ((i + 8 : Nat) : Int)) R) : Ev (fun k => lanyardref02_Decode.l3 k (I t) B (I A) (i : Int)) R := by
  rw [← I_snoc A (by0 a b) _ rfl] at k
  refine l3_byte (I t) B (I A) (by rw [I_len]; omega) i hi [((a / 32 % 2 : Nat) : Int), ((a / 16 % 2 : Nat) : Int), ((a / 8 % 2 : Nat) : Int), ((a / 4 % 2 : Nat) : Int), ((a / 2 % 2 : Nat) : Int), ((a % 2 : Nat) : Int), ((b / 32 % 2 : Nat) : Int), ((b / 16 % 2 : Nat) : Int)] _ R rfl hd ?_ _ ?_ k
  · intro q hq
    simp only [List.mem_cons, List.not_mem_nil, or_false] at hq
    rcases hq with rfl | rfl | rfl | rfl | rfl | rfl | rfl | rfl <;> first | exact b2 _ _ | exact b1 _
  · rw [by0_nat ha hb]
    simp only [List.foldl_cons, List.foldl_nil]
    omega
theorem l3_1 (t A : List UInt8) (hA : A.length ≤ 4000) (B : List Int) (i : Nat) (hi : i ≤ 30000) (b c : Nat) (hc : c < 64) (rest : List Int) (R : List Int × Int) (hd : B.drop i = [((b / 8 % 2 : Nat) : Int), ((b / 4 % 2 : Nat) : Int), ((b / 2 % 2 : Nat) : Int), ((b % 2 : Nat) : Int)] ++ (b6 c ++ rest))
    (k : Ev (fun k => lanyardref02_Decode.l3 k (I t) B (I (A ++ [by1 b c])) ((i + 8 : Nat) : Int)) R) : Ev (fun k => lanyardref02_Decode.l3 k (I t) B (I A) (i : Int)) R := by
  rw [← I_snoc A (by1 b c) _ rfl] at k
  refine l3_byte (I t) B (I A) (by rw [I_len]; omega) i hi [((b / 8 % 2 : Nat) : Int), ((b / 4 % 2 : Nat) : Int), ((b / 2 % 2 : Nat) : Int), ((b % 2 : Nat) : Int), ((c / 32 % 2 : Nat) : Int), ((c / 16 % 2 : Nat) : Int), ((c / 8 % 2 : Nat) : Int), ((c / 4 % 2 : Nat) : Int)] _ R rfl hd ?_ _ ?_ k
  · intro q hq
    simp only [List.mem_cons, List.not_mem_nil, or_false] at hq
    rcases hq with rfl | rfl | rfl | rfl | rfl | rfl | rfl | rfl <;> first | exact b2 _ _ | exact b1 _
  · rw [by1_nat hc]
    simp only [List.foldl_cons, List.foldl_nil]
    omega
theorem l3_2 (t A : List UInt8) (hA : A.length ≤ 4000) (B : List Int) (i : Nat) (hi : i ≤ 30000) (c d : Nat) (hd' : d < 64) (rest : List Int) (R : List Int × Int) (hd : B.drop i = [((c / 2 % 2 : Nat) : Int), ((c % 2 : Nat) : Int)] ++ (b6 d ++ rest))
    (k : Ev (fun k => lanyardref02_Decode.l3 k (I t) B (I (A ++ [by2 c d])) ((i + 8 : Nat) : Int)) R) : Ev (fun k => lanyardref02_Decode.l3 k (I t) B (I A) (i : Int)) R := by
  rw [← I_snoc A (by2 c d) _ rfl] at k
  refine l3_byte (I t) B (I A) (by rw [I_len]; omega) i hi [((c / 2 % 2 : Nat) : Int), ((c % 2 : Nat) : Int), ((d / 32 % 2 : Nat) : Int), ((d / 16 % 2 : Nat) : Int), ((d / 8 % 2 : Nat) : Int), ((d / 4 % 2 : Nat) : Int), ((d / 2 % 2 : Nat) : Int), ((d % 2 : Nat) : Int)] _ R rfl hd ?_ _ ?_ k
  · intro q hq
    simp only [List.mem_cons, List.not_mem_nil, or_false] at hq
    rcases hq with rfl | rfl | rfl | rfl | rfl | rfl | rfl | rfl <;> first | exact b2 _ _ | exact b1 _
  · rw [by2_nat hd']
    simp only [List.foldl_cons, List.foldl_nil]
    omega
theorem drop_app {B q rest : List Int} {i n : Nat} (h : B.drop i = q ++ rest) (hn : q.length = n) : B.drop (i + n) = rest := by
  rw [← List.drop_drop, h, ← hn, List.drop_left]
theorem l3_loop (t : List UInt8) (B : List Int) (hB : B.length ≤ 24000) : ∀ (m i : Nat) (A : List UInt8) (vs : List Nat), vs.length ≤ m → (∀ v ∈ vs, v < 64) → B.drop i = vs.flatMap b6 → A.length + vs.length ≤ 4000 → i ≤ 24000 →
    i ≤ B.length → Ev (fun k => lanyardref02_Decode.l3 k (I t) B (I A) (i : Int)) (fin t (A ++ d4 vs)) := by
  intro m
  induction m with
  | zero =>
    intro i A vs hm hv hd hA2 hi hib
    obtain rfl : vs = [] := List.length_eq_zero_iff.1 (by omega)
    have hlen := congrArg List.length hd
    rw [List.length_drop, bits_len] at hlen
    rw [show d4 [] = [] from rfl, List.append_nil]
    exact l3_end t A (by omega) B i (by omega) (by simp at hlen; omega)
  | succ m ih =>
    intro i A vs hm hv hd hA2 hi hib
    have hlen := congrArg List.length hd
    rw [List.length_drop, bits_len] at hlen
    rcases vs with _ | ⟨a, _ | ⟨b, vs⟩⟩
    · rw [show d4 [] = [] from rfl, List.append_nil]
      exact l3_end t A (by omega) B i (by omega) (by simp at hlen; omega)
    · rw [show d4 [a] = [] from rfl, List.append_nil]
      exact l3_end t A (by omega) B i (by omega) (by simp at hlen; omega)
    simp only [List.length_cons] at hA2
    have ha := hv a (by simp)
    have hb := hv b (by simp)
    refine l3_0 t A (by omega) B i (by omega) a b ha hb _ _ hd ?_
    have hd1 : B.drop (i + 8) = [((b / 8 % 2 : Nat) : Int), ((b / 4 % 2 : Nat) : Int), ((b / 2 % 2 : Nat) : Int), ((b % 2 : Nat) : Int)] ++ vs.flatMap b6 :=
      drop_app (q := [((a / 32 % 2 : Nat) : Int), ((a / 16 % 2 : Nat) : Int), ((a / 8 % 2 : Nat) : Int), ((a / 4 % 2 : Nat) : Int), ((a / 2 % 2 : Nat) : Int), ((a % 2 : Nat) : Int), ((b / 32 % 2 : Nat) : Int), ((b / 16 % 2 : Nat) : Int)]) hd rfl
    rcases vs with _ | ⟨c, vs⟩
    · exact l3_end t (A ++ [by0 a b]) (by simp; omega) B _ (by omega) (by simp at hlen; omega)
    simp only [List.length_cons] at hA2
    have hc := hv c (by simp)
    refine l3_1 t _ (by simp; omega) B _ (by omega) b c hc _ _ hd1 ?_
    have hd2 : B.drop (i + 8 + 8) = [((c / 2 % 2 : Nat) : Int), ((c % 2 : Nat) : Int)] ++ vs.flatMap b6 :=
      drop_app (q := [((b / 8 % 2 : Nat) : Int), ((b / 4 % 2 : Nat) : Int), ((b / 2 % 2 : Nat) : Int), ((b % 2 : Nat) : Int), ((c / 32 % 2 : Nat) : Int), ((c / 16 % 2 : Nat) : Int), ((c / 8 % 2 : Nat) : Int), ((c / 4 % 2 : Nat) : Int)]) hd1 rfl
    rcases vs with _ | ⟨d, vs⟩
    · have := l3_end t (A ++ [by0 a b] ++ [by1 b c]) (by simp; omega) B (i + 8 + 8) (by omega) (by simp at hlen; omega)
      rw [List.append_assoc] at this ⊢
      exact this
    simp only [List.length_cons] at hA2
    have hd' := hv d (by simp)
    refine l3_2 t _ (by simp; omega) B _ (by omega) c d hd' _ _ hd2 ?_
    have hd3 : B.drop (i + 8 + 8 + 8) = vs.flatMap b6 :=
      drop_app (q := [((c / 2 % 2 : Nat) : Int), ((c % 2 : Nat) : Int), ((d / 32 % 2 : Nat) : Int), ((d / 16 % 2 : Nat) : Int), ((d / 8 % 2 : Nat) : Int), ((d / 4 % 2 : Nat) : Int), ((d / 2 % 2 : Nat) : Int), ((d % 2 : Nat) : Int)]) hd2 rfl
    simp only [List.length_cons] at hlen hm
    have := ih (i + 8 + 8 + 8) (A ++ [by0 a b] ++ [by1 b c] ++ [by2 c d]) vs (by omega) (fun v h => hv v (by simp [h])) hd3 (by simp; omega) (by omega) (by omega)
    rw [d4]
    simp only [List.append_assoc, List.cons_append, List.nil_append] at this ⊢
    exact this
theorem vals_lt : ∀ (l : List UInt8), ∀ v ∈ vals l, v < 64
  | [], v, h => by cases h
  | c :: t, v, h => by
    rw [vals] at h
    split at h
    · cases h
    · rcases List.mem_cons.1 h with rfl | h
      · have := sv_lt c; omega
      · exact vals_lt t v h
theorem l1_ev (t : List UInt8) (ht : t.length ≤ 4000) (hg : t.all good = true) : Ev (fun k => lanyardref02_Decode.l1 k (I t) ([] : List Int) 0) (fin t (d4 (vals t))) := by
  have hv := vals_len t
  refine l1_loop t ht hg _ ?_ t.length 0 [] (by omega) (by omega) (by simp) (by rw [List.nil_append, List.drop_zero])
  have := l3_loop t ((vals t).flatMap b6) (by rw [bits_len]; omega) _ 0 [] (vals t) (Nat.le_refl _) (vals_lt t) (by rw [List.drop_zero]) (by simp; omega) (by omega) (by omega)
  exact this
theorem ref_l0 (s : ByteArray) (hs : s.size ≤ 4000) : ∀ (m i : Nat) (A : List UInt8), s.size - i = m → i ≤ s.size → A.all good = true → A.length ≤ i → A ++ sp (s.data.toList.drop i) = sp s.data.toList →
    Ev (fun k => lanyardref02_Decode.l0 k s (I A) (i : Int)) (decd s.data.toList)
  | 0, i, A, hm, hi, hg, hA, he => by
    rw [drop_end s i (by omega), show sp [] = [] from rfl, List.append_nil] at he
    subst he
    unfold decd
    rw [if_pos hg]
    exact Ev.step (fun k => by rw [lanyardref02_Decode.l0]) (Ev.ifF (by omega) (l1_ev _ (by omega) hg))
  | m + 1, i, A, hm, hi, hg, hA, he => by
    have hlt : i < s.size := by omega
    have hb := bt_nat s i hlt
    have hw : wrap64 ((i : Int) + 1) = ((i + 1 : Nat) : Int) := by unfold wrap64; omega
    rw [drop_cons s i hlt] at he
    generalize s.data.toList.getD i 0 = c at hb he
    refine Ev.step (fun k => by rw [lanyardref02_Decode.l0]) (Ev.ifT (by omega) (Ev.ifT (by omega) ?_))
    rw [hb, hw]
    refine Ev.bindC (ref_blank_f c) ?_
    cases hk : blk c with
    | true =>
      refine Ev.ifT rfl ?_
      rw [sp, List.filter_cons_of_neg (by simp [hk])] at he
      exact ref_l0 s hs m (i + 1) A (by omega) (by omega) hg (by omega) he
    | false =>
      refine Ev.ifF (by simp) ?_
      rw [sp, List.filter_cons_of_pos (by simp [hk])] at he
      have ih := fun hc : good c = true => ref_l0 s hs m (i + 1) (A ++ [c]) (by omega) (by omega) (by rw [List.all_append, hg]; simp [hc]) (by simp; omega) (by rw [List.append_assoc]; exact he)
      have hI : I A ++ [(c.toNat : Int)] = I (A ++ [c]) := I_snoc A c _ rfl
      by_cases h61 : (c.toNat : Int) = 61
      · refine Ev.ifT h61 (Ev.ifT (by rw [I_len]; omega) ?_)
        rw [hI]
        refine ih ?_
        have : c = 61 := UInt8.toNat_inj.1 (by rw [show (61 : UInt8).toNat = 61 from rfl]; omega)
        subst this; rfl
      · have h61' : c ≠ 61 := by intro e; subst e; exact h61 rfl
        refine Ev.ifF h61 (Ev.bind (six_ev c) ?_)
        by_cases hv : sv c < 0
        · refine Ev.ifT hv ?_
          unfold decd
          have hbad : (sp s.data.toList).all good = false := by
            rw [← he, List.all_append, List.all_cons]
            have : good c = false := by simp [good, h61', hv]
            rw [this]; simp
          rw [hbad, if_neg (by decide)]
          exact Ev.now _
        · refine Ev.ifF hv (Ev.ifT (by rw [I_len]; omega) ?_)
          rw [hI]
          exact ih (by simp [good]; right; omega)
theorem ref_decode_ev (s : ByteArray) (hs : s.size ≤ 4000) : Ev (fun k => lanyardref02_Decode.f k s) (decd s.data.toList) :=
  ref_l0 s hs s.size 0 [] (by omega) (by omega) rfl (by simp) (by rw [List.drop_zero, List.nil_append])
end Go.Proofs.YtfphmpnkfjeceaaDoor.Esc
