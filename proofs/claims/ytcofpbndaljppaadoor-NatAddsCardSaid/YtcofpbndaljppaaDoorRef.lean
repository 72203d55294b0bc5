/- The printed functions of the document's answer for layer 6: what they answer, as digits of eight bits. -/
import Derived.Test.YtcofpbndaljppaaDoorDig
import Derived.Test.YtcofpbndaljppaaDoorHp0
import Derived.Test.YtcofpbndaljppaaDoorHp7
import Derived.Test.YtcofpbndaljppaaDoorHp8
import Derived.Test.YtcofpbndaljppaaDoorHp9
namespace Go.Proofs.YtcofpbndaljppaaDoor.Num
open Go.RowKit Go.Proofs.YtcofpbndaljppaaDoor.Hp Go.Proofs.YtcofpbndaljppaaDoorW.PrintWords Go.Proofs.YtcofpbndaljppaaDoorW.PrintLast Go.Proofs.YtcofpbndaljppaaDoorW.PrintMore

theorem rtrim_ev : ∀ (d : Nat) (l : List Int), l.length = d → d < 1099511627776 → Ev (fun k => lanyardref06_trim.f k l) (trimz l) := by
  intro d
  induction d with
  | zero =>
    intro l hl _
    obtain rfl : l = [] := List.eq_nil_of_length_eq_zero hl
    refine Ev.step (g := fun k => lanyardref06_trim.l0 k []) (fun k => by rw [lanyardref06_trim.l0]) ?_
    exact Ev.ifF (by simp) (Ev.now _)
  | succ d ih =>
    intro l hl hd
    have hne : l ≠ [] := by intro h; rw [h] at hl; simp at hl
    obtain ⟨m, x, rfl⟩ : ∃ m x, l = m ++ [x] := ⟨l.dropLast, l.getLast hne, (List.dropLast_concat_getLast hne).symm⟩
    have hm : m.length = d := by simpa using hl
    refine Ev.step (g := fun k => lanyardref06_trim.l0 k (m ++ [x])) (fun k => by rw [lanyardref06_trim.l0]) ?_
    have e : wrap64 (((m ++ [x]).length : Int) - 1) = (m.length : Int) := by rw [List.length_append, List.length_singleton, w64 (by omega) (by omega)]; omega
    rw [e, rd_snoc, trimz_snoc]
    have hlt : (m.length : Int) < ((m ++ [x]).length : Int) := by simp; omega
    refine Ev.ifT (by omega) (Ev.ifT (by omega) (Ev.ifT hlt ?_))
    by_cases hx : x = 0
    · rw [if_pos hx]
      refine Ev.ifT hx (Ev.ifT (by omega) ?_)
      have et : (m ++ [x]).take ((m.length : Int)).toNat = m := by rw [show ((m.length : Int)).toNat = m.length by omega]; exact List.take_left' rfl
      rw [et]
      exact ih m hm (by omega)
    · rw [if_neg hx]
      exact Ev.ifF hx (Ev.now _)
theorem rtrim_G {l : List Int} {n : Nat} (h : Dg 256 l) (hv : val 256 l = n) (hl : l.length < 1099511627776) : Ev (fun k => lanyardref06_trim.f k l) (G n) := by
  have := rtrim_ev l.length l rfl hl
  rw [trimz_G h hv] at this
  exact this

theorem rOf_loop (l : List Int) (hd : Dg 256 l) (hl : l.length < 1099511627776) : ∀ (d : Nat), d ≤ l.length →
    Ev (fun k => lanyardref06_Of.l0 k l (l.drop d).reverse ((d : Int) - 1)) (G (vb l)) := by
  intro d
  induction d with
  | zero =>
    intro _
    refine Ev.step (fun k => by rw [lanyardref06_Of.l0]) (Ev.ifF (by omega) ?_)
    rw [List.drop_zero]
    exact Ev.bind (rtrim_G hd.rev (show V l = _ by rw [vb_V hd]) (by rw [List.length_reverse]; exact hl)) (Ev.now _)
  | succ d ih =>
    intro h
    refine Ev.step (fun k => by rw [lanyardref06_Of.l0]) ?_
    have e : ((d + 1 : Nat) : Int) - 1 = (d : Int) := by omega
    rw [e]
    refine Ev.ifT (by omega) (Ev.ifT (by omega) (Ev.ifT (by omega) (Ev.ifT (by rw [List.length_reverse, List.length_drop]; omega) ?_)))
    have hr := hd.rd (by decide) (d : Int)
    rw [w64 (by omega) (by omega), w64 (by omega) (by omega)]
    have e2 : (l.drop (d + 1)).reverse ++ [rd l (d : Int)] = (l.drop d).reverse := by
      rw [List.drop_eq_getElem_cons (by omega : d < l.length), List.reverse_cons, rd_nat]
      simp [(by omega : d < l.length)]
    rw [e2]
    exact ih (by omega)
theorem rOf_ev {l : List Int} (hd : Dg 256 l) (hl : l.length < 1099511627776) : Ev (fun k => lanyardref06_Of.f k l) (G (vb l)) := by
  unfold lanyardref06_Of.f
  rw [w64 (by omega) (by omega)]
  have := rOf_loop l hd hl l.length (Nat.le_refl _)
  rw [List.drop_length] at this
  exact this

theorem rcmp_loop (l m : List Int) (hd : Dg 256 l) (hm : Dg 256 m) (he : l.length = m.length) (hl : l.length < 1099511627776) : ∀ (d : Nat), d ≤ l.length → val 256 (l.drop d) = val 256 (m.drop d) →
    Ev (fun k => lanyardref06_Cmp.l0 k l m ((d : Int) - 1)) (sg (val 256 l) (val 256 m)) := by
  intro d
  induction d with
  | zero =>
    intro _ hv
    refine Ev.step (fun k => by rw [lanyardref06_Cmp.l0]) ?_
    refine Ev.ifF (by omega) ?_
    rw [List.drop_zero, List.drop_zero] at hv
    have : sg (val 256 l) (val 256 m) = 0 := by unfold sg; rw [hv]; simp
    rw [this]
    exact Ev.now _
  | succ d ih =>
    intro hdl hv
    refine Ev.step (fun k => by rw [lanyardref06_Cmp.l0]) ?_
    have e : ((d + 1 : Nat) : Int) - 1 = (d : Int) := by omega
    rw [e]
    refine Ev.ifT (by omega) (Ev.ifT (by omega) (Ev.ifT (by omega) (Ev.ifT (by omega) ?_)))
    have cl : val 256 (l.drop d) = rd l d + 256 * val 256 (l.drop (d + 1)) := by
      rw [List.drop_eq_getElem_cons (by omega : d < l.length), val, rd_nat]; simp [(by omega : d < l.length)]
    have cm : val 256 (m.drop d) = rd m d + 256 * val 256 (m.drop (d + 1)) := by
      rw [List.drop_eq_getElem_cons (by omega : d < m.length), val, rd_nat]; simp [(by omega : d < m.length)]
    by_cases hq : rd l (d : Int) = rd m d
    · refine Ev.ifF (by omega) (Ev.ifF (by omega) ?_)
      rw [w64 (by omega) (by omega)]
      exact ih (by omega) (by rw [cl, cm, hv, hq])
    · have hs : sg (rd l (d : Int)) (rd m d) = sg (val 256 l) (val 256 m) := by
        have sl := val_split 256 l d (by omega)
        have sm := val_split 256 m d (by omega)
        have bl := val_lt (by decide) (hd.take d)
        have bm := val_lt (by decide) (hm.take d)
        have nl := val_nonneg (by decide) (hd.take d)
        have nm := val_nonneg (by decide) (hm.take d)
        rw [List.length_take, Nat.min_eq_left (by omega)] at bl bm
        rw [cl] at sl
        rw [cm, ← hv] at sm
        have P := pow_pos' (b := 256) (by decide) d
        generalize val 256 (l.drop (d + 1)) = t at *
        generalize rd l (d : Int) = x at *
        generalize rd m (d : Int) = y at *
        generalize val 256 (l.take d) = u at *
        generalize val 256 (m.take d) = v at *
        generalize (256 : Int) ^ d = p at *
        rw [sl, sm]
        have hx : p * (x + 256 * t) = p * x + p * (256 * t) := Int.mul_add ..
        have hy : p * (y + 256 * t) = p * y + p * (256 * t) := Int.mul_add ..
        rw [hx, hy]
        rcases Int.lt_or_lt_of_ne hq with h | h
        · have : p * (x + 1) ≤ p * y := Int.mul_le_mul_of_nonneg_left (by omega) (by omega)
          rw [Int.mul_add, Int.mul_one] at this
          unfold sg
          rw [if_pos h, if_pos (by omega)]
        · have : p * (y + 1) ≤ p * x := Int.mul_le_mul_of_nonneg_left (by omega) (by omega)
          rw [Int.mul_add, Int.mul_one] at this
          unfold sg
          rw [if_neg (by omega), if_pos h, if_neg (by omega), if_pos (by omega)]
      rw [← hs]
      unfold sg
      rcases Int.lt_or_lt_of_ne hq with h | h
      · rw [if_pos h]
        exact Ev.ifT h (Ev.now _)
      · rw [if_neg (by omega), if_pos h]
        exact Ev.ifF (by omega) (Ev.ifT h (Ev.now _))
theorem rcmp_ev {x y : Nat} (hl : (G x).length < 1099511627776) : Ev (fun k => lanyardref06_Cmp.f k (G x) (G y)) (sg x y) := by
  unfold lanyardref06_Cmp.f
  have hx := G_val x
  have hy := G_val y
  by_cases h1 : ((G x).length : Int) < (G y).length
  · refine Ev.ifT h1 ?_
    have := len_lt (by decide) (G_Dg x) (G_Dg y) (G_Nz y) (by omega)
    rw [hx, hy] at this
    have : sg (x : Int) y = -1 := by unfold sg; rw [if_pos this]
    rw [this]
    exact Ev.now _
  · refine Ev.ifF h1 ?_
    by_cases h2 : ((G x).length : Int) > (G y).length
    · refine Ev.ifT h2 ?_
      have := len_lt (by decide) (G_Dg y) (G_Dg x) (G_Nz x) (by omega)
      rw [hx, hy] at this
      have : sg (x : Int) y = 1 := by unfold sg; rw [if_neg (by omega), if_pos this]
      rw [this]
      exact Ev.now _
    · refine Ev.ifF h2 ?_
      rw [w64 (by omega) (by omega)]
      have := rcmp_loop (G x) (G y) (G_Dg x) (G_Dg y) (by omega) hl (G x).length (Nat.le_refl _) (by rw [List.drop_length, show (G x).length = (G y).length by omega, List.drop_length])
      rw [hx, hy] at this
      exact this

theorem rat (l : List Int) (i : Nat) : lanyardref06_at.f l (i : Int) = some (rd l (i : Int)) := by
  unfold lanyardref06_at.f
  by_cases h : (i : Int) < l.length
  · rw [if_pos h, if_pos (by omega)]
  · rw [if_neg h, rd_out (by omega)]

theorem radd_loop (a b : List Int) (ha : Dg 256 a) (hb : Dg 256 b) (hal : a.length < 549755813888) (hbl : b.length < 549755813888) (m : Nat) (hm : (m : Int) = val 256 a + val 256 b) :
    ∀ (d i : Nat) (x : List Int) (c : Int), a.length + b.length + 2 - i = d → i ≤ a.length + b.length + 1 → x.length = i → Dg 256 x → (c = 0 ∨ c = 1) → (a.length < i → b.length < i → c = 0) → Is (val 256 x + c * 256 ^ i) (val 256 (a.take i) + val 256 (b.take i)) →
    Ev (fun k => lanyardref06_Add.l0 k a b x c i) (G m) := by
  intro d
  induction d with
  | zero => intro i x c hd hi; omega
  | succ d ih =>
    intro i x c hd hi hl hx hc hz hv
    have hr := rdD (by decide) ha (i : Int)
    have hs := rdD (by decide) hb (i : Int)
    have step : ((i : Int) < a.length ∨ (i : Int) < b.length ∨ c > 0) → Ev (fun k => lanyardref06_Add.j1 k a b x c i true) (G m) := by
      intro how
      refine Ev.step (fun k => by rw [lanyardref06_Add.j1]) ?_
      refine Ev.ifT rfl (Ev.bindC (rat a i) (Ev.bindC (rat b i) (Ev.ifT (by omega) ?_)))
      have w1 : wrap64 (c + rd a (i : Int)) = c + rd a (i : Int) := w64 (by omega) (by omega)
      have w2 : wrap64 (c + rd a (i : Int) + rd b (i : Int)) = c + rd a (i : Int) + rd b (i : Int) := w64 (by omega) (by omega)
      obtain ⟨t, ht⟩ : ∃ t : Int, c + rd a (i : Int) + rd b (i : Int) = t := ⟨_, rfl⟩
      have e1 : Int.tmod t 256 = t % 256 := Int.tmod_eq_emod_of_nonneg (by omega)
      have e2 : Int.tdiv t 256 = t / 256 := Int.tdiv_eq_ediv_of_nonneg (by omega)
      have e3 : wrap64 (t / 256) = t / 256 := w64 (by omega) (by omega)
      rw [w1, w2, ht, e1, e2, e3, i1 (by omega)]
      have hlen : a.length < i + 1 → b.length < i + 1 → t / 256 = 0 := by
        intro h1 h2
        rw [rd_out (l := a) (by omega), rd_out (l := b) (by omega)] at ht
        omega
      have hle : i + 1 ≤ a.length + b.length + 1 := by
        rcases how with h | h | h
        · omega
        · omega
        · rcases Nat.lt_or_ge a.length i with h1 | h1
          · rcases Nat.lt_or_ge b.length i with h2 | h2
            · have := hz h1 h2
              omega
            · omega
          · omega
      refine ih (i + 1) _ _ (by omega) hle (by rw [List.length_append, hl]; rfl) (Dg.app hx (Dg.cons (by omega) (by omega) Dg.nil)) (by omega) hlen ?_
      refine ⟨?_⟩
      rw [val_append, hl, val_take_rd, val_take_rd, Int.pow_succ]
      have hv' := hv.h
      have dm := Int.mul_ediv_add_emod t 256
      generalize t / 256 = q at *
      generalize t % 256 = s at *
      simp only [val]
      rw [show val 256 x = val 256 (a.take i) + val 256 (b.take i) - c * 256 ^ i by rw [← hv']; grind, show s = c + rd a (i : Int) + rd b (i : Int) - 256 * q by rw [ht, ← dm]; grind]
      grind
    refine Ev.step (fun k => by rw [lanyardref06_Add.l0]) ?_
    by_cases h1 : (i : Int) < a.length
    · exact Ev.ifT h1 (step (.inl h1))
    · refine Ev.ifF h1 ?_
      by_cases h2 : (i : Int) < b.length
      · exact Ev.ifT h2 (step (.inr (.inl h2)))
      · refine Ev.ifF h2 ?_
        by_cases h3 : c > 0
        · rw [decide_eq_true h3]
          exact step (.inr (.inr h3))
        · rw [decide_eq_false h3]
          refine Ev.step (fun k => by rw [lanyardref06_Add.j1]) (Ev.ifF (by simp) ?_)
          obtain rfl : c = 0 := by omega
          have hv' := hv.h
          rw [List.take_of_length_le (by omega), List.take_of_length_le (by omega), Int.zero_mul, Int.add_zero, ← hm] at hv'
          exact Ev.bind (rtrim_G hx hv' (by omega)) (Ev.now _)
theorem radd_ev {x y : Nat} (hx : (G x).length < 549755813888) (hy : (G y).length < 549755813888) : Ev (fun k => lanyardref06_Add.f k (G x) (G y)) (G (x + y)) := by
  unfold lanyardref06_Add.f
  exact radd_loop (G x) (G y) (G_Dg x) (G_Dg y) hx hy (x + y) (by rw [G_val, G_val]; omega) _ 0 [] 0 rfl (by omega) rfl Dg.nil (.inl rfl) (by intros; rfl) ⟨by simp [val]⟩

theorem rsub_loop (a b : List Int) (ha : Dg 256 a) (hb : Dg 256 b) (hal : a.length < 549755813888) (hba : b.length ≤ a.length) (m : Nat) (hm : (m : Int) = val 256 a - val 256 b) :
    ∀ (d i : Nat) (x : List Int) (c : Int), i + d = a.length → x.length = i → Dg 256 x → (c = 0 ∨ c = 1) → Is (val 256 x - c * 256 ^ i) (val 256 (a.take i) - val 256 (b.take i)) →
    Ev (fun k => lanyardref06_Sub.l0 k a b x c i) (G m) := by
  intro d
  induction d with
  | zero =>
    intro i x c hi hl hx hc hv
    refine Ev.step (fun k => by rw [lanyardref06_Sub.l0]) (Ev.ifF (by omega) ?_)
    have hv' := hv.h
    rw [List.take_of_length_le (by omega), List.take_of_length_le (by omega), ← hm] at hv'
    have hlt := val_lt (by decide) hx
    rw [hl] at hlt
    have hc0 : c = 0 := by
      rcases hc with rfl | rfl
      · rfl
      · rw [Int.one_mul] at hv'; generalize (256 : Int) ^ i = p at *; omega
    subst hc0
    rw [Int.zero_mul, Int.sub_zero] at hv'
    exact Ev.bind (rtrim_G hx hv' (by omega)) (Ev.now _)
  | succ d ih =>
    intro i x c hi hl hx hc hv
    have hr := rdD (by decide) ha (i : Int)
    have hs := rdD (by decide) hb (i : Int)
    refine Ev.step (fun k => by rw [lanyardref06_Sub.l0]) ?_
    refine Ev.ifT (by omega) (Ev.ifT (by omega) (Ev.bindC (rat b i) ?_))
    have w1 : wrap64 (rd a (i : Int) - rd b (i : Int)) = rd a (i : Int) - rd b (i : Int) := w64 (by omega) (by omega)
    have w2 : wrap64 (rd a (i : Int) - rd b (i : Int) - c) = rd a (i : Int) - rd b (i : Int) - c := w64 (by omega) (by omega)
    have w3 : wrap64 (rd a (i : Int) - rd b (i : Int) - c + 256) = rd a (i : Int) - rd b (i : Int) - c + 256 := w64 (by omega) (by omega)
    rw [w1, w2, w3, i1 (by omega)]
    have next : ∀ (s e : Int), (e = 0 ∨ e = 1) → 0 ≤ s → s < 256 → s = rd a (i : Int) - rd b (i : Int) - c + 256 * e → Ev (fun k => lanyardref06_Sub.l0 k a b (x ++ [s]) e ((i + 1 : Nat) : Int)) (G m) := by
      intro s e he h0 h1 hse
      refine ih (i + 1) _ _ (by omega) (by rw [List.length_append, hl]; rfl) (Dg.app hx (Dg.cons h0 h1 Dg.nil)) he ?_
      refine ⟨?_⟩
      rw [val_append, hl, val_take_rd, val_take_rd, Int.pow_succ]
      have hv' := hv.h
      simp only [val]
      rw [show val 256 x = val 256 (a.take i) - val 256 (b.take i) + c * 256 ^ i by rw [← hv']; grind, hse]
      grind
    by_cases h : rd a (i : Int) - rd b (i : Int) - c < 0
    · exact Ev.ifT h (Ev.ifT (by omega) (next _ _ (.inr rfl) (by omega) (by omega) (by omega)))
    · exact Ev.ifF h (Ev.ifT (by omega) (next _ _ (.inl rfl) (by omega) (by omega) (by omega)))
theorem rsub_ev {x y : Nat} (hx : (G x).length < 549755813888) (h : y ≤ x) : Ev (fun k => lanyardref06_Sub.f k (G x) (G y)) (G (x - y)) := by
  unfold lanyardref06_Sub.f
  exact rsub_loop (G x) (G y) (G_Dg x) (G_Dg y) hx (G_len_mono h) (x - y) (by rw [G_val, G_val]; omega) (G x).length 0 [] 0 (by omega) rfl Dg.nil (.inl rfl) ⟨by simp [val]⟩

/-! ### products -/
theorem rmul_id (T p u t c s w v q : Int) : (T + p * u * t - c * (p * s)) + p * s * (c + w + u * v - 256 * q - w) + q * (p * s * 256) = T + p * u * (t + s * v) := by grind
theorem rmul_in (a b : List Int) (ha : Dg 256 a) (hb : Dg 256 b) (hn : a.length + b.length < 1099511627776) (i : Nat) (hi : i < a.length) (T : Int) {r : List Int}
    (next : ∀ x, x.length = a.length + b.length → Dg 256 x → Is (val 256 x) (T + 256 ^ i * rd a (i : Int) * val 256 b) → Ev (fun k => lanyardref06_Mul.l0 k a b x ((i + 1 : Nat) : Int)) r) :
    ∀ (d j : Nat) (x : List Int) (c : Int), j + d = b.length → x.length = a.length + b.length → Dg 256 x → 0 ≤ c → c < 256 →
      (∀ m, i + b.length ≤ m → x.getD m 0 = 0) → Is (val 256 x + c * 256 ^ (i + j)) (T + 256 ^ i * rd a (i : Int) * val 256 (b.take j)) →
    Ev (fun k => lanyardref06_Mul.l1 k a b x i c j) r := by
  intro d
  induction d with
  | zero =>
    intro j x c hj hl hx hc0 hc1 hz hv
    obtain rfl : j = b.length := by omega
    refine Ev.step (fun k => by rw [lanyardref06_Mul.l1]) ?_
    have e : wrap64 ((i : Int) + (b.length : Int)) = ((i + b.length : Nat) : Int) := by rw [w64 (by omega) (by omega)]; omega
    refine Ev.ifF (by omega) ?_
    rw [e, i1 (by omega)]
    refine Ev.ifT (by omega) (Ev.ifT (by omega) ?_)
    refine next _ (by rw [List.length_set]; exact hl) (hx.set _ hc0 hc1) ?_
    rw [show (((i + b.length : Nat) : Int)).toNat = i + b.length from rfl, val_set _ _ _ _ (by omega), hz _ (Nat.le_refl _)]
    rw [List.take_length] at hv
    exact ⟨by rw [← hv.h, Int.sub_zero, Int.mul_comm c]⟩
  | succ d ih =>
    intro j x c hj hl hx hc0 hc1 hz hv
    refine Ev.step (fun k => by rw [lanyardref06_Mul.l1]) ?_
    have e : wrap64 ((i : Int) + (j : Int)) = ((i + j : Nat) : Int) := by rw [w64 (by omega) (by omega)]; omega
    have f1 : (j : Int) < b.length := by omega
    have f2' : i + j < x.length := by omega
    have f2 : ((i + j : Nat) : Int) < x.length := by omega
    have hx1 := rdD (by decide) hx ((i + j : Nat) : Int)
    have ha1 := rdD (by decide) ha (i : Int)
    have hb1 := rdD (by decide) hb (j : Int)
    have p0 : 0 ≤ rd a (i : Int) * rd b (j : Int) := Int.mul_nonneg ha1.1 hb1.1
    have p1 : rd a (i : Int) * rd b (j : Int) ≤ 255 * 255 := Int.mul_le_mul (by omega) (by omega) hb1.1 (by decide)
    have w4 := w64 (x := rd a (i : Int) * rd b (j : Int)) (by omega) (by omega)
    have w5 := w64 (x := c + rd x ((i + j : Nat) : Int)) (by omega) (by omega)
    have w6 := w64 (x := c + rd x ((i + j : Nat) : Int) + rd a (i : Int) * rd b (j : Int)) (by omega) (by omega)
    have w7 := i1 (i := j) (by omega)
    obtain ⟨t, ht⟩ : ∃ t : Int, c + rd x ((i + j : Nat) : Int) + rd a (i : Int) * rd b (j : Int) = t := ⟨_, rfl⟩
    have t0 : 0 ≤ t ∧ t ≤ 65535 := by omega
    have e1 : Int.tmod t 256 = t % 256 := Int.tmod_eq_emod_of_nonneg t0.1
    have e2 : Int.tdiv t 256 = t / 256 := Int.tdiv_eq_ediv_of_nonneg t0.1
    have e3 : wrap64 (t / 256) = t / 256 := w64 (by omega) (by omega)
    rw [e, w4, w5, w6, w7, ht, e1, e2, e3]
    clear w4 w5 w6 w7 e e1 e2 e3
    refine Ev.ifT f1 (Ev.ifT (Int.natCast_nonneg _) (Ev.ifT f2 (Ev.ifT (Int.natCast_nonneg _) (Ev.ifT (by omega) (Ev.ifT (Int.natCast_nonneg _) ?_)))))
    rw [show (((i + j : Nat) : Int)).toNat = i + j from rfl]
    have dm := Int.mul_ediv_add_emod t 256
    refine ih (j + 1) _ _ (by omega) (by rw [List.length_set]; exact hl) (hx.set _ (by omega) (by omega)) (by omega) (by omega) ?_ ?_
    · intro m hm
      have := hz m hm
      have hne : i + j ≠ m := by clear this; omega
      rw [List.getD_eq_getElem?_getD] at this ⊢
      rw [List.getElem?_set_ne hne]
      exact this
    · replace hv := hv.h
      refine ⟨?_⟩
      rw [val_set_rd _ _ _ _ f2', val_take_rd, show i + (j + 1) = (i + j) + 1 from rfl, Int.pow_succ]
      have em : t % 256 = c + rd x ((i + j : Nat) : Int) + rd a (i : Int) * rd b (j : Int) - 256 * (t / 256) := by clear hv; omega
      rw [em]
      generalize t / 256 = q at *
      have ep : (256 : Int) ^ (i + j) = 256 ^ i * 256 ^ j := Int.pow_add ..
      rw [ep] at hv ⊢
      generalize (256 : Int) ^ i = p at *
      generalize (256 : Int) ^ j = s at *
      rw [show val 256 x = T + p * rd a (i : Int) * val 256 (b.take j) - c * (p * s) by rw [← hv, Int.add_sub_cancel]]
      exact rmul_id ..
theorem rmul_out (a b : List Int) (ha : Dg 256 a) (hb : Dg 256 b) (hn : a.length + b.length < 1099511627776) (m : Nat) (hm : (m : Int) = val 256 a * val 256 b) :
    ∀ (d i : Nat) (x : List Int), i + d = a.length → x.length = a.length + b.length → Dg 256 x → Is (val 256 x) (val 256 (a.take i) * val 256 b) → Ev (fun k => lanyardref06_Mul.l0 k a b x i) (G m) := by
  intro d
  induction d with
  | zero =>
    intro i x hi hl hx hv
    obtain rfl : i = a.length := by omega
    refine Ev.step (fun k => by rw [lanyardref06_Mul.l0]) (Ev.ifF (by omega) ?_)
    rw [List.take_length, ← hm] at hv
    exact Ev.bind (rtrim_G hx hv.h (by omega)) (Ev.now _)
  | succ d ih =>
    intro i x hi hl hx hv
    refine Ev.step (fun k => by rw [lanyardref06_Mul.l0]) (Ev.ifT (by omega) ?_)
    refine rmul_in a b ha hb hn i (by omega) (val 256 (a.take i) * val 256 b) ?_ b.length 0 x 0 (by omega) hl hx (by decide) (by decide) ?_ ?_
    · intro y hyl hy hyv
      refine ih (i + 1) y (by omega) hyl hy ?_
      refine ⟨?_⟩
      rw [hyv.h, val_take_rd]
      grind
    · refine zero_of_lt (b := 256) (by decide) hx ?_
      have h1 := val_lt (by decide) (ha.take i)
      have h2 := val_lt (by decide) hb
      have h3 := val_nonneg (by decide) (ha.take i)
      have h4 := val_nonneg (by decide) hb
      rw [List.length_take, Nat.min_eq_left (by omega)] at h1
      rw [hv.h, Int.pow_add]
      rcases Int.lt_or_eq_of_le h4 with h | h
      · exact Int.mul_lt_mul h1 (Int.le_of_lt h2) h (Int.le_of_lt (pow_pos' (by decide) _))
      · rw [← h, Int.mul_zero]
        exact Int.mul_pos (pow_pos' (by decide) _) (pow_pos' (by decide) _)
    · exact ⟨by rw [hv.h]; simp [val]⟩
theorem rmul_ev {x y : Nat} (h : (G x).length + (G y).length < 1099511627776) : Ev (fun k => lanyardref06_Mul.f k (G x) (G y)) (G (x * y)) := by
  unfold lanyardref06_Mul.f
  have e : wrap64 (((G x).length : Int) + ((G y).length : Int)) = (((G x).length + (G y).length : Nat) : Int) := by rw [w64 (by omega) (by omega)]; omega
  rw [e]
  refine Ev.ifT (by omega) (Ev.ifT (by omega) ?_)
  rw [show ((((G x).length + (G y).length : Nat) : Int)).toNat = (G x).length + (G y).length by omega]
  exact rmul_out (G x) (G y) (G_Dg x) (G_Dg y) h (x * y) (by rw [G_val, G_val]; simp) (G x).length 0 _ (by omega) (List.length_replicate ..) (Dg.zeros (by decide) _) ⟨by rw [val_zeros]; simp [val]⟩

/-! ### quotients -/
/-- The rows 'b', twice b, .. -/
def twice (y n : Nat) : List (List Int) := (List.range n).map fun j => G (y * 2 ^ j)
theorem twice_len (y n : Nat) : (twice y n).length = n := by simp [twice]
theorem twice_rd (y n : Nat) {j : Nat} (h : j < n) : rd_L7 (twice y n) (j : Int) = G (y * 2 ^ j) := by
  unfold rd_L7 twice
  simp [h]
theorem twice_snoc (y n : Nat) : twice y n ++ [G (y * 2 ^ n)] = twice y (n + 1) := by simp [twice, List.range_succ]
theorem rdiv_l2 (y R : Nat) (hyl : (G (y * 256)).length < 549755813888) (a : List Int) (i : Nat) (q : List Int) (hiq : i < q.length) (hil : i < 1099511627776) {res : List Int × List Int} (hR : R < y * 256)
    (next : Ev (fun k => lanyardref06_Div.l1 k a (twice y 8) (q.set i ((R / y : Nat) : Int)) (G (R % y)) ((i : Int) - 1)) res) :
    ∀ (d S : Nat), d ≤ 8 → S * y ≤ R → R - S * y < y * 2 ^ d →
    Ev (fun k => lanyardref06_Div.l2 k a (twice y 8) (q.set i (S : Int)) (G (R - S * y)) i ((2 ^ d / 2 : Nat) : Int) ((d : Int) - 1)) res := by
  intro d
  induction d with
  | zero =>
    intro S _ h1 h2
    refine Ev.step (fun k => by rw [lanyardref06_Div.l2]) (Ev.ifF (by omega) ?_)
    rw [w64 (by omega) (by omega)]
    rw [Nat.pow_zero, Nat.mul_one] at h2
    have hy : 0 < y := by omega
    have e1 : R / y = S := by
      refine Nat.div_eq_of_lt_le h1 ?_
      rw [Nat.succ_mul]
      omega
    have e2 : R % y = R - S * y := by
      have := Nat.div_add_mod R y
      rw [e1, Nat.mul_comm] at this
      omega
    rw [e1, e2] at next
    exact next
  | succ d ih =>
    intro S h0 h1 h2
    have hS : S < 256 := by
      rcases Nat.lt_or_ge S 256 with h | h
      · exact h
      · have : 256 * y ≤ S * y := Nat.mul_le_mul_right y h
        omega
    have hP : 2 ^ d ≤ 128 := by
      have : 2 ^ d ≤ 2 ^ 7 := Nat.pow_le_pow_right (by decide) (by omega)
      omega
    have hP1 : y * 2 ^ d ≤ y * 256 := Nat.mul_le_mul_left y (by omega)
    have l1 := G_len_mono hP1
    have l2 := G_len_mono (x := R - S * y) (y := y * 256) (by omega)
    have ep : 2 ^ (d + 1) / 2 = 2 ^ d := by rw [Nat.pow_succ]; omega
    have ed : ((d + 1 : Nat) : Int) - 1 = (d : Int) := by omega
    have et := twice_rd y 8 (j := d) (by omega)
    have hc := rcmp_ev (x := R - S * y) (y := y * 2 ^ d) (by omega)
    have h22 : y * (2 ^ d * 2) = y * 2 ^ d + y * 2 ^ d := by rw [← Nat.mul_assoc, Nat.mul_two]
    rw [Nat.pow_succ, h22] at h2
    refine Ev.step (fun k => by rw [lanyardref06_Div.l2]) ?_
    rw [ep, ed, et]
    have e3 : wrap64 (Int.tdiv ((2 ^ d : Nat) : Int) 2) = ((2 ^ d / 2 : Nat) : Int) := by
      have : ∀ P : Nat, P ≤ 128 → wrap64 (Int.tdiv (P : Int) 2) = ((P / 2 : Nat) : Int) := by
        intro P h
        rw [Int.tdiv_eq_ediv_of_nonneg (by omega), w64 (by omega) (by omega)]
        omega
      exact this _ hP
    have e4 : wrap64 ((d : Int) - 1) = (d : Int) - 1 := w64 (by omega) (by omega)
    rw [e3, e4]
    refine Ev.ifT (by omega) (Ev.ifT (by omega) (Ev.ifT (by rw [twice_len]; omega) (Ev.bind hc ?_)))
    have hs : rd (q.set i (S : Int)) (i : Int) = S := by rw [rd_nat]; simp [hiq]
    by_cases hle : y * 2 ^ d ≤ R - S * y
    · have e5 : wrap64 ((S : Int) + ((2 ^ d : Nat) : Int)) = ((S + 2 ^ d : Nat) : Int) := by
        have : ∀ P : Nat, P ≤ 128 → wrap64 ((S : Int) + (P : Int)) = ((S + P : Nat) : Int) := by
          intro P h
          rw [w64 (by omega) (by omega)]
          omega
        exact this _ hP
      have e6 : (S + 2 ^ d) * y = S * y + y * 2 ^ d := by rw [Nat.add_mul, Nat.mul_comm (2 ^ d)]
      refine Ev.ifT (by unfold sg; rw [if_neg (by omega)]; split <;> decide) (Ev.bind (rsub_ev (by omega) hle) (Ev.ifT (by omega) (Ev.ifT (by rw [List.length_set]; omega) ?_)))
      rw [hs, e5, show ((i : Int)).toNat = i from rfl, List.set_set]
      have := ih (S + 2 ^ d) (by omega) (by rw [e6]; omega) (by rw [e6]; omega)
      rw [e6] at this
      rw [Nat.sub_sub]
      exact this
    · refine Ev.ifF (by unfold sg; rw [if_pos (by omega)]; decide) ?_
      exact ih S (by omega) h1 (by omega)
theorem rdiv_l1 (y : Nat) (hy : 0 < y) (hyl : (G (y * 256)).length < 549755813888) (a : List Int) (ha : Dg 256 a) (hal : a.length < 549755813888) (N : Nat) (hN : val 256 a = N) :
    ∀ (d X : Nat) (q : List Int), d ≤ a.length → Is (X : Int) (val 256 (a.drop d)) → q.length = a.length → Dg 256 q → (∀ j, j < d → q.getD j 0 = 0) → Is (val 256 (q.drop d)) ((X / y : Nat) : Int) →
    Ev (fun k => lanyardref06_Div.l1 k a (twice y 8) q (G (X % y)) ((d : Int) - 1)) (G (N / y), G (N % y)) := by
  intro d
  induction d with
  | zero =>
    intro X q _ hX hql hq _ hv
    refine Ev.step (fun k => by rw [lanyardref06_Div.l1]) (Ev.ifF (by omega) ?_)
    have hX' := hX.h
    have hv' := hv.h
    rw [List.drop_zero] at hX' hv'
    have e : X = N := by omega
    subst e
    exact Ev.bind (rtrim_G hq hv' (by omega)) (Ev.now _)
  | succ d ih =>
    intro X q hd hX hql hq hz hv
    refine Ev.step (fun k => by rw [lanyardref06_Div.l1]) ?_
    have ed : ((d + 1 : Nat) : Int) - 1 = (d : Int) := by omega
    rw [ed]
    have hr := ha.rd (by decide) (d : Int)
    obtain ⟨c, hc⟩ : ∃ c : Nat, rd a (d : Int) = c := ⟨(rd a (d : Int)).toNat, by omega⟩
    have hm := Nat.mod_lt X hy
    have hXle : X % y ≤ y * 256 := by omega
    have l1 := G_len_mono hXle
    refine Ev.ifT (by omega) (Ev.ifT (by omega) (Ev.ifT (by omega) (Ev.bind (Ev.now _) (Ev.ifT (by rw [List.length_singleton]; omega) ?_))))
    have ht : Ev (fun k => lanyardref06_trim.f k ([rd a (d : Int)] ++ G (X % y))) (G (c + 256 * (X % y))) := by
      refine rtrim_G (Dg.app (Dg.cons hr.1 hr.2 Dg.nil) (G_Dg _)) ?_ (by rw [List.length_append, List.length_singleton]; omega)
      rw [List.singleton_append, val, G_val, hc]
      generalize X % y = z
      omega
    refine Ev.bind ht ?_
    have hR : c + 256 * (X % y) < y * 256 := by omega
    have e1 : a.drop d = rd a (d : Int) :: a.drop (d + 1) := by
      rw [List.drop_eq_getElem_cons (by omega : d < a.length), rd_nat]; simp [(by omega : d < a.length)]
    have e2 : ∀ s : Int, (q.set d s).drop d = s :: q.drop (d + 1) := by
      intro s
      rw [List.drop_eq_getElem_cons (by rw [List.length_set]; omega), List.getElem_set_self, List.drop_set_of_lt (by omega)]
    have hX2 : ((c + 256 * X : Nat) : Int) = val 256 (a.drop d) := by
      rw [e1, val, ← hX.h, hc]
      omega
    have dm := Nat.div_add_mod X y
    have q1 : (c + 256 * X) / y = (c + 256 * (X % y)) / y + 256 * (X / y) := by
      have : c + 256 * X = c + 256 * (X % y) + y * (256 * (X / y)) := by
        have : y * (256 * (X / y)) = 256 * (y * (X / y)) := by rw [← Nat.mul_assoc, Nat.mul_comm y 256, Nat.mul_assoc]
        omega
      rw [this, Nat.add_mul_div_left _ _ hy]
    have q2 : (c + 256 * X) % y = (c + 256 * (X % y)) % y := by
      have : c + 256 * X = c + 256 * (X % y) + y * (256 * (X / y)) := by
        have : y * (256 * (X / y)) = 256 * (y * (X / y)) := by rw [← Nat.mul_assoc, Nat.mul_comm y 256, Nat.mul_assoc]
        omega
      rw [this, Nat.add_mul_mod_self_left]
    have hs : (c + 256 * (X % y)) / y < 256 := Nat.div_lt_of_lt_mul hR
    have next : Ev (fun k => lanyardref06_Div.l1 k a (twice y 8) (q.set d (((c + 256 * (X % y)) / y : Nat) : Int)) (G ((c + 256 * (X % y)) % y)) ((d : Int) - 1)) (G (N / y), G (N % y)) := by
      rw [← q2]
      refine ih (c + 256 * X) _ (by omega) ⟨hX2⟩ (by rw [List.length_set]; exact hql) (hq.set _ (Int.natCast_nonneg _) (Int.ofNat_lt.2 hs)) ?_ ?_
      · intro j hj
        have := hz j (by omega)
        have hne : d ≠ j := by omega
        rw [List.getD_eq_getElem?_getD] at this ⊢
        rw [List.getElem?_set_ne hne]
        exact this
      · refine ⟨?_⟩
        rw [e2, val, hv.h, q1]
        generalize X / y = z
        generalize (c + 256 * (X % y)) / y = z'
        omega
    have := rdiv_l2 y (c + 256 * (X % y)) hyl a d q (by omega) (by omega) hR next 8 0 (Nat.le_refl _) (by rw [Nat.zero_mul]; exact Nat.zero_le _) (by rw [Nat.zero_mul, Nat.sub_zero]; exact hR)
    have e3 : q.set d ((0 : Nat) : Int) = q := by
      have hz' := hz d (by omega)
      have hd' : d < q.length := by omega
      rw [List.getD_eq_getElem?_getD, List.getElem?_eq_getElem hd', Option.getD_some] at hz'
      refine List.ext_getElem (by simp) ?_
      intro j h1 h2
      rw [List.getElem_set]
      split
      · rename_i e
        subst e
        exact hz'.symm
      · rfl
    rw [e3, Nat.zero_mul, Nat.sub_zero] at this
    exact this
theorem rdiv_ev {x y : Nat} (hy : 0 < y) (hx : (G x).length < 549755813888) (hyl : (G (y * 256)).length < 549755813888) : Ev (fun k => lanyardref06_Div.f k (G x) (G y)) (G (x / y), G (x % y)) := by
  have start : Ev (fun k => lanyardref06_Div.l0 k (G x) (twice y 8) ((8 : Nat) : Int)) (G (x / y), G (x % y)) := by
    refine Ev.step (fun k => by rw [lanyardref06_Div.l0]) (Ev.ifF (by omega) (Ev.ifT (by omega) (Ev.ifT (by omega) ?_)))
    rw [w64 (by omega) (by omega), show (((G x).length : Int)).toNat = (G x).length by omega]
    have := rdiv_l1 y hy hyl (G x) (G_Dg x) hx x (G_val x) (G x).length 0 (List.replicate (G x).length 0) (Nat.le_refl _) ⟨by rw [List.drop_length]; rfl⟩ (List.length_replicate ..) (Dg.zeros (by decide) _) (by
      intro j hj
      simp [hj]) ⟨by rw [List.drop_of_length_le (by simp)]; simp [val]⟩
    rw [Nat.zero_mod, G_zero] at this
    exact this
  have loop : ∀ (d j : Nat), j + d = 8 → 1 ≤ j → Ev (fun k => lanyardref06_Div.l0 k (G x) (twice y j) (j : Int)) (G (x / y), G (x % y)) := by
    intro d
    induction d with
    | zero =>
      intro j hj _
      obtain rfl : j = 8 := by omega
      exact start
    | succ d ih =>
      intro j hj h1
      refine Ev.step (fun k => by rw [lanyardref06_Div.l0]) (Ev.ifT (by omega) ?_)
      have e : wrap64 ((j : Int) - 1) = ((j - 1 : Nat) : Int) := by rw [w64 (by omega) (by omega)]; omega
      have hP : 2 ^ (j - 1) ≤ 256 := by
        have : 2 ^ (j - 1) ≤ 2 ^ 8 := Nat.pow_le_pow_right (by decide) (by omega)
        omega
      have l1 := G_len_mono (Nat.mul_le_mul_left y hP)
      rw [e, twice_rd y j (by omega), i1 (by omega)]
      refine Ev.ifT (by omega) (Ev.ifT (by rw [twice_len]; omega) (Ev.bind (radd_ev (by omega) (by omega)) (Ev.ifT (by rw [twice_len]; omega) ?_)))
      have e2 : y * 2 ^ (j - 1) + y * 2 ^ (j - 1) = y * 2 ^ j := by
        have : 2 ^ j = 2 ^ (j - 1) * 2 := by rw [← Nat.pow_succ]; congr 1; omega
        rw [this, ← Nat.mul_assoc]; omega
      rw [e2, twice_snoc]
      exact ih (j + 1) (by omega) (by omega)
  unfold lanyardref06_Div.f
  have := loop 7 1 (by omega) (by omega)
  have e : twice y 1 = [G y] := by simp [twice]
  rw [e] at this
  exact this

/-! ### bytes of digits -/
theorem rbytes_loop (l : List Int) (hd : Dg 256 l) (hl : l.length < 1099511627776) : ∀ (d : Nat), d ≤ l.length →
    Ev (fun k => lanyardref06_Bytes.l0 k l (l.drop d).reverse ((d : Int) - 1)) l.reverse := by
  intro d
  induction d with
  | zero =>
    intro _
    refine Ev.step (fun k => by rw [lanyardref06_Bytes.l0]) (Ev.ifF (by omega) ?_)
    rw [List.drop_zero]
    exact Ev.now _
  | succ d ih =>
    intro h
    refine Ev.step (fun k => by rw [lanyardref06_Bytes.l0]) ?_
    have e : ((d + 1 : Nat) : Int) - 1 = (d : Int) := by omega
    rw [e]
    refine Ev.ifT (by omega) (Ev.ifT (by omega) (Ev.ifT (by omega) (Ev.ifT (by rw [List.length_reverse, List.length_drop]; omega) ?_)))
    have hr := hd.rd (by decide) (d : Int)
    have e1 : rd l (d : Int) % 256 = rd l (d : Int) := by omega
    rw [w64 (by omega) (by omega), e1]
    have e2 : (l.drop (d + 1)).reverse ++ [rd l (d : Int)] = (l.drop d).reverse := by
      rw [List.drop_eq_getElem_cons (by omega : d < l.length), List.reverse_cons, rd_nat]
      simp [(by omega : d < l.length)]
    rw [e2]
    exact ih (by omega)
theorem rbytes_ev {n : Nat} (hl : (G n).length < 1099511627776) : Ev (fun k => lanyardref06_Bytes.f k (G n)) (be n) := by
  unfold lanyardref06_Bytes.f
  rw [w64 (by omega) (by omega)]
  have := rbytes_loop (G n) (G_Dg n) hl (G n).length (Nat.le_refl _)
  rw [List.drop_length] at this
  exact this
theorem same_ev {l : List Int} {n : Nat} (hl : (G n).length < 1099511627776) (h : l = be n) : Ev (fun k => lanyardlaw06_same.f k l (G n)) true := by
  subst h
  unfold lanyardlaw06_same.f
  refine Ev.bind (rbytes_ev hl) ?_
  simp only [beq_self_eq_true]
  exact Ev.now _
end Go.Proofs.YtcofpbndaljppaaDoor.Num
