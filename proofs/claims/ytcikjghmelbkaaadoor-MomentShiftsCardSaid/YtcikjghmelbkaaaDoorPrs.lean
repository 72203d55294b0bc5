/- A moment's text is read as it, and so with an offset. -/
import Derived.Test.YtcikjghmelbkaaaDoorTxt
import Derived.Test.YtcikjghmelbkaaaDoorWdc
import Derived.Test.YtcikjghmelbkaaaDoorHp4
import Derived.Test.YtcikjghmelbkaaaDoorHp5
import Derived.Test.YtcikjghmelbkaaaDoorHp6
namespace Go.Proofs.YtcikjghmelbkaaaDoor.Esc
open Go.RowKit Go.Proofs.YtcikjghmelbkaaaDoor.Hp Go.Proofs.YtcikjghmelbkaaaDoorW.PrintWords Go.Proofs.YtcikjghmelbkaaaDoorW.PrintLast
theorem numL_add : ∀ (a b n : Nat) (l : List UInt8), numL (a + b) n l = (numL a n l).bind fun p => numL b p.1 p.2
  | 0, b, n, l => by rw [Nat.zero_add]; rfl
  | a + 1, b, n, [] => by rw [show a + 1 + b = (a + b) + 1 by omega]; rfl
  | a + 1, b, n, c :: l => by
    rw [show a + 1 + b = (a + b) + 1 by omega, numL, numL]
    split
    · exact numL_add a b _ l
    · rfl
theorem numL_dig : ∀ (k n m : Nat) (r : List UInt8), numL k n (dig k m ++ r) = some (n * 10 ^ k + m % 10 ^ k, r)
  | 0, n, m, r => by simp [numL, dig, Nat.mod_one]
  | k + 1, n, m, r => by
    have hd := dgt_nat m
    rw [dig, List.append_assoc, numL_add, numL_dig k n (m / 10)]
    show numL 1 (n * 10 ^ k + m / 10 % 10 ^ k) (dgt m :: r) = _
    rw [numL, if_pos (by omega), numL, hd]
    congr 2
    have e : m % 10 ^ (k + 1) = m % 10 + 10 * (m / 10 % 10 ^ k) := by rw [Nat.pow_succ, Nat.mul_comm (10 ^ k) 10, Nat.mod_mul]
    rw [e, Nat.pow_succ, ← Nat.mul_assoc]
    omega
theorem numberL_dig (k m : Nat) (lo hi : Int) (r : List UInt8) (hm : m < 10 ^ k) (h1 : lo ≤ m) (h2 : (m : Int) ≤ hi) : numberL k lo hi (dig k m ++ r) = some (m, r) := by
  unfold numberL
  rw [numL_dig, Nat.zero_mul, Nat.zero_add, Nat.mod_eq_of_lt hm]
  show (if _ then _ else _) = _
  exact if_neg (by omega)
theorem signL_hit (c : UInt8) (r : List UInt8) : signL [c] (c :: r) = some r := by
  unfold signL
  rw [if_pos (by simp [List.isPrefixOf])]; rfl
theorem dateL_hdr {y m d t : Nat} (h : okd y m d) (ht : t < 86400000) (r : List UInt8) : dateL (hdr y m d t r) = some (y, m, d, t / 3600000, t / 60000 % 60, t / 1000 % 60, r) := by
  have hl := mlen_le y m
  obtain ⟨h1, h2, h3, h4, h5, h6⟩ := h
  unfold hdr
  refine dateL_some (numberL_dig 4 y 1 9999 _ (by omega) (by omega) (by omega)) (signL_hit 45 _) (numberL_dig 2 m 1 12 _ (by omega) (by omega) (by omega)) (signL_hit 45 _) (numberL_dig 2 d 1 _ _ (by omega) (by omega) ?_) (signL_hit 84 _) (numberL_dig 2 _ 0 24 _ (by omega) (by omega) (by omega)) (signL_hit 58 _) (numberL_dig 2 _ 0 59 _ (by omega) (by omega) (by omega)) (signL_hit 58 _) (numberL_dig 2 _ 0 59 _ (by omega) (by omega) (by omega))
  rw [length_f]
  show (d : Int) ≤ ((mlen y m : Nat) : Int)
  omega
/-! ### fractions -/
theorem dig3 (f : Nat) : dig 3 f = [dgt (f / 10 / 10), dgt (f / 10), dgt f] := by simp [dig]
theorem fracGo_dgt (n m x : Nat) (l : List UInt8) : fracGo n m (dgt x :: l) = fracGo (if m < 3 then 10 * n + x % 10 else n) (m + 1) l := by
  have hd := dgt_nat x
  rw [fracGo, if_pos (by omega), hd, Nat.add_sub_cancel_left]
theorem fracGo_stop (n m : Nat) (c : UInt8) (l : List UInt8) (h : c = 90 ∨ c = 43 ∨ c = 45) : fracGo n m (c :: l) = (n, m, c :: l) := by
  rw [fracGo, if_neg]
  rcases h with rfl | rfl | rfl <;> decide
theorem fracL_three (f : Nat) (hf : f < 1000) (c : UInt8) (l : List UInt8) (h : c = 90 ∨ c = 43 ∨ c = 45) : fracL (46 :: (dig 3 f ++ c :: l)) = some (f, c :: l) := by
  have e : fracGo 0 0 (dig 3 f ++ c :: l) = (f, 3, c :: l) := by
    rw [dig3]
    show fracGo 0 0 (dgt (f / 10 / 10) :: dgt (f / 10) :: dgt f :: c :: l) = _
    rw [fracGo_dgt, if_pos (by decide), fracGo_dgt, if_pos (by decide), fracGo_dgt, if_pos (by decide), fracGo_stop _ _ _ _ h]
    congr 1
    omega
  unfold fracL
  rw [if_pos (by simp [List.isPrefixOf]), List.drop_succ_cons, List.drop_zero, e, if_neg (by show ¬ ((3 : Nat) < 1 ∨ 9 < 3); decide)]
  simp
theorem fracL_four (f x : Nat) (hf : f < 1000) (c : UInt8) (l : List UInt8) (h : c = 90 ∨ c = 43 ∨ c = 45) : fracL (46 :: (dig 3 f ++ dgt x :: c :: l)) = some (f, c :: l) := by
  have e : fracGo 0 0 (dig 3 f ++ dgt x :: c :: l) = (f, 4, c :: l) := by
    rw [dig3]
    show fracGo 0 0 (dgt (f / 10 / 10) :: dgt (f / 10) :: dgt f :: dgt x :: c :: l) = _
    rw [fracGo_dgt, if_pos (by decide), fracGo_dgt, if_pos (by decide), fracGo_dgt, if_pos (by decide), fracGo_dgt, if_neg (by decide), fracGo_stop _ _ _ _ h]
    congr 1
    omega
  unfold fracL
  rw [if_pos (by simp [List.isPrefixOf]), List.drop_succ_cons, List.drop_zero, e, if_neg (by show ¬ ((4 : Nat) < 1 ∨ 9 < 4); decide)]
  simp
theorem fracL_none (c : UInt8) (l : List UInt8) (h : c = 90 ∨ c = 43 ∨ c = 45) : fracL (c :: l) = some (0, c :: l) := by
  unfold fracL
  rw [if_neg]
  rcases h with rfl | rfl | rfl <;> simp [List.isPrefixOf]
/-- What a moment's own fraction is read as. -/
theorem fracL_frac (t : Nat) (c : UInt8) (l : List UInt8) (h : c = 90 ∨ c = 43 ∨ c = 45) : fracL (frac t ++ c :: l) = some (t % 1000, c :: l) := by
  unfold frac
  by_cases h0 : t % 1000 = 0
  · rw [if_pos h0, h0]; exact fracL_none c l h
  · rw [if_neg h0]; exact fracL_three _ (by omega) c l h
/-! ### offsets -/
theorem offR_two (w : Int) (h m : Nat) (hh : h ≤ 14) (hm : m ≤ 59) (hx : ¬ (h = 14 ∧ 0 < m)) : offR w (dig 2 h ++ 58 :: dig 2 m) = some (w * ((h : Int) * 3600000 + (m : Int) * 60000), []) := by
  unfold offR
  rw [numberL_dig 2 h 0 14 _ (by omega) (by omega) (by omega)]
  simp only [Option.bind_some]
  rw [signL_hit]
  simp only [Option.bind_some]
  have := numberL_dig 2 m 0 59 [] (by omega) (by omega) (by omega)
  rw [List.append_nil] at this
  rw [this]
  simp only [Option.bind_some]
  exact if_neg hx
theorem dig2 (f : Nat) : dig 2 f = [dgt (f / 10), dgt f] := by simp [dig]
theorem offL_plus (h m : Nat) (hh : h ≤ 14) (hm : m ≤ 59) (hx : ¬ (h = 14 ∧ 0 < m)) : offL (43 :: (dig 2 h ++ 58 :: dig 2 m)) = some ((h : Int) * 3600000 + (m : Int) * 60000, []) := by
  unfold offL
  rw [if_neg (by simp), if_neg (by simp [List.isPrefixOf]), signL_hit]
  show offR 1 _ = _
  rw [offR_two 1 h m hh hm hx, Int.one_mul]
theorem offL_minus (h m : Nat) (hh : h ≤ 14) (hm : m ≤ 59) (hx : ¬ (h = 14 ∧ 0 < m)) : offL (45 :: (dig 2 h ++ 58 :: dig 2 m)) = some (-((h : Int) * 3600000 + (m : Int) * 60000), []) := by
  unfold offL
  rw [if_neg (by simp), if_pos (by simp [List.isPrefixOf]), List.drop_succ_cons, List.drop_zero, offR_two (-1) h m hh hm hx]
  congr 2
  omega
theorem offL_z : offL [90] = some (0, []) := rfl
/-! ### what the end is asked -/
theorem bl_bs (l : List UInt8) : bl l = bs l := rfl
theorem trim_ev : ∀ (n : Nat) (l : List UInt8), l.length ≤ n → ∃ r, r.length ≤ l.length ∧ Ev (fun k => strings_trimLeftByte.f k (bs l) 48) (bs r)
  | _, [], _ => ⟨[], Nat.le_refl _, Ev.step (fun k => by unfold strings_trimLeftByte.f; rw [strings_trimLeftByte.l0]) (Ev.ifF (by rw [bs_size]; simp) (Ev.now _))⟩
  | 0, c :: l, h => by simp at h
  | n + 1, c :: l, h => by
    have hs : (bs (c :: l)).size = l.length + 1 := bs_size _
    have hb := bt_nat (bs (c :: l)) 0 (by omega)
    rw [show ((bs (c :: l)).data.toList.getD 0 0) = c from rfl] at hb
    by_cases hc : bt (bs (c :: l)) 0 = 48
    · obtain ⟨r, h1, h2⟩ := trim_ev n l (by simpa using h)
      refine ⟨r, by simp; omega, Ev.step (fun k => by unfold strings_trimLeftByte.f; rw [strings_trimLeftByte.l0]) ?_⟩
      refine Ev.ifT (by omega) (Ev.ifT (by omega) (Ev.ifT hc (Ev.ifT (by omega) ?_)))
      rw [show (bs (c :: l)).extract 1 (bs (c :: l)).size = bs l from bl_drop (c :: l) 1]
      exact h2
    · refine ⟨c :: l, Nat.le_refl _, Ev.step (fun k => by unfold strings_trimLeftByte.f; rw [strings_trimLeftByte.l0]) ?_⟩
      exact Ev.ifT (by omega) (Ev.ifT (by omega) (Ev.ifF hc (Ev.now _)))
theorem nought_ev (l : List UInt8) : ∃ wh, Ev (fun k => moment_nought.f k (bs l)) wh := by
  unfold moment_nought.f
  rw [bs_toList]
  by_cases h0 : l = []
  · exact ⟨true, Ev.ifT h0 (Ev.now _)⟩
  have hl : 0 < l.length := List.length_pos_iff.2 h0
  by_cases h1 : bt (bs l) 0 = 46
  · obtain ⟨r, _, hr⟩ := trim_ev _ (l.drop 1) (Nat.le_refl _)
    have hr' : Ev (fun k => strings_TrimLeft.f k ((bs l).extract 1 (bs l).size) ⟨#[48]⟩) (bs r) := by
      rw [show (bs l).extract 1 (bs l).size = bs (l.drop 1) from bl_drop l 1]
      unfold strings_TrimLeft.f
      exact Ev.ifT rfl hr
    by_cases h2 : r = []
    · exact ⟨true, Ev.ifF h0 (Ev.ifT (by rw [bs_size]; omega) (Ev.ifT h1 (Ev.ifT (by rw [bs_size]; omega) (Ev.bind hr' (Ev.ifT (by rw [bs_toList]; exact h2) (Ev.now _))))))⟩
    · have hrl : 0 < r.length := List.length_pos_iff.2 h2
      by_cases h3 : bt (bs r) 0 < 49
      · exact ⟨true, Ev.ifF h0 (Ev.ifT (by rw [bs_size]; omega) (Ev.ifT h1 (Ev.ifT (by rw [bs_size]; omega) (Ev.bind hr' (Ev.ifF (by rw [bs_toList]; exact h2) (Ev.ifT (by rw [bs_size]; omega) (Ev.ifT h3 (Ev.now _))))))))⟩
      · exact ⟨_, Ev.ifF h0 (Ev.ifT (by rw [bs_size]; omega) (Ev.ifT h1 (Ev.ifT (by rw [bs_size]; omega) (Ev.bind hr' (Ev.ifF (by rw [bs_toList]; exact h2) (Ev.ifT (by rw [bs_size]; omega) (Ev.ifF h3 (Ev.now _))))))))⟩
  · exact ⟨true, Ev.ifF h0 (Ev.ifT (by rw [bs_size]; omega) (Ev.ifF h1 (Ev.now _)))⟩
/-! ### the reading -/
def nb (l : List UInt8) : Prop := ∀ x ∈ l, blk x = false
theorem nb_dgt (n : Nat) : blk (dgt n) = false := by
  have h := dgt_nat n
  unfold blk
  have e : ∀ c : UInt8, c.toNat < 48 → (dgt n == c) = false := fun c hc => by
    rw [beq_eq_false_iff_ne]; intro e; rw [e] at h; omega
  rw [e 32 (by decide), e 9 (by decide), e 10 (by decide), e 13 (by decide)]; rfl
theorem nb_app {a b : List UInt8} (ha : nb a) (hb : nb b) : nb (a ++ b) := fun x hx => (List.mem_append.1 hx).elim (ha x) (hb x)
theorem nb_cons {c : UInt8} {b : List UInt8} (ha : blk c = false) (hb : nb b) : nb (c :: b) := fun x hx => (List.mem_cons.1 hx).elim (fun e => e ▸ ha) (hb x)
theorem nb_nil : nb [] := fun x hx => by cases hx
theorem nb_dig : ∀ (k n : Nat), nb (dig k n)
  | 0, _ => nb_nil
  | k + 1, n => nb_app (nb_dig k _) (nb_cons (nb_dgt n) nb_nil)
theorem nb_hdr {y m d t : Nat} {r : List UInt8} (h : nb r) : nb (hdr y m d t r) := by
  unfold hdr
  exact nb_app (nb_dig _ _) (nb_cons rfl (nb_app (nb_dig _ _) (nb_cons rfl (nb_app (nb_dig _ _) (nb_cons rfl (nb_app (nb_dig _ _) (nb_cons rfl (nb_app (nb_dig _ _) (nb_cons rfl (nb_app (nb_dig _ _) h))))))))))
theorem nb_frac (t : Nat) : nb (frac t) := by
  unfold frac
  split
  · exact nb_nil
  · exact nb_cons rfl (nb_dig _ _)
theorem collapse_same (l : List UInt8) (h : nb l) (hn : l ≠ []) : collapse l = l := by
  unfold collapse
  rw [wds_all l h hn, Lib.join_one]
theorem restL_val {t n : Nat} (ht : t < 86400000) (hb : n < 3652059) (wh : Bool) (r q : List UInt8) (o : Int) (hf : fracL r = some (t % 1000, q)) (ho : offL q = some (o, [])) (ho1 : -100000000 ≤ o) (ho2 : o ≤ 100000000) :
    restL (t / 3600000) (t / 60000 % 60) (t / 1000 % 60) wh ((n : Int) - 719162) r = some ((n : Int) * 86400000 + (t : Int) - 62135596800000 - o) := by
  unfold restL
  rw [hf]
  simp only [Option.bind_some]
  rw [if_neg (by intro k; have := k.1; omega), ho]
  simp only [Option.bind_some]
  rw [if_pos trivial]
  congr 1
  have e : ((n : Int) - 719162) * 86400000 + ((t / 3600000 : Nat) : Int) * 3600000 + ((t / 60000 % 60 : Nat) : Int) * 60000 + ((t / 1000 % 60 : Nat) : Int) * 1000 + ((t % 1000 : Nat) : Int) - o = (n : Int) * 86400000 + (t : Int) - 62135596800000 - o := by omega
  rw [e]
  exact w64 (by omega) (by omega)
theorem allL_val {y m d t : Nat} (h : okd y m d) (ht : t < 86400000) (r q : List UInt8) (o : Int) (hf : fracL r = some (t % 1000, q)) (ho : offL q = some (o, [])) (ho1 : -100000000 ≤ o) (ho2 : o ≤ 100000000) :
    Ev (fun k => allL k (hdr y m d t r)) (some (momOf y m d t - o)) := by
  obtain ⟨wh, hw⟩ := nought_ev r
  have hd := dateL_hdr h ht r
  have e : ∀ k, allL k (hdr y m d t r) = (moment_nought.f k (bs r)).bind fun wh => (moment_Days.f k y m d).bind fun nd => some (restL (t / 3600000) (t / 60000 % 60) (t / 1000 % 60) (decide (t / 60000 % 60 = 0 ∧ t / 1000 % 60 = 0) && wh) nd.1 r) := fun k => by
    unfold allL
    rw [hd]
    rfl
  refine Ev.congr e (Ev.bind hw (Ev.bind (days_ev h) ?_))
  have := restL_val ht (dno_bound h) (decide (t / 60000 % 60 = 0 ∧ t / 1000 % 60 = 0) && wh) r q o hf ho ho1 ho2
  rw [this]
  exact Ev.now _
/-- A text of a date, a time, a fraction (of which the first three digits are the moment's), an offset. -/
theorem parse_ev {y m d t : Nat} (h : okd y m d) (ht : t < 86400000) (r q : List UInt8) (o : Int) (hr : nb r) (hl : r.length ≤ 45) (hf : fracL r = some (t % 1000, q)) (ho : offL q = some (o, [])) (ho1 : -100000000 ≤ o) (ho2 : o ≤ 100000000) :
    Ev (fun k => moment_Parse.f k (bs (hdr y m d t r))) (if mom (momOf y m d t - o) then (momOf y m d t - o, 0) else (0, 21)) := by
  have hlen := hdr_len y m d t r
  have hall := allL_val h ht r q o hf ho ho1 ho2
  have hnb := nb_hdr (y := y) (m := m) (d := d) (t := t) hr
  generalize momOf y m d t - o = v at hall ⊢
  generalize hdr y m d t r = l at hlen hall hnb ⊢
  have hc := collapse_ev (bs l) (by rw [bs_size]; omega)
  rw [bs_data, collapse_same l hnb (by intro e; rw [e] at hlen; simp at hlen; omega)] at hc
  unfold moment_Parse.f
  refine Ev.ifF (by rw [bs_size]; omega) ?_
  refine Ev.bind hc ?_
  refine Ev.ifT (by rw [bs_size]; omega) ?_
  rw [bs_data]
  refine Ev.bind hall ?_
  unfold parseR
  simp only []
  rw [none_f]
  by_cases hm : mom v
  · rw [if_pos hm]
    exact Ev.bindC rfl (Ev.ifF (by simpa using hm) (Ev.now _))
  · rw [if_neg hm]
    exact Ev.bindC rfl (Ev.ifT (by simpa using hm) (Ev.now _))
theorem parse_txt {y m d t : Nat} (h : okd y m d) (ht : t < 86400000) : Ev (fun k => moment_Parse.f k (bs (txt y m d t))) (momOf y m d t, 0) := by
  have hfl : (frac t).length ≤ 4 := by unfold frac; split <;> simp [dig_len]
  have := parse_ev h ht (frac t ++ [90]) [90] 0 (nb_app (nb_frac t) (nb_cons rfl nb_nil)) (by simp; omega) (fracL_frac t 90 [] (.inl rfl)) offL_z (by decide) (by decide)
  rw [Int.sub_zero, if_pos (momOf_mom h ht)] at this
  exact this
end Go.Proofs.YtcikjghmelbkaaaDoor.Esc
