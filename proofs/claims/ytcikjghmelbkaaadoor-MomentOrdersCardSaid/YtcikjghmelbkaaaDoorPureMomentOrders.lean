/- The plain law of MomentOrders: later moments have greater texts, where these are as long. -/
import Derived.Test.YtcikjghmelbkaaaDoorAwk
import Derived.Test.YtcikjghmelbkaaaDoorPrs
import Derived.Test.YtcikjghmelbkaaaDoorHp11
namespace Go.Proofs.YtcikjghmelbkaaaDoor.Pure
open Go.RowKit Go.Proofs.YtcikjghmelbkaaaDoor.Hp Go.Proofs.YtcikjghmelbkaaaDoor.Esc Go.Proofs.YtcikjghmelbkaaaDoorW.PrintWords Go.Proofs.YtcikjghmelbkaaaDoorW.PrintLast
theorem less_same (c : UInt8) (x y : List UInt8) : Op.bytesLess (c :: x) (c :: y) = Op.bytesLess x y := by
  rw [Op.bytesLess]
  have : ¬ c < c := by rw [UInt8.lt_iff_toNat_lt]; omega
  simp [this]
theorem less_dig : ∀ (k a b : Nat) (x y : List UInt8), a < 10 ^ k → b < 10 ^ k → Op.bytesLess (dig k a ++ x) (dig k b ++ y) = if a = b then Op.bytesLess x y else decide (a < b)
  | 0, a, b, x, y, ha, hb => by
    rw [Nat.pow_zero] at ha hb
    rw [if_pos (by omega)]; rfl
  | k + 1, a, b, x, y, ha, hb => by
    rw [Nat.pow_succ] at ha hb
    have hda := dgt_nat a
    have hdb := dgt_nat b
    rw [dig, dig, List.append_assoc, List.append_assoc, less_dig k (a / 10) (b / 10) _ _ (by omega) (by omega)]
    show (if a / 10 = b / 10 then Op.bytesLess (dgt a :: x) (dgt b :: y) else _) = _
    by_cases h : a / 10 = b / 10
    · rw [if_pos h]
      by_cases e : a = b
      · subst e
        rw [if_pos rfl, less_same]
      · rw [if_neg e, Op.bytesLess]
        have hne : (dgt a == dgt b) = false := by
          rw [beq_eq_false_iff_ne]; intro q
          have := congrArg UInt8.toNat q
          omega
        rw [hne, Bool.false_and, Bool.or_false]
        exact decide_eq_decide.2 (by rw [UInt8.lt_iff_toNat_lt]; omega)
    · rw [if_neg h, if_neg (by intro e; subst e; exact h rfl)]
      exact decide_eq_decide.2 (by omega)
/-- Dates in order. -/
theorem dno_lt {y m d y' m' d' : Nat} (h : okd y m d) (h' : okd y' m' d') : dno y m d < dno y' m' d' ↔ y < y' ∨ y = y' ∧ (m < m' ∨ m = m' ∧ d < d') := by
  have a := dno_year h
  have b := dno_year h'
  have one : ∀ {y m d m' d' : Nat}, okd y m d → okd y m' d' → m < m' → dno y m d < dno y m' d' := fun {y m d m' d'} h h' k => by
    have := mb_lt y h.2.2.1 k
    have h6 := h.2.2.2.2.2
    have h7 := h.2.2.2.2.1
    have h5 := h'.2.2.2.2.1
    unfold dno
    omega
  rcases Nat.lt_trichotomy y y' with k | k | k
  · have := yd_lt h.1 k
    exact ⟨fun _ => .inl k, fun _ => by omega⟩
  · subst k
    rcases Nat.lt_trichotomy m m' with k | k | k
    · exact ⟨fun _ => .inr ⟨rfl, .inl k⟩, fun _ => one h h' k⟩
    · subst k
      have h5 := h.2.2.2.2.1
      have h5' := h'.2.2.2.2.1
      unfold dno
      omega
    · have := one h' h k
      omega
  · have := yd_lt h'.1 k
    omega
theorem less_hdr {y m d t y' m' d' t' : Nat} (h : okd y m d) (h' : okd y' m' d') (ht : t < 86400000) (ht' : t' < 86400000) (r r' : List UInt8) :
    Op.bytesLess (hdr y m d t r) (hdr y' m' d' t' r') = if dno y m d = dno y' m' d' ∧ t / 1000 = t' / 1000 then Op.bytesLess r r' else decide (dno y m d < dno y' m' d' ∨ dno y m d = dno y' m' d' ∧ t / 1000 < t' / 1000) := by
  have hl := mlen_le y m
  have hl' := mlen_le y' m'
  obtain ⟨h1, h2, h3, h4, h5, h6⟩ := id h
  obtain ⟨k1, k2, k3, k4, k5, k6⟩ := id h'
  have hlt := dno_lt h h'
  have heq : dno y m d = dno y' m' d' ↔ y = y' ∧ m = m' ∧ d = d' := ⟨fun e => dno_inj h h' e, fun ⟨a, b, c⟩ => by subst a; subst b; subst c; rfl⟩
  generalize dno y m d = n at hlt heq
  generalize dno y' m' d' = n' at hlt heq
  unfold hdr
  rw [less_dig 4 y y' _ _ (by omega) (by omega)]
  by_cases e1 : y = y'
  · rw [if_pos e1, less_same, less_dig 2 m m' _ _ (by omega) (by omega)]
    by_cases e2 : m = m'
    · rw [if_pos e2, less_same, less_dig 2 d d' _ _ (by omega) (by omega)]
      by_cases e3 : d = d'
      · have en := heq.2 ⟨e1, e2, e3⟩
        rw [if_pos e3, less_same, less_dig 2 _ _ _ _ (by omega) (by omega)]
        by_cases e4 : t / 3600000 = t' / 3600000
        · rw [if_pos e4, less_same, less_dig 2 _ _ _ _ (by omega) (by omega)]
          by_cases e5 : t / 60000 % 60 = t' / 60000 % 60
          · rw [if_pos e5, less_same, less_dig 2 _ _ _ _ (by omega) (by omega)]
            by_cases e6 : t / 1000 % 60 = t' / 1000 % 60
            · rw [if_pos e6, if_pos ⟨en, by omega⟩]
            · rw [if_neg e6, if_neg (by omega)]
              exact decide_eq_decide.2 (by omega)
          · rw [if_neg e5, if_neg (by omega)]
            exact decide_eq_decide.2 (by omega)
        · rw [if_neg e4, if_neg (by omega)]
          exact decide_eq_decide.2 (by omega)
      · have en : ¬ n = n' := fun e => e3 (heq.1 e).2.2
        rw [if_neg e3, if_neg (fun q => en q.1)]
        exact decide_eq_decide.2 (by rw [hlt]; omega)
    · have en : ¬ n = n' := fun e => e2 (heq.1 e).2.1
      rw [if_neg e2, if_neg (fun q => en q.1)]
      exact decide_eq_decide.2 (by rw [hlt]; omega)
  · have en : ¬ n = n' := fun e => e1 (heq.1 e).1
    rw [if_neg e1, if_neg (fun q => en q.1)]
    exact decide_eq_decide.2 (by rw [hlt]; omega)
theorem Ev.same {α : Type} {f : Nat → Option α} {a b : α} (h : Ev f a) (k : Ev f b) : a = b := by
  obtain ⟨K, h⟩ := h
  obtain ⟨K', k⟩ := k
  have h1 := h (max K K') (Nat.le_max_left _ _)
  have h2 := k (max K K') (Nat.le_max_right _ _)
  exact Option.some.inj (h1.symm.trans h2)
theorem txt_inj {y m d t y' m' d' t' : Nat} (h : okd y m d) (h' : okd y' m' d') (ht : t < 86400000) (ht' : t' < 86400000) (e : txt y m d t = txt y' m' d' t') : momOf y m d t = momOf y' m' d' t' := by
  have a := parse_txt h ht
  rw [e] at a
  exact congrArg Prod.fst (Ev.same a (parse_txt h' ht'))
theorem txt_len (y m d t : Nat) : (txt y m d t).length = if t % 1000 = 0 then 20 else 24 := by
  unfold txt
  rw [hdr_len]
  unfold frac
  split <;> simp [dig_len]
theorem less_txt {y m d t y' m' d' t' : Nat} (h : okd y m d) (h' : okd y' m' d') (ht : t < 86400000) (ht' : t' < 86400000) (hl : (txt y m d t).length = (txt y' m' d' t').length) : Op.bytesLess (txt y m d t) (txt y' m' d' t') = decide (momOf y m d t < momOf y' m' d' t') := by
  rw [txt_len, txt_len] at hl
  unfold txt
  rw [less_hdr h h' ht ht']
  unfold momOf frac
  generalize dno y m d = n
  generalize dno y' m' d' = n'
  by_cases c : n = n' ∧ t / 1000 = t' / 1000
  · rw [if_pos c]
    by_cases a : t % 1000 = 0
    · have a' : t' % 1000 = 0 := by
        rw [if_pos a] at hl
        by_cases a' : t' % 1000 = 0
        · exact a'
        · rw [if_neg a'] at hl; omega
      rw [if_pos a, if_pos a', decide_eq_false (by omega)]
      rfl
    · have a' : ¬ t' % 1000 = 0 := by
        rw [if_neg a] at hl
        intro a'
        rw [if_pos a'] at hl; omega
      rw [if_neg a, if_neg a', List.cons_append, List.cons_append, less_same, less_dig 3 _ _ _ _ (by omega) (by omega)]
      by_cases e : t % 1000 = t' % 1000
      · rw [if_pos e, decide_eq_false (by omega)]; rfl
      · rw [if_neg e]
        exact decide_eq_decide.2 (by omega)
  · rw [if_neg c]
    exact decide_eq_decide.2 (by omega)
theorem MomentOrders : lanyardlaw10_MomentOrders.Pure := by
  intro a b _ _
  refine Ev.rounds (?_ : Ev (fun k => lanyardlaw10_MomentOrders.f k a b) true)
  have aw : Ev (fun k => lanyardlaw10_MomentOrders.j0 k a b true) true := Ev.step (fun k => by rw [lanyardlaw10_MomentOrders.j0]) (Ev.ifT rfl (Ev.bind awake_ev (Ev.now _)))
  unfold lanyardlaw10_MomentOrders.f
  refine Ev.bind awake_ev (Ev.ifT rfl ?_)
  refine Ev.bindC (is_f a) ?_
  by_cases ha : mom a
  · refine Ev.ifT (decide_eq_true ha) ?_
    refine Ev.bindC (is_f b) ?_
    by_cases hb : mom b
    · rw [decide_eq_true hb]
      obtain ⟨y, m, d, t, h, ht, rfl⟩ := mom_ex ha
      obtain ⟨y', m', d', t', h', ht', rfl⟩ := mom_ex hb
      refine Ev.step (fun k => by rw [lanyardlaw10_MomentOrders.j0]) (Ev.ifF (by simp) ?_)
      refine Ev.bind (print_ev h ht) ?_
      refine Ev.bind (print_ev h' ht') ?_
      refine Ev.ifT rfl (Ev.ifT rfl ?_)
      have e1 : ((bs (txt y m d t)).toList == (bs (txt y' m' d' t')).toList) = (momOf y m d t == momOf y' m' d' t') := by
        rw [bs_toList, bs_toList, Bool.eq_iff_iff, beq_iff_eq, beq_iff_eq]
        refine ⟨fun e => txt_inj h h' ht ht' e, fun e => ?_⟩
        have ed : dno y m d = dno y' m' d' := by unfold momOf at e; omega
        obtain ⟨rfl, rfl, rfl⟩ := dno_inj h h' ed
        have : t = t' := by unfold momOf at e; omega
        rw [this]
      refine Ev.ifT (by simp only []; rw [e1]; simp) ?_
      by_cases hs : ((bs (txt y m d t)).size : Int) = ((bs (txt y' m' d' t')).size : Int)
      · refine Ev.ifT hs ?_
        rw [bs_size, bs_size] at hs
        simp only []
        rw [bs_toList, bs_toList, less_txt h h' ht ht' (by omega)]
        rw [show (decide (momOf y m d t < momOf y' m' d' t') == decide (momOf y m d t < momOf y' m' d' t')) = true by simp]
        exact Ev.now _
      · exact Ev.ifF hs (Ev.now _)
    · rw [decide_eq_false hb]
      exact aw
  · exact Ev.ifF (by simpa using ha) aw
end Go.Proofs.YtcikjghmelbkaaaDoor.Pure
