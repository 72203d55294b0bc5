/- The document's calendar: month by month, by halves. -/
import Derived.Test.YtcikjghmelbkaaaDoorCal
import Derived.Test.YtcikjghmelbkaaaDoorHp6
import Derived.Test.YtcikjghmelbkaaaDoorHp7
namespace Go.Proofs.YtcikjghmelbkaaaDoor.Esc
open Go.RowKit Go.Proofs.YtcikjghmelbkaaaDoor.Hp Go.Proofs.YtcikjghmelbkaaaDoorW.PrintWords Go.Proofs.YtcikjghmelbkaaaDoorW.PrintLast
theorem rlength_f (y m : Nat) (h1 : 1 ≤ m) (h2 : m ≤ 12) : lanyardref10_Length.f (y : Int) (m : Int) = some ((mlen y m : Nat) : Int) := by
  have hw : wrap64 ((m : Int) - 1) = ((m - 1 : Nat) : Int) := by unfold wrap64; omega
  have e4 : (Int.tmod (y : Int) 4 = 0) = (y % 4 = 0) := by rw [show Int.tmod (y : Int) 4 = ((y % 4 : Nat) : Int) from tm y 4]; exact propext (by omega)
  have e100 : (Int.tmod (y : Int) 100 = 0) = (y % 100 = 0) := by rw [show Int.tmod (y : Int) 100 = ((y % 100 : Nat) : Int) from tm y 100]; exact propext (by omega)
  have e400 : (Int.tmod (y : Int) 400 = 0) = (y % 400 = 0) := by rw [show Int.tmod (y : Int) 400 = ((y % 400 : Nat) : Int) from tm y 400]; exact propext (by omega)
  unfold lanyardref10_Length.f
  show (if (m : Int) = 2 then _ else _) = _
  rw [hw]
  simp only [e4, e100, e400]
  have hl := leap_iff y
  rcases (show m = 1 ∨ m = 2 ∨ m = 3 ∨ m = 4 ∨ m = 5 ∨ m = 6 ∨ m = 7 ∨ m = 8 ∨ m = 9 ∨ m = 10 ∨ m = 11 ∨ m = 12 by omega) with rfl | rfl | rfl | rfl | rfl | rfl | rfl | rfl | rfl | rfl | rfl | rfl
  case inr.inl =>
    rw [if_pos (show ((2 : Nat) : Int) = 2 from rfl)]
    unfold mlen
    rw [if_pos (show (2 : Nat) = 2 from rfl)]
    by_cases a : y % 400 = 0
    · rw [if_pos a, if_pos (hl.2 (.inr a))]; rfl
    · rw [if_neg a]
      by_cases b : y % 4 = 0
      · rw [if_pos b]
        by_cases c : y % 100 = 0
        · rw [if_pos c, if_neg (fun q => (hl.1 q).elim (fun q => q.2 c) a)]; rfl
        · rw [if_neg c, if_pos (hl.2 (.inl ⟨b, c⟩))]; rfl
      · rw [if_neg b, if_neg (fun q => (hl.1 q).elim (fun q => b q.1) a)]; rfl
  all_goals rfl
theorem rdays_l3 (y m : Nat) (d : Int) (hm : m ≤ 12) (hd : -100 ≤ d ∧ d ≤ 100) : ∀ (k i : Nat) (x r : Int), i + k = m → 1 ≤ i → -1000000 ≤ x → x ≤ 4000000 + 31 * (i : Int) → r = x + ((mb y m : Nat) : Int) - ((mb y i : Nat) : Int) + d - 1 → Ev (fun k => lanyardref10_Days.l3 k (y : Int) (m : Int) d x (i : Int)) r
  | 0, i, x, r, hi, h1, hx, hx2, hr => by
    obtain rfl : i = m := by omega
    refine Ev.step (fun k => by rw [lanyardref10_Days.l3]) (Ev.ifF (by omega) ?_)
    rw [show wrap64 (wrap64 (x + d) - 1) = r by subst hr; generalize mb y i = q; unfold wrap64; omega]
    exact Ev.now _
  | k + 1, i, x, r, hi, h1, hx, hx2, hr => by
    have hl := mlen_le y i
    have hb := mb_succ y i h1
    refine Ev.step (fun k => by rw [lanyardref10_Days.l3]) (Ev.ifT (by omega) ?_)
    refine Ev.bindC (rlength_f y i h1 (by omega)) ?_
    rw [show wrap64 (x + ((mlen y i : Nat) : Int)) = x + ((mlen y i : Nat) : Int) by unfold wrap64; omega, show wrap64 ((i : Int) + 1) = ((i + 1 : Nat) : Int) by unfold wrap64; omega]
    exact rdays_l3 y m d hm hd k (i + 1) (x + ((mlen y i : Nat) : Int)) r (by omega) (by omega) (by omega) (by omega) (by omega)
theorem rdays_l2 (y m : Nat) (d : Int) (z : Nat) (hz : z ≤ 10000) (r : Int) : ∀ (k i : Nat) (x : Int), i + k = 13 → 1 ≤ i → -1000000 ≤ x → x ≤ 4000000 + 31 * (i : Int) →
    Ev (fun k => lanyardref10_Days.l1 k (y : Int) (m : Int) d (x + ((ylen z : Nat) : Int) - ((mb z i : Nat) : Int)) ((z + 1 : Nat) : Int)) r → Ev (fun k => lanyardref10_Days.l2 k (y : Int) (m : Int) d x (z : Int) (i : Int)) r
  | 0, i, x, hi, h1, hx, hx2, hr => by
    obtain rfl : i = 13 := by omega
    rw [mb_13] at hr
    refine Ev.step (fun k => by rw [lanyardref10_Days.l2]) (Ev.ifF (by omega) ?_)
    rw [show wrap64 ((z : Int) + 1) = ((z + 1 : Nat) : Int) by unfold wrap64; omega]
    rw [show x + ((ylen z : Nat) : Int) - ((ylen z : Nat) : Int) = x by omega] at hr
    exact hr
  | k + 1, i, x, hi, h1, hx, hx2, hr => by
    have hl := mlen_le z i
    have hb := mb_succ z i h1
    refine Ev.step (fun k => by rw [lanyardref10_Days.l2]) (Ev.ifT (by omega) ?_)
    refine Ev.bindC (rlength_f z i h1 (by omega)) ?_
    rw [show wrap64 (x + ((mlen z i : Nat) : Int)) = x + ((mlen z i : Nat) : Int) by unfold wrap64; omega, show wrap64 ((i : Int) + 1) = ((i + 1 : Nat) : Int) by unfold wrap64; omega]
    refine rdays_l2 y m d z hz r k (i + 1) (x + ((mlen z i : Nat) : Int)) (by omega) (by omega) (by omega) (by omega) ?_
    rw [show x + ((mlen z i : Nat) : Int) + ((ylen z : Nat) : Int) - ((mb z (i + 1) : Nat) : Int) = x + ((ylen z : Nat) : Int) - ((mb z i : Nat) : Int) by omega]
    exact hr
theorem rdays_l1 (y m : Nat) (d : Int) (hy : y ≤ 10000) (h1 : 1 ≤ m) (hm : m ≤ 12) (hd : -100 ≤ d ∧ d ≤ 100) : ∀ (k i : Nat), i + k = y → 1 ≤ i → Ev (fun k => lanyardref10_Days.l1 k (y : Int) (m : Int) d (((yd i : Nat) : Int) - 719162) (i : Int)) (((yd y : Nat) : Int) + ((mb y m : Nat) : Int) + d - 719163)
  | 0, i, hi, hi1 => by
    obtain rfl : i = y := by omega
    have hb := yd_small i hy
    refine Ev.step (fun k => by rw [lanyardref10_Days.l1]) (Ev.ifF (by omega) ?_)
    exact rdays_l3 i m d hm hd (m - 1) 1 _ _ (by omega) (by omega) (by omega) (by omega) (by rw [mb_one]; omega)
  | k + 1, i, hi, hi1 => by
    have hb := yd_small i (by omega)
    have hs := yd_succ i hi1
    refine Ev.step (fun k => by rw [lanyardref10_Days.l1]) (Ev.ifT (by omega) ?_)
    refine rdays_l2 y m d i (by omega) _ 12 1 _ (by omega) (by omega) (by omega) (by omega) ?_
    rw [mb_one, show ((yd i : Nat) : Int) - 719162 + ((ylen i : Nat) : Int) - ((0 : Nat) : Int) = ((yd (i + 1) : Nat) : Int) - 719162 by omega]
    exact rdays_l1 y m d hy h1 hm hd k (i + 1) (by omega) (by omega)
theorem rdays_l0 (y m : Nat) (d : Int) (hy : y ≤ 10000) (h1 : 1 ≤ m) (hm : m ≤ 12) (hd : -100 ≤ d ∧ d ≤ 100) : ∀ (k i : Nat), y ≤ i + 400 * k → 1 ≤ i → i ≤ y → Ev (fun k => lanyardref10_Days.l0 k (y : Int) (m : Int) d (((yd i : Nat) : Int) - 719162) (i : Int)) (((yd y : Nat) : Int) + ((mb y m : Nat) : Int) + d - 719163)
  | 0, i, hi, hi1, hi2 => by
    refine Ev.step (fun k => by rw [lanyardref10_Days.l0]) (Ev.ifF (by unfold wrap64; omega) ?_)
    exact rdays_l1 y m d hy h1 hm hd (y - i) i (by omega) hi1
  | k + 1, i, hi, hi1, hi2 => by
    have hb := yd_small i (by omega)
    by_cases h : i + 400 ≤ y
    · refine Ev.step (fun k => by rw [lanyardref10_Days.l0]) (Ev.ifT (by unfold wrap64; omega) ?_)
      have h4 := yd_400 i hi1
      rw [show wrap64 (((yd i : Nat) : Int) - 719162 + 146097) = ((yd (i + 400) : Nat) : Int) - 719162 by rw [h4]; generalize yd i = q at hb; unfold wrap64; omega, show wrap64 ((i : Int) + 400) = ((i + 400 : Nat) : Int) by unfold wrap64; omega]
      exact rdays_l0 y m d hy h1 hm hd k (i + 400) (by omega) (by omega) h
    · refine Ev.step (fun k => by rw [lanyardref10_Days.l0]) (Ev.ifF (by unfold wrap64; omega) ?_)
      exact rdays_l1 y m d hy h1 hm hd (y - i) i (by omega) hi1
theorem rdays_ev (y m : Nat) (d : Int) (h0 : 1 ≤ y) (hy : y ≤ 10000) (h1 : 1 ≤ m) (hm : m ≤ 12) (hd : -100 ≤ d ∧ d ≤ 100) : Ev (fun k => lanyardref10_Days.f k (y : Int) (m : Int) d) (((yd y : Nat) : Int) + ((mb y m : Nat) : Int) + d - 719163) :=
  rdays_l0 y m d hy h1 hm hd 25 1 (by omega) (by omega) h0
theorem right_ev (y m d : Int) : lanyardref10_Right.f y m d = some true ∧ Okd y m d ∨ lanyardref10_Right.f y m d = some false ∧ ¬ Okd y m d := by
  have no : ∀ {p : Prop}, (Okd y m d → p) → ¬ p → ¬ Okd y m d := fun a b c => b (a c)
  unfold lanyardref10_Right.f
  by_cases h1 : y ≥ 1
  · rw [if_pos h1]
    by_cases h2 : y ≤ 9999
    · rw [if_pos h2]
      by_cases h3 : m ≥ 1
      · rw [if_pos h3]
        by_cases h4 : m ≤ 12
        · rw [if_pos h4]
          by_cases h5 : d ≥ 1
          · rw [if_pos h5]
            obtain ⟨y', rfl⟩ : ∃ y' : Nat, y = y' := ⟨y.toNat, by omega⟩
            obtain ⟨m', rfl⟩ : ∃ m' : Nat, m = m' := ⟨m.toNat, by omega⟩
            obtain ⟨d', rfl⟩ : ∃ d' : Nat, d = d' := ⟨d.toNat, by omega⟩
            rw [rlength_f y' m' (by omega) (by omega)]
            show some (decide ((d' : Int) ≤ ((mlen y' m' : Nat) : Int))) = _ ∧ _ ∨ some (decide ((d' : Int) ≤ ((mlen y' m' : Nat) : Int))) = _ ∧ _
            by_cases h6 : (d' : Int) ≤ ((mlen y' m' : Nat) : Int)
            · exact .inl ⟨by rw [decide_eq_true h6], y', m', d', rfl, rfl, rfl, by omega, by omega, by omega, by omega, by omega, by omega⟩
            · refine .inr ⟨by rw [decide_eq_false h6], ?_⟩
              rintro ⟨y2, m2, d2, e1, e2, e3, k⟩
              obtain rfl : y' = y2 := by omega
              obtain rfl : m' = m2 := by omega
              obtain rfl : d' = d2 := by omega
              have := k.2.2.2.2.2
              omega
          · rw [if_neg h5]; exact .inr ⟨rfl, by rintro ⟨y2, m2, d2, e1, e2, e3, k1, k2, k3, k4, k5, k6⟩; omega⟩
        · rw [if_neg h4]; exact .inr ⟨rfl, by rintro ⟨y2, m2, d2, e1, e2, e3, k1, k2, k3, k4, k5, k6⟩; omega⟩
      · rw [if_neg h3]; exact .inr ⟨rfl, by rintro ⟨y2, m2, d2, e1, e2, e3, k1, k2, k3, k4, k5, k6⟩; omega⟩
    · rw [if_neg h2]; exact .inr ⟨rfl, by rintro ⟨y2, m2, d2, e1, e2, e3, k1, k2, k3, k4, k5, k6⟩; omega⟩
  · rw [if_neg h1]; exact .inr ⟨rfl, by rintro ⟨y2, m2, d2, e1, e2, e3, k1, k2, k3, k4, k5, k6⟩; omega⟩
/-! ### the date by halves -/
theorem rdate_l1 (y m d : Nat) (h : okd y m d) : ∀ (k i : Nat), i + k = m → 1 ≤ i → Ev (fun k => lanyardref10_Date.l1 k (((dno y m d : Nat) : Int) - 719162) (y : Int) (i : Int)) ((y : Int), (m : Int), (d : Int))
  | 0, i, hi, h1 => by
    obtain rfl : i = m := by omega
    obtain ⟨a1, a2, a3, a4, a5, a6⟩ := h
    have hl := mlen_le y i
    have hb := yd_small y (by omega)
    have hmb : mb y i ≤ 366 := by
      have := mb_le y a3 (show i ≤ 13 by omega)
      rw [mb_13] at this
      have := ylen_le y
      omega
    have hv := rdays_ev y i 1 a1 (by omega) a3 a4 (by omega)
    have hfin : wrap64 (wrap64 (((dno y i d : Nat) : Int) - 719162 - (((yd y : Nat) : Int) + ((mb y i : Nat) : Int) + 1 - 719163)) + 1) = (d : Int) := by unfold dno wrap64; omega
    refine Ev.step (fun k => by rw [lanyardref10_Date.l1]) ?_
    by_cases h12 : (i : Int) < 12
    · refine Ev.ifT h12 ?_
      have hv2 := rdays_ev y (i + 1) 1 a1 (by omega) (by omega) (by omega) (by omega)
      rw [show wrap64 ((i : Int) + 1) = ((i + 1 : Nat) : Int) by unfold wrap64; omega]
      refine Ev.bind hv2 (Ev.ifF ?_ (Ev.bind hv ?_))
      · have := mb_succ y i a3
        unfold dno
        omega
      · rw [hfin]; exact Ev.now _
    · refine Ev.ifF h12 (Ev.bind hv ?_)
      rw [hfin]; exact Ev.now _
  | k + 1, i, hi, h1 => by
    have h' := h
    obtain ⟨a1, a2, a3, a4, a5, a6⟩ := h
    refine Ev.step (fun k => by rw [lanyardref10_Date.l1]) (Ev.ifT (by omega) ?_)
    have hv2 := rdays_ev y (i + 1) 1 a1 (by omega) (by omega) (by omega) (by omega)
    rw [show wrap64 ((i : Int) + 1) = ((i + 1 : Nat) : Int) by unfold wrap64; omega]
    refine Ev.bind hv2 (Ev.ifT ?_ ?_)
    · have := mb_le y (show 1 ≤ i + 1 by omega) (show i + 1 ≤ m by omega)
      unfold dno
      omega
    · exact rdate_l1 y m d h' k (i + 1) (by omega) (by omega)
theorem rdate_l0 (y m d : Nat) (h : okd y m d) : ∀ (k lo hi : Nat), hi - lo ≤ k → 1 ≤ lo → lo ≤ y → y ≤ hi → hi ≤ 9999 → Ev (fun k => lanyardref10_Date.l0 k (((dno y m d : Nat) : Int) - 719162) (lo : Int) (hi : Int)) ((y : Int), (m : Int), (d : Int))
  | 0, lo, hi, hk, h1, h2, h3, h4 => by
    obtain rfl : lo = y := by omega
    refine Ev.step (fun k => by rw [lanyardref10_Date.l0]) (Ev.ifF (by omega) ?_)
    exact rdate_l1 lo m d h (m - 1) 1 (by have := h.2.2.1; omega) (by omega)
  | k + 1, lo, hi, hk, h1, h2, h3, h4 => by
    by_cases hlt : lo < hi
    · refine Ev.step (fun k => by rw [lanyardref10_Date.l0]) (Ev.ifT (by omega) ?_)
      have hmid : wrap64 (Int.tdiv (wrap64 (wrap64 ((lo : Int) + (hi : Int)) + 1)) 2) = (((lo + hi + 1) / 2 : Nat) : Int) := by
        rw [show wrap64 (wrap64 ((lo : Int) + (hi : Int)) + 1) = ((lo + hi + 1 : Nat) : Int) by unfold wrap64; omega, show Int.tdiv ((lo + hi + 1 : Nat) : Int) 2 = (((lo + hi + 1) / 2 : Nat) : Int) from td _ 2]
        unfold wrap64; omega
      rw [hmid]
      generalize hm : (lo + hi + 1) / 2 = mid
      have hv := rdays_ev mid 1 1 (by omega) (by omega) (by omega) (by omega) (by omega)
      rw [mb_one] at hv
      refine Ev.bind hv ?_
      have hd := dno_year h
      by_cases hc : mid ≤ y
      · have := yd_le (show 1 ≤ mid by omega) hc
        refine Ev.ifT (by omega) ?_
        exact rdate_l0 y m d h k mid hi (by omega) (by omega) hc h3 h4
      · have := yd_lt h.1 (show y < mid by omega)
        refine Ev.ifF (by omega) ?_
        rw [show wrap64 ((mid : Int) - 1) = ((mid - 1 : Nat) : Int) by unfold wrap64; omega]
        exact rdate_l0 y m d h k lo (mid - 1) (by omega) h1 h2 (by omega) (by omega)
    · obtain rfl : lo = y := by omega
      refine Ev.step (fun k => by rw [lanyardref10_Date.l0]) (Ev.ifF (by omega) ?_)
      exact rdate_l1 lo m d h (m - 1) 1 (by have := h.2.2.1; omega) (by omega)
theorem rdate_ev {y m d t : Nat} (h : okd y m d) (ht : t < 86400000) : Ev (fun k => lanyardref10_Date.f k (momOf y m d t)) ((y : Int), (m : Int), (d : Int)) := by
  have hb := dno_bound h
  have := rdate_l0 y m d h 9999 1 9999 (by omega) (by omega) h.1 h.2.1 (by omega)
  unfold lanyardref10_Date.f
  refine Ev.bindC (a := -62135596800000) rfl ?_
  unfold momOf
  generalize dno y m d = n at hb this
  have e : wrap64 ((n : Int) * 86400000 + (t : Int) - 62135596800000 - -62135596800000) = ((n * 86400000 + t : Nat) : Int) := by unfold wrap64; omega
  rw [e, show Int.tdiv ((n * 86400000 + t : Nat) : Int) 86400000 = (((n * 86400000 + t) / 86400000 : Nat) : Int) from td _ 86400000, show (n * 86400000 + t) / 86400000 = n by omega]
  rw [show wrap64 (wrap64 (n : Int) - 719162) = (n : Int) - 719162 by unfold wrap64; omega]
  exact this
end Go.Proofs.YtcikjghmelbkaaaDoor.Esc
