/- The calendar: years, months, days; and that the program and the document count them so. -/
import Derived.Test.YtcikjghmelbkaaaDoorMom
import Derived.Test.YtcikjghmelbkaaaDoorHp2
import Derived.Test.YtcikjghmelbkaaaDoorHp4
namespace Go.Proofs.YtcikjghmelbkaaaDoor.Esc
open Go.RowKit Go.Proofs.YtcikjghmelbkaaaDoor.Hp Go.Proofs.YtcikjghmelbkaaaDoorW.PrintWords Go.Proofs.YtcikjghmelbkaaaDoorW.PrintLast
def leapN (y : Nat) : Bool := (y % 4 == 0 && y % 100 != 0) || y % 400 == 0
def mlen (y m : Nat) : Nat := if m = 2 then (if leapN y = true then 29 else 28) else if m = 4 then 30 else if m = 6 then 30 else if m = 9 then 30 else if m = 11 then 30 else 31
def ylen (y : Nat) : Nat := if leapN y = true then 366 else 365
/-- Days ahead of a year. -/
def yd (y : Nat) : Nat := 365 * (y - 1) + (y - 1) / 4 - (y - 1) / 100 + (y - 1) / 400
/-- Days of a year ahead of a month. -/
def mb (y : Nat) : Nat → Nat
  | 0 => 0
  | n + 1 => mb y n + (if n = 0 then 0 else mlen y n)
def dno (y m d : Nat) : Nat := yd y + mb y m + (d - 1)
def okd (y m d : Nat) : Prop := 1 ≤ y ∧ y ≤ 9999 ∧ 1 ≤ m ∧ m ≤ 12 ∧ 1 ≤ d ∧ d ≤ mlen y m
theorem leap_iff (y : Nat) : leapN y = true ↔ (y % 4 = 0 ∧ y % 100 ≠ 0 ∨ y % 400 = 0) := by simp [leapN]
theorem yd_succ (y : Nat) (h : 1 ≤ y) : yd (y + 1) = yd y + ylen y := by
  obtain ⟨z, rfl⟩ : ∃ z, y = z + 1 := ⟨y - 1, by omega⟩
  have s4 : (z + 1) / 4 = z / 4 + (if (z + 1) % 4 = 0 then 1 else 0) := by split <;> omega
  have s100 : (z + 1) / 100 = z / 100 + (if (z + 1) % 100 = 0 then 1 else 0) := by split <;> omega
  have s400 : (z + 1) / 400 = z / 400 + (if (z + 1) % 400 = 0 then 1 else 0) := by split <;> omega
  have k1 : (z + 1) % 100 = 0 → (z + 1) % 4 = 0 := by omega
  have k2 : (z + 1) % 400 = 0 → (z + 1) % 100 = 0 := by omega
  have k3 : z / 100 ≤ z / 4 := by omega
  unfold yd ylen
  rw [show z + 1 + 1 - 1 = z + 1 by omega, show z + 1 - 1 = z by omega, s4, s100, s400]
  have hl := leap_iff (z + 1)
  generalize z / 4 = a at k3 ⊢
  generalize z / 100 = b at k3 ⊢
  generalize z / 400 = c
  by_cases h4 : (z + 1) % 4 = 0
  · rw [if_pos h4]
    by_cases h100 : (z + 1) % 100 = 0
    · rw [if_pos h100]
      by_cases h400 : (z + 1) % 400 = 0
      · rw [if_pos h400, if_pos (hl.2 (.inr h400))]; omega
      · rw [if_neg h400, if_neg (fun q => (hl.1 q).elim (fun q => q.2 h100) h400)]; omega
    · rw [if_neg h100, if_neg (fun q => h100 (k2 q)), if_pos (hl.2 (.inl ⟨h4, h100⟩))]; omega
  · rw [if_neg h4, if_neg (fun q => h4 (k1 q)), if_neg (fun q => h4 (k1 (k2 q))), if_neg (fun q => (hl.1 q).elim (fun q => h4 q.1) (fun q => h4 (k1 (k2 q))))]; omega
theorem yd_400 (y : Nat) (h : 1 ≤ y) : yd (y + 400) = yd y + 146097 := by unfold yd; omega
theorem yd_mul (q : Nat) : yd (1 + 400 * q) = 146097 * q := by
  induction q with
  | zero => rfl
  | succ q ih => rw [show 1 + 400 * (q + 1) = 1 + 400 * q + 400 by omega, yd_400 _ (by omega), ih]; omega
theorem mlen_le (y m : Nat) : 28 ≤ mlen y m ∧ mlen y m ≤ 31 := by
  unfold mlen
  repeat' split
  all_goals omega
theorem ylen_le (y : Nat) : 365 ≤ ylen y ∧ ylen y ≤ 366 := by unfold ylen; split <;> omega
theorem mb_succ (y m : Nat) (h : 1 ≤ m) : mb y (m + 1) = mb y m + mlen y m := by rw [mb, if_neg (by omega)]
theorem mb_one (y : Nat) : mb y 1 = 0 := rfl
theorem mb_13 (y : Nat) : mb y 13 = ylen y := by
  simp only [mb, mlen, ylen]
  by_cases h : leapN y = true <;> simp [h]
theorem yd_mono : ∀ (k y : Nat), 1 ≤ y → yd y ≤ yd (y + k)
  | 0, y, h => Nat.le_refl _
  | k + 1, y, h => by
    have := yd_mono k y h
    rw [show y + (k + 1) = (y + k) + 1 by omega, yd_succ _ (by omega)]
    omega
theorem yd_le {x y : Nat} (h1 : 1 ≤ x) (h : x ≤ y) : yd x ≤ yd y := by
  have := yd_mono (y - x) x h1
  rwa [show x + (y - x) = y by omega] at this
theorem yd_lt {x y : Nat} (h1 : 1 ≤ x) (h : x < y) : yd x + ylen x ≤ yd y := by
  rw [← yd_succ x h1]
  exact yd_le (by omega) h
theorem mb_mono (y : Nat) : ∀ (k m : Nat), 1 ≤ m → mb y m ≤ mb y (m + k)
  | 0, m, h => Nat.le_refl _
  | k + 1, m, h => by
    have := mb_mono y k m h
    rw [show m + (k + 1) = (m + k) + 1 by omega, mb_succ _ _ (by omega)]
    omega
theorem mb_le (y : Nat) {a b : Nat} (h1 : 1 ≤ a) (h : a ≤ b) : mb y a ≤ mb y b := by
  have := mb_mono y (b - a) a h1
  rwa [show a + (b - a) = b by omega] at this
theorem mb_lt (y : Nat) {a b : Nat} (h1 : 1 ≤ a) (h : a < b) : mb y a + mlen y a ≤ mb y b := by
  rw [← mb_succ y a h1]
  exact mb_le y (by omega) h
/-- Where a day lies in its year. -/
theorem dno_year {y m d : Nat} (h : okd y m d) : yd y ≤ dno y m d ∧ dno y m d < yd y + ylen y := by
  obtain ⟨h1, h2, h3, h4, h5, h6⟩ := h
  have h7 := mb_lt y h3 (show m < 13 by omega)
  rw [mb_13] at h7
  unfold dno
  omega
theorem yd_bound (y : Nat) (h : y ≤ 10000) : yd y ≤ 3652059 := by unfold yd; omega
theorem dno_bound {y m d : Nat} (h : okd y m d) : dno y m d < 3652059 := by
  have h1 := dno_year h
  have h2 := yd_succ y h.1
  have h3 := yd_bound (y + 1) (by have := h.2.1; omega)
  omega
theorem ex_year : ∀ n : Nat, ∃ y, 1 ≤ y ∧ yd y ≤ n ∧ n < yd y + ylen y
  | 0 => ⟨1, by decide⟩
  | n + 1 => by
    obtain ⟨y, h1, h2, h3⟩ := ex_year n
    by_cases h : n + 1 < yd y + ylen y
    · exact ⟨y, h1, by omega, h⟩
    · have := yd_succ y h1
      have := ylen_le (y + 1)
      exact ⟨y + 1, by omega, by omega, by omega⟩
theorem ex_month (y : Nat) : ∀ (k r : Nat), k ≤ 12 → r < mb y (k + 1) → ∃ m, 1 ≤ m ∧ m ≤ 12 ∧ mb y m ≤ r ∧ r < mb y m + mlen y m
  | 0, r, hk, h => by rw [mb_one] at h; omega
  | k + 1, r, hk, h => by
    by_cases h2 : r < mb y (k + 1)
    · exact ex_month y k r (by omega) h2
    · rw [mb_succ y (k + 1) (by omega)] at h
      exact ⟨k + 1, by omega, by omega, by omega, h⟩
/-- Every day has a date. -/
theorem ex_date (n : Nat) (h : n < 3652059) : ∃ y m d, okd y m d ∧ dno y m d = n := by
  obtain ⟨y, h1, h2, h3⟩ := ex_year n
  have hy : y ≤ 9999 := by
    by_cases hy : y ≤ 9999
    · exact hy
    · have := yd_le (show 1 ≤ 10000 by decide) (show 10000 ≤ y by omega)
      rw [show yd 10000 = 3652059 from rfl] at this
      omega
  obtain ⟨m, m1, m2, m3, m4⟩ := ex_month y 12 (n - yd y) (by omega) (by rw [mb_13]; omega)
  exact ⟨y, m, n - yd y - mb y m + 1, ⟨h1, hy, m1, m2, by omega, by omega⟩, by unfold dno; omega⟩
/-- A date has one number. -/
theorem dno_inj {y m d y' m' d' : Nat} (h : okd y m d) (h' : okd y' m' d') (e : dno y m d = dno y' m' d') : y = y' ∧ m = m' ∧ d = d' := by
  have a := dno_year h
  have b := dno_year h'
  have hy : y = y' := by
    rcases Nat.lt_trichotomy y y' with k | k | k
    · have := yd_lt h.1 k; omega
    · exact k
    · have := yd_lt h'.1 k; omega
  subst hy
  obtain ⟨_, _, m1, m2, d1, d2⟩ := h
  obtain ⟨_, _, n1, n2, e1, e2⟩ := h'
  unfold dno at e
  have hm : m = m' := by
    rcases Nat.lt_trichotomy m m' with k | k | k
    · have := mb_lt y m1 k; omega
    · exact k
    · have := mb_lt y n1 k; omega
  subst hm
  exact ⟨rfl, rfl, by omega⟩
/-! ### the program's calendar -/
theorem tm (y n : Nat) : Int.tmod (y : Int) (n : Int) = ((y % n : Nat) : Int) := (Int.ofNat_tmod y n).symm
theorem td (y n : Nat) : Int.tdiv (y : Int) (n : Int) = ((y / n : Nat) : Int) := (Int.ofNat_tdiv y n).symm
theorem leap_f (y : Nat) : moment_leap.f (y : Int) = some (leapN y) := by
  have h4 := tm y 4
  have h100 := tm y 100
  have h400 := tm y 400
  unfold moment_leap.f
  rw [show Int.tmod (y : Int) 4 = ((y % 4 : Nat) : Int) from h4, show Int.tmod (y : Int) 100 = ((y % 100 : Nat) : Int) from h100, show Int.tmod (y : Int) 400 = ((y % 400 : Nat) : Int) from h400]
  have e4 : (((y % 400 : Nat) : Int) == 0) = (y % 400 == 0) := by
    rw [Bool.eq_iff_iff, beq_iff_eq, beq_iff_eq]; omega
  rw [e4]
  unfold leapN
  by_cases a : y % 4 = 0
  · rw [if_pos (by omega)]
    by_cases b : y % 100 = 0
    · rw [if_pos (by omega)]; simp [a, b]
    · rw [if_neg (by omega)]; simp [a, b]
  · rw [if_neg (by omega)]; simp [a]
theorem length_f (y m : Nat) : moment_length.f (y : Int) (m : Int) = some ((mlen y m : Nat) : Int) := by
  unfold moment_length.f mlen
  rw [leap_f]
  by_cases h2 : m = 2
  · rw [if_pos (by omega), if_pos h2]
    show (if leapN y = true then some 29 else some 28) = _
    by_cases hl : leapN y = true
    · rw [if_pos hl, if_pos hl]; rfl
    · rw [if_neg hl, if_neg hl]; rfl
  · rw [if_neg (by omega), if_neg h2]
    by_cases h4 : m = 4
    · rw [if_pos (by omega), if_pos h4]; rfl
    · rw [if_neg (by omega), if_neg h4]
      by_cases h6 : m = 6
      · rw [if_pos (by omega), if_pos h6]; rfl
      · rw [if_neg (by omega), if_neg h6]
        by_cases h9 : m = 9
        · rw [if_pos (by omega), if_pos h9]; rfl
        · rw [if_neg (by omega), if_neg h9]
          by_cases h11 : m = 11
          · rw [if_pos (by omega), if_pos h11]; rfl
          · rw [if_neg (by omega), if_neg h11]; rfl
/-- The numbers of a date that there is. -/
theorem days_loop (y m d : Nat) (hm : m ≤ 12) (hd : d ≤ 31) : ∀ (k i : Nat) (x r : Int), i + k = m → 1 ≤ i → -1000000 ≤ x → x ≤ 4000000 + 31 * (i : Int) → r = x + ((mb y m : Nat) : Int) - ((mb y i : Nat) : Int) + (d : Int) - 1 → Ev (fun k => moment_Days.l0 k (y : Int) (m : Int) (d : Int) x (i : Int)) (r, 0)
  | 0, i, x, r, hi, h1, hx, hx2, hr => by
    obtain rfl : i = m := by omega
    refine Ev.step (fun k => by rw [moment_Days.l0]) (Ev.ifF (by omega) ?_)
    rw [show wrap64 (wrap64 (x + (d : Int)) - 1) = r by subst hr; generalize mb y i = q; unfold wrap64; omega]
    exact Ev.now _
  | k + 1, i, x, r, hi, h1, hx, hx2, hr => by
    have hl := mlen_le y i
    have hb := mb_succ y i h1
    refine Ev.step (fun k => by rw [moment_Days.l0]) (Ev.ifT (by omega) ?_)
    refine Ev.bindC (length_f y i) ?_
    rw [show wrap64 (x + ((mlen y i : Nat) : Int)) = x + ((mlen y i : Nat) : Int) by unfold wrap64; omega, show wrap64 ((i : Int) + 1) = ((i + 1 : Nat) : Int) by unfold wrap64; omega]
    exact days_loop y m d hm hd k (i + 1) (x + ((mlen y i : Nat) : Int)) r (by omega) (by omega) (by omega) (by omega) (by omega)
theorem yd_int (y : Nat) (h1 : 1 ≤ y) (h2 : y ≤ 9999) : wrap64 ((wrap64 ((wrap64 ((wrap64 ((wrap64 (365 * (wrap64 ((y : Int) - 1)))) + (wrap64 (Int.tdiv (wrap64 ((y : Int) - 1)) 4)))) - (wrap64 (Int.tdiv (wrap64 ((y : Int) - 1)) 100)))) + (wrap64 (Int.tdiv (wrap64 ((y : Int) - 1)) 400)))) - 719162) = ((yd y : Nat) : Int) - 719162 := by
  obtain ⟨z, rfl⟩ : ∃ z, y = z + 1 := ⟨y - 1, by omega⟩
  have e1 : wrap64 (((z + 1 : Nat) : Int) - 1) = (z : Int) := by unfold wrap64; omega
  rw [e1, show Int.tdiv (z : Int) 4 = ((z / 4 : Nat) : Int) from td z 4, show Int.tdiv (z : Int) 100 = ((z / 100 : Nat) : Int) from td z 100, show Int.tdiv (z : Int) 400 = ((z / 400 : Nat) : Int) from td z 400]
  unfold yd
  rw [show z + 1 - 1 = z by omega]
  have k3 : z / 100 ≤ z / 4 := by omega
  have b4 : z / 4 ≤ 9999 := by omega
  have b400 : z / 400 ≤ 9999 := by omega
  generalize z / 4 = a at k3 b4 ⊢
  generalize z / 100 = b at k3 ⊢
  generalize z / 400 = c at b400 ⊢
  have w1 : wrap64 (365 * (z : Int)) = 365 * (z : Int) := by unfold wrap64; omega
  have w2 : wrap64 (a : Int) = (a : Int) := by unfold wrap64; omega
  have w3 : wrap64 (b : Int) = (b : Int) := by unfold wrap64; omega
  have w4 : wrap64 (c : Int) = (c : Int) := by unfold wrap64; omega
  rw [w1, w2, w3, w4]
  have w5 : wrap64 (365 * (z : Int) + (a : Int)) = 365 * (z : Int) + (a : Int) := by unfold wrap64; omega
  rw [w5]
  have w6 : wrap64 (365 * (z : Int) + (a : Int) - (b : Int)) = 365 * (z : Int) + (a : Int) - (b : Int) := by unfold wrap64; omega
  rw [w6]
  have w7 : wrap64 (365 * (z : Int) + (a : Int) - (b : Int) + (c : Int)) = 365 * (z : Int) + (a : Int) - (b : Int) + (c : Int) := by unfold wrap64; omega
  rw [w7]
  unfold wrap64
  omega
theorem yd_small (y : Nat) (h2 : y ≤ 10000) : ((yd y : Nat) : Int) ≤ 3652059 := by have := yd_bound y h2; omega
theorem days_ev {y m d : Nat} (h : okd y m d) : Ev (fun k => moment_Days.f k (y : Int) (m : Int) (d : Int)) (((dno y m d : Nat) : Int) - 719162, 0) := by
  obtain ⟨h1, h2, h3, h4, h5, h6⟩ := h
  have hl := mlen_le y m
  have hy := yd_small y (by omega)
  unfold moment_Days.f
  refine Ev.ifF (by omega) (Ev.ifF (by omega) (Ev.ifF (by omega) (Ev.ifF (by omega) (Ev.ifF (by omega) ?_))))
  refine Ev.bindC (length_f y m) ?_
  rw [decide_eq_false (by omega)]
  refine Ev.step (fun k => by rw [moment_Days.j0]) (Ev.ifF (by simp) ?_)
  rw [yd_int y h1 h2]
  refine days_loop y m d h4 (by omega) (m - 1) 1 _ _ (by omega) (by omega) (by omega) (by omega) ?_
  rw [mb_one]
  unfold dno
  omega
/-- Whether there is a day of such numbers. -/
def Okd (y m d : Int) : Prop := ∃ y' m' d' : Nat, y = y' ∧ m = m' ∧ d = d' ∧ okd y' m' d'
theorem days_no {y m d : Int} (h : ¬ Okd y m d) : Ev (fun k => moment_Days.f k y m d) (0, 2) := by
  have no : Ev (fun k => moment_Days.j0 k y m d true) (0, 2) := Ev.step (fun k => by rw [moment_Days.j0]) (Ev.ifT rfl (Ev.now _))
  unfold moment_Days.f
  by_cases h1 : y < 1
  · exact Ev.ifT h1 no
  refine Ev.ifF h1 ?_
  by_cases h2 : y > 9999
  · exact Ev.ifT h2 no
  refine Ev.ifF h2 ?_
  by_cases h3 : m < 1
  · exact Ev.ifT h3 no
  refine Ev.ifF h3 ?_
  by_cases h4 : m > 12
  · exact Ev.ifT h4 no
  refine Ev.ifF h4 ?_
  by_cases h5 : d < 1
  · exact Ev.ifT h5 no
  refine Ev.ifF h5 ?_
  obtain ⟨y', rfl⟩ : ∃ y' : Nat, y = y' := ⟨y.toNat, by omega⟩
  obtain ⟨m', rfl⟩ : ∃ m' : Nat, m = m' := ⟨m.toNat, by omega⟩
  obtain ⟨d', rfl⟩ : ∃ d' : Nat, d = d' := ⟨d.toNat, by omega⟩
  refine Ev.bindC (length_f y' m') ?_
  have h6 : (d' : Int) > ((mlen y' m' : Nat) : Int) := by
    by_cases h6 : (d' : Int) > ((mlen y' m' : Nat) : Int)
    · exact h6
    · exact absurd ⟨y', m', d', rfl, rfl, rfl, by omega, by omega, by omega, by omega, by omega, by omega⟩ h
  rw [decide_eq_true h6]
  exact no
/-! ### the date of a moment -/
def FIRST : Int := -62135596800000
theorem date_months (y m d r : Nat) (h : okd y m d) : ∀ (k i x : Nat), i + k = m → 1 ≤ i → x + mb y i = mb y m + (d - 1) → Ev (fun k => moment_Date.l1 k (x : Int) (y : Int) (i : Int)) ((y : Int), (m : Int), (d : Int), 0)
  | 0, i, x, hi, h1, hx => by
    obtain rfl : i = m := by omega
    obtain ⟨_, _, _, _, h5, h6⟩ := h
    have hl := mlen_le y i
    refine Ev.step (fun k => by rw [moment_Date.l1]) ?_
    refine Ev.bindC (length_f y i) ?_
    refine Ev.ifF (by omega) ?_
    rw [show wrap64 ((x : Int) + 1) = (d : Int) by unfold wrap64; omega]
    exact Ev.now _
  | k + 1, i, x, hi, h1, hx => by
    have hl := mlen_le y i
    have hb := mb_lt y h1 (show i < m by omega)
    have hs := mb_succ y i h1
    have hbm : mb y m ≤ 366 := by
      have := mb_le y h.2.2.1 (show m ≤ 13 by have := h.2.2.2.1; omega)
      rw [mb_13] at this
      have := ylen_le y
      omega
    have hd : d ≤ 31 := by have := h.2.2.2.2.2; have := mlen_le y m; omega
    have hm := h.2.2.2.1
    refine Ev.step (fun k => by rw [moment_Date.l1]) ?_
    refine Ev.bindC (length_f y i) ?_
    refine Ev.ifT (by omega) ?_
    refine Ev.bindC (length_f y i) ?_
    rw [show wrap64 ((x : Int) - ((mlen y i : Nat) : Int)) = ((x - mlen y i : Nat) : Int) by unfold wrap64; omega, show wrap64 ((i : Int) + 1) = ((i + 1 : Nat) : Int) by unfold wrap64; omega]
    exact date_months y m d r h k (i + 1) (x - mlen y i) (by omega) (by omega) (by omega)
theorem date_years (y m d : Nat) (h : okd y m d) : ∀ (k i x : Nat), i + k = y → 1 ≤ i → x + yd i = dno y m d → Ev (fun k => moment_Date.l0 k (x : Int) (i : Int)) ((y : Int), (m : Int), (d : Int), 0)
  | 0, i, x, hi, h1, hx => by
    obtain rfl : i = y := by omega
    have hd := dno_year h
    have hmo : Ev (fun k => moment_Date.j1 k (x : Int) (i : Int)) ((i : Int), (m : Int), (d : Int), 0) := by
      refine Ev.step (fun k => by rw [moment_Date.j1]) ?_
      have := date_months i m d 0 h (m - 1) 1 x (by have := h.2.2.1; omega) (by omega) (by rw [mb_one]; unfold dno at hx; omega)
      exact this
    refine Ev.step (fun k => by rw [moment_Date.l0]) ?_
    refine Ev.bindC (leap_f i) ?_
    unfold ylen at hd
    by_cases hl : leapN i = true
    · rw [if_pos hl] at hd
      exact Ev.ifT hl (Ev.ifT (by omega) hmo)
    · rw [if_neg hl] at hd
      exact Ev.ifF hl (Ev.ifT (by omega) hmo)
  | k + 1, i, x, hi, h1, hx => by
    have hd := dno_year h
    have hb := dno_bound h
    have hs := yd_succ i h1
    have hlt := yd_lt h1 (show i < y by omega)
    have hy := h.2.1
    have ih := fun x' (e : x' + yd (i + 1) = dno y m d) => date_years y m d h k (i + 1) x' (by omega) (by omega) e
    refine Ev.step (fun k => by rw [moment_Date.l0]) ?_
    refine Ev.bindC (leap_f i) ?_
    rw [show wrap64 ((i : Int) + 1) = ((i + 1 : Nat) : Int) by unfold wrap64; omega]
    unfold ylen at hs hlt
    by_cases hl : leapN i = true
    · rw [if_pos hl] at hs hlt
      refine Ev.ifT hl (Ev.ifF (by omega) ?_)
      rw [show wrap64 ((x : Int) - 366) = ((x - 366 : Nat) : Int) by unfold wrap64; omega]
      exact ih _ (by omega)
    · rw [if_neg hl] at hs hlt
      refine Ev.ifF hl (Ev.ifF (by omega) ?_)
      rw [show wrap64 ((x : Int) - 365) = ((x - 365 : Nat) : Int) by unfold wrap64; omega]
      exact ih _ (by omega)
/-- A moment by its date and what is left of the day. -/
def momOf (y m d t : Nat) : Int := ((dno y m d : Nat) : Int) * 86400000 + (t : Int) - 62135596800000
theorem momOf_mom {y m d t : Nat} (h : okd y m d) (ht : t < 86400000) : mom (momOf y m d t) := by
  have := dno_bound h
  unfold mom momOf
  omega
theorem mom_ex {x : Int} (h : mom x) : ∃ y m d t, okd y m d ∧ t < 86400000 ∧ x = momOf y m d t := by
  obtain ⟨n, hn⟩ : ∃ n : Nat, x + 62135596800000 = n := ⟨(x + 62135596800000).toNat, by unfold mom at h; omega⟩
  obtain ⟨y, m, d, hd, he⟩ := ex_date (n / 86400000) (by unfold mom at h; omega)
  exact ⟨y, m, d, n % 86400000, hd, by omega, by unfold momOf; rw [he]; omega⟩
theorem split_f {y m d t : Nat} (h : okd y m d) (ht : t < 86400000) : moment_split.f (momOf y m d t) = some (((dno y m d : Nat) : Int), (t : Int)) := by
  have hb := dno_bound h
  unfold moment_split.f momOf
  generalize dno y m d = n at hb
  have e : wrap64 ((n : Int) * 86400000 + (t : Int) - 62135596800000 - -62135596800000) = ((n * 86400000 + t : Nat) : Int) := by unfold wrap64; omega
  rw [e, show Int.tdiv ((n * 86400000 + t : Nat) : Int) 86400000 = (((n * 86400000 + t) / 86400000 : Nat) : Int) from td _ 86400000, show Int.tmod ((n * 86400000 + t : Nat) : Int) 86400000 = (((n * 86400000 + t) % 86400000 : Nat) : Int) from tm _ 86400000]
  rw [show (n * 86400000 + t) / 86400000 = n by omega, show (n * 86400000 + t) % 86400000 = t by omega]
  rw [show wrap64 (n : Int) = (n : Int) by unfold wrap64; omega]
theorem date_ev {y m d t : Nat} (h : okd y m d) (ht : t < 86400000) : Ev (fun k => moment_Date.f k (momOf y m d t)) ((y : Int), (m : Int), (d : Int), 0) := by
  have hb := dno_bound h
  unfold moment_Date.f
  refine Ev.bindC (none_f _) ?_
  refine Ev.ifF (by simp [momOf_mom h ht]) ?_
  refine Ev.bindC (split_f h ht) ?_
  have hd := dno_year h
  have hq := yd_mul (dno y m d / 146097)
  have hle : 1 + 400 * (dno y m d / 146097) ≤ y := by
    by_cases hle : 1 + 400 * (dno y m d / 146097) ≤ y
    · exact hle
    · have := yd_lt h.1 (show y < 1 + 400 * (dno y m d / 146097) by omega)
      omega
  have := date_years y m d h (y - (1 + 400 * (dno y m d / 146097))) (1 + 400 * (dno y m d / 146097)) (dno y m d % 146097) (by omega) (by omega) (by omega)
  generalize dno y m d = n at *
  show Ev (fun k => moment_Date.l0 k (Int.tmod (n : Int) 146097) (wrap64 (1 + wrap64 (wrap64 (Int.tdiv (n : Int) 146097) * 400)))) _
  rw [show Int.tmod (n : Int) 146097 = ((n % 146097 : Nat) : Int) from tm n 146097, show Int.tdiv (n : Int) 146097 = ((n / 146097 : Nat) : Int) from td n 146097]
  rw [show wrap64 (1 + wrap64 (wrap64 ((n / 146097 : Nat) : Int) * 400)) = ((1 + 400 * (n / 146097) : Nat) : Int) by unfold wrap64; omega]
  exact this
theorem date_no {x : Int} (h : ¬ mom x) : Ev (fun k => moment_Date.f k x) (0, 0, 0, 21) := by
  unfold moment_Date.f
  refine Ev.bindC (none_f _) ?_
  exact Ev.ifT (by simp [h]) (Ev.now _)
end Go.Proofs.YtcikjghmelbkaaaDoor.Esc
