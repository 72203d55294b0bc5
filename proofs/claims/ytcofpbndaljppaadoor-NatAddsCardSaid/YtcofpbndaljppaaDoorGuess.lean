/- The printed functions of layer 6 that divide, second part: one place of a quotient, guessed and taken out. -/
import Derived.Test.YtcofpbndaljppaaDoorShift
import Derived.Test.YtcofpbndaljppaaDoorHp2
namespace Go.Proofs.YtcofpbndaljppaaDoor.Num
open Go.RowKit Go.Proofs.YtcofpbndaljppaaDoor.Hp Go.Proofs.YtcofpbndaljppaaDoorW.PrintWords Go.Proofs.YtcofpbndaljppaaDoorW.PrintLast Go.Proofs.YtcofpbndaljppaaDoorW.PrintMore

/-! ### plain: when a guess is too small, and how much too great it may be -/
theorem mle {a b c : Int} (h : a ≤ b) (hc : 0 ≤ c) : a * c ≤ b * c := Int.mul_le_mul_of_nonneg_right h hc
theorem mlt {a b c : Int} (h : a < b) (hc : 0 < c) : a * c < b * c := Int.mul_lt_mul_of_pos_right h hc
/-- v and w are a's and b's first places: before P places that are below. -/
structure Top (V W v t P : Int) : Prop where
  p : 0 < P
  v0 : v * P ≤ V
  v1 : V < (v + 1) * P
  t0 : t * P ≤ W
  t1 : W < (t + 1) * P
theorem Top.less {V W v t P q x : Int} (T : Top V W v t P) (hq : 0 ≤ q) (h : t + 1 ≤ q * v + x) (hx : x ≤ 0) : W < q * V := by
  have h1 := mle h (Int.le_of_lt T.p)
  have h2 := Int.mul_le_mul_of_nonneg_left T.v0 hq
  have h3 : x * P ≤ 0 := Int.mul_nonpos_of_nonpos_of_nonneg hx (Int.le_of_lt T.p)
  have h4 := T.t1
  have e : q * (v * P) = q * v * P := (Int.mul_assoc ..).symm
  rw [Int.add_mul (q * v) x P] at h1
  omega
theorem Top.near {V W v t P q : Int} (T : Top V W v t P) (hq : 0 ≤ q) (hV : 0 ≤ V) (hW : 0 ≤ W) (h : q * v + q - v - 1 ≤ t) : (q - 1) * V ≤ W := by
  rcases Int.lt_or_le 0 q with h0 | h0
  · have h1 := Int.mul_le_mul_of_nonneg_left (Int.le_of_lt T.v1) (by omega : 0 ≤ q - 1)
    have h2 := mle h (Int.le_of_lt T.p)
    have h3 := T.t0
    have e : (q - 1) * ((v + 1) * P) = (q * v + q - v - 1) * P := by grind
    omega
  · obtain rfl : q = 0 := by omega
    omega
theorem Top.small {V W v t P B q r : Int} (T : Top V W v t P) (hB : 0 ≤ B) (h : W < B * V) (e : q * v + r = t) (hv : 0 ≤ v) (hq : B ≤ q) : r < B := by
  have h1 := Int.mul_le_mul_of_nonneg_left (Int.le_of_lt T.v1) hB
  have h2 := T.t0
  have h3 : B * ((v + 1) * P) = (B * v + B) * P := by grind
  have h4 : t < B * v + B := by
    refine Int.lt_of_mul_lt_mul_right (a := P) ?_ (Int.le_of_lt T.p)
    omega
  have h5 := mle hq hv
  omega

/-! ### guessing -/
theorem guess_loop (u v : List Int) (j n : Nat) (hu : Dg 4294967296 u) (hv : Dg 4294967296 v) (hn : v.length = n) (hn1 : 1 ≤ n) (hj : j + n < u.length) (hul : u.length < 1099511627776) (V W t P : Int) (hV : 0 ≤ V) (hW : 0 ≤ W) (hv0 : 1 ≤ rd v ((n - 1 : Nat) : Int))
    (T : Top V W (rd v ((n - 1 : Nat) : Int)) t P) (hWV : W < 4294967296 * V) (h1 : n = 1 → P = 1)
    (T2 : 2 ≤ n → ∃ P2, Top V W (rd v ((n - 1 : Nat) : Int) * 4294967296 + rd v ((n - 2 : Nat) : Int)) (t * 4294967296 + rd u ((j + n - 2 : Nat) : Int)) P2) :
    ∀ (d : Nat) (q r : Int), q.toNat = d → 0 ≤ q → q < 18446744073709551616 → 0 ≤ r → r < 8589934592 → q * rd v ((n - 1 : Nat) : Int) + r = t → W < (q + 1) * V →
    ∃ a, Ev (fun k => nat_guess.l0 k u j v n q r) a ∧ 0 ≤ a ∧ a < 4294967296 ∧ W < (a + 1) * V ∧ (a - 1) * V ≤ W := by
  have hv1 := rdD (by decide) hv ((n - 1 : Nat) : Int)
  have hv2 := rdD (by decide) hv ((n - 2 : Nat) : Int)
  have hu2 := rdD (by decide) hu ((j + n - 2 : Nat) : Int)
  have w1 : Is (wrap64 ((n : Int) - 1)) (((n - 1 : Nat) : Int)) := ⟨by rw [w64 (by omega) (by omega)]; omega⟩
  have f1 : ((n - 1 : Nat) : Int) < v.length := by omega
  intro d
  induction d with
  | zero =>
    intro q r hd hq0 hq1 hr0 hr1 he hlt
    obtain rfl : q = 0 := by omega
    refine ⟨0, Ev.step (fun k => by rw [nat_guess.l0]) ?_, by decide, by decide, hlt, by omega⟩
    by_cases hr : r < 4294967296
    · refine Ev.ifT hr (Ev.ifF (by decide) ?_)
      by_cases hn2 : (n : Int) > 1
      · have w2 : Is (wrap64 ((n : Int) - 2)) (((n - 2 : Nat) : Int)) := ⟨by rw [w64 (by omega) (by omega)]; omega⟩
        have w3 : Is (wrap64 ((j : Int) + (n : Int))) (((j + n : Nat) : Int)) := ⟨by rw [w64 (by omega) (by omega)]; omega⟩
        have w4 : Is (wrap64 (((j + n : Nat) : Int) - 2)) (((j + n - 2 : Nat) : Int)) := ⟨by rw [w64 (by omega) (by omega)]; omega⟩
        have f2 : ((n - 2 : Nat) : Int) < v.length := by omega
        have f3 : ((j + n - 2 : Nat) : Int) < u.length := by omega
        rw [w2.h, w3.h, w4.h, or64 ⟨hr0, hr⟩ hu2, Int.zero_mul, u64w (x := 0) (by decide) (by decide)]
        refine Ev.ifT hn2 (Ev.ifT (Int.natCast_nonneg _) (Ev.ifT f2 (Ev.ifT (Int.natCast_nonneg _) (Ev.ifT f3 (Ev.ifF ?_ (Ev.now _))))))
        clear he hlt
        omega
      · exact Ev.ifF hn2 (Ev.now _)
    · exact Ev.ifF hr (Ev.now _)
  | succ d ih =>
    intro q r hd hq0 hq1 hr0 hr1 he hlt
    by_cases hr : r < 4294967296
    · have e1 : Is (IntKind.u64.wrap (q - 1)) (q - 1) := ⟨u64w (by omega) (by omega)⟩
      have e2 : Is (IntKind.u64.wrap (r + IntKind.u64.wrap (rd v ((n - 1 : Nat) : Int)))) (r + rd v ((n - 1 : Nat) : Int)) := ⟨by
        rw [u64w (x := rd v ((n - 1 : Nat) : Int)) (by omega) (by omega), u64w (by omega) (by omega)]⟩
      have he' : (q - 1) * rd v ((n - 1 : Nat) : Int) + (r + rd v ((n - 1 : Nat) : Int)) = t := by rw [← he]; grind
      by_cases hqB : q ≥ 4294967296
      · obtain ⟨a, ha, hrest⟩ := ih (q - 1) (r + rd v ((n - 1 : Nat) : Int)) (by omega) (by omega) (by omega) (by omega) (by omega) he' (by
          have := mle hqB hV
          rw [show q - 1 + 1 = q by omega]
          omega)
        refine ⟨a, Ev.step (fun k => by rw [nat_guess.l0]) ?_, hrest⟩
        rw [w1.h, e1.h, e2.h]
        exact Ev.ifT hr (Ev.ifT hqB (Ev.ifT (Int.natCast_nonneg _) (Ev.ifT f1 ha)))
      · by_cases hn2 : (n : Int) > 1
        · have w2 : Is (wrap64 ((n : Int) - 2)) (((n - 2 : Nat) : Int)) := ⟨by rw [w64 (by omega) (by omega)]; omega⟩
          have w3 : Is (wrap64 ((j : Int) + (n : Int))) (((j + n : Nat) : Int)) := ⟨by rw [w64 (by omega) (by omega)]; omega⟩
          have w4 : Is (wrap64 (((j + n : Nat) : Int) - 2)) (((j + n - 2 : Nat) : Int)) := ⟨by rw [w64 (by omega) (by omega)]; omega⟩
          have f2 : ((n - 2 : Nat) : Int) < v.length := by omega
          have f3 : ((j + n - 2 : Nat) : Int) < u.length := by omega
          have p0 : 0 ≤ q * rd v ((n - 2 : Nat) : Int) := Int.mul_nonneg hq0 hv2.1
          have p1 : q * rd v ((n - 2 : Nat) : Int) ≤ 4294967295 * 4294967295 := Int.mul_le_mul (by omega) (by omega) hv2.1 (by decide)
          have e3 : Is (IntKind.u64.wrap (q * IntKind.u64.wrap (rd v ((n - 2 : Nat) : Int)))) (q * rd v ((n - 2 : Nat) : Int)) := ⟨by
            rw [u64w (x := rd v ((n - 2 : Nat) : Int)) hv2.1 (by omega), u64w p0 (by omega)]⟩
          obtain ⟨P2, T2⟩ := T2 (by omega)
          have ex : q * (rd v ((n - 1 : Nat) : Int) * 4294967296 + rd v ((n - 2 : Nat) : Int)) = (t - r) * 4294967296 + q * rd v ((n - 2 : Nat) : Int) := by rw [← he]; grind
          by_cases hc : q * rd v ((n - 2 : Nat) : Int) > r * 4294967296 + rd u ((j + n - 2 : Nat) : Int)
          · obtain ⟨a, ha, hrest⟩ := ih (q - 1) (r + rd v ((n - 1 : Nat) : Int)) (by omega) (by omega) (by omega) (by omega) (by omega) he' (by
              rw [show q - 1 + 1 = q by omega]
              refine T2.less (x := 0) hq0 ?_ (Int.le_refl _)
              rw [ex]
              omega)
            refine ⟨a, Ev.step (fun k => by rw [nat_guess.l0]) ?_, hrest⟩
            rw [w1.h, e1.h, e2.h, w2.h, w3.h, w4.h, e3.h, or64 ⟨hr0, hr⟩ hu2]
            exact Ev.ifT hr (Ev.ifF hqB (Ev.ifT hn2 (Ev.ifT (Int.natCast_nonneg _) (Ev.ifT f2 (Ev.ifT (Int.natCast_nonneg _) (Ev.ifT f3 (Ev.ifT hc (Ev.ifT (Int.natCast_nonneg _) (Ev.ifT f1 ha)))))))))
          · refine ⟨q, Ev.step (fun k => by rw [nat_guess.l0]) ?_, hq0, by omega, hlt, T2.near hq0 hV hW ?_⟩
            · rw [w2.h, w3.h, w4.h, e3.h, or64 ⟨hr0, hr⟩ hu2]
              exact Ev.ifT hr (Ev.ifF hqB (Ev.ifT hn2 (Ev.ifT (Int.natCast_nonneg _) (Ev.ifT f2 (Ev.ifT (Int.natCast_nonneg _) (Ev.ifT f3 (Ev.ifF hc (Ev.now _))))))))
            · rw [ex]
              omega
        · refine ⟨q, Ev.step (fun k => by rw [nat_guess.l0]) (Ev.ifT hr (Ev.ifF hqB (Ev.ifF hn2 (Ev.now _)))), hq0, by omega, hlt, ?_⟩
          obtain rfl := h1 (by omega)
          have h5 := T.v1
          have h6 := T.t0
          have h7 := Int.mul_le_mul_of_nonneg_left (by omega : V ≤ rd v ((n - 1 : Nat) : Int)) hq0
          rw [Int.sub_mul]
          omega
    · refine ⟨q, Ev.step (fun k => by rw [nat_guess.l0]) (Ev.ifF hr (Ev.now _)), hq0, ?_, hlt, T.near hq0 hV hW ?_⟩
      · rcases Int.lt_or_le q 4294967296 with h | h
        · exact h
        · exact absurd (T.small (by decide) hWV he hv1.1 h) hr
      · have : q < 4294967296 := by
          rcases Int.lt_or_le q 4294967296 with h | h
          · exact h
          · exact absurd (T.small (by decide) hWV he hv1.1 h) hr
        omega
theorem drop_rd (b : Int) {l : List Int} {m : Nat} (h : m < l.length) : val b (l.drop m) = rd l (m : Int) + b * val b (l.drop (m + 1)) := by
  rw [List.drop_eq_getElem_cons h, val, rd_nat]; simp [h]
theorem top_split {b : Int} (hb : 0 < b) {l : List Int} (hd : Dg b l) {m : Nat} (h : m ≤ l.length) : val b (l.drop m) * b ^ m ≤ val b l ∧ val b l < (val b (l.drop m) + 1) * b ^ m := by
  have e := val_split b l m h
  have h1 := val_nonneg hb (hd.take m)
  have h2 := val_lt hb (hd.take m)
  rw [List.length_take, Nat.min_eq_left h] at h2
  rw [Int.add_mul, Int.mul_comm (val b (l.drop m)), Int.one_mul]
  omega
theorem guess_ev (u v : List Int) (j : Nat) (hu : Dg 4294967296 u) (hv : Dg 4294967296 v) (hn1 : 1 ≤ v.length) (hj : j + v.length < u.length) (hul : u.length < 1099511627776)
    (hv0 : 1 ≤ rd v ((v.length - 1 : Nat) : Int)) (hWV : val 4294967296 (u.drop j) < 4294967296 * val 4294967296 v) :
    ∃ a, Ev (fun k => nat_guess.f k u j v) a ∧ 0 ≤ a ∧ a < 4294967296 ∧ val 4294967296 (u.drop j) < (a + 1) * val 4294967296 v ∧ (a - 1) * val 4294967296 v ≤ val 4294967296 (u.drop j) := by
  obtain ⟨n, hn⟩ : ∃ n, v.length = n := ⟨_, rfl⟩
  have hlast : val 4294967296 (u.drop (j + n + 1)) = 0 := by
    have h1 := val_lt (by decide) hv
    have h2 := (top_split (m := n + 1) (by decide) (hu.drop j) (by rw [List.length_drop]; omega)).1
    rw [List.drop_drop, show j + (n + 1) = j + n + 1 by omega, Int.pow_succ] at h2
    rw [hn] at h1
    have h3 := val_nonneg (by decide) (hu.drop (j + n + 1))
    have h4 := pow_pos' (b := 4294967296) (by decide) n
    generalize (4294967296 : Int) ^ n = p at *
    rcases Int.lt_or_le 0 (val 4294967296 (u.drop (j + n + 1))) with h5 | h5
    · have h6 := mle (by omega : 1 ≤ val 4294967296 (u.drop (j + n + 1))) (by omega : 0 ≤ p * 4294967296)
      omega
    · omega
  have hvl : val 4294967296 (v.drop n) = 0 := by rw [List.drop_of_length_le (by omega)]; rfl
  have v1 : val 4294967296 (v.drop (n - 1)) = rd v ((n - 1 : Nat) : Int) := by
    rw [drop_rd _ (by omega), show n - 1 + 1 = n by omega, hvl]; simp
  have t1 : val 4294967296 ((u.drop j).drop (n - 1)) = rd u ((j + n : Nat) : Int) * 4294967296 + rd u ((j + n - 1 : Nat) : Int) := by
    rw [List.drop_drop, show j + (n - 1) = j + n - 1 by omega, drop_rd _ (by omega), show j + n - 1 + 1 = j + n by omega, drop_rd _ (by omega), hlast]; grind
  have V0 := val_nonneg (by decide) hv
  have W0 := val_nonneg (by decide) (hu.drop j)
  have sv := top_split (m := n - 1) (by decide) hv (by omega)
  have su := top_split (m := n - 1) (by decide) (hu.drop j) (by rw [List.length_drop]; omega)
  rw [v1] at sv
  rw [t1] at su
  have hv1 := rdD (by decide) hv ((n - 1 : Nat) : Int)
  have hu0 := rdD (by decide) hu ((j + n : Nat) : Int)
  have hu1 := rdD (by decide) hu ((j + n - 1 : Nat) : Int)
  rw [hn] at hv0
  obtain ⟨t, ht⟩ : ∃ t, rd u ((j + n : Nat) : Int) * 4294967296 + rd u ((j + n - 1 : Nat) : Int) = t := ⟨_, rfl⟩
  rw [ht] at su
  have T : Top (val 4294967296 v) (val 4294967296 (u.drop j)) (rd v ((n - 1 : Nat) : Int)) t (4294967296 ^ (n - 1)) := ⟨pow_pos' (by decide) _, sv.1, sv.2, su.1, su.2⟩
  have T2 : 2 ≤ n → ∃ P2, Top (val 4294967296 v) (val 4294967296 (u.drop j)) (rd v ((n - 1 : Nat) : Int) * 4294967296 + rd v ((n - 2 : Nat) : Int)) (t * 4294967296 + rd u ((j + n - 2 : Nat) : Int)) P2 := by
    intro h2
    have sv2 := top_split (m := n - 2) (by decide) hv (by omega)
    have su2 := top_split (m := n - 2) (by decide) (hu.drop j) (by rw [List.length_drop]; omega)
    have v2 : val 4294967296 (v.drop (n - 2)) = rd v ((n - 1 : Nat) : Int) * 4294967296 + rd v ((n - 2 : Nat) : Int) := by
      rw [drop_rd _ (by omega), show n - 2 + 1 = n - 1 by omega, v1]; grind
    have t2 : val 4294967296 ((u.drop j).drop (n - 2)) = t * 4294967296 + rd u ((j + n - 2 : Nat) : Int) := by
      rw [List.drop_drop] at t1 ⊢
      rw [show j + (n - 2) = j + n - 2 by omega, drop_rd _ (by omega), show j + n - 2 + 1 = j + (n - 1) by omega, t1, ht]; grind
    rw [v2] at sv2
    rw [t2] at su2
    exact ⟨4294967296 ^ (n - 2), pow_pos' (by decide) _, sv2.1, sv2.2, su2.1, su2.2⟩
  have ht0 : 0 ≤ t := by omega
  have ht1 : t < 18446744073709551616 := by omega
  have q0 : 0 ≤ t / rd v ((n - 1 : Nat) : Int) := Int.ediv_nonneg ht0 hv1.1
  have q1 : t / rd v ((n - 1 : Nat) : Int) ≤ t := Int.ediv_le_self _ ht0
  have r0 : 0 ≤ t % rd v ((n - 1 : Nat) : Int) := Int.emod_nonneg _ (by omega)
  have r1 : t % rd v ((n - 1 : Nat) : Int) < rd v ((n - 1 : Nat) : Int) := Int.emod_lt_of_pos _ (by omega)
  have hqr : t / rd v ((n - 1 : Nat) : Int) * rd v ((n - 1 : Nat) : Int) + t % rd v ((n - 1 : Nat) : Int) = t := by rw [Int.mul_comm]; exact Int.mul_ediv_add_emod ..
  obtain ⟨a, ha, hrest⟩ := guess_loop u v j n hu hv hn (by omega) (by omega) hul (val 4294967296 v) (val 4294967296 (u.drop j)) t _ V0 W0 hv0 T hWV (by intro h; rw [h]; rfl) T2
    (t / rd v ((n - 1 : Nat) : Int)).toNat (t / rd v ((n - 1 : Nat) : Int)) (t % rd v ((n - 1 : Nat) : Int)) rfl q0 (by omega) r0 (by omega) hqr (by
      refine T.less (x := 0) (by omega) ?_ (Int.le_refl _)
      rw [Int.add_mul, Int.one_mul]
      omega)
  refine ⟨a, ?_, hrest⟩
  have f1 : ((j + n : Nat) : Int) < u.length := by omega
  have f2 : ((j + n - 1 : Nat) : Int) < u.length := by omega
  have f3 : ((n - 1 : Nat) : Int) < (n : Int) := by omega
  have f4 : ¬ rd v ((n - 1 : Nat) : Int) = 0 := by omega
  have w1 : Is (wrap64 ((n : Int) - 1)) ((n - 1 : Nat) : Int) := ⟨by rw [w64 (by omega) (by omega)]; omega⟩
  have w2 : Is (wrap64 ((j : Int) + (n : Int))) ((j + n : Nat) : Int) := ⟨by rw [w64 (by omega) (by omega)]; omega⟩
  have w3 : Is (wrap64 (((j + n : Nat) : Int) - 1)) ((j + n - 1 : Nat) : Int) := ⟨by rw [w64 (by omega) (by omega)]; omega⟩
  have w4 : Is (IntKind.u64.wrap (rd v ((n - 1 : Nat) : Int))) (rd v ((n - 1 : Nat) : Int)) := ⟨u64w hv1.1 (by omega)⟩
  have w5 : Is (IntKind.u64.wrap (t / rd v ((n - 1 : Nat) : Int))) (t / rd v ((n - 1 : Nat) : Int)) := ⟨u64w q0 (by omega)⟩
  have w6 : Is (IntKind.u64.wrap (rd u ((j + n : Nat) : Int))) (rd u ((j + n : Nat) : Int)) := ⟨u64w hu0.1 (by omega)⟩
  unfold nat_guess.f
  rw [hn, w1.h, w2.h, w3.h, w4.h, w6.h, or64 hu0 hu1, ht, Int.tdiv_eq_ediv_of_nonneg ht0, Int.tmod_eq_emod_of_nonneg ht0, w5.h]
  exact Ev.ifT (Int.natCast_nonneg _) (Ev.ifT f1 (Ev.ifT (Int.natCast_nonneg _) (Ev.ifT f2 (Ev.ifT (Int.natCast_nonneg _) (Ev.ifT f3 (Ev.ifF f4 ha))))))
end Go.Proofs.YtcofpbndaljppaaDoor.Num
