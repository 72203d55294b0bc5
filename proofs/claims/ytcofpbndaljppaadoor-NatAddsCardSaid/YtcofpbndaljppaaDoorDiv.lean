/- The printed functions of layer 6 that divide, third part: taking out, adding back, quotient and rest. -/
import Derived.Test.YtcofpbndaljppaaDoorGuess
import Derived.Test.YtcofpbndaljppaaDoorHp2
import Derived.Test.YtcofpbndaljppaaDoorHp3
namespace Go.Proofs.YtcofpbndaljppaaDoor.Num
open Go.RowKit Go.Proofs.YtcofpbndaljppaaDoor.Hp Go.Proofs.YtcofpbndaljppaaDoorW.PrintWords Go.Proofs.YtcofpbndaljppaaDoorW.PrintLast Go.Proofs.YtcofpbndaljppaaDoorW.PrintMore

/-! ### taking out -/
theorem take_id (T q p s t c b u v lo m d : Int) (h1 : lo = c + q * v - 4294967296 * m) :
    (T - q * t * p + (c + b) * (p * s)) + p * s * ((u - lo - b + 4294967296 * d) - u) = T - q * (t + s * v) * p + (m + d) * (p * s * 4294967296) := by
  subst h1; grind
theorem take_loop (v : List Int) (hv : Dg 4294967296 v) (j L : Nat) (hj : j + v.length < L) (hL : L < 1099511627776) (q : Int) (hq0 : 0 ≤ q) (hq1 : q < 4294967296) (T : Int) (S : List Int) :
    ∀ (d i : Nat) (u : List Int) (c b : Int), i + d = v.length → u.length = L → Dg 4294967296 u → 0 ≤ c → c < 4294967296 → (b = 0 ∨ b = 1) → u.drop (j + v.length + 1) = S →
      Is (val 4294967296 u) (T - q * val 4294967296 (v.take i) * 4294967296 ^ j + (c + b) * (4294967296 ^ j * 4294967296 ^ i)) →
    ∃ b' u', Ev (fun k => nat_take.l0 k u j v q c b v.length i) ((b' == 1), u') ∧ (b' = 0 ∨ b' = 1) ∧ u'.length = L ∧ Dg 4294967296 u' ∧ u'.drop (j + v.length + 1) = S ∧
      Is (val 4294967296 u') (T - q * val 4294967296 v * 4294967296 ^ j + b' * 4294967296 ^ (j + v.length + 1)) := by
  intro d
  induction d with
  | zero =>
    intro i u c b hi hl hu hc0 hc1 hb hS he
    obtain rfl : i = v.length := by omega
    have hr := rdD (by decide) hu ((j + v.length : Nat) : Int)
    obtain ⟨r, e, hf, hr1, hd, hre⟩ := sub32 hr (show 0 ≤ c ∧ c < 4294967296 from ⟨hc0, hc1⟩) hb
    have f0 : ¬ ((v.length : Nat) : Int) < (v.length : Int) := by omega
    have f1 : ((j + v.length : Nat) : Int) < u.length := by omega
    have f2 : j + v.length < u.length := by omega
    have ec : c % 4294967296 = c := by omega
    have w1 : Is (wrap64 ((j : Int) + (v.length : Int))) ((j + v.length : Nat) : Int) := ⟨by rw [w64 (by omega) (by omega)]; omega⟩
    refine ⟨e, u.set (j + v.length) r, Ev.step (fun k => by rw [nat_take.l0]) ?_, hd, by rw [List.length_set]; exact hl, hu.set _ hr1.1 hr1.2, ?_, ⟨?_⟩⟩
    · refine Ev.ifF f0 ?_
      rw [w1.h, ec]
      exact Ev.ifT (Int.natCast_nonneg _) (Ev.ifT f1 (Ev.bindC hf (Ev.now _)))
    · rw [List.drop_set_of_lt (by omega)]; exact hS
    · rw [val_set_rd _ _ _ _ f2, he.h, hre, List.take_length, Int.pow_succ, Int.pow_add]
      clear hf he
      grind
  | succ d ih =>
    intro i u c b hi hl hu hc0 hc1 hb hS he
    have hr := rdD (by decide) hu ((i + j : Nat) : Int)
    have hv1 := rdD (by decide) hv (i : Int)
    have p0 : 0 ≤ q * rd v (i : Int) := Int.mul_nonneg hq0 hv1.1
    have p1 : q * rd v (i : Int) ≤ 4294967295 * 4294967295 := Int.mul_le_mul (by omega) (by omega) hv1.1 (by decide)
    have lo : 0 ≤ (c + q * rd v (i : Int)) % 4294967296 ∧ (c + q * rd v (i : Int)) % 4294967296 < 4294967296 := by omega
    have hi' : 0 ≤ (c + q * rd v (i : Int)) / 4294967296 ∧ (c + q * rd v (i : Int)) / 4294967296 < 4294967296 := by omega
    obtain ⟨r, e, hf, hr1, hd, hre⟩ := sub32 hr lo hb
    have f0 : (i : Int) < (v.length : Int) := by omega
    have f1 : ((i + j : Nat) : Int) < u.length := by omega
    have f2 : i + j < u.length := by omega
    have w1 : Is (wrap64 ((i : Int) + (j : Int))) ((i + j : Nat) : Int) := ⟨by rw [w64 (by omega) (by omega)]; omega⟩
    have w2 : Is (IntKind.u64.wrap (rd v (i : Int))) (rd v (i : Int)) := ⟨u64w hv1.1 (by omega)⟩
    have w3 : Is (IntKind.u64.wrap (q * rd v (i : Int))) (q * rd v (i : Int)) := ⟨u64w p0 (by omega)⟩
    have w4 : Is (IntKind.u64.wrap (c + q * rd v (i : Int))) (c + q * rd v (i : Int)) := ⟨u64w (by omega) (by omega)⟩
    have w5 : Is (wrap64 ((i : Int) + 1)) ((i + 1 : Nat) : Int) := ⟨i1 (by omega)⟩
    obtain ⟨b', u', hev, hrest⟩ := ih (i + 1) (u.set (i + j) r) ((c + q * rd v (i : Int)) / 4294967296) e (by omega) (by rw [List.length_set]; exact hl) (hu.set _ hr1.1 hr1.2) hi'.1 hi'.2 hd
      (by rw [List.drop_set_of_lt (by omega)]; exact hS) (by
        refine ⟨?_⟩
        rw [val_set_rd _ _ _ _ f2, he.h, hre, val_take_rd, Int.pow_succ, show i + j = j + i from Nat.add_comm .., Int.pow_add, ← Int.mul_assoc (4294967296 ^ j) (4294967296 ^ i) 4294967296]
        exact take_id _ _ _ _ _ _ _ _ _ _ _ _ (Int.emod_def ..))
    refine ⟨b', u', Ev.step (fun k => by rw [nat_take.l0]) ?_, hrest⟩
    rw [w1.h, w2.h, w3.h, w4.h, w5.h]
    exact Ev.ifT f0 (Ev.ifT (Int.natCast_nonneg _) (Ev.ifT f0 (Ev.ifT (Int.natCast_nonneg _) (Ev.ifT f1 (Ev.bindC hf hev)))))

/-! ### adding back -/
theorem back_loop (m' : Int) (y q : List Int) (hy : Dg 4294967296 y) (j L : Nat) (hj : j + y.length < L) (hL : L < 1099511627776) (hjq : j < q.length) (g : Int) (T : Int) (S : List Int) {r : List Int × List Int}
    (next : ∀ w o, w.length = L → Dg 4294967296 w → w.drop (j + y.length + 1) = S → (o = 0 ∨ o = 1) → Is (val 4294967296 w) (T + val 4294967296 y * 4294967296 ^ j - o * 4294967296 ^ (j + y.length + 1)) →
      Ev (fun k => nat_div.l0 k m' w y (q.set j (g % 4294967296)) ((j : Int) - 1)) r) :
    ∀ (d i : Nat) (w : List Int) (c : Int), i + d = y.length → w.length = L → Dg 4294967296 w → (c = 0 ∨ c = 1) → w.drop (j + y.length + 1) = S →
      Is (val 4294967296 w) (T + val 4294967296 (y.take i) * 4294967296 ^ j - c * (4294967296 ^ j * 4294967296 ^ i)) →
    Ev (fun k => nat_div.l1 k m' w y q j g c y.length i) r := by
  intro d
  induction d with
  | zero =>
    intro i w c hi hl hw hc hS he
    obtain rfl : i = y.length := by omega
    have hr := rdD (by decide) hw ((j + y.length : Nat) : Int)
    have f0 : ¬ ((y.length : Nat) : Int) < (y.length : Int) := by omega
    have f1 : ((j + y.length : Nat) : Int) < w.length := by omega
    have f2 : j + y.length < w.length := by omega
    have f3 : (j : Int) < q.length := by omega
    have fo : (rd w ((j + y.length : Nat) : Int) + c) / 4294967296 = 0 ∨ (rd w ((j + y.length : Nat) : Int) + c) / 4294967296 = 1 := by omega
    have fl : 0 ≤ (rd w ((j + y.length : Nat) : Int) + c) % 4294967296 ∧ (rd w ((j + y.length : Nat) : Int) + c) % 4294967296 < 4294967296 := by omega
    have w1 : Is (wrap64 ((j : Int) + (y.length : Int))) ((j + y.length : Nat) : Int) := ⟨by rw [w64 (by omega) (by omega)]; omega⟩
    have w2 : Is (wrap64 ((j : Int) - 1)) ((j : Int) - 1) := ⟨by rw [w64 (by omega) (by omega)]⟩
    refine Ev.step (fun k => by rw [nat_div.l1]) (Ev.ifF f0 ?_)
    rw [w1.h, w2.h]
    refine Ev.ifT (Int.natCast_nonneg _) (Ev.ifT f1 (Ev.ifT (Int.natCast_nonneg _) (Ev.ifT f3 ?_)))
    refine next _ ((rd w ((j + y.length : Nat) : Int) + c) / 4294967296) (by rw [List.length_set]; exact hl) (hw.set _ fl.1 fl.2) (by rw [show (((j + y.length : Nat) : Int)).toNat = j + y.length from rfl, List.drop_set_of_lt (by omega)]; exact hS) fo ⟨?_⟩
    rw [show (((j + y.length : Nat) : Int)).toNat = j + y.length from rfl, val_set_rd _ _ _ _ f2, he.h, List.take_length, Int.emod_def, Int.pow_succ, Int.pow_add]
    generalize (rd w ((j + y.length : Nat) : Int) + c) / 4294967296 = o at *
    clear next he
    grind
  | succ d ih =>
    intro i w c hi hl hw hc hS he
    have hr := rdD (by decide) hw ((i + j : Nat) : Int)
    have hy1 := rdD (by decide) hy (i : Int)
    have f0 : (i : Int) < (y.length : Int) := by omega
    have f1 : ((i + j : Nat) : Int) < w.length := by omega
    have f2 : i + j < w.length := by omega
    have fo : (rd w ((i + j : Nat) : Int) + rd y (i : Int) + c) / 4294967296 = 0 ∨ (rd w ((i + j : Nat) : Int) + rd y (i : Int) + c) / 4294967296 = 1 := by omega
    have fl : 0 ≤ (rd w ((i + j : Nat) : Int) + rd y (i : Int) + c) % 4294967296 ∧ (rd w ((i + j : Nat) : Int) + rd y (i : Int) + c) % 4294967296 < 4294967296 := by omega
    have w1 : Is (wrap64 ((i : Int) + (j : Int))) ((i + j : Nat) : Int) := ⟨by rw [w64 (by omega) (by omega)]; omega⟩
    have w5 : Is (wrap64 ((i : Int) + 1)) ((i + 1 : Nat) : Int) := ⟨i1 (by omega)⟩
    refine Ev.step (fun k => by rw [nat_div.l1]) (Ev.ifT f0 ?_)
    rw [w1.h, w5.h]
    refine Ev.ifT (Int.natCast_nonneg _) (Ev.ifT f1 (Ev.ifT (Int.natCast_nonneg _) (Ev.ifT f0 (Ev.bindC (add32 hr hy1 hc) ?_))))
    refine ih (i + 1) _ _ (by omega) (by rw [List.length_set]; exact hl) (hw.set _ fl.1 fl.2) fo (by rw [show (((i + j : Nat) : Int)).toNat = i + j from rfl, List.drop_set_of_lt (by omega)]; exact hS) ⟨?_⟩
    rw [show (((i + j : Nat) : Int)).toNat = i + j from rfl, val_set_rd _ _ _ _ f2, he.h, val_take_rd, Int.emod_def, Int.pow_succ, show i + j = j + i from Nat.add_comm .., Int.pow_add]
    generalize (rd w ((j + i : Nat) : Int) + rd y (i : Int) + c) / 4294967296 = o at *
    clear next he ih
    grind
end Go.Proofs.YtcofpbndaljppaaDoor.Num
