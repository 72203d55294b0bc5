/- The printed functions of layer 6 that divide, fourth part: quotient and rest. -/
import Derived.Test.YtcofpbndaljppaaDoorDiv
import Derived.Test.YtcofpbndaljppaaDoorHp2
import Derived.Test.YtcofpbndaljppaaDoorHp3
namespace Go.Proofs.YtcofpbndaljppaaDoor.Num
open Go.RowKit Go.Proofs.YtcofpbndaljppaaDoor.Hp Go.Proofs.YtcofpbndaljppaaDoorW.PrintWords Go.Proofs.YtcofpbndaljppaaDoorW.PrintLast Go.Proofs.YtcofpbndaljppaaDoorW.PrintMore

/-! ### divided by a power of two -/
theorem emod_succ (M p : Int) (hp : 0 < p) : M % (p * 4294967296) = M % p + p * (M / p % 4294967296) := by
  have e : M = p * 4294967296 * (M / p / 4294967296) + (M % p + p * (M / p % 4294967296)) := by
    have h1 := Int.mul_ediv_add_emod M p
    have h2 := Int.mul_ediv_add_emod (M / p) 4294967296
    generalize M / p / 4294967296 = a at *
    generalize M / p % 4294967296 = b at *
    generalize M % p = c at *
    generalize M / p = d at *
    rw [← h1, ← h2]
    grind
  have h0 : 0 ≤ M % p := Int.emod_nonneg _ (by omega)
  have h1 : M % p < p := Int.emod_lt_of_pos _ hp
  have h2 : 0 ≤ M / p % 4294967296 := by omega
  have h3 : M / p % 4294967296 ≤ 4294967295 := by omega
  have h4 := Int.mul_nonneg (Int.le_of_lt hp) h2
  have h5 := Int.mul_le_mul_of_nonneg_left h3 (Int.le_of_lt hp)
  conv => lhs; rw [e]
  rw [Int.add_comm, Int.add_mul_emod_self_left]
  exact Int.emod_eq_of_lt (by omega) (by omega)
theorem shr_digit {w : List Int} (hw : Dg 4294967296 w) {s : Nat} (hs : s < 32) {i : Nat} (hi : i + 1 < w.length) :
    (rd w ((i + 1 : Nat) : Int) * 4294967296 + rd w (i : Int)) / 2 ^ s % 4294967296 = val 4294967296 w / 2 ^ s / 4294967296 ^ i % 4294967296 := by
  have hp0 : (0 : Int) < 2 ^ s := pow_pos' (by decide) s
  have hB : (4294967296 : Int) = 2 ^ s * 2 ^ (32 - s) := by rw [← Int.pow_add, show s + (32 - s) = 32 by omega]; rfl
  have hP : (0 : Int) < 4294967296 ^ i := pow_pos' (by decide) i
  have e1 : val 4294967296 w / 4294967296 ^ i = val 4294967296 (w.drop i) := by
    rw [val_split 4294967296 w i (by omega), Int.add_mul_ediv_left _ _ (by omega)]
    have h2 := val_lt (by decide) (hw.take i)
    rw [List.length_take, Nat.min_eq_left (by omega)] at h2
    rw [Int.ediv_eq_zero_of_lt (val_nonneg (by decide) (hw.take i)) h2]; simp
  rw [Int.ediv_ediv_of_nonneg (Int.le_of_lt hp0), Int.mul_comm (2 ^ s), ← Int.ediv_ediv_of_nonneg (Int.le_of_lt hP), e1, drop_rd _ (by omega), drop_rd _ hi]
  generalize rd w (i : Int) = a
  generalize rd w ((i + 1 : Nat) : Int) = b
  generalize val 4294967296 (w.drop (i + 1 + 1)) = c
  have e2 : a + 4294967296 * (b + 4294967296 * c) = (b * 4294967296 + a) + 2 ^ s * (4294967296 * (2 ^ (32 - s) * c)) := by
    have : 2 ^ s * (4294967296 * (2 ^ (32 - s) * c)) = (2 ^ s * 2 ^ (32 - s)) * (4294967296 * c) := by grind
    rw [this, ← hB]
    omega
  rw [e2, Int.add_mul_ediv_left _ _ (by omega), Int.add_mul_emod_self_left]
theorem shr_loop (w q : List Int) (hw : Dg 4294967296 w) (hq : Dg 4294967296 q) (s : Nat) (hs : s < 32) (n : Nat) (hn : n < w.length) (hL : w.length < 1099511627776) (hLq : q.length < 1099511627776) (Q R : Nat) (hQ : Is (val 4294967296 q) Q) (hR : Is (val 4294967296 w / 2 ^ s % 4294967296 ^ n) R) :
    ∀ (d i : Nat) (x : List Int), i + d = n → x.length = n → Dg 4294967296 x → Is (val 4294967296 x) (val 4294967296 w / 2 ^ s % 4294967296 ^ i) →
    Ev (fun k => nat_div.l2 k s w q x n i) (D Q, D R) := by
  intro d
  induction d with
  | zero =>
    intro i x hi hl hx hv
    obtain rfl : i = n := by omega
    refine Ev.step (fun k => by rw [nat_div.l2]) (Ev.ifF (by omega) ?_)
    have T1 := trim_ev q.length q rfl hLq
    rw [trimz_D hq hQ.h] at T1
    have T2 := trim_ev x.length x rfl (by omega)
    rw [trimz_D hx (hv.h.trans hR.h)] at T2
    exact Ev.bind T1 (Ev.bind T2 (Ev.now _))
  | succ d ih =>
    intro i x hi hl hx hv
    have f0 : (i : Int) < (n : Int) := by omega
    have f1 : ((i + 1 : Nat) : Int) < w.length := by omega
    have f2 : (i : Int) < w.length := by omega
    have f3 : (i : Int) < x.length := by omega
    have f4 : i < x.length := by omega
    have hw0 := rdD (by decide) hw (i : Int)
    have hw1 := rdD (by decide) hw ((i + 1 : Nat) : Int)
    have hp0 : (0 : Int) < 2 ^ s := pow_pos' (by decide) s
    have w1 : Is (wrap64 ((i : Int) + 1)) ((i + 1 : Nat) : Int) := ⟨i1 (by omega)⟩
    have w2 : Is (IntKind.u64.wrap (rd w ((i + 1 : Nat) : Int))) (rd w ((i + 1 : Nat) : Int)) := ⟨u64w hw1.1 (by omega)⟩
    have es : Is (shr .u64 (rd w ((i + 1 : Nat) : Int) * 4294967296 + rd w (i : Int)) (s : Int)) ((rd w ((i + 1 : Nat) : Int) * 4294967296 + rd w (i : Int)) / 2 ^ s) := ⟨by
      unfold shr
      rw [show min ((s : Int)).toNat IntKind.u64.bits = s from Nat.min_eq_left (by show s ≤ 64; omega)]⟩
    have fl : 0 ≤ val 4294967296 w / 2 ^ s / 4294967296 ^ i % 4294967296 ∧ val 4294967296 w / 2 ^ s / 4294967296 ^ i % 4294967296 < 4294967296 := ⟨Int.emod_nonneg _ (by decide), Int.emod_lt_of_pos _ (by decide)⟩
    have hz : rd x (i : Int) = 0 := by
      rw [rd_nat]
      refine zero_of_lt (b := 4294967296) (j := i) (by decide) hx ?_ _ (Nat.le_refl _)
      rw [hv.h]
      exact Int.emod_lt_of_pos _ (pow_pos' (by decide) _)
    refine Ev.step (fun k => by rw [nat_div.l2]) (Ev.ifT f0 ?_)
    rw [w1.h, w2.h, or64 hw1 hw0, es.h, shr_digit hw hs (by omega)]
    refine Ev.ifT (Int.natCast_nonneg _) (Ev.ifT f1 (Ev.ifT (Int.natCast_nonneg _) (Ev.ifT f2 (Ev.ifT (Int.natCast_nonneg _) (Ev.ifT f3 ?_)))))
    refine ih (i + 1) _ (by omega) (by rw [List.length_set]; exact hl) (hx.set _ fl.1 fl.2) ⟨?_⟩
    rw [show ((i : Int)).toNat = i from rfl, val_set_rd _ _ _ _ f4, hz, hv.h, Int.pow_succ, emod_succ _ _ (pow_pos' (by decide) i), Int.sub_zero]

/-! ### quotient and rest -/
/-- A fact that omega leaves alone. -/
structure Is0 (p : Prop) : Prop where
  h : p
theorem drop_zero_lt {l : List Int} (hd : Dg 4294967296 l) {m : Nat} (hm : m ≤ l.length) (hz : val 4294967296 (l.drop m) = 0) : val 4294967296 l < 4294967296 ^ m := by
  have := (top_split (by decide) hd hm).2
  rw [hz] at this
  simpa using this
theorem div_loop (y : List Int) (hy : Dg 4294967296 y) (hn1 : 1 ≤ y.length) (hy0 : 1 ≤ rd y ((y.length - 1 : Nat) : Int)) (s : Nat) (hs : s < 32) (L Lq : Nat) (hLq : Lq + y.length ≤ L) (hL : L < 1099511627776) (hyL : y.length < L) (N V : Nat) (hV : Is (val 4294967296 y) V) :
    ∀ (J : Nat) (w q : List Int), J ≤ Lq → w.length = L → q.length = Lq → Dg 4294967296 w → Dg 4294967296 q → (∀ i, i < J → q.getD i 0 = 0) → Is (val 4294967296 w + val 4294967296 q * V) N → Is0 (val 4294967296 w < 4294967296 ^ J * V) →
    Ev (fun k => nat_div.l0 k s w y q ((J : Int) - 1)) (D (N / V), D (N % V / 2 ^ s)) := by
  have hVp : 0 < (V : Int) := by
    rw [← hV.h]
    have := (top_split (m := y.length - 1) (by decide) hy (by omega)).1
    have h2 : val 4294967296 (y.drop (y.length - 1)) = rd y ((y.length - 1 : Nat) : Int) := by
      rw [drop_rd _ (by omega), List.drop_of_length_le (by omega)]; simp [val]
    rw [h2] at this
    have h3 := Int.mul_pos (by omega : 0 < rd y ((y.length - 1 : Nat) : Int)) (pow_pos' (b := 4294967296) (by decide) (y.length - 1))
    exact Int.lt_of_lt_of_le h3 this
  have hVlt : (V : Int) < 4294967296 ^ y.length := by rw [← hV.h]; exact val_lt (by decide) hy
  intro J
  induction J with
  | zero =>
    intro w q _ hl hlq hw hq _ hN hlt
    have hlt : val 4294967296 w < V := by have := hlt.h; simpa using this
    have hw0 := val_nonneg (by decide) hw
    have hq0 := val_nonneg (by decide) hq
    obtain ⟨wn, hwn⟩ : ∃ n : Nat, val 4294967296 w = n := ⟨(val 4294967296 w).toNat, by omega⟩
    obtain ⟨qn, hqn⟩ : ∃ n : Nat, val 4294967296 q = n := ⟨(val 4294967296 q).toNat, by omega⟩
    have hN' : N = wn + V * qn := by
      have := hN.h
      rw [hwn, hqn] at this
      have e : ((wn + V * qn : Nat) : Int) = N := by push_cast; rw [← this, Int.mul_comm]
      exact_mod_cast e.symm
    have hwV : wn < V := by omega
    have eQ : N / V = qn := by rw [hN', Nat.add_mul_div_left _ _ (by omega), Nat.div_eq_of_lt hwV]; omega
    have eR : N % V = wn := by rw [hN', Nat.add_mul_mod_self_left, Nat.mod_eq_of_lt hwV]
    rw [eQ, eR]
    refine Ev.step (fun k => by rw [nat_div.l0]) (Ev.ifF (by omega) (Ev.ifT (Int.natCast_nonneg _) (Ev.ifT (by omega) (Ev.bind (Ev.now _) ?_))))
    rw [List.length_replicate]
    have hRlt : wn / 2 ^ s ≤ wn := Nat.div_le_self _ _
    have hb : (((wn / 2 ^ s : Nat) : Int)) < 4294967296 ^ y.length := by
      have : ((wn / 2 ^ s : Nat) : Int) ≤ (wn : Int) := by exact_mod_cast hRlt
      omega
    have hR : val 4294967296 w / 2 ^ s % 4294967296 ^ y.length = ((wn / 2 ^ s : Nat) : Int) := by
      have : val 4294967296 w / 2 ^ s = ((wn / 2 ^ s : Nat) : Int) := by rw [hwn]; push_cast; rfl
      rw [this]
      exact Int.emod_eq_of_lt (Int.natCast_nonneg _) hb
    exact shr_loop w q hw hq s hs y.length (by omega) (by omega) (by omega) qn (wn / 2 ^ s) ⟨hqn⟩ ⟨hR⟩ y.length 0 _ (by omega) (List.length_replicate ..) (Dg.zeros (by decide) _) ⟨by rw [val_zeros]; simp [Int.emod_one]⟩
  | succ J ih =>
    intro w q hJ hl hlq hw hq hz hN hlt
    have hlt : val 4294967296 w < 4294967296 ^ (J + 1) * V := hlt.h
    have hp : (0 : Int) < 4294967296 ^ J := pow_pos' (by decide) J
    have hsp := val_split 4294967296 w J (by omega)
    have lo0 := val_nonneg (by decide) (hw.take J)
    have lo1 := val_lt (by decide) (hw.take J)
    rw [List.length_take, Nat.min_eq_left (by omega)] at lo1
    have hWV : val 4294967296 (w.drop J) < 4294967296 * val 4294967296 y := by
      rw [hV.h]
      refine Int.lt_of_mul_lt_mul_left (a := 4294967296 ^ J) ?_ (Int.le_of_lt hp)
      rw [Int.pow_succ, Int.mul_assoc] at hlt
      exact Int.lt_of_le_of_lt (by rw [hsp]; exact Int.le_add_of_nonneg_left lo0) hlt
    obtain ⟨a, hg, ha0, ha1, ha2, ha3⟩ := guess_ev w y J hw hy hn1 (by omega) (by omega) hy0 hWV
    obtain ⟨S, hS⟩ : ∃ S, w.drop (J + y.length + 1) = S := ⟨_, rfl⟩
    have hz4 : (4294967296 : Int) ^ (J + 1) * V < 4294967296 ^ (J + y.length + 1) := by
      rw [show J + y.length + 1 = (J + 1) + y.length by omega, Int.pow_add _ (J + 1)]
      exact Int.mul_lt_mul_of_pos_left hVlt (pow_pos' (by decide) _)
    have hSz : val 4294967296 S = 0 := by
      have h1 := (top_split (m := J + y.length + 1) (by decide) hw (by omega)).1
      rw [hS] at h1
      have h2 : 0 ≤ val 4294967296 S := by rw [← hS]; exact val_nonneg (by decide) (hw.drop _)
      rcases Int.lt_or_le 0 (val 4294967296 S) with h3 | h3
      · have h4 := mle (by omega : 1 ≤ val 4294967296 S) (Int.le_of_lt (pow_pos' (b := 4294967296) (by decide) (J + y.length + 1)))
        rw [Int.one_mul] at h4
        exact absurd (Int.lt_of_le_of_lt (Int.le_trans h4 h1) (Int.lt_trans hlt hz4)) (Int.lt_irrefl _)
      · omega
    obtain ⟨b, u, ht, hb, hul, hu, huS, huv⟩ := take_loop y hy J L (by omega) hL a ha0 ha1 (val 4294967296 w) S y.length 0 w 0 0 (by omega) hl hw (by decide) (by decide) (.inl rfl) hS ⟨by simp [val]⟩
    have hult : val 4294967296 u < 4294967296 ^ (J + y.length + 1) := drop_zero_lt hu (by omega) (by rw [huS, hSz])
    have hu0 := val_nonneg (by decide) hu
    have f0 : ((J + 1 : Nat) : Int) - 1 = (J : Int) := by omega
    have f1 : (J : Int) ≥ 0 := by omega
    have f2 : (J : Int) < q.length := by omega
    have f3 : J < q.length := by omega
    have am : a % 4294967296 = a := by omega
    have w2 : Is (wrap64 ((J : Int) - 1)) ((J : Int) - 1) := ⟨by rw [w64 (by omega) (by omega)]⟩
    have hqJ : rd q (J : Int) = 0 := by rw [rd_nat]; exact hz J (by omega)
    have hzs : ∀ (c : Int) (i : Nat), i < J → (q.set J c).getD i 0 = 0 := by
      intro c i hi
      have := hz i (by omega)
      rw [List.getD_eq_getElem?_getD] at this ⊢
      rw [List.getElem?_set_ne (by omega)]
      exact this
    have huv := huv.h
    rw [hV.h] at huv ha2 ha3
    have hWW : val 4294967296 w = val 4294967296 (w.take J) + 4294967296 ^ J * val 4294967296 (w.drop J) := hsp
    refine Ev.step (fun k => by rw [nat_div.l0]) ?_
    rw [f0]
    refine Ev.ifT f1 (Ev.bind hg (Ev.bind (show Ev (fun k => nat_take.f k w J y a) _ from ht) ?_))
    rcases hb with rfl | rfl
    · refine Ev.ifF (by simp) (Ev.ifT f1 (Ev.ifT f2 ?_))
      rw [w2.h, am]
      refine ih u (q.set J a) (by omega) hul (by rw [List.length_set]; exact hlq) hu (hq.set _ ha0 ha1) (hzs a) ⟨?_⟩ ⟨?_⟩
      · rw [val_set_rd _ _ _ _ f3, hqJ, huv, ← hN.h]
        grind
      · have : val 4294967296 u < 4294967296 ^ J * V := by
          have huv : val 4294967296 u = val 4294967296 w - a * V * 4294967296 ^ J := by rw [huv]; grind
          generalize (4294967296 : Int) ^ J = p at *
          generalize val 4294967296 (w.drop J) = W at *
          generalize val 4294967296 (w.take J) = lo at *
          have k1 : p * (a * V) < p * (W + 1) := by
            have e1 : p * (a * (V : Int)) = a * V * p := Int.mul_comm ..
            have e2 : p * (W + 1) = p * W + p := by rw [Int.mul_add, Int.mul_one]
            omega
          have k2 : W + 1 ≤ a * V + V := by rw [Int.add_mul, Int.one_mul] at ha2; omega
          have k3 := Int.mul_le_mul_of_nonneg_left k2 (Int.le_of_lt hp)
          have e1 : p * (a * (V : Int) + V) = a * V * p + p * V := by grind
          have e2 : p * (W + 1) = p * W + p := by rw [Int.mul_add, Int.mul_one]
          omega
        exact this
    · have hage : 1 ≤ a := by
        rcases Int.lt_or_le 0 a with h | h
        · omega
        · exfalso
          obtain rfl : a = 0 := by omega
          have hw0 := val_nonneg (by decide) hw
          simp only [Int.zero_mul, Int.one_mul, Int.sub_zero] at huv
          omega
      refine Ev.ifT (by simp) ?_
      rw [show IntKind.u64.wrap (a - 1) = a - 1 from u64w (by omega) (by omega)]
      refine back_loop s y q hy J L (by omega) hL f3 (a - 1) (val 4294967296 u) S ?_ y.length 0 u 0 (by omega) hul hu (.inl rfl) huS ⟨by simp [val]⟩
      intro x o hxl hx hxS ho hxv
      have hxlt : val 4294967296 x < 4294967296 ^ (J + y.length + 1) := drop_zero_lt hx (by omega) (by rw [hxS, hSz])
      have hx0 := val_nonneg (by decide) hx
      have hxv := hxv.h
      rw [hV.h] at hxv
      have am1 : (a - 1) % 4294967296 = a - 1 := by clear huv hxv hWW hsp; omega
      rw [am1]
      have k4 : (a - 1) * V * 4294967296 ^ J ≤ val 4294967296 w := by
        have := Int.mul_le_mul_of_nonneg_left ha3 (Int.le_of_lt hp)
        have e1 : 4294967296 ^ J * ((a - 1) * (V : Int)) = (a - 1) * V * 4294967296 ^ J := Int.mul_comm ..
        generalize (a - 1) * (V : Int) * 4294967296 ^ J = z1 at *
        generalize (4294967296 : Int) ^ J * val 4294967296 (w.drop J) = z2 at *
        omega
      have e2 : (a - 1) * (V : Int) * 4294967296 ^ J = a * V * 4294967296 ^ J - V * 4294967296 ^ J := by grind
      have o1 : o = 1 := by
        rcases ho with rfl | rfl
        · exfalso
          generalize (4294967296 : Int) ^ (J + y.length + 1) = z at *
          generalize (a - 1) * (V : Int) * 4294967296 ^ J = z1 at *
          generalize a * (V : Int) * 4294967296 ^ J = z2 at *
          generalize (V : Int) * 4294967296 ^ J = z3 at *
          omega
        · rfl
      subst o1
      have hxw : val 4294967296 x = val 4294967296 w - (a - 1) * V * 4294967296 ^ J := by
        generalize (4294967296 : Int) ^ (J + y.length + 1) = z at *
        generalize (a - 1) * (V : Int) * 4294967296 ^ J = z1 at *
        generalize a * (V : Int) * 4294967296 ^ J = z2 at *
        generalize (V : Int) * 4294967296 ^ J = z3 at *
        omega
      refine ih x (q.set J (a - 1)) (by omega) hxl (by rw [List.length_set]; exact hlq) hx (hq.set _ (by omega) (by omega)) (hzs (a - 1)) ⟨?_⟩ ⟨?_⟩
      · rw [val_set_rd _ _ _ _ f3, hqJ, hxw, ← hN.h]
        grind
      · have : val 4294967296 x < 4294967296 ^ J * V := by
          rw [Int.mul_comm]
          generalize (4294967296 : Int) ^ (J + y.length + 1) = z at *
          generalize (a - 1) * (V : Int) * 4294967296 ^ J = z1 at *
          generalize a * (V : Int) * 4294967296 ^ J = z2 at *
          generalize (V : Int) * 4294967296 ^ J = z3 at *
          omega
        exact this
theorem D_zero : D 0 = [] := rfl
theorem div_ev {x y : Nat} (hy : 0 < y) (hx : (D x).length < 1099511627775) (hyl : (D y).length < 1099511627775) : Ev (fun k => nat_div.f k (D x) (D y)) (D (x / y), D (x % y)) := by
  unfold nat_div.f
  refine Ev.bind (compare_ev (D_Dg x) (D_Dg y) (D_Nz x) (D_Nz y) (by omega)) ?_
  rw [D_val, D_val]
  by_cases hlt : x < y
  · refine Ev.ifT (by unfold sg; rw [if_pos (by omega)]; decide) ?_
    rw [Nat.div_eq_of_lt hlt, Nat.mod_eq_of_lt hlt, D_zero]
    exact Ev.now _
  · refine Ev.ifF (by unfold sg; rw [if_neg (by omega)]; split <;> decide) ?_
    have hne : D y ≠ [] := by
      intro e
      have := D_val y
      rw [e] at this
      simp [val] at this
      omega
    have hn1 : 1 ≤ (D y).length := by
      rcases Nat.lt_or_ge 0 (D y).length with h | h
      · exact h
      · exact absurd (List.eq_nil_of_length_eq_zero (by omega)) hne
    have w1 : Is (wrap64 (((D y).length : Int) - 1)) (((D y).length - 1 : Nat) : Int) := ⟨by rw [w64 (by omega) (by omega)]; omega⟩
    have hmono := D_len_mono (x := y) (y := x) (by omega)
    have w2 : Is (wrap64 (wrap64 (((D x).length : Int) - (D y).length) + 1)) (((D x).length - (D y).length + 1 : Nat) : Int) := ⟨by rw [w64 (x := ((D x).length : Int) - (D y).length) (by omega) (by omega), w64 (by omega) (by omega)]; omega⟩
    have f1 : (((D y).length - 1 : Nat) : Int) < ((D y).length : Int) := by omega
    have f2 : ((((D x).length - (D y).length + 1 : Nat) : Int)).toNat ≤ 70368744177664 := by omega
    have ht := rdD (by decide) (D_Dg y) (((D y).length - 1 : Nat) : Int)
    have ht0 : rd (D y) (((D y).length - 1 : Nat) : Int) ≠ 0 := by
      rw [rd_nat]
      exact (D_Nz y).resolve_left hne
    obtain ⟨s, hs, hs32, hsl⟩ := lz32 (x := rd (D y) (((D y).length - 1 : Nat) : Int)) (by omega) ht.2
    obtain ⟨w, hw, hwl, hwd, hwv⟩ := shift_ev (D x) (D_Dg x) s hs32 hx
    obtain ⟨v, hv, hvl, hvd, hvv⟩ := shift_ev (D y) (D_Dg y) s hs32 hyl
    rw [D_val] at hwv hvv
    have hp0 : (0 : Int) < 2 ^ s := pow_pos' (by decide) s
    have hvn : val 4294967296 v = ((y * 2 ^ s : Nat) : Int) := by rw [hvv.h]; push_cast; rfl
    have hwn : val 4294967296 w = ((x * 2 ^ s : Nat) : Int) := by rw [hwv.h]; push_cast; rfl
    have T := trim_ev v.length v rfl (by omega)
    rw [trimz_D hvd hvn] at T
    have hpn : 0 < y * 2 ^ s := Nat.mul_pos hy (Nat.two_pow_pos s)
    -- the divisor stays as long as it was
    have hlast : val 4294967296 ((D y).drop ((D y).length - 1)) = rd (D y) (((D y).length - 1 : Nat) : Int) := by
      rw [drop_rd _ (by omega), List.drop_of_length_le (by omega)]; simp [val]
    have hyl2 : (D (y * 2 ^ s)).length ≤ (D y).length := by
      refine D_lt ?_
      have h1 := (top_split (m := (D y).length - 1) (by decide) (D_Dg y) (by omega)).2
      rw [hlast, D_val] at h1
      have hB : (4294967296 : Int) = 2 ^ s * 2 ^ (32 - s) := by rw [← Int.pow_add, show s + (32 - s) = 32 by omega]; rfl
      have h2 : rd (D y) (((D y).length - 1 : Nat) : Int) < 2 ^ (32 - s) := by
        refine Int.lt_of_mul_lt_mul_right (a := 2 ^ s) ?_ (Int.le_of_lt hp0)
        rw [Int.mul_comm (2 ^ (32 - s)), ← hB]
        exact hsl
      have h3 : (rd (D y) (((D y).length - 1 : Nat) : Int) + 1) * 2 ^ s ≤ 4294967296 := by
        conv => rhs; rw [hB]
        rw [Int.mul_comm (2 ^ s)]
        exact mle (by omega) (Int.le_of_lt hp0)
      have h4 := mlt h1 hp0
      have h5 := mle h3 (Int.le_of_lt (pow_pos' (b := 4294967296) (by decide) ((D y).length - 1)))
      have h6 : (4294967296 : Int) ^ (D y).length = 4294967296 * 4294967296 ^ ((D y).length - 1) := by
        conv => lhs; rw [show (D y).length = (D y).length - 1 + 1 by omega, Int.pow_succ]
        exact Int.mul_comm ..
      rw [h6]
      refine Int.lt_of_lt_of_le ?_ h5
      rw [← hvn, hvv.h]
      refine Int.lt_of_lt_of_le h4 (Int.le_of_eq ?_)
      grind
    have hvne : D (y * 2 ^ s) ≠ [] := by
      intro e
      have := D_val (y * 2 ^ s)
      rw [e] at this
      simp only [val] at this
      omega
    have hvn1 : 1 ≤ (D (y * 2 ^ s)).length := by
      rcases Nat.lt_or_ge 0 (D (y * 2 ^ s)).length with h | h
      · exact h
      · exact absurd (List.eq_nil_of_length_eq_zero (by omega)) hvne
    have hvt := rdD (by decide) (D_Dg (y * 2 ^ s)) (((D (y * 2 ^ s)).length - 1 : Nat) : Int)
    have hvt0 : rd (D (y * 2 ^ s)) (((D (y * 2 ^ s)).length - 1 : Nat) : Int) ≠ 0 := by
      rw [rd_nat]
      exact (D_Nz (y * 2 ^ s)).resolve_left hvne
    have f3 : wrap64 (((List.replicate ((D x).length - (D y).length + 1) (0 : Int)).length : Int) - 1) = (((D x).length - (D y).length + 1 : Nat) : Int) - 1 := by
      rw [List.length_replicate, w64 (by omega) (by omega)]
    have main := div_loop (D (y * 2 ^ s)) (D_Dg _) hvn1 (by omega) s hs32 w.length ((D x).length - (D y).length + 1) (by omega) (by omega) (by omega) (x * 2 ^ s) (y * 2 ^ s) ⟨D_val _⟩
      ((D x).length - (D y).length + 1) w (List.replicate ((D x).length - (D y).length + 1) 0) (Nat.le_refl _) rfl (List.length_replicate ..) hwd (Dg.zeros (by decide) _)
      (by intro i hi; simp [List.getD_eq_getElem?_getD, hi]) ⟨by rw [val_zeros, hwn]; simp⟩ ⟨by
        rw [hwv.h]
        have h1 := val_lt (by decide) (D_Dg x)
        rw [D_val] at h1
        have h2 := val_ge (by decide) (D_Dg y) (D_Nz y) hne
        rw [D_val] at h2
        have h3 : (4294967296 : Int) ^ (D x).length = 4294967296 ^ ((D x).length - (D y).length + 1) * 4294967296 ^ ((D y).length - 1) := by rw [← Int.pow_add]; congr 1; omega
        have h4 := Int.mul_le_mul_of_nonneg_left h2 (Int.le_of_lt (pow_pos' (b := 4294967296) (by decide) ((D x).length - (D y).length + 1)))
        have h5 := mlt (Int.lt_of_lt_of_le (h3 ▸ h1) h4) hp0
        refine Int.lt_of_lt_of_le h5 (Int.le_of_eq ?_)
        push_cast
        grind⟩
    rw [Nat.mul_div_mul_right _ _ (Nat.two_pow_pos s), Nat.mul_mod_mul_right, Nat.mul_div_cancel _ (Nat.two_pow_pos s)] at main
    rw [w1.h]
    refine Ev.ifT (Int.natCast_nonneg _) (Ev.ifT f1 (Ev.bindC hs (Ev.bind hw (Ev.bind hv (Ev.bind T ?_)))))
    rw [w2.h]
    refine Ev.ifT (Int.natCast_nonneg _) (Ev.ifT f2 (Ev.bind (Ev.now _) ?_))
    rw [show ((((D x).length - (D y).length + 1 : Nat) : Int)).toNat = (D x).length - (D y).length + 1 from rfl, f3]
    exact main
end Go.Proofs.YtcofpbndaljppaaDoor.Num
