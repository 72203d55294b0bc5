/- The printed functions of layer 6 that add, take away and multiply: what they answer, as digits of numbers. -/
import Derived.Test.YtcofpbndaljppaaDoorConv
import Derived.Test.YtcofpbndaljppaaDoorHp2
import Derived.Test.YtcofpbndaljppaaDoorHp5
import Derived.Test.YtcofpbndaljppaaDoorHp6
namespace Go.Proofs.YtcofpbndaljppaaDoor.Num
open Go.RowKit Go.Proofs.YtcofpbndaljppaaDoor.Hp Go.Proofs.YtcofpbndaljppaaDoorW.PrintWords Go.Proofs.YtcofpbndaljppaaDoorW.PrintLast Go.Proofs.YtcofpbndaljppaaDoorW.PrintMore

theorem rd_out {l : List Int} {i : Nat} (h : l.length ≤ i) : rd l (i : Int) = 0 := by rw [rd_nat]; simp [h]
theorem val_take_rd (b : Int) (l : List Int) (i : Nat) : val b (l.take (i + 1)) = val b (l.take i) + b ^ i * rd l (i : Int) := by
  rcases Nat.lt_or_ge i l.length with h | h
  · rw [rd_nat]; exact val_take_succ b l i h
  · rw [rd_out h, List.take_of_length_le h, List.take_of_length_le (by omega)]; simp
theorem val_set_rd (b : Int) (l : List Int) (i : Nat) (v : Int) (h : i < l.length) : val b (l.set i v) = val b l + b ^ i * (v - rd l (i : Int)) := by
  rw [rd_nat]; exact val_set b l i v h
theorem i1 {i : Nat} (h : i < 1099511627776) : wrap64 ((i : Int) + 1) = ((i + 1 : Nat) : Int) := by rw [w64 (by omega) (by omega)]; omega
theorem rdD {b : Int} (hb : 0 < b) {l : List Int} (h : Dg b l) (i : Int) : 0 ≤ rd l i ∧ rd l i < b := h.rd hb i

/-! ### two words of 32 bits -/
theorem wraps_u32 (n : Int) (h0 : 0 ≤ n) (h1 : n < 2 ^ 32) : IntKind.u32.wrap n = n := by rw [IntKind.wrap_u32]; omega
theorem nat_and {a b : Nat} (ha : a < 4294967296) (hb : b < 4294967296) : Go.bits .and .u32 (a : Int) (b : Int) = ((a &&& b : Nat) : Int) := (bits_nat .u32 32 (by decide) wraps_u32 a b ha hb).1
theorem nat_or {a b : Nat} (ha : a < 4294967296) (hb : b < 4294967296) : Go.bits .or .u32 (a : Int) (b : Int) = ((a ||| b : Nat) : Int) := (bits_nat .u32 32 (by decide) wraps_u32 a b ha hb).2
theorem nat_xor {a b : Nat} (ha : a < 4294967296) (hb : b < 4294967296) : Go.bits .xor .u32 (a : Int) (b : Int) = ((a ^^^ b : Nat) : Int) := by
  have e : (2 : Nat) ^ IntKind.u32.bits = 4294967296 := rfl
  simp only [Go.bits, BitVec.ofInt_natCast, BitVec.toNat_xor, BitVec.toNat_ofNat, e, Nat.mod_eq_of_lt ha, Nat.mod_eq_of_lt hb]
  refine wraps_u32 _ (Int.natCast_nonneg _) ?_
  have := Nat.xor_lt_two_pow (n := 32) ha hb
  exact_mod_cast this
theorem top_bit {n : Nat} (h : n < 4294967296) : n / 2147483648 = (n.testBit 31).toNat := by
  rw [Nat.testBit_eq_decide_div_mod_eq]
  have : n / 2 ^ 31 < 2 := by omega
  have e : n / 2147483648 = n / 2 ^ 31 := rfl
  rw [e]
  rcases (by omega : n / 2 ^ 31 = 0 ∨ n / 2 ^ 31 = 1) with h | h <;> rw [h] <;> rfl
theorem add32 {a b c : Int} (ha : 0 ≤ a ∧ a < 4294967296) (hb : 0 ≤ b ∧ b < 4294967296) (hc : c = 0 ∨ c = 1) :
    bits_Add32.f a b c = some ((a + b + c) % 4294967296, (a + b + c) / 4294967296) := by
  unfold bits_Add32.f
  rw [u64w (x := a) (by omega) (by omega), u64w (x := b) (by omega) (by omega), u64w (x := a + b) (by omega) (by omega), u64w (x := c) (by omega) (by omega), u64w (x := a + b + c) (by omega) (by omega)]
  congr 2
  omega
theorem sub32 {a b c : Int} (ha : 0 ≤ a ∧ a < 4294967296) (hb : 0 ≤ b ∧ b < 4294967296) (hc : c = 0 ∨ c = 1) :
    ∃ r d, bits_Sub32.f a b c = some (r, d) ∧ (0 ≤ r ∧ r < 4294967296) ∧ (d = 0 ∨ d = 1) ∧ r = a - b - c + 4294967296 * d := by
  obtain ⟨x, rfl⟩ : ∃ x : Nat, a = x := ⟨a.toNat, by omega⟩
  obtain ⟨y, rfl⟩ : ∃ y : Nat, b = y := ⟨b.toNat, by omega⟩
  obtain ⟨r, hr⟩ : ∃ r : Nat, (((x : Int) - y) % 4294967296 - c) % 4294967296 = r := ⟨((((x : Int) - y) % 4294967296 - c) % 4294967296).toNat, by omega⟩
  have hx : x < 4294967296 := by omega
  have hy : y < 4294967296 := by omega
  have hrl : r < 4294967296 := by omega
  unfold bits_Sub32.f
  rw [hr]
  have hF : (4294967295 : Int) = ((4294967295 : Nat) : Int) := rfl
  have l1 : 4294967295 ^^^ x < 4294967296 := Nat.xor_lt_two_pow (n := 32) (by decide) hx
  have l2 : x ^^^ y < 4294967296 := Nat.xor_lt_two_pow (n := 32) hx hy
  have l3 : 4294967295 ^^^ (x ^^^ y) < 4294967296 := Nat.xor_lt_two_pow (n := 32) (by decide) l2
  have l4 : (4294967295 ^^^ x) &&& y < 4294967296 := Nat.and_lt_two_pow (n := 32) _ hy
  have l5 : (4294967295 ^^^ (x ^^^ y)) &&& r < 4294967296 := Nat.and_lt_two_pow (n := 32) _ hrl
  have l6 : ((4294967295 ^^^ x) &&& y) ||| ((4294967295 ^^^ (x ^^^ y)) &&& r) < 4294967296 := Nat.or_lt_two_pow (n := 32) l4 l5
  rw [hF, nat_xor (by decide) hx, nat_xor hx hy, nat_xor (by decide) l2, nat_and l1 hy, nat_and l3 hrl, nat_or l4 l5]
  obtain ⟨d, hd⟩ : ∃ d : Nat, d = (((4294967295 ^^^ x) &&& y) ||| ((4294967295 ^^^ (x ^^^ y)) &&& r)) / 2147483648 := ⟨_, rfl⟩
  have hd' : d = (((!x.testBit 31) && y.testBit 31) || ((!(x.testBit 31 ^^ y.testBit 31)) && r.testBit 31)).toNat := by
    rw [hd, top_bit l6, Nat.testBit_or, Nat.testBit_and, Nat.testBit_and, Nat.testBit_xor, Nat.testBit_xor, Nat.testBit_xor]
    have : (4294967295 : Nat).testBit 31 = true := by decide
    rw [this]
    simp
  have tx := top_bit hx
  have ty := top_bit hy
  have tr := top_bit hrl
  refine ⟨r, d, by rw [hd]; congr 2, by omega, ?_, ?_⟩
  · rw [hd']; revert hd'; cases ((!x.testBit 31) && y.testBit 31 || (!(x.testBit 31 ^^ y.testBit 31)) && r.testBit 31) <;> simp
  · revert hd' tx ty tr
    cases x.testBit 31 <;> cases y.testBit 31 <;> cases r.testBit 31 <;> simp <;> omega

/-! ### sums -/
theorem add_l100 : ∀ (k : Nat) (x1 x5 : List Int) (x6 x19 x20 : Int), nat_add.l100 k x1 x5 x6 x19 x20 = nat_add.l0 k x1 x5 x6 x19 x20 := by
  intro k
  induction k with
  | zero => intros; rfl
  | succ k ih => intros; rw [nat_add.l100, nat_add.l0]; simp only [ih]
theorem add_loop (b : List Int) (hb : Dg 4294967296 b) (T : Int) (n : Nat) (hn : n < 1099511627775) (hbn : b.length ≤ n) (m : Nat) (hm : (m : Int) = T + val 4294967296 b) :
    ∀ (d i : Nat) (x : List Int) (c : Int), i + d = n → x.length = n → Dg 4294967296 x → (c = 0 ∨ c = 1) → val 4294967296 x + c * 4294967296 ^ i - val 4294967296 (b.take i) = T →
    Ev (fun k => nat_add.l0 k b x c n i) (D m) := by
  intro d
  induction d with
  | zero =>
    intro i x c hi hl hx hc hv
    obtain rfl : i = n := by omega
    refine Ev.step (fun k => by rw [nat_add.l0]) ?_
    refine Ev.ifF (by omega) (Ev.ifT (by omega) ?_)
    have T := trim_ev (x ++ [c]).length (x ++ [c]) rfl (by simp; omega)
    rw [trimz_D (Dg.app hx (Dg.cons (by omega) (by omega) Dg.nil)) (show _ = (m : Int) by
      rw [val_append, hl, hm, ← hv, List.take_of_length_le hbn]; simp only [val]; grind)] at T
    exact Ev.bind T (Ev.now _)
  | succ d ih =>
    intro i x c hi hl hx hc hv
    refine Ev.step (fun k => by rw [nat_add.l0]) ?_
    refine Ev.ifT (by omega) ?_
    have hr := rdD (by decide) hx (i : Int)
    have hs := rdD (by decide) hb (i : Int)
    have next : Ev (fun k => nat_add.l0 k b (x.set i ((rd x (i : Int) + rd b (i : Int) + c) % 4294967296)) ((rd x (i : Int) + rd b (i : Int) + c) / 4294967296) n ((i + 1 : Nat) : Int)) (D m) := by
      refine ih (i + 1) _ _ (by omega) (by rw [List.length_set]; exact hl) (hx.set _ (by omega) (by omega)) (by omega) ?_
      rw [val_set_rd _ _ _ _ (by omega), val_take_rd, ← hv, Int.pow_succ]
      have := Int.mul_ediv_add_emod (rd x (i : Int) + rd b (i : Int) + c) 4294967296
      generalize (rd x (i : Int) + rd b (i : Int) + c) / 4294967296 = q at *
      have e : (rd x (i : Int) + rd b (i : Int) + c) % 4294967296 = rd x (i : Int) + rd b (i : Int) + c - 4294967296 * q := by omega
      rw [e]
      grind
    by_cases hib : (i : Int) < b.length
    · refine Ev.ifT hib (Ev.ifT (by omega) (Ev.ifT (by omega) (Ev.bindC (add32 hr hs hc) ?_)))
      rw [i1 (by omega)]
      exact next
    · refine Ev.ifF hib (Ev.ifT (by omega) (Ev.ifT (by omega) (Ev.bindC (add32 hr (show 0 ≤ (0 : Int) ∧ (0 : Int) < 4294967296 by decide) hc) ?_)))
      rw [i1 (by omega)]
      rw [rd_out (l := b) (by omega)] at next
      exact next
theorem add_ev {x y : Nat} (hx : (D x).length < 1099511627775) (hy : (D y).length < 1099511627775) : Ev (fun k => nat_add.f k (D x) (D y)) (D (x + y)) := by
  unfold nat_add.f
  by_cases h : ((D x).length : Int) < (D y).length
  · refine Ev.ifT h ?_
    unfold nat_num_uint32.f
    refine Ev.bindC (if_pos (by omega)) ?_
    exact add_loop (D x) (D_Dg x) (y : Int) (D y).length hy (by omega) (x + y) (by rw [D_val]; omega) (D y).length 0 (D y) 0 (by omega) rfl (D_Dg y) (.inl rfl) (by rw [D_val]; simp [val])
  · refine Ev.ifF h ?_
    unfold nat_num_uint32.f
    refine Ev.bindC (if_pos (by omega)) ?_
    refine Ev.congr (fun k => add_l100 k _ _ _ _ _) ?_
    exact add_loop (D y) (D_Dg y) (x : Int) (D x).length hx (by omega) (x + y) (by rw [D_val]; omega) (D x).length 0 (D x) 0 (by omega) rfl (D_Dg x) (.inl rfl) (by rw [D_val]; simp [val])

/-! ### differences -/
theorem sub_loop (b : List Int) (hb : Dg 4294967296 b) (T : Int) (n : Nat) (hn : n < 1099511627775) (hbn : b.length ≤ n) (m : Nat) (hm : (m : Int) = T - val 4294967296 b) :
    ∀ (d i : Nat) (x : List Int) (c : Int), i + d = n → x.length = n → Dg 4294967296 x → (c = 0 ∨ c = 1) → val 4294967296 x - c * 4294967296 ^ i + val 4294967296 (b.take i) = T →
    Ev (fun k => nat_sub.l0 k b x c n i) (D m) := by
  intro d
  induction d with
  | zero =>
    intro i x c hi hl hx hc hv
    obtain rfl : i = n := by omega
    refine Ev.step (fun k => by rw [nat_sub.l0]) ?_
    refine Ev.ifF (by omega) ?_
    have hlt := val_lt (by decide) hx
    rw [hl] at hlt
    rw [List.take_of_length_le hbn] at hv
    have hc0 : c = 0 := by
      rcases hc with rfl | rfl
      · rfl
      · omega
    subst hc0
    have T := trim_ev x.length x rfl (by omega)
    rw [trimz_D hx (show _ = (m : Int) by omega)] at T
    exact Ev.bind T (Ev.now _)
  | succ d ih =>
    intro i x c hi hl hx hc hv
    refine Ev.step (fun k => by rw [nat_sub.l0]) ?_
    refine Ev.ifT (by omega) ?_
    have hr := rdD (by decide) hx (i : Int)
    have hs := rdD (by decide) hb (i : Int)
    obtain ⟨r, e, hf, hr1, he, hre⟩ := sub32 hr hs hc
    have next : Ev (fun k => nat_sub.l0 k b (x.set i r) e n ((i + 1 : Nat) : Int)) (D m) := by
      refine ih (i + 1) _ _ (by omega) (by rw [List.length_set]; exact hl) (hx.set _ hr1.1 hr1.2) he ?_
      rw [val_set_rd _ _ _ _ (by omega), val_take_rd, ← hv, Int.pow_succ, hre]
      grind
    by_cases hib : (i : Int) < b.length
    · refine Ev.ifT hib (Ev.ifT (by omega) (Ev.ifT (by omega) (Ev.bindC hf ?_)))
      rw [i1 (by omega)]
      exact next
    · rw [rd_out (l := b) (by omega)] at hf
      refine Ev.ifF hib (Ev.ifT (by omega) (Ev.ifT (by omega) (Ev.bindC hf ?_)))
      rw [i1 (by omega)]
      exact next
theorem D_lt {n L : Nat} (h : (n : Int) < 4294967296 ^ L) : (D n).length ≤ L := by
  rcases Nat.lt_or_ge L (D n).length with hl | hl
  · have h1 := val_ge (by decide) (D_Dg n) (D_Nz n) (by intro e; rw [e] at hl; simp at hl)
    rw [D_val] at h1
    have h2 : (4294967296 : Int) ^ L ≤ 4294967296 ^ ((D n).length - 1) := pow_mono (by decide) (by omega)
    omega
  · exact hl
theorem D_len_mono {x y : Nat} (h : x ≤ y) : (D x).length ≤ (D y).length := by
  refine D_lt ?_
  have := val_lt (by decide) (D_Dg y)
  rw [D_val] at this
  omega
theorem sub_ev {x y : Nat} (hx : (D x).length < 1099511627775) (h : y ≤ x) : Ev (fun k => nat_sub.f k (D x) (D y)) (D (x - y)) := by
  unfold nat_sub.f nat_num_uint32.f
  refine Ev.bindC (if_pos (by omega)) ?_
  exact sub_loop (D y) (D_Dg y) (x : Int) (D x).length hx (D_len_mono h) (x - y) (by rw [D_val]; omega) (D x).length 0 (D x) 0 (by omega) rfl (D_Dg x) (.inl rfl) (by rw [D_val]; simp [val])

/-! ### products -/
/-- An equation that omega leaves alone. -/
structure Is (a b : Int) : Prop where
  h : a = b
theorem mul_id (T p u t c s w v q : Int) : (T + p * u * t - c * (p * s)) + p * s * (c + (w + u * v) - 4294967296 * q - w) + q * (p * s * 4294967296) = T + p * u * (t + s * v) := by grind
theorem mul_in (a b : List Int) (ha : Dg 4294967296 a) (hb : Dg 4294967296 b) (hn : a.length + b.length < 1099511627776) (i : Nat) (hi : i < a.length) (T : Int) {r : List Int}
    (next : ∀ x, x.length = a.length + b.length → Dg 4294967296 x → Is (val 4294967296 x) (T + 4294967296 ^ i * rd a (i : Int) * val 4294967296 b) → Ev (fun k => nat_mul.l0 k b x a a.length ((i + 1 : Nat) : Int)) r) :
    ∀ (d j : Nat) (x : List Int) (c : Int), j + d = b.length → x.length = a.length + b.length → Dg 4294967296 x → 0 ≤ c → c < 4294967296 →
      (∀ m, i + b.length ≤ m → x.getD m 0 = 0) → Is (val 4294967296 x + c * 4294967296 ^ (i + j)) (T + 4294967296 ^ i * rd a (i : Int) * val 4294967296 (b.take j)) →
    Ev (fun k => nat_mul.l1 k b x i (rd a (i : Int)) c a a.length i b b.length j) r := by
  intro d
  induction d with
  | zero =>
    intro j x c hj hl hx hc0 hc1 hz hv
    obtain rfl : j = b.length := by omega
    refine Ev.step (fun k => by rw [nat_mul.l1]) ?_
    have e : wrap64 ((i : Int) + (b.length : Int)) = ((i + b.length : Nat) : Int) := by rw [w64 (by omega) (by omega)]; omega
    refine Ev.ifF (by omega) ?_
    rw [e, i1 (by omega)]
    refine Ev.ifT (by omega) (Ev.ifT (by omega) ?_)
    have e2 : c % 4294967296 = c := by omega
    rw [e2]
    refine next _ (by rw [List.length_set]; exact hl) (hx.set _ hc0 hc1) ?_
    rw [show (((i + b.length : Nat) : Int)).toNat = i + b.length from rfl, val_set _ _ _ _ (by omega), hz _ (Nat.le_refl _)]
    rw [List.take_length] at hv
    exact ⟨by rw [← hv.h, Int.sub_zero, Int.mul_comm c]⟩
  | succ d ih =>
    intro j x c hj hl hx hc0 hc1 hz hv
    refine Ev.step (fun k => by rw [nat_mul.l1]) ?_
    have e : wrap64 ((i : Int) + (j : Int)) = ((i + j : Nat) : Int) := by rw [w64 (by omega) (by omega)]; omega
    have f1 : (j : Int) < b.length := by omega
    have f2' : i + j < x.length := by omega
    have f2 : ((i + j : Nat) : Int) < x.length := by omega
    have hx1 := rdD (by decide) hx ((i + j : Nat) : Int)
    have ha1 := rdD (by decide) ha (i : Int)
    have hb1 := rdD (by decide) hb (j : Int)
    have p0 : 0 ≤ rd a (i : Int) * rd b (j : Int) := Int.mul_nonneg ha1.1 hb1.1
    have p1 : rd a (i : Int) * rd b (j : Int) ≤ 4294967295 * 4294967295 := Int.mul_le_mul (by omega) (by omega) hb1.1 (by decide)
    have w1 := u64w (x := rd a (i : Int)) (by omega) (by omega)
    have w2 := u64w (x := rd b (j : Int)) (by omega) (by omega)
    have w3 := u64w (x := rd x ((i + j : Nat) : Int)) (by omega) (by omega)
    have w4 := u64w (x := rd a (i : Int) * rd b (j : Int)) (by omega) (by omega)
    have w5 := u64w (x := rd x ((i + j : Nat) : Int) + rd a (i : Int) * rd b (j : Int)) (by omega) (by omega)
    have w6 := u64w (x := c + (rd x ((i + j : Nat) : Int) + rd a (i : Int) * rd b (j : Int))) (by omega) (by omega)
    have w7 := i1 (i := j) (by omega)
    rw [e, w1, w2, w3, w4, w5, w6, w7]
    clear w1 w2 w3 w4 w5 w6 w7 e
    refine Ev.ifT f1 (Ev.ifT (Int.natCast_nonneg _) (Ev.ifT f1 (Ev.ifT (Int.natCast_nonneg _) (Ev.ifT f2 ?_))))
    rw [show (((i + j : Nat) : Int)).toNat = i + j from rfl]
    have dm := Int.mul_ediv_add_emod (c + (rd x ((i + j : Nat) : Int) + rd a (i : Int) * rd b (j : Int))) 4294967296
    refine ih (j + 1) _ _ (by omega) (by rw [List.length_set]; exact hl) (hx.set _ (by omega) (by omega)) (by omega) (by omega) ?_ ?_
    · intro m hm
      have := hz m hm
      have hne : i + j ≠ m := by clear this; omega
      rw [List.getD_eq_getElem?_getD] at this ⊢
      rw [List.getElem?_set_ne hne]
      exact this
    · replace hv := hv.h
      refine ⟨?_⟩
      rw [val_set_rd _ _ _ _ f2', val_take_rd, show i + (j + 1) = (i + j) + 1 from rfl, Int.pow_succ]
      generalize (c + (rd x ((i + j : Nat) : Int) + rd a (i : Int) * rd b (j : Int))) / 4294967296 = q at *
      have em : (c + (rd x ((i + j : Nat) : Int) + rd a (i : Int) * rd b (j : Int))) % 4294967296 = c + (rd x ((i + j : Nat) : Int) + rd a (i : Int) * rd b (j : Int)) - 4294967296 * q := by clear hv; omega
      rw [em]
      have ep : (4294967296 : Int) ^ (i + j) = 4294967296 ^ i * 4294967296 ^ j := Int.pow_add ..
      rw [ep] at hv ⊢
      generalize (4294967296 : Int) ^ i = p at *
      generalize (4294967296 : Int) ^ j = s at *
      rw [show val 4294967296 x = T + p * rd a (i : Int) * val 4294967296 (b.take j) - c * (p * s) by rw [← hv, Int.add_sub_cancel]]
      exact mul_id ..
theorem mul_out (a b : List Int) (ha : Dg 4294967296 a) (hb : Dg 4294967296 b) (hn : a.length + b.length < 1099511627776) (m : Nat) (hm : (m : Int) = val 4294967296 a * val 4294967296 b) :
    ∀ (d i : Nat) (x : List Int), i + d = a.length → x.length = a.length + b.length → Dg 4294967296 x → Is (val 4294967296 x) (val 4294967296 (a.take i) * val 4294967296 b) → Ev (fun k => nat_mul.l0 k b x a a.length i) (D m) := by
  intro d
  induction d with
  | zero =>
    intro i x hi hl hx hv
    obtain rfl : i = a.length := by omega
    refine Ev.step (fun k => by rw [nat_mul.l0]) ?_
    refine Ev.ifF (by omega) ?_
    rw [List.take_length, ← hm] at hv
    have T := trim_ev x.length x rfl (by omega)
    rw [trimz_D hx hv.h] at T
    exact Ev.bind T (Ev.now _)
  | succ d ih =>
    intro i x hi hl hx hv
    refine Ev.step (fun k => by rw [nat_mul.l0]) ?_
    refine Ev.ifT (by omega) (Ev.ifT (by omega) (Ev.ifT (by omega) ?_))
    refine mul_in a b ha hb hn i (by omega) (val 4294967296 (a.take i) * val 4294967296 b) ?_ b.length 0 x 0 (by omega) hl hx (by decide) (by decide) ?_ ?_
    · intro y hyl hy hyv
      refine ih (i + 1) y (by omega) hyl hy ?_
      refine ⟨?_⟩
      rw [hyv.h, val_take_rd]
      grind
    · refine zero_of_lt (b := 4294967296) (by decide) hx ?_
      have h1 := val_lt (by decide) (ha.take i)
      have h2 := val_lt (by decide) hb
      have h3 := val_nonneg (by decide) (ha.take i)
      have h4 := val_nonneg (by decide) hb
      rw [List.length_take, Nat.min_eq_left (by omega)] at h1
      rw [hv.h, Int.pow_add]
      rcases Int.lt_or_eq_of_le h4 with h | h
      · exact Int.mul_lt_mul h1 (Int.le_of_lt h2) h (Int.le_of_lt (pow_pos' (by decide) _))
      · rw [← h, Int.mul_zero]
        exact Int.mul_pos (pow_pos' (by decide) _) (pow_pos' (by decide) _)
    · exact ⟨by rw [hv.h]; simp [val]⟩
theorem mul_ev {x y : Nat} (h : (D x).length + (D y).length < 1099511627776) : Ev (fun k => nat_mul.f k (D x) (D y)) (D (x * y)) := by
  unfold nat_mul.f
  have e : wrap64 (((D x).length : Int) + ((D y).length : Int)) = (((D x).length + (D y).length : Nat) : Int) := by rw [w64 (by omega) (by omega)]; omega
  rw [e]
  refine Ev.ifT (by omega) (Ev.ifT (by omega) ?_)
  rw [show ((((D x).length + (D y).length : Nat) : Int)).toNat = (D x).length + (D y).length by omega]
  exact mul_out (D x) (D y) (D_Dg x) (D_Dg y) h (x * y) (by rw [D_val, D_val]; simp) (D x).length 0 _ (by omega) (List.length_replicate ..) (Dg.zeros (by decide) _) ⟨by rw [val_zeros]; simp [val]⟩
end Go.Proofs.YtcofpbndaljppaaDoor.Num
