/- The document's base64: bit by bit; the same signs as the program's, three bytes a piece. -/
import Derived.Test.YtfphmpnkfjeceaaDoorBas
import Derived.Test.YtfphmpnkfjeceaaDoorHp1
import Derived.Test.YtfphmpnkfjeceaaDoorHp2
import Derived.Test.YtfphmpnkfjeceaaDoorHp3
namespace Go.Proofs.YtfphmpnkfjeceaaDoor.Esc
open Go.RowKit Go.Proofs.YtfphmpnkfjeceaaDoor.Hp Go.Proofs.YtfphmpnkfjeceaaDoorW.PrintWords Go.Proofs.YtfphmpnkfjeceaaDoorW.PrintLast
theorem pow_loop : ∀ (m i : Nat) (n : Nat), i + m = n → n ≤ 60 → Ev (fun k => lanyardref02_pow.l0 k (n : Int) ((2 ^ i : Nat) : Int) (i : Int)) ((2 ^ n : Nat) : Int)
  | 0, i, n, h, hn => by
    obtain rfl : i = n := by omega
    exact Ev.step (fun k => by rw [lanyardref02_pow.l0]) (Ev.ifF (by omega) (Ev.now _))
  | m + 1, i, n, h, hn => by
    have hp : 2 ^ i ≤ 2 ^ 60 := Nat.pow_le_pow_right (by decide) (by omega)
    refine Ev.step (fun k => by rw [lanyardref02_pow.l0]) (Ev.ifT (by omega) ?_)
    have ih := pow_loop m (i + 1) n (by omega) hn
    rw [show wrap64 (((2 ^ i : Nat) : Int) * 2) = ((2 ^ (i + 1) : Nat) : Int) by rw [Nat.pow_succ]; generalize 2 ^ i = x at hp; unfold wrap64; omega, show wrap64 ((i : Int) + 1) = ((i + 1 : Nat) : Int) by unfold wrap64; omega]
    exact ih
theorem pow_ev (n : Nat) (hn : n ≤ 60) : Ev (fun k => lanyardref02_pow.f k (n : Int)) ((2 ^ n : Nat) : Int) := pow_loop n 0 n (by omega) hn
/-- One bit of bytes; those behind are nought. -/
def bitAt (b : List UInt8) (i : Nat) : Nat := if i / 8 < b.length then (b.getD (i / 8) 0).toNat / 2 ^ (7 - i % 8) % 2 else 0
theorem bit_ev (b : List UInt8) (i : Nat) (hi : i ≤ 40000) : Ev (fun k => lanyardref02_bit.f k (I b) (i : Int)) ((bitAt b i : Nat) : Int) := by
  have hd : wrap64 (Int.tdiv (i : Int) 8) = ((i / 8 : Nat) : Int) := by
    rw [show Int.tdiv (i : Int) 8 = ((i / 8 : Nat) : Int) from (Int.ofNat_tdiv i 8).symm]; unfold wrap64; omega
  have hm : wrap64 (7 - Int.tmod (i : Int) 8) = ((7 - i % 8 : Nat) : Int) := by
    rw [show Int.tmod (i : Int) 8 = ((i % 8 : Nat) : Int) from (Int.ofNat_tmod i 8).symm]; unfold wrap64; omega
  unfold lanyardref02_bit.f bitAt
  rw [hd, hm, I_len]
  by_cases h : i / 8 < b.length
  · rw [if_pos h]
    refine Ev.ifF (by omega) (Ev.ifT (by omega) (Ev.ifT (by omega) (Ev.bind (pow_ev _ (by omega)) ?_)))
    have hp : 0 < 2 ^ (7 - i % 8) := Nat.two_pow_pos _
    have hp2 : 2 ^ (7 - i % 8) ≤ 2 ^ 7 := Nat.pow_le_pow_right (by decide) (by omega)
    have hx := getD_lt b (i / 8)
    rw [I_at b _ h]
    generalize 2 ^ (7 - i % 8) = P at hp hp2
    generalize (b.getD (i / 8) 0).toNat = x at hx
    refine Ev.ifF (by omega) ?_
    have h1 : wrap64 (x : Int) = x := by unfold wrap64; omega
    have h2 : Int.tdiv (x : Int) (P : Int) = ((x / P : Nat) : Int) := (Int.ofNat_tdiv x P).symm
    have h3 : x / P ≤ x := Nat.div_le_self _ _
    have h4 : wrap64 ((x / P : Nat) : Int) = ((x / P : Nat) : Int) := by generalize x / P = y at h3; unfold wrap64; omega
    have h5 : Int.tmod ((x / P : Nat) : Int) 2 = ((x / P % 2 : Nat) : Int) := (Int.ofNat_tmod _ 2).symm
    rw [h1, h2, h4, h5]
    exact Ev.now _
  · rw [if_neg h]
    exact Ev.ifT (by omega) (Ev.now _)
/-- The number of the first q of six bits from i on. -/
def sx (b : List UInt8) (i : Nat) : Nat → Nat
  | 0 => 0
  | q + 1 => sx b i q * 2 + bitAt b (i + q)
theorem bitAt_lt (b : List UInt8) (i : Nat) : bitAt b i < 2 := by
  unfold bitAt
  split
  · exact Nat.mod_lt _ (by decide)
  · decide
theorem sx_lt (b : List UInt8) (i : Nat) : ∀ q, sx b i q < 2 ^ q
  | 0 => Nat.one_pos
  | q + 1 => by
    have h1 := sx_lt b i q
    have h2 := bitAt_lt b (i + q)
    rw [sx, Nat.pow_succ]
    omega
theorem sign_is (m : Nat) (h : m < 64) : lanyardref02_sign.f (m : Int) = some ((sgn m).toNat : Int) := by
  have : ∀ m : Fin 64, lanyardref02_sign.f ((m.val : Nat) : Int) = some ((sgn m.val).toNat : Int) := by decide +kernel
  exact this ⟨m, h⟩
theorem six_loop (b : List UInt8) (i : Nat) (hi : i ≤ 39000) (acc : List Int) (ha : acc.length ≤ 40000) (r : ByteArray) (h : Ev (fun k => lanyardref02_Encode.l0 k (I b) (acc ++ [((sgn (sx b i 6)).toNat : Int)]) ((i + 6 : Nat) : Int)) r) : ∀ (m q : Nat), q + m = 6 →
    Ev (fun k => lanyardref02_Encode.l1 k (I b) acc (i : Int) ((sx b i q : Nat) : Int) (q : Int)) r
  | 0, q, hq => by
    obtain rfl : q = 6 := by omega
    have h6 := sx_lt b i 6
    refine Ev.step (fun k => by rw [lanyardref02_Encode.l1]) (Ev.ifF (by omega) (Ev.bindC (sign_is _ h6) ?_))
    refine Ev.ifT (show acc.length < 140737488355328 by omega) ?_
    rw [show wrap64 ((i : Int) + 6) = ((i + 6 : Nat) : Int) by unfold wrap64; omega]
    exact h
  | m + 1, q, hq => by
    have h1 := sx_lt b i q
    have h2 : 2 ^ q ≤ 2 ^ 5 := Nat.pow_le_pow_right (by decide) (by omega)
    have h3 := bitAt_lt b (i + q)
    have ih := six_loop b i hi acc ha r h m (q + 1) (by omega)
    refine Ev.step (fun k => by rw [lanyardref02_Encode.l1]) (Ev.ifT (by omega) ?_)
    rw [show wrap64 ((i : Int) + (q : Int)) = ((i + q : Nat) : Int) by unfold wrap64; omega]
    refine Ev.bind (bit_ev b (i + q) (by omega)) ?_
    rw [sx] at ih
    generalize sx b i q = x at ih h1
    generalize bitAt b (i + q) = y at ih h3
    rw [show wrap64 (wrap64 ((x : Int) * 2) + (y : Int)) = ((x * 2 + y : Nat) : Int) by unfold wrap64; omega, show wrap64 ((q : Int) + 1) = ((q + 1 : Nat) : Int) by unfold wrap64; omega]
    exact ih
theorem six_step (b : List UInt8) (i : Nat) (hb : b.length ≤ 4000) (hi : i < 8 * b.length) (acc : List Int) (ha : acc.length ≤ 40000) (r : ByteArray) (h : Ev (fun k => lanyardref02_Encode.l0 k (I b) (acc ++ [((sgn (sx b i 6)).toNat : Int)]) ((i + 6 : Nat) : Int)) r) : Ev (fun k => lanyardref02_Encode.l0 k (I b) acc (i : Int)) r := by
  refine Ev.step (fun k => by rw [lanyardref02_Encode.l0]) ?_
  rw [I_len]
  exact Ev.ifT (by unfold wrap64; omega) (six_loop b i (by omega) acc ha r h 6 0 (by omega))
theorem bit_at (b : List UInt8) (j a c : Nat) (hc : c < 8) (i : Nat) (hi : i = 24 * j + (8 * a + c)) : bitAt b i = (b.getD (3 * j + a) 0).toNat / 2 ^ (7 - c) % 2 := by
  unfold bitAt
  rw [show i / 8 = 3 * j + a by omega, show i % 8 = c by omega]
  split
  · rfl
  · rename_i h
    rw [List.getD_eq_getElem?_getD, List.getElem?_eq_none (by omega)]
    show 0 = 0 / 2 ^ (7 - c) % 2
    rw [Nat.zero_div]
/-- The three bytes of a piece as a number. -/
def num3 (b : List UInt8) (j : Nat) : Nat := (b.getD (3 * j) 0).toNat * 65536 + (b.getD (3 * j + 1) 0).toNat * 256 + (b.getD (3 * j + 2) 0).toNat
theorem sx0 (b : List UInt8) (j : Nat) : sx b (24 * j) 6 = num3 b j / 262144 % 64 := by
  simp only [sx]
  rw [bit_at b j 0 0 (by decide) _ (by omega), bit_at b j 0 1 (by decide) _ (by omega), bit_at b j 0 2 (by decide) _ (by omega), bit_at b j 0 3 (by decide) _ (by omega), bit_at b j 0 4 (by decide) _ (by omega), bit_at b j 0 5 (by decide) _ (by omega)]
  unfold num3
  have h0 := getD_lt b (3 * j)
  have h1 := getD_lt b (3 * j + 1)
  have h2 := getD_lt b (3 * j + 2)
  rw [Nat.add_zero]
  generalize (b.getD (3 * j) 0).toNat = x at h0
  generalize (b.getD (3 * j + 1) 0).toNat = y at h1
  generalize (b.getD (3 * j + 2) 0).toNat = z at h2
  simp only [Nat.reduceSub, Nat.reducePow]
  omega
theorem sx1 (b : List UInt8) (j : Nat) : sx b (24 * j + 6) 6 = num3 b j / 4096 % 64 := by
  simp only [sx]
  rw [bit_at b j 0 6 (by decide) _ (by omega), bit_at b j 0 7 (by decide) _ (by omega), bit_at b j 1 0 (by decide) _ (by omega), bit_at b j 1 1 (by decide) _ (by omega), bit_at b j 1 2 (by decide) _ (by omega), bit_at b j 1 3 (by decide) _ (by omega)]
  unfold num3
  have h0 := getD_lt b (3 * j)
  have h1 := getD_lt b (3 * j + 1)
  have h2 := getD_lt b (3 * j + 2)
  rw [Nat.add_zero]
  generalize (b.getD (3 * j) 0).toNat = x at h0
  generalize (b.getD (3 * j + 1) 0).toNat = y at h1
  generalize (b.getD (3 * j + 2) 0).toNat = z at h2
  simp only [Nat.reduceSub, Nat.reducePow]
  omega
theorem sx2 (b : List UInt8) (j : Nat) : sx b (24 * j + 12) 6 = num3 b j / 64 % 64 := by
  simp only [sx]
  rw [bit_at b j 1 4 (by decide) _ (by omega), bit_at b j 1 5 (by decide) _ (by omega), bit_at b j 1 6 (by decide) _ (by omega), bit_at b j 1 7 (by decide) _ (by omega), bit_at b j 2 0 (by decide) _ (by omega), bit_at b j 2 1 (by decide) _ (by omega)]
  unfold num3
  have h0 := getD_lt b (3 * j)
  have h1 := getD_lt b (3 * j + 1)
  have h2 := getD_lt b (3 * j + 2)
  generalize (b.getD (3 * j) 0).toNat = x at h0
  generalize (b.getD (3 * j + 1) 0).toNat = y at h1
  generalize (b.getD (3 * j + 2) 0).toNat = z at h2
  simp only [Nat.reduceSub, Nat.reducePow]
  omega
theorem sx3 (b : List UInt8) (j : Nat) : sx b (24 * j + 18) 6 = num3 b j % 64 := by
  simp only [sx]
  rw [bit_at b j 2 2 (by decide) _ (by omega), bit_at b j 2 3 (by decide) _ (by omega), bit_at b j 2 4 (by decide) _ (by omega), bit_at b j 2 5 (by decide) _ (by omega), bit_at b j 2 6 (by decide) _ (by omega), bit_at b j 2 7 (by decide) _ (by omega)]
  unfold num3
  have h0 := getD_lt b (3 * j)
  have h1 := getD_lt b (3 * j + 1)
  have h2 := getD_lt b (3 * j + 2)
  generalize (b.getD (3 * j) 0).toNat = x at h0
  generalize (b.getD (3 * j + 1) 0).toNat = y at h1
  generalize (b.getD (3 * j + 2) 0).toNat = z at h2
  simp only [Nat.reduceSub, Nat.reducePow]
  omega
theorem piece_len (b : List UInt8) (j : Nat) : (piece (I b) j).length = min 3 (b.length - 3 * j) := by simp [piece, I_len]
theorem piece_term (b : List UInt8) (j q : Nat) (hq : q < 3) : (if q < (piece (I b) j).length then ((piece (I b) j).getD q 0).toNat else 0) = (b.getD (3 * j + q) 0).toNat := by
  rw [piece_len]
  by_cases h : 3 * j + q < b.length
  · rw [if_pos (by omega)]
    have : (piece (I b) j).getD q 0 = ((b.getD (3 * j + q) 0).toNat : Int) := by
      simp [piece, I, List.getD_eq_getElem?_getD, List.getElem?_drop, hq, h]
    rw [this, Int.toNat_natCast]
  · rw [if_neg (by omega), List.getD_eq_getElem?_getD, List.getElem?_eq_none (by omega)]
    rfl
theorem nAt_num3 (b : List UInt8) (j : Nat) : nAt (piece (I b) j) 3 = num3 b j := by
  simp only [nAt]
  rw [piece_term b j 0 (by decide), piece_term b j 1 (by decide), piece_term b j 2 (by decide), Nat.add_zero]
  unfold num3
  omega
theorem l2_end (acc : List Int) (h : acc.length % 4 = 0) : Ev (fun k => lanyardref02_Encode.l2 k acc) (strOfNums acc) := Ev.step (fun k => by rw [lanyardref02_Encode.l2]) (Ev.ifT (by omega) (Ev.now _))
theorem l2_more (acc : List Int) (h : acc.length % 4 ≠ 0) (hl : acc.length ≤ 40000) (r : ByteArray) (g : Ev (fun k => lanyardref02_Encode.l2 k (acc ++ [61])) r) : Ev (fun k => lanyardref02_Encode.l2 k acc) r := Ev.step (fun k => by rw [lanyardref02_Encode.l2]) (Ev.ifF (by omega) (Ev.ifT (by omega) g))
theorem l0_end (b : List UInt8) (i : Nat) (hb : b.length ≤ 4000) (hi : 8 * b.length ≤ i) (acc : List Int) (r : ByteArray) (g : Ev (fun k => lanyardref02_Encode.l2 k acc) r) : Ev (fun k => lanyardref02_Encode.l0 k (I b) acc (i : Int)) r := by
  refine Ev.step (fun k => by rw [lanyardref02_Encode.l0]) ?_
  rw [I_len]
  exact Ev.ifF (by unfold wrap64; omega) g
def n3 (a b c : UInt8) : Nat := a.toNat * 65536 + b.toNat * 256 + c.toNat
/-- base64 of bytes, three a piece. -/
def e3 : List UInt8 → List UInt8
  | a :: b :: c :: t => sgn (n3 a b c / 262144 % 64) :: sgn (n3 a b c / 4096 % 64) :: sgn (n3 a b c / 64 % 64) :: sgn (n3 a b c % 64) :: e3 t
  | [a, b] => [sgn (n3 a b 0 / 262144 % 64), sgn (n3 a b 0 / 4096 % 64), sgn (n3 a b 0 / 64 % 64), 61]
  | [a] => [sgn (n3 a 0 0 / 262144 % 64), sgn (n3 a 0 0 / 4096 % 64), 61, 61]
  | [] => []
theorem num3_of (b : List UInt8) (j : Nat) (x y z : UInt8) (hx : (b.drop (3 * j)).getD 0 0 = x) (hy : (b.drop (3 * j)).getD 1 0 = y) (hz : (b.drop (3 * j)).getD 2 0 = z) : num3 b j = n3 x y z := by
  unfold num3 n3
  rw [getD_drop] at hx hy hz
  rw [Nat.add_zero] at hx
  rw [← hx, ← hy, ← hz]
theorem quad_piece (b : List UInt8) (j : Nat) : quad (piece (I b) j) 4 = [sgn (num3 b j / 262144 % 64), if 1 ≤ b.length - 3 * j then sgn (num3 b j / 4096 % 64) else 61, if 2 ≤ b.length - 3 * j then sgn (num3 b j / 64 % 64) else 61, if 3 ≤ b.length - 3 * j then sgn (num3 b j % 64) else 61] := by
  unfold quad
  rw [nAt_num3, piece_len]
  have h1 : (1 ≤ min 3 (b.length - 3 * j)) = (1 ≤ b.length - 3 * j) := propext (by omega)
  have h2 : (2 ≤ min 3 (b.length - 3 * j)) = (2 ≤ b.length - 3 * j) := propext (by omega)
  have h3 : (3 ≤ min 3 (b.length - 3 * j)) = (3 ≤ b.length - 3 * j) := propext (by omega)
  simp only [h1, h2, h3]
  rfl
theorem drop_three {l : List UInt8} {n : Nat} {x y z : UInt8} {t : List UInt8} (h : l.drop n = x :: y :: z :: t) : l.drop (n + 3) = t := by
  rw [← List.drop_drop, h]; rfl
theorem encL_e3 (b : List UInt8) : ∀ (m j : Nat), m = (b.length - 3 * j + 2) / 3 → encL (I b) (List.range' j m) = e3 (b.drop (3 * j))
  | 0, j, h => by rw [List.drop_of_length_le (by omega)]; rfl
  | m + 1, j, h => by
    have hl : (b.drop (3 * j)).length = b.length - 3 * j := List.length_drop
    have ih := encL_e3 b m (j + 1) (by omega)
    rw [List.range'_succ]
    show quad (piece (I b) j) 4 ++ encL (I b) (List.range' (j + 1) m) = _
    rw [ih, quad_piece]
    rcases hd : b.drop (3 * j) with _ | ⟨x, _ | ⟨y, _ | ⟨z, t⟩⟩⟩
    · rw [hd] at hl; simp at hl; omega
    · rw [hd] at hl
      simp at hl
      rw [num3_of b j x 0 0 (by rw [hd]; rfl) (by rw [hd]; rfl) (by rw [hd]; rfl), if_pos (by omega), if_neg (by omega), if_neg (by omega), List.drop_of_length_le (by omega)]
      rfl
    · rw [hd] at hl
      simp at hl
      rw [num3_of b j x y 0 (by rw [hd]; rfl) (by rw [hd]; rfl) (by rw [hd]; rfl), if_pos (by omega), if_pos (by omega), if_neg (by omega), List.drop_of_length_le (by omega)]
      rfl
    · rw [hd] at hl
      simp at hl
      rw [num3_of b j x y z (by rw [hd]; rfl) (by rw [hd]; rfl) (by rw [hd]; rfl), if_pos (by omega), if_pos (by omega), if_pos (by omega), show 3 * (j + 1) = 3 * j + 3 by omega, drop_three hd]
      rfl
theorem I_all (b : List UInt8) : ((I b).all fun x => decide (0 ≤ x) && decide (x < 256)) = true := by
  rw [List.all_eq_true]
  intro x hx
  obtain ⟨c, _, rfl⟩ := List.mem_map.1 hx
  have := c.toNat_lt
  simp
  omega
theorem enc_f (b : List UInt8) (hb : b.length ≤ 1000000) : base_Encode.f (I b) = some (bs (e3 b)) := by
  unfold base_Encode.f
  rw [if_pos ⟨I_all b, by rw [I_len]; omega⟩, I_len, List.range_eq_range', encL_e3 b _ 0 (by omega)]
  rfl
theorem e3_len : ∀ l : List UInt8, (e3 l).length = 4 * ((l.length + 2) / 3)
  | a :: b :: c :: t => by rw [e3]; simp only [List.length_cons, e3_len t]; omega
  | [a, b] => by simp [e3]
  | [a] => by simp [e3]
  | [] => by simp [e3]
theorem I_cons (c : UInt8) (l : List UInt8) : I (c :: l) = (c.toNat : Int) :: I l := rfl
theorem ref_enc (b : List UInt8) (hb : b.length ≤ 4000) : ∀ (m j : Nat) (acc : List Int), b.length ≤ 3 * (j + m) → j ≤ 1400 → acc.length = 4 * j →
    Ev (fun k => lanyardref02_Encode.l0 k (I b) acc ((24 * j : Nat) : Int)) (strOfNums (acc ++ I (e3 (b.drop (3 * j)))))
  | 0, j, acc, hm, hj, ha => by
    rw [List.drop_of_length_le (by omega)]
    refine l0_end b _ hb (by omega) acc _ ?_
    rw [show I (e3 []) = [] from rfl, List.append_nil]
    exact l2_end acc (by omega)
  | m + 1, j, acc, hm, hj, ha => by
    have hl : (b.drop (3 * j)).length = b.length - 3 * j := List.length_drop
    have e2 : 24 * j + 6 + 6 = 24 * j + 12 := by omega
    have e3' : 24 * j + 12 + 6 = 24 * j + 18 := by omega
    rcases hd : b.drop (3 * j) with _ | ⟨x, _ | ⟨y, _ | ⟨z, t⟩⟩⟩
    · rw [hd] at hl
      simp at hl
      refine l0_end b _ hb (by omega) acc _ ?_
      rw [show I (e3 []) = [] from rfl, List.append_nil]
      exact l2_end acc (by omega)
    · rw [hd] at hl
      simp at hl
      refine six_step b _ hb (by omega) acc (by omega) _ ?_
      refine six_step b _ hb (by omega) _ (by simp; omega) _ ?_
      rw [sx0, sx1, e2, num3_of b j x 0 0 (by rw [hd]; rfl) (by rw [hd]; rfl) (by rw [hd]; rfl)]
      refine l0_end b _ hb (by omega) _ _ ?_
      refine l2_more _ (by simp; omega) (by simp; omega) _ ?_
      refine l2_more _ (by simp; omega) (by simp; omega) _ ?_
      have := l2_end (acc ++ [((sgn (n3 x 0 0 / 262144 % 64)).toNat : Int)] ++ [((sgn (n3 x 0 0 / 4096 % 64)).toNat : Int)] ++ [61] ++ [61]) (by simp; omega)
      simp only [List.append_assoc] at this ⊢
      exact this
    · rw [hd] at hl
      simp at hl
      refine six_step b _ hb (by omega) acc (by omega) _ ?_
      refine six_step b _ hb (by omega) _ (by simp; omega) _ ?_
      rw [e2]
      refine six_step b _ hb (by omega) _ (by simp; omega) _ ?_
      rw [sx0, sx1, sx2, e3', num3_of b j x y 0 (by rw [hd]; rfl) (by rw [hd]; rfl) (by rw [hd]; rfl)]
      refine l0_end b _ hb (by omega) _ _ ?_
      refine l2_more _ (by simp; omega) (by simp; omega) _ ?_
      have := l2_end (acc ++ [((sgn (n3 x y 0 / 262144 % 64)).toNat : Int)] ++ [((sgn (n3 x y 0 / 4096 % 64)).toNat : Int)] ++ [((sgn (n3 x y 0 / 64 % 64)).toNat : Int)] ++ [61]) (by simp; omega)
      simp only [List.append_assoc] at this ⊢
      exact this
    · rw [hd] at hl
      simp at hl
      refine six_step b _ hb (by omega) acc (by omega) _ ?_
      refine six_step b _ hb (by omega) _ (by simp; omega) _ ?_
      rw [e2]
      refine six_step b _ hb (by omega) _ (by simp; omega) _ ?_
      rw [e3']
      refine six_step b _ hb (by omega) _ (by simp; omega) _ ?_
      rw [sx0, sx1, sx2, sx3, show 24 * j + 18 + 6 = 24 * (j + 1) by omega, num3_of b j x y z (by rw [hd]; rfl) (by rw [hd]; rfl) (by rw [hd]; rfl)]
      have := ref_enc b hb m (j + 1) (acc ++ [((sgn (n3 x y z / 262144 % 64)).toNat : Int)] ++ [((sgn (n3 x y z / 4096 % 64)).toNat : Int)] ++ [((sgn (n3 x y z / 64 % 64)).toNat : Int)] ++ [((sgn (n3 x y z % 64)).toNat : Int)]) (by omega) (by omega) (by simp; omega)
      rw [show 3 * (j + 1) = 3 * j + 3 by omega, drop_three hd] at this
      simp only [List.append_assoc] at this ⊢
      exact this
theorem ref_enc_ev (b : List UInt8) (hb : b.length ≤ 4000) : Ev (fun k => lanyardref02_Encode.f k (I b)) (bs (e3 b)) := by
  have := ref_enc b hb b.length 0 [] (by omega) (by omega) rfl
  rw [List.nil_append, I_str] at this
  exact this
end Go.Proofs.YtfphmpnkfjeceaaDoor.Esc
