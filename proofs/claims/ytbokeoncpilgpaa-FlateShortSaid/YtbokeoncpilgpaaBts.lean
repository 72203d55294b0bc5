/- Bits of bytes, numbers of bits; bits and bytes that stand at a place, as far as the text goes. -/
import Derived.Test.YtbokeoncpilgpaaHp1
import Derived.Test.YtbokeoncpilgpaaHp2
namespace Go.Proofs.Ytbokeoncpilgpaa.Pln
open Go.RowKit Go.Proofs.Ytbokeoncpilgpaa.Hp Go.Proofs.YtbokeoncpilgpaaW.PrintWords Go.Proofs.YtbokeoncpilgpaaW.PrintLast
theorem getD_left {α : Type} (a b : List α) (d : α) (j : Nat) (h : j < a.length) : (a ++ b).getD j d = a.getD j d := by
  rw [List.getD_eq_getElem?_getD, List.getD_eq_getElem?_getD, List.getElem?_append_left h]
theorem getD_right {α : Type} (a b : List α) (d : α) (j : Nat) : (a ++ b).getD (a.length + j) d = b.getD j d := by
  rw [List.getD_eq_getElem?_getD, List.getD_eq_getElem?_getD, List.getElem?_append_right (by omega), Nat.add_sub_cancel_left]
/-- Bits stand at a place. -/
def At (B : List Int) (t : Nat) (bs : List Nat) : Prop := ∀ j, j < bs.length → t + j < 8 * B.length → bitAt B (t + j) = bs.getD j 0
theorem At.left {B : List Int} {t : Nat} {a b : List Nat} (h : At B t (a ++ b)) : At B t a := fun j hj ht => by
  rw [h j (by rw [List.length_append]; omega) ht, getD_left a b 0 j hj]
theorem At.right {B : List Int} {t : Nat} {a b : List Nat} (h : At B t (a ++ b)) : At B (t + a.length) b := fun j hj ht => by
  have := h (a.length + j) (by rw [List.length_append]; omega) (by omega)
  rw [getD_right] at this
  rw [Nat.add_assoc]
  exact this
theorem numAt_add (B : List Int) (t a : Nat) : ∀ b, numAt B t (a + b) = numAt B t a + 2 ^ a * numAt B (t + a) b
  | 0 => by simp [numAt]
  | b + 1 => by
    rw [← Nat.add_assoc, numAt, numAt_add B t a b, numAt, Nat.mul_add, Nat.pow_add, ← Nat.add_assoc, Nat.add_assoc t a b, Nat.mul_left_comm (2 ^ a), Nat.add_assoc]
theorem numAt_one (B : List Int) (t : Nat) : numAt B t 1 = bitAt B t := by simp [numAt]
theorem num_at (B : List Int) : ∀ k n t, At B t (numB n k) → t + k ≤ 8 * B.length → numAt B t k = n % 2 ^ k
  | 0, n, t, _, _ => by simp [numAt, Nat.mod_one]
  | k + 1, n, t, h, ht => by
    have h1 : At B t ([n % 2] ++ numB (n / 2) k) := h
    have h2 := num_at B k (n / 2) (t + 1) h1.right (by omega)
    have h3 := h 0 (by simp [numB]) (by omega)
    rw [Nat.add_comm k 1, numAt_add, numAt_one, Nat.pow_one, h2, Nat.pow_add, Nat.pow_one, Nat.mod_mul]
    have h4 : bitAt B t = n % 2 := h3
    rw [h4]
theorem bit_byte (B : List Int) (p i : Nat) (h : i < 8) : bitAt B (8 * p + i) = (B.getD p 0).toNat / 2 ^ i % 2 := by
  unfold bitAt
  rw [show (8 * p + i) / 8 = p by omega, show (8 * p + i) % 8 = i by omega]
theorem num_byte (B : List Int) (p x : Nat) (h : B.getD p 0 = (x : Int)) (hx : x < 256) : numAt B (8 * p) 8 = x := by
  simp only [numAt, Nat.zero_add]
  rw [bit_byte B p 1 (by decide), bit_byte B p 2 (by decide), bit_byte B p 3 (by decide), bit_byte B p 4 (by decide), bit_byte B p 5 (by decide), bit_byte B p 6 (by decide), bit_byte B p 7 (by decide), show 8 * p + 0 = 8 * p + 0 from rfl, bit_byte B p 0 (by decide), h, Int.toNat_natCast]
  omega
theorem num_two (B : List Int) (p x y : Nat) (h : B.getD p 0 = (x : Int)) (hx : x < 256) (h2 : B.getD (p + 1) 0 = (y : Int)) (hy : y < 256) : numAt B (8 * p) 16 = x + 256 * y := by
  rw [show 16 = 8 + 8 from rfl, numAt_add, num_byte B p x h hx, show 8 * p + 8 = 8 * (p + 1) by omega, num_byte B (p + 1) y h2 hy]
/-- Bytes stand at a place. -/
def AtB (B : List Int) (p : Nat) (bs : List Int) : Prop := ∀ j, j < bs.length → p + j < B.length → B.getD (p + j) 0 = bs.getD j 0
theorem AtB.left {B : List Int} {t : Nat} {a b : List Int} (h : AtB B t (a ++ b)) : AtB B t a := fun j hj ht => by
  rw [h j (by rw [List.length_append]; omega) ht, getD_left a b 0 j hj]
theorem AtB.right {B : List Int} {t : Nat} {a b : List Int} (h : AtB B t (a ++ b)) : AtB B (t + a.length) b := fun j hj ht => by
  have := h (a.length + j) (by rw [List.length_append]; omega) (by omega)
  rw [getD_right] at this
  rw [Nat.add_assoc]
  exact this
theorem AtB.take {B : List Int} {p n : Nat} {bs : List Int} (h : AtB B p bs) (hn : bs.length = n) (hp : p + n ≤ B.length) : (B.drop p).take n = bs := by
  apply List.ext_getElem
  · rw [List.length_take, List.length_drop]; omega
  · intro j h1 h2
    have := h j h2 (by omega)
    rw [List.getD_eq_getElem?_getD, List.getD_eq_getElem?_getD, List.getElem?_eq_getElem (by omega), List.getElem?_eq_getElem h2] at this
    rw [List.getElem_take, List.getElem_drop]
    exact this
theorem AtB.self (B : List Int) : AtB B 0 B := fun j _ _ => by rw [Nat.zero_add]
theorem AtB.pre (B tail : List Int) : AtB (B ++ tail) 0 B := fun j hj _ => by rw [Nat.zero_add, getD_left _ _ _ _ hj]
theorem AtB.cut (B : List Int) (k : Nat) : AtB (B.take k) 0 B := fun j hj ht => by
  have hk : j < k := by rw [List.length_take] at ht; omega
  rw [Nat.zero_add, List.getD_eq_getElem?_getD, List.getD_eq_getElem?_getD, List.getElem?_take_of_lt hk]
end Go.Proofs.Ytbokeoncpilgpaa.Pln
