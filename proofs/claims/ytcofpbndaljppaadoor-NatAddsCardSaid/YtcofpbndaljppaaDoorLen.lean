/- The printed functions of layer 6 that divide: what they answer, as digits of numbers. -/
import Derived.Test.YtcofpbndaljppaaDoorSum
import Derived.Test.YtcofpbndaljppaaDoorHp2
namespace Go.Proofs.YtcofpbndaljppaaDoor.Num
open Go.RowKit Go.Proofs.YtcofpbndaljppaaDoor.Hp Go.Proofs.YtcofpbndaljppaaDoorW.PrintWords Go.Proofs.YtcofpbndaljppaaDoorW.PrintLast Go.Proofs.YtcofpbndaljppaaDoorW.PrintMore

/-! ### how many bits -/
def lenTab : ByteArray := ⟨#[0, 1, 2, 2, 3, 3, 3, 3, 4, 4, 4, 4, 4, 4, 4, 4, 5, 5, 5, 5, 5, 5, 5, 5, 5, 5, 5, 5, 5, 5, 5, 5, 6, 6, 6, 6, 6, 6, 6, 6, 6, 6, 6, 6, 6, 6, 6, 6, 6, 6, 6, 6, 6, 6, 6, 6, 6, 6, 6, 6, 6, 6, 6, 6, 7, 7, 7, 7, 7, 7, 7, 7, 7, 7, 7, 7, 7, 7, 7, 7, 7, 7, 7, 7, 7, 7, 7, 7, 7, 7, 7, 7, 7, 7, 7, 7, 7, 7, 7, 7, 7, 7, 7, 7, 7, 7, 7, 7, 7, 7, 7, 7, 7, 7, 7, 7, 7, 7, 7, 7, 7, 7, 7, 7, 7, 7, 7, 7, 8, 8, 8, 8, 8, 8, 8, 8, 8, 8, 8, 8, 8, 8, 8, 8, 8, 8, 8, 8, 8, 8, 8, 8, 8, 8, 8, 8, 8, 8, 8, 8, 8, 8, 8, 8, 8, 8, 8, 8, 8, 8, 8, 8, 8, 8, 8, 8, 8, 8, 8, 8, 8, 8, 8, 8, 8, 8, 8, 8, 8, 8, 8, 8, 8, 8, 8, 8, 8, 8, 8, 8, 8, 8, 8, 8, 8, 8, 8, 8, 8, 8, 8, 8, 8, 8, 8, 8, 8, 8, 8, 8, 8, 8, 8, 8, 8, 8, 8, 8, 8, 8, 8, 8, 8, 8, 8, 8, 8, 8, 8, 8, 8, 8, 8, 8, 8, 8, 8, 8, 8, 8, 8, 8, 8, 8, 8, 8]⟩
theorem tab_all : ∀ i : Fin 256, ∃ m : Fin 9, bt lenTab ((i.val : Nat) : Int) = ((m.val : Nat) : Int) ∧ i.val < 2 ^ m.val ∧ (0 < i.val → 2 ^ m.val ≤ 2 * i.val) := by decide +kernel
theorem tab_ok {i : Int} (h0 : 0 ≤ i) (h1 : i < 256) : ∃ m : Nat, bt lenTab i = m ∧ m ≤ 8 ∧ i < 2 ^ m ∧ (0 < i → 2 ^ m ≤ 2 * i) := by
  obtain ⟨n, rfl⟩ : ∃ n : Nat, i = n := ⟨i.toNat, by omega⟩
  obtain ⟨m, e1, e2, e3⟩ := tab_all ⟨n, by omega⟩
  refine ⟨m.val, e1, by omega, by exact_mod_cast e2, fun h => ?_⟩
  have := e3 (show 0 < n by omega)
  exact_mod_cast this
theorem len32_eq (x : Int) : bits_Len32.f x = (if x ≥ 65536 then (if (x / 65536) ≥ 256 then (if 0 ≤ (((x / 65536) / 256) % 256) then (if (((x / 65536) / 256) % 256) < 256 then (some (wrap64 ((16 + 8) + (wrap64 (bt lenTab (((x / 65536) / 256) % 256)))))) else (none)) else (none)) else (if 0 ≤ ((x / 65536) % 256) then (if ((x / 65536) % 256) < 256 then (some (wrap64 (16 + (wrap64 (bt lenTab ((x / 65536) % 256)))))) else (none)) else (none))) else (if x ≥ 256 then (if 0 ≤ ((x / 256) % 256) then (if ((x / 256) % 256) < 256 then (some (wrap64 ((0 + 8) + (wrap64 (bt lenTab ((x / 256) % 256)))))) else (none)) else (none)) else (if 0 ≤ ((x) % 256) then (if ((x) % 256) < 256 then (some (wrap64 (0 + (wrap64 (bt lenTab ((x) % 256)))))) else (none)) else (none)))) := rfl
theorem len32 {x : Int} (h0 : 0 ≤ x) (h1 : x < 4294967296) : ∃ n : Nat, bits_Len32.f x = some (n : Int) ∧ n ≤ 32 ∧ x < 2 ^ n ∧ (0 < x → 2 ^ n ≤ 2 * x) := by
  rw [len32_eq]
  by_cases h16 : x ≥ 65536
  · rw [if_pos h16]
    by_cases h24 : x / 65536 ≥ 256
    · rw [if_pos h24, if_pos (by omega), if_pos (by omega)]
      obtain ⟨m, e1, e2, e3, e4⟩ := tab_ok (i := x / 65536 / 256 % 256) (by omega) (by omega)
      rw [e1]
      refine ⟨24 + m, by rw [w64 (x := (m : Int)) (by omega) (by omega), w64 (by omega) (by omega)]; exact congrArg some (by omega), by omega, ?_, fun _ => ?_⟩
      · rw [Int.pow_add]; omega
      · have := e4 (by omega); rw [Int.pow_add]; omega
    · rw [if_neg h24, if_pos (by omega), if_pos (by omega)]
      obtain ⟨m, e1, e2, e3, e4⟩ := tab_ok (i := x / 65536 % 256) (by omega) (by omega)
      rw [e1]
      refine ⟨16 + m, by rw [w64 (x := (m : Int)) (by omega) (by omega), w64 (by omega) (by omega)]; exact congrArg some (by omega), by omega, ?_, fun _ => ?_⟩
      · rw [Int.pow_add]; omega
      · have := e4 (by omega); rw [Int.pow_add]; omega
  · rw [if_neg h16]
    by_cases h8 : x ≥ 256
    · rw [if_pos h8, if_pos (by omega), if_pos (by omega)]
      obtain ⟨m, e1, e2, e3, e4⟩ := tab_ok (i := x / 256 % 256) (by omega) (by omega)
      rw [e1]
      refine ⟨8 + m, by rw [w64 (x := (m : Int)) (by omega) (by omega), w64 (by omega) (by omega)]; exact congrArg some (by omega), by omega, ?_, fun _ => ?_⟩
      · rw [Int.pow_add]; omega
      · have := e4 (by omega); rw [Int.pow_add]; omega
    · rw [if_neg h8, if_pos (by omega), if_pos (by omega)]
      obtain ⟨m, e1, e2, e3, e4⟩ := tab_ok (i := x % 256) (by omega) (by omega)
      rw [e1]
      refine ⟨m, by rw [w64 (x := (m : Int)) (by omega) (by omega), w64 (by omega) (by omega)]; exact congrArg some (by omega), by omega, by omega, fun _ => ?_⟩
      have := e4 (by omega); omega
theorem lz32 {x : Int} (h0 : 0 < x) (h1 : x < 4294967296) : ∃ s : Nat, bits_LeadingZeros32.f x = some (s : Int) ∧ s < 32 ∧ x * 2 ^ s < 4294967296 := by
  obtain ⟨n, e1, e2, e3, e4⟩ := len32 (Int.le_of_lt h0) h1
  have h5 : n ≠ 0 := by intro h; subst h; simp at e3; omega
  refine ⟨32 - n, ?_, by omega, ?_⟩
  · unfold bits_LeadingZeros32.f
    rw [e1, Option.bind_some, w64 (by omega) (by omega)]
    refine congrArg some ?_
    omega
  · have hp : (2 : Int) ^ n * 2 ^ (32 - n) = 4294967296 := by rw [← Int.pow_add, show n + (32 - n) = 32 by omega]; rfl
    have := Int.mul_lt_mul_of_pos_right e3 (pow_pos' (b := 2) (by decide) (32 - n))
    omega
end Go.Proofs.YtcofpbndaljppaaDoor.Num
