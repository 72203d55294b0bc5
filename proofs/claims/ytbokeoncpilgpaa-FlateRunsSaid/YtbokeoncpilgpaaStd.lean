/- A text in blocks as it is: read again, cut, and with too little room. -/
import Derived.Test.YtbokeoncpilgpaaBts
import Derived.Test.YtbokeoncpilgpaaHp1
import Derived.Test.YtbokeoncpilgpaaHp3
import Derived.Test.YtbokeoncpilgpaaHp9
namespace Go.Proofs.Ytbokeoncpilgpaa.Pln
open Go.RowKit Go.Proofs.Ytbokeoncpilgpaa.Hp Go.Proofs.YtbokeoncpilgpaaW.PrintWords Go.Proofs.YtbokeoncpilgpaaW.PrintLast
theorem head_at {B : List Int} {p n last : Nat} {data : List Int} (h : AtB B p (stHead last n ++ data)) : (p < B.length → B.getD p 0 = (last : Int)) ∧ (p + 5 ≤ B.length → B.getD (p + 1) 0 = ((n % 256 : Nat) : Int) ∧ B.getD (p + 2) 0 = ((n / 256 : Nat) : Int) ∧ B.getD (p + 3) 0 = ((255 - n % 256 : Nat) : Int) ∧ B.getD (p + 4) 0 = ((255 - n / 256 : Nat) : Int)) := by
  have h0 := h.left
  exact ⟨fun hp => h0 0 (show 0 < 5 by decide) hp, fun hp => ⟨h0 1 (by decide : 1 < 5) (by omega), h0 2 (by decide : 2 < 5) (by omega), h0 3 (by decide : 3 < 5) (by omega), h0 4 (by decide : 4 < 5) (by omega)⟩⟩
theorem head_bits {B : List Int} {p last : Nat} (h : B.getD p 0 = (last : Int)) (hl : last < 2) : bitAt B (8 * p) = last ∧ numAt B (8 * p + 1) 2 = 0 := by
  have e : ∀ i, i < 8 → bitAt B (8 * p + i) = last / 2 ^ i % 2 := fun i hi => by rw [bit_byte B p i hi, h, Int.toNat_natCast]
  have e0 := e 0 (by decide)
  have e1 := e 1 (by decide)
  have e2 := e 2 (by decide)
  rw [Nat.add_zero] at e0
  refine ⟨by rw [e0]; omega, ?_⟩
  simp only [numAt]
  rw [Nat.add_zero, e1, show 8 * p + 1 + 1 = 8 * p + 2 from rfl, e2]
  omega
theorem raw_nums {B : List Int} {p n last : Nat} {data : List Int} (h : AtB B p (stHead last n ++ data)) (hp : p + 5 ≤ B.length) (hn : n ≤ 65535) : numAt B (8 * (p + 1)) 16 = n ∧ numAt B (8 * (p + 1) + 16) 16 = 65535 - n := by
  obtain ⟨h1, h2, h3, h4⟩ := (head_at h).2 hp
  refine ⟨?_, ?_⟩
  · rw [num_two B (p + 1) _ _ h1 (by omega) h2 (by omega)]; omega
  · rw [show 8 * (p + 1) + 16 = 8 * (p + 3) by omega, num_two B (p + 3) _ _ h3 (by omega) h4 (by omega)]; omega
/-- A block, whole. -/
theorem block_full {B : List Int} {p n last : Nat} {data O : List Int} (m : Int) (K : Nat → List Int → Except Int (Nat × List Int)) (h : AtB B p (stHead last n ++ data)) (hd : data.length = n) (hl : last < 2) (hn : n ≤ 65535) (hp : p + 5 + n ≤ B.length) :
    allStep B m K (8 * p) O = if m < (O.length : Int) + n then .error 12 else if last = 0 then K (8 * (p + 5 + n)) (O ++ data) else .ok (8 * (p + 5 + n), O ++ data) := by
  obtain ⟨b0, b1⟩ := head_bits ((head_at h).1 (by omega)) hl
  obtain ⟨n1, n2⟩ := raw_nums h (by omega) hn
  have hr : rawL B (8 * p + 3) O m = if m < (O.length : Int) + n then .error 12 else .ok (8 * (p + 5 + n), O ++ data) := by
    unfold rawL
    rw [show (8 * p + 3 + 7) / 8 = p + 1 by omega, Nat.mul_comm (p + 1) 8, n1, n2, if_neg (by omega), if_neg (by omega)]
    by_cases hm : m < (O.length : Int) + n
    · rw [if_pos hm, if_pos hm]
    · rw [if_neg hm, if_neg hm, if_neg (by omega)]
      have ht := (h.right (a := stHead last n) (b := data)).take hd (by show p + 5 + n ≤ _; omega)
      rw [show (stHead (last : Int) n).length = 5 from rfl] at ht
      rw [show p + 1 + 4 = p + 5 from rfl, ht, show 8 * (p + 1) + 32 + 8 * n = 8 * (p + 5 + n) by omega]
  unfold allStep
  rw [if_neg (by omega), b1]
  unfold blockL
  rw [if_pos rfl, hr, b0]
  by_cases hm : m < (O.length : Int) + n
  · rw [if_pos hm, if_pos hm]
  · rw [if_neg hm, if_neg hm]
/-- A block that is cut. -/
theorem block_cut {B : List Int} {p n last : Nat} {data O : List Int} (m : Int) (K : Nat → List Int → Except Int (Nat × List Int)) (h : AtB B p (stHead last n ++ data)) (hl : last < 2) (hn : n ≤ 65535) (hp : B.length < p + 5 + n) (hpb : p ≤ B.length) (hm : (O.length : Int) + n ≤ m) :
    allStep B m K (8 * p) O = .error 11 := by
  unfold allStep
  by_cases h0 : p < B.length
  · obtain ⟨b0, b1⟩ := head_bits ((head_at h).1 h0) hl
    rw [if_neg (by omega), b1]
    unfold blockL
    rw [if_pos rfl]
    have hr : rawL B (8 * p + 3) O m = .error 11 := by
      unfold rawL
      rw [show (8 * p + 3 + 7) / 8 = p + 1 by omega, Nat.mul_comm (p + 1) 8]
      by_cases h5 : p + 5 ≤ B.length
      · obtain ⟨n1, n2⟩ := raw_nums h h5 hn
        rw [n1, n2, if_neg (by omega), if_neg (by omega), if_neg (by omega), if_pos (by omega)]
      · rw [if_pos (by omega)]
    rw [hr]
  · rw [if_pos (by omega)]
/-- Blocks, whole. -/
theorem stored_full {B : List Int} (m : Int) : ∀ k l p O f, l.length < k → AtB B p (storedL k l) → p + (storedL k l).length ≤ B.length → 8 * B.length - 8 * p < f →
    allL B m f (8 * p) O = if m < (O.length : Int) + l.length then .error 12 else .ok (8 * (p + (storedL k l).length), O ++ l)
  | 0, l, p, O, f, hk, _, _, _ => by omega
  | k + 1, l, p, O, f, hk, h, hp, hf => by
    obtain ⟨f, rfl⟩ : ∃ f2, f = f2 + 1 := ⟨f - 1, by omega⟩
    by_cases hx : l.length ≤ 65535
    · rw [storedL_last k l hx] at h hp ⊢
      have hlen : (stHead 1 l.length ++ l).length = 5 + l.length := by rw [List.length_append]; rfl
      rw [hlen] at hp ⊢
      show allStep B m (allL B m f) (8 * p) O = _
      rw [block_full (last := 1) (n := l.length) m _ h rfl (by decide) hx (by omega), if_neg (show ¬ (1 : Nat) = 0 by decide), Nat.add_assoc]
    · rw [storedL_more k l hx] at h hp ⊢
      have hlen : (stHead 0 65535 ++ l.take 65535 ++ storedL k (l.drop 65535)).length = 65540 + (storedL k (l.drop 65535)).length := by
        rw [List.length_append, List.length_append, List.length_take, show (stHead 0 65535).length = 5 from rfl]; omega
      rw [hlen] at hp ⊢
      have hl1 : (l.take 65535).length = 65535 := by rw [List.length_take]; omega
      have hl2 : (l.drop 65535).length = l.length - 65535 := List.length_drop
      have h1 := h.left
      have h2 := h.right
      rw [List.length_append, hl1, show (stHead 0 65535).length = 5 from rfl, show p + (5 + 65535) = p + 5 + 65535 by omega] at h2
      show allStep B m (allL B m f) (8 * p) O = _
      rw [block_full (last := 0) (n := 65535) m _ h1 hl1 (by decide) (by decide) (by omega)]
      by_cases hm : m < (O.length : Int) + (65535 : Nat)
      · rw [if_pos hm, if_pos (by omega)]
      · rw [if_neg hm, if_pos rfl, stored_full m k (l.drop 65535) (p + 5 + 65535) (O ++ l.take 65535) f (by omega) h2 (by omega) (by omega)]
        have e : ((O ++ l.take 65535).length : Int) + (l.drop 65535).length = (O.length : Int) + l.length := by rw [List.length_append, hl1, hl2]; omega
        rw [e, List.append_assoc, List.take_append_drop, show p + 5 + 65535 + (storedL k (l.drop 65535)).length = p + (65540 + (storedL k (l.drop 65535)).length) by omega]
/-- Blocks that are cut. -/
theorem stored_cut {B : List Int} (m : Int) : ∀ k l p O f, l.length < k → AtB B p (storedL k l) → B.length < p + (storedL k l).length → p ≤ B.length → 8 * B.length - 8 * p < f → (O.length : Int) + l.length ≤ m →
    allL B m f (8 * p) O = .error 11
  | 0, l, p, O, f, hk, _, _, _, _, _ => by omega
  | k + 1, l, p, O, f, hk, h, hp, hpb, hf, hm => by
    obtain ⟨f, rfl⟩ : ∃ f2, f = f2 + 1 := ⟨f - 1, by omega⟩
    by_cases hx : l.length ≤ 65535
    · rw [storedL_last k l hx] at h hp
      have hlen : (stHead 1 l.length ++ l).length = 5 + l.length := by rw [List.length_append]; rfl
      rw [hlen] at hp
      exact block_cut (last := 1) (n := l.length) m _ h (by decide) hx (by omega) hpb hm
    · rw [storedL_more k l hx] at h hp
      have hlen : (stHead 0 65535 ++ l.take 65535 ++ storedL k (l.drop 65535)).length = 65540 + (storedL k (l.drop 65535)).length := by
        rw [List.length_append, List.length_append, List.length_take, show (stHead 0 65535).length = 5 from rfl]; omega
      rw [hlen] at hp
      have hl1 : (l.take 65535).length = 65535 := by rw [List.length_take]; omega
      have hl2 : (l.drop 65535).length = l.length - 65535 := List.length_drop
      have h1 := h.left
      have h2 := h.right
      rw [List.length_append, hl1, show (stHead 0 65535).length = 5 from rfl, show p + (5 + 65535) = p + 5 + 65535 by omega] at h2
      show allStep B m (allL B m f) (8 * p) O = _
      by_cases hc : B.length < p + 5 + 65535
      · exact block_cut (last := 0) (n := 65535) m _ h1 (by decide) (by decide) hc hpb (by omega)
      · rw [block_full (last := 0) (n := 65535) m _ h1 hl1 (by decide) (by decide) (by omega), if_neg (by omega), if_pos rfl]
        exact stored_cut m k (l.drop 65535) (p + 5 + 65535) (O ++ l.take 65535) f (by omega) h2 (by omega) (by omega) (by omega) (by rw [List.length_append, hl1, hl2]; omega)
theorem storedL_len : ∀ k l, l.length < k → (storedL k l).length = l.length + 5 * max 1 ((l.length + 65534) / 65535)
  | 0, l, h => by omega
  | k + 1, l, h => by
    by_cases hx : l.length ≤ 65535
    · rw [storedL_last k l hx, List.length_append, show (stHead 1 l.length).length = 5 from rfl]
      omega
    · rw [storedL_more k l hx, List.length_append, List.length_append, List.length_take, show (stHead 0 65535).length = 5 from rfl, storedL_len k (l.drop 65535) (by rw [List.length_drop]; omega), List.length_drop]
      omega
theorem storedL_byte : ∀ k l, (∀ x ∈ l, 0 ≤ x ∧ x < 256) → ∀ x ∈ storedL k l, 0 ≤ x ∧ x < 256
  | 0, l, _, x, hx => by cases hx
  | k + 1, l, h, x, hx => by
    have hd : ∀ (b n : Nat), b < 2 → n ≤ 65535 → ∀ y ∈ stHead b n, 0 ≤ y ∧ y < 256 := by
      intro b n hb hn y hy
      unfold stHead at hy
      simp only [List.mem_cons, List.not_mem_nil, or_false] at hy
      rcases hy with rfl | rfl | rfl | rfl | rfl <;> omega
    by_cases hl : l.length ≤ 65535
    · rw [storedL_last k l hl] at hx
      rcases List.mem_append.1 hx with hx | hx
      · exact hd 1 _ (by decide) hl x hx
      · exact h x hx
    · rw [storedL_more k l hl] at hx
      rcases List.mem_append.1 hx with hx | hx
      · rcases List.mem_append.1 hx with hx | hx
        · exact hd 0 65535 (by decide) (by decide) x hx
        · exact h x (List.mem_of_mem_take hx)
      · exact storedL_byte k _ (fun y hy => h y (List.mem_of_mem_drop hy)) x hx
/-- Stored text, whatever stands behind. -/
theorem infl_stored (l tail : List Int) (m : Int) (hm : 0 ≤ m) : inflL (storedL (l.length + 1) l ++ tail) m = if m < l.length then ([], 0, 12) else (l, (((storedL (l.length + 1) l).length : Nat) : Int), 0) := by
  unfold inflL
  rw [if_neg (by omega)]
  have h := stored_full (B := storedL (l.length + 1) l ++ tail) m (l.length + 1) l 0 [] (8 * (storedL (l.length + 1) l ++ tail).length + 1) (by omega) (AtB.pre _ _) (by rw [List.length_append]; omega) (by omega)
  rw [Nat.mul_zero] at h
  rw [h]
  simp only [List.length_nil, Nat.zero_add, List.nil_append]
  by_cases hc : m < (l.length : Int)
  · rw [if_pos (by simpa using hc), if_pos hc]; rfl
  · rw [if_neg (by simpa using hc), if_neg hc]
    show (l, (((8 * (storedL (l.length + 1) l).length + 7) / 8 : Nat) : Int), (0 : Int)) = _
    rw [show (8 * (storedL (l.length + 1) l).length + 7) / 8 = (storedL (l.length + 1) l).length by omega]
theorem infl_stored_cut (l : List Int) (k : Nat) (m : Int) (hm : (l.length : Int) ≤ m) (hk : k < (storedL (l.length + 1) l).length) : inflL ((storedL (l.length + 1) l).take k) m = ([], 0, 11) := by
  unfold inflL
  rw [if_neg (by omega)]
  have hl : ((storedL (l.length + 1) l).take k).length = k := by rw [List.length_take]; omega
  have h := stored_cut (B := (storedL (l.length + 1) l).take k) m (l.length + 1) l 0 [] (8 * ((storedL (l.length + 1) l).take k).length + 1) (by omega) (AtB.cut _ _) (by rw [hl]; omega) (Nat.zero_le _) (by omega) (by simpa using hm)
  rw [Nat.mul_zero] at h
  rw [h]
  rfl
end Go.Proofs.Ytbokeoncpilgpaa.Pln
