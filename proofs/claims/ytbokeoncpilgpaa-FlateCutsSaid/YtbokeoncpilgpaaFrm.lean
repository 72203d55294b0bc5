/- Both forms of a text: what Inflate makes of them. -/
import Derived.Test.YtbokeoncpilgpaaStd
import Derived.Test.YtbokeoncpilgpaaDfl
import Derived.Test.YtbokeoncpilgpaaRul
import Derived.Test.YtbokeoncpilgpaaHp2
import Derived.Test.YtbokeoncpilgpaaHp3
import Derived.Test.YtbokeoncpilgpaaHp9
namespace Go.Proofs.Ytbokeoncpilgpaa.Pln
open Go.RowKit Go.Proofs.Ytbokeoncpilgpaa.Hp Go.Proofs.YtbokeoncpilgpaaW.PrintWords Go.Proofs.YtbokeoncpilgpaaW.PrintLast
/-- What both forms of a text are. -/
def FormOK (F l : List Int) : Prop := (∀ x ∈ F, 0 ≤ x ∧ x < 256) ∧ F.length ≤ 16777216 ∧ 0 < F.length ∧ (∀ k, k < F.length → inflL (F.take k) 1048576 = ([], 0, 11)) ∧ (∀ (tail : List Int) (m : Int), 0 ≤ m → inflL (F ++ tail) m = if m < l.length then ([], 0, 12) else (l, ((F.length : Nat) : Int), 0))
theorem stored_form (l : List Int) (h : l.length ≤ 20000) (hb : ∀ x ∈ l, 0 ≤ x ∧ x < 256) : FormOK (storedL (l.length + 1) l) l := by
  have hl := storedL_len (l.length + 1) l (Nat.lt_succ_self _)
  refine ⟨storedL_byte _ _ hb, by omega, by omega, fun k hk => infl_stored_cut l k _ (by omega) hk, fun tail m hm => infl_stored l tail m hm⟩
theorem deflG_len (l : List Int) : ∀ f at_, at_ ≤ l.length → (deflG l f at_).length ≤ 60 * (l.length - at_)
  | 0, at_, _ => by simp [deflG]
  | f + 1, at_, ha => by
    rw [deflG]
    by_cases h : at_ < l.length
    · rw [if_pos h]
      by_cases h3 : (matchP l at_).1 < 3
      · rw [if_pos h3, List.length_append]
        have h1 := signB_len (l.getD at_ 0).toNat
        have h2 := deflG_len l f (at_ + 1) (by omega)
        omega
      · rw [if_neg h3, List.length_append]
        have h1 := copyB_len (matchP l at_).1 (matchP l at_).2
        have h4 := (matchP_le l at_ ha).2.2.1
        have h2 := deflG_len l f (at_ + (matchP l at_).1) h4
        omega
    · rw [if_neg h]; simp
theorem defl_form (l : List Int) (h : l.length ≤ 20000) (hb : ∀ x ∈ l, 0 ≤ x ∧ x < 256) : FormOK (bytesL (deflB l)) l := by
  have h1 := bytesL_len (deflB l)
  have h2 := deflB_len l
  have h3 := deflG_len l (l.length + 1) 0 (by omega)
  refine ⟨deflL_byte l, by omega, by omega, fun k hk => ?_, fun tail m hm => ?_⟩
  · rw [infl_defl l 1048576 (by decide) hb (AtB.cut _ _) (.inr (by omega)), if_neg]
    rw [List.length_take]
    omega
  · have hlen : (deflB l).length ≤ 8 * (bytesL (deflB l) ++ tail).length := by rw [List.length_append]; omega
    rw [infl_defl l m hm hb (AtB.pre _ _) (.inl hlen), if_pos hlen]
theorem infl_f (l : List Int) (m : Int) (h1 : l.length ≤ 16777216) (h2 : m ≤ 9223372036854775807) (h3 : ∀ x ∈ l, 0 ≤ x ∧ x < 256) : flate_Inflate.f l m = some (inflL l m) := if_pos ⟨h1, h2, h3⟩
theorem stored_f (l : List Int) (h : l.length ≤ 1099511627776) : flate_Stored.f l = some (storedL (l.length + 1) l) := if_pos h
theorem defl_f (l : List Int) (h : l.length ≤ 65536) (h3 : ∀ x ∈ l, 0 ≤ x ∧ x < 256) : flate_Deflate.f l = some (bytesL (deflB l), 0) := by
  have e : deflL l = (bytesL (deflB l), 0) := if_neg (by omega)
  rw [← e]
  exact if_pos ⟨by omega, h3⟩
theorem FormOK.self {F l : List Int} (h : FormOK F l) (m : Int) (hm : 0 ≤ m) : inflL F m = if m < l.length then ([], 0, 12) else (l, ((F.length : Nat) : Int), 0) := by
  have := h.2.2.2.2 [] m hm
  rw [List.append_nil] at this
  exact this
end Go.Proofs.Ytbokeoncpilgpaa.Pln
