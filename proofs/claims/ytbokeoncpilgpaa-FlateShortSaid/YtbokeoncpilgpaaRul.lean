/- Rules for rounds; bytes and numbers of the laws. -/
import Derived.Test.YtbokeoncpilgpaaWWords
import Derived.Test.YtbokeoncpilgpaaWLast
import Derived.Test.YtbokeoncpilgpaaWMore
import Derived.Test.YtbokeoncpilgpaaHp0 -- the seat's own kinds
namespace Go.Proofs.Ytbokeoncpilgpaa.Pln
open Go.RowKit Go.Proofs.Ytbokeoncpilgpaa.Hp Go.Proofs.YtbokeoncpilgpaaW.PrintWords Go.Proofs.YtbokeoncpilgpaaW.PrintLast
theorem Ev.ifT {α : Type} {c : Prop} [Decidable c] {f g : Nat → Option α} {r : α} (h : c) (k : Ev f r) : Ev (fun n => if c then f n else g n) r := Ev.congr (fun _ => if_pos h) k
theorem Ev.ifF {α : Type} {c : Prop} [Decidable c] {f g : Nat → Option α} {r : α} (h : ¬ c) (k : Ev g r) : Ev (fun n => if c then f n else g n) r := Ev.congr (fun _ => if_neg h) k
theorem Ev.bindC {α β : Type} {o : Option α} {a : α} {f : Nat → α → Option β} {r : β} (h : o = some a) (k : Ev (fun n => f n a) r) : Ev (fun n => o.bind (f n)) r := Ev.congr (fun _ => by rw [h]; rfl) k
theorem wr64 {x : Int} (h0 : -9223372036854775808 ≤ x) (h1 : x < 9223372036854775808) : wrap64 x = x := by unfold wrap64; omega
theorem i64_of {x : Int} (h : (Lit.int .i64 x).wf = true) : -9223372036854775808 ≤ x ∧ x ≤ 9223372036854775807 := by
  simpa [Lit.wf, IntKind.min, IntKind.max, IntKind.bits, IntKind.signed] using h
theorem u8_of {x : Int} (h : (Lit.int .u8 x).wf = true) : 0 ≤ x ∧ x < 256 := by
  have : 0 ≤ x ∧ x ≤ 255 := by simpa [Lit.wf, IntKind.min, IntKind.max, IntKind.bits, IntKind.signed] using h
  omega
theorem nums_eq {a b : List Int} (h : a = b) : ((strOfNums a).toList == (strOfNums b).toList) = true := by rw [h]; simp
/-- A number cut down to a range, as the laws do it. -/
theorem cut_mod (x : Int) (n : Nat) (h : 0 < n) (hn : n ≤ 4611686018427387904) : ∃ k : Nat, k < n ∧ Int.tmod (wrap64 (Int.tmod x (n : Int) + (n : Int))) (n : Int) = (k : Int) := by
  have hp : (0 : Int) < (n : Int) := by omega
  have h1 : Int.tmod x (n : Int) < (n : Int) := Int.tmod_lt_of_pos x hp
  have h2 : -(n : Int) < Int.tmod x (n : Int) := by
    have := Int.lt_tmod_of_pos x hp
    omega
  obtain ⟨y, hy⟩ : ∃ y, Int.tmod x (n : Int) = y := ⟨_, rfl⟩
  rw [hy] at h1 h2 ⊢
  rw [wr64 (by omega) (by omega)]
  have h3 : 0 ≤ Int.tmod (y + (n : Int)) (n : Int) := Int.tmod_nonneg _ (by omega)
  have h4 : Int.tmod (y + (n : Int)) (n : Int) < (n : Int) := Int.tmod_lt_of_pos _ hp
  exact ⟨(Int.tmod (y + (n : Int)) (n : Int)).toNat, by omega, by omega⟩
end Go.Proofs.Ytbokeoncpilgpaa.Pln
