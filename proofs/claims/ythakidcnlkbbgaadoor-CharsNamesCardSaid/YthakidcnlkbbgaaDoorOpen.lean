/- Readings of arguments that are slices of texts, of slices, of structs: what a law's argument reads as, laid open to the kinds in which the printed contracts speak. Plain lemmas, no program of their own. -/
import Derived.Test.YthakidcnlkbbgaaDoorWWords
import Derived.Deep.Slices
import Derived.Deep.Fields
import Derived.ChangeSame
import Derived.WalkKit
import Derived.ProofKit
namespace Go.Proofs.YthakidcnlkbbgaaDoorW.Open
open Go.ChangeShapes Go.WideShapes Go.Deep Go.Proofs.YthakidcnlkbbgaaDoorW.PrintWords

theorem list_of {α : Type} (Q : Nat → α → Prop) : ∀ n, (∀ i, i < n → ∃ a, Q i a) → ∃ xs : List α, xs.length = n ∧ ∀ i a, xs[i]? = some a → Q i a := by
  intro n
  induction n with
  | zero => exact fun _ => ⟨[], rfl, fun i a h => by simp at h⟩
  | succ n ih =>
    intro h
    obtain ⟨xs, hl, hx⟩ := ih (fun i hi => h i (by omega))
    obtain ⟨a, ha⟩ := h n (by omega)
    refine ⟨xs ++ [a], by simp [hl], fun i b hb => ?_⟩
    by_cases hi : i < n
    · rw [List.getElem?_append_left (by omega)] at hb
      exact hx i b hb
    · rw [List.getElem?_append_right (by omega)] at hb
      have : i - xs.length = 0 := by
        rcases Nat.eq_zero_or_pos (i - xs.length) with e | e
        · exact e
        · rw [List.getElem?_eq_none (by simp; omega)] at hb
          cases hb
      rw [this] at hb
      simp at hb
      subst hb
      obtain rfl : i = n := by omega
      exact ha
section
variable {H : Type} {enc : TypeId × Value → H} {P : Program} {W : World} {base : Nat} {spare : Nat → Bool} {held : Bool}
/-- What reads as a datum of type t is a value of this kind. -/
def EL (enc : TypeId × Value → H) (P : Program) (W : World) (base : Nat) (spare : Nat → Bool) (held : Bool) {α : Type} (d : Kd α) (G : α → Prop) (t : TypeId) : Prop :=
  ∀ (n : Nat) (cs : List Value) (x : DataW H × List MemPlace), DataW.trod enc P W base spare held n t cs = some x → ∃ a, d.K W a cs ∧ G a
theorem el_int {k : IntKind} {t : TypeId} (ht : P.underlying t = some (.int k)) : EL enc P W base spare held (Kd.int k) (fun a => (Lit.int k a).wf = true) t := by
  intro n cs x h
  obtain ⟨a, rfl, _, hw⟩ := DataW.trod_int ht h
  exact ⟨a, rfl, hw⟩
theorem el_string {t : TypeId} (ht : P.underlying t = some .string) : EL enc P W base spare held Kd.string (fun a => a.size ≤ maxLen) t := by
  intro n cs x h
  obtain ⟨a, rfl, _, hw⟩ := DataW.trod_string ht h
  exact ⟨a, rfl, hw⟩
theorem el_slice {α : Type} {d : Kd α} {G : α → Prop} {t e : TypeId} (ht : P.underlying t = some (.slice e)) (hc : P.cellsOf e = d.sz) (h : EL enc P W base spare held d G e) :
    EL enc P W base spare held (Kd.slice e d) (fun l => l.length ≤ maxLen ∧ ∀ x ∈ l, G x) t := by
  intro n cs x hx
  rcases open_slice ht hx with ⟨rfl, _⟩ | ⟨a, len, cap, m, n', D, Pl, rfl, hb, hl, hm, hmm, _, hi⟩
  · exact ⟨[], ⟨none, 0, rfl, Nat.le_refl _, Kd.C_nil _ _⟩, by simp, fun _ h => by cases h⟩
  · obtain ⟨xs, hxl, hxs⟩ := list_of (fun i a' => (∃ c, c.length = d.sz ∧ d.K W a' c ∧ ∀ j u, c[j]? = some u → W.cell? (a.add (i * d.sz + j)) = some u) ∧ G a') len (fun i hil => by
      obtain ⟨cs', hcs, htr⟩ := hi i (by rw [hmm]; split <;> omega)
      obtain ⟨a', hk, hg⟩ := h _ _ _ htr
      obtain ⟨_, hcl, hat⟩ := World.cells?_some hcs
      refine ⟨a', ⟨cs', by rw [hcl, hc], hk, fun j u hu => ?_⟩, hg⟩
      have hj : j < cs'.length := by
        rcases Nat.lt_or_ge j cs'.length with h' | h'
        · exact h'
        · rw [List.getElem?_eq_none h'] at hu; cases hu
      have := hat j (by omega)
      rw [hu, hc, Go.Deep.add_add] at this
      exact this)
    refine ⟨xs, ⟨some a, cap, by rw [hxl], by omega, rfl, by unfold maxLen at hm; omega, fun _ => ⟨a, rfl, fun j p hp => (hxs j p hp).1⟩⟩, by omega, fun y hy => ?_⟩
    obtain ⟨j, hj⟩ := List.getElem?_of_mem hy
    exact (hxs j y hj).2
theorem el_struct2 {α β : Type} {a : Kd α} {b : Kd β} {G0 : α → Prop} {G1 : β → Prop} {t : TypeId} {f0 f1 : Field} (ht : P.underlying t = some (.struct #[f0, f1])) (hone : oneCellFields P #[f0, f1] = true) (hC : P.cellsOf t = 2)
    (h0 : EL enc P W base spare held a G0 f0.type) (h1 : EL enc P W base spare held b G1 f1.type) : EL enc P W base spare held (Kd.pair a b) (fun x => G0 x.1 ∧ G1 x.2) t := by
  intro n cs x h
  obtain ⟨ys, n', _, _, hlen, hyl, hf⟩ := DataW.trod_struct ht h
  obtain ⟨o0, k0⟩ := hone_of hone 0 f0 rfl
  obtain ⟨o1, k1⟩ := hone_of hone 1 f1 rfl
  match cs, hlen.trans hC, ys, hyl with
  | [c0, c1], _, [y0, y1], _ =>
    have e0 := hf 0 f0 rfl
    have e1 := hf 1 f1 rfl
    rw [o0, k0] at e0
    rw [o1, k1] at e1
    obtain ⟨x0, q0, g0⟩ := h0 _ _ _ e0
    obtain ⟨x1, q1, g1⟩ := h1 _ _ _ e1
    exact ⟨(x0, x1), ⟨[c0], [c1], rfl, q0, q1⟩, g0, g1⟩
theorem el_iso {α β : Type} {d : Kd α} {G : α → Prop} {t : TypeId} {f : β → α} (g : α → β) (hg : ∀ x, f (g x) = x) (h : EL enc P W base spare held d G t) : EL enc P W base spare held (Kd.iso d f) (fun y => G (f y)) t := by
  intro n cs x hx
  obtain ⟨a, hk, ha⟩ := h n cs x hx
  exact ⟨g a, by show d.K W (f (g a)) cs; rw [hg]; exact hk, by show G (f (g a)); rw [hg]; exact ha⟩
/-- A slice argument. -/
theorem arg_slice {α : Type} {d : Kd α} {G : α → Prop} {t e : TypeId} {A : Option Addr} {len cap : Nat} {D : DataW H} {ps : List MemPlace} (h : EL enc P W base spare held (Kd.slice e d) (fun l => l.length ≤ maxLen ∧ ∀ x ∈ l, G x) t)
    (ht : DataW.Trod enc P W base spare held t (.slice A len cap) D ps) : ∃ l : List α, len = l.length ∧ l.length ≤ cap ∧ Kd.C d W A l.length l ∧ l.length ≤ maxLen ∧ ∀ x ∈ l, G x := by
  obtain ⟨fuel, hf⟩ := ht
  obtain ⟨l, ⟨A', c', he, hl, hC⟩, hm, hG⟩ := h _ _ _ hf
  simp [Value.cells] at he
  obtain ⟨rfl, rfl, rfl⟩ := he
  exact ⟨l, rfl, hl, hC, hm, hG⟩
end
end Go.Proofs.YthakidcnlkbbgaaDoorW.Open
