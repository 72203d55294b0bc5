/- Readings of arguments that are slices of texts, of slices, of structs: what a law's argument reads as, laid open to the kinds in which the printed contracts speak. Plain lemmas, no program of their own. -/
import Derived.Test.YtcikjghmelbkaaaDoorWWords
import Derived.Deep.Slices
import Derived.Deep.Fields
import Derived.ChangeSame
import Derived.WalkKit
import Derived.ProofKit
import Derived.OpenShut
import Derived.Lib.SmallJoins
namespace Go.Proofs.YtcikjghmelbkaaaDoorW.Open
open Go.ChangeShapes Go.WideShapes Go.Deep Go.Proofs.YtcikjghmelbkaaaDoorW.PrintWords

theorem list_of {α : Type} (Q : Nat → α → Prop) : ∀ n, (∀ i, i < n → ∃ a, Q i a) → ∃ xs : List α, xs.length = n ∧ ∀ i a, xs[i]? = some a → Q i a := by
  intro n
  induction n with
  | zero => exact fun _ => ⟨[], rfl, fun i a h => by simp at h⟩
  | succ n ih =>
    intro h
    obtain ⟨xs, hl, hx⟩ := ih (fun i hi => h i (by omega))
    obtain ⟨a, ha⟩ := h n (by omega)
    refine ⟨xs ++ [a], by simp [hl], fun i b hb => ?_⟩
    by_cases hi : i < n
    · rw [List.getElem?_append_left (by omega)] at hb
      exact hx i b hb
    · rw [List.getElem?_append_right (by omega)] at hb
      have : i - xs.length = 0 := by
        rcases Nat.eq_zero_or_pos (i - xs.length) with e | e
        · exact e
        · rw [List.getElem?_eq_none (by simp; omega)] at hb
          cases hb
      rw [this] at hb
      simp at hb
      subst hb
      obtain rfl : i = n := by omega
      exact ha
section
variable {H : Type} {enc : TypeId × Value → H} {P : Program} {W : World} {base : Nat} {spare : Nat → Bool} {held : Bool}
/-- What reads as a datum of type t is a value of this kind. -/
def EL (enc : TypeId × Value → H) (P : Program) (W : World) (base : Nat) (spare : Nat → Bool) (held : Bool) {α : Type} (d : Kd α) (G : α → Prop) (t : TypeId) : Prop :=
  ∀ (n : Nat) (cs : List Value) (x : DataW H × List MemPlace), DataW.trod enc P W base spare held n t cs = some x → ∃ a, d.K W a cs ∧ G a
theorem el_int {k : IntKind} {t : TypeId} (ht : P.underlying t = some (.int k)) : EL enc P W base spare held (Kd.int k) (fun a => (Lit.int k a).wf = true) t := by
  intro n cs x h
  obtain ⟨a, rfl, _, hw⟩ := DataW.trod_int ht h
  exact ⟨a, rfl, hw⟩
theorem el_string {t : TypeId} (ht : P.underlying t = some .string) : EL enc P W base spare held Kd.string (fun a => a.size ≤ maxLen) t := by
  intro n cs x h
  obtain ⟨a, rfl, _, hw⟩ := DataW.trod_string ht h
  exact ⟨a, rfl, hw⟩
theorem el_slice {α : Type} {d : Kd α} {G : α → Prop} {t e : TypeId} (ht : P.underlying t = some (.slice e)) (hc : P.cellsOf e = d.sz) (h : EL enc P W base spare held d G e) :
    EL enc P W base spare held (Kd.slice e d) (fun l => l.length ≤ maxLen ∧ ∀ x ∈ l, G x) t := by
  intro n cs x hx
  rcases open_slice ht hx with ⟨rfl, _⟩ | ⟨a, len, cap, m, n', D, Pl, rfl, hb, hl, hm, hmm, _, hi⟩
  · exact ⟨[], ⟨none, 0, rfl, Nat.le_refl _, Kd.C_nil _ _⟩, by simp, fun _ h => by cases h⟩
  · obtain ⟨xs, hxl, hxs⟩ := list_of (fun i a' => (∃ c, c.length = d.sz ∧ d.K W a' c ∧ ∀ j u, c[j]? = some u → W.cell? (a.add (i * d.sz + j)) = some u) ∧ G a') len (fun i hil => by
      obtain ⟨cs', hcs, htr⟩ := hi i (by rw [hmm]; split <;> omega)
      obtain ⟨a', hk, hg⟩ := h _ _ _ htr
      obtain ⟨_, hcl, hat⟩ := World.cells?_some hcs
      refine ⟨a', ⟨cs', by rw [hcl, hc], hk, fun j u hu => ?_⟩, hg⟩
      have hj : j < cs'.length := by
        rcases Nat.lt_or_ge j cs'.length with h' | h'
        · exact h'
        · rw [List.getElem?_eq_none h'] at hu; cases hu
      have := hat j (by omega)
      rw [hu, hc, Go.Deep.add_add] at this
      exact this)
    refine ⟨xs, ⟨some a, cap, by rw [hxl], by omega, rfl, by unfold maxLen at hm; omega, fun _ => ⟨a, rfl, fun j p hp => (hxs j p hp).1⟩⟩, by omega, fun y hy => ?_⟩
    obtain ⟨j, hj⟩ := List.getElem?_of_mem hy
    exact (hxs j y hj).2
theorem el_struct2 {α β : Type} {a : Kd α} {b : Kd β} {G0 : α → Prop} {G1 : β → Prop} {t : TypeId} {f0 f1 : Field} (ht : P.underlying t = some (.struct #[f0, f1])) (hone : oneCellFields P #[f0, f1] = true) (hC : P.cellsOf t = 2)
    (h0 : EL enc P W base spare held a G0 f0.type) (h1 : EL enc P W base spare held b G1 f1.type) : EL enc P W base spare held (Kd.pair a b) (fun x => G0 x.1 ∧ G1 x.2) t := by
  intro n cs x h
  obtain ⟨ys, n', _, _, hlen, hyl, hf⟩ := DataW.trod_struct ht h
  obtain ⟨o0, k0⟩ := hone_of hone 0 f0 rfl
  obtain ⟨o1, k1⟩ := hone_of hone 1 f1 rfl
  match cs, hlen.trans hC, ys, hyl with
  | [c0, c1], _, [y0, y1], _ =>
    have e0 := hf 0 f0 rfl
    have e1 := hf 1 f1 rfl
    rw [o0, k0] at e0
    rw [o1, k1] at e1
    obtain ⟨x0, q0, g0⟩ := h0 _ _ _ e0
    obtain ⟨x1, q1, g1⟩ := h1 _ _ _ e1
    exact ⟨(x0, x1), ⟨[c0], [c1], rfl, q0, q1⟩, g0, g1⟩
theorem el_iso {α β : Type} {d : Kd α} {G : α → Prop} {t : TypeId} {f : β → α} (g : α → β) (hg : ∀ x, f (g x) = x) (h : EL enc P W base spare held d G t) : EL enc P W base spare held (Kd.iso d f) (fun y => G (f y)) t := by
  intro n cs x hx
  obtain ⟨a, hk, ha⟩ := h n cs x hx
  exact ⟨g a, by show d.K W (f (g a)) cs; rw [hg]; exact hk, by show G (f (g a)); rw [hg]; exact ha⟩
/-- A slice argument. -/
theorem arg_slice {α : Type} {d : Kd α} {G : α → Prop} {t e : TypeId} {A : Option Addr} {len cap : Nat} {D : DataW H} {ps : List MemPlace} (h : EL enc P W base spare held (Kd.slice e d) (fun l => l.length ≤ maxLen ∧ ∀ x ∈ l, G x) t)
    (ht : DataW.Trod enc P W base spare held t (.slice A len cap) D ps) : ∃ l : List α, len = l.length ∧ l.length ≤ cap ∧ Kd.C d W A l.length l ∧ l.length ≤ maxLen ∧ ∀ x ∈ l, G x := by
  obtain ⟨fuel, hf⟩ := ht
  obtain ⟨l, ⟨A', c', he, hl, hC⟩, hm, hG⟩ := h _ _ _ hf
  simp [Value.cells] at he
  obtain ⟨rfl, rfl, rfl⟩ := he
  exact ⟨l, rfl, hl, hC, hm, hG⟩
/-- A part of an argument that is one value of some parts: a slice, a number. -/
theorem leaf_slice {α : Type} {d : Kd α} {G : α → Prop} {t e n : Nat} {v : Value} {x : DataW H × List MemPlace} (h : EL enc P W base spare held (Kd.slice e d) (fun l => l.length ≤ maxLen ∧ ∀ x ∈ l, G x) t)
    (hx : DataW.trod enc P W base spare held n t [v] = some x) : ∃ (A : Option Addr) (c : Nat) (l : List α), v = .slice A l.length c ∧ l.length ≤ c ∧ Kd.C d W A l.length l ∧ l.length ≤ maxLen ∧ ∀ x ∈ l, G x := by
  obtain ⟨l, ⟨A, c, he, hl, hC⟩, hm, hG⟩ := h _ _ _ hx
  cases he
  exact ⟨A, c, l, rfl, hl, hC, hm, hG⟩
theorem leaf_int {k : IntKind} {t n : Nat} {v : Value} {x : DataW H × List MemPlace} (ht : P.underlying t = some (.int k)) (hx : DataW.trod enc P W base spare held n t [v] = some x) : ∃ a, v = .int k a ∧ (Lit.int k a).wf = true := by
  obtain ⟨a, he, _, hw⟩ := DataW.trod_int ht hx
  cases he
  exact ⟨a, rfl, hw⟩
theorem okWide_array {r : Reach} {b0 : Nat} {t e n : Nat} {v : Value} (ht : P.underlying t = some (.array n e)) (h : Value.okWide P W r b0 t v) : ∃ cs, v = .agg cs ∧ cs.size = P.cellsOf t := by
  simp only [Value.okWide, ht] at h
  obtain ⟨cs, h1, h2, _⟩ := h
  exact ⟨cs, h1, h2⟩
theorem open_arr2 {r : Reach} {b0 : Nat} {t e : Nat} {v : Value} {D : DataW H} {ps : List MemPlace} (ht : P.underlying t = some (.array 2 e)) (hC : P.cellsOf t = 2) (he : P.cellsOf e = 1) (hv : Value.okWide P W r b0 t v)
    (h : DataW.Trod enc P W base spare held t v D ps) : ∃ (v0 v1 : Value) (y0 y1 : DataW H × List MemPlace) (n : Nat), v = .agg #[v0, v1] ∧
      DataW.trod enc P W base spare held n e [v0] = some y0 ∧ DataW.trod enc P W base spare held n e [v1] = some y1 := by
  obtain ⟨cs, rfl, hsz⟩ := okWide_array ht hv
  obtain ⟨c0, c1, rfl⟩ := Go.Joins.array2 (hsz.trans hC)
  obtain ⟨fuel, hf⟩ := h
  obtain ⟨xs, m, _, _, _, hl, hi⟩ := DataW.trod_array ht hf
  match xs, hl with
  | [y0, y1], _ =>
    have h0 := hi 0 (by omega)
    have h1 := hi 1 (by omega)
    rw [he] at h0 h1
    exact ⟨c0, c1, y0, y1, m, rfl, h0, h1⟩
theorem open_arr3 {r : Reach} {b0 : Nat} {t e : Nat} {v : Value} {D : DataW H} {ps : List MemPlace} (ht : P.underlying t = some (.array 3 e)) (hC : P.cellsOf t = 3) (he : P.cellsOf e = 1) (hv : Value.okWide P W r b0 t v)
    (h : DataW.Trod enc P W base spare held t v D ps) : ∃ (v0 v1 v2 : Value) (y0 y1 y2 : DataW H × List MemPlace) (n : Nat), v = .agg #[v0, v1, v2] ∧
      DataW.trod enc P W base spare held n e [v0] = some y0 ∧ DataW.trod enc P W base spare held n e [v1] = some y1 ∧ DataW.trod enc P W base spare held n e [v2] = some y2 := by
  obtain ⟨cs, rfl, hsz⟩ := okWide_array ht hv
  obtain ⟨c0, c1, c2, rfl⟩ := Go.Joins.array3 (hsz.trans hC)
  obtain ⟨fuel, hf⟩ := h
  obtain ⟨xs, m, _, _, _, hl, hi⟩ := DataW.trod_array ht hf
  match xs, hl with
  | [y0, y1, y2], _ =>
    have h0 := hi 0 (by omega)
    have h1 := hi 1 (by omega)
    have h2 := hi 2 (by omega)
    rw [he] at h0 h1 h2
    exact ⟨c0, c1, c2, y0, y1, y2, m, rfl, h0, h1, h2⟩
end
end Go.Proofs.YtcikjghmelbkaaaDoorW.Open
