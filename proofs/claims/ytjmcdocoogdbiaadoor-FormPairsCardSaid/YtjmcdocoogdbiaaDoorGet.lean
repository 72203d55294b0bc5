/- The value of a name, and how many there are: from the front, from the back. -/
import Derived.Test.YtjmcdocoogdbiaaDoorEsc
import Derived.Test.YtjmcdocoogdbiaaDoorHp0
namespace Go.Proofs.YtjmcdocoogdbiaaDoor.Esc
open Go.RowKit Go.Proofs.YtjmcdocoogdbiaaDoor.Hp Go.Proofs.YtjmcdocoogdbiaaDoorW.PrintWords Go.Proofs.YtjmcdocoogdbiaaDoorW.PrintLast
def gf (n : ByteArray) (c : Nat) (v : ByteArray) : List S40 → ByteArray × Int
  | [] => (v, (c : Int))
  | p :: r => if p.f0.toList = n.toList then (if c = 0 then gf n (c + 1) p.f1 r else gf n (c + 1) v r) else gf n c v r
def gb (n : ByteArray) (c : Nat) (v : ByteArray) : List S40 → ByteArray × Int
  | [] => (v, (c : Int))
  | p :: r => if p.f0.toList = n.toList then gb n (c + 1) p.f1 r else gb n c v r
def hits (n : ByteArray) (l : List S40) : List S40 := l.filter fun p => decide (p.f0.toList = n.toList)
theorem gf_is (n : ByteArray) : ∀ (l : List S40) (c : Nat) (v : ByteArray), gf n c v l = (if c = 0 then (match hits n l with | [] => v | p :: _ => p.f1) else v, ((c + (hits n l).length : Nat) : Int))
  | [], c, v => by simp [gf, hits]
  | p :: r, c, v => by
    rw [gf]
    by_cases h : p.f0.toList = n.toList
    · have e : hits n (p :: r) = p :: hits n r := List.filter_cons_of_pos (by simpa using h)
      rw [if_pos h, e]
      by_cases hc : c = 0
      · subst hc
        rw [if_pos rfl, gf_is n r, if_neg (by omega), if_pos rfl]
        simp; omega
      · rw [if_neg hc, gf_is n r, if_neg (by omega), if_neg hc]
        simp; omega
    · have e : hits n (p :: r) = hits n r := List.filter_cons_of_neg (by simpa using h)
      rw [if_neg h, e, gf_is n r]
theorem gb_is (n : ByteArray) : ∀ (l : List S40) (c : Nat) (v : ByteArray), gb n c v l = ((match (hits n l).reverse with | [] => v | p :: _ => p.f1), ((c + (hits n l).length : Nat) : Int))
  | [], c, v => by simp [gb, hits]
  | p :: r, c, v => by
    rw [gb]
    by_cases h : p.f0.toList = n.toList
    · have e : hits n (p :: r) = p :: hits n r := List.filter_cons_of_pos (by simpa using h)
      rw [if_pos h, e, gb_is n r]
      rw [List.reverse_cons]
      cases (hits n r).reverse <;> simp <;> omega
    · have e : hits n (p :: r) = hits n r := List.filter_cons_of_neg (by simpa using h)
      rw [if_neg h, e, gb_is n r]
theorem gf_gb (n : ByteArray) (l : List S40) : gf n 0 ⟨#[]⟩ l = gb n 0 ⟨#[]⟩ l.reverse := by
  rw [gf_is, gb_is, if_pos rfl]
  have : hits n l.reverse = (hits n l).reverse := List.filter_reverse
  rw [this, List.reverse_reverse, List.length_reverse]
end Go.Proofs.YtjmcdocoogdbiaaDoor.Esc
