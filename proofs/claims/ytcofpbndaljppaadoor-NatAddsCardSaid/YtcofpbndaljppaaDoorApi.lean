/- The printed functions of layer 6 that the statements call: what they answer, of bytes; the document's examples. -/
import Derived.Test.YtcofpbndaljppaaDoorExp
import Derived.Test.YtcofpbndaljppaaDoorHp1
import Derived.Test.YtcofpbndaljppaaDoorHp4
import Derived.Test.YtcofpbndaljppaaDoorHp5
import Derived.Test.YtcofpbndaljppaaDoorHp6
namespace Go.Proofs.YtcofpbndaljppaaDoor.Num
open Go.RowKit Go.Proofs.YtcofpbndaljppaaDoor.Hp Go.Proofs.YtcofpbndaljppaaDoorW.PrintWords Go.Proofs.YtcofpbndaljppaaDoorW.PrintLast Go.Proofs.YtcofpbndaljppaaDoorW.PrintMore

theorem no2 {a b : List Int} (ha : a.length ≤ 1024) (hb : b.length ≤ 1024) : nat_long.f [a, b] = some false := long_no (by
  intro x hx
  simp at hx
  rcases hx with rfl | rfl <;> assumption)
theorem no3 {a b c : List Int} (ha : a.length ≤ 1024) (hb : b.length ≤ 1024) (hc : c.length ≤ 1024) : nat_long.f [a, b, c] = some false := long_no (by
  intro x hx
  simp at hx
  rcases hx with rfl | rfl | rfl <;> assumption)
theorem Div_ev {a b : List Int} (ha : Dg 256 a) (hb : Dg 256 b) (la : a.length ≤ 1024) (lb : b.length ≤ 1024) : Ev (fun k => nat_Div.f k a b) (if vb b = 0 then ([], [], 2) else (be (vb a / vb b), be (vb a % vb b), 0)) := by
  unfold nat_Div.f
  have h1 := D_vb_len ha
  have h2 := D_vb_len hb
  refine Ev.bind (of_ev hb (by omega)) (Ev.bindC (no2 la lb) (Ev.ifF (by decide) ?_))
  by_cases h : vb b = 0
  · rw [if_pos h, h, D_zero]
    exact Ev.ifT rfl (Ev.now _)
  · rw [if_neg h]
    have hp : 0 < vb b := by omega
    have h3 := D_pos.1 hp
    have h4 := D_len_mono (Nat.div_le_self (vb a) (vb b))
    have h5 := D_len_mono (Nat.mod_le (vb a) (vb b))
    exact Ev.ifF (by omega) (Ev.bind (of_ev ha (by omega)) (Ev.bind (div_ev hp (by omega) (by omega)) (Ev.bind (bytes_D _ (by omega)) (Ev.bind (bytes_D _ (by omega)) (Ev.now _)))))
theorem Exp_ev {a e m : List Int} (ha : Dg 256 a) (he : Dg 256 e) (hm : Dg 256 m) (la : a.length ≤ 1024) (le : e.length ≤ 1024) (lm : m.length ≤ 1024) :
    Ev (fun k => nat_Exp.f k a e m) (if vb m = 0 then ([], 2) else (be (vb a ^ vb e % vb m), 0)) := by
  unfold nat_Exp.f
  have h1 := D_vb_len ha
  have h2 := D_vb_len hm
  refine Ev.bind (of_ev hm (by omega)) (Ev.bindC (no3 la le lm) (Ev.ifF (by decide) ?_))
  by_cases h : vb m = 0
  · rw [if_pos h, h, D_zero]
    exact Ev.ifT rfl (Ev.now _)
  · rw [if_neg h]
    have hp : 0 < vb m := by omega
    have h3 := D_pos.1 hp
    have hone := div_ev (x := 1) hp (by rw [D_one]; decide) (by omega)
    rw [D_one] at hone
    refine Ev.ifF (by omega) (Ev.bind (of_ev ha (by omega)) (Ev.bind (div_ev hp (by omega) (by omega)) (Ev.bind hone ?_)))
    have := exp_out (vb m) (vb a) hp 1024 (by decide) (by omega) e he (by omega) e.length 0 (by omega)
    simpa [vb, V, val] using this

/-! ### inverses -/
theorem inv_loop (n A : Nat) (hn : 2 ≤ n) (L : Nat) (hL : L < 1000000) (hnL : (D n).length ≤ L) :
    ∀ (r old s t : Nat), r < n → old ≤ n → s < n → t < n → Nat.gcd old r = 1 → ((n : Int) ∣ (s : Int) * A - old) → ((n : Int) ∣ (t : Int) * A - r) →
    ∃ z, Ev (fun k => nat_Inverse.l0 k (D n) (D r) (D old) (D s) (D t)) (be z, 0) ∧ z < n ∧ ((n : Int) ∣ (z : Int) * A - 1) := by
  intro r
  induction r using Nat.strongRecOn with
  | ind r ih =>
    intro old s t hr ho hs ht hg hs1 ht1
    have lo : ∀ z, z ≤ n → (D z).length ≤ L := fun z h => Nat.le_trans (D_len_mono h) hnL
    have l1 := lo r (by omega)
    have l2 := lo old ho
    have l3 := lo s (by omega)
    have l4 := lo t (by omega)
    rcases Nat.eq_zero_or_pos r with h | h
    · subst h
      rw [Nat.gcd_zero_right] at hg
      subst hg
      exact ⟨s, Ev.step (fun k => by rw [nat_Inverse.l0]) (Ev.ifF (by rw [D_zero]; simp) (Ev.bind (bytes_D _ (by omega)) (Ev.now _))), hs, hs1⟩
    · have hrest := Nat.mod_lt old h
      have l5 := lo (old / r) (Nat.le_trans (Nat.div_le_self _ _) ho)
      have l6 := D_mul_len (old / r) t
      obtain ⟨x, hx⟩ : ∃ x, old / r * t % n = x := ⟨_, rfl⟩
      have hxn : x < n := by rw [← hx]; exact Nat.mod_lt _ (by omega)
      have l7 := lo x (by omega)
      obtain ⟨y, hy, hyx, hyn⟩ : ∃ y, (y = s ∨ y = s + n) ∧ (x ≤ y ∧ y - x < n) ∧ (s < x ↔ y = s + n) := by
        by_cases hlt : s < x
        · exact ⟨s + n, .inr rfl, by omega, by omega⟩
        · exact ⟨s, .inl rfl, by omega, by omega⟩
      have hg' : Nat.gcd r (old % r) = 1 := by rw [Nat.gcd_comm, ← Nat.gcd_rec, Nat.gcd_comm]; exact hg
      have hd : (n : Int) ∣ ((y - x : Nat) : Int) * A - ((old % r : Nat) : Int) := by
        obtain ⟨u, hu⟩ := hs1
        obtain ⟨v, hv⟩ := ht1
        have e1 : ((y - x : Nat) : Int) = y - x := by omega
        have e2 : ((old % r : Nat) : Int) = old - r * ((old / r : Nat) : Int) := by have := Nat.div_add_mod old r; have h2 : ((r * (old / r) + old % r : Nat) : Int) = old := by rw [this]
                                                                                    push_cast at h2 ⊢; omega
        have e3 : (x : Int) = ((old / r : Nat) : Int) * t - n * ((old / r * t / n : Nat) : Int) := by have := Nat.div_add_mod (old / r * t) n; rw [hx] at this; have h2 : ((n * (old / r * t / n) + x : Nat) : Int) = ((old / r * t : Nat) : Int) := by rw [this]
                                                                                                      push_cast at h2 ⊢; omega
        obtain ⟨c, hc⟩ : ∃ c : Int, (y : Int) = s + n * c := by
          rcases hy with rfl | rfl
          · exact ⟨0, by simp⟩
          · exact ⟨1, by simp⟩
        generalize ((old / r : Nat) : Int) = q at *
        generalize ((old / r * t / n : Nat) : Int) = m at *
        refine ⟨u - q * v + (c + m) * A, ?_⟩
        rw [e1, e2, e3, hc]
        have e4 : (n : Int) * (u - q * v + (c + m) * A) = n * u - q * (n * v) + n * (c + m) * A := by grind
        rw [e4, ← hu, ← hv]
        grind
      obtain ⟨z, hz, hzr⟩ := ih (old % r) hrest r t (y - x) (by omega) (by omega) ht hyx.2 hg' ht1 hd
      refine ⟨z, Ev.step (fun k => by rw [nat_Inverse.l0]) ?_, hzr⟩
      have hp := D_pos.1 h
      have hc := compare_ev (D_Dg s) (D_Dg x) (D_Nz _) (D_Nz _) (by omega)
      rw [D_val, D_val] at hc
      refine Ev.ifT (by omega) (Ev.bind (div_ev h (by omega) (by omega)) (Ev.bind (mul_ev (by omega)) (Ev.bind (div_ev (by omega : 0 < n) (by omega) (by omega)) ?_)))
      rw [hx]
      refine Ev.bind hc ?_
      have l8 := D_add_len s n
      by_cases hlt : s < x
      · have := hyn.1 hlt
        subst this
        refine Ev.ifT (by unfold sg; rw [if_pos (by omega)]; decide) (Ev.bind (add_ev (by omega) (by omega)) (Ev.bind (sub_ev (by omega) (by omega)) hz))
      · have : y = s := by omega
        subst this
        refine Ev.ifF (by unfold sg; rw [if_neg (by omega)]; split <;> decide) (Ev.bind (sub_ev (by omega) (by omega)) hz)
theorem Inverse_ev {a m : List Int} (ha : Dg 256 a) (hm : Dg 256 m) (la : a.length ≤ 1024) (lm : m.length ≤ 1024) :
    (vb m < 2 → Ev (fun k => nat_Inverse.f k a m) ([], 2)) ∧ (2 ≤ vb m → Nat.gcd (vb a) (vb m) ≠ 1 → Ev (fun k => nat_Inverse.f k a m) ([], 20)) ∧
    (2 ≤ vb m → Nat.gcd (vb a) (vb m) = 1 → ∃ z, Ev (fun k => nat_Inverse.f k a m) (be z, 0) ∧ z < vb m ∧ ((vb m : Int) ∣ (z : Int) * vb a - 1)) := by
  have h1 := D_vb_len ha
  have h2 := D_vb_len hm
  have hc := compare_ev (D_Dg (vb m)) (D_Dg 2) (D_Nz _) (D_Nz _) (by omega)
  rw [D_val, D_val, D_two] at hc
  have start : ∀ {r : List Int × Int}, vb m < 2 → r = ([], 2) → Ev (fun k => nat_Inverse.f k a m) r := by
    intro r h e
    subst e
    unfold nat_Inverse.f
    exact Ev.bind (of_ev hm (by omega)) (Ev.bindC (no2 la lm) (Ev.ifF (by decide) (Ev.bind hc (Ev.ifT (by unfold sg; rw [if_pos (by omega)]; decide) (Ev.now _)))))
  have egcd : Nat.gcd (vb m) (vb a % vb m) = Nat.gcd (vb a) (vb m) := by rw [Nat.gcd_comm, ← Nat.gcd_rec, Nat.gcd_comm]
  have mid : ∀ {r : List Int × Int}, 2 ≤ vb m → (Nat.gcd (vb a) (vb m) ≠ 1 → r = ([], 20)) → (Nat.gcd (vb a) (vb m) = 1 → Ev (fun k => nat_Inverse.l0 k (D (vb m)) (D (vb a % vb m)) (D (vb m)) [] [1]) r) → Ev (fun k => nat_Inverse.f k a m) r := by
    intro r h e1 e2
    have hlt := Nat.mod_lt (vb a) (by omega : 0 < vb m)
    have l1 := D_len_mono (Nat.le_of_lt hlt)
    have hgc := compare_ev (D_Dg (Nat.gcd (vb a) (vb m))) (D_Dg 1) (D_Nz _) (D_Nz _) (by have := D_len_mono (Nat.gcd_le_right (vb a) (by omega : 0 < vb m)); omega)
    rw [D_val, D_val, D_one] at hgc
    have hg := gcd_ev (L := 1024) (by decide) (vb a % vb m) (vb m) (by omega) (by omega)
    rw [egcd] at hg
    unfold nat_Inverse.f
    refine Ev.bind (of_ev hm (by omega)) (Ev.bindC (no2 la lm) (Ev.ifF (by decide) (Ev.bind hc (Ev.ifF (by unfold sg; rw [if_neg (by omega)]; split <;> decide) (Ev.bind (of_ev ha (by omega)) (Ev.bind (div_ev (by omega) (by omega) (by omega)) (Ev.bind hg (Ev.bind hgc ?_))))))))
    by_cases h1 : Nat.gcd (vb a) (vb m) = 1
    · exact Ev.ifT (by rw [h1]; rfl) (e2 h1)
    · rw [e1 h1]
      refine Ev.ifF (by unfold sg; split <;> (try split) <;> omega) (Ev.now _)
  refine ⟨fun h => start h rfl, fun h h1 => mid h (fun _ => rfl) (fun e => absurd e h1), fun h h1 => ?_⟩
  have hlt := Nat.mod_lt (vb a) (by omega : 0 < vb m)
  obtain ⟨z, hz, hzr⟩ := inv_loop (vb m) (vb a) h 1024 (by decide) (by omega) (vb a % vb m) (vb m) 0 1 hlt (Nat.le_refl _) (by omega) (by omega) (by rw [egcd]; exact h1) ⟨-1, by simp⟩ ⟨((vb a / vb m : Nat) : Int), by
    have := Nat.div_add_mod (vb a) (vb m)
    have h2 : ((vb m * (vb a / vb m) + vb a % vb m : Nat) : Int) = vb a := by rw [this]
    rw [← Int.natCast_mul]
    omega⟩
  rw [D_zero, D_one] at hz
  exact ⟨z, mid h (fun e => absurd h1 e) (fun _ => hz), hzr⟩
end Go.Proofs.YtcofpbndaljppaaDoor.Num
