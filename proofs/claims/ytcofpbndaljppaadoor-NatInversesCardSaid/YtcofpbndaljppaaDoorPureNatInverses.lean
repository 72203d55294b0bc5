/- The plain law of NatInverses: what the printed functions answer, of any two rows of bytes. -/
import Derived.Test.YtcofpbndaljppaaDoorAwake
import Derived.Test.YtcofpbndaljppaaDoorRefs
import Derived.Test.YtcofpbndaljppaaDoorApj
import Derived.Test.YtcofpbndaljppaaDoorHp6
import Derived.Test.YtcofpbndaljppaaDoorHp7
import Derived.Test.YtcofpbndaljppaaDoorHp13
namespace Go.Proofs.YtcofpbndaljppaaDoor.Pure
open Go.RowKit Go.Proofs.YtcofpbndaljppaaDoor.Hp Go.Proofs.YtcofpbndaljppaaDoor.Num Go.Proofs.YtcofpbndaljppaaDoorW.PrintWords Go.Proofs.YtcofpbndaljppaaDoorW.PrintLast
theorem NatInverses : lanyardlaw06_NatInverses.Pure := by
  intro l0 l1 _ _ w0 _ _ w1
  have d0 := Dg.of_wf w0
  have d1 := Dg.of_wf w1
  refine Ev.rounds (?_ : Ev (fun k => lanyardlaw06_NatInverses.f k l0 l1) true)
  have slow : Ev (fun k => lanyardlaw06_NatInverses.j0 k l0 l1 true) true := Ev.step (fun k => by rw [lanyardlaw06_NatInverses.j0]) (Ev.ifT rfl (Ev.bind awake_ev (Ev.now _)))
  unfold lanyardlaw06_NatInverses.f
  refine Ev.bind awake_ev (Ev.ifT rfl ?_)
  by_cases h0 : (l0.length : Int) > 30
  · exact Ev.ifT h0 slow
  refine Ev.ifF h0 ?_
  by_cases h1 : (l1.length : Int) > 30
  · rw [decide_eq_true h1]; exact slow
  rw [decide_eq_false h1]
  have g0 := G_vb_len d0
  have g1 := G_vb_len d1
  have gg : (G (Nat.gcd (vb l0) (vb l1))).length ≤ 30 := by
    rcases Nat.eq_zero_or_pos (vb l1) with h | h
    · rw [h, Nat.gcd_zero_right]; omega
    · have := G_len_mono (Nat.gcd_le_right (vb l0) h); omega
  obtain ⟨i1, i2, i3⟩ := Inverse_ev d0 d1 (by omega) (by omega)
  have start : ∀ {a : List Int × Int}, Ev (fun k => nat_Inverse.f k l0 l1) a → Ev (fun k => lanyardlaw06_NatInverses.j1 k (G (vb l0)) (G (vb l1)) (G (Nat.gcd (vb l0) (vb l1))) a.1 a.2 false) true → Ev (fun k => lanyardlaw06_NatInverses.j0 k l0 l1 false) true := by
    intro a h1 h2
    exact Ev.step (fun k => by rw [lanyardlaw06_NatInverses.j0]) (Ev.ifF (by simp) (Ev.bind (rOf_ev d0 (by omega)) (Ev.bind (rOf_ev d1 (by omega)) (Ev.bind (Gcd_ev d0 d1 (by omega) (by omega)) (Ev.bind (rgcd_ev (L := 30) (by decide) (vb l1) (vb l0) (by omega) (by omega)) (Ev.bind h1 (Ev.ifT rfl (Ev.bind (same_ev (n := Nat.gcd (vb l0) (vb l1)) (by omega) rfl) h2))))))))
  have c2 := rcmp_ev (x := vb l1) (y := 2) (by omega)
  have c1 := rcmp_ev (x := Nat.gcd (vb l0) (vb l1)) (y := 1) (by omega)
  rw [G_two] at c2
  rw [G_one] at c1
  by_cases ha : vb l1 < 2
  · refine start (i1 ha) ?_
    refine Ev.step (fun k => by rw [lanyardlaw06_NatInverses.j1]) ?_
    refine Ev.ifF (by simp) (Ev.bind c2 ?_)
    refine Ev.ifT (by unfold sg; rw [if_pos (by omega)]; decide) ?_
    exact Ev.ifT rfl (Ev.now _)
  have hs : ¬ sg (vb l1) (2 : Nat) < 0 := by unfold sg; rw [if_neg (by omega)]; split <;> decide
  by_cases hb : Nat.gcd (vb l0) (vb l1) = 1
  · obtain ⟨z, hz, hz1, hz2⟩ := i3 (by omega) hb
    refine start hz ?_
    refine Ev.step (fun k => by rw [lanyardlaw06_NatInverses.j1]) ?_
    refine Ev.ifF (by simp) (Ev.bind c2 ?_)
    refine Ev.ifF hs (Ev.bind c1 ?_)
    refine Ev.ifT (by rw [hb]; decide) ?_
    have hp : 0 < vb l1 := by omega
    have hzl := G_len_mono (Nat.le_of_lt hz1)
    have ho : Ev (fun k => lanyardref06_Of.f k (be z)) (G z) := by
      have := rOf_ev (be_Dg z) (by rw [be_len]; omega)
      rwa [be_vb] at this
    have hm := G_mul_len z (vb l0)
    have cz := rcmp_ev (x := z) (y := vb l1) (by omega)
    have hr : z * vb l0 % vb l1 = 1 := by
      obtain ⟨c, hc⟩ := hz2
      have e1 : ((z * vb l0 : Nat) : Int) = 1 + (vb l1 : Int) * c := by rw [Int.natCast_mul]; omega
      have e2 : ((z * vb l0 % vb l1 : Nat) : Int) = 1 := by
        rw [Int.natCast_emod, e1, Int.add_mul_emod_self_left]
        exact Int.emod_eq_of_lt (by decide) (by omega)
      omega
    have cr := rcmp_ev (x := z * vb l0 % vb l1) (y := 1) (by rw [hr, G_one]; decide)
    rw [G_one] at cr
    refine Ev.bind ho (Ev.bind (rmul_ev (by omega)) ?_)
    refine Ev.bind (rdiv_small (L := 30) hp (by decide) (by omega) (by omega)) ?_
    refine Ev.ifT rfl (Ev.bind ho (Ev.bind cz ?_))
    refine Ev.ifT (by unfold sg; rw [if_pos (by omega)]; decide) (Ev.bind cr ?_)
    refine Ev.ifT (by rw [hr]; decide) ?_
    rcases Nat.eq_zero_or_pos z with h | h
    · subst h
      exact Ev.ifT rfl (Ev.now _)
    · have h2 := G_pos.1 h
      have h3 := be_len z
      refine Ev.ifF (by show ¬ ((be z).length : Int) = 0; omega) (Ev.ifT (by show 0 < ((be z).length : Int); omega) ?_)
      have : (rd (be z) 0 != 0) = true := by
        rcases G_Nz z with e | e
        · rw [e] at h2; simp at h2
        · rw [bne_iff_ne]
          intro h4
          apply e
          have e5 : rd (G z).reverse 0 = (G z).reverse.getD 0 0 := rd_nat _ 0
          have e6 : rd (be z) 0 = (G z).getD ((G z).length - 1) 0 := by rw [be_G, e5, List.getD_eq_getElem?_getD, List.getD_eq_getElem?_getD, List.getElem?_reverse h2, Nat.sub_zero]
          exact e6.symm.trans h4
      rw [this]
      exact Ev.now _
  · refine start (i2 (by omega) hb) ?_
    refine Ev.step (fun k => by rw [lanyardlaw06_NatInverses.j1]) ?_
    refine Ev.ifF (by simp) (Ev.bind c2 ?_)
    refine Ev.ifF hs (Ev.bind c1 ?_)
    refine Ev.ifF (by unfold sg; split <;> (try split) <;> omega) ?_
    exact Ev.ifT rfl (Ev.now _)
end Go.Proofs.YtcofpbndaljppaaDoor.Pure
