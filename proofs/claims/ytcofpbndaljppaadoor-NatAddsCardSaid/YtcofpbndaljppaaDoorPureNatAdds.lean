/- The plain law of NatAdds: what the printed functions answer, of any two rows of bytes and two exponents. -/
import Derived.Test.YtcofpbndaljppaaDoorAwake
import Derived.Test.YtcofpbndaljppaaDoorRefs
import Derived.Test.YtcofpbndaljppaaDoorDig
import Derived.Test.YtcofpbndaljppaaDoorApj
import Derived.Test.YtcofpbndaljppaaDoorHp18
namespace Go.Proofs.YtcofpbndaljppaaDoor.Pure
open Go.RowKit Go.Proofs.YtcofpbndaljppaaDoor.Hp Go.Proofs.YtcofpbndaljppaaDoor.Num Go.Proofs.YtcofpbndaljppaaDoorW.PrintWords Go.Proofs.YtcofpbndaljppaaDoorW.PrintLast
theorem NatAdds : lanyardlaw06_NatAdds.Pure := by
  intro l0 l1 e0 e1 _ _ w0 _ _ w1 _ w2 _ w3
  have d0 := Dg.of_wf w0
  have d1 := Dg.of_wf w1
  have d2 := Dg.of_wf w2
  have d3 := Dg.of_wf w3
  refine Ev.rounds (?_ : Ev (fun k => lanyardlaw06_NatAdds.f k l0 l1 e0 e1) true)
  have slow : Ev (fun k => lanyardlaw06_NatAdds.j0 k l0 l1 true e0 e1) true := Ev.step (fun k => by rw [lanyardlaw06_NatAdds.j0]) (Ev.ifT rfl (Ev.bind awake_ev (Ev.now _)))
  unfold lanyardlaw06_NatAdds.f
  refine Ev.bind awake_ev (Ev.ifT rfl ?_)
  by_cases h0 : (l0.length : Int) > 80
  · exact Ev.ifT h0 slow
  refine Ev.ifF h0 ?_
  by_cases h1 : (l1.length : Int) > 80
  · exact Ev.ifT h1 slow
  refine Ev.ifF h1 ?_
  by_cases h2 : (e0.length : Int) > 20
  · exact Ev.ifT h2 slow
  refine Ev.ifF h2 ?_
  by_cases h3 : (e1.length : Int) > 20
  · exact Ev.ifT h3 slow
  refine Ev.ifF h3 (Ev.bind (rOf_ev d1 (by omega)) ?_)
  by_cases hz : vb l1 = 0
  · rw [hz, G_zero]; exact slow
  have hp : 0 < vb l1 := by omega
  have hq := G_pos.1 hp
  rw [show (((G (vb l1)).length : Int) == 0) = false from beq_eq_false_iff_ne.mpr (by omega)]
  have g0 := G_vb_len d0
  have g1 := G_vb_len d1
  have g2 := G_vb_len d2
  have g3 := G_vb_len d3
  have ga := G_add_len (vb e0) (vb e1)
  have ea := be_len (vb e0 + vb e1)
  have s := Add_ev d2 d3 (by omega) (by omega)
  have x := Exp_ev d0 d2 d1 (by omega) (by omega) (by omega)
  have y := Exp_ev d0 d3 d1 (by omega) (by omega) (by omega)
  have z := Exp_ev d0 (be_Dg (vb e0 + vb e1)) d1 (by omega) (by omega) (by omega)
  rw [if_neg hz] at x y z
  rw [be_vb] at z
  have lm : ∀ n, (be (n % vb l1)).length ≤ 80 := fun n => by
    have := G_len_mono (Nat.le_of_lt (Nat.mod_lt n hp))
    have := be_len (n % vb l1)
    omega
  have lx := lm (vb l0 ^ vb e0)
  have ly := lm (vb l0 ^ vb e1)
  have lz := lm (vb l0 ^ (vb e0 + vb e1))
  have ux := be_Dg (vb l0 ^ vb e0 % vb l1)
  have uy := be_Dg (vb l0 ^ vb e1 % vb l1)
  have p := Mul_ev ux uy (by omega) (by omega)
  rw [be_vb, be_vb] at p
  have gp := G_mul_len (vb l0 ^ vb e0 % vb l1) (vb l0 ^ vb e1 % vb l1)
  have ep := be_len (vb l0 ^ vb e0 % vb l1 * (vb l0 ^ vb e1 % vb l1))
  have ex := be_len (vb l0 ^ vb e0 % vb l1)
  have ey := be_len (vb l0 ^ vb e1 % vb l1)
  have r := Div_ev (be_Dg (vb l0 ^ vb e0 % vb l1 * (vb l0 ^ vb e1 % vb l1))) d1 (by omega) (by omega)
  rw [if_neg hz, be_vb, ← Nat.mul_mod, ← Nat.pow_add] at r
  have c := Cmp_ev (be_Dg (vb l0 ^ (vb e0 + vb e1) % vb l1)) d1 (by omega) (by omega)
  rw [be_vb] at c
  have hlt := Nat.mod_lt (vb l0 ^ (vb e0 + vb e1)) hp
  rw [show sg ((vb l0 ^ (vb e0 + vb e1) % vb l1 : Nat) : Int) (vb l1) = -1 by unfold sg; rw [if_pos (by omega)]] at c
  refine Ev.step (fun k => by rw [lanyardlaw06_NatAdds.j0]) ?_
  refine Ev.ifF (by simp) (Ev.bind s (Ev.bind x (Ev.bind y (Ev.bind z (Ev.bind p (Ev.bind r ?_))))))
  refine Ev.ifT rfl (Ev.ifT rfl (Ev.ifT rfl (Ev.ifT rfl (Ev.ifT rfl ?_))))
  refine Ev.bind c ?_
  exact Ev.now true
end Go.Proofs.YtcofpbndaljppaaDoor.Pure
