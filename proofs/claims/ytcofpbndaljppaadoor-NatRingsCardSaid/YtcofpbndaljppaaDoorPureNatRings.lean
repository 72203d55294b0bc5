/- The plain law of NatRings: what the printed functions answer, of any three rows of bytes. -/
import Derived.Test.YtcofpbndaljppaaDoorAwake
import Derived.Test.YtcofpbndaljppaaDoorDig
import Derived.Test.YtcofpbndaljppaaDoorApj
import Derived.Test.YtcofpbndaljppaaDoorHp16
namespace Go.Proofs.YtcofpbndaljppaaDoor.Pure
open Go.RowKit Go.Proofs.YtcofpbndaljppaaDoor.Hp Go.Proofs.YtcofpbndaljppaaDoor.Num Go.Proofs.YtcofpbndaljppaaDoorW.PrintWords Go.Proofs.YtcofpbndaljppaaDoorW.PrintLast
theorem NatRings : lanyardlaw06_NatRings.Pure := by
  intro l0 l1 l2 _ _ w0 _ _ w1 _ _ w2
  have d0 := Dg.of_wf w0
  have d1 := Dg.of_wf w1
  have d2 := Dg.of_wf w2
  refine Ev.rounds (?_ : Ev (fun k => lanyardlaw06_NatRings.f k l0 l1 l2) true)
  have slow : Ev (fun k => lanyardlaw06_NatRings.j0 k l0 l1 l2 true) true := Ev.step (fun k => by rw [lanyardlaw06_NatRings.j0]) (Ev.ifT rfl (Ev.bind awake_ev (Ev.now _)))
  unfold lanyardlaw06_NatRings.f
  refine Ev.bind awake_ev (Ev.ifT rfl ?_)
  by_cases h0 : (l0.length : Int) > 300
  · exact Ev.ifT h0 slow
  refine Ev.ifF h0 ?_
  by_cases h1 : (l1.length : Int) > 300
  · exact Ev.ifT h1 slow
  refine Ev.ifF h1 ?_
  by_cases h2 : (l2.length : Int) > 300
  · rw [decide_eq_true h2]; exact slow
  rw [decide_eq_false h2]
  have g0 := G_vb_len d0
  have g1 := G_vb_len d1
  have g2 := G_vb_len d2
  have ga := G_add_len (vb l0) (vb l1)
  have gm := G_mul_len (vb l0) (vb l2)
  have gn := G_mul_len (vb l2) (vb l1)
  have ea := be_len (vb l0 + vb l1)
  have em := be_len (vb l0 * vb l2)
  have en := be_len (vb l2 * vb l1)
  have s := Add_ev d0 d1 (by omega) (by omega)
  have t := Add_ev d1 d0 (by omega) (by omega)
  rw [Nat.add_comm (vb l1)] at t
  have p := Mul_ev (be_Dg (vb l0 + vb l1)) d2 (by omega) (by omega)
  have x := Mul_ev d0 d2 (by omega) (by omega)
  have y := Mul_ev d2 d1 (by omega) (by omega)
  have q := Add_ev (be_Dg (vb l0 * vb l2)) (be_Dg (vb l2 * vb l1)) (by omega) (by omega)
  have d := Sub_ev (be_Dg (vb l0 + vb l1)) d1 (by omega) (by omega)
  have f := Sub_ev (be_Dg (vb l0 + vb l1)) (be_Dg (vb l0 + vb l1)) (by omega) (by omega)
  rw [be_vb] at p d f
  rw [be_vb, be_vb, Nat.mul_comm (vb l2) (vb l1), ← Nat.add_mul] at q
  rw [if_neg (by omega), Nat.add_sub_cancel] at d
  rw [if_neg (by omega), Nat.sub_self] at f
  rw [Nat.mul_comm (vb l2) (vb l1)] at y
  refine Ev.step (fun k => by rw [lanyardlaw06_NatRings.j0]) (Ev.ifF (by simp) (Ev.bind s (Ev.bind t (Ev.bind p (Ev.bind x (Ev.bind y (Ev.bind q (Ev.bind d (Ev.bind f (Ev.ifT rfl (Ev.ifT rfl (Ev.ifT rfl (Ev.bindC (Trim_eq d0 (by omega)) (Ev.ifT rfl (Ev.ifT rfl ?_)))))))))))))))
  exact Ev.now _
end Go.Proofs.YtcofpbndaljppaaDoor.Pure
