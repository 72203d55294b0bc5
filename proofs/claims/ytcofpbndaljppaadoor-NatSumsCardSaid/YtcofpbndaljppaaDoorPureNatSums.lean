/- The plain law of NatSums: what the printed functions answer, of any two rows of bytes. -/
import Derived.Test.YtcofpbndaljppaaDoorAwake
import Derived.Test.YtcofpbndaljppaaDoorRefs
import Derived.Test.YtcofpbndaljppaaDoorApj
import Derived.Test.YtcofpbndaljppaaDoorHp15
namespace Go.Proofs.YtcofpbndaljppaaDoor.Pure
open Go.RowKit Go.Proofs.YtcofpbndaljppaaDoor.Hp Go.Proofs.YtcofpbndaljppaaDoor.Num Go.Proofs.YtcofpbndaljppaaDoorW.PrintWords Go.Proofs.YtcofpbndaljppaaDoorW.PrintLast
theorem NatSums : lanyardlaw06_NatSums.Pure := by
  intro l0 l1 _ _ w0 _ _ w1
  have d0 := Dg.of_wf w0
  have d1 := Dg.of_wf w1
  refine Ev.rounds (?_ : Ev (fun k => lanyardlaw06_NatSums.f k l0 l1) true)
  have slow : Ev (fun k => lanyardlaw06_NatSums.j0 k l0 l1 true) true := Ev.step (fun k => by rw [lanyardlaw06_NatSums.j0]) (Ev.ifT rfl (Ev.bind awake_ev (Ev.now _)))
  unfold lanyardlaw06_NatSums.f
  refine Ev.bind awake_ev (Ev.ifT rfl ?_)
  by_cases h0 : (l0.length : Int) > 100
  · exact Ev.ifT h0 slow
  refine Ev.ifF h0 ?_
  by_cases h1 : (l1.length : Int) > 100
  · rw [decide_eq_true h1]; exact slow
  rw [decide_eq_false h1]
  have g0 := G_vb_len d0
  have g1 := G_vb_len d1
  have ga : (G (vb l0 + vb l1)).length ≤ 300 := by
    refine G_lt ?_
    have h2 := val_lt (by decide) (G_Dg (vb l0))
    have h3 := val_lt (by decide) (G_Dg (vb l1))
    rw [G_val] at h2 h3
    have h4 : (256 : Int) ^ (G (vb l0)).length ≤ 256 ^ 100 := pow_mono (by decide) (by omega)
    have h5 : (256 : Int) ^ (G (vb l1)).length ≤ 256 ^ 100 := pow_mono (by decide) (by omega)
    have h6 : (256 : Int) ^ 100 + 256 ^ 100 ≤ 256 ^ 300 := by decide +kernel
    generalize (256 : Int) ^ 100 = p at *
    generalize (256 : Int) ^ 300 = p' at *
    omega
  have gm := G_mul_len (vb l0) (vb l1)
  have gd := G_len_mono (Nat.sub_le (vb l0) (vb l1))
  have nil : ∀ l : List Int, ([] : List Int) ++ l = l := fun l => rfl
  have c := Cmp_ev d0 d1 (by omega) (by omega)
  have cr := rcmp_ev (x := vb l0) (y := vb l1) (by omega)
  have sb := Sub_ev d0 d1 (by omega) (by omega)
  have z : ∀ l : List Int, l.length ≤ 100 → ([] : List Int).length + l.length < 140737488355328 := fun l h => by rw [List.length_nil]; omega
  refine Ev.step (fun k => by rw [lanyardlaw06_NatSums.j0]) ?_
  refine Ev.ifF (by simp) (Ev.bind (Ev.now _) ?_)
  refine Ev.ifT (z l0 (by omega)) ?_
  refine Ev.bind (Ev.now _) (Ev.bind (Ev.now _) ?_)
  refine Ev.ifT (z l1 (by omega)) ?_
  refine Ev.bind (Ev.now _) ?_
  rw [nil, nil]
  refine Ev.bind (rOf_ev d0 (by omega)) (Ev.bind (rOf_ev d1 (by omega)) (Ev.bind (Add_ev d0 d1 (by omega) (by omega)) (Ev.bind (Mul_ev d0 d1 (by omega) (by omega)) (Ev.bind sb ?_))))
  refine Ev.ifT rfl (Ev.ifT rfl (Ev.ifT rfl (Ev.ifT rfl (Ev.bind (radd_ev (by omega) (by omega)) ?_))))
  refine Ev.bind (same_ev (n := vb l0 + vb l1) (by omega) rfl) (Ev.ifT rfl (Ev.bind (rmul_ev (by omega)) ?_))
  refine Ev.bind (same_ev (n := vb l0 * vb l1) (by omega) rfl) (Ev.ifT rfl (Ev.bind c (Ev.bind cr (Ev.ifT rfl (Ev.bindC (Trim_eq d0 (by omega)) ?_)))))
  refine Ev.bind (same_ev (n := vb l0) (by omega) rfl) ?_
  refine Ev.step (fun k => by rw [lanyardlaw06_NatSums.j1]) ?_
  refine Ev.ifF (by simp) (Ev.bind cr ?_)
  by_cases h : vb l0 < vb l1
  · rw [if_pos h]
    exact Ev.ifT (by unfold sg; rw [if_pos (by omega)]; decide) (Ev.ifT rfl (Ev.now _))
  · rw [if_neg h]
    exact Ev.ifF (by unfold sg; rw [if_neg (by omega)]; split <;> decide) (Ev.ifT rfl (Ev.bind (rsub_ev (by omega) (by omega)) (Ev.bind (same_ev (n := vb l0 - vb l1) (by omega) rfl) (Ev.now _))))
end Go.Proofs.YtcofpbndaljppaaDoor.Pure
