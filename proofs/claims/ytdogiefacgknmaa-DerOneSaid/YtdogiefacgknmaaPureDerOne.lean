/- What is taken off bytes is put as the bytes that it was: the statement DerOne over lists alone. -/
import Derived.Test.YtdogiefacgknmaaHp6
import Derived.Test.YtdogiefacgknmaaBase
namespace Go.Proofs.Ytdogiefacgknmaa.Pure
open Go.RowKit Go.Proofs.Ytdogiefacgknmaa.Hp Go.Proofs.YtdogiefacgknmaaW.PrintWords Go.Proofs.YtdogiefacgknmaaW.PrintLast

theorem awake_ev : Ev (fun k => lanyardlaw08_awake.f k) true := by
  unfold lanyardlaw08_awake.f
  refine Ev.bind (put_ev _ (by simp [size]) (by simp)) ?_
  refine Ev.bind (take_ev _ (by intro x hx; simp at hx; omega) (by simp)) ?_
  have e1 : putR [] [(⟨2, [5]⟩ : S26)] = ([2, 1, 5], 0) := by decide +kernel
  have e2 : takeR [2, 129, 5, 0, 0, 0, 0, 0] = (0, [], 0, 10) := by decide +kernel
  rw [e1, e2]
  refine Ev.ifT rfl (Ev.ifT ?_ (Ev.now _))
  rw [Lib.strOfNums_toList]
  decide +kernel

theorem put_taken (l : List Int) (ps : List S26) (h1 : ∀ p ∈ ps, bad p = false) (h2 : size ps ≤ 1000000) (h3 : ps.length ≤ 1000000) (h4 : flat ps = l) : Ev (fun k => der_Put.f k ps) (l, 0) := by
  have := put_ev ps (by omega) (by omega)
  rw [putR_good ps [] h1, h4] at this
  exact this

theorem DerOne : lanyardlaw08_DerOne.Pure := by
  intro l hl _ hw
  have hB : B8 l := B8.of_wf hw
  refine Ev.rounds (g := fun k => lanyardlaw08_DerOne.f k l) ?_
  unfold lanyardlaw08_DerOne.f
  refine Ev.bind awake_ev (Ev.ifT rfl ?_)
  refine Ev.step (fun k => by rw [lanyardlaw08_DerOne.j0]) ?_
  by_cases h0 : (l.length : Int) > 2000
  · rw [decide_eq_true h0]
    exact Ev.ifT rfl (Ev.bind awake_ev (Ev.now _))
  rw [decide_eq_false h0]
  refine Ev.ifF (by simp) (Ev.bind (take_ev l hB (by omega)) ?_)
  rcases takeR_one l hB (by omega) with ⟨g1, g2, g3, g4, g5, g6⟩ | ⟨g1, g2, g3⟩
  · refine Ev.ifT g1 ?_
    refine Ev.step (fun k => by rw [lanyardlaw08_DerOne.j1]) ?_
    have hs : size [(⟨(takeR l).1, (takeR l).2.1⟩ : S26)] ≤ 1000000 := by simp only [size]; omega
    have P1 := put_ev [(⟨(takeR l).1, (takeR l).2.1⟩ : S26)] (by omega) (by simp)
    rw [putR_good _ _ (by intro p hp; rw [List.mem_singleton.1 hp]; exact g2)] at P1
    refine Ev.bind P1 ?_
    have ef : flat [(⟨(takeR l).1, (takeR l).2.1⟩ : S26)] = l.take (takeR l).2.2.1.toNat := by simp only [flat, List.flatMap_cons, List.flatMap_nil, List.append_nil]; exact g5
    have last : ∀ k : Nat, (if ([] ++ flat [(⟨(takeR l).1, (takeR l).2.1⟩ : S26)], (0 : Int)).2 = 0 then (if (takeR l).2.2.1 ≤ (l.length : Int) then (if 0 ≤ (takeR l).2.2.1 then (some ((strOfNums ([] ++ flat [(⟨(takeR l).1, (takeR l).2.1⟩ : S26)], (0 : Int)).1).toList == (strOfNums (l.take ((takeR l).2.2.1 : Int).toNat)).toList)) else (none)) else (some false)) else (some false)) = some true := by
      intro _
      rw [if_pos rfl, if_pos g4, if_pos (by omega)]
      simp only [List.nil_append, ef, beq_self_eq_true]
    rcases split_loop l.length l [] (Nat.le_refl _) hB (by simp; omega) with ⟨ps, e1, e2, e3, e4, e5⟩ | ⟨e, he, e1⟩
    · refine Ev.bind (show Ev (fun k => der_Split.f k l) (ps, 0) from e1) ?_
      refine Ev.ifT rfl (Ev.bind (put_taken l ps e2 (by omega) (by omega) e3) (Ev.ifT rfl (Ev.ifT rfl ?_)))
      exact Ev.congr last (Ev.now _)
    · refine Ev.bind (show Ev (fun k => der_Split.f k l) ([], e) from e1) ?_
      exact Ev.ifF he (Ev.congr last (Ev.now _))
  · refine Ev.ifF g1 (Ev.ifT g3 ?_)
    rw [g2]
    exact Ev.now _

end Go.Proofs.Ytdogiefacgknmaa.Pure
