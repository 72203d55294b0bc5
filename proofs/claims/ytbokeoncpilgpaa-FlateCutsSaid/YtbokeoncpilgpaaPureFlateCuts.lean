/- The plain law of FlateCuts: a text that is cut is short, and the room is met just by longer ones. -/
import Derived.Test.YtbokeoncpilgpaaFrm
import Derived.Test.YtbokeoncpilgpaaHp0
import Derived.Test.YtbokeoncpilgpaaHp3
import Derived.Test.YtbokeoncpilgpaaHp11
namespace Go.Proofs.Ytbokeoncpilgpaa.Pure
open Go.RowKit Go.Proofs.Ytbokeoncpilgpaa.Hp Go.Proofs.Ytbokeoncpilgpaa.Pln Go.Proofs.YtbokeoncpilgpaaW.PrintWords Go.Proofs.YtbokeoncpilgpaaW.PrintLast
theorem cuts_end (x0 : List Int) (x1 : Int) (fs : List (List Int)) : Ev (fun k => lanyardlaw04_FlateCuts.l0 k x0 x1 fs 2) true := by
  refine Ev.step (fun k => by rw [lanyardlaw04_FlateCuts.l0]) ?_
  exact Ev.ifF (by decide) (Ev.now _)
theorem cuts_round (x0 : List Int) (x1 : Int) (fs : List (List Int)) (i : Nat) (hi : i < 2) (hfs : fs.length = 2) (hx : x0.length ≤ 20000) (h : FormOK (fs.getD i []) x0) (hn : Ev (fun k => lanyardlaw04_FlateCuts.l0 k x0 x1 fs ((i + 1 : Nat) : Int)) true) :
    Ev (fun k => lanyardlaw04_FlateCuts.l0 k x0 x1 fs (i : Int)) true := by
  have hr : rd_L2 fs (i : Int) = fs.getD i [] := by unfold rd_L2; rw [Int.toNat_natCast]
  have hw : wrap64 ((i : Int) + 1) = ((i + 1 : Nat) : Int) := wr64 (by omega) (by omega)
  refine Ev.step (fun k => by rw [lanyardlaw04_FlateCuts.l0]) ?_
  rw [hr]
  obtain ⟨F, hF⟩ : ∃ F, fs.getD i [] = F := ⟨_, rfl⟩
  rw [hF] at h ⊢
  have h' := h
  obtain ⟨h1, h2, h3, h4, h5⟩ := h'
  obtain ⟨k, hk, e⟩ := cut_mod x1 F.length h3 (by omega)
  refine Ev.ifT (by omega) (Ev.ifT (by omega) (Ev.ifT (by omega) (Ev.ifF (by omega) ?_)))
  rw [e]
  refine Ev.ifT (by omega) (Ev.ifT (by omega) ?_)
  rw [Int.toNat_natCast]
  refine Ev.bindC (infl_f _ _ (by rw [List.length_take]; omega) (by decide) (fun x hx => h1 x (List.mem_of_mem_take hx))) ?_
  rw [h4 k hk]
  refine Ev.ifT rfl (Ev.ifT rfl ?_)
  refine Ev.step (fun k => by rw [lanyardlaw04_FlateCuts.j2]) ?_
  refine Ev.ifF (by simp) (Ev.ifT (by omega) (Ev.ifT (by omega) ?_))
  rw [hr, hF]
  refine Ev.bindC (infl_f F _ h2 (by omega) h1) ?_
  have e := h.self (x0.length : Int) (by omega)
  rw [if_neg (by omega)] at e
  rw [e]
  refine Ev.ifT rfl ?_
  rw [wr64 (x := (x0.length : Int) - 1) (by omega) (by omega)]
  refine Ev.bindC (infl_f F _ h2 (by omega) h1) ?_
  rw [hw]
  by_cases hz : (x0.length : Int) > 0
  · have e2 := h.self ((x0.length : Int) - 1) (by omega)
    rw [if_pos (by omega)] at e2
    rw [e2]
    exact Ev.ifT hz (Ev.ifT rfl hn)
  · exact Ev.ifF hz hn
theorem FlateCuts : lanyardlaw04_FlateCuts.Pure := by
  intro l0 a1 _ _ hb _
  refine Ev.rounds (?_ : Ev (fun k => lanyardlaw04_FlateCuts.f k l0 a1) true)
  unfold lanyardlaw04_FlateCuts.f
  refine Ev.bindC (show lanyardlaw04_awake.f = some true from rfl) ?_
  refine Ev.ifT rfl ?_
  refine Ev.step (fun k => by rw [lanyardlaw04_FlateCuts.j0]) ?_
  by_cases hl : (l0.length : Int) > 600
  · refine Ev.ifT (by simpa using hl) ?_
    exact Ev.bindC (show lanyardlaw04_awake.f = some true from rfl) (Ev.now _)
  · refine Ev.ifF (by simpa using hl) ?_
    have hb' : ∀ x ∈ l0, 0 ≤ x ∧ x < 256 := fun x hx => u8_of (hb x hx)
    refine Ev.bindC (defl_f l0 (by omega) hb') ?_
    refine Ev.bindC (stored_f l0 (by omega)) ?_
    exact cuts_round l0 a1 _ 0 (by decide) rfl (by omega) (defl_form l0 (by omega) hb') (cuts_round l0 a1 _ 1 (by decide) rfl (by omega) (stored_form l0 (by omega) hb') (cuts_end l0 a1 _))
end Go.Proofs.Ytbokeoncpilgpaa.Pure
