/- The plain law of BaseFolds: what the printed functions answer, of any text and number. -/
import Derived.Test.YtfphmpnkfjeceaaDoorAwk
import Derived.Test.YtfphmpnkfjeceaaDoorFol
import Derived.Test.YtfphmpnkfjeceaaDoorHp5
import Derived.Test.YtfphmpnkfjeceaaDoorHp9
namespace Go.Proofs.YtfphmpnkfjeceaaDoor.Pure
open Go.RowKit Go.Proofs.YtfphmpnkfjeceaaDoor.Hp Go.Proofs.YtfphmpnkfjeceaaDoor.Esc Go.Proofs.YtfphmpnkfjeceaaDoorW.PrintWords Go.Proofs.YtfphmpnkfjeceaaDoorW.PrintLast
theorem BaseFolds : lanyardlaw02_BaseFolds.Pure := by
  intro s n _ _
  refine Ev.rounds (?_ : Ev (fun k => lanyardlaw02_BaseFolds.f k s n) true)
  unfold lanyardlaw02_BaseFolds.f
  refine Ev.bind awake_ev (Ev.ifT rfl ?_)
  by_cases h : (s.size : Int) > 3000
  · rw [decide_eq_true h]
    exact Ev.step (fun k => by rw [lanyardlaw02_BaseFolds.j0]) (Ev.ifT rfl (Ev.bind awake_ev (Ev.now _)))
  rw [decide_eq_false h]
  refine Ev.step (fun k => by rw [lanyardlaw02_BaseFolds.j0]) (Ev.ifF (by simp) ?_)
  by_cases hn : n < 1
  · have hf : base_Fold.f s n = some s := by unfold base_Fold.f; rw [if_pos hn]
    have hr : Ev (fun k => lanyardref02_Fold.f k s n) s := by
      have := ref_none s (by omega) n hn s.size 0 [] (by omega) (by simp)
      rw [List.drop_zero, List.nil_append, I_str, bs_self] at this
      exact this
    refine Ev.bindC hf (Ev.bind hr (Ev.ifT rfl (Ev.ifT hn ?_)))
    rw [show (s.toList == s.toList) = true by simp]
    exact Ev.now true
  · obtain ⟨m, rfl⟩ : ∃ m : Nat, n = m := ⟨n.toNat, by omega⟩
    have hf : base_Fold.f s (m : Int) = some (bs (fo m 0 s.data.toList)) := by
      unfold base_Fold.f
      rw [if_neg hn, if_pos (by omega), Int.toNat_natCast, foldL_fo m (by omega) _ _ (by rw [len_data]; exact Nat.le_refl _)]
      rfl
    have hr : Ev (fun k => lanyardref02_Fold.f k s (m : Int)) (bs (fo m 0 s.data.toList)) := by
      have := ref_fold s (by omega) m (by omega) s.size 0 0 [] (by omega) (by simp) (.inl ⟨rfl, rfl⟩)
      rw [List.drop_zero, List.nil_append, I_str] at this
      exact this
    have hl := fo_len m s.data.toList 0
    rw [len_data] at hl
    refine Ev.bindC hf (Ev.bind hr (Ev.ifT rfl (Ev.ifF hn ?_)))
    exact law_loop s _ (by omega) (by rw [bs_size]; omega) m (by omega) _ 0 0 0 (Nat.zero_add _) (by omega) (by omega) (by omega) (by rw [bs_data, List.drop_zero, List.drop_zero])
end Go.Proofs.YtfphmpnkfjeceaaDoor.Pure
