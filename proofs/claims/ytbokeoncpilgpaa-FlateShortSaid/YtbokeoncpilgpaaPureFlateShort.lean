/- The plain law of FlateShort: both forms are the document's, and are read again, whatever stands behind. -/
import Derived.Test.YtbokeoncpilgpaaFrm
import Derived.Test.YtbokeoncpilgpaaRef
import Derived.Test.YtbokeoncpilgpaaHp0
import Derived.Test.YtbokeoncpilgpaaHp2
import Derived.Test.YtbokeoncpilgpaaHp3
import Derived.Test.YtbokeoncpilgpaaHp7
import Derived.Test.YtbokeoncpilgpaaHp9
import Derived.Test.YtbokeoncpilgpaaHp10
namespace Go.Proofs.Ytbokeoncpilgpaa.Pure
open Go.RowKit Go.Proofs.Ytbokeoncpilgpaa.Hp Go.Proofs.Ytbokeoncpilgpaa.Pln Go.Proofs.YtbokeoncpilgpaaW.PrintWords Go.Proofs.YtbokeoncpilgpaaW.PrintLast
theorem short_end (x0 x1 : List Int) (m : Int) (fs : List (List Int)) : Ev (fun k => lanyardlaw04_FlateShort.l0 k x0 x1 m fs 2) true := by
  refine Ev.step (fun k => by rw [lanyardlaw04_FlateShort.l0]) ?_
  exact Ev.ifF (by decide) (Ev.now _)
theorem short_round (x0 x1 : List Int) (m : Int) (hm2 : m ≤ 9223372036854775807) (fs : List (List Int)) (i : Nat) (hi : i < 2) (hfs : fs.length = 2) (_ : x0.length ≤ 20000) (h1l : x1.length ≤ 20000) (hb1 : ∀ x ∈ x1, 0 ≤ x ∧ x < 256) (h : FormOK (fs.getD i []) x0) (hsm : (fs.getD i []).length ≤ 10000000) (hn : Ev (fun k => lanyardlaw04_FlateShort.l0 k x0 x1 m fs ((i + 1 : Nat) : Int)) true) :
    Ev (fun k => lanyardlaw04_FlateShort.l0 k x0 x1 m fs (i : Int)) true := by
  have hr : rd_L2 fs (i : Int) = fs.getD i [] := by unfold rd_L2; rw [Int.toNat_natCast]
  have hw : wrap64 ((i : Int) + 1) = ((i + 1 : Nat) : Int) := wr64 (by omega) (by omega)
  refine Ev.step (fun k => by rw [lanyardlaw04_FlateShort.l0]) ?_
  rw [hr]
  obtain ⟨F, hF⟩ : ∃ F, fs.getD i [] = F := ⟨_, rfl⟩
  rw [hF] at h hsm ⊢
  obtain ⟨h1, h2, h3, h4, h5⟩ := h
  refine Ev.ifT (by omega) (Ev.bindC rfl (Ev.ifT (by omega) (Ev.ifT (by omega) (Ev.ifT (by rw [List.length_nil]; omega) (Ev.bindC rfl (Ev.ifT ?_ ?_))))))
  · rw [List.nil_append]; omega
  rw [List.nil_append]
  refine Ev.bindC (infl_f (F ++ x1) m (by rw [List.length_append]; omega) hm2 (fun x hx => (List.mem_append.1 hx).elim (h1 x) (hb1 x))) ?_
  rw [hw]
  by_cases hneg : m < 0
  · have e : inflL (F ++ x1) m = ([], 0, 2) := if_pos hneg
    rw [e]
    exact Ev.ifT hneg (Ev.ifT rfl (Ev.ifT rfl (Ev.ifT rfl hn)))
  · have e := h5 x1 m (by omega)
    refine Ev.ifF hneg ?_
    by_cases hlt : m < (x0.length : Int)
    · rw [if_pos hlt] at e
      rw [e]
      refine Ev.ifT hlt (Ev.ifT rfl (Ev.ifT rfl ?_))
      refine Ev.step (fun k => by rw [lanyardlaw04_FlateShort.j3]) ?_
      rw [hw]
      exact Ev.ifF (by simp) hn
    · rw [if_neg hlt] at e
      rw [e]
      exact Ev.ifF hlt (Ev.ifT rfl (Ev.ifT rfl (Ev.ifT rfl hn)))
theorem FlateShort : lanyardlaw04_FlateShort.Pure := by
  intro l0 l1 a2 _ _ hb _ _ hb1 hm
  refine Ev.rounds (?_ : Ev (fun k => lanyardlaw04_FlateShort.f k l0 l1 a2) true)
  have haw : lanyardlaw04_awake.f = some true := rfl
  have out : Ev (fun k => lanyardlaw04_FlateShort.j0 k l0 l1 a2 true) true := by
    refine Ev.step (fun k => by rw [lanyardlaw04_FlateShort.j0]) ?_
    exact Ev.ifT rfl (Ev.bindC haw (Ev.now _))
  unfold lanyardlaw04_FlateShort.f
  refine Ev.bindC haw (Ev.ifT rfl ?_)
  by_cases c1 : (l0.length : Int) > 600
  · exact Ev.ifT c1 out
  · refine Ev.ifF c1 ?_
    by_cases c2 : (l1.length : Int) > 200
    · rw [decide_eq_true c2]
      exact out
    · rw [decide_eq_false c2]
      have hb' : ∀ x ∈ l0, 0 ≤ x ∧ x < 256 := fun x hx => u8_of (hb x hx)
      have hb1' : ∀ x ∈ l1, 0 ≤ x ∧ x < 256 := fun x hx => u8_of (hb1 x hx)
      have hst := stored_form l0 (by omega) hb'
      have hdf := defl_form l0 (by omega) hb'
      have hsl := storedL_len (l0.length + 1) l0 (Nat.lt_succ_self _)
      have hdl : (bytesL (deflB l0)).length ≤ 10000000 := by
        have h1 := bytesL_len (deflB l0)
        have h2 := deflB_len l0
        have h3 := deflG_len l0 (l0.length + 1) 0 (by omega)
        omega
      refine Ev.step (fun k => by rw [lanyardlaw04_FlateShort.j0]) ?_
      refine Ev.ifF (by simp) (Ev.bindC rfl (Ev.ifT (by rw [List.length_nil]; omega) ?_))
      rw [List.nil_append]
      refine Ev.bindC (defl_f l0 (by omega) hb') ?_
      refine Ev.bindC (stored_f l0 (by omega)) ?_
      refine Ev.ifT rfl ?_
      refine Ev.bind (ref_deflate l0 (by omega) hb') ?_
      refine Ev.ifT rfl ?_
      refine Ev.bindC (show lanyardref04_Stored.f l0 = some (storedL (l0.length + 1) l0) from if_pos (by omega)) ?_
      refine Ev.step (fun k => by rw [lanyardlaw04_FlateShort.j1]) ?_
      refine Ev.ifF (by simp) ?_
      have hm2 : a2 ≤ 9223372036854775807 := (i64_of hm).2
      exact short_round l0 l1 a2 hm2 _ 0 (by decide) rfl (by omega) (by omega) hb1' hdf hdl (short_round l0 l1 a2 hm2 _ 1 (by decide) rfl (by omega) (by omega) hb1' hst (by show (storedL (l0.length + 1) l0).length ≤ 10000000; omega) (short_end l0 l1 a2 _))
end Go.Proofs.Ytbokeoncpilgpaa.Pure
