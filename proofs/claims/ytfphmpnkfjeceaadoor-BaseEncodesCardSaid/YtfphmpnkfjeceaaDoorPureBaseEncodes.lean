/- The plain law of BaseEncodes: the texts are the document's, and are read as the bytes. -/
import Derived.Test.YtfphmpnkfjeceaaDoorAwk
import Derived.Test.YtfphmpnkfjeceaaDoorBck
import Derived.Test.YtfphmpnkfjeceaaDoorHp1
import Derived.Test.YtfphmpnkfjeceaaDoorHp5
import Derived.Test.YtfphmpnkfjeceaaDoorHp11
namespace Go.Proofs.YtfphmpnkfjeceaaDoor.Pure
open Go.RowKit Go.Proofs.YtfphmpnkfjeceaaDoor.Hp Go.Proofs.YtfphmpnkfjeceaaDoor.Esc Go.Proofs.YtfphmpnkfjeceaaDoorW.PrintWords Go.Proofs.YtfphmpnkfjeceaaDoorW.PrintLast
theorem folded (s : ByteArray) (hs : s.size ≤ 5000) (hb : ∀ c ∈ s.data.toList, blk c = false) (n : Int) : ∃ t : ByteArray, base_Fold.f s n = some t ∧ Ev (fun k => lanyardref02_Fold.f k s n) t ∧ sp t.data.toList = s.data.toList ∧ t.size ≤ 10000 ∧ t.size ≤ 2 * s.size := by
  by_cases hn : n < 1
  · refine ⟨s, ?_, ?_, sp_keep _ hb, by omega, by omega⟩
    · unfold base_Fold.f; rw [if_pos hn]
    · have := ref_none s hs n hn s.size 0 [] (by omega) (by simp)
      rw [List.drop_zero, List.nil_append, I_str, bs_self] at this
      exact this
  · obtain ⟨m, rfl⟩ : ∃ m : Nat, n = m := ⟨n.toNat, by omega⟩
    have hl := fo_len m s.data.toList 0
    rw [len_data] at hl
    refine ⟨bs (fo m 0 s.data.toList), ?_, ?_, sp_fo m _ 0 hb, by rw [bs_size]; omega, by rw [bs_size]; omega⟩
    · unfold base_Fold.f
      rw [if_neg hn, if_pos (by omega), Int.toNat_natCast, foldL_fo m (by omega) _ _ (by rw [len_data]; exact Nat.le_refl _)]
      rfl
    · have := ref_fold s hs m (by omega) s.size 0 0 [] (by omega) (by simp) (.inl ⟨rfl, rfl⟩)
      rw [List.drop_zero, List.nil_append, I_str] at this
      exact this
theorem BaseEncodes : lanyardlaw02_BaseEncodes.Pure := by
  intro lb n _ _ hb _
  obtain ⟨b, rfl⟩ := I_of hb
  refine Ev.rounds (?_ : Ev (fun k => lanyardlaw02_BaseEncodes.f k (I b) n) true)
  unfold lanyardlaw02_BaseEncodes.f
  refine Ev.bind awake_ev (Ev.ifT rfl ?_)
  rw [I_len]
  by_cases h : (b.length : Int) > 3000
  · rw [decide_eq_true h]
    exact Ev.step (fun k => by rw [lanyardlaw02_BaseEncodes.j0]) (Ev.ifT rfl (Ev.bind awake_ev (Ev.now _)))
  rw [decide_eq_false h]
  have hl := e3_len b
  have hx2 := hx_len b
  obtain ⟨t, ht1, ht2, ht3, ht4, ht5⟩ := folded (bs (e3 b)) (by rw [bs_size]; omega) (fun c hc => (e3_good b c hc).2) n
  rw [bs_data] at ht3
  rw [bs_size] at ht5
  refine Ev.step (fun k => by rw [lanyardlaw02_BaseEncodes.j0]) ?_
  refine Ev.ifF (by simp) ?_
  refine Ev.bindC (enc_f b (by omega)) ?_
  refine Ev.bindC (hex_f b (by omega)) ?_
  refine Ev.bind (ref_enc_ev b (by omega)) ?_
  refine Ev.ifT rfl ?_
  refine Ev.bind (ref_hex_ev b (by omega)) ?_
  refine Ev.ifT rfl ?_
  refine Ev.bindC ht1 ?_
  refine Ev.bind ht2 ?_
  rw [show (t.toList != t.toList) = false by simp]
  refine Ev.step (fun k => by rw [lanyardlaw02_BaseEncodes.j1]) ?_
  refine Ev.ifF (by simp) ?_
  refine Ev.bindC ht1 ?_
  have hd := decode_ev t (by omega) (by rw [ht3]; omega)
  rw [decd_of b _ ht3] at hd
  refine Ev.bind hd ?_
  have hu := base_Unhex_ev (bs (hx b)) (by rw [bs_size]; omega)
  rw [bs_data, unhexd_hx] at hu
  refine Ev.bind hu ?_
  refine Ev.ifT rfl ?_
  refine Ev.ifT rfl ?_
  refine Ev.ifT rfl ?_
  rw [show ((strOfNums (I b)).toList == (strOfNums (I b)).toList) = true by simp]
  exact Ev.now true
end Go.Proofs.YtfphmpnkfjeceaaDoor.Pure
