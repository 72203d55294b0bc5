/- The plain law of BaseApart: unlike bytes have unlike texts; bytes in threes are written one behind the other. -/
import Derived.Test.YtfphmpnkfjeceaaDoorAwk
import Derived.Test.YtfphmpnkfjeceaaDoorBck
import Derived.Test.YtfphmpnkfjeceaaDoorHp8
namespace Go.Proofs.YtfphmpnkfjeceaaDoor.Pure
open Go.RowKit Go.Proofs.YtfphmpnkfjeceaaDoor.Hp Go.Proofs.YtfphmpnkfjeceaaDoor.Esc Go.Proofs.YtfphmpnkfjeceaaDoorW.PrintWords Go.Proofs.YtfphmpnkfjeceaaDoorW.PrintLast
theorem bytes_beq (a b : List UInt8) : ((bs a).toList == (bs b).toList) = decide (a = b) := by
  rw [bs_toList, bs_toList]
  by_cases h : a = b <;> simp [h]
theorem str_beq (a b : List UInt8) : ((strOfNums (I a)).toList == (strOfNums (I b)).toList) = decide (a = b) := by
  rw [I_str, I_str, bytes_beq]
theorem BaseApart : lanyardlaw02_BaseApart.Pure := by
  intro la lb _ _ ha _ _ hb
  obtain ⟨a, rfl⟩ := I_of ha
  obtain ⟨b, rfl⟩ := I_of hb
  refine Ev.rounds (?_ : Ev (fun k => lanyardlaw02_BaseApart.f k (I a) (I b)) true)
  unfold lanyardlaw02_BaseApart.f
  refine Ev.bind awake_ev (Ev.ifT rfl ?_)
  rw [I_len, I_len]
  by_cases h : (a.length : Int) > 2000
  · exact Ev.ifT h (Ev.step (fun k => by rw [lanyardlaw02_BaseApart.j0]) (Ev.ifT rfl (Ev.bind awake_ev (Ev.now _))))
  refine Ev.ifF h ?_
  by_cases h2 : (b.length : Int) > 2000
  · rw [decide_eq_true h2]
    exact Ev.step (fun k => by rw [lanyardlaw02_BaseApart.j0]) (Ev.ifT rfl (Ev.bind awake_ev (Ev.now _)))
  rw [decide_eq_false h2]
  refine Ev.step (fun k => by rw [lanyardlaw02_BaseApart.j0]) ?_
  refine Ev.ifF (by simp) ?_
  refine Ev.bindC (enc_f a (by omega)) ?_
  refine Ev.bindC (enc_f b (by omega)) ?_
  rw [bytes_beq, str_beq, show decide (e3 a = e3 b) = decide (a = b) from decide_eq_decide.2 ⟨e3_inj a b, fun h => by rw [h]⟩]
  refine Ev.ifF (by simp) ?_
  refine Ev.bindC (hex_f a (by omega)) ?_
  refine Ev.bindC (hex_f b (by omega)) ?_
  rw [bytes_beq, show decide (hx a = hx b) = decide (a = b) from decide_eq_decide.2 ⟨hx_inj a b, fun h => by rw [h]⟩, show (decide (a = b) != decide (a = b)) = false by simp]
  refine Ev.step (fun k => by rw [lanyardlaw02_BaseApart.j1]) ?_
  refine Ev.ifF (by simp) ?_
  refine Ev.bindC (a := ([] : List Int)) rfl ?_
  have hk : wrap64 (wrap64 (((I a).length : Int) / 3) * 3) = ((a.length / 3 * 3 : Nat) : Int) := by rw [I_len]; unfold wrap64; omega
  rw [hk, I_len]
  refine Ev.ifT (by omega) ?_
  refine Ev.ifT (by omega) ?_
  rw [Int.toNat_natCast, I_take]
  have hl : (a.take (a.length / 3 * 3)).length = a.length / 3 * 3 := by rw [List.length_take]; omega
  refine Ev.ifT (by rw [I_len, hl]; simp; omega) ?_
  refine Ev.bindC (a := I (a.take (a.length / 3 * 3))) rfl ?_
  refine Ev.ifT (by rw [I_len, I_len, hl]; omega) ?_
  rw [← I_app]
  refine Ev.bindC (enc_f (a.take (a.length / 3 * 3) ++ b) (by rw [List.length_append]; omega)) ?_
  refine Ev.bindC (enc_f (a.take (a.length / 3 * 3)) (by omega)) ?_
  refine Ev.bindC (enc_f b (by omega)) ?_
  have h1 := e3_len (a.take (a.length / 3 * 3))
  have h2 := e3_len b
  refine Ev.ifT (by rw [bs_size, bs_size]; omega) ?_
  rw [bs_app, bytes_beq, e3_app _ (a.take (a.length / 3 * 3)) b rfl (by omega)]
  rw [decide_eq_true rfl]
  exact Ev.now true
end Go.Proofs.YtfphmpnkfjeceaaDoor.Pure
