/- The plain law of FormApart: what the printed functions answer, of any two texts. -/
import Derived.Test.YtjmcdocoogdbiaaDoorEsc
import Derived.Test.YtjmcdocoogdbiaaDoorHp15
namespace Go.Proofs.YtjmcdocoogdbiaaDoor.Pure
open Go.RowKit Go.Proofs.YtjmcdocoogdbiaaDoor.Hp Go.Proofs.YtjmcdocoogdbiaaDoor.Esc Go.Proofs.YtjmcdocoogdbiaaDoorW.PrintWords Go.Proofs.YtjmcdocoogdbiaaDoorW.PrintLast
theorem hof_len {g : Int → Option ByteArray} (h : okg g = true) (c : UInt8) : (hof g c).length ≤ 64 := by
  obtain ⟨t, ht, hs⟩ := okg_at h c
  unfold hof
  rw [ht]
  simp only
  split
  · simp
  · rw [len_data]; exact hs
theorem one_same {g : Int → Option ByteArray} (h : Apart (hof g)) (a b : ByteArray) : (((bs (fl (hof g) a.data.toList)).toList == (bs (fl (hof g) b.data.toList)).toList) != (a.toList == b.toList)) = false := by
  rw [bs_toList, bs_toList, data_toList, data_toList, fl_same h]; simp
theorem one_size {g : Int → Option ByteArray} (h : okg g = true) (a : ByteArray) : (bs (fl (hof g) a.data.toList)).size ≤ 64 * a.size := by
  rw [bs_size]
  exact Nat.le_trans (fl_len _ 64 (hof_len h) _) (by rw [len_data]; exact Nat.le_refl _)
theorem one_app (g : Int → Option ByteArray) (a b : ByteArray) : (bs (fl (hof g) (a ++ b).data.toList)).toList = (bs (fl (hof g) a.data.toList) ++ bs (fl (hof g) b.data.toList)).toList := by
  rw [bs_toList, data_toList, app_data, app_data, fl_app, bs_data, bs_data]
theorem FormApart : lanyardlaw03_FormApart.Pure := by
  intro a0 a1 _ _
  refine Ev.rounds (?_ : Ev (fun k => lanyardlaw03_FormApart.f k a0 a1) true)
  have slow : Ev (fun k => lanyardlaw03_FormApart.j0 k a0 a1 true) true := Ev.step (fun k => by rw [lanyardlaw03_FormApart.j0]) (Ev.ifT rfl (Ev.bind awake_ev (Ev.now _)))
  unfold lanyardlaw03_FormApart.f
  refine Ev.bind awake_ev (Ev.ifT rfl ?_)
  by_cases h0 : (a0.size : Int) > 1000
  · exact Ev.ifT h0 slow
  refine Ev.ifF h0 ?_
  by_cases h1 : (a1.size : Int) > 1000
  · rw [decide_eq_true h1]; exact slow
  rw [decide_eq_false h1]
  have hs : (a0 ++ a1).size = a0.size + a1.size := ByteArray.size_append
  have p0 := one_size ok_percent a0
  have p1 := one_size ok_percent a1
  have q0 := one_size ok_attr a0
  have q1 := one_size ok_attr a1
  have t0 := one_size ok_text a0
  have t1 := one_size ok_text a1
  have g0 := one_size ok_page a0
  have g1 := one_size ok_page a1
  refine Ev.step (fun k => by rw [lanyardlaw03_FormApart.j0]) (Ev.ifF (by simp) ?_)
  refine Ev.bindC (percent_f a0 (by omega)) (Ev.bindC (percent_f a1 (by omega)) (Ev.ifF (by rw [one_same apart_percent]; simp) ?_))
  refine Ev.bindC (attr_f a0 (by omega)) (Ev.bindC (attr_f a1 (by omega)) (Ev.ifF (by rw [one_same apart_attr]; simp) ?_))
  refine Ev.bindC (text_f a0 (by omega)) (Ev.bindC (text_f a1 (by omega)) (Ev.ifF (by rw [one_same apart_text]; simp) ?_))
  refine Ev.bindC (page_f a0 (by omega)) (Ev.bindC (page_f a1 (by omega)) ?_)
  rw [one_same apart_page]
  refine Ev.step (fun k => by rw [lanyardlaw03_FormApart.j1]) (Ev.ifF (by simp) (Ev.ifT (by omega) ?_))
  refine Ev.bindC (percent_f (a0 ++ a1) (by omega)) (Ev.bindC (percent_f a0 (by omega)) (Ev.bindC (percent_f a1 (by omega)) (Ev.ifT (by omega) (Ev.ifT (one_app _ _ _) ?_))))
  refine Ev.bindC (attr_f (a0 ++ a1) (by omega)) (Ev.bindC (attr_f a0 (by omega)) (Ev.bindC (attr_f a1 (by omega)) (Ev.ifT (by omega) (Ev.ifT (one_app _ _ _) ?_))))
  refine Ev.bindC (text_f (a0 ++ a1) (by omega)) (Ev.bindC (text_f a0 (by omega)) (Ev.bindC (text_f a1 (by omega)) (Ev.ifT (by omega) (Ev.ifT (one_app _ _ _) ?_))))
  refine Ev.bindC (page_f (a0 ++ a1) (by omega)) (Ev.bindC (page_f a0 (by omega)) (Ev.bindC (page_f a1 (by omega)) (Ev.ifT (by omega) ?_)))
  rw [one_app, beq_self_eq_true]
  exact Ev.now true
end Go.Proofs.YtjmcdocoogdbiaaDoor.Pure
