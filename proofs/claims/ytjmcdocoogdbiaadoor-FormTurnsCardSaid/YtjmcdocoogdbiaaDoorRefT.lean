/- The document's own turning of texts: the loop of the printed function, byte by byte. -/
import Derived.Test.YtjmcdocoogdbiaaDoorEsc
import Derived.Test.YtjmcdocoogdbiaaDoorHp9
import Derived.Test.YtjmcdocoogdbiaaDoorHp10
namespace Go.Proofs.YtjmcdocoogdbiaaDoor.Esc
open Go.RowKit Go.Proofs.YtjmcdocoogdbiaaDoor.Hp Go.Proofs.YtjmcdocoogdbiaaDoorW.PrintWords Go.Proofs.YtjmcdocoogdbiaaDoorW.PrintLast
def how (n : Int) : Int → Option ByteArray := if n = 1 then escape_inAttr.f else if n = 2 then escape_inText.f else escape_inPage.f
def special (c : UInt8) : Bool := c == 38 || c == 60 || c == 62 || c == 34 || c == 39 || c == 13 || c == 9 || c == 10
theorem plain_how (n : Int) (hn : n = 1 ∨ n = 2 ∨ n = 3) (c : UInt8) (h : special c = false) : hof (how n) c = [c] := by
  have f1 : ∀ c : UInt8, (special c || hof (how 1) c == [c]) = true := bytes_all (by decide +kernel)
  have f2 : ∀ c : UInt8, (special c || hof (how 2) c == [c]) = true := bytes_all (by decide +kernel)
  have f3 : ∀ c : UInt8, (special c || hof (how 3) c == [c]) = true := bytes_all (by decide +kernel)
  rcases hn with rfl | rfl | rfl
  · have := f1 c; rw [h] at this; simpa using this
  · have := f2 c; rw [h] at this; simpa using this
  · have := f3 c; rw [h] at this; simpa using this
theorem turned_step (n : Int) (hn : n = 1 ∨ n = 2 ∨ n = 3) (s acc : ByteArray) (i : Int) (h0 : 0 ≤ i) (hi : i < (s.size : Int)) (c : UInt8) (hc : bt s i = (c.toNat : Int)) (ha : acc.size ≤ 1000000000000) (r : ByteArray)
    (k : ∀ u : ByteArray, u.data.toList = hof (how n) c → Ev (fun k => lanyardref03_Turned.l0 k s n (acc ++ u) (wrap64 (i + 1))) r) : Ev (fun k => lanyardref03_Turned.l0 k s n acc i) r := by
  refine Ev.step (fun k => by rw [lanyardref03_Turned.l0]) (Ev.ifT hi (Ev.ifT h0 (Ev.bindC rfl ?_)))
  rw [hc]
  have hz : (strOfNums [(c.toNat : Int)]).size = 1 := by simp [strOfNums_size]
  by_cases hs : special c = true
  · have : c = 38 ∨ c = 60 ∨ c = 62 ∨ c = 34 ∨ c = 39 ∨ c = 13 ∨ c = 9 ∨ c = 10 := by simpa [special, or_assoc] using hs
    rcases this with rfl | rfl | rfl | rfl | rfl | rfl | rfl | rfl <;> rcases hn with rfl | rfl | rfl
    all_goals
      repeat' first
        | (refine k _ ?_; decide +kernel)
        | refine Ev.ifT (by decide) ?_
        | refine Ev.ifF (by decide) ?_
        | refine Ev.ifT (by omega) ?_
        | refine Ev.step (fun k => by rw [lanyardref03_Turned.j1]) ?_
        | refine Ev.step (fun k => by rw [lanyardref03_Turned.j2]) ?_
        | refine Ev.step (fun k => by rw [lanyardref03_Turned.j3]) ?_
        | refine Ev.step (fun k => by rw [lanyardref03_Turned.j4]) ?_
        | refine Ev.step (fun k => by rw [lanyardref03_Turned.j5]) ?_
        | fail
  · have hb : special c = false := by simpa using hs
    have hp := plain_how n hn c hb
    have hne : (c.toNat : Int) ≠ 38 ∧ (c.toNat : Int) ≠ 60 ∧ (c.toNat : Int) ≠ 62 ∧ (c.toNat : Int) ≠ 34 ∧ (c.toNat : Int) ≠ 39 ∧ (c.toNat : Int) ≠ 13 ∧ (c.toNat : Int) ≠ 9 ∧ (c.toNat : Int) ≠ 10 := by
      have : ∀ c : UInt8, (special c || (decide (c.toNat ≠ 38) && decide (c.toNat ≠ 60) && decide (c.toNat ≠ 62) && decide (c.toNat ≠ 34) && decide (c.toNat ≠ 39) && decide (c.toNat ≠ 13) && decide (c.toNat ≠ 9) && decide (c.toNat ≠ 10))) = true := bytes_all (by decide +kernel)
      have h := this c
      rw [hb] at h
      simp at h
      omega
    obtain ⟨n1, n2, n3, n4, n5, n6, n7, n8⟩ := hne
    refine Ev.ifF n1 (Ev.ifF n2 (Ev.ifF n3 ?_))
    refine Ev.step (fun k => by rw [lanyardref03_Turned.j1]) (Ev.ifF (by simp) (Ev.ifF n4 ?_))
    refine Ev.step (fun k => by rw [lanyardref03_Turned.j2]) (Ev.ifF (by simp) (Ev.ifF n5 ?_))
    refine Ev.step (fun k => by rw [lanyardref03_Turned.j3]) (Ev.ifF (by simp) (Ev.ifF n6 ?_))
    refine Ev.step (fun k => by rw [lanyardref03_Turned.j4]) (Ev.ifF (by simp) (Ev.ifF n7 ?_))
    refine Ev.step (fun k => by rw [lanyardref03_Turned.j5]) (Ev.ifF (by simp) (Ev.ifF n8 (Ev.ifT (by omega) ?_)))
    exact k _ (by rw [hp]; simp [strOfNums])
theorem how_len (n : Int) (hn : n = 1 ∨ n = 2 ∨ n = 3) (c : UInt8) : (hof (how n) c).length ≤ 64 := by
  have f1 : ∀ c : UInt8, decide ((hof (how 1) c).length ≤ 64) = true := bytes_all (by decide +kernel)
  have f2 : ∀ c : UInt8, decide ((hof (how 2) c).length ≤ 64) = true := bytes_all (by decide +kernel)
  have f3 : ∀ c : UInt8, decide ((hof (how 3) c).length ≤ 64) = true := bytes_all (by decide +kernel)
  rcases hn with rfl | rfl | rfl
  · exact of_decide_eq_true (f1 c)
  · exact of_decide_eq_true (f2 c)
  · exact of_decide_eq_true (f3 c)
theorem turned_loop (n : Int) (hn : n = 1 ∨ n = 2 ∨ n = 3) (s : ByteArray) (hs : s.size ≤ 10000) : ∀ (m i : Nat) (acc : ByteArray), s.size - i = m → i ≤ s.size → acc.size ≤ 64 * i →
    Ev (fun k => lanyardref03_Turned.l0 k s n acc (i : Int)) (acc ++ bs (fl (hof (how n)) (s.data.toList.drop i)))
  | 0, i, acc, hm, hi, _ => by
    refine Ev.step (fun k => by rw [lanyardref03_Turned.l0]) (Ev.ifF (by omega) ?_)
    rw [drop_end s i (by omega), show acc ++ bs (fl (hof (how n)) []) = acc from ext (by rw [app_data]; simp [fl, bs_data])]
    exact Ev.now acc
  | m + 1, i, acc, hm, hi, ha => by
    refine turned_step n hn s acc i (by omega) (by omega) (s.data.toList.getD i 0) (bt_nat s i (by omega)) (by omega) _ (fun u hu => ?_)
    have hl := how_len n hn (s.data.toList.getD i 0)
    have hus : u.size ≤ 64 := by rw [← len_data, hu]; exact hl
    have := turned_loop n hn s hs m (i + 1) (acc ++ u) (by omega) (by omega) (by rw [ByteArray.size_append]; omega)
    rw [w64 (by omega) (by omega), show (i : Int) + 1 = ((i + 1 : Nat) : Int) by omega]
    rw [show acc ++ bs (fl (hof (how n)) (s.data.toList.drop i)) = (acc ++ u) ++ bs (fl (hof (how n)) (s.data.toList.drop (i + 1))) from ext (by rw [app_data, app_data, app_data, drop_cons s i (by omega), fl_cons, hu]; simp [bs_data])]
    exact this
theorem turned_ev (n : Int) (hn : n = 1 ∨ n = 2 ∨ n = 3) (s : ByteArray) (hs : s.size ≤ 10000) : Ev (fun k => lanyardref03_Turned.f k s n) (bs (fl (hof (how n)) s.data.toList)) := by
  have := turned_loop n hn s hs s.size 0 ⟨#[]⟩ (by omega) (by omega) (by decide)
  rw [show (⟨#[]⟩ : ByteArray) ++ bs (fl (hof (how n)) (s.data.toList.drop 0)) = bs (fl (hof (how n)) s.data.toList) from ext (by rw [app_data]; simp [bs_data])] at this
  unfold lanyardref03_Turned.f
  exact this
end Go.Proofs.YtjmcdocoogdbiaaDoor.Esc
