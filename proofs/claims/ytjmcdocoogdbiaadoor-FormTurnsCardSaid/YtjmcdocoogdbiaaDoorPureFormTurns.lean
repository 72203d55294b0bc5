/- The plain law of FormTurns: what the printed functions answer, of any text. -/
import Derived.Test.YtjmcdocoogdbiaaDoorRefT
import Derived.Test.YtjmcdocoogdbiaaDoorHp9
import Derived.Test.YtjmcdocoogdbiaaDoorHp14
namespace Go.Proofs.YtjmcdocoogdbiaaDoor.Pure
open Go.RowKit Go.Proofs.YtjmcdocoogdbiaaDoor.Hp Go.Proofs.YtjmcdocoogdbiaaDoor.Esc Go.Proofs.YtjmcdocoogdbiaaDoorW.PrintWords Go.Proofs.YtjmcdocoogdbiaaDoorW.PrintLast
theorem mem_at (s : ByteArray) (i : Nat) (h : i < s.size) : s.data.toList.getD i 0 ∈ s.data.toList := by
  have hl : i < s.data.toList.length := by rw [len_data]; exact h
  rw [List.getD_eq_getElem?_getD, List.getElem?_eq_getElem hl]
  exact List.getElem_mem hl
theorem scan0 (a b c : ByteArray) (ha : a.size ≤ 10000000) (hp : ∀ x ∈ a.data.toList, x.toNat ≠ 60 ∧ x.toNat ≠ 34 ∧ x.toNat ≠ 10) (hn : Ev (fun k => lanyardlaw03_FormTurns.l1 k b c 0) true) : ∀ m i : Nat, a.size - i = m → i ≤ a.size → Ev (fun k => lanyardlaw03_FormTurns.l0 k a b c (i : Int)) true
  | 0, i, hm, hi => Ev.step (fun k => by rw [lanyardlaw03_FormTurns.l0]) (Ev.ifF (by omega) hn)
  | m + 1, i, hm, hi => by
    have hx := hp _ (mem_at a i (by omega))
    refine Ev.step (fun k => by rw [lanyardlaw03_FormTurns.l0]) (Ev.ifT (by omega) (Ev.ifT (by omega) ?_))
    rw [bt_nat a i (by omega)]
    refine Ev.ifF (by omega) (Ev.ifF (by omega) (Ev.ifF (by omega) ?_))
    rw [w64 (by omega) (by omega), show (i : Int) + 1 = ((i + 1 : Nat) : Int) by omega]
    exact scan0 a b c ha hp hn m (i + 1) (by omega) (by omega)
theorem scan1 (b c : ByteArray) (ha : b.size ≤ 10000000) (hp : ∀ x ∈ b.data.toList, x.toNat ≠ 60 ∧ x.toNat ≠ 62 ∧ x.toNat ≠ 13) (hn : Ev (fun k => lanyardlaw03_FormTurns.l2 k c 0) true) : ∀ m i : Nat, b.size - i = m → i ≤ b.size → Ev (fun k => lanyardlaw03_FormTurns.l1 k b c (i : Int)) true
  | 0, i, hm, hi => Ev.step (fun k => by rw [lanyardlaw03_FormTurns.l1]) (Ev.ifF (by omega) hn)
  | m + 1, i, hm, hi => by
    have hx := hp _ (mem_at b i (by omega))
    refine Ev.step (fun k => by rw [lanyardlaw03_FormTurns.l1]) (Ev.ifT (by omega) (Ev.ifT (by omega) ?_))
    rw [bt_nat b i (by omega)]
    refine Ev.ifF (by omega) (Ev.ifF (by omega) (Ev.ifF (by omega) ?_))
    rw [w64 (by omega) (by omega), show (i : Int) + 1 = ((i + 1 : Nat) : Int) by omega]
    exact scan1 b c ha hp hn m (i + 1) (by omega) (by omega)
theorem scan2 (c : ByteArray) (ha : c.size ≤ 10000000) (hp : ∀ x ∈ c.data.toList, x.toNat ≠ 60 ∧ x.toNat ≠ 62 ∧ x.toNat ≠ 34 ∧ x.toNat ≠ 39) : ∀ m i : Nat, c.size - i = m → i ≤ c.size → Ev (fun k => lanyardlaw03_FormTurns.l2 k c (i : Int)) true
  | 0, i, hm, hi => Ev.step (fun k => by rw [lanyardlaw03_FormTurns.l2]) (Ev.ifF (by omega) (Ev.now true))
  | m + 1, i, hm, hi => by
    have hx := hp _ (mem_at c i (by omega))
    refine Ev.step (fun k => by rw [lanyardlaw03_FormTurns.l2]) (Ev.ifT (by omega) (Ev.ifT (by omega) ?_))
    rw [bt_nat c i (by omega)]
    refine Ev.ifF (by omega) (Ev.ifF (by omega) (Ev.ifF (by omega) (Ev.ifF (by omega) ?_)))
    rw [w64 (by omega) (by omega), show (i : Int) + 1 = ((i + 1 : Nat) : Int) by omega]
    exact scan2 c ha hp m (i + 1) (by omega) (by omega)
theorem fl_mem {h : UInt8 → List UInt8} {p : UInt8 → Prop} (hp : ∀ c, ∀ x ∈ h c, p x) (l : List UInt8) : ∀ x ∈ fl h l, p x := fun x hx => by
  obtain ⟨c, _, hc⟩ := List.mem_flatMap.1 hx
  exact hp c x hc
theorem attr_ok : ∀ c, ∀ x ∈ hof escape_inAttr.f c, x.toNat ≠ 60 ∧ x.toNat ≠ 34 ∧ x.toNat ≠ 10 := by
  have f : ∀ c, (hof escape_inAttr.f c).all (fun x => x.toNat != 60 && x.toNat != 34 && x.toNat != 10) = true := bytes_all (by decide +kernel)
  intro c x hx
  have := List.all_eq_true.1 (f c) x hx
  simpa [and_assoc] using this
theorem text_ok : ∀ c, ∀ x ∈ hof escape_inText.f c, x.toNat ≠ 60 ∧ x.toNat ≠ 62 ∧ x.toNat ≠ 13 := by
  have f : ∀ c, (hof escape_inText.f c).all (fun x => x.toNat != 60 && x.toNat != 62 && x.toNat != 13) = true := bytes_all (by decide +kernel)
  intro c x hx
  have := List.all_eq_true.1 (f c) x hx
  simpa [and_assoc] using this
theorem page_ok : ∀ c, ∀ x ∈ hof escape_inPage.f c, x.toNat ≠ 60 ∧ x.toNat ≠ 62 ∧ x.toNat ≠ 34 ∧ x.toNat ≠ 39 := by
  have f : ∀ c, (hof escape_inPage.f c).all (fun x => x.toNat != 60 && x.toNat != 62 && x.toNat != 34 && x.toNat != 39) = true := bytes_all (by decide +kernel)
  intro c x hx
  have := List.all_eq_true.1 (f c) x hx
  simpa [and_assoc] using this
theorem big {g : Int → Option ByteArray} (h : okg g = true) (s : ByteArray) (hs : s.size ≤ 2000) : (bs (fl (hof g) s.data.toList)).size ≤ 10000000 := by
  have hl : ∀ c, (hof g c).length ≤ 64 := fun c => by
    obtain ⟨t, ht, hs⟩ := okg_at h c
    unfold hof
    rw [ht]
    simp only
    split
    · simp
    · rw [len_data]; exact hs
  have := fl_len _ 64 hl s.data.toList
  rw [len_data] at this
  rw [bs_size]; omega
theorem FormTurns : lanyardlaw03_FormTurns.Pure := by
  intro a0 _
  refine Ev.rounds (?_ : Ev (fun k => lanyardlaw03_FormTurns.f k a0) true)
  have slow : Ev (fun k => lanyardlaw03_FormTurns.j0 k a0 true) true := Ev.step (fun k => by rw [lanyardlaw03_FormTurns.j0]) (Ev.ifT rfl (Ev.bind awake_ev (Ev.now _)))
  unfold lanyardlaw03_FormTurns.f
  refine Ev.bind awake_ev (Ev.ifT rfl ?_)
  by_cases h0 : (a0.size : Int) > 2000
  · rw [decide_eq_true h0]; exact slow
  rw [decide_eq_false h0]
  refine Ev.step (fun k => by rw [lanyardlaw03_FormTurns.j0]) (Ev.ifF (by simp) ?_)
  refine Ev.bindC (attr_f a0 (by omega)) (Ev.bindC (text_f a0 (by omega)) (Ev.bindC (page_f a0 (by omega)) ?_))
  refine Ev.bind (turned_ev 1 (.inl rfl) a0 (by omega)) (Ev.ifT rfl (Ev.bind (turned_ev 2 (.inr (.inl rfl)) a0 (by omega)) (Ev.ifT rfl (Ev.bind (turned_ev 3 (.inr (.inr rfl)) a0 (by omega)) ?_))))
  rw [show ((bs (fl (hof escape_inPage.f) a0.data.toList)).toList != (bs (fl (hof (how 3)) a0.data.toList)).toList) = false by show (_ != (bs (fl (hof escape_inPage.f) a0.data.toList)).toList) = false; simp]
  refine Ev.step (fun k => by rw [lanyardlaw03_FormTurns.j1]) (Ev.ifF (by simp) ?_)
  refine scan0 _ _ _ (big ok_attr a0 (by omega)) (fl_mem attr_ok _) ?_ _ 0 rfl (by omega)
  refine scan1 _ _ (big ok_text a0 (by omega)) (fl_mem text_ok _) ?_ _ 0 rfl (by omega)
  exact scan2 _ (big ok_page a0 (by omega)) (fl_mem page_ok _) _ 0 rfl (by omega)
end Go.Proofs.YtjmcdocoogdbiaaDoor.Pure
