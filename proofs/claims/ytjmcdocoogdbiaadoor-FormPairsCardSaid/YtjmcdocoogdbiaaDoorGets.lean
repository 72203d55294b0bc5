/- Get, of the program and of the document, and Same: what the printed functions answer. -/
import Derived.Test.YtjmcdocoogdbiaaDoorGet
import Derived.Test.YtjmcdocoogdbiaaDoorRefR
import Derived.Test.YtjmcdocoogdbiaaDoorHp0
import Derived.Test.YtjmcdocoogdbiaaDoorHp4
import Derived.Test.YtjmcdocoogdbiaaDoorHp8
namespace Go.Proofs.YtjmcdocoogdbiaaDoor.Esc
open Go.RowKit Go.Proofs.YtjmcdocoogdbiaaDoor.Hp Go.Proofs.YtjmcdocoogdbiaaDoorW.PrintWords Go.Proofs.YtjmcdocoogdbiaaDoorW.PrintLast
theorem rd40 (ps : List S40) (i : Nat) (p : S40) (h : ps[i]? = some p) : rd_T40 ps (i : Int) = p := by
  unfold rd_T40
  rw [show ((i : Int)).toNat = i by omega, List.getD_eq_getElem?_getD, h]; rfl
theorem get_loop (n : ByteArray) (ps : List S40) (hn : ps.length ≤ 1000000) : ∀ (m i c : Nat) (v : ByteArray), ps.length - i = m → i ≤ ps.length → c ≤ i →
    Ev (fun k => escape_Get.l0 k n (c : Int) v ps ((ps.length : Nat) : Int) (i : Int)) (gf n c v (ps.drop i))
  | 0, i, c, v, hm, hi, hc => by
    refine Ev.step (fun k => by rw [escape_Get.l0]) (Ev.ifF (by omega) ?_)
    rw [List.drop_of_length_le (by omega), gf]
    exact Ev.now _
  | m + 1, i, c, v, hm, hi, hc => by
    obtain ⟨p, hp⟩ : ∃ p, ps[i]? = some p := ⟨ps[i], List.getElem?_eq_getElem (by omega)⟩
    obtain ⟨hlt, hpe⟩ := List.getElem?_eq_some_iff.1 hp
    have hd : ps.drop i = p :: ps.drop (i + 1) := by rw [List.drop_eq_getElem_cons hlt, hpe]
    have hw : wrap64 ((i : Int) + 1) = ((i + 1 : Nat) : Int) := by rw [w64 (by omega) (by omega)]; omega
    have hwc : wrap64 ((c : Int) + 1) = ((c + 1 : Nat) : Int) := by rw [w64 (by omega) (by omega)]; omega
    refine Ev.step (fun k => by rw [escape_Get.l0]) (Ev.ifT (by omega) (Ev.ifT (by omega) (Ev.ifT (by omega) ?_)))
    rw [rd40 ps i p hp, hd, gf, hw, hwc]
    by_cases h : p.f0.toList = n.toList
    · rw [if_pos h]
      refine Ev.ifT h ?_
      by_cases h0 : c = 0
      · rw [if_pos h0]
        exact Ev.ifT (by omega) (get_loop n ps hn m (i + 1) (c + 1) p.f1 (by omega) (by omega) (by omega))
      · rw [if_neg h0]
        exact Ev.ifF (by omega) (get_loop n ps hn m (i + 1) (c + 1) v (by omega) (by omega) (by omega))
    · rw [if_neg h]
      exact Ev.ifF h (get_loop n ps hn m (i + 1) c v (by omega) (by omega) (by omega))
theorem get_ev (ps : List S40) (n : ByteArray) (hn : ps.length ≤ 1000000) : Ev (fun k => escape_Get.f k ps n) (gf n 0 ⟨#[]⟩ ps) := by
  unfold escape_Get.f
  have := get_loop n ps hn _ 0 0 ⟨#[]⟩ rfl (by omega) (by omega)
  rw [List.drop_zero] at this
  exact this
theorem ref_get_loop (n : ByteArray) (ps : List S40) (hn : ps.length ≤ 1000000) : ∀ (i c : Nat) (v : ByteArray), i ≤ ps.length → c + i ≤ ps.length →
    Ev (fun k => lanyardref03_Get.l0 k ps n (c : Int) v ((i : Int) - 1)) (gb n c v (ps.take i).reverse)
  | 0, c, v, hi, hc => by
    refine Ev.step (fun k => by rw [lanyardref03_Get.l0]) (Ev.ifF (by omega) ?_)
    rw [List.take_zero, List.reverse_nil, gb]
    exact Ev.now _
  | i + 1, c, v, hi, hc => by
    obtain ⟨p, hp⟩ : ∃ p, ps[i]? = some p := ⟨ps[i], List.getElem?_eq_getElem (by omega)⟩
    obtain ⟨hlt, hpe⟩ := List.getElem?_eq_some_iff.1 hp
    have hd : (ps.take (i + 1)).reverse = p :: (ps.take i).reverse := by rw [List.take_succ_eq_append_getElem hlt, hpe]; simp
    have hw : wrap64 ((i : Int) - 1) = (i : Int) - 1 := w64 (by omega) (by omega)
    have hwc : wrap64 ((c : Int) + 1) = ((c + 1 : Nat) : Int) := by rw [w64 (by omega) (by omega)]; omega
    rw [show (((i + 1 : Nat) : Int) - 1) = (i : Int) by omega]
    refine Ev.step (fun k => by rw [lanyardref03_Get.l0]) (Ev.ifT (by omega) (Ev.ifT (by omega) (Ev.ifT (by omega) ?_)))
    rw [rd40 ps i p hp, hd, gb, hw, hwc]
    by_cases h : p.f0.toList = n.toList
    · rw [if_pos h]
      exact Ev.ifT h (ref_get_loop n ps hn i (c + 1) p.f1 (by omega) (by omega))
    · rw [if_neg h]
      exact Ev.ifF h (ref_get_loop n ps hn i c v (by omega) (by omega))
theorem ref_get_ev (ps : List S40) (n : ByteArray) (hn : ps.length ≤ 1000000) : Ev (fun k => lanyardref03_Get.f k ps n) (gf n 0 ⟨#[]⟩ ps) := by
  unfold lanyardref03_Get.f
  rw [w64 (by omega) (by omega), gf_gb]
  have := ref_get_loop n ps hn ps.length 0 ⟨#[]⟩ (Nat.le_refl _) (by omega)
  rw [List.take_length] at this
  exact this
theorem same_loop (ps : List S40) (hn : ps.length ≤ 1000000) : ∀ (m i : Nat), ps.length - i = m → i ≤ ps.length → Ev (fun k => lanyardref03_Same.l0 k ps ps (i : Int)) true
  | 0, i, hm, hi => Ev.step (fun k => by rw [lanyardref03_Same.l0]) (Ev.ifF (by omega) (Ev.now _))
  | m + 1, i, hm, hi => by
    have hw : wrap64 ((i : Int) + 1) = ((i + 1 : Nat) : Int) := by rw [w64 (by omega) (by omega)]; omega
    refine Ev.step (fun k => by rw [lanyardref03_Same.l0]) (Ev.ifT (by omega) (Ev.ifT (by omega) (Ev.ifT (by omega) (Ev.ifF (by simp) ?_))))
    rw [hw]
    exact same_loop ps hn m (i + 1) (by omega) (by omega)
theorem same_ev (ps : List S40) (hn : ps.length ≤ 1000000) : Ev (fun k => lanyardref03_Same.f k ps ps) true := by
  unfold lanyardref03_Same.f
  exact Ev.ifT rfl (same_loop ps hn _ 0 rfl (by omega))
theorem pairsOf_len : ∀ (ps : List (List UInt8)) (l : List S40), pairsOf ps = some l → l.length = ps.length
  | [], l, h => by obtain rfl := Option.some.inj h; rfl
  | x :: xs, l, h => by
    rw [pairsOf] at h
    obtain ⟨p, _, h⟩ := Option.bind_eq_some_iff.1 h
    obtain ⟨r, hr, rfl⟩ := Option.map_eq_some_iff.1 h
    have := pairsOf_len xs r hr
    simp [this]
theorem pq_len (l : List UInt8) : (pq l).1.length ≤ 64 := by
  unfold pq
  split
  · simp
  · rcases h : pairsOf (pieces l) with _ | q
    · simp [toldP]
    · have := pairsOf_len _ _ h
      simp [toldP]; omega
end Go.Proofs.YtjmcdocoogdbiaaDoor.Esc
