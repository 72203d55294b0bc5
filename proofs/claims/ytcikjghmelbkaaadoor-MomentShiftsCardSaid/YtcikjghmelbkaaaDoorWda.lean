/- Blanks and words: the program's own. -/
import Derived.Test.YtcikjghmelbkaaaDoorBas
import Derived.Test.YtcikjghmelbkaaaDoorHp4
namespace Go.Proofs.YtcikjghmelbkaaaDoor.Esc
open Go.RowKit Go.Proofs.YtcikjghmelbkaaaDoor.Hp Go.Proofs.YtcikjghmelbkaaaDoorW.PrintWords Go.Proofs.YtcikjghmelbkaaaDoorW.PrintLast
theorem flat_f (s : ByteArray) (hs : s.size ≤ 1000000) : chars_Flat.f s = some (bs (s.data.toList.map flat1)) := by
  unfold chars_Flat.f
  rw [if_pos (by omega)]; rfl
def full (x : List UInt8) : Bool := !x.isEmpty
def wds (b : List UInt8) : List (List UInt8) := (spl 32 (b.map flat1)).filter full
theorem rd_bs (ps : List (List UInt8)) (i : Nat) (x : List UInt8) (h : ps[i]? = some x) : rdOf ByteArray.empty (ps.map bs) (i : Int) = bs x := by
  unfold rdOf
  simp [List.getD_eq_getElem?_getD, h]
theorem words_loop (ps : List (List UInt8)) (hn : ps.length ≤ 10000000) : ∀ (m i : Nat) (acc : List (List UInt8)), ps.length - i = m → i ≤ ps.length → acc.length ≤ i →
    Ev (fun k => chars_Words.l0 k (acc.map bs) (ps.map bs) ((ps.length : Nat) : Int) (i : Int)) ((acc ++ (ps.drop i).filter full).map bs)
  | 0, i, acc, hm, hi, ha => by
    refine Ev.step (fun k => by rw [chars_Words.l0]) (Ev.ifF (by omega) ?_)
    rw [List.drop_of_length_le (by omega), List.filter_nil, List.append_nil]
    exact Ev.now _
  | m + 1, i, acc, hm, hi, ha => by
    obtain ⟨x, hx⟩ : ∃ x, ps[i]? = some x := ⟨ps[i], List.getElem?_eq_getElem (by omega)⟩
    obtain ⟨hlt, hxe⟩ := List.getElem?_eq_some_iff.1 hx
    have hd : ps.drop i = x :: ps.drop (i + 1) := by rw [List.drop_eq_getElem_cons hlt, hxe]
    have hw : wrap64 ((i : Int) + 1) = ((i + 1 : Nat) : Int) := by rw [w64 (by omega) (by omega)]; omega
    refine Ev.step (fun k => by rw [chars_Words.l0]) (Ev.ifT (by omega) (Ev.ifT (by omega) (Ev.ifT (by rw [List.length_map]; omega) ?_)))
    rw [rd_bs ps i x hx, hw, hd, bs_toList]
    by_cases h : x = []
    · subst h
      rw [List.filter_cons_of_neg (by simp [full])]
      exact Ev.ifT rfl (words_loop ps hn m (i + 1) acc (by omega) (by omega) (by omega))
    · rw [List.filter_cons_of_pos (by unfold full; cases x with | nil => exact absurd rfl h | cons => rfl)]
      refine Ev.ifF h (Ev.ifT (by rw [List.length_map]; omega) ?_)
      have := words_loop ps hn m (i + 1) (acc ++ [x]) (by omega) (by omega) (by simp; omega)
      rw [List.map_append, List.append_assoc] at this
      exact this
theorem wds_count (b : List UInt8) : (wds b).length ≤ b.length + 1 := by
  have h1 := spl_count 32 (b.map flat1)
  rw [List.length_map] at h1
  exact Nat.le_trans (List.length_filter_le _ _) h1
theorem wds_mem (b : List UInt8) : ∀ x ∈ wds b, x.length ≤ b.length := by
  intro x hx
  have := spl_mem 32 (b.map flat1) x (List.mem_filter.1 hx).1
  rwa [List.length_map] at this
theorem words_ev (s : ByteArray) (hs : s.size ≤ 1000000) : Ev (fun k => chars_Words.f k s) ((wds s.data.toList).map bs) := by
  have hL : s.data.toList.length = s.size := len_data s
  unfold chars_Words.f
  have e1 : strings_Split.f (bs (s.data.toList.map flat1)) ⟨#[32]⟩ = some ((spl 32 (s.data.toList.map flat1)).map bs) := by
    unfold strings_Split.f
    rw [if_pos ⟨by rw [bs_size, List.length_map]; omega, by decide⟩, splitB_spl 32 _ _ (Nat.le_refl _)]; rfl
  refine Ev.bindC (flat_f s hs) (Ev.bindC e1 ?_)
  rw [List.length_map]
  have hc := spl_count 32 (s.data.toList.map flat1)
  rw [List.length_map] at hc
  exact words_loop _ (by omega) _ 0 [] rfl (by omega) (by simp)
theorem flat_no (c : UInt8) : flat1 c = 32 ↔ blk c = true := by
  unfold flat1
  by_cases h : blk c = true
  · rw [if_pos h]; simp [h]
  · rw [if_neg h]
    constructor
    · intro e; subst e; exact absurd rfl h
    · intro e; exact absurd e h
theorem flat_keep (l : List UInt8) (h : ∀ x ∈ l, blk x = false) : l.map flat1 = l := by
  refine (List.map_congr_left (fun x hx => ?_)).trans (List.map_id l)
  unfold flat1
  rw [if_neg (by rw [h x hx]; decide)]; rfl
end Go.Proofs.YtcikjghmelbkaaaDoor.Esc
