/- Words joined: the program's own. -/
import Derived.Test.YtcikjghmelbkaaaDoorWda
import Derived.Test.YtcikjghmelbkaaaDoorHp4
namespace Go.Proofs.YtcikjghmelbkaaaDoor.Esc
open Go.RowKit Go.Proofs.YtcikjghmelbkaaaDoor.Hp Go.Proofs.YtcikjghmelbkaaaDoorW.PrintWords Go.Proofs.YtcikjghmelbkaaaDoorW.PrintLast
def collapse (b : List UInt8) : List UInt8 := Lib.join (wds b) [32]
theorem collapse_len (b : List UInt8) (h : b.length ≤ 100000) : (collapse b).length ≤ 100001 * 100001 := by
  have h1 := join_len 100000 [32] (by simp) (wds b) (fun x hx => by have := wds_mem b x hx; omega)
  have h2 := wds_count b
  exact Nat.le_trans h1 (Nat.mul_le_mul (by omega) (by omega))
theorem collapse_ev (s : ByteArray) (hs : s.size ≤ 100000) : Ev (fun k => chars_Collapse.f k s) (bs (collapse s.data.toList)) := by
  have hL : s.data.toList.length = s.size := len_data s
  have hc := collapse_len s.data.toList (by omega)
  have hn := wds_count s.data.toList
  have e : ((wds s.data.toList).map bs).map (·.data.toList) = wds s.data.toList := by
    rw [List.map_map]
    exact (List.map_congr_left (fun x _ => rfl)).trans (List.map_id _)
  unfold chars_Collapse.f
  refine Ev.bind (words_ev s (by omega)) (Ev.bindC (a := bs (collapse s.data.toList)) ?_ (Ev.now _))
  unfold strings_Join.f
  rw [e, List.length_map, if_pos ⟨by omega, by have : (Lib.join (wds s.data.toList) [32]).length ≤ _ := hc; show (Lib.join (wds s.data.toList) [32]).length ≤ _; omega⟩]
  rfl
theorem wds_nil : wds [] = [] := rfl
theorem wds_blank (c : UInt8) (l : List UInt8) (h : blk c = true) : wds (c :: l) = wds l := by
  unfold wds
  rw [List.map_cons, (flat_no c).2 h, spl, if_pos rfl]
  rfl
theorem wds_all (l : List UInt8) (h : ∀ x ∈ l, blk x = false) (hn : l ≠ []) : wds l = [l] := by
  unfold wds
  rw [flat_keep l h, spl_miss 32 l (index_no 32 l (fun j hj => by
    have := h _ (getD_mem l j hj)
    intro e; rw [e] at this; simp [blk] at this))]
  cases l with
  | nil => exact absurd rfl hn
  | cons => rfl
theorem wds_cut (l m : List UInt8) (c : UInt8) (h : ∀ x ∈ l, blk x = false) (hc : blk c = true) : wds (l ++ c :: m) = (if l = [] then [] else [l]) ++ wds m := by
  unfold wds
  rw [List.map_append, List.map_cons, flat_keep l h, (flat_no c).2 hc, spl_hit 32 _ l.length (index_at 32 _ _ (by simp) (fun j hj => by
    rw [getD_left _ _ _ hj]
    have := h _ (getD_mem l j hj)
    intro e; rw [e] at this; simp [blk] at this) (getD_at _ _ _))]
  rw [show (l ++ 32 :: m.map flat1).take l.length = l by simp, show (l ++ 32 :: m.map flat1).drop (l.length + 1) = m.map flat1 by simp]
  cases l with
  | nil => rfl
  | cons x l => rw [List.filter_cons_of_pos rfl]; rfl
end Go.Proofs.YtcikjghmelbkaaaDoor.Esc
