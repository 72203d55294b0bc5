/- A query's pairs: the plain answer, and that the program's printed function gives it. -/
import Derived.Test.YtjmcdocoogdbiaaDoorUnr
import Derived.Test.YtjmcdocoogdbiaaDoorHp0
import Derived.Test.YtjmcdocoogdbiaaDoorHp2
import Derived.Test.YtjmcdocoogdbiaaDoorHp3
import Derived.Test.YtjmcdocoogdbiaaDoorHp4
namespace Go.Proofs.YtjmcdocoogdbiaaDoor.Esc
open Go.RowKit Go.Proofs.YtjmcdocoogdbiaaDoor.Hp Go.Proofs.YtjmcdocoogdbiaaDoorW.PrintWords Go.Proofs.YtjmcdocoogdbiaaDoorW.PrintLast
def nameOf (x : List UInt8) : List UInt8 := (Lib.cut x [61]).1
def valOf (x : List UInt8) : List UInt8 := (Lib.cut x [61]).2.1
def pairOf (x : List UInt8) : Option S40 := (unp true (nameOf x)).bind fun a => (unp true (valOf x)).map fun b => ⟨bs a, bs b⟩
def pairsOf : List (List UInt8) → Option (List S40)
  | [] => some []
  | x :: xs => (pairOf x).bind fun p => (pairsOf xs).map (p :: ·)
def toldP (acc : List S40) : Option (List S40) → List S40 × Int
  | some l => (acc ++ l, 0)
  | none => ([], 10)
theorem rd_bs (ps : List (List UInt8)) (i : Nat) (x : List UInt8) (h : ps[i]? = some x) : rdOf ByteArray.empty (ps.map bs) (i : Int) = bs x := by
  unfold rdOf
  simp [List.getD_eq_getElem?_getD, h]
theorem cut_f (x : List UInt8) (hx : x.length ≤ 10000000) : strings_Cut.f (bs x) ⟨#[61]⟩ = some (bs (nameOf x), bs (valOf x), (Lib.cut x [61]).2.2) := by
  unfold strings_Cut.f
  rw [if_pos (by rw [bs_size]; omega)]
  rfl
theorem cut_len (x : List UInt8) : (nameOf x).length ≤ x.length ∧ (valOf x).length ≤ x.length := by
  unfold nameOf valOf Lib.cut
  split
  · simp; omega
  · simp
theorem pq_loop (ps : List (List UInt8)) (hl : ∀ x ∈ ps, x.length ≤ 10000000) (hn : ps.length ≤ 1000000) : ∀ (m i : Nat) (acc : List S40), ps.length - i = m → i ≤ ps.length → acc.length ≤ i →
    Ev (fun k => escape_ParseQuery.l0 k acc (ps.map bs) ((ps.length : Nat) : Int) (i : Int)) (toldP acc (pairsOf (ps.drop i)))
  | 0, i, acc, hm, hi, _ => by
    refine Ev.step (fun k => by rw [escape_ParseQuery.l0]) (Ev.ifF (by omega) ?_)
    rw [List.drop_of_length_le (by omega)]
    simp only [pairsOf, toldP, List.append_nil]
    exact Ev.now _
  | m + 1, i, acc, hm, hi, ha => by
    obtain ⟨x, hx⟩ : ∃ x, ps[i]? = some x := ⟨ps[i], List.getElem?_eq_getElem (by omega)⟩
    obtain ⟨hlt, hxe⟩ := List.getElem?_eq_some_iff.1 hx
    have hxm : x ∈ ps := hxe ▸ List.getElem_mem hlt
    have hxl := hl x hxm
    have hd : ps.drop i = x :: ps.drop (i + 1) := by rw [List.drop_eq_getElem_cons hlt, hxe]
    have hcl := cut_len x
    refine Ev.step (fun k => by rw [escape_ParseQuery.l0]) ?_
    refine Ev.ifT (by omega) (Ev.ifT (by omega) (Ev.ifT (by rw [List.length_map]; omega) ?_))
    rw [rd_bs ps i x hx, hd]
    refine Ev.bindC (cut_f x hxl) ?_
    have e1 := unpercent_ev (bs (nameOf x)) true (by rw [bs_size]; omega)
    have e2 := unpercent_ev (bs (valOf x)) true (by rw [bs_size]; omega)
    rw [bs_data] at e1 e2
    refine Ev.bind e1 (Ev.bind e2 ?_)
    rw [pairsOf, pairOf]
    rcases unp true (nameOf x) with _ | a
    · exact Ev.ifF (by simp [told]) (Ev.now _)
    · refine Ev.ifT rfl ?_
      rcases unp true (valOf x) with _ | b
      · exact Ev.ifF (by simp [told]) (Ev.now _)
      · refine Ev.ifT rfl (Ev.ifT (by omega) ?_)
        have := pq_loop ps hl hn m (i + 1) (acc ++ [⟨bs a, bs b⟩]) (by omega) (by omega) (by simp; omega)
        rw [w64 (by omega) (by omega), show (i : Int) + 1 = ((i + 1 : Nat) : Int) by omega]
        have e : toldP acc ((some a).bind (fun a => (some b).map fun b => (⟨bs a, bs b⟩ : S40)) |>.bind fun p => (pairsOf (ps.drop (i + 1))).map (p :: ·)) = toldP (acc ++ [⟨bs a, bs b⟩]) (pairsOf (ps.drop (i + 1))) := by
          cases pairsOf (ps.drop (i + 1)) <;> simp [toldP]
        rw [e]
        exact this
def pieces (l : List UInt8) : List (List UInt8) := (spl 38 l).filter fun x => !x.isEmpty
def pq (l : List UInt8) : List S40 × Int := if 64 < (pieces l).length then ([], 12) else toldP [] (pairsOf (pieces l))
theorem spl_mem (c : UInt8) (l : List UInt8) : ∀ x ∈ spl c l, x.length ≤ l.length := by
  intro x hx
  have h := spl_sum c l
  have : ∀ (ps : List (List UInt8)), x ∈ ps → x.length + 1 ≤ (ps.map fun p => p.length + 1).sum := by
    intro ps
    induction ps with
    | nil => intro h; cases h
    | cons p ps ih =>
      intro h
      simp only [List.map_cons, List.sum_cons]
      rcases List.mem_cons.1 h with rfl | h
      · omega
      · have := ih h; omega
  have := this _ hx
  omega
theorem spl_count (c : UInt8) (l : List UInt8) : (spl c l).length ≤ l.length + 1 := by
  have h := spl_sum c l
  have : ∀ (ps : List (List UInt8)), ps.length ≤ (ps.map fun p => p.length + 1).sum := by
    intro ps
    induction ps with
    | nil => simp
    | cons p ps ih => simp only [List.map_cons, List.sum_cons, List.length_cons]; omega
  have := this (spl c l)
  omega
theorem pq_ev (s : ByteArray) (hs : s.size ≤ 900000) : Ev (fun k => escape_ParseQuery.f k s) (pq s.data.toList) := by
  have e1 : strings_Split.f s ⟨#[38]⟩ = some ((spl 38 s.data.toList).map bs) := by
    unfold strings_Split.f
    rw [if_pos ⟨by omega, by decide⟩, splitB_spl 38 _ s (Nat.le_refl _)]
  have e2 : slices_DeleteFunc_string_string.f ((spl 38 s.data.toList).map bs) = some ((pieces s.data.toList).map bs) := by
    unfold slices_DeleteFunc_string_string.f pieces
    rw [List.filter_map]
    congr 2
    apply List.filter_congr
    intro x _
    have : (bs x = (⟨#[]⟩ : ByteArray)) ↔ x = [] := ⟨fun h => by have := congrArg (fun b : ByteArray => b.data.toList) h; simpa [bs_data] using this, fun h => by subst h; rfl⟩
    simp only [Function.comp, this]
    cases x <;> simp
  have hsub : ∀ x ∈ pieces s.data.toList, x.length ≤ 10000000 := fun x hx => by
    have := spl_mem 38 _ x (List.mem_filter.1 hx).1
    rw [len_data] at this
    omega
  have hcnt : (pieces s.data.toList).length ≤ 1000000 := by
    have h1 := spl_count 38 s.data.toList
    have h2 := List.length_filter_le (fun x : List UInt8 => !x.isEmpty) (spl 38 s.data.toList)
    rw [len_data] at h1
    unfold pieces
    omega
  unfold escape_ParseQuery.f
  refine Ev.bindC e1 (Ev.bindC e2 ?_)
  unfold pq
  by_cases h : 64 < (pieces s.data.toList).length
  · rw [if_pos h]
    exact Ev.ifT (by rw [List.length_map]; omega) (Ev.now _)
  · rw [if_neg h]
    refine Ev.ifF (by rw [List.length_map]; omega) ?_
    rw [List.length_map]
    exact pq_loop _ hsub hcnt _ 0 [] rfl (by omega) (by simp)
end Go.Proofs.YtjmcdocoogdbiaaDoor.Esc
