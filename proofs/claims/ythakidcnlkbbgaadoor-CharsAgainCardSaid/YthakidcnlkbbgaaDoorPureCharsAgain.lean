/- The plain law of CharsAgain: what the printed functions answer, of any two texts. -/
import Derived.Test.YthakidcnlkbbgaaDoorLns
import Derived.Test.YthakidcnlkbbgaaDoorAwk
import Derived.Test.YthakidcnlkbbgaaDoorHp1
import Derived.Test.YthakidcnlkbbgaaDoorHp2
import Derived.Test.YthakidcnlkbbgaaDoorHp12
namespace Go.Proofs.YthakidcnlkbbgaaDoor.Pure
open Go.RowKit Go.Proofs.YthakidcnlkbbgaaDoor.Hp Go.Proofs.YthakidcnlkbbgaaDoor.Esc Go.Proofs.YthakidcnlkbbgaaDoorW.PrintWords Go.Proofs.YthakidcnlkbbgaaDoorW.PrintLast
theorem again_tail (s t : ByteArray) (hs : s.size ≤ 3000) (ht : t.size ≤ 3000) : Ev (fun k => lanyardlaw01_CharsAgain.j1 k s t false) true := by
  have hLs : s.data.toList.length = s.size := len_data s
  have hLt : t.data.toList.length = t.size := len_data t
  have c1 := collapse_short s.data.toList
  have c2 := collapse_short t.data.toList
  have w1 := wds_count s.data.toList
  have w2 := wds_count t.data.toList
  have hz : ∀ c : UInt8, (s ++ bs [c]).size = s.size + 1 := fun c => by rw [ByteArray.size_append, bs_size]; rfl
  have hz2 : ∀ c : UInt8, ((s ++ bs [c]) ++ t).size = s.size + 1 + t.size := fun c => by rw [ByteArray.size_append, hz]
  have hd : ∀ c : UInt8, ((s ++ bs [c]) ++ t).data.toList = s.data.toList ++ c :: t.data.toList := fun c => by rw [app_data, app_data, bs_data, List.append_assoc]; rfl
  refine Ev.step (fun k => by rw [lanyardlaw01_CharsAgain.j1]) (Ev.ifF (by decide) (Ev.ifT (by omega) ?_))
  show Ev (fun k => if (s ++ bs [9]).size + t.size ≤ 9223372036854775807 then (chars_Collapse.f k ((s ++ bs [9]) ++ t)).bind _ else none) true
  refine Ev.ifT (by rw [hz]; omega) ?_
  have e1 := collapse_ev ((s ++ bs [9]) ++ t) (by rw [hz2]; omega)
  rw [hd] at e1
  refine Ev.bind e1 (Ev.bind (collapse_ev s (by omega)) (Ev.ifT (by rw [bs_size]; omega) (Ev.bind (collapse_ev t (by omega)) ?_)))
  have hm : bs (collapse s.data.toList) ++ (⟨#[32]⟩ : ByteArray) = bs (collapse s.data.toList ++ [32]) := bs_app _ _
  rw [hm]
  refine Ev.ifT (by rw [bs_size, bs_size, List.length_append, List.length_singleton]; omega) ?_
  rw [bs_app]
  have e2 := collapse_ev (bs (collapse s.data.toList ++ [32] ++ collapse t.data.toList)) (by rw [bs_size, List.length_append, List.length_append, List.length_singleton]; omega)
  rw [bs_data] at e2
  have hsame : collapse (s.data.toList ++ 9 :: t.data.toList) = collapse (collapse s.data.toList ++ [32] ++ collapse t.data.toList) := by
    rw [List.append_assoc]
    show Lib.join (wds _) _ = Lib.join (wds (collapse s.data.toList ++ 32 :: collapse t.data.toList)) _
    rw [wds_app _ _ 9 rfl, wds_app _ _ 32 rfl, wds_collapse, wds_collapse]
  rw [hsame]
  refine Ev.bind e2 (Ev.ifT rfl (Ev.bindC (flat_f s (by omega)) (Ev.ifT (by rw [bs_size, List.length_map]; omega) ?_)))
  show Ev (fun k => if (s ++ bs [32]).size + t.size ≤ 9223372036854775807 then (chars_Words.f k ((s ++ bs [32]) ++ t)).bind _ else none) true
  refine Ev.ifT (by rw [hz]; omega) ?_
  have e3 := words_ev ((s ++ bs [32]) ++ t) (by rw [hz2]; omega)
  rw [hd, wds_app _ _ 32 rfl] at e3
  refine Ev.bind e3 (Ev.bind (words_ev s (by omega)) (Ev.bind (words_ev t (by omega)) ?_))
  rw [List.length_map, List.length_map, List.length_map, List.length_append, w64 (by omega) (by omega), show ((((wds s.data.toList).length + (wds t.data.toList).length : Nat) : Int) == ((wds s.data.toList).length : Int) + ((wds t.data.toList).length : Int)) = true by simp]
  exact Ev.now true
theorem CharsAgain : lanyardlaw01_CharsAgain.Pure := by
  intro s t _ _
  refine Ev.rounds (?_ : Ev (fun k => lanyardlaw01_CharsAgain.f k s t) true)
  have slow : Ev (fun k => lanyardlaw01_CharsAgain.j0 k s t true) true := Ev.step (fun k => by rw [lanyardlaw01_CharsAgain.j0]) (Ev.ifT rfl (Ev.bind awake_ev (Ev.now _)))
  have hL : s.data.toList.length = s.size := len_data s
  unfold lanyardlaw01_CharsAgain.f
  refine Ev.bind awake_ev (Ev.ifT rfl ?_)
  by_cases h0 : (s.size : Int) > 3000
  · exact Ev.ifT h0 slow
  refine Ev.ifF h0 ?_
  by_cases h1 : (t.size : Int) > 3000
  · rw [decide_eq_true h1]; exact slow
  rw [decide_eq_false h1]
  have c1 := collapse_short s.data.toList
  have l1 := lns_len s.data.toList
  have w1 := wds_count s.data.toList
  refine Ev.step (fun k => by rw [lanyardlaw01_CharsAgain.j0]) (Ev.ifF (by simp) ?_)
  refine Ev.bindC (lines_f s (by omega)) (Ev.bindC (flat_f s (by omega)) (Ev.bind (collapse_ev s (by omega)) ?_))
  have e1 := lines_f (bs (lns s.data.toList)) (by rw [bs_size]; omega)
  rw [bs_data, lns_twice] at e1
  have e2 := flat_f (bs (s.data.toList.map flat1)) (by rw [bs_size, List.length_map]; omega)
  rw [bs_data, flat_twice] at e2
  have e3 := collapse_ev (bs (collapse s.data.toList)) (by rw [bs_size]; omega)
  rw [bs_data, show collapse (collapse s.data.toList) = collapse s.data.toList by show Lib.join (wds (collapse s.data.toList)) _ = _; rw [wds_collapse]; rfl] at e3
  have e4 := words_ev (bs (collapse s.data.toList)) (by rw [bs_size]; omega)
  rw [bs_data, wds_collapse] at e4
  refine Ev.bindC e1 (Ev.ifT rfl (Ev.bindC e2 (Ev.ifT rfl (Ev.bind e3 (Ev.ifT rfl (Ev.bind e4 (Ev.bind (words_ev s (by omega)) (Ev.bind (texts_ev _ (by rw [List.length_map]; omega)) ?_))))))))
  exact again_tail s t (by omega) (by omega)
end Go.Proofs.YthakidcnlkbbgaaDoor.Pure
