/- Go functions of this seat as Lean functions, and their contracts: what the Go code computes, for every input. (By hp.py, a program of this repo, over the kit's print.py.) -/
import Derived.Test.YtfphmpnkfjeceaaDoorHp0
import Derived.Test.YtfphmpnkfjeceaaDoorHp1
import Derived.Test.YtfphmpnkfjeceaaDoorHp2
namespace Go.Proofs.YtfphmpnkfjeceaaDoor.Hp
open Go.RowKit Go.Proofs.YtfphmpnkfjeceaaDoorW.PrintWords Go.Proofs.YtfphmpnkfjeceaaDoorW.PrintLast Go.Proofs.YtfphmpnkfjeceaaDoorW.PrintMore
attribute [local go_sem] max2_int min2_int max_two min_two max_three min_three max_four min_four   -- for this text's walks alone
set_option linter.unusedVariables false
set_option linter.unusedSimpArgs false

/-! ### strings_Builder_WriteString: function 30 -/
/-- A text appended to a row of the call's own: where the row lies then. -/
theorem run_str_at {P : Program} (w : World) (base : Nat) (t u ty e : TypeId) (i : TypeInfo) (ht : P.underlying t = some (.slice e)) (hu : P.underlying u = some .string) (hi : P.info? e = some i) (hz : i.zero = some (.int .u8 0))
    (hsize : i.size = 1) (hby : i.bytes = 1) (v : Value) (n : Nat) (xs : List Value) (hown : w.ownsRow base e 1 v n xs) (s : ByteArray) (hb : n + s.size ≤ 140737488355328) (hbase : base ≤ w.heap.size) :
    ∃ v' w', (Builtin.append_ #[t, u] ty #[v, .string s]).run P w = .ok v' w' ∧ w'.ownsRow base e 1 v' (n + s.size) (xs ++ Lib.strCells s) ∧ w.grownBy w' v.ownBlock ∧ (v'.ownBlock = v.ownBlock ∨ v'.ownBlock = some w.heap.size) := by
  obtain ⟨v', w', hr, h2, h3, h4⟩ := Lib.run_append_own_string (P := P) w base t u ty e i ht hu hi hz hsize hby v n xs hown s (by unfold maxLen; omega) hb hbase
  refine ⟨v', w', hr, h2, h3, ?_⟩
  rcases hown.2 with ⟨rfl, rfl⟩ | ⟨g, cap, cur, rfl, hbg, hg, hnc, hcm, hcs, htake⟩
  · by_cases hm : s.size = 0
    · rw [h4.2 ⟨rfl, hm⟩]
      exact .inl rfl
    · have hr2 := run_append_nil_string (P := P) w t u ty e i (.int .u8 0) ht hu hi hz s (by omega) (by omega) (by rw [hby]; omega)
      rw [hr] at hr2
      injection hr2 with e1 _
      rw [e1]
      exact .inr rfl
  · by_cases hroom : n + s.size ≤ cap
    · have hr2 := Lib.run_append_room_string (P := P) w t u ty e i ht hu hi hsize g n cap cur hg s hroom (by omega)
      rw [hr] at hr2
      injection hr2 with e1 _
      rw [e1]
      exact .inl rfl
    · have hxl : xs.length = n := by simpa using hown.1
      have hr2 := Lib.run_append_grow_string (P := P) w t u ty e i (.int .u8 0) ht hu hi hz ⟨g, 0, none⟩ n cap xs (by rw [hsize]; simpa using hxl) (hown.cells (g := g) rfl) s (by omega) (by omega) (by rw [hby]; exact growslice_fits (by omega) (by omega))
      rw [hr] at hr2
      injection hr2 with e1 _
      rw [e1]
      exact .inr rfl
theorem wpList_str_at {P : Program} {w : World} {ops : Array Oper} {rest : List Oper} {o : Oper} {a : Act} {Q : Exit → Act → World → Prop} (hgd : o.guard = none) (sl x : Operand) (t u : TypeId)
    (ho : o.op = .call { callee := .builtin .append, args := #[sl, x], argTypes := #[t, u] })
    (base : Nat) (e : TypeId) (i : TypeInfo) (ht : P.underlying t = some (.slice e)) (hu : P.underlying u = some .string) (hi : P.info? e = some i) (hz : i.zero = some (.int .u8 0)) (hsize : i.size = 1) (hby : i.bytes = 1)
    (v : Value) (n : Nat) (xs : List Value) (hs : a.eval sl = v) (hown : w.ownsRow base e 1 v n xs) (s : ByteArray) (hx : a.eval x = .string s) (hb : n + s.size ≤ 140737488355328) (hbase : base ≤ w.heap.size)
    (h : ∀ v' w', w'.ownsRow base e 1 v' (n + s.size) (xs ++ Lib.strCells s) → w.grownBy w' v.ownBlock → (v'.ownBlock = v.ownBlock ∨ v'.ownBlock = some w.heap.size) → wpList P ops Q rest (a.put o.dst v') w') : wpList P ops Q (o :: rest) a w := by
  refine wpList_plain hgd fun K hK => ?_
  obtain ⟨v', w', hr, h2, h3, h4⟩ := run_str_at (P := P) w base t u o.type e i ht hu hi hz hsize hby v n xs hown s hb hbase
  unfold Oper.wp execOp
  simp only [ho, resolve, invoke, builtin, Sem.run_bind, Sem.run_pure, Result.andThen_ok, List.map_toArray, List.map_cons, List.map_nil, hs, hx, hr]
  exact hK _ _ (h v' w' h2 h3 h4)
set_option maxHeartbeats 4000000 in
set_option maxRecDepth 100000 in
theorem strings_Builder_WriteString.any (B b : Nat) (ok : Nat → Prop) (bs : List Value) (s : ByteArray) (w : World) (h : Bld B b ok bs w) (hok : ∀ k, w.heap.size ≤ k → ok k) (hlen : bs.length + s.size ≤ 140737488355328) :
    Calls Tryd.prog 30 #[.pointer (some ⟨b, 0, none⟩), .string s] w fun e w' => e = .returned (.tuple #[.int .i64 s.size, .nilIface]) ∧ Bld B b ok (bs ++ Lib.strCells s) w' ∧ Kept w w' (fun k => k = b ∨ ok k) ∧ Below B w w' := by
  have hBw : B ≤ w.heap.size := Nat.le_trans h.1 (Nat.le_of_lt h.lt)
  have hB := h.1
  obtain ⟨i0, hi, hz0, hz1, hz2⟩ := info_parts info5
  go_enter Tryd.func30, Tryd.ntmps30
  go_wp2_with (go_at_call 43; refine (strings_Builder_copyCheck.any B b ok bs _ h).mono ?_)
  rintro e w1 ⟨rfl, ⟨v, hbk, hown, hvk⟩, hk1, hb1⟩
  have hne : v.ownBlock ≠ some b := fun e => (hvk b e).2 rfl
  have c0 : w1.cell? ⟨b, 0, none⟩ = some (.pointer (some ⟨b, 0, none⟩)) := by rw [Lib.cell_of_heap hbk]; rfl
  have c1 : w1.cell? ⟨b, 1, none⟩ = some v := by rw [Lib.cell_of_heap hbk]; rfl
  go_wp2_with (at_builtin; refine wpList_str_at rfl _ _ 23 9 rfl B 5 i0 Tryd.underlying23 Tryd.underlying9 hi hz0 hz1 hz2 _ _ _ rfl hown s rfl ?c4 ?c5 ?_)
  case c4 => omega
  case c5 => have := hb1.size; omega
  intro v' w2 hown' hgrow hat
  have hlt : b < w1.heap.size := by
    rcases Nat.lt_or_ge b w1.heap.size with h' | h'
    · exact h'
    · simp [Array.getElem?_eq_none h'] at hbk
  have hb2 : w2.heap[b]? = some (.cells #[.pointer (some ⟨b, 0, none⟩), v] 48 (0, 0)) := by
    rw [hgrow.block b hlt (fun e => hne e.symm)]
    exact hbk
  have d0 : w2.cell? ⟨b, 0, none⟩ = some (.pointer (some ⟨b, 0, none⟩)) := by rw [Lib.cell_of_heap hb2]; rfl
  have d1 : w2.cell? ⟨b, 1, none⟩ = some v := by rw [Lib.cell_of_heap hb2]; rfl
  have f1 : w2.frozen? ⟨b, 1, none⟩ = false := Lib.frozen_of_heap hb2 1
  obtain ⟨ao, n', cap, rfl⟩ : ∃ ao n' cap, v' = .slice ao n' cap := by
    rcases hown'.2 with ⟨hv, _⟩ | ⟨g, cap, cur, hv, _⟩
    · exact ⟨_, _, _, hv⟩
    · exact ⟨_, _, _, hv⟩
  have hok' : ∀ k, (Value.slice ao n' cap).ownBlock = some k → ok k ∧ k ≠ b := by
    intro k hk
    rcases hat with e | e
    · exact hvk k (e.symm.trans hk)
    · rw [e] at hk
      obtain rfl := Option.some.inj hk
      have := hk1.1
      exact ⟨hok _ (by omega), by omega⟩
  go_wp2
  go_ret2
  refine ⟨rfl, ?_, ?_, ?_⟩
  · obtain ⟨_, v', q1, q2, q3⟩ := Lib.BuilderAt.put (T := 48) (e := 5) hB hb2 (bs' := bs ++ Lib.strCells s) (by simpa [Lib.strCells_length] using hown') (by decide)
    obtain rfl : v' = .slice ao n' cap := by
      have e1 : (w2.setCell ⟨b, 1, none⟩ (.slice ao n' cap)).cell? ⟨b, 1, none⟩ = some v' := by rw [Lib.cell_of_heap q1]; rfl
      rw [World.cell?_setCell_same _ _ _ d1] at e1
      exact (Option.some.inj e1).symm
    exact ⟨hB, _, _, .inr rfl, q1, q2, hok'⟩
  · exact ((hk1.mono (fun k hk => .inl hk)).of_grown hgrow (fun k hk => .inl (.inr (hvk k hk).1))).setCell (p := ⟨b, 1, none⟩) (.inl (.inl rfl)) _
  · exact (hb1.grown hgrow (by have := hb1.size; omega) (fun k hk => (hown.lt k hk).1)).setCell (p := ⟨b, 1, none⟩) hB _

/-! ### base_Fold: function 13 -/
theorem ex_take (x : ByteArray) (m : Nat) : (x.extract 0 m).data.toList = x.data.toList.take m := by
  rw [ByteArray.data_extract, Array.toList_extract]; simp [List.extract_eq_take_drop]
theorem ex_drop (x : ByteArray) (m : Nat) : (x.extract m x.size).data.toList = x.data.toList.drop m := by
  rw [ByteArray.data_extract, Array.toList_extract, List.extract_eq_take_drop, List.take_of_length_le (by rw [List.length_drop, Array.length_toList]; exact Nat.le_refl _)]
theorem size_len (x : ByteArray) : x.data.toList.length = x.size := by rw [Array.length_toList]; rfl
def foldL (n : Nat) : Nat → List UInt8 → List UInt8
  | 0, l => l
  | k + 1, l => if n < l.length then l.take n ++ 10 :: foldL n k (l.drop n) else l
def base_Fold.f (s : ByteArray) (n : Int) : Option ByteArray := if n < 1 then some s else if s.size ≤ 1099511627776 then some ⟨(foldL n.toNat s.size s.data.toList).toArray⟩ else none
def base_Fold.Inv (s : ByteArray) (n : Nat) (w wr : World) (v : Value) : Prop :=
  ∃ (x : ByteArray) (acc : List UInt8) (k : Nat), v = .string x ∧ x.size ≤ k ∧ x.size ≤ s.size ∧ acc ++ foldL n k x.data.toList = foldL n s.size s.data.toList ∧ acc.length ≤ 2 * (s.size - x.size) ∧ Bld w.heap.size w.heap.size (fun _ => True) (Lib.byteCells acc) wr ∧ Below w.heap.size w wr
theorem base_Fold.step {s x : ByteArray} {m : Nat} {w wr w2 : World} {acc : List UInt8} {k : Nat} (hm : 1 ≤ m) (hk : x.size ≤ k) (hxs : x.size ≤ s.size) (hlt : m < x.size) (ha : acc ++ foldL m k x.data.toList = foldL m s.size s.data.toList) (hl : acc.length ≤ 2 * (s.size - x.size))
    (hb : Bld w.heap.size w.heap.size (fun _ => True) (Lib.byteCells acc ++ Lib.strCells (x.extract 0 m ++ ⟨#[10]⟩)) w2) (hB : Below w.heap.size w wr) (hB' : Below w.heap.size wr w2) : base_Fold.Inv s m w w2 (.string (x.extract m x.size)) ∧ (x.extract m x.size).size < x.size := by
  obtain ⟨k, rfl⟩ : ∃ j, k = j + 1 := ⟨k - 1, by omega⟩
  have hz : (x.extract m x.size).size = x.size - m := by rw [← size_len, ex_drop, List.length_drop, size_len]
  rw [foldL, if_pos (by rw [size_len]; exact hlt)] at ha
  refine ⟨⟨_, acc ++ (x.data.toList.take m ++ [10]), k, rfl, by omega, by omega, by rw [ex_drop, ← ha]; simp, ?_, ?_, hB.trans hB'⟩, by omega⟩
  · rw [List.length_append, List.length_append, List.length_take, size_len, hz]
    show acc.length + (min m x.size + 1) ≤ _
    omega
  · have e : Lib.strCells (x.extract 0 m ++ ⟨#[10]⟩) = Lib.byteCells (x.data.toList.take m ++ [10]) := by
      rw [← ex_take]
      simp [Lib.strCells, Lib.byteCells]
    rw [e] at hb
    simpa [Lib.byteCells] using hb
set_option maxHeartbeats 4000000 in
set_option maxRecDepth 100000 in
theorem base_Fold.calls (s : ByteArray) (n : Int) (r : ByteArray) (w : World) (h : base_Fold.f s n = some r) :
    Calls Tryd.prog 13 #[.string s, .int .i64 n] w fun e w' => e = .returned (.string r) ∧ Below w.heap.size w w' := by
  unfold base_Fold.f at h
  by_cases hn : n < 1
  · rw [if_pos hn] at h
    obtain rfl := Option.some.inj h
    clear h
    go_enter Tryd.func13, Tryd.ntmps13
    go_wp2
    go_ret
    exact ⟨rfl, Below.refl _ _⟩
  rw [if_neg hn] at h
  split at h
  · rename_i hs
    obtain rfl := Option.some.inj h
    clear h
    obtain ⟨m, rfl⟩ : ∃ m : Nat, n = m := ⟨n.toNat, by omega⟩
    rw [Int.toNat_natCast]
    go_enter Tryd.func13, Tryd.ntmps13
    go_wp2
    have ST := Aside0.mk (show Bld w.heap.size w.heap.size (fun _ => True) [] (w.alloc (.cells #[.pointer none, .slice none 0 0] 48)) ∧ Below w.heap.size w (w.alloc (.cells #[.pointer none, .slice none 0 0] 48)) from ⟨Bld.new w _, (Below.refl _ _).alloc (Nat.le_refl _) _⟩)
    generalize w.alloc _ = W0 at ST ⊢
    go_loopw [0] (fun v0 wr => Aside0 (base_Fold.Inv s m w wr v0)) (fun v0 _ => match v0 with | .string x => x.size | _ => 0)
    case atStart => exact ⟨s, [], s.size, rfl, Nat.le_refl _, Nat.le_refl _, rfl, by simp, ST.out.1, ST.out.2⟩
    case round =>
      obtain ⟨x, acc, k, rfl, hk, hxs, hacc, hal, hb, hB⟩ := hrel.out
      clear hrel ST
      have h3 := Aside0.mk hacc
      have h4 := Aside0.mk hb
      have h6 := Aside0.mk hB
      have hsz2 := hB.size
      clear hacc hb hB
      by_cases hlt : (m : Int) < x.size
      · go_wp2_with (go_at_call 30; refine (strings_Builder_WriteString.any w.heap.size w.heap.size _ _ _ _ h4.out ?ok ?len).mono ?_; (case ok => intro i hi; trivial); (case len => rw [show (Lib.byteCells acc).length = acc.length by simp [Lib.byteCells], ByteArray.size_append, ← size_len (x.extract 0 m), ex_take, List.length_take, size_len, show (⟨#[10]⟩ : ByteArray).size = 1 from rfl]; omega); rintro e w2 ⟨rfl, hb2, hk2, hB2⟩; have g1 := Aside0.mk hb2; have g3 := Aside0.mk hB2; clear hb2 hk2 hB2)
        go_roundw
        case rel => exact ⟨(base_Fold.step (by omega) hk hxs (by omega) h3.out hal g1.out h6.out g3.out).1⟩
        case measure => exact (base_Fold.step (by omega) hk hxs (by omega) h3.out hal g1.out h6.out g3.out).2
      · go_wp2_with (go_at_call 29; refine (Tryd.Builder_String_any w.heap.size w.heap.size acc _ (Bld.is h4.out) ?hBw).mono ?_; (case hBw => omega); rintro e w2 ⟨rfl, hB2⟩; have g3 := Aside0.mk hB2; clear hB2)
        go_ret
        refine ⟨?_, h6.out.trans g3.out⟩
        have e : foldL m k x.data.toList = x.data.toList := by
          cases k with
          | zero => rfl
          | succ k => rw [foldL, if_neg (by rw [size_len]; omega)]
        have h5 := h3.out
        rw [e] at h5
        rw [← h5]
        rfl
  · exact absurd h (by simp)

/-! ### lanyardref02_Fold: function 14 -/
def lanyardref02_Fold.l0 : Nat → ByteArray → Int → List Int → Int → Option (ByteArray)
 | 0, _, _, _, _ => none
 | k + 1, x0, x1, x5, x6 => if x6 < (x0.size : Int) then (if x1 > 0 then (if x6 > 0 then (if x1 = 0 then (none) else (if (Int.tmod x6 x1) = 0 then (if x5.length < 140737488355328 then ((some (x5 ++ [10] : List Int)).bind fun y152 => (if 0 ≤ x6 then (if y152.length < 140737488355328 then (lanyardref02_Fold.l0 k x0 x1 (y152 ++ [bt x0 x6]) (wrap64 (x6 + 1))) else (none)) else (none))) else (none)) else (if 0 ≤ x6 then (if x5.length < 140737488355328 then (lanyardref02_Fold.l0 k x0 x1 (x5 ++ [bt x0 x6]) (wrap64 (x6 + 1))) else (none)) else (none)))) else (if 0 ≤ x6 then (if x5.length < 140737488355328 then (lanyardref02_Fold.l0 k x0 x1 (x5 ++ [bt x0 x6]) (wrap64 (x6 + 1))) else (none)) else (none))) else (if 0 ≤ x6 then (if x5.length < 140737488355328 then (lanyardref02_Fold.l0 k x0 x1 (x5 ++ [bt x0 x6]) (wrap64 (x6 + 1))) else (none)) else (none))) else (some (strOfNums x5))
def lanyardref02_Fold.f (k : Nat) (a0 : ByteArray) (a1 : Int) : Option (ByteArray) := lanyardref02_Fold.l0 k a0 a1 ([] : List Int) 0
theorem lanyardref02_Fold.mono_l : ∀ k, (∀ y0 y1 y2 y3, LeO (lanyardref02_Fold.l0 k y0 y1 y2 y3) (lanyardref02_Fold.l0 (k + 1) y0 y1 y2 y3))
 | 0 => fun _ _ _ _ r h => by simp [lanyardref02_Fold.l0] at h
 | k + 1 => by
  have ih0 := lanyardref02_Fold.mono_l k
  ·intro y0 y1 y2 y3
   unfold lanyardref02_Fold.l0
   repeat' first
   | (with_reducible exact ih0 _ _ _ _)
   | (with_reducible exact LeO.refl _)
   | (with_reducible exact LeO.none _)
   | (with_reducible refine LeO.ite ?_ ?_)
   | (with_reducible refine LeO.bind ?_ (fun _ => ?_))
   | exact ih0 _ _ _ _
   | exact LeO.none _
   | refine LeO.ite ?_ ?_
   | refine LeO.bind ?_ (fun _ => ?_)
theorem lanyardref02_Fold.mono : ∀ a0 a1 k, LeO (lanyardref02_Fold.f k a0 a1) (lanyardref02_Fold.f (k + 1) a0 a1) := by
 intro a0 a1 k
 have ih0 := lanyardref02_Fold.mono_l k
 unfold lanyardref02_Fold.f
 repeat' first
   | (with_reducible exact ih0 _ _ _ _)
   | (with_reducible exact LeO.refl _)
   | (with_reducible exact LeO.none _)
   | (with_reducible refine LeO.ite ?_ ?_)
   | (with_reducible refine LeO.bind ?_ (fun _ => ?_))
   | exact ih0 _ _ _ _
   | exact LeO.none _
   | refine LeO.ite ?_ ?_
   | refine LeO.bind ?_ (fun _ => ?_)
set_option maxHeartbeats 8000000 in
set_option maxRecDepth 100000 in
theorem lanyardref02_Fold.calls (k : Nat) (a0 : ByteArray) (a1 : Int) (r : ByteArray) (w : World) (h : lanyardref02_Fold.f k a0 a1 = some r) :
  Calls Tryd.prog 14 #[.string a0, .int .i64 a1] w fun e w' => e = .returned (.string r) ∧ Below w.heap.size w w' := by
 have HB := Aside0.mk (Below.refl w.heap.size w)
 have H : (lanyardref02_Fold.l0 k a0 a1 ([] : List Int) 0) = some r := h
 clear h
 have H' := Aside0.mk H
 clear H
 go_enter Tryd.func14, Tryd.ntmps14
 go_wp2
 go_loopg [5, 6] k (fun kq v5 v6 w' => ∃ (x5_1 : List Int) (x6_1 : Int), v6 = .int .i64 x6_1 ∧ Aside0 (lanyardref02_Fold.l0 kq a0 a1 x5_1 x6_1 = some r) ∧ Aside0 (kq ≤ k) ∧ Aside0 (Kd.R (Kd.int .u8) 5 w' w.heap.size (fun _ => True) v5 x5_1) ∧ Aside0 (Below w.heap.size w w'))
 case atStart => exact ⟨(([] : List Int)), (0), (by first | rfl | (simp; done) | (simp [*]; done)), H', ⟨Nat.le_refl _⟩, ⟨by first | exact Kd.R_nil _ _ _ _ _ | exact Kd.N_nil _ _ _ _ _ | exact Kd.V_nil _ _ _ _ _ | exact Kd.Q_nil _ _ _ _ _ | exact Kd.S_nil _ _ _ _ _⟩, ⟨Bu HB⟩⟩
 case round =>
  clear H'
  try clear c1
  try clear p2
  obtain ⟨x5_1, x6_1, rfl, HA, HK1, HO_5, HB⟩ := hrel
  cases gk with
  | zero => exact absurd HA.out (by simp [lanyardref02_Fold.l0])
  | succ k1 =>
   have H := HA.out
   clear HA
   simp only [lanyardref02_Fold.l0] at H
   by_cases c3 : x6_1 < (a0.size : Int)
   ·rw [if_pos c3] at H
    have c3b0 : decide (x6_1 < (a0.size : Int)) = true := decide_eq_true c3
    clear c3
    by_cases c4 : a1 > 0
    ·rw [if_pos c4] at H
     have c4b0 : decide (0 < a1) = true := decide_eq_true c4
     clear c4
     by_cases c5 : x6_1 > 0
     ·rw [if_pos c5] at H
      have c5b0 : decide (0 < x6_1) = true := decide_eq_true c5
      clear c5
      by_cases c6 : a1 = 0
      ·rw [if_pos c6] at H
       exact absurd H (by simp)
      ·rw [if_neg c6] at H
       have c6b0 : (a1 == 0) = false := beq_eq_false_iff_ne.mpr c6
       have c6b1 : (a1 != 0) = true := bne_iff_ne.mpr c6
       by_cases c7 : (Int.tmod x6_1 a1) = 0
       ·rw [if_pos c7] at H
        have c7b0 : ((Int.tmod x6_1 a1) == 0) = true := beq_iff_eq.mpr c7
        have c7b1 : ((Int.tmod x6_1 a1) != 0) = false := bne_eq_false_iff_eq.mpr c7
        clear c7
        by_cases c8 : x5_1.length < 140737488355328
        ·rw [if_pos c8] at H
         have LMc8 := Aside0.mk c8
         clear c8
         obtain ⟨y152, hy152⟩ : ∃ y_ : List Int, y_ = (x5_1 ++ [10]) := ⟨_, rfl⟩
         replace H : (if 0 ≤ x6_1 then (if y152.length < 140737488355328 then (lanyardref02_Fold.l0 k1 a0 a1 (y152 ++ [bt a0 x6_1]) (wrap64 (x6_1 + 1))) else (none)) else (none)) = some r := by first | (rw [hy152]; with_reducible exact H) | (have H2_ := (Option.bind_some _ _).symm.trans H; rw [hy152]; with_reducible exact H2_) | (have H2_ := (Option.bind_some _ _).symm.trans H; with_reducible exact H2_) | with_reducible exact H | (rw [hy152]; exact H) | exact H
         have Ny152 := Aside0.mk hy152
         clear hy152
         by_cases c9 : 0 ≤ x6_1
         ·rw [if_pos c9] at H
          have c9b0 : decide (0 ≤ x6_1) = true := decide_eq_true c9
          clear c9
          by_cases c11 : y152.length < 140737488355328
          ·rw [if_pos c11] at H
           have LMc11 := Aside0.mk c11
           clear c11
           obtain ⟨y155, hy155⟩ : ∃ y_ : List Int, y_ = (y152 ++ [bt a0 x6_1]) := ⟨_, rfl⟩
           replace H : (lanyardref02_Fold.l0 k1 a0 a1 y155 (wrap64 (x6_1 + 1))) = some r := by first | (rw [hy155]; with_reducible exact H) | (have H2_ := (Option.bind_some _ _).symm.trans H; rw [hy155]; with_reducible exact H2_) | (have H2_ := (Option.bind_some _ _).symm.trans H; with_reducible exact H2_) | with_reducible exact H | (rw [hy155]; exact H) | exact H
           have Ny155 := Aside0.mk hy155
           clear hy155
           have H' := Aside0.mk H
           clear H
           go_wp2_with (first | ((with_reducible refine gate_builtin (b := .append) (xs := #[.tmp 25, .tmp 26]) rfl ?_); at_builtin; refine Kd.R_append (Kd.int .u8) (w0 := w) w.heap.size rfl (.tmp 25) (.tmp 26) 23 5 (.int .u8 0) 1 rfl Tryd.underlying23 info5 rfl (by decide) (by omega) u5 x5_1 10 [.int .u8 10] (fun _ => True) (fun _ => False) rfl rfl ?aP (fun _ hk => hk.elim) ?aF ?aO ?aB ?aS ?aL ?_; (case aP => exact rfl); (case aB => exact (Bu HB)); (case aF => exact (fun _ _ => trivial)); (case aO => exact (Ru HO_5)); (case aS => exact (Bz HB)); (case aL => have := LMc8.out; omega); intro v153 w12 ho hb hg hat; rw [← Ny152.out] at ho; have n0_ := Aside0.mk (hb); have n1_ := Aside0.mk (ho); clear HB HO_5; revert n0_ n1_; intro HB HO154; clear ho hb hg hat; have p10 : 0 ≤ (x6_1 : Int) := of_decide_eq_true (by first | (with_reducible assumption) | assumption); have q10 : x6_1 < (a0.size : Int) := of_decide_eq_true (by first | (with_reducible assumption) | assumption); have hx10 := bt_at a0 x6_1; replace p10 := eq_true p10; replace q10 := eq_true q10) | ((with_reducible refine gate_builtin (b := .append) (xs := #[.tmp 28, .tmp 32]) rfl ?_); at_builtin; refine Kd.R_append (Kd.int .u8) (w0 := w) w.heap.size rfl (.tmp 28) (.tmp 32) 23 5 (.int .u8 0) 1 rfl Tryd.underlying23 info5 rfl (by decide) (by omega) v153 y152 (bt a0 x6_1) [.int .u8 (bt a0 x6_1)] (fun _ => True) (fun _ => False) rfl rfl ?aP (fun _ hk => hk.elim) ?aF ?aO ?aB ?aS ?aL ?_; (case aP => exact rfl); (case aB => exact (Bu HB)); (case aF => exact (fun _ _ => trivial)); (case aO => exact (Ru HO154)); (case aS => exact (Bz HB)); (case aL => have := LMc11.out; omega); intro v156 w13 ho hb hg hat; rw [← Ny155.out] at ho; have n0_ := Aside0.mk (hb); have n1_ := Aside0.mk (ho); clear HB HO154; revert n0_ n1_; intro HB HO157; clear ho hb hg hat))
           go_roundg k1
           case measure => have := HK1.out; omega
           case rel => exact ⟨(y155), (wrap64 (x6_1 + 1)), (by first | rfl | (simp; done) | (simp [*]; done)), H', ⟨by have := HK1.out; omega⟩, ⟨Ru HO157⟩, ⟨Bu HB⟩⟩
          ·rw [if_neg c11] at H
           exact absurd H (by simp)
         ·rw [if_neg c9] at H
          exact absurd H (by simp)
        ·rw [if_neg c8] at H
         exact absurd H (by simp)
       ·rw [if_neg c7] at H
        have c7b0 : ((Int.tmod x6_1 a1) == 0) = false := beq_eq_false_iff_ne.mpr c7
        have c7b1 : ((Int.tmod x6_1 a1) != 0) = true := bne_iff_ne.mpr c7
        by_cases c14 : 0 ≤ x6_1
        ·rw [if_pos c14] at H
         have c14b0 : decide (0 ≤ x6_1) = true := decide_eq_true c14
         clear c14
         by_cases c16 : x5_1.length < 140737488355328
         ·rw [if_pos c16] at H
          have LMc16 := Aside0.mk c16
          clear c16
          obtain ⟨y158, hy158⟩ : ∃ y_ : List Int, y_ = (x5_1 ++ [bt a0 x6_1]) := ⟨_, rfl⟩
          replace H : (lanyardref02_Fold.l0 k1 a0 a1 y158 (wrap64 (x6_1 + 1))) = some r := by first | (rw [hy158]; with_reducible exact H) | (have H2_ := (Option.bind_some _ _).symm.trans H; rw [hy158]; with_reducible exact H2_) | (have H2_ := (Option.bind_some _ _).symm.trans H; with_reducible exact H2_) | with_reducible exact H | (rw [hy158]; exact H) | exact H
          have Ny158 := Aside0.mk hy158
          clear hy158
          have H' := Aside0.mk H
          clear H
          have p15 : 0 ≤ (x6_1 : Int) := of_decide_eq_true (by first | (with_reducible assumption) | assumption)
          have q15 : x6_1 < (a0.size : Int) := of_decide_eq_true (by first | (with_reducible assumption) | assumption)
          have hx15 := bt_at a0 x6_1
          replace p15 := eq_true p15
          replace q15 := eq_true q15
          go_wp2_with (first | ((with_reducible refine gate_builtin (b := .append) (xs := #[.tmp 28, .tmp 32]) rfl ?_); at_builtin; refine Kd.R_append (Kd.int .u8) (w0 := w) w.heap.size rfl (.tmp 28) (.tmp 32) 23 5 (.int .u8 0) 1 rfl Tryd.underlying23 info5 rfl (by decide) (by omega) u5 x5_1 (bt a0 x6_1) [.int .u8 (bt a0 x6_1)] (fun _ => True) (fun _ => False) rfl rfl ?aP (fun _ hk => hk.elim) ?aF ?aO ?aB ?aS ?aL ?_; (case aP => exact rfl); (case aB => exact (Bu HB)); (case aF => exact (fun _ _ => trivial)); (case aO => exact (Ru HO_5)); (case aS => exact (Bz HB)); (case aL => have := LMc16.out; omega); intro v159 w17 ho hb hg hat; rw [← Ny158.out] at ho; have n0_ := Aside0.mk (hb); have n1_ := Aside0.mk (ho); clear HB HO_5; revert n0_ n1_; intro HB HO160; clear ho hb hg hat))
          go_roundg k1
          case measure => have := HK1.out; omega
          case rel => exact ⟨(y158), (wrap64 (x6_1 + 1)), (by first | rfl | (simp; done) | (simp [*]; done)), H', ⟨by have := HK1.out; omega⟩, ⟨Ru HO160⟩, ⟨Bu HB⟩⟩
         ·rw [if_neg c16] at H
          exact absurd H (by simp)
        ·rw [if_neg c14] at H
         exact absurd H (by simp)
     ·rw [if_neg c5] at H
      have c5b0 : decide (0 < x6_1) = false := decide_eq_false c5
      clear c5
      by_cases c18 : 0 ≤ x6_1
      ·rw [if_pos c18] at H
       have c18b0 : decide (0 ≤ x6_1) = true := decide_eq_true c18
       clear c18
       by_cases c20 : x5_1.length < 140737488355328
       ·rw [if_pos c20] at H
        have LMc20 := Aside0.mk c20
        clear c20
        obtain ⟨y161, hy161⟩ : ∃ y_ : List Int, y_ = (x5_1 ++ [bt a0 x6_1]) := ⟨_, rfl⟩
        replace H : (lanyardref02_Fold.l0 k1 a0 a1 y161 (wrap64 (x6_1 + 1))) = some r := by first | (rw [hy161]; with_reducible exact H) | (have H2_ := (Option.bind_some _ _).symm.trans H; rw [hy161]; with_reducible exact H2_) | (have H2_ := (Option.bind_some _ _).symm.trans H; with_reducible exact H2_) | with_reducible exact H | (rw [hy161]; exact H) | exact H
        have Ny161 := Aside0.mk hy161
        clear hy161
        have H' := Aside0.mk H
        clear H
        have p19 : 0 ≤ (x6_1 : Int) := of_decide_eq_true (by first | (with_reducible assumption) | assumption)
        have q19 : x6_1 < (a0.size : Int) := of_decide_eq_true (by first | (with_reducible assumption) | assumption)
        have hx19 := bt_at a0 x6_1
        replace p19 := eq_true p19
        replace q19 := eq_true q19
        go_wp2_with (first | ((with_reducible refine gate_builtin (b := .append) (xs := #[.tmp 28, .tmp 32]) rfl ?_); at_builtin; refine Kd.R_append (Kd.int .u8) (w0 := w) w.heap.size rfl (.tmp 28) (.tmp 32) 23 5 (.int .u8 0) 1 rfl Tryd.underlying23 info5 rfl (by decide) (by omega) u5 x5_1 (bt a0 x6_1) [.int .u8 (bt a0 x6_1)] (fun _ => True) (fun _ => False) rfl rfl ?aP (fun _ hk => hk.elim) ?aF ?aO ?aB ?aS ?aL ?_; (case aP => exact rfl); (case aB => exact (Bu HB)); (case aF => exact (fun _ _ => trivial)); (case aO => exact (Ru HO_5)); (case aS => exact (Bz HB)); (case aL => have := LMc20.out; omega); intro v162 w21 ho hb hg hat; rw [← Ny161.out] at ho; have n0_ := Aside0.mk (hb); have n1_ := Aside0.mk (ho); clear HB HO_5; revert n0_ n1_; intro HB HO163; clear ho hb hg hat))
        go_roundg k1
        case measure => have := HK1.out; omega
        case rel => exact ⟨(y161), (wrap64 (x6_1 + 1)), (by first | rfl | (simp; done) | (simp [*]; done)), H', ⟨by have := HK1.out; omega⟩, ⟨Ru HO163⟩, ⟨Bu HB⟩⟩
       ·rw [if_neg c20] at H
        exact absurd H (by simp)
      ·rw [if_neg c18] at H
       exact absurd H (by simp)
    ·rw [if_neg c4] at H
     have c4b0 : decide (0 < a1) = false := decide_eq_false c4
     clear c4
     by_cases c22 : 0 ≤ x6_1
     ·rw [if_pos c22] at H
      have c22b0 : decide (0 ≤ x6_1) = true := decide_eq_true c22
      clear c22
      by_cases c24 : x5_1.length < 140737488355328
      ·rw [if_pos c24] at H
       have LMc24 := Aside0.mk c24
       clear c24
       obtain ⟨y164, hy164⟩ : ∃ y_ : List Int, y_ = (x5_1 ++ [bt a0 x6_1]) := ⟨_, rfl⟩
       replace H : (lanyardref02_Fold.l0 k1 a0 a1 y164 (wrap64 (x6_1 + 1))) = some r := by first | (rw [hy164]; with_reducible exact H) | (have H2_ := (Option.bind_some _ _).symm.trans H; rw [hy164]; with_reducible exact H2_) | (have H2_ := (Option.bind_some _ _).symm.trans H; with_reducible exact H2_) | with_reducible exact H | (rw [hy164]; exact H) | exact H
       have Ny164 := Aside0.mk hy164
       clear hy164
       have H' := Aside0.mk H
       clear H
       have p23 : 0 ≤ (x6_1 : Int) := of_decide_eq_true (by first | (with_reducible assumption) | assumption)
       have q23 : x6_1 < (a0.size : Int) := of_decide_eq_true (by first | (with_reducible assumption) | assumption)
       have hx23 := bt_at a0 x6_1
       replace p23 := eq_true p23
       replace q23 := eq_true q23
       go_wp2_with (first | ((with_reducible refine gate_builtin (b := .append) (xs := #[.tmp 28, .tmp 32]) rfl ?_); at_builtin; refine Kd.R_append (Kd.int .u8) (w0 := w) w.heap.size rfl (.tmp 28) (.tmp 32) 23 5 (.int .u8 0) 1 rfl Tryd.underlying23 info5 rfl (by decide) (by omega) u5 x5_1 (bt a0 x6_1) [.int .u8 (bt a0 x6_1)] (fun _ => True) (fun _ => False) rfl rfl ?aP (fun _ hk => hk.elim) ?aF ?aO ?aB ?aS ?aL ?_; (case aP => exact rfl); (case aB => exact (Bu HB)); (case aF => exact (fun _ _ => trivial)); (case aO => exact (Ru HO_5)); (case aS => exact (Bz HB)); (case aL => have := LMc24.out; omega); intro v165 w25 ho hb hg hat; rw [← Ny164.out] at ho; have n0_ := Aside0.mk (hb); have n1_ := Aside0.mk (ho); clear HB HO_5; revert n0_ n1_; intro HB HO166; clear ho hb hg hat))
       go_roundg k1
       case measure => have := HK1.out; omega
       case rel => exact ⟨(y164), (wrap64 (x6_1 + 1)), (by first | rfl | (simp; done) | (simp [*]; done)), H', ⟨by have := HK1.out; omega⟩, ⟨Ru HO166⟩, ⟨Bu HB⟩⟩
      ·rw [if_neg c24] at H
       exact absurd H (by simp)
     ·rw [if_neg c22] at H
      exact absurd H (by simp)
   ·rw [if_neg c3] at H
    have c3b0 : decide (x6_1 < (a0.size : Int)) = false := decide_eq_false c3
    clear c3
    obtain rfl := Option.some.inj H
    have hcv26 := own_string (P := Tryd.prog) Tryd.underlying23 Tryd.underlying5 Tryd.underlying9 (Kd.own_of_R HO_5.out)
    have hcv27 := fun n_ : Nat => own_string (P := Tryd.prog) Tryd.underlying23 Tryd.underlying5 Tryd.underlying9 (Kd.own_of_R (Kd.R_drewN HO_5.out n_))
    go_wp2
    go_ret
    exact ⟨rfl_, Bu HB⟩

/-! ### base_Unhex: function 15 -/
mutual
def base_Unhex.l0 : Nat → ByteArray → List Int → Int → Int → Int → Option (List Int × Int)
 | 0, _, _, _, _, _ => none
 | k + 1, x0, x4, x5, x9, x10 => if x10 < x9 then (if 0 ≤ x10 then (if x10 < (x0.size : Int) then ((strings_IndexByte.f (⟨#[48, 49, 50, 51, 52, 53, 54, 55, 56, 57, 97, 98, 99, 100, 101, 102]⟩ : ByteArray) (bt x0 x10)).bind fun t167 => (if (bt x0 x10) ≥ 65 then (base_Unhex.j1 k x0 x4 x5 x10 t167 x9 x10 (decide ((bt x0 x10) ≤ 70))) else (base_Unhex.j1 k x0 x4 x5 x10 t167 x9 x10 false))) else (none)) else (none)) else (if ((x0.size : Int) % 2) = 1 then (some (([] : List Int), 10)) else (some (x4, 0)))
def base_Unhex.j1 : Nat → ByteArray → List Int → Int → Int → Int → Int → Int → Bool → Option (List Int × Int)
 | 0, _, _, _, _, _, _, _, _ => none
 | k + 1, x0, x4, x5, x6, x7, x9, x10, x26 => if x26 = true then (if 0 ≤ x6 then (if x6 < (x0.size : Int) then (base_Unhex.j2 k x0 x4 x5 x6 (10 + (((bt x0 x6) - 65) % 256)) x9 x10) else (none)) else (none)) else (base_Unhex.j2 k x0 x4 x5 x6 x7 x9 x10)
def base_Unhex.j2 : Nat → ByteArray → List Int → Int → Int → Int → Int → Int → Option (List Int × Int)
 | 0, _, _, _, _, _, _, _ => none
 | k + 1, x0, x4, x5, x6, x7, x9, x10 => if x7 < 0 then (some (([] : List Int), 13)) else (if (Int.tmod x6 2) = 1 then (if x4.length < 140737488355328 then (base_Unhex.l0 k x0 (x4 ++ [(Go.bits .or .i64 (Go.bits .and .i64 (wrap64 (x5 * 16)) 240) x7) % 256]) (Go.bits .or .i64 (Go.bits .and .i64 (wrap64 (x5 * 16)) 240) x7) x9 (wrap64 (x10 + 1))) else (none)) else (base_Unhex.l0 k x0 x4 (Go.bits .or .i64 (Go.bits .and .i64 (wrap64 (x5 * 16)) 240) x7) x9 (wrap64 (x10 + 1))))
end
def base_Unhex.f (k : Nat) (a0 : ByteArray) : Option (List Int × Int) := base_Unhex.l0 k a0 ([] : List Int) 0 (a0.size : Int) 0
theorem base_Unhex.mono_l : ∀ k, (∀ y0 y1 y2 y3 y4, LeO (base_Unhex.l0 k y0 y1 y2 y3 y4) (base_Unhex.l0 (k + 1) y0 y1 y2 y3 y4)) ∧ (∀ y0 y1 y2 y3 y4 y5 y6 y7, LeO (base_Unhex.j1 k y0 y1 y2 y3 y4 y5 y6 y7) (base_Unhex.j1 (k + 1) y0 y1 y2 y3 y4 y5 y6 y7)) ∧ (∀ y0 y1 y2 y3 y4 y5 y6, LeO (base_Unhex.j2 k y0 y1 y2 y3 y4 y5 y6) (base_Unhex.j2 (k + 1) y0 y1 y2 y3 y4 y5 y6))
 | 0 => ⟨fun _ _ _ _ _ r h => by simp [base_Unhex.l0] at h, fun _ _ _ _ _ _ _ _ r h => by simp [base_Unhex.j1] at h, fun _ _ _ _ _ _ _ r h => by simp [base_Unhex.j2] at h⟩
 | k + 1 => by
  obtain ⟨ih0, ih1, ih2⟩ := base_Unhex.mono_l k
  refine ⟨?_, ?_, ?_⟩
  ·intro y0 y1 y2 y3 y4
   unfold base_Unhex.l0
   repeat' first
   | (with_reducible exact ih0 _ _ _ _ _)
   | (with_reducible exact ih1 _ _ _ _ _ _ _ _)
   | (with_reducible exact ih2 _ _ _ _ _ _ _)
   | (with_reducible exact LeO.refl _)
   | (with_reducible exact LeO.none _)
   | (with_reducible refine LeO.ite ?_ ?_)
   | (with_reducible refine LeO.bind ?_ (fun _ => ?_))
   | exact ih0 _ _ _ _ _
   | exact ih1 _ _ _ _ _ _ _ _
   | exact ih2 _ _ _ _ _ _ _
   | exact LeO.none _
   | refine LeO.ite ?_ ?_
   | refine LeO.bind ?_ (fun _ => ?_)
  ·intro y0 y1 y2 y3 y4 y5 y6 y7
   unfold base_Unhex.j1
   repeat' first
   | (with_reducible exact ih0 _ _ _ _ _)
   | (with_reducible exact ih1 _ _ _ _ _ _ _ _)
   | (with_reducible exact ih2 _ _ _ _ _ _ _)
   | (with_reducible exact LeO.refl _)
   | (with_reducible exact LeO.none _)
   | (with_reducible refine LeO.ite ?_ ?_)
   | (with_reducible refine LeO.bind ?_ (fun _ => ?_))
   | exact ih0 _ _ _ _ _
   | exact ih1 _ _ _ _ _ _ _ _
   | exact ih2 _ _ _ _ _ _ _
   | exact LeO.none _
   | refine LeO.ite ?_ ?_
   | refine LeO.bind ?_ (fun _ => ?_)
  ·intro y0 y1 y2 y3 y4 y5 y6
   unfold base_Unhex.j2
   repeat' first
   | (with_reducible exact ih0 _ _ _ _ _)
   | (with_reducible exact ih1 _ _ _ _ _ _ _ _)
   | (with_reducible exact ih2 _ _ _ _ _ _ _)
   | (with_reducible exact LeO.refl _)
   | (with_reducible exact LeO.none _)
   | (with_reducible refine LeO.ite ?_ ?_)
   | (with_reducible refine LeO.bind ?_ (fun _ => ?_))
   | exact ih0 _ _ _ _ _
   | exact ih1 _ _ _ _ _ _ _ _
   | exact ih2 _ _ _ _ _ _ _
   | exact LeO.none _
   | refine LeO.ite ?_ ?_
   | refine LeO.bind ?_ (fun _ => ?_)
theorem base_Unhex.mono : ∀ a0 k, LeO (base_Unhex.f k a0) (base_Unhex.f (k + 1) a0) := by
 intro a0 k
 obtain ⟨ih0, ih1, ih2⟩ := base_Unhex.mono_l k
 unfold base_Unhex.f
 repeat' first
   | (with_reducible exact ih0 _ _ _ _ _)
   | (with_reducible exact ih1 _ _ _ _ _ _ _ _)
   | (with_reducible exact ih2 _ _ _ _ _ _ _)
   | (with_reducible exact LeO.refl _)
   | (with_reducible exact LeO.none _)
   | (with_reducible refine LeO.ite ?_ ?_)
   | (with_reducible refine LeO.bind ?_ (fun _ => ?_))
   | exact ih0 _ _ _ _ _
   | exact ih1 _ _ _ _ _ _ _ _
   | exact ih2 _ _ _ _ _ _ _
   | exact LeO.none _
   | refine LeO.ite ?_ ?_
   | refine LeO.bind ?_ (fun _ => ?_)
set_option maxHeartbeats 8000000 in
set_option maxRecDepth 100000 in
theorem base_Unhex.calls (k : Nat) (a0 : ByteArray) (r1 : List Int) (r2 : Int) (w : World) (h : base_Unhex.f k a0 = some (r1, r2)) :
  Calls Tryd.prog 15 #[.string a0] w fun e w' => ∃ v0_ : Value, e = .returned (.tuple #[v0_, .int .i64 r2]) ∧ Kd.R (Kd.int .u8) 5 w' w.heap.size (fun _ => True) v0_ r1 ∧ Below w.heap.size w w' := by
 have HB := Aside0.mk (Below.refl w.heap.size w)
 have H : (base_Unhex.l0 k a0 ([] : List Int) 0 (a0.size : Int) 0) = some (r1, r2) := h
 clear h
 have H' := Aside0.mk H
 clear H
 go_enter Tryd.func15, Tryd.ntmps15
 go_wp2
 go_loopg [4, 5, 10] k (fun kq v4 v5 v10 w' => ∃ (x4_1 : List Int) (x5_1 : Int) (x10_1 : Int), v5 = .int .i64 x5_1 ∧ v10 = .int .i64 x10_1 ∧ Aside0 (base_Unhex.l0 kq a0 x4_1 x5_1 (a0.size : Int) x10_1 = some (r1, r2)) ∧ Aside0 (kq ≤ k) ∧ Aside0 (Kd.R (Kd.int .u8) 5 w' w.heap.size (fun _ => True) v4 x4_1) ∧ Aside0 (Below w.heap.size w w'))
 case atStart => exact ⟨(([] : List Int)), (0), (0), (by first | rfl | (simp; done) | (simp [*]; done)), (by first | rfl | (simp; done) | (simp [*]; done)), H', ⟨Nat.le_refl _⟩, ⟨by first | exact Kd.R_nil _ _ _ _ _ | exact Kd.N_nil _ _ _ _ _ | exact Kd.V_nil _ _ _ _ _ | exact Kd.Q_nil _ _ _ _ _ | exact Kd.S_nil _ _ _ _ _⟩, ⟨Bu HB⟩⟩
 case round =>
  clear H'
  try clear c1
  obtain ⟨x4_1, x5_1, x10_1, rfl, rfl, HA, HK1, HO_4, HB⟩ := hrel
  cases gk with
  | zero => exact absurd HA.out (by simp [base_Unhex.l0])
  | succ k1 =>
   have H := HA.out
   clear HA
   simp only [base_Unhex.l0] at H
   by_cases c2 : x10_1 < (a0.size : Int)
   ·rw [if_pos c2] at H
    have c2b0 : decide (x10_1 < (a0.size : Int)) = true := decide_eq_true c2
    clear c2
    by_cases c3 : 0 ≤ x10_1
    ·rw [if_pos c3] at H
     have c3b0 : decide (0 ≤ x10_1) = true := decide_eq_true c3
     clear c3
     by_cases c4 : x10_1 < (a0.size : Int)
     ·rw [if_pos c4] at H
      have c4b0 : decide (x10_1 < (a0.size : Int)) = true := decide_eq_true c4
      clear c4
      replace H := Option.bind_eq_some_iff.mp H
      obtain ⟨t167, A60, H⟩ := H
      replace H : (if (bt a0 x10_1) ≥ 65 then (base_Unhex.j1 k1 a0 x4_1 x5_1 x10_1 t167 (a0.size : Int) x10_1 (decide ((bt a0 x10_1) ≤ 70))) else (base_Unhex.j1 k1 a0 x4_1 x5_1 x10_1 t167 (a0.size : Int) x10_1 false)) = some (r1, r2) := H
      have A6 := Aside0.mk A60
      clear A60
      have HC7 := Aside0.mk H
      clear H
      have p5 : 0 ≤ (x10_1 : Int) := of_decide_eq_true (by first | (with_reducible assumption) | assumption)
      have q5 : x10_1 < (a0.size : Int) := of_decide_eq_true (by first | (with_reducible assumption) | assumption)
      have hx5 := bt_at a0 x10_1
      replace p5 := eq_true p5
      replace q5 := eq_true q5
      go_upto_region 7 with (first | ((with_reducible refine gate_callee (f := 23) rfl ?_); refine goesL_ (some 16) rfl rfl Tryd.func23 (by kernel_rfl) rfl #[.string (⟨#[48, 49, 50, 51, 52, 53, 54, 55, 56, 57, 97, 98, 99, 100, 101, 102]⟩ : ByteArray), .int .u8 (bt a0 x10_1)] rfl (by (try simp only [List.map_toArray, List.map_cons, List.map_nil]); first | done | rfl | (simp only [List.length_drop, List.length_take]; rfl)) ?_; (with_reducible refine (strings_IndexByte.calls (⟨#[48, 49, 50, 51, 52, 53, 54, 55, 56, 57, 97, 98, 99, 100, 101, 102]⟩ : ByteArray) (bt a0 x10_1) t167 _ A6.out).mono ?_); rintro e w' ⟨rfl, ⟨nd, rfl⟩⟩; refine ⟨_, rfl, ?_⟩))
      (try simp only [Act.put, List.setIfInBounds_toArray, List.set_cons_zero, List.set_cons_succ])
      go_cut [26] (fun v26 wc => ∃ (kq : Nat) (x26_6 : Bool), v26 = .bool x26_6 ∧ Aside0 (base_Unhex.j1 kq a0 x4_1 x5_1 x10_1 t167 (a0.size : Int) x10_1 x26_6 = some (r1, r2)) ∧ Aside0 (kq ≤ k1) ∧ Aside0 (Kd.R (Kd.int .u8) 5 wc w.heap.size (fun _ => True) u4 x4_1) ∧ Aside0 (Below w.heap.size w wc))
      case first =>
       have H := HC7.out
       clear HC7
       by_cases c9 : (bt a0 x10_1) ≥ 65
       ·rw [if_pos c9] at H
        have c9b0 : decide (65 ≤ (bt a0 x10_1)) = true := decide_eq_true c9
        clear c9
        (first | rw [c9b0] | (simp only [i64_w, i32_w]; rw [c9b0]) | skip)
        have H' := Aside0.mk H
        clear H
        have p8 : 0 ≤ (x10_1 : Int) := of_decide_eq_true (by first | (with_reducible assumption) | assumption)
        have q8 : x10_1 < (a0.size : Int) := of_decide_eq_true (by first | (with_reducible assumption) | assumption)
        have hx8 := bt_at a0 x10_1
        replace p8 := eq_true p8
        replace q8 := eq_true q8
        have p10 : 0 ≤ (x10_1 : Int) := of_decide_eq_true (by first | (with_reducible assumption) | assumption)
        have q10 : x10_1 < (a0.size : Int) := of_decide_eq_true (by first | (with_reducible assumption) | assumption)
        have hx10 := bt_at a0 x10_1
        replace p10 := eq_true p10
        replace q10 := eq_true q10
        go_wp2
        go_meet
        case rel => exact ⟨_, (decide ((bt a0 x10_1) ≤ 70)), (by first | rfl | (simp; done) | (simp [*]; done)), H', ⟨by have := HK1.out; first | omega | exact Nat.le_refl _⟩, ⟨Ru HO_4⟩, ⟨Bu HB⟩⟩
       ·rw [if_neg c9] at H
        have c9b0 : decide (65 ≤ (bt a0 x10_1)) = false := decide_eq_false c9
        clear c9
        (first | rw [c9b0] | (simp only [i64_w, i32_w]; rw [c9b0]) | skip)
        have H' := Aside0.mk H
        clear H
        have p8 : 0 ≤ (x10_1 : Int) := of_decide_eq_true (by first | (with_reducible assumption) | assumption)
        have q8 : x10_1 < (a0.size : Int) := of_decide_eq_true (by first | (with_reducible assumption) | assumption)
        have hx8 := bt_at a0 x10_1
        replace p8 := eq_true p8
        replace q8 := eq_true q8
        go_wp2
        go_meet
        case rel => exact ⟨_, (false), (by first | rfl | (simp; done) | (simp [*]; done)), H', ⟨by have := HK1.out; first | omega | exact Nat.le_refl _⟩, ⟨Ru HO_4⟩, ⟨Bu HB⟩⟩
      case rest =>
       clear HC7
       try clear c1
       try clear p1
       try clear q1
       try clear hx1
       try clear c2
       try clear c2b0
       try clear p2
       try clear c3
       try clear c3b0
       try clear c4
       try clear c4b0
       try clear p5
       try clear q5
       try clear hx5
       try clear p8
       try clear q8
       try clear hx8
       try clear c9
       try clear c9b0
       try clear p10
       try clear q10
       try clear hx10
       try clear p10
       try clear p5
       try clear p8
       try clear q10
       try clear q5
       try clear q8
       obtain ⟨kq, x26_6, rfl, HA, HJ6, HO_4, HB⟩ := hcut
       cases kq with
       | zero => exact absurd HA.out (by simp [base_Unhex.j1])
       | succ kj6 =>
        have H := HA.out
        clear HA
        simp only [base_Unhex.j1] at H
        have HC11 := Aside0.mk H
        clear H
        go_upto_if 26 with (fail)
        go_cut [7] (fun v7 wc => ∃ (kq : Nat) (x7_10 : Int), v7 = .int .i64 x7_10 ∧ Aside0 (base_Unhex.j2 kq a0 x4_1 x5_1 x10_1 x7_10 (a0.size : Int) x10_1 = some (r1, r2)) ∧ Aside0 (kq ≤ kj6) ∧ Aside0 (Kd.R (Kd.int .u8) 5 wc w.heap.size (fun _ => True) u4 x4_1) ∧ Aside0 (Below w.heap.size w wc))
        case first =>
         have H := HC11.out
         clear HC11
         by_cases c12 : x26_6 = true
         ·subst c12
          have H1 : (if 0 ≤ x10_1 then (if x10_1 < (a0.size : Int) then (base_Unhex.j2 kj6 a0 x4_1 x5_1 x10_1 (10 + (((bt a0 x10_1) - 65) % 256)) (a0.size : Int) x10_1) else (none)) else (none)) = some (r1, r2) := by rw [if_pos rfl] at H; exact H
          clear H
          have H := H1
          clear H1
          by_cases c13 : 0 ≤ x10_1
          ·rw [if_pos c13] at H
           have c13b0 : decide (0 ≤ x10_1) = true := decide_eq_true c13
           clear c13
           (first | rw [c13b0] | (simp only [i64_w, i32_w]; rw [c13b0]) | skip)
           by_cases c14 : x10_1 < (a0.size : Int)
           ·rw [if_pos c14] at H
            have c14b0 : decide (x10_1 < (a0.size : Int)) = true := decide_eq_true c14
            clear c14
            have H' := Aside0.mk H
            clear H
            have p15 : 0 ≤ (x10_1 : Int) := of_decide_eq_true (by first | (with_reducible assumption) | assumption)
            have q15 : x10_1 < (a0.size : Int) := of_decide_eq_true (by first | (with_reducible assumption) | assumption)
            have hx15 := bt_at a0 x10_1
            replace p15 := eq_true p15
            replace q15 := eq_true q15
            go_wp2
            go_meet
            case rel => exact ⟨_, (10 + (((bt a0 x10_1) - 65) % 256)), (by first | rfl | (simp; done) | (simp [*]; done)), H', ⟨by have := HK1.out; have := HJ6.out; first | omega | exact Nat.le_refl _⟩, ⟨Ru HO_4⟩, ⟨Bu HB⟩⟩
           ·rw [if_neg c14] at H
            exact absurd H (by simp)
          ·rw [if_neg c13] at H
           exact absurd H (by simp)
         ·replace c12 := Bool.eq_false_iff.mpr c12
          subst c12
          have H1 : (base_Unhex.j2 kj6 a0 x4_1 x5_1 x10_1 t167 (a0.size : Int) x10_1) = some (r1, r2) := by rw [if_neg (show ¬ (false = true) by decide)] at H; exact H
          clear H
          have H := H1
          clear H1
          have H' := Aside0.mk H
          clear H
          go_wp2
          go_meet
          case rel => exact ⟨_, (t167), (by first | rfl | (simp; done) | (simp [*]; done)), H', ⟨by have := HK1.out; have := HJ6.out; first | omega | exact Nat.le_refl _⟩, ⟨Ru HO_4⟩, ⟨Bu HB⟩⟩
        case rest =>
         clear HC11
         try clear c1
         try clear p1
         try clear q1
         try clear hx1
         try clear c2
         try clear c2b0
         try clear p2
         try clear c3
         try clear c3b0
         try clear c4
         try clear c4b0
         try clear p5
         try clear q5
         try clear hx5
         try clear p8
         try clear q8
         try clear hx8
         try clear c9
         try clear c9b0
         try clear p10
         try clear q10
         try clear hx10
         try clear c12
         try clear c13
         try clear c13b0
         try clear c14
         try clear c14b0
         try clear c15
         try clear p15
         try clear q15
         try clear hx15
         try clear p1
         try clear p10
         try clear p15
         try clear p2
         try clear p5
         try clear p8
         try clear q1
         try clear q10
         try clear q15
         try clear q5
         try clear q8
         obtain ⟨kq, x7_10, rfl, HA, HJ10, HO_4, HB⟩ := hcut
         cases kq with
         | zero => exact absurd HA.out (by simp [base_Unhex.j2])
         | succ kj10 =>
          have H := HA.out
          clear HA
          simp only [base_Unhex.j2] at H
          by_cases c16 : x7_10 < 0
          ·rw [if_pos c16] at H
           have c16b0 : decide (x7_10 < 0) = true := decide_eq_true c16
           clear c16
           simp only [Option.some.injEq, Prod.mk.injEq] at H
           obtain ⟨rfl, rfl⟩ := H
           go_wp2
           go_ret2
           exact ⟨_, rfl_, by first | exact Kd.R_nil _ _ _ _ _ | exact Kd.N_nil _ _ _ _ _ | exact Kd.V_nil _ _ _ _ _ | exact Kd.Q_nil _ _ _ _ _ | exact Kd.S_nil _ _ _ _ _, Bu HB⟩
          ·rw [if_neg c16] at H
           have c16b0 : decide (x7_10 < 0) = false := decide_eq_false c16
           clear c16
           by_cases c17 : (Int.tmod x10_1 2) = 1
           ·rw [if_pos c17] at H
            have c17b0 : ((Int.tmod x10_1 2) == 1) = true := beq_iff_eq.mpr c17
            have c17b1 : ((Int.tmod x10_1 2) != 1) = false := bne_eq_false_iff_eq.mpr c17
            clear c17
            by_cases c18 : x4_1.length < 140737488355328
            ·rw [if_pos c18] at H
             have LMc18 := Aside0.mk c18
             clear c18
             obtain ⟨y168, hy168⟩ : ∃ y_ : List Int, y_ = (x4_1 ++ [(Go.bits .or .i64 (Go.bits .and .i64 (wrap64 (x5_1 * 16)) 240) x7_10) % 256]) := ⟨_, rfl⟩
             replace H : (base_Unhex.l0 kj10 a0 y168 (Go.bits .or .i64 (Go.bits .and .i64 (wrap64 (x5_1 * 16)) 240) x7_10) (a0.size : Int) (wrap64 (x10_1 + 1))) = some (r1, r2) := by first | (rw [hy168]; with_reducible exact H) | (have H2_ := (Option.bind_some _ _).symm.trans H; rw [hy168]; with_reducible exact H2_) | (have H2_ := (Option.bind_some _ _).symm.trans H; with_reducible exact H2_) | with_reducible exact H | (rw [hy168]; exact H) | exact H
             have Ny168 := Aside0.mk hy168
             clear hy168
             have H' := Aside0.mk H
             clear H
             go_wp2_with (first | ((with_reducible refine gate_builtin (b := .append) (xs := #[.tmp 43, .tmp 46]) rfl ?_); at_builtin; refine Kd.R_append (Kd.int .u8) (w0 := w) w.heap.size rfl (.tmp 43) (.tmp 46) 23 5 (.int .u8 0) 1 rfl Tryd.underlying23 info5 rfl (by decide) (by omega) u4 x4_1 ((Go.bits .or .i64 (Go.bits .and .i64 (wrap64 (x5_1 * 16)) 240) x7_10) % 256) [.int .u8 ((Go.bits .or .i64 (Go.bits .and .i64 (wrap64 (x5_1 * 16)) 240) x7_10) % 256)] (fun _ => True) (fun _ => False) rfl rfl ?aP (fun _ hk => hk.elim) ?aF ?aO ?aB ?aS ?aL ?_; (case aP => exact rfl); (case aB => exact (Bu HB)); (case aF => exact (fun _ _ => trivial)); (case aO => exact (Ru HO_4)); (case aS => exact (Bz HB)); (case aL => have := LMc18.out; omega); intro v169 w19 ho hb hg hat; rw [← Ny168.out] at ho; have n0_ := Aside0.mk (hb); have n1_ := Aside0.mk (ho); clear HB HO_4; revert n0_ n1_; intro HB HO170; clear ho hb hg hat))
             go_roundg kj10
             case measure => have := HK1.out; have := HJ6.out; have := HJ10.out; omega
             case rel => exact ⟨(y168), (Go.bits .or .i64 (Go.bits .and .i64 (wrap64 (x5_1 * 16)) 240) x7_10), (wrap64 (x10_1 + 1)), (by first | rfl | (simp; done) | (simp [*]; done)), (by first | rfl | (simp; done) | (simp [*]; done)), H', ⟨by have := HK1.out; have := HJ6.out; have := HJ10.out; omega⟩, ⟨Ru HO170⟩, ⟨Bu HB⟩⟩
            ·rw [if_neg c18] at H
             exact absurd H (by simp)
           ·rw [if_neg c17] at H
            have c17b0 : ((Int.tmod x10_1 2) == 1) = false := beq_eq_false_iff_ne.mpr c17
            have c17b1 : ((Int.tmod x10_1 2) != 1) = true := bne_iff_ne.mpr c17
            have H' := Aside0.mk H
            clear H
            go_wp2
            go_roundg kj10
            case measure => have := HK1.out; have := HJ6.out; have := HJ10.out; omega
            case rel => exact ⟨(x4_1), (Go.bits .or .i64 (Go.bits .and .i64 (wrap64 (x5_1 * 16)) 240) x7_10), (wrap64 (x10_1 + 1)), (by first | rfl | (simp; done) | (simp [*]; done)), (by first | rfl | (simp; done) | (simp [*]; done)), H', ⟨by have := HK1.out; have := HJ6.out; have := HJ10.out; omega⟩, ⟨Ru HO_4⟩, ⟨Bu HB⟩⟩
     ·rw [if_neg c4] at H
      exact absurd H (by simp)
    ·rw [if_neg c3] at H
     exact absurd H (by simp)
   ·rw [if_neg c2] at H
    have c2b0 : decide (x10_1 < (a0.size : Int)) = false := decide_eq_false c2
    clear c2
    by_cases c20 : ((a0.size : Int) % 2) = 1
    ·rw [if_pos c20] at H
     have c20b0 : (((a0.size : Int) % 2) == 1) = true := beq_iff_eq.mpr c20
     have c20b1 : (((a0.size : Int) % 2) != 1) = false := bne_eq_false_iff_eq.mpr c20
     clear c20
     simp only [Option.some.injEq, Prod.mk.injEq] at H
     obtain ⟨rfl, rfl⟩ := H
     go_wp2
     go_ret2
     exact ⟨_, rfl_, by first | exact Kd.R_nil _ _ _ _ _ | exact Kd.N_nil _ _ _ _ _ | exact Kd.V_nil _ _ _ _ _ | exact Kd.Q_nil _ _ _ _ _ | exact Kd.S_nil _ _ _ _ _, Bu HB⟩
    ·rw [if_neg c20] at H
     have c20b0 : (((a0.size : Int) % 2) == 1) = false := beq_eq_false_iff_ne.mpr c20
     have c20b1 : (((a0.size : Int) % 2) != 1) = true := bne_iff_ne.mpr c20
     simp only [Option.some.injEq, Prod.mk.injEq] at H
     obtain ⟨rfl, rfl⟩ := H
     go_wp2
     go_ret2
     exact ⟨_, rfl_, Ru HO_4, Bu HB⟩

end Go.Proofs.YtfphmpnkfjeceaaDoor.Hp
