/- Go functions of this seat as Lean functions, and their contracts: what the Go code computes, for every input. (By hp.py, a program of this repo, over the kit's print.py.) -/
import Derived.Test.YtbokeoncpilgpaaHp0
import Derived.Test.YtbokeoncpilgpaaHp1
import Derived.Test.YtbokeoncpilgpaaHp2
import Derived.Test.YtbokeoncpilgpaaHp7
namespace Go.Proofs.Ytbokeoncpilgpaa.Hp
open Go.RowKit Go.Proofs.YtbokeoncpilgpaaW.PrintWords Go.Proofs.YtbokeoncpilgpaaW.PrintLast Go.Proofs.YtbokeoncpilgpaaW.PrintMore
attribute [local go_sem] max2_int min2_int max_two min_two max_three min_three max_four min_four   -- for this text's walks alone
set_option linter.unusedVariables false
set_option linter.unusedSimpArgs false

/-! ### slices_Repeat_int_int: function 50 -/
theorem slices_Repeat_int_int.plain_of_cell {w : World} {a : Addr} {v : Value} (h : w.cell? a = some v) : a = ⟨a.block, a.off, none⟩ := by
  obtain ⟨b, o, s⟩ := a
  cases s with
  | none => rfl
  | some s =>
    unfold World.cell? at h
    cases hb : w.heap[b]? with
    | none => simp [hb] at h
    | some x => cases x <;> simp [hb] at h
/-- A row that is read and holds something: where it lies, cell by cell. -/
theorem slices_Repeat_int_int.row_at {α : Type} {enc : α → Value} {h1 : ∀ x, (enc x).oneCell' = true} {w : World} {A : Option Addr} {n : Nat} {xs : List α} (h : Kd.C (Kd.scalar enc h1) w A n xs) (hn : 0 < n) :
    ∃ b o, A = some ⟨b, o, none⟩ ∧ b < w.heap.size ∧ ∀ (j : Nat) x, xs[j]? = some x → w.cell? ⟨b, o + j, none⟩ = some (enc x) := by
  obtain ⟨ad, rfl, hcell⟩ := h.2.2 hn
  have hg : ∀ (j : Nat) x, xs[j]? = some x → w.cell? (ad.add j) = some (enc x) := by
    intro j x hx
    obtain ⟨c, hcl, hk, hi⟩ := hcell j x hx
    obtain rfl : c = [enc x] := hk
    have := hi 0 _ rfl
    rwa [show j * (Kd.scalar enc h1).sz + 0 = j from by show j * 1 + 0 = j; omega] at this
  have h0 := hg 0 _ (List.getElem?_eq_getElem (by rw [h.1]; exact hn))
  have hp := slices_Repeat_int_int.plain_of_cell (show w.cell? ad = _ from h0)
  refine ⟨ad.block, ad.off, by rw [← hp], World.block_lt_of_cell? w _ h0, fun j x hx => ?_⟩
  have := hg j x hx
  rwa [hp, Addr.add_lit] at this
theorem mul_one (m : Nat) (hm : m ≤ 1099511627776) : bits_Mul.f 1 (m : Int) = some (0, (m : Int)) := by
  have e1 : Go.bits .and .u64 (1 : Int) 4294967295 = 1 := by decide +kernel
  have e2 : Go.bits .and .u64 (m : Int) 4294967295 = (m : Int) % 4294967296 := bits_mask .u64 64 (by decide) (fun n h0 h1 => by rw [IntKind.wrap_u64]; omega) 32 (by decide) (m : Int) (by omega) (by omega)
  have e3 : Go.bits .and .u64 (0 : Int) 4294967295 = 0 := by decide +kernel
  unfold bits_Mul.f bits_Mul64.f
  rw [e1, e2, show (1 : Int) / 4294967296 = 0 by decide, Int.one_mul, Int.one_mul, Int.one_mul, Int.zero_mul, Int.zero_mul]
  simp only [IntKind.wrap_u64]
  have z : ((0 : Int) % 18446744073709551616 + (m : Int) % 4294967296 % 18446744073709551616 / 4294967296) % 18446744073709551616 = 0 := by omega
  rw [z, e3]
  simp only [Option.bind_some]
  congr 2 <;> omega
theorem rep_val (k q z : Nat) (hq : q = z) (hm : k + q ≤ 1099511627776) : Value.int .i64 (IntKind.i64.wrap ((k : Int) + (z : Int))) = Value.int .i64 ((k + q : Nat) : Int) := by
  subst hq
  have : IntKind.i64.wrap ((k : Int) + (q : Int)) = ((k + q : Nat) : Int) := by rw [IntKind.wrap_i64]; omega
  rw [this]
theorem rep_len (k q m : Nat) (cur C : List Value) (hl : cur.length = m) (hC : C.length = q) (h : q ≤ m - k) (hk : k ≤ m) : (splice cur k C).length = m := by
  rw [length_splice _ _ _ (by omega), hl]
theorem rep_take (k q : Nat) (x : Value) (cur C : List Value) (hC : C = List.replicate q x) (ht : cur.take k = List.replicate k x) : (splice cur k C).take (k + q) = List.replicate (k + q) x := by
  unfold splice
  rw [ht, hC, ← List.append_assoc, List.replicate_append_replicate, List.take_append_of_le_length (by simp), List.take_of_length_le (by simp)]
def slices_Repeat_int_int.f (l0 : List Int) (n : Int) : Option (List Int) := if l0.length = 1 ∧ 0 ≤ n ∧ n ≤ 1099511627776 then some (List.replicate n.toNat (l0.getD 0 0)) else none
set_option maxHeartbeats 8000000 in
set_option maxRecDepth 100000 in
theorem slices_Repeat_int_int.calls (A0 : Option Addr) (c0 : Nat) (l0 : List Int) (n : Int) (r : List Int) (w : World) (hr0 : Kd.C (Kd.int .i64) w A0 l0.length l0) (_hc0 : l0.length ≤ c0) (h : slices_Repeat_int_int.f l0 n = some r) :
    Calls Try.prog 50 #[.slice A0 l0.length c0, .int .i64 n] w fun e w' => ∃ v0_ : Value, e = .returned (v0_) ∧ Kd.R (Kd.int .i64) 3 w' w.heap.size (fun _ => True) v0_ r ∧ Below w.heap.size w w' := by
  have HR0 := Aside0.mk hr0
  clear hr0
  unfold slices_Repeat_int_int.f at h
  split at h
  · rename_i hs
    obtain rfl := Option.some.inj h
    obtain ⟨m, rfl⟩ : ∃ m : Nat, n = m := ⟨n.toNat, by omega⟩
    obtain ⟨x, rfl⟩ : ∃ x, l0 = [x] := List.length_eq_one_iff.1 hs.1
    have hm : m ≤ 1099511627776 := by omega
    clear h hs
    have hmul := mul_one m (by omega)
    have hw1 : IntKind.u64.wrap (m : Int) = m := by rw [IntKind.wrap_u64]; omega
    obtain ⟨i0, hi, hz0, hz1, hz2⟩ := info_parts info3
    have hsz : (Try.prog.info? 3).map (·.size) = some 1 := by rw [hi]; simp [hz1]
    obtain ⟨Z, hZ, hZl⟩ : ∃ Z : List Value, (madeCells (Value.int .i64 0).cells (m * i0.size)) = Z.toArray ∧ Z.length = m := ⟨(madeCells (Value.int .i64 0).cells (m * i0.size)).toList, by simp, by rw [hz1]; simp [madeCells]⟩
    have hmk : ∀ W, (Instr.makeSlice 35 (.int .i64 (m : Int)) (.int .i64 (m : Int))).run Try.prog W = .ok (.slice (some ⟨W.heap.size, 0, none⟩) m m) (W.alloc (.cells Z.toArray 3)) := fun W => by
      have := run_make (P := Try.prog) (w := W) 35 3 i0 (.int .i64 0) Try.underlying35 hi hz0 .i64 .i64 (m : Int) (m : Int) (by omega) (by omega) (by rw [hz2]; omega) (by omega)
      rw [Int.toNat_natCast, hZ] at this
      exact this
    clear hZ
    rcases Nat.eq_zero_or_pos m with h0 | hpos
    · subst h0
      have HZ0 : Z = [] := List.eq_nil_of_length_eq_zero hZl
      subst HZ0
      rw [show ((0 : Nat) : Int) = 0 from rfl] at hmul hw1
      have hmk0 : ∀ W, (Instr.makeSlice 35 (.int .i64 0) (.int .i64 0)).run Try.prog W = .ok (.slice (some ⟨W.heap.size, 0, none⟩) 0 0) (W.alloc (.cells #[] 3)) := hmk
      clear hmk
      go_enter Try.func50, Try.ntmps50
      go_wp2_with (first | (go_at_call 52; refine (bits_Mul.calls _ _ _ _ _ hmul).mono ?_; rintro e w1 ⟨rfl, nd, rfl⟩))
      rw [run_copy_none (P := Try.prog) _ 35 35 3 3 _ _ 0 0 1 c0 Try.underlying35 hsz rfl]
      simp only [Result.andThen]
      rw [Oper.upon_value]
      go_wp2
      go_loop [8] (fun v8 => v8 = .int .i64 0) (fun _ => 0)
      case atStart => rfl
      case round =>
        obtain rfl := hrel
        go_wp2
        go_ret
        refine ⟨_, rfl, Kd.R_of_own (?_ : World.ownsRow _ _ _ 1 _ _ _) (fun _ _ => trivial), (pw_below_drewN (Below.refl _ _) nd).alloc (by simp) _⟩
        refine ⟨rfl, .inr ⟨w.heap.size, 0, #[], rfl, Nat.le_refl _, ?_, Nat.le_refl _, by unfold maxLen; omega, rfl, rfl⟩⟩
        have := heap_alloc_last (w.drewN nd) (.cells #[] 3)
        simpa using this
    · obtain ⟨b, o, rfl, _, hc⟩ := slices_Repeat_int_int.row_at HR0.out (show 0 < ([x] : List Int).length from Nat.zero_lt_one)
      have hx : w.cell? ⟨b, o, none⟩ = some (.int .i64 x) := by have := hc 0 x rfl; simpa using this
      have hblt : b < w.heap.size := World.block_lt_of_cell? w _ hx
      have HX := Aside0.mk hx
      clear hc hx
      go_enter Try.func50, Try.ntmps50
      go_wp2_with (first | (go_at_call 52; refine (bits_Mul.calls _ _ _ _ _ hmul).mono ?_; rintro e w1 ⟨rfl, nd, rfl⟩))
      have hW : ((w.drewN nd).alloc (.cells Z.toArray 3)).heap[w.heap.size]? = some (.cells Z.toArray 3 (0, 0)) := by
        have := heap_alloc_new (w.drewN nd) (.cells Z.toArray 3)
        simpa using this
      have hB : Below w.heap.size w ((w.drewN nd).alloc (.cells Z.toArray 3)) := (pw_below_drewN (Below.refl _ _) nd).alloc (by simp) _
      have hx2 : ((w.drewN nd).alloc (.cells Z.toArray 3)).cell? ⟨b, o, none⟩ = some (.int .i64 x) := by
        rw [hB.cell (p := ⟨b, o, none⟩) hblt]; exact HX.out
      generalize (w.drewN nd).alloc (.cells Z.toArray 3) = W at hW hB hx2 ⊢
      rw [run_copy_row (P := Try.prog) W 35 35 3 3 w.heap.size 0 m m ⟨b, o, none⟩ 1 c0 Z.toArray 3 [.int .i64 x] Try.underlying35 hsz hW (show 1 = Nat.min 1 m from (Nat.min_eq_left hpos).symm) (by intro j v hj; match j, hj with | 0, hj => simp at hj; subst hj; exact hx2) (by simp; omega) (by intro v hv; simp at hv; subst hv; rfl)]
      simp only [Result.andThen]
      rw [Oper.upon_value]
      have hG : (W.setRow w.heap.size (List.take 0 Z ++ [Value.int .i64 x] ++ List.drop (0 + [Value.int .i64 x].length) Z).toArray).heap[w.heap.size]? = some (.cells ((.int .i64 x) :: Z.drop 1).toArray 3 (0, 0)) := by
        have := setRow_heap W w.heap.size Z.toArray (List.take 0 Z ++ [Value.int .i64 x] ++ List.drop (0 + [Value.int .i64 x].length) Z).toArray 3 (0, 0) hW
        simpa using this
      have hB2 := below_setRow hB (Nat.le_refl _) (List.take 0 Z ++ [Value.int .i64 x] ++ List.drop (0 + [Value.int .i64 x].length) Z).toArray
      generalize W.setRow w.heap.size _ = W2 at hG hB2 ⊢
      have HG := Aside0.mk hG
      have HB := Aside0.mk hB2
      clear hG hB2 hW hB hx2 hmk hmul
      go_wp2
      go_loopw [8] (fun v8 wr => ∃ (k : Nat) (cur : List Value), 1 ≤ k ∧ k ≤ m ∧ v8 = .int .i64 k ∧ cur.length = m ∧ cur.take k = List.replicate k (.int .i64 x) ∧ Aside0 (wr.heap[w.heap.size]? = some (.cells cur.toArray 3 (0, 0)) ∧ Below w.heap.size w wr)) (fun v8 _ => m - (intOf v8).toNat)
      case atStart =>
        refine ⟨1, .int .i64 x :: Z.drop 1, Nat.le_refl _, hpos, rfl, by simp; omega, rfl, ⟨HG.out, HB.out⟩⟩
      case round =>
        obtain ⟨k, cur, k1, k2, rfl, hl, ht, hr⟩ := hrel
        clear HG HB
        have HG := Aside0.mk hr.out.1
        have HB := Aside0.mk hr.out.2
        clear hr
        by_cases hlt : k < m
        · have hkm : (k : Int) ≤ (m : Int) := by omega
          have hkm1 : 0 ≤ (k : Int) ∧ (k : Int) ≤ (m : Int) := by omega
          have hkm2 : (m - k : Nat) = m - k := rfl
          have hcell : ∀ j : Nat, j < k → wr.cell? ⟨w.heap.size, j, none⟩ = some (.int .i64 x) := fun j hj => by
            rw [Lib.cell_of_heap HG.out]
            have := congrArg (fun l => l[j]?) ht
            simp [hj] at this
            simpa using this
          have HC := Aside0.mk (show ∀ j : Nat, j < k → wr.drew.cell? ⟨w.heap.size, j, none⟩ = some (.int .i64 x) from fun j hj => by simpa using hcell j hj)
          have HGd := Aside0.mk (blk_drew HG.out)
          have HBd := Aside0.mk (below_drew1 HB.out)
          have hne : ¬ m = k := by omega
          clear hcell
          obtain ⟨q, hq, hq1, hq2, hq3⟩ : ∃ q : Nat, q = Nat.min k (m - k) ∧ q ≤ k ∧ q ≤ m - k ∧ 1 ≤ q := ⟨_, rfl, Nat.min_le_left _ _, Nat.min_le_right _ _, Nat.le_min.2 ⟨k1, by omega⟩⟩
          have hr1 : (List.replicate q (Value.int .i64 x)).length = Nat.min k (m - k) := by rw [List.length_replicate]; exact hq
          have hr2 : ∀ (j : Nat) (v : Value), (List.replicate q (Value.int .i64 x))[j]? = some v → wr.drew.cell? (Addr.add ⟨w.heap.size, 0, none⟩ j) = some v := fun j v hj => by
            obtain ⟨h1, h2⟩ := List.getElem?_eq_some_iff.1 hj
            rw [List.length_replicate] at h1
            rw [List.getElem_replicate] at h2
            subst h2
            rw [Addr.add_lit, Nat.zero_add]
            exact HC.out j (by omega)
          have hr3 : k + (List.replicate q (Value.int .i64 x)).length ≤ cur.length := by rw [List.length_replicate]; omega
          have hr4 : ∀ v ∈ List.replicate q (Value.int .i64 x), v.oneCell' = true := fun v hv => by rw [List.eq_of_mem_replicate hv]; rfl
          have R1 := Aside0.mk hr1
          have R2 := Aside0.mk hr2
          have R3 := Aside0.mk hr3
          have R4 := Aside0.mk hr4
          clear hr1 hr2 hr3 hr4
          obtain ⟨C, hC⟩ : ∃ C, C = List.replicate q (Value.int .i64 x) := ⟨_, rfl⟩
          have hCl : C.length = q := by rw [hC, List.length_replicate]
          rw [← hC] at R1 R2 R3 R4
          have HCC := Aside0.mk hC
          clear hC
          go_wp2
          go_region_law (refine step_copy_splice rfl (.tmp 41) (.tmp 44) 35 35 rfl 3 Try.underlying35 hsz (some ⟨w.heap.size, k, none⟩) (some ⟨w.heap.size, 0, none⟩) (m - k) (m - k) k m (by simp [Act.eval, Act.put]) (by simp [Act.eval, Act.put]) w.heap.size k cur 3 HGd.out C R1.out (fun _ => ⟨rfl, _, rfl, R2.out⟩) R3.out R4.out w.heap.size w HBd.out (Nat.le_refl _) ?_; intro w4 hg4 hb4; have n0_ := Aside0.mk (show _ = _ from hg4); have n1_ := Aside0.mk hb4; clear hg4 hb4)
          simp only [List.getElem_toArray, List.getElem_cons_succ, List.getElem_cons_zero, Act.put, List.setIfInBounds_toArray, List.set_cons_zero, List.set_cons_succ]
          have hv := rep_val k q (Nat.min k (m - k)) hq (by omega)
          have hsl := rep_len k q m cur C hl hCl hq2 k2
          have htk := rep_take k q _ cur C HCC.out ht
          (first | go_roundw | (go_wp2; go_roundw))
          case rel => first | exact ⟨_, _, _, _, _, _, _, _, _, _, _, _, _, _, ⟨k + q, _, by omega, by omega, hv, hsl, htk, ⟨n0_.out, n1_.out⟩⟩, rfl⟩ | exact ⟨k + q, _, by omega, by omega, hv, hsl, htk, ⟨n0_.out, n1_.out⟩⟩ | exact ⟨k + q, by omega, by omega, hv, _, hsl, htk, ⟨n0_.out, n1_.out⟩⟩ | exact ⟨_, _, by omega, by omega, hv, hsl, htk, ⟨n0_.out, n1_.out⟩⟩
          case measure => rw [hv]; simp [intOf]; omega
        · obtain rfl : k = m := by omega
          go_wp2
          go_ret
          refine ⟨_, rfl, Kd.R_of_own (?_ : World.ownsRow _ _ _ 1 _ _ _) (fun _ _ => trivial), HB.out⟩
          rw [Int.toNat_natCast]
          show wr.ownsRow w.heap.size 3 1 (.slice (some ⟨w.heap.size, 0, none⟩) k k) (List.replicate k x).length (encs (Value.int .i64) (List.replicate k x))
          rw [List.length_replicate]
          refine ⟨by simp [encs], .inr ⟨w.heap.size, k, cur.toArray, rfl, Nat.le_refl _, HG.out, Nat.le_refl _, by unfold maxLen; omega, by simp; omega, ?_⟩⟩
          rw [Nat.mul_one]
          rw [ht]
          simp [encs]
  · cases h

/-! ### flate_fixed: function 43 -/
def fixA : List Int := List.replicate 144 8 ++ List.replicate 112 9
def fixB : List Int := fixA ++ List.replicate 24 7
/-- The lengths of the fixed code. -/
def fixL : List Int := fixB ++ List.replicate 8 8
def fixD : List Int := List.replicate 32 5
theorem fixA_eq : List.replicate 144 (8 : Int) ++ List.replicate 112 9 = fixA := rfl
theorem fixB_eq : fixA ++ List.replicate 24 (7 : Int) = fixB := rfl
theorem fixL_eq : fixB ++ List.replicate 8 (8 : Int) = fixL := rfl
theorem fix_kraft : kraft (cntP fixL 15 0) 15 = 32768 := by decide +kernel
theorem fixD_kraft : kraft (cntP (List.replicate 32 5) 15 0) 15 = 32768 := by decide +kernel
theorem fix_ok : bookL fixL false false = .ok (cntP fixL 15 0, allS fixL 15) := if_pos (.inl fix_kraft)
theorem fixD_ok : bookL (List.replicate 32 5) false false = .ok (cntP (List.replicate 32 5) 15 0, allS (List.replicate 32 5) 15) := if_pos (.inl fixD_kraft)
theorem Bk.mono {kb : Nat} {S S' : Nat → Prop} {cnt : List Nat} {sg : List Int} {w : World} (h : Bk kb S cnt sg w) (hs : ∀ k, S k → S' k) : Bk kb S' cnt sg w := by
  obtain ⟨v, hb, hS, hl, hR⟩ := h
  exact ⟨v, hb, hs _ hS, hl, Kd.R_mono hR hs⟩
set_option maxRecDepth 100000 in
set_option maxHeartbeats 16000000 in
theorem flate_fixed.any (w : World) :
    Calls Try.prog 43 #[] w fun e w' => Below w.heap.size w w' ∧ ∃ k1 k2 C1 S1 C2 S2, e = .returned (.tuple #[.pointer (some ⟨k1, 0, none⟩), .pointer (some ⟨k2, 0, none⟩)]) ∧ bookL fixL false false = .ok (C1, S1) ∧ bookL fixD false false = .ok (C2, S2) ∧ Bk k1 (fun k => w.heap.size ≤ k) C1 S1 w' ∧ Bk k2 (fun k => w.heap.size ≤ k) C2 S2 w' := by
  go_enter Try.func43, Try.ntmps43
  go_wp2_with (first
    | (go_at_call 51; have q_ := B9; clear q_; refine (flate_newBook.any A9 c9 (List.replicate 32 5) false false w9 (Kd.R_reads' V9.out).2.2 (by decide)).mono ?_; rintro e w10 ⟨hB, ⟨C2, S2, hk, rfl, hbk⟩ | ⟨x, hx, rfl⟩⟩; rotate_left; (exact absurd (fixD_ok.symm.trans hx) (by simp)); have K10 := Aside0.mk hbk; have E10 := Aside0.mk hk; have B10 := Aside0.mk (B9.out.trans (hB.mono B9.out.size)); have K11 := Aside0.mk (K9.out.kept (fun k _ hlt => hB.block k hlt)); clear hbk hk hB)
    | (go_at_call 50; have q_ := B8; clear q_; refine (slices_Repeat_int_int.calls (some ⟨w8.heap.size, 0, none⟩) 1 [5] 32 (List.replicate 32 5) _ (lit_row64 w8 5) (by decide) rfl).mono ?_; rintro e w9 ⟨v9, rfl, ho, hb⟩; obtain ⟨A9, c9, rfl⟩ := Kd.R_slice ho; have V9 := Aside0.mk ho; have B89 := Aside0.mk hb; have B9 := Aside0.mk ((B8.out.alloc B8.out.size (.cells #[.int .i64 5] 3)).trans (hb.mono (Nat.le_trans B8.out.size (by simp)))); clear ho hb; have K9 := Aside0.mk ((K8.out.alloc (.cells #[.int .i64 5] 3)).kept (fun k _ hlt => B89.out.block k hlt)))
    | (go_at_call 51; have q_ := B7; clear q_; refine (flate_newBook.any A7 c7 fixL false false w7 (Kd.R_reads' O7.out).2.2 (by decide)).mono ?_; rintro e w8 ⟨hB, ⟨C1, S1, hk, rfl, hbk⟩ | ⟨x, hx, rfl⟩⟩; rotate_left; (exact absurd (fix_ok.symm.trans hx) (by simp)); have K8 := Aside0.mk hbk; have E8 := Aside0.mk hk; have B8 := Aside0.mk (B7.out.trans (hB.mono B7.out.size)); have B78 := Aside0.mk hB; clear hbk hk hB)
    | ((with_reducible refine gate_builtin (b := .append) (xs := #[.tmp 13, .tmp 15]) rfl ?_); at_builtin; have q_ := B6; clear q_; refine Kd.R_append_rows (Kd.int .i64) (w0 := w) w.heap.size rfl (.tmp 13) (.tmp 15) 35 3 (.int .i64 0) 8 rfl Try.underlying35 info3 rfl (by decide) (by omega) _ (fixB) (List.replicate 8 8) _ _ _ (fun _ => True) (fun _ => False) rfl rfl ?aO ?aR (fun _ _ h => h) (fun _ h => h.elim) (fun _ _ => trivial) ?aB ?aS ?aL ?_; (case aO => exact Oa_6.out); (case aR => exact (Kd.R_reads' V6.out).2.2); (case aB => exact B6.out); (case aS => exact B6.out.size); (case aL => decide); intro v7 w7 ho hb hg hat; rw [fixL_eq] at ho; obtain ⟨A7, c7, rfl⟩ := Kd.R_slice ho; have O7 := Aside0.mk ho; have B7 := Aside0.mk hb; clear ho hb hg hat)
    | (go_at_call 50; have q_ := B5; clear q_; refine (slices_Repeat_int_int.calls (some ⟨w5.heap.size, 0, none⟩) 1 [8] 8 (List.replicate 8 8) _ (lit_row64 w5 8) (by decide) rfl).mono ?_; rintro e w6 ⟨v6, rfl, ho, hb⟩; obtain ⟨A6, c6, rfl⟩ := Kd.R_slice ho; have V6 := Aside0.mk ho; have Oa_6 := Aside0.mk (Kd.R_below (Kd.R_alloc O5.out (.cells #[.int .i64 8] 3)) hb); have B6 := Aside0.mk ((B5.out.alloc B5.out.size (.cells #[.int .i64 8] 3)).trans (hb.mono (Nat.le_trans B5.out.size (by simp)))); clear ho hb)
    | ((with_reducible refine gate_builtin (b := .append) (xs := #[.tmp 9, .tmp 11]) rfl ?_); at_builtin; have q_ := B4; clear q_; refine Kd.R_append_rows (Kd.int .i64) (w0 := w) w.heap.size rfl (.tmp 9) (.tmp 11) 35 3 (.int .i64 0) 8 rfl Try.underlying35 info3 rfl (by decide) (by omega) _ (fixA) (List.replicate 24 7) _ _ _ (fun _ => True) (fun _ => False) rfl rfl ?aO ?aR (fun _ _ h => h) (fun _ h => h.elim) (fun _ _ => trivial) ?aB ?aS ?aL ?_; (case aO => exact Oa_4.out); (case aR => exact (Kd.R_reads' V4.out).2.2); (case aB => exact B4.out); (case aS => exact B4.out.size); (case aL => decide); intro v5 w5 ho hb hg hat; rw [fixB_eq] at ho; obtain ⟨A5, c5, rfl⟩ := Kd.R_slice ho; have O5 := Aside0.mk ho; have B5 := Aside0.mk hb; clear ho hb hg hat)
    | (go_at_call 50; have q_ := B3; clear q_; refine (slices_Repeat_int_int.calls (some ⟨w3.heap.size, 0, none⟩) 1 [7] 24 (List.replicate 24 7) _ (lit_row64 w3 7) (by decide) rfl).mono ?_; rintro e w4 ⟨v4, rfl, ho, hb⟩; obtain ⟨A4, c4, rfl⟩ := Kd.R_slice ho; have V4 := Aside0.mk ho; have Oa_4 := Aside0.mk (Kd.R_below (Kd.R_alloc O3.out (.cells #[.int .i64 7] 3)) hb); have B4 := Aside0.mk ((B3.out.alloc B3.out.size (.cells #[.int .i64 7] 3)).trans (hb.mono (Nat.le_trans B3.out.size (by simp)))); clear ho hb)
    | ((with_reducible refine gate_builtin (b := .append) (xs := #[.tmp 5, .tmp 7]) rfl ?_); at_builtin; have q_ := B2; clear q_; refine Kd.R_append_rows (Kd.int .i64) (w0 := w) w.heap.size rfl (.tmp 5) (.tmp 7) 35 3 (.int .i64 0) 8 rfl Try.underlying35 info3 rfl (by decide) (by omega) _ (List.replicate 144 8) (List.replicate 112 9) _ _ _ (fun _ => True) (fun _ => False) rfl rfl ?aO ?aR (fun _ _ h => h) (fun _ h => h.elim) (fun _ _ => trivial) ?aB ?aS ?aL ?_; (case aO => exact Oa_2.out); (case aR => exact (Kd.R_reads' V2.out).2.2); (case aB => exact B2.out); (case aS => exact B2.out.size); (case aL => decide); intro v3 w3 ho hb hg hat; rw [fixA_eq] at ho; obtain ⟨A3, c3, rfl⟩ := Kd.R_slice ho; have O3 := Aside0.mk ho; have B3 := Aside0.mk hb; clear ho hb hg hat)
    | (go_at_call 50; have q_ := B1; clear q_; refine (slices_Repeat_int_int.calls (some ⟨w1.heap.size, 0, none⟩) 1 [9] 112 (List.replicate 112 9) _ (lit_row64 w1 9) (by decide) rfl).mono ?_; rintro e w2 ⟨v2, rfl, ho, hb⟩; obtain ⟨A2, c2, rfl⟩ := Kd.R_slice ho; have V2 := Aside0.mk ho; have Oa_2 := Aside0.mk (Kd.R_below (Kd.R_alloc O1.out (.cells #[.int .i64 9] 3)) hb); have B2 := Aside0.mk ((B1.out.alloc B1.out.size (.cells #[.int .i64 9] 3)).trans (hb.mono (Nat.le_trans B1.out.size (by simp)))); clear ho hb)
    | (go_at_call 50; refine (slices_Repeat_int_int.calls (some ⟨w.heap.size, 0, none⟩) 1 [8] 144 (List.replicate 144 8) _ (lit_row64 w 8) (by decide) rfl).mono ?_; rintro e w1 ⟨v1, rfl, ho, hb⟩; obtain ⟨A1, c1, rfl⟩ := Kd.R_slice ho; have V1 := Aside0.mk ho; have B1 := Aside0.mk (((Below.refl _ w).alloc (Nat.le_refl _) (.cells #[.int .i64 8] 3)).trans (hb.mono (by simp))); clear ho hb; have O1 := Aside0.mk (Kd.R_lower V1.out (show w.heap.size ≤ (w.alloc (.cells #[.int .i64 8] 3)).heap.size by simp))))
  go_ret2
  exact ⟨B10.out, _, _, _, _, _, _, rfl, E8.out, E10.out, K11.out.mono (fun k hk => Nat.le_trans B7.out.size hk), K10.out.mono (fun k hk => Nat.le_trans B9.out.size hk)⟩

/-! ### flate_reader_books: function 44 -/
def ordL : List Nat := [16, 17, 18, 0, 8, 7, 9, 6, 10, 5, 11, 4, 12, 3, 13, 2, 14, 1, 15]
/-- The lengths of the code of lengths, so many read. -/
def smallK (B : List Int) (t : Nat) : Nat → List Int
  | 0 => List.replicate 19 0
  | k + 1 => (smallK B t k).set (ordL.getD k 0) (numAt B (t + 3 * k) 3 : Nat)
theorem smallK_len (B : List Int) (t : Nat) : ∀ k, (smallK B t k).length = 19
  | 0 => by simp [smallK]
  | k + 1 => by rw [smallK, List.length_set]; exact smallK_len B t k
/-- One length, or several, and on. -/
def lensStep (B : List Int) (C : List Nat) (S : List Int) (ab : Nat) (K : Nat → List Int → Except Int (Nat × List Int)) (t : Nat) (L : List Int) : Except Int (Nat × List Int) :=
  if L.length < ab then
    match signL B C S t with
    | .error e => .error e
    | .ok (s, t2) =>
      if s = 16 then
        if L.length = 0 then .error 10 else if 8 * B.length < t2 + 2 then .error 11 else K (t2 + 2) (L ++ List.replicate (3 + numAt B t2 2) (L.getD (L.length - 1) 0))
      else if s = 17 then if 8 * B.length < t2 + 3 then .error 11 else K (t2 + 3) (L ++ List.replicate (3 + numAt B t2 3) 0)
      else if s = 18 then if 8 * B.length < t2 + 7 then .error 11 else K (t2 + 7) (L ++ List.replicate (11 + numAt B t2 7) 0)
      else K t2 (L ++ [s])
  else .ok (t, L)
def lensL (B : List Int) (C : List Nat) (S : List Int) (ab : Nat) : Nat → Nat → List Int → Except Int (Nat × List Int)
  | 0 => fun _ _ => .error 99
  | f + 1 => lensStep B C S ab (lensL B C S ab f)
/-- The books of lengths that were read. -/
def pairL (a : Nat) (ab : Nat) (t : Nat) (L : List Int) : Except Int (Nat × (List Nat × List Int) × (List Nat × List Int)) :=
  if ab < L.length ∨ L.getD 256 0 = 0 then .error 10
  else match bookL (L.take a) false false with
    | .error e => .error e
    | .ok b1 => match bookL (L.drop a) true true with
      | .error e => .error e
      | .ok b2 => .ok (t, b1, b2)
def booksG (B : List Int) (a b c t : Nat) : Except Int (Nat × (List Nat × List Int) × (List Nat × List Int)) :=
  if 286 < a ∨ 30 < b then .error 10
  else if 8 * B.length < t + 3 * c then .error 11
  else match bookL (smallK B t c) true false with
    | .error e => .error e
    | .ok k => match lensL B k.1 k.2 (a + b) (8 * B.length + 1) (t + 3 * c) [] with
      | .error e => .error e
      | .ok r => pairL a (a + b) r.1 r.2
/-- The books of a block of kind 2. -/
def booksL (B : List Int) (t : Nat) : Except Int (Nat × (List Nat × List Int) × (List Nat × List Int)) :=
  if 8 * B.length < t + 14 then .error 11 else booksG B (257 + numAt B t 5) (1 + numAt B (t + 5) 5) (4 + numAt B (t + 10) 4) (t + 14)
theorem Rdr.below {w0 : World} {q : Nat} {B : List Int} {t : Nat} {v : Value} {m : Int} {w w' : World} (h : Rdr w0 q B t v m w) (hb : Below w.heap.size w w') : Rdr w0 q B t v m w' := by
  obtain ⟨⟨A, c, hc, hl, hC⟩, h1, h2, h3, h4, h5⟩ := h
  exact ⟨⟨A, c, (hb.block q (blk_lt hc)).trans hc, hl, hC⟩, h1, h2, h3, h4, h5.trans (hb.mono h5.size)⟩
def flate_reader_books.Inv (w0 : World) (q : Nat) (B : List Int) (t : Nat) (v : Value) (m : Int) (c ob : Nat) (w wr : World) (v33 : Value) : Prop :=
  ∃ k : Nat, v33 = .int .i64 k ∧ k ≤ c ∧ Rdr w0 q B (t + 3 * k) v m wr ∧ wr.heap[ob]? = some (.cells (ordL.map (fun n : Nat => Value.int .i64 n)).toArray 77 (0, 0)) ∧ wr.heap[ob + 1]? = some (.cells ((smallK B t k).map (fun n => Value.int .i64 n)).toArray 3 (0, 0)) ∧ KB q w wr
theorem Rdr.far {w0 : World} {q : Nat} {B : List Int} {t : Nat} {v : Value} {m : Int} {w : World} {p : Addr} (h : Rdr w0 q B t v m w) (hp : p.block ≠ q) (h0 : w0.heap.size ≤ p.block) (u : Value) : Rdr w0 q B t v m (w.setCell p u) := by
  obtain ⟨⟨A, c, hb, hc, hC⟩, h1, h2, h3, h4, h5⟩ := h
  exact ⟨⟨A, c, (Below.heap_setCell _ _ _ q (fun e => hp e.symm)).trans hb, hc, hC⟩, h1, h2, h3, h4, h5.setCell h0 _⟩
theorem KB.far {q b : Nat} {w W : World} (h : KB q w W) (hw : w.heap.size ≤ b) (hq : q ≤ b) (o : Nat) (u : Value) : KB q w (W.setCell ⟨b, o, none⟩ u) :=
  ⟨h.1.setCell (p := ⟨b, o, none⟩) (.inr hw) _, h.2.setCell (p := ⟨b, o, none⟩) hq _⟩
theorem KB.below {q : Nat} {w W W' : World} (h : KB q w W) (hb : Below W.heap.size W W') (hq : q ≤ W.heap.size) : KB q w W' := ⟨Kept.then_ h.1 (Kept.of_below hb (fun _ => False)) (fun _ h => h.elim), h.2.trans (hb.mono hq)⟩
theorem C_of_heap {w : World} {g : Nat} {xs : List Int} {T : TypeId} (hb : w.heap[g]? = some (.cells (xs.map (fun n => Value.int .i64 n)).toArray T (0, 0))) (hx : xs.length ≤ 1000 := by first | (rw [smallK_len]; decide) | decide) : Kd.C (Kd.int .i64) w (some ⟨g, 0, none⟩) xs.length xs := by
  refine ⟨rfl, by omega, fun _ => ⟨_, rfl, fun j p hj => ?_⟩⟩
  refine ⟨[.int .i64 p], rfl, rfl, fun i u hu => ?_⟩
  match i, hu with
  | 0, hu =>
    obtain rfl : Value.int .i64 p = u := by simpa using hu
    have : (Addr.add ⟨g, 0, none⟩ (j * (Kd.int .i64).sz + 0)) = ⟨g, j, none⟩ := by rw [show (Kd.int .i64).sz = 1 from rfl, Nat.mul_one, Nat.add_zero, Addr.add_lit, Nat.zero_add]
    rw [this, Lib.cell_of_heap hb]
    simp [hj]
theorem sum_single (f g : Nat → Nat) (p : Nat) (h0 : g p = 0) (hf : ∀ i, i ≠ p → f i = g i) : ∀ n, ((List.range n).map f).sum = ((List.range n).map g).sum + (if p < n then f p else 0)
  | 0 => by simp
  | n + 1 => by
    rw [List.range_succ, List.map_append, List.map_append, List.sum_append, List.sum_append, sum_single f g p h0 hf n]
    simp only [List.map_cons, List.map_nil, List.sum_cons, List.sum_nil]
    by_cases h : n = p
    · subst h; rw [h0]; simp
    · rw [hf n h]
      by_cases h2 : p < n
      · rw [if_pos h2, if_pos (by omega)]; omega
      · rw [if_neg h2, if_neg (by omega)]; omega
theorem cntP_sum (L : List Int) (j x : Nat) (hj : j + 1 < 16) : (cntP L j x).sum = (cntP L j 0).sum + x := by
  have h1 := sum_single (fun i => if i = j + 1 then x else if 1 ≤ i ∧ i ≤ j then (occ L i L.length).length else 0) (fun i => if i = j + 1 then 0 else if 1 ≤ i ∧ i ≤ j then (occ L i L.length).length else 0) (j + 1) (by simp) (fun i hi => by simp [hi]) 16
  rw [if_pos hj] at h1
  simp only [if_true] at h1
  exact h1
theorem cnt_all (L : List Int) : ∀ j, j ≤ 15 → (cntP L j 0).sum = (allS L j).length
  | 0, _ => by
    have : cntP L 0 0 = List.replicate 16 0 := by
      apply List.ext_getElem
      · simp [cntP]
      · intro i h1 h2
        simp only [cntP, List.getElem_map, List.getElem_range, List.getElem_replicate]
        split
        · rfl
        · rw [if_neg (by omega)]
    rw [this]
    simp [allS]
  | j + 1, h => by
    rw [← cntP_next, cntP_sum L j _ (by omega), cnt_all L j (by omega), allS, List.length_append]
theorem allS_nonneg (L : List Int) : ∀ n x, x ∈ allS L n → 0 ≤ x
  | 0, x, h => by cases h
  | n + 1, x, h => by
    rw [allS, List.mem_append] at h
    rcases h with h | h
    · exact allS_nonneg L n x h
    · unfold occ at h
      obtain ⟨i, _, rfl⟩ := List.mem_map.1 h
      omega
theorem bookL_ok {L : List Int} {a b : Bool} {C : List Nat} {S : List Int} (h : bookL L a b = .ok (C, S)) (hl : L.length ≤ 600) : BW C S := by
  unfold bookL at h
  split at h
  · simp only [Except.ok.injEq, Prod.mk.injEq] at h
    obtain ⟨rfl, rfl⟩ := h
    refine ⟨cnt_all L 15 (Nat.le_refl _), by rw [cntP_get _ _ _ _ (by decide)]; simp, ?_, allS_nonneg L 15⟩
    have := allS_len L 15
    omega
  · cases h
theorem ord_lt (k : Nat) : ordL.getD k 0 < 19 := by
  rcases Nat.lt_or_ge k 19 with h | h
  · exact (show ∀ k, k < 19 → ordL.getD k 0 < 19 by decide) k h
  · rw [List.getD_eq_getElem?_getD, List.getElem?_eq_none (by simpa [ordL] using h)]; decide
theorem ord_get (k : Nat) (h : k < 19) : ordL[k]? = some (ordL.getD k 0) := (show ∀ k, k < 19 → ordL[k]? = some (ordL.getD k 0) by decide) k h
theorem rep_f (x : Int) (g : Nat) (hg : g ≤ 1000) : slices_Repeat_int_int.f [x] (g : Int) = some (List.replicate g x) := by
  unfold slices_Repeat_int_int.f
  rw [if_pos ⟨rfl, by omega, by omega⟩, Int.toNat_natCast]
  rfl
/-- The state of the reading of lengths. -/
def LS (w0 : World) (q : Nat) (B : List Int) (v : Value) (m : Int) (w : World) (kb : Nat) (Sb : Nat → Prop) (C : List Nat) (S : List Int) (we tt : Nat) (vl : Value) (L : List Int) (W : World) : Prop :=
  Rdr w0 q B tt v m W ∧ Kd.R (Kd.int .i64) 3 W 0 (fun k => we ≤ k) vl L ∧ Bk kb Sb C S W ∧ KB q w W ∧ we ≤ W.heap.size ∧ w.heap.size ≤ we
theorem LS.kb {w0 : World} {q : Nat} {B : List Int} {v : Value} {m : Int} {w : World} {kb : Nat} {Sb : Nat → Prop} {C : List Nat} {S : List Int} {we tt t' : Nat} {vl : Value} {L : List Int} {W W' : World} (h : LS w0 q B v m w kb Sb C S we tt vl L W) (k : KB q W W') (r : Rdr w0 q B t' v m W') (hq : ¬ Sb q) (hqe : q < we) : LS w0 q B v m w kb Sb C S we t' vl L W' :=
  ⟨r, Kd.R_step h.2.1 (fun j hj hl => k.1.2 j hl (by omega)), h.2.2.1.KB hq k, h.2.2.2.1.trans k, Nat.le_trans h.2.2.2.2.1 k.1.1, h.2.2.2.2.2⟩
theorem LS.row {w0 : World} {q : Nat} {B : List Int} {v : Value} {m : Int} {w : World} {kb : Nat} {Sb : Nat → Prop} {C : List Nat} {S : List Int} {we tt : Nat} {vl : Value} {L : List Int} {W w9 : World} {o : Obj} (h : LS w0 q B v m w kb Sb C S we tt vl L W) (b : Below (W.alloc o).heap.size (W.alloc o) w9) : Kd.R (Kd.int .i64) 3 w9 0 (fun k => we ≤ k) vl L := Kd.R_below (Kd.R_alloc h.2.1 o) b
theorem LS.fresh {w0 : World} {q : Nat} {B : List Int} {v : Value} {m : Int} {w : World} {kb : Nat} {Sb : Nat → Prop} {C : List Nat} {S : List Int} {we tt : Nat} {vl : Value} {L : List Int} {W w9 : World} {o : Obj} (h : LS w0 q B v m w kb Sb C S we tt vl L W) (b : Below (W.alloc o).heap.size (W.alloc o) w9) : ∀ k, w9.heap.size ≤ k → we ≤ k := fun k hk => by
  have h1 := b.size
  have h2 := h.2.2.2.2.1
  have h3 : (W.alloc o).heap.size = W.heap.size + 1 := by simp
  omega
theorem LS.zero {w0 : World} {q : Nat} {B : List Int} {v : Value} {m : Int} {w : World} {kb : Nat} {Sb : Nat → Prop} {C : List Nat} {S : List Int} {we tt : Nat} {vl : Value} {L : List Int} {W w9 : World} {o : Obj} (h : LS w0 q B v m w kb Sb C S we tt vl L W) (b : Below (W.alloc o).heap.size (W.alloc o) w9) : Below 0 w w9 :=
  ((h.2.2.2.1.2.mono (Nat.zero_le _)).alloc (Nat.zero_le _) o).trans (b.mono (Nat.zero_le _))
theorem LS.next {w0 : World} {q : Nat} {B : List Int} {v : Value} {m : Int} {w : World} {kb : Nat} {Sb : Nat → Prop} {C : List Nat} {S : List Int} {we tt : Nat} {vl v10 : Value} {L L' : List Int} {W w9 w10 : World} {o : Obj} (h : LS w0 q B v m w kb Sb C S we tt vl L W) (b : Below (W.alloc o).heap.size (W.alloc o) w9) (hg : w9.grownBy w10 vl.ownBlock) (ho : Kd.R (Kd.int .i64) 3 w10 0 (fun k => we ≤ k) v10 L') (hq : ¬ Sb q) (hqe : q < we) (hsb : ∀ k, Sb k → k < we) : LS w0 q B v m w kb Sb C S we tt v10 L' w10 := by
  have h1 := b.size
  have h3 : (W.alloc o).heap.size = W.heap.size + 1 := by simp
  have hw := h.2.2.2.2.1
  have hown : ∀ k, vl.ownBlock = some k → we ≤ k := h.2.1.1
  have r9 := (h.1.alloc o).below b
  have hsz : w9.heap.size ≤ w10.heap.size := (Kept.of_grown hg (Kept.refl w9 (fun _ => True)) (fun _ _ => .inl trivial)).1
  have kept : ∀ k, k < we → k ≠ q ∨ True → w10.heap[k]? = w9.heap[k]? := fun k hk _ => hg.block k (by omega) (fun e => by have := hown k e.symm; omega)
  refine ⟨?_, ho, ?_, ⟨?_, ?_⟩, by omega, h.2.2.2.2.2⟩
  · obtain ⟨⟨A, c, hc, hl, hC⟩, a1, a2, a3, a4, a5⟩ := r9
    exact ⟨⟨A, c, (kept q hqe (.inr trivial)).trans hc, hl, hC⟩, a1, a2, a3, a4, a5.grown hg a5.size (fun k e => by have := hown k e; have := a4; omega)⟩
  · exact (((h.2.2.1.alloc o).kept (fun k _ hl => b.block k hl))).kept (fun k hk _ => kept k (hsb k hk) (.inr trivial))
  · have k1 := Kept.then_ (Kept.alloc h.2.2.2.1.1 o) (Kept.of_below b (fun _ => False)) (fun _ h => h.elim)
    exact Kept.of_grown hg k1 (fun k e => .inr (by have := hown k e; have := h.2.2.2.2.2; omega))
  · have hqW : q ≤ W.heap.size := by omega
    have b1 := (h.2.2.2.1.2.alloc hqW o).trans (b.mono (by omega))
    exact b1.grown hg (by omega) (fun k e => by have := hown k e; omega)
def flate_reader_books.Inv2 (w0 : World) (q : Nat) (B : List Int) (v : Value) (m : Int) (w : World) (kb : Nat) (Sb : Nat → Prop) (C : List Nat) (S : List Int) (we ab t0 : Nat) (wr : World) (v11 : Value) : Prop :=
  ∃ (f tt : Nat) (L : List Int) (vl : Value), v11 = vl ∧ 8 * B.length - tt < f ∧ lensL B C S ab f tt L = lensL B C S ab (8 * B.length + 1) t0 [] ∧ LS w0 q B v m w kb Sb C S we tt vl L wr ∧ L.length ≤ ab + 140
theorem lens_end (B : List Int) (C : List Nat) (S : List Int) (ab f t : Nat) (L : List Int) (h : ¬ L.length < ab) : lensL B C S ab (f + 1) t L = .ok (t, L) := if_neg h
theorem lens_err {B : List Int} {C : List Nat} {S : List Int} {t : Nat} {e : Int} (ab f : Nat) (L : List Int) (h : L.length < ab) (hs : signL B C S t = .error e) : lensL B C S ab (f + 1) t L = .error e := by
  show lensStep B C S ab _ t L = _
  unfold lensStep
  rw [if_pos h, hs]
theorem lens_ok {B : List Int} {C : List Nat} {S : List Int} {t t2 s : Nat} (ab f : Nat) (L : List Int) (h : L.length < ab) (hs : signL B C S t = .ok ((s : Int), t2)) : lensL B C S ab (f + 1) t L =
    (if (s : Int) = 16 then if L.length = 0 then .error 10 else if 8 * B.length < t2 + 2 then .error 11 else lensL B C S ab f (t2 + 2) (L ++ List.replicate (3 + numAt B t2 2) (L.getD (L.length - 1) 0))
      else if (s : Int) = 17 then if 8 * B.length < t2 + 3 then .error 11 else lensL B C S ab f (t2 + 3) (L ++ List.replicate (3 + numAt B t2 3) 0)
      else if (s : Int) = 18 then if 8 * B.length < t2 + 7 then .error 11 else lensL B C S ab f (t2 + 7) (L ++ List.replicate (11 + numAt B t2 7) 0)
      else lensL B C S ab f t2 (L ++ [(s : Int)])) := by
  show lensStep B C S ab _ t L = _
  unfold lensStep
  rw [if_pos h, hs]
theorem rd_row {w : World} {ad : Addr} {n c : Nat} {b : Nat} {ok : Nat → Prop} {L : List Int} (h : Kd.R (Kd.int .i64) 3 w b ok (.slice (some ad) n c) L) (ix : Nat) (hi : ix < L.length) : w.cell? (ad.add ix) = some (.int .i64 (rd L (ix : Int))) := by
  obtain ⟨hn, _, hC⟩ := Kd.R_reads' h
  obtain ⟨ad', hA, hx⟩ := Kd.at_int hC (ix : Int) (by omega) (by omega)
  cases hA
  rw [Int.toNat_natCast] at hx
  exact hx
theorem Bk.bound {kb : Nat} {S : Nat → Prop} {cnt : List Nat} {sg : List Int} {w : World} (h : Bk kb S cnt sg w) : Bk kb (fun k => S k ∧ k < w.heap.size) cnt sg w := by
  obtain ⟨v, hb, hS, hl, hR⟩ := h
  exact ⟨v, hb, ⟨hS, blk_lt hb⟩, hl, Kd.R_mono (Kd.R_bound hR) (fun k hk => ⟨hk.1, hk.2.2.1⟩)⟩
def ordX : Array Value := #[Value.int .i64 16, Value.int .i64 17, Value.int .i64 18, Value.int .i64 0, Value.int .i64 8, Value.int .i64 7, Value.int .i64 9, Value.int .i64 6, Value.int .i64 10, Value.int .i64 5, Value.int .i64 11, Value.int .i64 4, Value.int .i64 12, Value.int .i64 3, Value.int .i64 13, Value.int .i64 2, Value.int .i64 14, Value.int .i64 1, Value.int .i64 15]
def zer19 : Array Value := (List.replicate 19 (Value.int .i64 0)).toArray
theorem zer19_eq (B : List Int) (t : Nat) : ((smallK B t 0).map (fun n => Value.int .i64 n)).toArray = zer19 := by simp [smallK, zer19]
theorem ordX_eq : (ordL.map (fun n : Nat => Value.int .i64 n)).toArray = ordX := rfl
section
attribute [-simp] Try.isAgg77 Try.sizeOf77
attribute [-go_sem] storeCells
set_option maxRecDepth 100000 in
set_option maxHeartbeats 32000000 in
theorem flate_reader_books.any (w0 : World) (q : Nat) (B : List Int) (t : Nat) (v : Value) (m : Int) (w : World) (h : Rdr w0 q B t v m w) :
    Calls Try.prog 44 #[.pointer (some ⟨q, 0, none⟩)] w fun e w' =>
      KB q w w' ∧ ((∃ k1 k2 t' b1 b2, booksL B t = .ok (t', b1, b2) ∧ e = .returned (.tuple #[.pointer (some ⟨k1, 0, none⟩), .pointer (some ⟨k2, 0, none⟩)]) ∧ Bk k1 (fun k => w.heap.size ≤ k) b1.1 b1.2 w' ∧ Bk k2 (fun k => w.heap.size ≤ k) b2.1 b2.2 w' ∧ Rdr w0 q B t' v m w') ∨ (∃ x, booksL B t = .error x ∧ e = .panicked (faultV x))) := by
  have H := Aside0.mk h
  have ht : t ≤ 8 * B.length := h.2.2.2.1
  obtain ⟨t1, e1⟩ : ∃ t1, t + 5 = t1 := ⟨_, rfl⟩
  obtain ⟨t2, e2⟩ : ∃ t2, t1 + 5 = t2 := ⟨_, rfl⟩
  obtain ⟨t3, e3⟩ : ∃ t3, t2 + 4 = t3 := ⟨_, rfl⟩
  obtain ⟨n1, f1⟩ : ∃ n1, numAt B t 5 = n1 := ⟨_, rfl⟩
  obtain ⟨n2, f2⟩ : ∃ n2, numAt B t1 5 = n2 := ⟨_, rfl⟩
  obtain ⟨n3, f3⟩ : ∃ n3, numAt B t2 4 = n3 := ⟨_, rfl⟩
  have hb := Aside0.mk (show booksL B t = if 8 * B.length < t3 then .error 11 else booksG B (257 + n1) (1 + n2) (4 + n3) t3 by
    unfold booksL; rw [e1, show t + 10 = t2 by omega, show t + 14 = t3 by omega, f1, f2, f3])
  have g1 : (n1 : Int) < 32 := by have := numAt_lt B t 5; omega
  have g2 : (n2 : Int) < 32 := by have := numAt_lt B t1 5; omega
  have g3 : (n3 : Int) < 16 := by have := numAt_lt B t2 4; omega
  have HE1 := Aside0.mk e1
  have HE2 := Aside0.mk e2
  have HE3 := Aside0.mk e3
  have HN1 := Aside0.mk f1
  have HN2 := Aside0.mk f2
  have HN3 := Aside0.mk f3
  clear h ht e1 e2 e3 f1 f2 f3
  obtain ⟨a, ha⟩ : ∃ a, 257 + n1 = a := ⟨_, rfl⟩
  obtain ⟨b, hb2⟩ : ∃ b, 1 + n2 = b := ⟨_, rfl⟩
  obtain ⟨c, hc⟩ : ∃ c, 4 + n3 = c := ⟨_, rfl⟩
  rw [ha, hb2, hc] at hb
  have a1 : 257 + (n1 : Int) = (a : Int) := by omega
  have b1 : 1 + (n2 : Int) = (b : Int) := by omega
  have c1 : 4 + (n3 : Int) = (c : Int) := by omega
  have HAB := Aside0.mk (show 257 ≤ a ∧ a < 289 ∧ 1 ≤ b ∧ b < 33 ∧ 4 ≤ c ∧ c ≤ 19 by omega)
  clear ha hb2 hc
  by_cases ha : 286 < (a : Int)
  · have HG := Aside0.mk (show booksG B a b c t3 = .error 10 from if_pos (.inl (by omega)))
    go_enter Try.func44, Try.ntmps44
    go_wp2_with (first
      | (go_at_call 40; have q_ := K2; clear q_; refine (flate_reader_bits.any w0 q B t2 v m 4 4 rfl _ R2.out (by decide)).mono ?_; rintro e w3 ⟨hB3, ⟨g3, rfl, hr3⟩ | ⟨g3, rfl⟩⟩; have K3 := Aside0.mk (K2.out.trans hB3); have R3 := Aside0.mk (show Rdr w0 q B t3 v m w3 from HE3.out ▸ hr3); clear hB3 hr3; rw [HN3.out])
      | (go_at_call 40; have q_ := K1; clear q_; refine (flate_reader_bits.any w0 q B t1 v m 5 5 rfl _ R1.out (by decide)).mono ?_; rintro e w2 ⟨hB2, ⟨g2, rfl, hr2⟩ | ⟨g2, rfl⟩⟩; have K2 := Aside0.mk (K1.out.trans hB2); have R2 := Aside0.mk (show Rdr w0 q B t2 v m w2 from HE2.out ▸ hr2); clear hB2 hr2; rw [HN2.out])
      | (go_at_call 40; refine (flate_reader_bits.any w0 q B t v m 5 5 rfl _ H.out (by decide)).mono ?_; rintro e w1 ⟨hB1, ⟨g1, rfl, hr1⟩ | ⟨g1, rfl⟩⟩; have K1 := Aside0.mk hB1; have R1 := Aside0.mk (show Rdr w0 q B t1 v m w1 from HE1.out ▸ hr1); clear hB1 hr1; rw [HN1.out]))
    · exact ⟨rfl, K3.out, .inr ⟨10, hb.out.trans ((if_neg (by have := R3.out.2.2.2.1; omega)).trans HG.out), rfl⟩⟩
    · exact ⟨rfl, K2.out.trans hB3, .inr ⟨11, hb.out.trans (if_pos (by have := HE3.out; omega)), rfl⟩⟩
    · exact ⟨rfl, K1.out.trans hB2, .inr ⟨11, hb.out.trans (if_pos (by have := HE3.out; have := HE2.out; omega)), rfl⟩⟩
    · exact ⟨rfl, hB1, .inr ⟨11, hb.out.trans (if_pos (by have := HE3.out; have := HE2.out; have := HE1.out; omega)), rfl⟩⟩
  · by_cases hb30 : 30 < (b : Int)
    · have HG := Aside0.mk (show booksG B a b c t3 = .error 10 from if_pos (.inr (by omega)))
      go_enter Try.func44, Try.ntmps44
      go_wp2_with (first
        | (go_at_call 40; have q_ := K2; clear q_; refine (flate_reader_bits.any w0 q B t2 v m 4 4 rfl _ R2.out (by decide)).mono ?_; rintro e w3 ⟨hB3, ⟨g3, rfl, hr3⟩ | ⟨g3, rfl⟩⟩; have K3 := Aside0.mk (K2.out.trans hB3); have R3 := Aside0.mk (show Rdr w0 q B t3 v m w3 from HE3.out ▸ hr3); clear hB3 hr3; rw [HN3.out])
        | (go_at_call 40; have q_ := K1; clear q_; refine (flate_reader_bits.any w0 q B t1 v m 5 5 rfl _ R1.out (by decide)).mono ?_; rintro e w2 ⟨hB2, ⟨g2, rfl, hr2⟩ | ⟨g2, rfl⟩⟩; have K2 := Aside0.mk (K1.out.trans hB2); have R2 := Aside0.mk (show Rdr w0 q B t2 v m w2 from HE2.out ▸ hr2); clear hB2 hr2; rw [HN2.out])
        | (go_at_call 40; refine (flate_reader_bits.any w0 q B t v m 5 5 rfl _ H.out (by decide)).mono ?_; rintro e w1 ⟨hB1, ⟨g1, rfl, hr1⟩ | ⟨g1, rfl⟩⟩; have K1 := Aside0.mk hB1; have R1 := Aside0.mk (show Rdr w0 q B t1 v m w1 from HE1.out ▸ hr1); clear hB1 hr1; rw [HN1.out]))
      · exact ⟨rfl, K3.out, .inr ⟨10, hb.out.trans ((if_neg (by have := R3.out.2.2.2.1; omega)).trans HG.out), rfl⟩⟩
      · exact ⟨rfl, K2.out.trans hB3, .inr ⟨11, hb.out.trans (if_pos (by have := HE3.out; omega)), rfl⟩⟩
      · exact ⟨rfl, K1.out.trans hB2, .inr ⟨11, hb.out.trans (if_pos (by have := HE3.out; have := HE2.out; omega)), rfl⟩⟩
      · exact ⟨rfl, hB1, .inr ⟨11, hb.out.trans (if_pos (by have := HE3.out; have := HE2.out; have := HE1.out; omega)), rfl⟩⟩
    · have HG := Aside0.mk (show booksG B a b c t3 = if 8 * B.length < t3 + 3 * c then .error 11 else match bookL (smallK B t3 c) true false with
        | .error e => .error e
        | .ok k => match lensL B k.1 k.2 (a + b) (8 * B.length + 1) (t3 + 3 * c) [] with
          | .error e => .error e
          | .ok r => pairL a (a + b) r.1 r.2 from if_neg (by omega))
      have hmk : ∀ W, (Instr.makeSlice 35 (.int .i64 19) (.int .i64 19)).run Try.prog W = .ok (.slice (some ⟨W.heap.size, 0, none⟩) 19 19) (W.alloc (.cells zer19 3)) := fun W => by
        obtain ⟨i0, hi, hz0, hz1, hz2⟩ := info_parts info3
        have := run_make (P := Try.prog) (w := W) 35 3 i0 (.int .i64 0) Try.underlying35 hi hz0 .i64 .i64 19 19 (by omega) (by omega) (by rw [hz2]; decide) (by omega)
        rw [hz1, show madeCells (Value.int .i64 0).cells ((19 : Int).toNat * 1) = zer19 by kernel_rfl] at this
        exact this
      go_enter Try.func44, Try.ntmps44
      go_wp2_with (first
        | (go_at_call 40; have q_ := K2; clear q_; refine (flate_reader_bits.any w0 q B t2 v m 4 4 rfl _ R2.out (by decide)).mono ?_; rintro e w3 ⟨hB3, ⟨g3, rfl, hr3⟩ | ⟨g3, rfl⟩⟩; have K3 := Aside0.mk (K2.out.trans hB3); have R3 := Aside0.mk (show Rdr w0 q B t3 v m w3 from HE3.out ▸ hr3); clear hB3 hr3; rw [HN3.out])
        | (go_at_call 40; have q_ := K1; clear q_; refine (flate_reader_bits.any w0 q B t1 v m 5 5 rfl _ R1.out (by decide)).mono ?_; rintro e w2 ⟨hB2, ⟨g2, rfl, hr2⟩ | ⟨g2, rfl⟩⟩; have K2 := Aside0.mk (K1.out.trans hB2); have R2 := Aside0.mk (show Rdr w0 q B t2 v m w2 from HE2.out ▸ hr2); clear hB2 hr2; rw [HN2.out])
        | (go_at_call 40; refine (flate_reader_bits.any w0 q B t v m 5 5 rfl _ H.out (by decide)).mono ?_; rintro e w1 ⟨hB1, ⟨g1, rfl, hr1⟩ | ⟨g1, rfl⟩⟩; have K1 := Aside0.mk hB1; have R1 := Aside0.mk (show Rdr w0 q B t1 v m w1 from HE1.out ▸ hr1); clear hB1 hr1; rw [HN1.out]))
      rotate_left
      · exact ⟨rfl, K2.out.trans hB3, .inr ⟨11, hb.out.trans (if_pos (by have := HE3.out; omega)), rfl⟩⟩
      · exact ⟨rfl, K1.out.trans hB2, .inr ⟨11, hb.out.trans (if_pos (by have := HE3.out; have := HE2.out; omega)), rfl⟩⟩
      · exact ⟨rfl, hB1, .inr ⟨11, hb.out.trans (if_pos (by have := HE3.out; have := HE2.out; have := HE1.out; omega)), rfl⟩⟩
      have hst : ∀ zs : Array Value, zs.size = 19 → Sem.run Try.prog (storeCells ⟨w3.heap.size, 0, none⟩ [Value.int .i64 16, Value.int .i64 17, Value.int .i64 18, Value.int .i64 0, Value.int .i64 8, Value.int .i64 7, Value.int .i64 9, Value.int .i64 6, Value.int .i64 10, Value.int .i64 5, Value.int .i64 11, Value.int .i64 4, Value.int .i64 12, Value.int .i64 3, Value.int .i64 13, Value.int .i64 2, Value.int .i64 14, Value.int .i64 1, Value.int .i64 15]) (w3.alloc (.cells zs 77)) = .ok () (w3.alloc (.cells ordX 77)) := fun zs hz => run_storeCells_new (P := Try.prog) w3 77 zs ordX (by rfl) (by rw [hz]; rfl) (by simp [ordX, Value.oneCell'])
      simp only [Try.sizeOf77, Result.andThen, ↓reduceIte]
      rw [hst _ rfl]
      simp only [Result.andThen]
      rw [Oper.upon_skip]
      clear hst
      go_wp2
      obtain ⟨W5, hW5⟩ : ∃ W5, W5 = (w3.alloc (.cells ordX 77)).alloc (.cells zer19 3) := ⟨_, rfl⟩
      have hz3 : (w3.alloc (.cells ordX 77)).heap.size = w3.heap.size + 1 := by simp
      have hb5 : Below w3.heap.size w3 W5 := by rw [hW5]; exact ((Below.refl _ w3).alloc (Nat.le_refl _) _).alloc (by simp) _
      have hO : W5.heap[w3.heap.size]? = some (.cells (ordL.map (fun n : Nat => Value.int .i64 n)).toArray 77 (0, 0)) := by rw [hW5, Lib.alloc_old _ _ _ (by simp), ordX_eq]; exact heap_alloc_new w3 _
      have hM : W5.heap[w3.heap.size + 1]? = some (.cells ((smallK B t3 0).map (fun n => Value.int .i64 n)).toArray 3 (0, 0)) := by rw [hW5, ← hz3, zer19_eq]; exact heap_alloc_new _ _
      have ST := Aside0.mk (show Below w3.heap.size w3 W5 ∧ W5.heap[w3.heap.size]? = some (.cells (ordL.map (fun n : Nat => Value.int .i64 n)).toArray 77 (0, 0)) ∧ W5.heap[w3.heap.size + 1]? = some (.cells ((smallK B t3 0).map (fun n => Value.int .i64 n)).toArray 3 (0, 0)) from ⟨hb5, hO, hM⟩)
      rw [← hW5]
      clear hz3 hb5 hO hM hW5 hmk
      have KW := Aside0.mk (show KB q w W5 from ⟨Kept.then_ K3.out.1 (Kept.of_below ST.out.1 (fun _ => False)) (fun _ h => h.elim), K3.out.2.trans (ST.out.1.mono (Nat.le_of_lt (blk_lt R3.out.1.choose_spec.choose_spec.1)))⟩)
      have RW := Aside0.mk (R3.out.below ST.out.1)
      have QL := Aside0.mk (blk_lt R3.out.1.choose_spec.choose_spec.1)
      obtain ⟨ob, hob⟩ : ∃ ob, w3.heap.size = ob := ⟨_, rfl⟩
      rw [hob] at ST QL ⊢
      have OW := Aside0.mk (show w.heap.size ≤ ob by rw [← hob]; exact K3.out.1.1)
      clear hob K1 K2 K3 R1 R2 R3
      go_loopw [33] (fun v33 wr => Aside0 (flate_reader_books.Inv w0 q B t3 v m c ob w wr v33)) (fun v33 _ => c - (intOf v33).toNat)
      case atStart => exact ⟨0, rfl, Nat.zero_le _, RW.out, ST.out.2.1, ST.out.2.2, KW.out⟩
      case round =>
        obtain ⟨k, rfl, hk, hr, hO, hM, hKB⟩ := hrel.out
        clear hrel ST KW RW
        have HR := Aside0.mk hr
        have HO := Aside0.mk hO
        have HM := Aside0.mk hM
        have HKB := Aside0.mk hKB
        by_cases hlt : (k : Int) < c
        · obtain ⟨o, ho⟩ : ∃ o, ordL.getD k 0 = o := ⟨_, rfl⟩
          have hk19 : k < 19 := by have := HAB.out; omega
          have ho19 : o < 19 := by rw [← ho]; exact ord_lt k
          obtain ⟨tk, htk⟩ : ∃ tk, t3 + 3 * k = tk := ⟨_, rfl⟩
          rw [htk] at HR
          have p1 : wr.cell? ⟨ob, k, none⟩ = some (.int .i64 (o : Int)) := by
            rw [Lib.cell_of_heap hO, ← ho]
            simp only [List.getElem?_toArray, List.getElem?_map, ord_get k hk19, Option.map_some]
          have hse : (smallK B t3 k).length = 19 := smallK_len B t3 k
          have p2 : ∃ u, wr.cell? ⟨ob + 1, o, none⟩ = some u := by
            rw [Lib.cell_of_heap hM]
            exact ⟨_, by simp [List.getElem?_eq_getElem (show o < (smallK B t3 k).length by omega)]; rfl⟩
          obtain ⟨u, p2⟩ := p2
          have z2 : wr.frozen? ⟨ob + 1, o, none⟩ = false := Lib.frozen_of_heap hM o
          have hi1 : (k : Int) < 19 := by omega
          have hi2 : (o : Int) < 19 := by omega
          obtain ⟨nk, hnk⟩ : ∃ nk, numAt B tk 3 = nk := ⟨_, rfl⟩
          have HNK := Aside0.mk hnk
          have HTK := Aside0.mk htk
          have HOO := Aside0.mk ho
          have OL := Aside0.mk (blk_lt hO)
          have ML := Aside0.mk (blk_lt hM)
          have QN := Aside0.mk (show ob ≠ q ∧ ob + 1 ≠ q from ⟨by have := QL.out; omega, by have := QL.out; omega⟩)
          have hsc : ∀ (ad : Addr) (x : Value) (W : World), Sem.run Try.prog (storeCells ad [x]) W = Sem.run Try.prog (store ad x) W := fun ad x W => by simp [storeCells, go_sem]
          clear hr hO hM hk ho htk hse hnk hk19 ho19
          go_wp2
          go_region_with ((go_at_call 40; refine (flate_reader_bits.any w0 q B tk v m 3 3 rfl _ HR.out.drew (by decide)).mono ?_; rintro e w5 ⟨hB5, ⟨g5, rfl, hr5⟩ | ⟨g5, rfl⟩⟩; rotate_left; (exact ⟨rfl, HKB.out.trans ((KB.drewN q wr 1).trans hB5), .inr ⟨11, hb.out.trans ((if_neg (by have := HTK.out; have := HR.out.2.2.2.1; omega)).trans (HG.out.trans (if_pos (by have := HTK.out; have := hlt; omega)))), rfl⟩⟩); have hO5 := (hB5.1.2 ob OL.out QN.out.1).trans HO.out; have hM5 := (hB5.1.2 (ob + 1) ML.out QN.out.2).trans HM.out; have r1 : w5.cell? ⟨ob, k, none⟩ = some (.int .i64 (o : Int)) := (by rw [Lib.cell_of_heap hO5, ← Lib.cell_of_heap HO.out]; exact p1); have r2 : w5.cell? ⟨ob + 1, o, none⟩ = some u := (by rw [Lib.cell_of_heap hM5, ← Lib.cell_of_heap HM.out]; exact p2); have y2 : w5.frozen? ⟨ob + 1, o, none⟩ = false := Lib.frozen_of_heap hM5 o; rw [HNK.out]; have KB5 := Aside0.mk hB5; have RR5 := Aside0.mk hr5; have OO5 := Aside0.mk hO5; have MM5 := Aside0.mk hM5; clear hB5 hr5 hO5 hM5 g5))
          all_goals
            have OB0 : w0.heap.size ≤ ob + 1 := by have := HR.out.2.2.2.2.1; have := QL.out; omega
            go_wp2
            go_roundw
            case rel =>
              have r6 := RR5.out.far (p := ⟨ob + 1, o, none⟩) QN.out.2 OB0 (.int .i64 (nk : Int))
              have e6 : tk + 3 = t3 + 3 * (k + 1) := by have := HTK.out; omega
              rw [e6] at r6
              refine ⟨k + 1, by push_cast; rfl, by omega, r6, (Below.heap_setCell _ _ _ ob (by simp)).trans OO5.out, ?_, (HKB.out.trans ((KB.drewN q wr 1).trans KB5.out)).far (by have := OW.out; omega) (by have := QL.out; omega) _ _⟩
              rw [smallK, HOO.out, HTK.out, HNK.out]
              simp only [World.setCell, Array.getElem?_modify, MM5.out]
              simp [List.map_set]
            case measure => simp [intOf]; omega
        · obtain rfl : k = c := by omega
          have OL := Aside0.mk (blk_lt hO)
          have hC6 := Aside0.mk (C_of_heap hM)
          have HLS := Aside0.mk (smallK_len B t3 k)
          have hsl := smallK_len B t3 k
          obtain ⟨sk, hsk⟩ : ∃ sk, smallK B t3 k = sk := ⟨_, rfl⟩
          rw [hsk] at hC6 HLS
          have HSK := Aside0.mk hsk
          have HGG := Aside0.mk (show booksL B t = match bookL sk true false with
            | .error e => .error e
            | .ok kk => match lensL B kk.1 kk.2 (a + b) (8 * B.length + 1) (t3 + 3 * k) [] with
              | .error e => .error e
              | .ok r => pairL a (a + b) r.1 r.2 by
            rw [hb.out, if_neg (by have := HR.out.2.2.2.1; omega), HG.out, if_neg (by have := HR.out.2.2.2.1; omega), hsk])
          clear hr hO hM hsk hsl HO HM hb HG
          have hnb := flate_newBook.any (some ⟨ob + 1, 0, none⟩) 19 sk true false wr hC6.out (by have := HLS.out; omega)
          rw [HLS.out] at hnb
          have HNB := Aside0.mk hnb
          clear hnb
          go_wp2_with (first
            | (go_at_call 51; have q_ := HNB; clear q_; refine HNB.out.mono ?_; rintro e w6 ⟨hB6, ⟨C, S, hk6, rfl, hbk⟩ | ⟨x6, hx6, rfl⟩⟩; have q6 := Aside0.mk hk6; clear HNB))
          rotate_left
          · exact ⟨rfl, HKB.out.below hB6 (by have := QL.out; have := OL.out; omega), .inr ⟨x6, HGG.out.trans (by rw [hx6]), rfl⟩⟩
          obtain ⟨kb, hkb⟩ : ∃ kb, wr.heap.size = kb := ⟨_, rfl⟩
          obtain ⟨we, hwe⟩ : ∃ we, w6.heap.size = we := ⟨_, rfl⟩
          have HBW := Aside0.mk (bookL_ok hk6 (by have := HLS.out; omega))
          have hbk2 := hbk.bound
          rw [hkb, hwe] at hbk2
          rw [hkb]
          have SZ := Aside0.mk (show ob < kb ∧ kb ≤ we ∧ q < ob ∧ w.heap.size ≤ ob from ⟨by rw [← hkb]; exact OL.out, by rw [← hkb, ← hwe]; exact hB6.size, QL.out, OW.out⟩)
          obtain ⟨Sb, hSb⟩ : ∃ Sb : Nat → Prop, Sb = fun k => kb ≤ k ∧ k < we := ⟨_, rfl⟩
          have HSQ := Aside0.mk (show ¬ Sb q ∧ q < we from ⟨by rw [hSb]; intro h; have := SZ.out; have := h.1; omega, by have := SZ.out; omega⟩)
          have HSB := Aside0.mk (show ∀ k, Sb k → k < we from fun k h => by rw [hSb] at h; exact h.2)
          rw [← hSb] at hbk2
          obtain ⟨t0, ht0⟩ : ∃ t0, t3 + 3 * k = t0 := ⟨_, rfl⟩
          rw [ht0] at HR
          have ST6 := Aside0.mk (show LS w0 q B v m w kb Sb C S we t0 (.slice none 0 0) [] w6 from ⟨HR.out.below hB6, Kd.R_nil _ _ _ _ _, hbk2, HKB.out.below hB6 (by have := QL.out; have := OL.out; omega), by omega, by have := SZ.out; omega⟩)
          obtain ⟨ab, hab⟩ : ∃ ab, a + b = ab := ⟨_, rfl⟩
          have HAB2 := Aside0.mk (show ab ≤ 330 by have := HAB.out; omega)
          have hab1 : (a : Int) + (b : Int) = (ab : Int) := by omega
          have HG2 := Aside0.mk (show booksL B t = match lensL B C S ab (8 * B.length + 1) t0 [] with
              | .error e => .error e
              | .ok r => pairL a ab r.1 r.2 by rw [HGG.out, q6.out, ht0, hab])
          clear hkb hwe hbk hbk2 hSb ht0 hab hk6 hB6 HGG HKB HR OL QL OW q6 hC6 HLS HSK
          go_loopw [11] (fun v11 wr => Aside0 (flate_reader_books.Inv2 w0 q B v m w kb Sb C S we ab t0 wr v11)) (fun _ wr => 8 * B.length - atOf wr q)
          case atStart => exact ⟨8 * B.length + 1, t0, [], _, rfl, by omega, rfl, ST6.out, by simp⟩
          case round =>
            obtain ⟨f, tt, L, vl, rfl, hf, hgo, hls, hll⟩ := hrel.out
            clear hrel ST6
            obtain ⟨f, rfl⟩ : ∃ f2, f = f2 + 1 := ⟨f - 1, by omega⟩
            have HFF := Aside0.mk (show 8 * B.length - tt < f + 1 from hf)
            obtain ⟨A2, c2, rfl⟩ := Kd.R_slice hls.2.1
            have HL := Aside0.mk hls
            have HLB := Aside0.mk (show L.length ≤ 480 by have := HAB2.out; omega)
            have HAT := Aside0.mk hls.1.atOf
            clear hls hf hll
            by_cases hlt : (L.length : Int) < (ab : Int)
            · have hltN := Aside0.mk (show L.length < ab by omega)
              cases hsg : signL B C S tt with
              | error x3 =>
                rw [lens_err ab f L hltN.out hsg] at hgo
                have HSG := Aside0.mk hsg
                have HGO := Aside0.mk hgo
                clear hsg hgo
                go_wp2_with (first
                | (go_at_call 48; refine (flate_reader_sign.any w0 q B tt v m kb Sb C S wr HL.out.1 HL.out.2.2.1 HSQ.out.1 HBW.out.1 HBW.out.2.1 HBW.out.2.2.1).mono ?_; rintro e w7 ⟨hB7, ⟨s7, t7, hs7, rfl, hr7⟩ | ⟨x7, hs7, rfl⟩⟩; (exact absurd (HSG.out.symm.trans hs7) (by simp))))
                obtain rfl := Except.error.inj (HSG.out.symm.trans hs7)
                exact ⟨rfl, HL.out.2.2.2.1.trans hB7, .inr ⟨_, HG2.out.trans (by rw [← HGO.out]), rfl⟩⟩
              | ok r =>
                obtain ⟨s', t2⟩ := r
                obtain ⟨hs0, ht2, ht2b⟩ := signL_ok HBW.out.2.2.2 hsg
                obtain ⟨s, rfl⟩ : ∃ s : Nat, s' = s := ⟨s'.toNat, by omega⟩
                rw [lens_ok ab f L hltN.out hsg] at hgo
                have HSG := Aside0.mk hsg
                have HT2 := Aside0.mk (show tt < t2 ∧ t2 ≤ 8 * B.length from ⟨ht2, ht2b⟩)
                clear hsg ht2 ht2b hs0
                by_cases h16 : (s : Int) = 16
                · rw [if_pos h16] at hgo
                  by_cases hl0 : (L.length : Int) = 0
                  · rw [if_pos (by omega)] at hgo
                    have HGO := Aside0.mk hgo
                    clear hgo
                    go_wp2_with (first
                | (go_at_call 48; refine (flate_reader_sign.any w0 q B tt v m kb Sb C S wr HL.out.1 HL.out.2.2.1 HSQ.out.1 HBW.out.1 HBW.out.2.1 HBW.out.2.2.1).mono ?_; rintro e w7 ⟨hB7, ⟨s7, t7, hs7, rfl, hr7⟩ | ⟨x7, hs7, rfl⟩⟩; rotate_left; (exact absurd (HSG.out.symm.trans hs7) (by simp)); have hs4 := HSG.out.symm.trans hs7; simp only [Except.ok.injEq, Prod.mk.injEq] at hs4; obtain ⟨rfl, rfl⟩ := hs4; have L7 := Aside0.mk (HL.out.kb hB7 hr7 HSQ.out.1 HSQ.out.2); have q7 := Aside0.mk hB7; clear hB7 hr7 hs7))
                    exact ⟨rfl, L7.out.2.2.2.1, .inr ⟨_, HG2.out.trans (by rw [← HGO.out]), rfl⟩⟩
                  · rw [if_neg (by omega)] at hgo
                    obtain ⟨nn, hnn⟩ : ∃ nn, numAt B t2 2 = nn := ⟨_, rfl⟩
                    obtain ⟨g, hg⟩ : ∃ g, 3 + nn = g := ⟨_, rfl⟩
                    have hnb := numAt_lt B t2 2
                    obtain ⟨ix, hix⟩ : ∃ ix, L.length - 1 = ix := ⟨_, rfl⟩
                    obtain ⟨x, hx⟩ : ∃ x, L.getD ix 0 = x := ⟨_, rfl⟩
                    rw [hnn] at hgo hnb
                    rw [hg, hix, hx] at hgo
                    have hg1 : 3 + (nn : Int) = (g : Int) := by omega
                    have hix1 : (L.length : Int) - 1 = (ix : Int) := by omega
                    have hix2 : (ix : Int) < (L.length : Int) := by omega
                    have G1 : (nn : Int) < 4 := by omega
                    have HGO := Aside0.mk hgo
                    have HNN := Aside0.mk hnn
                    have HGB := Aside0.mk (show g ≤ 1000 by omega)
                    have HGC := Aside0.mk (show g ≤ 140 by omega)
                    have hrd : rd L (ix : Int) = x := by unfold rd; rw [Int.toNat_natCast]; exact hx
                    obtain ⟨_, _, hC0⟩ := Kd.R_reads' HL.out.2.1
                    obtain ⟨ad, hA, _⟩ := Kd.at_int hC0 (ix : Int) (by omega) hix2
                    subst hA
                    have hwi : IntKind.i64.wrap (ix : Int) = (ix : Int) := by rw [IntKind.wrap_i64]; have := HLB.out; omega
                    have HRD := Aside0.mk hrd
                    have HIX := Aside0.mk (show ix < L.length by omega)
                    clear hgo hnn hg hnb hx hix hC0 hrd
                    go_wp2_with (first
                | (go_at_call 48; refine (flate_reader_sign.any w0 q B tt v m kb Sb C S wr HL.out.1 HL.out.2.2.1 HSQ.out.1 HBW.out.1 HBW.out.2.1 HBW.out.2.2.1).mono ?_; rintro e w7 ⟨hB7, ⟨s7, t7, hs7, rfl, hr7⟩ | ⟨x7, hs7, rfl⟩⟩; rotate_left; (exact absurd (HSG.out.symm.trans hs7) (by simp)); have hs4 := HSG.out.symm.trans hs7; simp only [Except.ok.injEq, Prod.mk.injEq] at hs4; obtain ⟨rfl, rfl⟩ := hs4; have L7 := Aside0.mk (HL.out.kb hB7 hr7 HSQ.out.1 HSQ.out.2); have q7 := Aside0.mk hB7; clear hB7 hr7 hs7; have hx7 := rd_row L7.out.2.1 ix HIX.out; rw [HRD.out] at hx7))
                    go_region_with ((go_at_call 40; refine (flate_reader_bits.any w0 q B t2 v m 2 2 rfl _ L7.out.1.drew (by decide)).mono ?_; rintro e w8 ⟨hB8, ⟨g8, rfl, hr8⟩ | ⟨g8, rfl⟩⟩; rotate_left; (exact ⟨rfl, L7.out.2.2.2.1.trans ((KB.drewN q w7 1).trans hB8), .inr ⟨_, HG2.out.trans (by have hgo := HGO.out; rw [if_pos (by omega)] at hgo; rw [← hgo]), rfl⟩⟩); have L8 := Aside0.mk (L7.out.kb ((KB.drewN q w7 1).trans hB8) hr8 HSQ.out.1 HSQ.out.2); have hx8 := rd_row L8.out.2.1 ix HIX.out; rw [HRD.out] at hx8; rw [HNN.out]; have q8 := Aside0.mk g8; clear hB8 hr8 g8))
                    all_goals
                      go_wp2_with (first
                      | ((with_reducible refine gate_builtin (b := .append) (xs := #[.tmp 88, .tmp 92]) rfl ?_); at_builtin; have q_ := B9; clear q_; obtain ⟨A9, c9, rfl⟩ := Kd.R_slice V9.out; refine Kd.R_append_rows (Kd.int .i64) (w0 := w) 0 rfl (.tmp 88) (.tmp 92) 35 3 (.int .i64 0) 8 rfl Try.underlying35 info3 rfl (by decide) (by omega) (.slice (some ad) L.length c2) L (List.replicate g x) _ _ _ (fun k => we ≤ k) (fun _ => False) rfl rfl ?aO ?aR (fun _ _ h => h) (fun _ h => h.elim) ?aF ?aB (Nat.zero_le _) ?aL ?_; (case aO => exact L8.out.row B9.out); (case aR => exact (Kd.R_reads' V9.out).2.2); (case aF => exact L8.out.fresh B9.out); (case aB => exact L8.out.zero B9.out); (case aL => have := HLB.out; have := HGB.out; rw [List.length_replicate]; omega); intro v10 w10 ho hb hg hat; have O10 := Aside0.mk ho; have L10 := Aside0.mk (L8.out.next B9.out hg ho HSQ.out.1 HSQ.out.2 HSB.out); clear ho hb hg hat)
                      | (go_at_call 50; have q_ := q8; clear q_; refine (slices_Repeat_int_int.calls (some ⟨w8.heap.size, 0, none⟩) 1 [x] g (List.replicate g x) _ (lit_row64 w8 x) (Nat.le_refl 1) (rep_f x g HGB.out)).mono ?_; rintro e w9 ⟨v9, rfl, ho, hb⟩; have V9 := Aside0.mk ho; have B9 := Aside0.mk hb; clear ho hb))
                      have hgo := HGO.out
                      rw [if_neg (by have := q8.out; omega)] at hgo
                      go_roundw
                      case rel => exact ⟨f, t2 + 2, L ++ List.replicate g x, v10, rfl, by have := HFF.out; have := HT2.out; omega, hgo, L10.out, by rw [List.length_append, List.length_replicate]; have := HGC.out; have := hltN.out; omega⟩
                      case measure => rw [L10.out.1.atOf, HAT.out]; have := HT2.out; have := L10.out.1.2.2.2.1; omega
                · rw [if_neg h16] at hgo
                  by_cases h17 : (s : Int) = 17
                  · rw [if_pos h17] at hgo
                    obtain ⟨nn, hnn⟩ : ∃ nn, numAt B t2 3 = nn := ⟨_, rfl⟩
                    obtain ⟨g, hg⟩ : ∃ g, 3 + nn = g := ⟨_, rfl⟩
                    have hnb := numAt_lt B t2 3
                    rw [hnn] at hgo hnb
                    rw [hg] at hgo
                    have hg1 : 3 + (nn : Int) = (g : Int) := by omega
                    have G1 : (nn : Int) < 8 := by omega
                    have HGO := Aside0.mk hgo
                    have HNN := Aside0.mk hnn
                    have HGB := Aside0.mk (show g ≤ 1000 by omega)
                    have HGC := Aside0.mk (show g ≤ 140 by omega)
                    clear hgo hnn hg hnb
                    go_wp2_with (first
                | ((with_reducible refine gate_builtin (b := .append) (xs := #[.tmp 88, .tmp 92]) rfl ?_); at_builtin; have q_ := B9; clear q_; obtain ⟨A9, c9, rfl⟩ := Kd.R_slice V9.out; refine Kd.R_append_rows (Kd.int .i64) (w0 := w) 0 rfl (.tmp 88) (.tmp 92) 35 3 (.int .i64 0) 8 rfl Try.underlying35 info3 rfl (by decide) (by omega) (.slice A2 L.length c2) L (List.replicate g 0) _ _ _ (fun k => we ≤ k) (fun _ => False) rfl rfl ?aO ?aR (fun _ _ h => h) (fun _ h => h.elim) ?aF ?aB (Nat.zero_le _) ?aL ?_; (case aO => exact L8.out.row B9.out); (case aR => exact (Kd.R_reads' V9.out).2.2); (case aF => exact L8.out.fresh B9.out); (case aB => exact L8.out.zero B9.out); (case aL => have := HLB.out; have := HGB.out; rw [List.length_replicate]; omega); intro v10 w10 ho hb hg hat; have O10 := Aside0.mk ho; have L10 := Aside0.mk (L8.out.next B9.out hg ho HSQ.out.1 HSQ.out.2 HSB.out); clear ho hb hg hat)
                | (go_at_call 50; have q_ := q8; clear q_; refine (slices_Repeat_int_int.calls (some ⟨w8.heap.size, 0, none⟩) 1 [0] g (List.replicate g 0) _ (lit_row64 w8 0) (Nat.le_refl 1) (rep_f 0 g HGB.out)).mono ?_; rintro e w9 ⟨v9, rfl, ho, hb⟩; have V9 := Aside0.mk ho; have B9 := Aside0.mk hb; clear ho hb)
                | (go_at_call 40; have q_ := q7; clear q_; refine (flate_reader_bits.any w0 q B t2 v m 3 3 rfl _ L7.out.1 (by decide)).mono ?_; rintro e w8 ⟨hB8, ⟨g8, rfl, hr8⟩ | ⟨g8, rfl⟩⟩; have L8 := Aside0.mk (L7.out.kb hB8 hr8 HSQ.out.1 HSQ.out.2); have q8 := Aside0.mk hB8; rw [HNN.out]; clear hB8 hr8)
                | (go_at_call 48; refine (flate_reader_sign.any w0 q B tt v m kb Sb C S wr HL.out.1 HL.out.2.2.1 HSQ.out.1 HBW.out.1 HBW.out.2.1 HBW.out.2.2.1).mono ?_; rintro e w7 ⟨hB7, ⟨s7, t7, hs7, rfl, hr7⟩ | ⟨x7, hs7, rfl⟩⟩; rotate_left; (exact absurd (HSG.out.symm.trans hs7) (by simp)); have hs4 := HSG.out.symm.trans hs7; simp only [Except.ok.injEq, Prod.mk.injEq] at hs4; obtain ⟨rfl, rfl⟩ := hs4; have L7 := Aside0.mk (HL.out.kb hB7 hr7 HSQ.out.1 HSQ.out.2); have q7 := Aside0.mk hB7; clear hB7 hr7 hs7))
                    · have hgo := HGO.out
                      rw [if_neg (by omega)] at hgo
                      go_roundw
                      case rel => exact ⟨f, t2 + 3, L ++ List.replicate g 0, v10, rfl, by have := HFF.out; have := HT2.out; omega, hgo, L10.out, by rw [List.length_append, List.length_replicate]; have := HGC.out; have := hltN.out; omega⟩
                      case measure => rw [L10.out.1.atOf, HAT.out]; have := HT2.out; have := L10.out.1.2.2.2.1; omega
                    · have hgo := HGO.out
                      rw [if_pos (by omega)] at hgo
                      exact ⟨rfl, L7.out.2.2.2.1.trans hB8, .inr ⟨_, HG2.out.trans (by rw [← hgo]), rfl⟩⟩
                  · rw [if_neg h17] at hgo
                    by_cases h18 : (s : Int) = 18
                    · rw [if_pos h18] at hgo
                      obtain ⟨nn, hnn⟩ : ∃ nn, numAt B t2 7 = nn := ⟨_, rfl⟩
                      obtain ⟨g, hg⟩ : ∃ g, 11 + nn = g := ⟨_, rfl⟩
                      have hnb := numAt_lt B t2 7
                      rw [hnn] at hgo hnb
                      rw [hg] at hgo
                      have hg1 : 11 + (nn : Int) = (g : Int) := by omega
                      have G1 : (nn : Int) < 128 := by omega
                      have HGO := Aside0.mk hgo
                      have HNN := Aside0.mk hnn
                      have HGB := Aside0.mk (show g ≤ 1000 by omega)
                      have HGC := Aside0.mk (show g ≤ 140 by omega)
                      clear hgo hnn hg hnb
                      go_wp2_with (first
                | ((with_reducible refine gate_builtin (b := .append) (xs := #[.tmp 88, .tmp 92]) rfl ?_); at_builtin; have q_ := B9; clear q_; obtain ⟨A9, c9, rfl⟩ := Kd.R_slice V9.out; refine Kd.R_append_rows (Kd.int .i64) (w0 := w) 0 rfl (.tmp 88) (.tmp 92) 35 3 (.int .i64 0) 8 rfl Try.underlying35 info3 rfl (by decide) (by omega) (.slice A2 L.length c2) L (List.replicate g 0) _ _ _ (fun k => we ≤ k) (fun _ => False) rfl rfl ?aO ?aR (fun _ _ h => h) (fun _ h => h.elim) ?aF ?aB (Nat.zero_le _) ?aL ?_; (case aO => exact L8.out.row B9.out); (case aR => exact (Kd.R_reads' V9.out).2.2); (case aF => exact L8.out.fresh B9.out); (case aB => exact L8.out.zero B9.out); (case aL => have := HLB.out; have := HGB.out; rw [List.length_replicate]; omega); intro v10 w10 ho hb hg hat; have O10 := Aside0.mk ho; have L10 := Aside0.mk (L8.out.next B9.out hg ho HSQ.out.1 HSQ.out.2 HSB.out); clear ho hb hg hat)
                | (go_at_call 50; have q_ := q8; clear q_; refine (slices_Repeat_int_int.calls (some ⟨w8.heap.size, 0, none⟩) 1 [0] g (List.replicate g 0) _ (lit_row64 w8 0) (Nat.le_refl 1) (rep_f 0 g HGB.out)).mono ?_; rintro e w9 ⟨v9, rfl, ho, hb⟩; have V9 := Aside0.mk ho; have B9 := Aside0.mk hb; clear ho hb)
                | (go_at_call 40; have q_ := q7; clear q_; refine (flate_reader_bits.any w0 q B t2 v m 7 7 rfl _ L7.out.1 (by decide)).mono ?_; rintro e w8 ⟨hB8, ⟨g8, rfl, hr8⟩ | ⟨g8, rfl⟩⟩; have L8 := Aside0.mk (L7.out.kb hB8 hr8 HSQ.out.1 HSQ.out.2); have q8 := Aside0.mk hB8; rw [HNN.out]; clear hB8 hr8)
                | (go_at_call 48; refine (flate_reader_sign.any w0 q B tt v m kb Sb C S wr HL.out.1 HL.out.2.2.1 HSQ.out.1 HBW.out.1 HBW.out.2.1 HBW.out.2.2.1).mono ?_; rintro e w7 ⟨hB7, ⟨s7, t7, hs7, rfl, hr7⟩ | ⟨x7, hs7, rfl⟩⟩; rotate_left; (exact absurd (HSG.out.symm.trans hs7) (by simp)); have hs4 := HSG.out.symm.trans hs7; simp only [Except.ok.injEq, Prod.mk.injEq] at hs4; obtain ⟨rfl, rfl⟩ := hs4; have L7 := Aside0.mk (HL.out.kb hB7 hr7 HSQ.out.1 HSQ.out.2); have q7 := Aside0.mk hB7; clear hB7 hr7 hs7))
                      · have hgo := HGO.out
                        rw [if_neg (by omega)] at hgo
                        go_roundw
                        case rel => exact ⟨f, t2 + 7, L ++ List.replicate g 0, v10, rfl, by have := HFF.out; have := HT2.out; omega, hgo, L10.out, by rw [List.length_append, List.length_replicate]; have := HGC.out; have := hltN.out; omega⟩
                        case measure => rw [L10.out.1.atOf, HAT.out]; have := HT2.out; have := L10.out.1.2.2.2.1; omega
                      · have hgo := HGO.out
                        rw [if_pos (by omega)] at hgo
                        exact ⟨rfl, L7.out.2.2.2.1.trans hB8, .inr ⟨_, HG2.out.trans (by rw [← hgo]), rfl⟩⟩
                    · rw [if_neg h18] at hgo
                      have HGO := Aside0.mk hgo
                      have HGB := Aside0.mk (show 1 ≤ 1000 by decide)
                      have HGC := Aside0.mk (show 1 ≤ 140 by decide)
                      clear hgo
                      go_wp2_with (first
                | ((with_reducible refine gate_builtin (b := .append) (xs := #[.tmp 88, .tmp 92]) rfl ?_); at_builtin; have q_ := B9; clear q_; obtain ⟨A9, c9, rfl⟩ := Kd.R_slice V9.out; refine Kd.R_append_rows (Kd.int .i64) (w0 := w) 0 rfl (.tmp 88) (.tmp 92) 35 3 (.int .i64 0) 8 rfl Try.underlying35 info3 rfl (by decide) (by omega) (.slice A2 L.length c2) L (List.replicate 1 (s : Int)) _ _ _ (fun k => we ≤ k) (fun _ => False) rfl rfl ?aO ?aR (fun _ _ h => h) (fun _ h => h.elim) ?aF ?aB (Nat.zero_le _) ?aL ?_; (case aO => exact L7.out.row B9.out); (case aR => exact (Kd.R_reads' V9.out).2.2); (case aF => exact L7.out.fresh B9.out); (case aB => exact L7.out.zero B9.out); (case aL => have := HLB.out; have := HGB.out; rw [List.length_replicate]; omega); intro v10 w10 ho hb hg hat; have O10 := Aside0.mk ho; have L10 := Aside0.mk (L7.out.next B9.out hg ho HSQ.out.1 HSQ.out.2 HSB.out); clear ho hb hg hat)
                | (go_at_call 50; have q_ := L7; clear q_; refine (slices_Repeat_int_int.calls (some ⟨w7.heap.size, 0, none⟩) 1 [(s : Int)] 1 (List.replicate 1 (s : Int)) _ (lit_row64 w7 (s : Int)) (Nat.le_refl 1) (rep_f (s : Int) 1 HGB.out)).mono ?_; rintro e w9 ⟨v9, rfl, ho, hb⟩; have V9 := Aside0.mk ho; have B9 := Aside0.mk hb; clear ho hb)
                | (go_at_call 48; refine (flate_reader_sign.any w0 q B tt v m kb Sb C S wr HL.out.1 HL.out.2.2.1 HSQ.out.1 HBW.out.1 HBW.out.2.1 HBW.out.2.2.1).mono ?_; rintro e w7 ⟨hB7, ⟨s7, t7, hs7, rfl, hr7⟩ | ⟨x7, hs7, rfl⟩⟩; rotate_left; (exact absurd (HSG.out.symm.trans hs7) (by simp)); have hs4 := HSG.out.symm.trans hs7; simp only [Except.ok.injEq, Prod.mk.injEq] at hs4; obtain ⟨rfl, rfl⟩ := hs4; have L7 := Aside0.mk (HL.out.kb hB7 hr7 HSQ.out.1 HSQ.out.2); have q7 := Aside0.mk hB7; clear hB7 hr7 hs7))
                      go_roundw
                      case rel => exact ⟨f, t2, L ++ List.replicate 1 (s : Int), v10, rfl, by have := HFF.out; have := HT2.out; omega, HGO.out, L10.out, by rw [List.length_append, List.length_replicate]; have := HGC.out; have := hltN.out; omega⟩
                      case measure => rw [L10.out.1.atOf, HAT.out]; have := HT2.out; have := L10.out.1.2.2.2.1; omega
            · have HEND := Aside0.mk (show booksL B t = pairL a ab tt L by
                rw [HG2.out, ← hgo, lens_end _ _ _ _ _ _ _ (by omega)])
              have hge : (ab : Int) ≤ (L.length : Int) := by omega
              have HGE := Aside0.mk (show ab ≤ L.length by omega)
              have hAB := HAB.out
              have h257 : 257 < L.length := by have := HAB.out; omega
              clear hgo hAB
              obtain ⟨gg, cap, hv, _, _, _⟩ := Kd.R_form HL.out.2.1 (by omega)
              simp only [Value.slice.injEq] at hv
              obtain ⟨rfl, _, rfl⟩ := hv
              obtain ⟨_, hcc, hC0⟩ := Kd.R_reads' HL.out.2.1
              have HCC := Aside0.mk hcc
              have HC0 := Aside0.mk hC0
              obtain ⟨ad, hA, hx⟩ := Kd.at_int hC0 (256 : Int) (by omega) (by omega)
              cases hA
              obtain ⟨x, hxe⟩ : ∃ x, rd L (256 : Int) = x := ⟨_, rfl⟩
              rw [hxe, show (256 : Int).toNat = 256 from rfl, Addr.add_lit, Nat.zero_add] at hx
              have hx2 : L.getD 256 0 = x := hxe
              have h256 : (256 : Int) < (L.length : Int) := by omega
              have HXX := Aside0.mk hx2
              clear hxe hx2 hC0 h257 hcc
              by_cases hbad : (ab : Int) < (L.length : Int)
              · have HPN := Aside0.mk (HEND.out.trans (if_pos (.inl (by omega))))
                go_wp2
                exact ⟨rfl, HL.out.2.2.2.1, .inr ⟨_, HPN.out, rfl⟩⟩
              · by_cases hx0 : x = 0
                · have HPN := Aside0.mk (HEND.out.trans (if_pos (.inr (by rw [HXX.out]; exact hx0))))
                  go_wp2
                  exact ⟨rfl, HL.out.2.2.2.1, .inr ⟨_, HPN.out, rfl⟩⟩
                · have HP := Aside0.mk (show booksL B t = match bookL (L.take a) false false with
                    | .error e => .error e
                    | .ok b1 => match bookL (L.drop a) true true with
                      | .error e => .error e
                      | .ok b2 => .ok (tt, b1, b2) from HEND.out.trans (if_neg (by rintro (h | h); (omega); (exact hx0 (HXX.out ▸ h)))))
                  have hLA : a ≤ L.length := by have := HAB.out; have := HGE.out; omega
                  have htl : (L.take a).length = a := by rw [List.length_take]; omega
                  obtain ⟨d, hd⟩ : ∃ d, L.length - a = d := ⟨_, rfl⟩
                  have hdl : (L.drop a).length = d := by rw [List.length_drop]; exact hd
                  obtain ⟨i0, hi0, _, hsz, _⟩ := info_parts info3
                  have hcut1 := cut_to (P := Try.prog) 35 3 .i64 Try.underlying35 hi0 (some ⟨gg, 0, none⟩) L.length c2 (a : Int) (by omega) (by omega) HCC.out
                  have hcut2 := cut_from (P := Try.prog) 35 3 .i64 Try.underlying35 hi0 1 hsz (some ⟨gg, 0, none⟩) L.length c2 (a : Int) (by omega) (by omega)
                  rw [Int.toNat_natCast] at hcut1 hcut2
                  rw [Nat.mul_one, hd] at hcut2
                  have hT := Kd.C_take (m := a) HC0.out hLA
                  have hD := Kd.C_drop (m := a) (c := c2) HC0.out hLA HCC.out
                  rw [show (Kd.int .i64).sz = 1 from rfl, Nat.mul_one] at hD
                  obtain ⟨A6, hA6⟩ : ∃ A6, (if c2 = a then some (⟨gg, 0, none⟩ : Addr) else (some (⟨gg, 0, none⟩ : Addr)).map (·.add a)) = A6 := ⟨_, rfl⟩
                  rw [hA6] at hD hcut2
                  have HD := Aside0.mk hD
                  have hnb1 := flate_newBook.any (some ⟨gg, 0, none⟩) c2 (L.take a) false false wr.drew (Kd.C_drew hT) (by have := HLB.out; omega)
                  rw [htl] at hnb1
                  have HNB1 := Aside0.mk hnb1
                  have HDL := Aside0.mk hdl
                  have HDD := Aside0.mk (show d ≤ 600 by have := HLB.out; omega)
                  clear hnb1 hT hD hA6 htl hdl hd hi0 hsz hLA
                  go_wp2
                  go_region_with (first
                    | (go_at_call 51; have q_ := HNB1; clear q_; refine HNB1.out.mono ?_; rintro e w8 ⟨hB8, ⟨C8, S8, hk8, rfl, hbk8⟩ | ⟨x8, hx8, rfl⟩⟩; rotate_left; (exact ⟨rfl, (HL.out.2.2.2.1.trans (KB.drewN q wr 1)).below hB8 (by have := HL.out.2.2.2.2.1; have := HSQ.out.2; show q ≤ wr.heap.size; omega), .inr ⟨_, HP.out.trans (by rw [hx8]), rfl⟩⟩); have E8 := Aside0.mk hk8; have K8 := Aside0.mk hbk8; have B8 := Aside0.mk hB8; clear HNB1 hk8 hbk8 hB8)
                    | (go_at_call 51; have q_ := K8; clear q_; have hnb2 := flate_newBook.any A6 (c2 - a) (L.drop a) true true w8 (Kd.C_below (Kd.C_drew HD.out) B8.out) (by rw [HDL.out]; exact HDD.out); rw [HDL.out] at hnb2; refine hnb2.mono ?_; clear hnb2; rintro e w9 ⟨hB9, ⟨C9, S9, hk9, rfl, hbk9⟩ | ⟨x9, hx9, rfl⟩⟩; rotate_left; (exact ⟨rfl, ((HL.out.2.2.2.1.trans (KB.drewN q wr 1)).below B8.out (by have := HL.out.2.2.2.2.1; have := HSQ.out.2; show q ≤ wr.heap.size; omega)).below hB9 (by have h1 := B8.out.size; have h2 : wr.heap.size ≤ w8.heap.size := h1; have := HL.out.2.2.2.2.1; have := HSQ.out.2; omega), .inr ⟨_, HP.out.trans (by rw [E8.out, hx9]), rfl⟩⟩); have E9 := Aside0.mk hk9; have K9 := Aside0.mk hbk9; have B9 := Aside0.mk hB9; clear hk9 hbk9 hB9))
                  all_goals
                    go_wp2
                    go_ret2
                    have s1 : wr.heap.size ≤ w8.heap.size := B8.out.size
                    have s2 := HL.out.2.2.2.2
                    have s3 := HSQ.out.2
                    refine ⟨((HL.out.2.2.2.1.trans (KB.drewN q wr 1)).below B8.out (by show q ≤ wr.heap.size; omega)).below B9.out (by omega), .inl ⟨_, _, tt, (C8, S8), (C9, S9), HP.out.trans (by rw [E8.out, E9.out]), rfl, ?_, ?_, (HL.out.1.drew.below B8.out).below B9.out⟩⟩
                    · exact (K8.out.kept (fun k _ hl => B9.out.block k hl)).mono (fun k hk => by have h3 : wr.heap.size ≤ k := hk; omega)
                    · exact K9.out.mono (fun k hk => by have h3 : w8.heap.size ≤ k := hk; omega)
end

end Go.Proofs.Ytbokeoncpilgpaa.Hp
