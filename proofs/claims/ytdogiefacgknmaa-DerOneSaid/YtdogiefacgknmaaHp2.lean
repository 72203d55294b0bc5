/- Go functions of this seat as Lean functions, and their contracts: what the Go code computes, for every input. (By hp.py, a program of this repo, over the kit's print.py.) -/
import Derived.Test.YtdogiefacgknmaaHp0
import Derived.Test.YtdogiefacgknmaaHp1
namespace Go.Proofs.Ytdogiefacgknmaa.Hp
open Go.RowKit Go.Proofs.YtdogiefacgknmaaW.PrintWords Go.Proofs.YtdogiefacgknmaaW.PrintLast Go.Proofs.YtdogiefacgknmaaW.PrintMore
attribute [local go_sem] max2_int min2_int max_two min_two max_three min_three max_four min_four   -- for this text's walks alone
set_option linter.unusedVariables false
set_option linter.unusedSimpArgs false

/-! ### der_Take: function 10 -/
mutual
def der_Take.j2 : Nat → List Int → Int → Int → Option (Int × List Int × Int × Int)
  | 0, _, _, _ => none
  | k + 1, x0, x5, x6 => if x5 ≥ 1048576 then (some (0, ([] : List Int), 0, 12)) else (if (wrap64 ((x0.length : Int) - x6)) < x5 then (some (0, ([] : List Int), 0, 11)) else (if 0 < (x0.length : Int) then (if 0 ≤ x6 then (if x6 ≤ (wrap64 (x6 + x5)) then (if (wrap64 (x6 + x5)) ≤ (x0.length : Int) then ((bytes_Clone.f ((x0.take ((wrap64 (x6 + x5)) : Int).toNat).drop (x6 : Int).toNat)).bind fun t139 => (some (rd x0 0, t139, wrap64 (x6 + x5), 0))) else (none)) else (none)) else (none)) else (none)))
def der_Take.j0 : Nat → List Int → Int → Bool → Option (Int × List Int × Int × Int)
  | 0, _, _, _ => none
  | k + 1, x0, x7, x34 => if x34 = true then (some (0, ([] : List Int), 0, 10)) else (if (x0.length : Int) < (wrap64 (2 + x7)) then (some (0, ([] : List Int), 0, 11)) else (if 2 ≤ (wrap64 (2 + x7)) then (if (wrap64 (2 + x7)) ≤ (x0.length : Int) then (der_Take.l0 k x0 0 (wrap64 (2 + x7)) ((x0.take ((wrap64 (2 + x7)) : Int).toNat).drop 2) (((x0.take ((wrap64 (2 + x7)) : Int).toNat).drop 2).length : Int) 0) else (none)) else (none)))
def der_Take.l0 : Nat → List Int → Int → Int → List Int → Int → Int → Option (Int × List Int × Int × Int)
  | 0, _, _, _, _, _, _ => none
  | k + 1, x0, x5, x6, x53, x54, x55 => if x55 < x54 then (if 0 ≤ x55 then (if x55 < (x53.length : Int) then (der_Take.l0 k x0 (Go.bits .or .i64 (wrap64 (x5 * 256)) (wrap64 (rd x53 x55))) x6 x53 x54 (wrap64 (x55 + 1))) else (none)) else (none)) else (if 0 < (x0.length : Int) then ((der_head.f (rd x0 0) x5).bind fun t132 => (if 0 ≤ x6 then (if x6 ≤ (x0.length : Int) then ((bytes_Equal.f t132 (x0.take (x6 : Int).toNat)).bind fun t136 => (if t136 = true then (der_Take.j2 k x0 x5 x6) else (some (0, ([] : List Int), 0, 10)))) else (none)) else (none))) else (none))
end
def der_Take.f (k : Nat) (l0 : List Int) : Option (Int × List Int × Int × Int) := if (l0.length : Int) = 0 then (some (0, ([] : List Int), 0, 11)) else (if 0 < (l0.length : Int) then ((der_none.f (rd l0 0)).bind fun t127 => (if t127 = true then (some (0, ([] : List Int), 0, 10)) else (if (l0.length : Int) = 1 then (some (0, ([] : List Int), 0, 11)) else (if 1 < (l0.length : Int) then (if (wrap64 (rd l0 1)) ≥ 128 then (if (wrap64 ((wrap64 (rd l0 1)) - 128)) < 1 then (der_Take.j0 k l0 (wrap64 ((wrap64 (rd l0 1)) - 128)) true) else (der_Take.j0 k l0 (wrap64 ((wrap64 (rd l0 1)) - 128)) (decide ((wrap64 ((wrap64 (rd l0 1)) - 128)) > 3)))) else (der_Take.j2 k l0 (wrap64 (rd l0 1)) 2)) else (none))))) else (none))
theorem der_Take.mono_l : ∀ k, (∀ y0 y1 y2, LeO (der_Take.j2 k y0 y1 y2) (der_Take.j2 (k + 1) y0 y1 y2)) ∧ (∀ y0 y1 y2, LeO (der_Take.j0 k y0 y1 y2) (der_Take.j0 (k + 1) y0 y1 y2)) ∧ (∀ y0 y1 y2 y3 y4 y5, LeO (der_Take.l0 k y0 y1 y2 y3 y4 y5) (der_Take.l0 (k + 1) y0 y1 y2 y3 y4 y5))
  | 0 => ⟨fun _ _ _ r h => by simp [der_Take.j2] at h, fun _ _ _ r h => by simp [der_Take.j0] at h, fun _ _ _ _ _ _ r h => by simp [der_Take.l0] at h⟩
  | k + 1 => by
    obtain ⟨ih0, ih1, ih2⟩ := der_Take.mono_l k
    refine ⟨?_, ?_, ?_⟩
    · intro y0 y1 y2
      unfold der_Take.j2
      repeat' first
      | (with_reducible exact ih0 _ _ _)
      | (with_reducible exact ih1 _ _ _)
      | (with_reducible exact ih2 _ _ _ _ _ _)
      | (with_reducible exact LeO.refl _)
      | (with_reducible exact LeO.none _)
      | (with_reducible refine LeO.ite ?_ ?_)
      | (with_reducible refine LeO.bind ?_ (fun _ => ?_))
      | exact ih0 _ _ _
      | exact ih1 _ _ _
      | exact ih2 _ _ _ _ _ _
      | exact LeO.none _
      | refine LeO.ite ?_ ?_
      | refine LeO.bind ?_ (fun _ => ?_)
    · intro y0 y1 y2
      unfold der_Take.j0
      repeat' first
      | (with_reducible exact ih0 _ _ _)
      | (with_reducible exact ih1 _ _ _)
      | (with_reducible exact ih2 _ _ _ _ _ _)
      | (with_reducible exact LeO.refl _)
      | (with_reducible exact LeO.none _)
      | (with_reducible refine LeO.ite ?_ ?_)
      | (with_reducible refine LeO.bind ?_ (fun _ => ?_))
      | exact ih0 _ _ _
      | exact ih1 _ _ _
      | exact ih2 _ _ _ _ _ _
      | exact LeO.none _
      | refine LeO.ite ?_ ?_
      | refine LeO.bind ?_ (fun _ => ?_)
    · intro y0 y1 y2 y3 y4 y5
      unfold der_Take.l0
      repeat' first
      | (with_reducible exact ih0 _ _ _)
      | (with_reducible exact ih1 _ _ _)
      | (with_reducible exact ih2 _ _ _ _ _ _)
      | (with_reducible exact LeO.refl _)
      | (with_reducible exact LeO.none _)
      | (with_reducible refine LeO.ite ?_ ?_)
      | (with_reducible refine LeO.bind ?_ (fun _ => ?_))
      | exact ih0 _ _ _
      | exact ih1 _ _ _
      | exact ih2 _ _ _ _ _ _
      | exact LeO.none _
      | refine LeO.ite ?_ ?_
      | refine LeO.bind ?_ (fun _ => ?_)
theorem der_Take.mono : ∀ a0 k, LeO (der_Take.f k a0) (der_Take.f (k + 1) a0) := by
  intro a0 k
  obtain ⟨ih0, ih1, ih2⟩ := der_Take.mono_l k
  unfold der_Take.f
  repeat' first
      | (with_reducible exact ih0 _ _ _)
      | (with_reducible exact ih1 _ _ _)
      | (with_reducible exact ih2 _ _ _ _ _ _)
      | (with_reducible exact LeO.refl _)
      | (with_reducible exact LeO.none _)
      | (with_reducible refine LeO.ite ?_ ?_)
      | (with_reducible refine LeO.bind ?_ (fun _ => ?_))
      | exact ih0 _ _ _
      | exact ih1 _ _ _
      | exact ih2 _ _ _ _ _ _
      | exact LeO.none _
      | refine LeO.ite ?_ ?_
      | refine LeO.bind ?_ (fun _ => ?_)
def der_Take.T20 : Bool × List (List Nat × List Nat) := (true, [([], []), ([0], [0]), ([1], [1]), ([], []), ([2, 3], [2, 3]), ([], []), ([], []), ([5, 6], [5, 6]), ([4, 7, 4], [4, 7]), ([8], [8])])
def der_Take.B20 : List Nat := [0, 1, 3, 0, 15, 0, 0, 96, 255, 511]
theorem der_Take.tab20 : rtab .any (opsOf Try.f10 20) = der_Take.T20 := by kernel_rfl
theorem der_Take.bits20 : waitsOk der_Take.T20.2 der_Take.B20 = true := by kernel_rfl
def der_Take.T26 : Bool × List (List Nat × List Nat) := (true, [([], []), ([0], [0]), ([1], [1]), ([], []), ([], []), ([], []), ([], []), ([5, 6], [5, 6]), ([3, 4, 7], [3, 4, 7]), ([8], [8]), ([2, 9], [2, 9]), ([], []), ([], []), ([11, 12], [11, 12]), ([10, 9, 0, 1, 2, 3, 4, 5, 6, 7, 8, 9, 10], [10]), ([13, 14, 0, 1, 2, 3, 4, 5, 6, 7, 8, 9, 10, 11, 12, 13, 14], [13]), ([15, 0, 1, 2, 3, 4, 5, 6, 7, 8, 9, 10, 11, 12, 13, 14, 15], [])])
def der_Take.B26 : List Nat := [0, 1, 3, 0, 0, 0, 0, 96, 248, 504, 1023, 0, 0, 6144, 2047, 32767, 65535]
theorem der_Take.tab26 : rtab .any (opsOf Try.f10 26) = der_Take.T26 := by kernel_rfl
theorem der_Take.bits26 : waitsOk der_Take.T26.2 der_Take.B26 = true := by kernel_rfl
set_option maxHeartbeats 8000000 in
set_option maxRecDepth 100000 in
theorem der_Take.calls (k : Nat) (A0 : Option Addr) (c0 : Nat) (l0 : List Int) (r1 : Int) (r2 : List Int) (r3 : Int) (r4 : Int) (w : World) (hr0 : Kd.C (Kd.int .u8) w A0 l0.length l0) (hc0 : l0.length ≤ c0) (h : der_Take.f k l0 = some (r1, r2, r3, r4)) :
    Calls Try.prog 10 #[.slice A0 l0.length c0] w fun e w' => ∃ v1_ : Value, e = .returned (.tuple #[.agg #[.int .u8 r1, v1_], .int .i64 r3, .int .i64 r4]) ∧ Kd.R (Kd.int .u8) 5 w' w.heap.size (fun _ => True) v1_ r2 ∧ Below w.heap.size w w' := by
  have hu26 := Try.underlying26
  have HR0 := Aside0.mk hr0
  have HC0 := Aside0.mk hc0
  clear hr0 hc0
  have HB := Aside0.mk (Below.refl w.heap.size w)
  have H : (if (l0.length : Int) = 0 then (some (0, ([] : List Int), 0, 11)) else (if 0 < (l0.length : Int) then ((der_none.f (rd l0 0)).bind fun t127 => (if t127 = true then (some (0, ([] : List Int), 0, 10)) else (if (l0.length : Int) = 1 then (some (0, ([] : List Int), 0, 11)) else (if 1 < (l0.length : Int) then (if (wrap64 (rd l0 1)) ≥ 128 then (if (wrap64 ((wrap64 (rd l0 1)) - 128)) < 1 then (der_Take.j0 k l0 (wrap64 ((wrap64 (rd l0 1)) - 128)) true) else (der_Take.j0 k l0 (wrap64 ((wrap64 (rd l0 1)) - 128)) (decide ((wrap64 ((wrap64 (rd l0 1)) - 128)) > 3)))) else (der_Take.j2 k l0 (wrap64 (rd l0 1)) 2)) else (none))))) else (none))) = some (r1, r2, r3, r4) := h
  clear h
  by_cases c2 : (l0.length : Int) = 0
  · rw [if_pos c2] at H
    have c2b0 : ((l0.length : Int) == 0) = true := beq_iff_eq.mpr c2
    have c2b1 : ((l0.length : Int) != 0) = false := bne_eq_false_iff_eq.mpr c2
    clear c2
    simp only [Option.some.injEq, Prod.mk.injEq] at H
    obtain ⟨rfl, rfl, rfl, rfl⟩ := H
    go_enter Try.func10, Try.ntmps10
    go_wp2_with (first | ((with_reducible refine gate_dst (N := 2) rfl ?_); refine box_event ?hg (N := 2) ?hd (cs := #[.int .u8 0, .slice none 0 0]) (t := 26) ?hr ?_; (case hd => rfl); (case hg => rfl); (case hr => first | (go_simp; done) | (go_simp; rfl)); intro gb125 hg w3 hbox hb; have n0_ := Aside0.mk (below_step (by repeat (first | (with_reducible first | exact HB.out | apply below_alloc | apply pw_below_drewN | apply below_drew1) | exact HB.out)) hb); have n1_ := Aside0.mk (hbox); have n2_ := Aside0.mk ((by rw [hg]; exact (below_size (by repeat (first | (with_reducible first | exact HB.out | apply below_alloc | apply pw_below_drewN | apply below_drew1) | exact HB.out))) : w.heap.size ≤ gb125)); have n3_ := Aside0.mk ((by rw [hg]; exact (below_size (by repeat (first | (with_reducible first | exact HB.out | apply below_alloc | apply pw_below_drewN | apply below_drew1) | exact HB.out))) : w.heap.size ≤ gb125)); clear HB; have HB := n0_; have BK125 := n1_; have GW125 := n2_; have GE125 := n3_; clear n0_ n1_ n2_ n3_; clear hb hbox hg; have hcz4_0 : w3.cell? ⟨gb125, 0, none⟩ = some (.int .u8 0) := (blk_cell BK125.out 0).trans rfl; have hcz4_1 : w3.cell? ⟨gb125, 1, none⟩ = some (.slice none 0 0) := (blk_cell BK125.out 1).trans rfl; have hfz4_0 := blk_frozen BK125.out 0; have hfz4_1 := blk_frozen BK125.out 1))
    refine bodyPost_ret (results_ctt rfl _ _ gb125 26 #[.int .u8 0, .slice none 0 0] (0, 0) _ rfl (by (with_reducible repeat (first | refine blk_drewN ?_ _ | refine blk_drew ?_ | refine blk_alloc ?_ _)); refine blk_put (cs := #[.int .u8 0, .slice none 0 0]) ?_ 1 _ rfl; (with_reducible repeat (first | refine blk_drewN ?_ _ | refine blk_drew ?_ | refine blk_alloc ?_ _)); refine blk_put (cs := #[.int .u8 0, .slice none 0 0]) ?_ 0 _ rfl; (with_reducible repeat (first | refine blk_drewN ?_ _ | refine blk_drew ?_ | refine blk_alloc ?_ _)); exact BK125.out) Try.underlying26 rfl (by kernel_rfl)) rfl ?_
    exact ⟨_, by first | rfl | (simp [errW_none, errW_some] <;> rfl) | (simp [*, errW_none, errW_some] <;> rfl), by first | exact Kd.R_nil _ _ _ _ _ | exact Kd.N_nil _ _ _ _ _ | exact Kd.V_nil _ _ _ _ _ | exact Kd.Q_nil _ _ _ _ _ | exact Kd.S_nil _ _ _ _ _, by repeat (first | (with_reducible first | exact HB.out | apply below_alloc | apply pw_below_drewN | apply below_drew1 | refine below_set ?_ GE125.out) | exact HB.out)⟩
  · rw [if_neg c2] at H
    have c2b0 : ((l0.length : Int) == 0) = false := beq_eq_false_iff_ne.mpr c2
    have c2b1 : ((l0.length : Int) != 0) = true := bne_iff_ne.mpr c2
    have c2b2 : ¬ (l0 = []) := fun h_ => c2 (by rw [h_]; rfl)
    by_cases c5 : 0 < (l0.length : Int)
    · rw [if_pos c5] at H
      have c5b0 : decide (0 < (l0.length : Int)) = true := decide_eq_true c5
      have c5b1 : decide (0 < l0.length) = true := decide_eq_true (by omega)
      clear c5
      replace H := Option.bind_eq_some_iff.mp H
      obtain ⟨t127, A60, H⟩ := H
      replace H : (if t127 = true then (some (0, ([] : List Int), 0, 10)) else (if (l0.length : Int) = 1 then (some (0, ([] : List Int), 0, 11)) else (if 1 < (l0.length : Int) then (if (wrap64 (rd l0 1)) ≥ 128 then (if (wrap64 ((wrap64 (rd l0 1)) - 128)) < 1 then (der_Take.j0 k l0 (wrap64 ((wrap64 (rd l0 1)) - 128)) true) else (der_Take.j0 k l0 (wrap64 ((wrap64 (rd l0 1)) - 128)) (decide ((wrap64 ((wrap64 (rd l0 1)) - 128)) > 3)))) else (der_Take.j2 k l0 (wrap64 (rd l0 1)) 2)) else (none)))) = some (r1, r2, r3, r4) := H
      have A6 := Aside0.mk A60
      clear A60
      by_cases c7 : t127 = true
      · subst c7
        have H1 : (some (0, ([] : List Int), 0, 10)) = some (r1, r2, r3, r4) := by rw [if_pos rfl] at H; exact H
        clear H
        have H := H1
        clear H1
        simp only [Option.some.injEq, Prod.mk.injEq] at H
        obtain ⟨rfl, rfl, rfl, rfl⟩ := H
        go_enter Try.func10, Try.ntmps10
        go_wp2_with (first | ((with_reducible refine gate_dst (N := 2) rfl ?_); refine box_event ?hg (N := 2) ?hd (cs := #[.int .u8 0, .slice none 0 0]) (t := 26) ?hr ?_; (case hd => rfl); (case hg => rfl); (case hr => first | (go_simp; done) | (go_simp; rfl)); intro gb125 hg w8 hbox hb; have n0_ := Aside0.mk (below_step (by repeat (first | (with_reducible first | exact HB.out | apply below_alloc | apply pw_below_drewN | apply below_drew1) | exact HB.out)) hb); have n1_ := Aside0.mk (hbox); have n2_ := Aside0.mk ((by rw [hg]; exact (below_size (by repeat (first | (with_reducible first | exact HB.out | apply below_alloc | apply pw_below_drewN | apply below_drew1) | exact HB.out))) : w.heap.size ≤ gb125)); have n3_ := Aside0.mk ((by rw [hg]; exact (below_size (by repeat (first | (with_reducible first | exact HB.out | apply below_alloc | apply pw_below_drewN | apply below_drew1) | exact HB.out))) : w.heap.size ≤ gb125)); clear HB; have HB := n0_; have BK125 := n1_; have GW125 := n2_; have GE125 := n3_; clear n0_ n1_ n2_ n3_; clear hb hbox hg; have p126 : 0 ≤ (0 : Int) := (by omega); have q126 : 0 < (l0.length : Int) := of_decide_eq_true (by first | (with_reducible assumption) | assumption); obtain ⟨ad126, e126, hx126_0⟩ := Kd.at_int HR0.out 0 p126 q126; cases e126; have qi126 : (0 < l0.length) = True := eq_true (by omega); (try rw [show ((0 : Int)).toNat = 0 from rfl] at hx126_0); (try rw [Addr.add_zero'] at hx126_0); replace hx126_0 := (HB.out.cell (World.block_lt_of_cell? w _ hx126_0)).trans hx126_0; replace p126 := eq_true p126; replace q126 := eq_true q126) | ((with_reducible refine gate_callee (f := 11) rfl ?_); refine goesL_ (some 19) rfl rfl Try.func11 (by kernel_rfl) rfl #[.int .u8 (rd l0 0)] rfl (by (try simp only [List.map_toArray, List.map_cons, List.map_nil]); first | done | rfl | (simp only [List.length_drop, List.length_take]; rfl)) ?_; (with_reducible refine (der_none.calls (rd l0 0) true _ A6.out).mono ?_); rintro e w' ⟨rfl, ⟨nd, rfl⟩⟩; refine ⟨_, rfl, ?_⟩; (try (rw [drewN_self w8]; generalize hq_ : World.drewN w8 _ = w8; have n0_ : Aside0 (w8.heap[gb125]? = some (.cells #[.int .u8 0, .slice none 0 0] 26 (0, 0))) := ⟨by rw [← hq_]; exact (by (with_reducible repeat (first | refine blk_drewN ?_ _ | refine blk_drew ?_ | refine blk_alloc ?_ _)); exact BK125.out)⟩; have n1_ : Aside0 (Below w.heap.size w w8) := ⟨by rw [← hq_]; exact (by repeat (first | (with_reducible first | exact HB.out | apply below_alloc | apply pw_below_drewN | apply below_drew1 | refine below_set ?_ GE125.out) | exact HB.out))⟩; clear BK125 HB hq_; have BK125 := n0_; have HB := n1_; clear n0_ n1_)); have hcz9_0 : w8.cell? ⟨gb125, 0, none⟩ = some (.int .u8 0) := (blk_cell BK125.out 0).trans rfl; have hcz9_1 : w8.cell? ⟨gb125, 1, none⟩ = some (.slice none 0 0) := (blk_cell BK125.out 1).trans rfl; have hfz9_0 := blk_frozen BK125.out 0; have hfz9_1 := blk_frozen BK125.out 1))
        refine bodyPost_ret (results_ctt rfl _ _ gb125 26 #[.int .u8 0, .slice none 0 0] (0, 0) _ rfl (by (with_reducible repeat (first | refine blk_drewN ?_ _ | refine blk_drew ?_ | refine blk_alloc ?_ _)); refine blk_put (cs := #[.int .u8 0, .slice none 0 0]) ?_ 1 _ rfl; (with_reducible repeat (first | refine blk_drewN ?_ _ | refine blk_drew ?_ | refine blk_alloc ?_ _)); refine blk_put (cs := #[.int .u8 0, .slice none 0 0]) ?_ 0 _ rfl; (with_reducible repeat (first | refine blk_drewN ?_ _ | refine blk_drew ?_ | refine blk_alloc ?_ _)); exact BK125.out) Try.underlying26 rfl (by kernel_rfl)) rfl ?_
        exact ⟨_, by first | rfl | (simp [errW_none, errW_some] <;> rfl) | (simp [*, errW_none, errW_some] <;> rfl), by first | exact Kd.R_nil _ _ _ _ _ | exact Kd.N_nil _ _ _ _ _ | exact Kd.V_nil _ _ _ _ _ | exact Kd.Q_nil _ _ _ _ _ | exact Kd.S_nil _ _ _ _ _, by repeat (first | (with_reducible first | exact HB.out | apply below_alloc | apply pw_below_drewN | apply below_drew1 | refine below_set ?_ GE125.out) | exact HB.out)⟩
      · replace c7 := Bool.eq_false_iff.mpr c7
        subst c7
        have H1 : (if (l0.length : Int) = 1 then (some (0, ([] : List Int), 0, 11)) else (if 1 < (l0.length : Int) then (if (wrap64 (rd l0 1)) ≥ 128 then (if (wrap64 ((wrap64 (rd l0 1)) - 128)) < 1 then (der_Take.j0 k l0 (wrap64 ((wrap64 (rd l0 1)) - 128)) true) else (der_Take.j0 k l0 (wrap64 ((wrap64 (rd l0 1)) - 128)) (decide ((wrap64 ((wrap64 (rd l0 1)) - 128)) > 3)))) else (der_Take.j2 k l0 (wrap64 (rd l0 1)) 2)) else (none))) = some (r1, r2, r3, r4) := by rw [if_neg (show ¬ (false = true) by decide)] at H; exact H
        clear H
        have H := H1
        clear H1
        by_cases c10 : (l0.length : Int) = 1
        · rw [if_pos c10] at H
          have c10b0 : ((l0.length : Int) == 1) = true := beq_iff_eq.mpr c10
          have c10b1 : ((l0.length : Int) != 1) = false := bne_eq_false_iff_eq.mpr c10
          clear c10
          simp only [Option.some.injEq, Prod.mk.injEq] at H
          obtain ⟨rfl, rfl, rfl, rfl⟩ := H
          go_enter Try.func10, Try.ntmps10
          go_wp2_with (first | ((with_reducible refine gate_dst (N := 2) rfl ?_); refine box_event ?hg (N := 2) ?hd (cs := #[.int .u8 0, .slice none 0 0]) (t := 26) ?hr ?_; (case hd => rfl); (case hg => rfl); (case hr => first | (go_simp; done) | (go_simp; rfl)); intro gb125 hg w11 hbox hb; have n0_ := Aside0.mk (below_step (by repeat (first | (with_reducible first | exact HB.out | apply below_alloc | apply pw_below_drewN | apply below_drew1) | exact HB.out)) hb); have n1_ := Aside0.mk (hbox); have n2_ := Aside0.mk ((by rw [hg]; exact (below_size (by repeat (first | (with_reducible first | exact HB.out | apply below_alloc | apply pw_below_drewN | apply below_drew1) | exact HB.out))) : w.heap.size ≤ gb125)); have n3_ := Aside0.mk ((by rw [hg]; exact (below_size (by repeat (first | (with_reducible first | exact HB.out | apply below_alloc | apply pw_below_drewN | apply below_drew1) | exact HB.out))) : w.heap.size ≤ gb125)); clear HB; have HB := n0_; have BK125 := n1_; have GW125 := n2_; have GE125 := n3_; clear n0_ n1_ n2_ n3_; clear hb hbox hg; have p126 : 0 ≤ (0 : Int) := (by omega); have q126 : 0 < (l0.length : Int) := of_decide_eq_true (by first | (with_reducible assumption) | assumption); obtain ⟨ad126, e126, hx126_0⟩ := Kd.at_int HR0.out 0 p126 q126; cases e126; have qi126 : (0 < l0.length) = True := eq_true (by omega); (try rw [show ((0 : Int)).toNat = 0 from rfl] at hx126_0); (try rw [Addr.add_zero'] at hx126_0); replace hx126_0 := (HB.out.cell (World.block_lt_of_cell? w _ hx126_0)).trans hx126_0; replace p126 := eq_true p126; replace q126 := eq_true q126) | ((with_reducible refine gate_callee (f := 11) rfl ?_); refine goesL_ (some 19) rfl rfl Try.func11 (by kernel_rfl) rfl #[.int .u8 (rd l0 0)] rfl (by (try simp only [List.map_toArray, List.map_cons, List.map_nil]); first | done | rfl | (simp only [List.length_drop, List.length_take]; rfl)) ?_; (with_reducible refine (der_none.calls (rd l0 0) false _ A6.out).mono ?_); rintro e w' ⟨rfl, ⟨nd, rfl⟩⟩; refine ⟨_, rfl, ?_⟩; (try (rw [drewN_self w11]; generalize hq_ : World.drewN w11 _ = w11; have n0_ : Aside0 (w11.heap[gb125]? = some (.cells #[.int .u8 0, .slice none 0 0] 26 (0, 0))) := ⟨by rw [← hq_]; exact (by (with_reducible repeat (first | refine blk_drewN ?_ _ | refine blk_drew ?_ | refine blk_alloc ?_ _)); exact BK125.out)⟩; have n1_ : Aside0 (Below w.heap.size w w11) := ⟨by rw [← hq_]; exact (by repeat (first | (with_reducible first | exact HB.out | apply below_alloc | apply pw_below_drewN | apply below_drew1 | refine below_set ?_ GE125.out) | exact HB.out))⟩; clear BK125 HB hq_; have BK125 := n0_; have HB := n1_; clear n0_ n1_)); have hcz12_0 : w11.cell? ⟨gb125, 0, none⟩ = some (.int .u8 0) := (blk_cell BK125.out 0).trans rfl; have hcz12_1 : w11.cell? ⟨gb125, 1, none⟩ = some (.slice none 0 0) := (blk_cell BK125.out 1).trans rfl; have hfz12_0 := blk_frozen BK125.out 0; have hfz12_1 := blk_frozen BK125.out 1))
          refine bodyPost_ret (results_ctt rfl _ _ gb125 26 #[.int .u8 0, .slice none 0 0] (0, 0) _ rfl (by (with_reducible repeat (first | refine blk_drewN ?_ _ | refine blk_drew ?_ | refine blk_alloc ?_ _)); refine blk_put (cs := #[.int .u8 0, .slice none 0 0]) ?_ 1 _ rfl; (with_reducible repeat (first | refine blk_drewN ?_ _ | refine blk_drew ?_ | refine blk_alloc ?_ _)); refine blk_put (cs := #[.int .u8 0, .slice none 0 0]) ?_ 0 _ rfl; (with_reducible repeat (first | refine blk_drewN ?_ _ | refine blk_drew ?_ | refine blk_alloc ?_ _)); exact BK125.out) Try.underlying26 rfl (by kernel_rfl)) rfl ?_
          exact ⟨_, by first | rfl | (simp [errW_none, errW_some] <;> rfl) | (simp [*, errW_none, errW_some] <;> rfl), by first | exact Kd.R_nil _ _ _ _ _ | exact Kd.N_nil _ _ _ _ _ | exact Kd.V_nil _ _ _ _ _ | exact Kd.Q_nil _ _ _ _ _ | exact Kd.S_nil _ _ _ _ _, by repeat (first | (with_reducible first | exact HB.out | apply below_alloc | apply pw_below_drewN | apply below_drew1 | refine below_set ?_ GE125.out) | exact HB.out)⟩
        · rw [if_neg c10] at H
          have c10b0 : ((l0.length : Int) == 1) = false := beq_eq_false_iff_ne.mpr c10
          have c10b1 : ((l0.length : Int) != 1) = true := bne_iff_ne.mpr c10
          by_cases c13 : 1 < (l0.length : Int)
          · rw [if_pos c13] at H
            have c13b0 : decide (1 < (l0.length : Int)) = true := decide_eq_true c13
            have c13b1 : decide (1 < l0.length) = true := decide_eq_true (by omega)
            clear c13
            have HC14 := Aside0.mk H
            clear H
            go_enter Try.func10, Try.ntmps10
            go_upto_if 31 with (first | ((with_reducible refine gate_dst (N := 2) rfl ?_); refine box_event ?hg (N := 2) ?hd (cs := #[.int .u8 0, .slice none 0 0]) (t := 26) ?hr ?_; (case hd => rfl); (case hg => rfl); (case hr => first | (go_simp; done) | (go_simp; rfl)); intro gb125 hg w15 hbox hb; have n0_ := Aside0.mk (below_step (by repeat (first | (with_reducible first | exact HB.out | apply below_alloc | apply pw_below_drewN | apply below_drew1) | exact HB.out)) hb); have n1_ := Aside0.mk (hbox); have n2_ := Aside0.mk ((by rw [hg]; exact (below_size (by repeat (first | (with_reducible first | exact HB.out | apply below_alloc | apply pw_below_drewN | apply below_drew1) | exact HB.out))) : w.heap.size ≤ gb125)); have n3_ := Aside0.mk ((by rw [hg]; exact (below_size (by repeat (first | (with_reducible first | exact HB.out | apply below_alloc | apply pw_below_drewN | apply below_drew1) | exact HB.out))) : w.heap.size ≤ gb125)); clear HB; have HB := n0_; have BK125 := n1_; have GW125 := n2_; have GE125 := n3_; clear n0_ n1_ n2_ n3_; clear hb hbox hg; have p126 : 0 ≤ (0 : Int) := (by omega); have q126 : 0 < (l0.length : Int) := of_decide_eq_true (by first | (with_reducible assumption) | assumption); obtain ⟨ad126, e126, hx126_0⟩ := Kd.at_int HR0.out 0 p126 q126; cases e126; have qi126 : (0 < l0.length) = True := eq_true (by omega); (try rw [show ((0 : Int)).toNat = 0 from rfl] at hx126_0); (try rw [Addr.add_zero'] at hx126_0); replace hx126_0 := (HB.out.cell (World.block_lt_of_cell? w _ hx126_0)).trans hx126_0; replace p126 := eq_true p126; replace q126 := eq_true q126) | ((with_reducible refine gate_callee (f := 11) rfl ?_); refine goesL_ (some 19) rfl rfl Try.func11 (by kernel_rfl) rfl #[.int .u8 (rd l0 0)] rfl (by (try simp only [List.map_toArray, List.map_cons, List.map_nil]); first | done | rfl | (simp only [List.length_drop, List.length_take]; rfl)) ?_; (with_reducible refine (der_none.calls (rd l0 0) false _ A6.out).mono ?_); rintro e w' ⟨rfl, ⟨nd, rfl⟩⟩; refine ⟨_, rfl, ?_⟩; have p128 : 0 ≤ (1 : Int) := (by omega); have q128 : 1 < (l0.length : Int) := of_decide_eq_true (by first | (with_reducible assumption) | assumption); obtain ⟨ad128, e128, hx128_0⟩ := Kd.at_int HR0.out 1 p128 q128; obtain rfl : ad126 = ad128 := (by injection e128); (try simp only [show (1 : Int).toNat = 1 from rfl, Nat.reduceMul, Nat.reduceEqDiff, Go.Addr.add, ↓reduceIte] at hx128_0); have qi128 : (1 < l0.length) = True := eq_true (by omega); (try rw [show ((1 : Int)).toNat = 1 from rfl] at hx128_0); replace hx128_0 := (HB.out.cell (World.block_lt_of_cell? w _ hx128_0)).trans hx128_0; replace p128 := eq_true p128; replace q128 := eq_true q128))
            (try simp only [Act.put, List.setIfInBounds_toArray, List.set_cons_zero, List.set_cons_succ])
            go_cut [5, 6] (fun v5 v6 wc => ∃ (kq : Nat) (x5_13 : Int) (x6_13 : Int) (x126000_13 : Int), v5 = .int .i64 x5_13 ∧ v6 = .int .i64 x6_13 ∧ Aside0 (der_Take.j2 kq l0 x5_13 x6_13 = some (r1, r2, r3, r4)) ∧ Aside0 (kq ≤ k) ∧ Aside0 (wc.heap[gb125]? = some (.cells #[.int .u8 x126000_13, (.slice none 0 0)] 26 (0, 0))) ∧ Aside0 (Below w.heap.size w wc))
            case first =>
              have H := HC14.out
              clear HC14
              by_cases c16 : (wrap64 (rd l0 1)) ≥ 128
              · rw [if_pos c16] at H
                have c16b0 : decide (128 ≤ (wrap64 (rd l0 1))) = true := decide_eq_true c16
                clear c16
                (first | rw [c16b0] | (simp only [i64_w, i32_w]; rw [c16b0]) | skip)
                have HC17 := Aside0.mk H
                clear H
                go_upto_region 10 with (fail)
                go_cut [34] (fun v34 wc => ∃ (kq : Nat) (x34_16 : Bool), v34 = .bool x34_16 ∧ Aside0 (der_Take.j0 kq l0 (wrap64 ((wrap64 (rd l0 1)) - 128)) x34_16 = some (r1, r2, r3, r4)) ∧ Aside0 (kq ≤ k) ∧ Aside0 (wc.heap[gb125]? = some (.cells #[.int .u8 0, (.slice none 0 0)] 26 (0, 0))) ∧ Aside0 (Below w.heap.size w wc))
                case first =>
                  have H := HC17.out
                  clear HC17
                  by_cases c18 : (wrap64 ((wrap64 (rd l0 1)) - 128)) < 1
                  · rw [if_pos c18] at H
                    have c18b0 : decide ((wrap64 ((wrap64 (rd l0 1)) - 128)) < 1) = true := decide_eq_true c18
                    clear c18
                    (first | rw [c18b0] | (simp only [i64_w, i32_w]; rw [c18b0]) | skip)
                    have H' := Aside0.mk H
                    clear H
                    go_wp2
                    go_meet
                    case rel => exact ⟨_, (true), (by first | rfl | (simp; done) | (simp [*]; done)), H', ⟨by first | omega | exact Nat.le_refl _⟩, ⟨by (with_reducible repeat (first | refine blk_drewN ?_ _ | refine blk_drew ?_ | refine blk_alloc ?_ _)); exact BK125.out⟩, ⟨by repeat (first | (with_reducible first | exact HB.out | apply below_alloc | apply pw_below_drewN | apply below_drew1 | refine below_set ?_ GE125.out) | exact HB.out)⟩⟩
                  · rw [if_neg c18] at H
                    have c18b0 : decide ((wrap64 ((wrap64 (rd l0 1)) - 128)) < 1) = false := decide_eq_false c18
                    clear c18
                    (first | rw [c18b0] | (simp only [i64_w, i32_w]; rw [c18b0]) | skip)
                    have H' := Aside0.mk H
                    clear H
                    go_wp2
                    go_meet
                    case rel => exact ⟨_, (decide ((wrap64 ((wrap64 (rd l0 1)) - 128)) > 3)), (by first | rfl | (simp; done) | (simp [*]; done)), H', ⟨by first | omega | exact Nat.le_refl _⟩, ⟨by (with_reducible repeat (first | refine blk_drewN ?_ _ | refine blk_drew ?_ | refine blk_alloc ?_ _)); exact BK125.out⟩, ⟨by repeat (first | (with_reducible first | exact HB.out | apply below_alloc | apply pw_below_drewN | apply below_drew1 | refine below_set ?_ GE125.out) | exact HB.out)⟩⟩
                case rest =>
                  clear HC17
                  try clear c1
                  try clear p1
                  try clear q1
                  try clear hx1
                  try clear qi1
                  try clear c2
                  try clear c2b0
                  try clear c2b1
                  try clear c2b2
                  try clear p2
                  try clear c5
                  try clear c5b0
                  try clear c5b1
                  try clear p6
                  try clear c7
                  try clear c10
                  try clear c10b0
                  try clear c10b1
                  try clear c11
                  try clear p12
                  try clear q12
                  try clear hx12
                  try clear qi12
                  try clear c13
                  try clear c13b0
                  try clear c13b1
                  try clear c16
                  try clear c16b0
                  try clear c18
                  try clear c18b0
                  try clear hcz12_0
                  try clear hcz12_1
                  try clear hcz4_0
                  try clear hcz4_1
                  try clear hcz9_0
                  try clear hcz9_1
                  try clear hfz12_0
                  try clear hfz12_1
                  try clear hfz4_0
                  try clear hfz4_1
                  try clear hfz9_0
                  try clear hfz9_1
                  try clear hx126_0
                  try clear hx128_0
                  try clear p126
                  try clear p128
                  try clear q126
                  try clear q128
                  obtain ⟨kq, x34_16, rfl, HA, HJ16, BK125, HB⟩ := hcut
                  cases kq with
                  | zero => exact absurd HA.out (by simp [der_Take.j0])
                  | succ kj16 =>
                    have H := HA.out
                    clear HA
                    simp only [der_Take.j0] at H
                    by_cases c19 : x34_16 = true
                    · subst c19
                      have H1 : (some (0, ([] : List Int), 0, 10)) = some (r1, r2, r3, r4) := by rw [if_pos rfl] at H; exact H
                      clear H
                      have H := H1
                      clear H1
                      simp only [Option.some.injEq, Prod.mk.injEq] at H
                      obtain ⟨rfl, rfl, rfl, rfl⟩ := H
                      have hcz20_0 : wc.cell? ⟨gb125, 0, none⟩ = some (.int .u8 0) := (blk_cell BK125.out 0).trans rfl
                      have hcz20_1 : wc.cell? ⟨gb125, 1, none⟩ = some (.slice none 0 0) := (blk_cell BK125.out 1).trans rfl
                      have hfz20_0 := blk_frozen BK125.out 0
                      have hfz20_1 := blk_frozen BK125.out 1
                      go_wp2
                      refine bodyPost_ret (results_ctt rfl _ _ gb125 26 #[.int .u8 0, .slice none 0 0] (0, 0) _ rfl (by (with_reducible repeat (first | refine blk_drewN ?_ _ | refine blk_drew ?_ | refine blk_alloc ?_ _)); refine blk_put (cs := #[.int .u8 0, .slice none 0 0]) ?_ 1 _ rfl; (with_reducible repeat (first | refine blk_drewN ?_ _ | refine blk_drew ?_ | refine blk_alloc ?_ _)); refine blk_put (cs := #[.int .u8 0, .slice none 0 0]) ?_ 0 _ rfl; (with_reducible repeat (first | refine blk_drewN ?_ _ | refine blk_drew ?_ | refine blk_alloc ?_ _)); exact BK125.out) Try.underlying26 rfl (by kernel_rfl)) rfl ?_
                      exact ⟨_, by first | rfl | (simp [errW_none, errW_some] <;> rfl) | (simp [*, errW_none, errW_some] <;> rfl), by first | exact Kd.R_nil _ _ _ _ _ | exact Kd.N_nil _ _ _ _ _ | exact Kd.V_nil _ _ _ _ _ | exact Kd.Q_nil _ _ _ _ _ | exact Kd.S_nil _ _ _ _ _, by repeat (first | (with_reducible first | exact HB.out | apply below_alloc | apply pw_below_drewN | apply below_drew1 | refine below_set ?_ GE125.out) | exact HB.out)⟩
                    · replace c19 := Bool.eq_false_iff.mpr c19
                      subst c19
                      have H1 : (if (l0.length : Int) < (wrap64 (2 + (wrap64 ((wrap64 (rd l0 1)) - 128)))) then (some (0, ([] : List Int), 0, 11)) else (if 2 ≤ (wrap64 (2 + (wrap64 ((wrap64 (rd l0 1)) - 128)))) then (if (wrap64 (2 + (wrap64 ((wrap64 (rd l0 1)) - 128)))) ≤ (l0.length : Int) then (der_Take.l0 kj16 l0 0 (wrap64 (2 + (wrap64 ((wrap64 (rd l0 1)) - 128)))) ((l0.take ((wrap64 (2 + (wrap64 ((wrap64 (rd l0 1)) - 128)))) : Int).toNat).drop 2) (((l0.take ((wrap64 (2 + (wrap64 ((wrap64 (rd l0 1)) - 128)))) : Int).toNat).drop 2).length : Int) 0) else (none)) else (none))) = some (r1, r2, r3, r4) := by rw [if_neg (show ¬ (false = true) by decide)] at H; exact H
                      clear H
                      have H := H1
                      clear H1
                      by_cases c21 : (l0.length : Int) < (wrap64 (2 + (wrap64 ((wrap64 (rd l0 1)) - 128))))
                      · rw [if_pos c21] at H
                        have c21b0 : decide ((l0.length : Int) < (wrap64 (2 + (wrap64 ((wrap64 (rd l0 1)) - 128))))) = true := decide_eq_true c21
                        clear c21
                        simp only [Option.some.injEq, Prod.mk.injEq] at H
                        obtain ⟨rfl, rfl, rfl, rfl⟩ := H
                        have hcz22_0 : wc.cell? ⟨gb125, 0, none⟩ = some (.int .u8 0) := (blk_cell BK125.out 0).trans rfl
                        have hcz22_1 : wc.cell? ⟨gb125, 1, none⟩ = some (.slice none 0 0) := (blk_cell BK125.out 1).trans rfl
                        have hfz22_0 := blk_frozen BK125.out 0
                        have hfz22_1 := blk_frozen BK125.out 1
                        go_wp2
                        refine bodyPost_ret (results_ctt rfl _ _ gb125 26 #[.int .u8 0, .slice none 0 0] (0, 0) _ rfl (by (with_reducible repeat (first | refine blk_drewN ?_ _ | refine blk_drew ?_ | refine blk_alloc ?_ _)); refine blk_put (cs := #[.int .u8 0, .slice none 0 0]) ?_ 1 _ rfl; (with_reducible repeat (first | refine blk_drewN ?_ _ | refine blk_drew ?_ | refine blk_alloc ?_ _)); refine blk_put (cs := #[.int .u8 0, .slice none 0 0]) ?_ 0 _ rfl; (with_reducible repeat (first | refine blk_drewN ?_ _ | refine blk_drew ?_ | refine blk_alloc ?_ _)); exact BK125.out) Try.underlying26 rfl (by kernel_rfl)) rfl ?_
                        exact ⟨_, by first | rfl | (simp [errW_none, errW_some] <;> rfl) | (simp [*, errW_none, errW_some] <;> rfl), by first | exact Kd.R_nil _ _ _ _ _ | exact Kd.N_nil _ _ _ _ _ | exact Kd.V_nil _ _ _ _ _ | exact Kd.Q_nil _ _ _ _ _ | exact Kd.S_nil _ _ _ _ _, by repeat (first | (with_reducible first | exact HB.out | apply below_alloc | apply pw_below_drewN | apply below_drew1 | refine below_set ?_ GE125.out) | exact HB.out)⟩
                      · rw [if_neg c21] at H
                        have c21b0 : decide ((l0.length : Int) < (wrap64 (2 + (wrap64 ((wrap64 (rd l0 1)) - 128))))) = false := decide_eq_false c21
                        clear c21
                        by_cases c23 : 2 ≤ (wrap64 (2 + (wrap64 ((wrap64 (rd l0 1)) - 128))))
                        · rw [if_pos c23] at H
                          have c23b0 := eq_true c23
                          have c23b1 : decide (2 ≤ (wrap64 (2 + (wrap64 ((wrap64 (rd l0 1)) - 128))))) = true := decide_eq_true c23
                          by_cases c24 : (wrap64 (2 + (wrap64 ((wrap64 (rd l0 1)) - 128)))) ≤ (l0.length : Int)
                          · rw [if_pos c24] at H
                            have c24b0 := eq_true c24
                            have c24b1 : decide ((wrap64 (2 + (wrap64 ((wrap64 (rd l0 1)) - 128)))) ≤ (l0.length : Int)) = true := decide_eq_true c24
                            have H' := Aside0.mk H
                            clear H
                            obtain ⟨i025, hi025, _, hsz25, _⟩ := info_parts info5
                            obtain ⟨A25, hcut25, hA25, hC25⟩ := print_mid_of (P := Try.prog) (Value.int .u8) 0 24 5 .i64 .i64 Try.underlying24 hi025 hsz25 (some ad126) c0 l0 2 (wrap64 (2 + (wrap64 ((wrap64 (rd l0 1)) - 128)))) (by omega) (by first | omega | exact of_decide_eq_true (by first | (with_reducible assumption) | assumption)) (of_decide_eq_true (by first | (with_reducible assumption) | assumption)) HC0.out
                            have HR129 := Aside0.mk (Kd.C_of_reads (h1 := fun _ => rfl) (hA25 _ (Kd.reads_of_C HR0.out)))
                            have HC129 := Aside0.mk hC25
                            clear hA25 hC25 hi025 hsz25
                            have HL129 : Aside0 (((l0.take ((wrap64 (2 + (wrap64 ((wrap64 (rd l0 1)) - 128)))) : Int).toNat).drop 2).length = ((wrap64 (2 + (wrap64 ((wrap64 (rd l0 1)) - 128)))).toNat - 2)) := ⟨(by rw [List.length_drop, List.length_take]; have h_ : ((wrap64 (2 + (wrap64 ((wrap64 (rd l0 1)) - 128)))) : Int) ≤ (l0.length : Int) := of_decide_eq_true (by first | (with_reducible assumption) | assumption); omega)⟩
                            go_wp2
                            go_loopg [5, 55] kj16 (fun kq v5 v55 w' => ∃ (x5_2 : Int) (x55_2 : Int), v5 = .int .i64 x5_2 ∧ v55 = .int .i64 x55_2 ∧ Aside0 (der_Take.l0 kq l0 x5_2 (wrap64 (2 + (wrap64 ((wrap64 (rd l0 1)) - 128)))) ((l0.take ((wrap64 (2 + (wrap64 ((wrap64 (rd l0 1)) - 128)))) : Int).toNat).drop 2) (((l0.take ((wrap64 (2 + (wrap64 ((wrap64 (rd l0 1)) - 128)))) : Int).toNat).drop 2).length : Int) x55_2 = some (r1, r2, r3, r4)) ∧ Aside0 (kq ≤ kj16) ∧ Aside0 (w'.heap[gb125]? = some (.cells #[.int .u8 0, (.slice none 0 0)] 26 (0, 0))) ∧ Aside0 (Below w.heap.size w w'))
                            case atStart => exact ⟨(0), (0), (by first | rfl | (simp; done) | (simp [*]; done)), (by first | rfl | (simp; done) | (simp [*]; done)), H', ⟨Nat.le_refl _⟩, ⟨by (with_reducible repeat (first | refine blk_drewN ?_ _ | refine blk_drew ?_ | refine blk_alloc ?_ _)); exact BK125.out⟩, ⟨by repeat (first | (with_reducible first | exact HB.out | apply below_alloc | apply pw_below_drewN | apply below_drew1 | refine below_set ?_ GE125.out) | exact HB.out)⟩⟩
                            case round =>
                              clear H'
                              try clear c1
                              try clear p1
                              try clear q1
                              try clear hx1
                              try clear qi1
                              try clear c2
                              try clear c2b0
                              try clear c2b1
                              try clear c2b2
                              try clear p2
                              try clear c5
                              try clear c5b0
                              try clear c5b1
                              try clear p6
                              try clear c7
                              try clear c10
                              try clear c10b0
                              try clear c10b1
                              try clear c11
                              try clear p12
                              try clear q12
                              try clear hx12
                              try clear qi12
                              try clear c13
                              try clear c13b0
                              try clear c13b1
                              try clear c16
                              try clear c16b0
                              try clear c18
                              try clear c18b0
                              try clear c19
                              try clear c21
                              try clear c21b0
                              try clear c23
                              try clear c23b0
                              try clear c23b1
                              try clear c24
                              try clear c24b0
                              try clear c24b1
                              try clear hcz12_0
                              try clear hcz12_1
                              try clear hcz20_0
                              try clear hcz20_1
                              try clear hcz22_0
                              try clear hcz22_1
                              try clear hcz4_0
                              try clear hcz4_1
                              try clear hcz9_0
                              try clear hcz9_1
                              try clear hfz12_0
                              try clear hfz12_1
                              try clear hfz20_0
                              try clear hfz20_1
                              try clear hfz22_0
                              try clear hfz22_1
                              try clear hfz4_0
                              try clear hfz4_1
                              try clear hfz9_0
                              try clear hfz9_1
                              try clear hx126_0
                              try clear hx128_0
                              try clear p1
                              try clear p12
                              try clear p126
                              try clear p128
                              try clear p2
                              try clear p6
                              try clear q1
                              try clear q12
                              try clear q126
                              try clear q128
                              obtain ⟨x5_2, x55_2, rfl, rfl, HA, HK2, BK125, HB⟩ := hrel
                              cases gk with
                              | zero => exact absurd HA.out (by simp [der_Take.l0])
                              | succ k2 =>
                                have H := HA.out
                                clear HA
                                simp only [der_Take.l0] at H
                                by_cases c26 : x55_2 < (((l0.take ((wrap64 (2 + (wrap64 ((wrap64 (rd l0 1)) - 128)))) : Int).toNat).drop 2).length : Int)
                                · rw [if_pos c26] at H
                                  have c26b0 : decide (x55_2 < (((l0.take ((wrap64 (2 + (wrap64 ((wrap64 (rd l0 1)) - 128)))) : Int).toNat).drop 2).length : Int)) = true := decide_eq_true c26
                                  have c26b1 : decide (x55_2 < ((((wrap64 (2 + (wrap64 ((wrap64 (rd l0 1)) - 128))))).toNat - 2 : Nat) : Int)) = true := decide_eq_true (by have h_ := c26; have g_ := (show Aside0 (((l0.take ((wrap64 (2 + (wrap64 ((wrap64 (rd l0 1)) - 128)))) : Int).toNat).drop 2).length = ((wrap64 (2 + (wrap64 ((wrap64 (rd l0 1)) - 128)))).toNat - 2)) from by assumption).out; rw [g_] at h_; exact h_)
                                  have c26b2 : (x55_2 < ((((wrap64 (2 + (wrap64 ((wrap64 (rd l0 1)) - 128))))).toNat - 2 : Nat) : Int)) = True := eq_true (by have h_ := c26; have g_ := (show Aside0 (((l0.take ((wrap64 (2 + (wrap64 ((wrap64 (rd l0 1)) - 128)))) : Int).toNat).drop 2).length = ((wrap64 (2 + (wrap64 ((wrap64 (rd l0 1)) - 128)))).toNat - 2)) from by assumption).out; rw [g_] at h_; exact h_)
                                  clear c26
                                  by_cases c27 : 0 ≤ x55_2
                                  · rw [if_pos c27] at H
                                    have c27b0 : decide (0 ≤ x55_2) = true := decide_eq_true c27
                                    clear c27
                                    by_cases c28 : x55_2 < (((l0.take ((wrap64 (2 + (wrap64 ((wrap64 (rd l0 1)) - 128)))) : Int).toNat).drop 2).length : Int)
                                    · rw [if_pos c28] at H
                                      have c28b0 : decide (x55_2 < (((l0.take ((wrap64 (2 + (wrap64 ((wrap64 (rd l0 1)) - 128)))) : Int).toNat).drop 2).length : Int)) = true := decide_eq_true c28
                                      have c28b1 : decide (x55_2 < ((((wrap64 (2 + (wrap64 ((wrap64 (rd l0 1)) - 128))))).toNat - 2 : Nat) : Int)) = true := decide_eq_true (by have h_ := c28; have g_ := (show Aside0 (((l0.take ((wrap64 (2 + (wrap64 ((wrap64 (rd l0 1)) - 128)))) : Int).toNat).drop 2).length = ((wrap64 (2 + (wrap64 ((wrap64 (rd l0 1)) - 128)))).toNat - 2)) from by assumption).out; rw [g_] at h_; exact h_)
                                      have c28b2 : (x55_2 < ((((wrap64 (2 + (wrap64 ((wrap64 (rd l0 1)) - 128))))).toNat - 2 : Nat) : Int)) = True := eq_true (by have h_ := c28; have g_ := (show Aside0 (((l0.take ((wrap64 (2 + (wrap64 ((wrap64 (rd l0 1)) - 128)))) : Int).toNat).drop 2).length = ((wrap64 (2 + (wrap64 ((wrap64 (rd l0 1)) - 128)))).toNat - 2)) from by assumption).out; rw [g_] at h_; exact h_)
                                      clear c28
                                      have H' := Aside0.mk H
                                      clear H
                                      have p130 : 0 ≤ (x55_2 : Int) := of_decide_eq_true (by first | (with_reducible assumption) | assumption)
                                      have q130 : x55_2 < (((l0.take ((wrap64 (2 + (wrap64 ((wrap64 (rd l0 1)) - 128)))) : Int).toNat).drop 2).length : Int) := of_decide_eq_true (by first | (with_reducible assumption) | assumption)
                                      obtain ⟨ad130, e130, hx130_0⟩ := Kd.at_int HR129.out x55_2 p130 q130
                                      cases e130
                                      replace hx130_0 := (HB.out.cell (World.block_lt_of_cell? w _ hx130_0)).trans hx130_0
                                      replace p130 := eq_true p130
                                      replace q130 := eq_true q130
                                      go_wp2
                                      go_roundg k2
                                      case measure => have := HJ16.out; have := HK2.out; omega
                                      case rel => exact ⟨(Go.bits .or .i64 (wrap64 (x5_2 * 256)) (wrap64 (rd ((l0.take ((wrap64 (2 + (wrap64 ((wrap64 (rd l0 1)) - 128)))) : Int).toNat).drop 2) x55_2))), (wrap64 (x55_2 + 1)), (by first | rfl | (simp; done) | (simp [*]; done)), (by first | rfl | (simp; done) | (simp [*]; done)), H', ⟨by have := HJ16.out; have := HK2.out; omega⟩, ⟨by (with_reducible repeat (first | refine blk_drewN ?_ _ | refine blk_drew ?_ | refine blk_alloc ?_ _)); exact BK125.out⟩, ⟨by repeat (first | (with_reducible first | exact HB.out | apply below_alloc | apply pw_below_drewN | apply below_drew1 | refine below_set ?_ GE125.out) | exact HB.out)⟩⟩
                                    · rw [if_neg c28] at H
                                      exact absurd H (by simp)
                                  · rw [if_neg c27] at H
                                    exact absurd H (by simp)
                                · rw [if_neg c26] at H
                                  have c26b0 : decide (x55_2 < (((l0.take ((wrap64 (2 + (wrap64 ((wrap64 (rd l0 1)) - 128)))) : Int).toNat).drop 2).length : Int)) = false := decide_eq_false c26
                                  have c26b1 : decide (x55_2 < ((((wrap64 (2 + (wrap64 ((wrap64 (rd l0 1)) - 128))))).toNat - 2 : Nat) : Int)) = false := decide_eq_false (by have h_ := c26; have g_ := (show Aside0 (((l0.take ((wrap64 (2 + (wrap64 ((wrap64 (rd l0 1)) - 128)))) : Int).toNat).drop 2).length = ((wrap64 (2 + (wrap64 ((wrap64 (rd l0 1)) - 128)))).toNat - 2)) from by assumption).out; rw [g_] at h_; exact h_)
                                  clear c26
                                  by_cases c29 : 0 < (l0.length : Int)
                                  · rw [if_pos c29] at H
                                    have c29b0 : decide (0 < (l0.length : Int)) = true := decide_eq_true c29
                                    have c29b1 : decide (0 < l0.length) = true := decide_eq_true (by omega)
                                    clear c29
                                    replace H := Option.bind_eq_some_iff.mp H
                                    obtain ⟨t132, A300, H⟩ := H
                                    replace H : (if 0 ≤ (wrap64 (2 + (wrap64 ((wrap64 (rd l0 1)) - 128)))) then (if (wrap64 (2 + (wrap64 ((wrap64 (rd l0 1)) - 128)))) ≤ (l0.length : Int) then ((bytes_Equal.f t132 (l0.take ((wrap64 (2 + (wrap64 ((wrap64 (rd l0 1)) - 128)))) : Int).toNat)).bind fun t136 => (if t136 = true then (der_Take.j2 k2 l0 x5_2 (wrap64 (2 + (wrap64 ((wrap64 (rd l0 1)) - 128))))) else (some (0, ([] : List Int), 0, 10)))) else (none)) else (none)) = some (r1, r2, r3, r4) := H
                                    have A30 := Aside0.mk A300
                                    clear A300
                                    obtain ⟨ji31, hji31⟩ : ∃ j_ : Int, (wrap64 (2 + (wrap64 ((wrap64 (rd l0 1)) - 128)))) = j_ := ⟨_, rfl⟩
                                    replace H : (if 0 ≤ (ji31) then (if (ji31) ≤ (l0.length : Int) then ((bytes_Equal.f t132 (l0.take ((ji31) : Int).toNat)).bind fun t136 => (if t136 = true then (der_Take.j2 k2 l0 x5_2 (ji31)) else (some (0, ([] : List Int), 0, 10)))) else (none)) else (none)) = some (r1, r2, r3, r4) := by first | (rw [hji31] at H; exact H) | (simp only [hji31] at H ⊢; exact H)
                                    (try rw [hji31] at c21b0)
                                    (try rw [hji31] at c23b0)
                                    (try rw [hji31] at c23b1)
                                    (try rw [hji31] at c23)
                                    (try rw [hji31] at c24b0)
                                    (try rw [hji31] at c24b1)
                                    (try rw [hji31] at c24)
                                    (try rw [hji31] at c26b0)
                                    (try rw [hji31] at c26b1)
                                    (try rw [hji31] at A30)
                                    have hji31w : (IntKind.i64.wrap (2 + (wrap64 ((wrap64 (rd l0 1)) - 128)))) = ji31 := (i64_w _).trans hji31
                                    by_cases c32 : 0 ≤ (ji31)
                                    · rw [if_pos c32] at H
                                      have c32b0 := eq_true c32
                                      have c32b1 : decide (0 ≤ (ji31)) = true := decide_eq_true c32
                                      clear c32
                                      by_cases c33 : (ji31) ≤ (l0.length : Int)
                                      · rw [if_pos c33] at H
                                        have c33b0 := eq_true c33
                                        have c33b1 : decide ((ji31) ≤ (l0.length : Int)) = true := decide_eq_true c33
                                        clear c33
                                        replace H := Option.bind_eq_some_iff.mp H
                                        obtain ⟨t136, A340, H⟩ := H
                                        replace H : (if t136 = true then (der_Take.j2 k2 l0 x5_2 (ji31)) else (some (0, ([] : List Int), 0, 10))) = some (r1, r2, r3, r4) := H
                                        have A34 := Aside0.mk A340
                                        clear A340
                                        by_cases c35 : t136 = true
                                        · subst c35
                                          have H1 : (der_Take.j2 k2 l0 x5_2 (ji31)) = some (r1, r2, r3, r4) := by rw [if_pos rfl] at H; exact H
                                          clear H
                                          have H := H1
                                          clear H1
                                          have H' := Aside0.mk H
                                          clear H
                                          try go_wp2
                                          have n0_ := Aside0.mk (blk_drew BK125.out)
                                          have n1_ := Aside0.mk (below_drew1 HB.out)
                                          clear BK125
                                          clear HB
                                          have BK125 := n0_
                                          have HB := n1_
                                          clear n0_ n1_
                                          have p131 : 0 ≤ (0 : Int) := (by omega)
                                          have q131 : 0 < (l0.length : Int) := of_decide_eq_true (by first | (with_reducible assumption) | assumption)
                                          obtain ⟨ad131, e131, hx131_0⟩ := Kd.at_int HR0.out 0 p131 q131
                                          have hw131_0 := hx131_0
                                          (try rw [show ((0 : Int)).toNat = 0 from rfl] at hw131_0)
                                          (try rw [show 0 * 1 = 0 from rfl] at hw131_0)
                                          (try rw [Addr.add_zero'] at hw131_0)
                                          obtain rfl : ad126 = ad131 := (by injection e131)
                                          have qi131 : (0 < l0.length) = True := eq_true (by omega)
                                          (try rw [show ((0 : Int)).toNat = 0 from rfl] at hx131_0)
                                          (try rw [Addr.add_zero'] at hx131_0)
                                          replace hx131_0 := (HB.out.cell (World.block_lt_of_cell? w _ hx131_0)).trans hx131_0
                                          replace p131 := eq_true p131
                                          replace q131 := eq_true q131
                                          obtain ⟨i037, hi037, _, hsz37, _⟩ := info_parts info5
                                          obtain ⟨hcut37, hA37, hC37⟩ := print_take_of (P := Try.prog) (Value.int .u8) 0 24 5 .i64 Try.underlying24 hi037 hsz37 (some ad126) c0 l0 (ji31) (of_decide_eq_true (by first | (with_reducible assumption) | assumption)) (of_decide_eq_true (by first | (with_reducible assumption) | assumption)) HC0.out
                                          have HR135 := Aside0.mk (Kd.C_of_reads (h1 := fun _ => rfl) (hA37 _ (Kd.reads_of_C HR0.out)))
                                          have HC135 := Aside0.mk hC37
                                          clear hA37 hC37 hi037 hsz37
                                          refine start_ (n := 10) (S := fun w' => w'.cell? ad126 = some (.int .u8 (rd l0 0))) (ds := []) #[false, false, false, false, false, false, false, false, false, false] (by kernel_rfl) rfl rfl (((HB.out.cell (World.block_lt_of_cell? w _ hw131_0)).trans hw131_0)) (fun hHeld => ?_); refine with_tabW der_Take.tab20 der_Take.bits20 (fun HT_ HW_ => ?_)
                                          generalize wr.drew = w36 at BK125 HB HR135 hx131_0 hHeld ⊢
                                          refine pure_ (i := 0) (N := some 65) (v := ?_) (a' := ?_) #[true, false, false, false, false, false, false, false, false, false] rfl rfl (any_of HT_.out (by kernel_rfl)) (fun _ _ _ h => h) (Or.inl ⟨by rfl, ?_⟩) ?_ ?_
                                          rotate_left
                                          · intro w'
                                            go_simp
                                            with_reducible rfl
                                          rotate_left
                                          · simp only [Act.put, List.setIfInBounds_toArray, List.set_cons_zero, List.set_cons_succ, i64_w, i32_w]
                                            rfl
                                          refine pure_ (i := 1) (N := some 66) (v := ?_) (a' := ?_) #[true, true, false, false, false, false, false, false, false, false] rfl rfl (any_of HT_.out (by kernel_rfl)) (fun _ _ _ h => h) (Or.inl ⟨by rfl, ?_⟩) ?_ ?_
                                          rotate_left
                                          · intro w'
                                            go_simp
                                            with_reducible rfl
                                          rotate_left
                                          · simp only [Act.put, List.setIfInBounds_toArray, List.set_cons_zero, List.set_cons_succ, i64_w, i32_w]
                                            rfl
                                          refine pure_ (i := 3) (N := some 68) (v := ?_) (a' := ?_) #[true, true, false, true, false, false, false, false, false, false] rfl rfl (any_of HT_.out (by kernel_rfl)) (fun _ _ _ h => h) (Or.inl ⟨by rfl, ?_⟩) ?_ ?_
                                          rotate_left
                                          · intro w'
                                            go_simp
                                            with_reducible rfl
                                          rotate_left
                                          · simp only [Act.put, List.setIfInBounds_toArray, List.set_cons_zero, List.set_cons_succ, i64_w, i32_w]
                                            rfl
                                          refine pure_ (i := 5) (N := some 70) (v := ?_) (a' := ?_) #[true, true, false, true, false, true, false, false, false, false] rfl rfl (any_of HT_.out (by kernel_rfl)) (fun _ _ _ h => h) (Or.inl ⟨by rfl, ?_⟩) ?_ ?_
                                          rotate_left
                                          · intro w'
                                            go_simp
                                            with_reducible rfl
                                          rotate_left
                                          · simp only [Act.put, List.setIfInBounds_toArray, List.set_cons_zero, List.set_cons_succ, i64_w, i32_w]
                                            rfl
                                          refine pure_ (i := 6) (N := some 71) (v := ?_) (a' := ?_) #[true, true, false, true, false, true, true, false, false, false] rfl rfl (any_of HT_.out (by kernel_rfl)) (fun _ _ _ h => h) (Or.inl ⟨by rfl, ?_⟩) ?_ ?_
                                          rotate_left
                                          · intro w'
                                            go_simp
                                            with_reducible rfl
                                          rotate_left
                                          · simp only [Act.put, List.setIfInBounds_toArray, List.set_cons_zero, List.set_cons_succ, i64_w, i32_w]
                                            rfl
                                          refine pure_ (i := 7) (N := some 72) (v := ?_) (a' := ?_) #[true, true, false, true, false, true, true, true, false, false] rfl rfl (any_of HT_.out (by kernel_rfl)) (fun _ _ _ h => h) (Or.inl ⟨by rfl, ?_⟩) ?_ ?_
                                          rotate_left
                                          · intro w'
                                            go_simp
                                            with_reducible rfl
                                          rotate_left
                                          · simp only [Act.put, List.setIfInBounds_toArray, List.set_cons_zero, List.set_cons_succ, i64_w, i32_w]
                                            rfl
                                          refine take_ (i := 2) (N := some 67) (v := ?_) (a' := ?_) #[true, true, true, true, false, true, true, true, false, false] rfl rfl (take_ofW HT_.out HW_.out (by kernel_rfl)) (fun _ _ _ h => h) (Or.inl ⟨by rfl, ?_⟩) hHeld ?_ ?_
                                          rotate_left
                                          · intro w' s0
                                            go_simp
                                            with_reducible rfl
                                          rotate_left
                                          · simp only [Act.put, List.setIfInBounds_toArray, List.set_cons_zero, List.set_cons_succ, i64_w, i32_w]
                                            rfl
                                          refine one_ (i := 4) (N := some 69) #[true, true, true, true, true, true, true, true, false, false] rfl rfl (one_of HT_.out (by kernel_rfl)) (by decide) (fun K hK => ?_)
                                          refine goes_ Try.func12 (by kernel_rfl) rfl #[.int .u8 (rd l0 0), .int .i64 x5_2] (by rfl) rfl rfl (by (try simp only [List.map_toArray, List.map_cons, List.map_nil]); first | done | rfl | (simp only [List.length_drop, List.length_take]; rfl)) ?_
                                          with_reducible refine (der_head.calls (rd l0 0) x5_2 t132 _ A30.out).mono ?_
                                          rintro e w38 ⟨v133, rfl, ho0, hb⟩
                                          refine ⟨_, rfl, ?_⟩
                                          have n0_ := Aside0.mk (Kd.R_lower ho0 (below_size (by repeat (first | (with_reducible first | exact HB.out | apply below_alloc | apply pw_below_drewN | apply below_drew1 | refine below_set ?_ GE125.out) | exact HB.out))))
                                          have n1_ := Aside0.mk (blk_below (g := gb125) (o := .cells #[.int .u8 0, .slice none 0 0] 26 (0, 0)) (by (with_reducible repeat (first | refine blk_drewN ?_ _ | refine blk_drew ?_ | refine blk_alloc ?_ _)); exact BK125.out) hb)
                                          have n2_ := Aside0.mk (below_step (by repeat (first | (with_reducible first | exact HB.out | apply below_alloc | apply pw_below_drewN | apply below_drew1 | refine below_set ?_ GE125.out) | exact HB.out)) hb)
                                          clear BK125
                                          clear HB
                                          have HO134 := n0_
                                          have BK125 := n1_
                                          have HB := n2_
                                          clear n0_ n1_ n2_
                                          (try clear hb)
                                          (try clear hb2)
                                          (try clear hk)
                                          (try clear hi)
                                          (try clear ho0)
                                          obtain ⟨Ao39, co39, eo39⟩ := Kd.R_slice HO134.out
                                          (first | subst eo39 | (injection eo39 with f1_ f2_ f3_; have f4_ := f1_.symm; have f5_ := f3_.symm; clear f1_ f2_ f3_; subst f4_; subst f5_))
                                          refine hK.out _ _ (((HB.out.cell (World.block_lt_of_cell? w _ hw131_0)).trans hw131_0)) (fun hHeld => ?_)
                                          clear hK K
                                          refine norm_ (a' := ?_) ?_ ?_
                                          rotate_left
                                          · show Act.put _ (some 69) _ = _
                                            simp only [Act.put, List.setIfInBounds_toArray, List.set_cons_zero, List.set_cons_succ, i64_w, i32_w]
                                            rfl
                                          refine one_ (i := 8) (N := some 73) #[true, true, true, true, true, true, true, true, true, false] rfl rfl (one_of HT_.out (by kernel_rfl)) (by decide) (fun K hK => ?_)
                                          refine goes_ Try.func14 (by kernel_rfl) rfl #[.slice Ao39 t132.length co39, .slice (some ad126) (l0.take ((ji31) : Int).toNat).length c0] (by rfl) rfl rfl (by (try simp only [List.map_toArray, List.map_cons, List.map_nil]); first | done | (rw [show (l0.take ((ji31) : Int).toNat).length = (ji31).toNat from (by rw [List.length_take]; have h_ : ((ji31) : Int) ≤ (l0.length : Int) := of_decide_eq_true (by first | (with_reducible assumption) | assumption); omega)] <;> rfl) | (simp only [hji31]; rfl) | rfl | (simp only [List.length_drop, List.length_take]; rfl)) ?_
                                          with_reducible refine (bytes_Equal.calls _ _ t132 _ _ (l0.take ((ji31) : Int).toNat) true _ ?side1 ?side2 ?side3 ?side4 A34.out).mono ?_
                                          (case side1 => repeat (first | exact (Kd.R_reads' HO134.out).2.2 | (with_reducible refine Kd.C_alloc ?_ _) | (with_reducible refine Kd.C_drewN ?_ _) | (with_reducible refine Kd.C_drew ?_)))
                                          (case side2 => exact (Kd.R_reads' HO134.out).2.1)
                                          (case side3 => repeat (first | exact (Kd.C_below HR135.out HB.out) | (with_reducible refine Kd.C_alloc ?_ _) | (with_reducible refine Kd.C_drewN ?_ _) | (with_reducible refine Kd.C_drew ?_)))
                                          (case side4 => exact HC135.out)
                                          rintro e w' ⟨rfl, ⟨nd, rfl⟩⟩
                                          refine ⟨_, rfl, ?_⟩
                                          refine hK.out _ _ (((HB.out.cell (World.block_lt_of_cell? w _ hw131_0)).trans hw131_0)) (fun hHeld => ?_)
                                          clear hK K
                                          refine norm_ (a' := ?_) ?_ ?_
                                          rotate_left
                                          · show Act.put _ (some 73) _ = _
                                            simp only [Act.put, List.setIfInBounds_toArray, List.set_cons_zero, List.set_cons_succ, i64_w, i32_w]
                                            rfl
                                          refine pure_ (i := 9) (N := some 74) (v := ?_) (a' := ?_) #[true, true, true, true, true, true, true, true, true, true] rfl rfl (any_of HT_.out (by kernel_rfl)) (fun _ _ _ h => h) (Or.inl ⟨by rfl, ?_⟩) ?_ ?_
                                          rotate_left
                                          · intro w'
                                            go_simp
                                            with_reducible rfl
                                          rotate_left
                                          · simp only [Act.put, List.setIfInBounds_toArray, List.set_cons_zero, List.set_cons_succ, i64_w, i32_w]
                                            rfl
                                          refine done_ (done_of HT_.out (by kernel_rfl)) ?_
                                          try go_wp2
                                          go_meet
                                          case rel => exact ⟨_, (x5_2), ((ji31)), (0), (by first | rfl | (simp; done) | (simp [*]; done)), (by first | rfl | (simp; done) | (simp only [← hji31] <;> (first | rfl | simp)) | (simp [*]; done)), H', ⟨by have := HJ16.out; have := HK2.out; first | omega | exact Nat.le_refl _⟩, ⟨by (with_reducible repeat (first | refine blk_drewN ?_ _ | refine blk_drew ?_ | refine blk_alloc ?_ _)); exact BK125.out⟩, ⟨by repeat (first | (with_reducible first | exact HB.out | apply below_alloc | apply pw_below_drewN | apply below_drew1 | refine below_set ?_ GE125.out) | exact HB.out)⟩⟩
                                        · replace c35 := Bool.eq_false_iff.mpr c35
                                          subst c35
                                          have H1 : (some (0, ([] : List Int), 0, 10)) = some (r1, r2, r3, r4) := by rw [if_neg (show ¬ (false = true) by decide)] at H; exact H
                                          clear H
                                          have H := H1
                                          clear H1
                                          simp only [Option.some.injEq, Prod.mk.injEq] at H
                                          obtain ⟨rfl, rfl, rfl, rfl⟩ := H
                                          try go_wp2
                                          have n0_ := Aside0.mk (blk_drew BK125.out)
                                          have n1_ := Aside0.mk (below_drew1 HB.out)
                                          clear BK125
                                          clear HB
                                          have BK125 := n0_
                                          have HB := n1_
                                          clear n0_ n1_
                                          have p131 : 0 ≤ (0 : Int) := (by omega)
                                          have q131 : 0 < (l0.length : Int) := of_decide_eq_true (by first | (with_reducible assumption) | assumption)
                                          obtain ⟨ad131, e131, hx131_0⟩ := Kd.at_int HR0.out 0 p131 q131
                                          have hw131_0 := hx131_0
                                          (try rw [show ((0 : Int)).toNat = 0 from rfl] at hw131_0)
                                          (try rw [show 0 * 1 = 0 from rfl] at hw131_0)
                                          (try rw [Addr.add_zero'] at hw131_0)
                                          obtain rfl : ad126 = ad131 := (by injection e131)
                                          have qi131 : (0 < l0.length) = True := eq_true (by omega)
                                          (try rw [show ((0 : Int)).toNat = 0 from rfl] at hx131_0)
                                          (try rw [Addr.add_zero'] at hx131_0)
                                          replace hx131_0 := (HB.out.cell (World.block_lt_of_cell? w _ hx131_0)).trans hx131_0
                                          replace p131 := eq_true p131
                                          replace q131 := eq_true q131
                                          obtain ⟨i041, hi041, _, hsz41, _⟩ := info_parts info5
                                          obtain ⟨hcut41, hA41, hC41⟩ := print_take_of (P := Try.prog) (Value.int .u8) 0 24 5 .i64 Try.underlying24 hi041 hsz41 (some ad126) c0 l0 (ji31) (of_decide_eq_true (by first | (with_reducible assumption) | assumption)) (of_decide_eq_true (by first | (with_reducible assumption) | assumption)) HC0.out
                                          have HR135 := Aside0.mk (Kd.C_of_reads (h1 := fun _ => rfl) (hA41 _ (Kd.reads_of_C HR0.out)))
                                          have HC135 := Aside0.mk hC41
                                          clear hA41 hC41 hi041 hsz41
                                          refine start_ (n := 10) (S := fun w' => w'.cell? ad126 = some (.int .u8 (rd l0 0))) (ds := []) #[false, false, false, false, false, false, false, false, false, false] (by kernel_rfl) rfl rfl (((HB.out.cell (World.block_lt_of_cell? w _ hw131_0)).trans hw131_0)) (fun hHeld => ?_); refine with_tabW der_Take.tab20 der_Take.bits20 (fun HT_ HW_ => ?_)
                                          generalize wr.drew = w40 at BK125 HB HR135 hx131_0 hHeld ⊢
                                          refine pure_ (i := 0) (N := some 65) (v := ?_) (a' := ?_) #[true, false, false, false, false, false, false, false, false, false] rfl rfl (any_of HT_.out (by kernel_rfl)) (fun _ _ _ h => h) (Or.inl ⟨by rfl, ?_⟩) ?_ ?_
                                          rotate_left
                                          · intro w'
                                            go_simp
                                            with_reducible rfl
                                          rotate_left
                                          · simp only [Act.put, List.setIfInBounds_toArray, List.set_cons_zero, List.set_cons_succ, i64_w, i32_w]
                                            rfl
                                          refine pure_ (i := 1) (N := some 66) (v := ?_) (a' := ?_) #[true, true, false, false, false, false, false, false, false, false] rfl rfl (any_of HT_.out (by kernel_rfl)) (fun _ _ _ h => h) (Or.inl ⟨by rfl, ?_⟩) ?_ ?_
                                          rotate_left
                                          · intro w'
                                            go_simp
                                            with_reducible rfl
                                          rotate_left
                                          · simp only [Act.put, List.setIfInBounds_toArray, List.set_cons_zero, List.set_cons_succ, i64_w, i32_w]
                                            rfl
                                          refine pure_ (i := 3) (N := some 68) (v := ?_) (a' := ?_) #[true, true, false, true, false, false, false, false, false, false] rfl rfl (any_of HT_.out (by kernel_rfl)) (fun _ _ _ h => h) (Or.inl ⟨by rfl, ?_⟩) ?_ ?_
                                          rotate_left
                                          · intro w'
                                            go_simp
                                            with_reducible rfl
                                          rotate_left
                                          · simp only [Act.put, List.setIfInBounds_toArray, List.set_cons_zero, List.set_cons_succ, i64_w, i32_w]
                                            rfl
                                          refine pure_ (i := 5) (N := some 70) (v := ?_) (a' := ?_) #[true, true, false, true, false, true, false, false, false, false] rfl rfl (any_of HT_.out (by kernel_rfl)) (fun _ _ _ h => h) (Or.inl ⟨by rfl, ?_⟩) ?_ ?_
                                          rotate_left
                                          · intro w'
                                            go_simp
                                            with_reducible rfl
                                          rotate_left
                                          · simp only [Act.put, List.setIfInBounds_toArray, List.set_cons_zero, List.set_cons_succ, i64_w, i32_w]
                                            rfl
                                          refine pure_ (i := 6) (N := some 71) (v := ?_) (a' := ?_) #[true, true, false, true, false, true, true, false, false, false] rfl rfl (any_of HT_.out (by kernel_rfl)) (fun _ _ _ h => h) (Or.inl ⟨by rfl, ?_⟩) ?_ ?_
                                          rotate_left
                                          · intro w'
                                            go_simp
                                            with_reducible rfl
                                          rotate_left
                                          · simp only [Act.put, List.setIfInBounds_toArray, List.set_cons_zero, List.set_cons_succ, i64_w, i32_w]
                                            rfl
                                          refine pure_ (i := 7) (N := some 72) (v := ?_) (a' := ?_) #[true, true, false, true, false, true, true, true, false, false] rfl rfl (any_of HT_.out (by kernel_rfl)) (fun _ _ _ h => h) (Or.inl ⟨by rfl, ?_⟩) ?_ ?_
                                          rotate_left
                                          · intro w'
                                            go_simp
                                            with_reducible rfl
                                          rotate_left
                                          · simp only [Act.put, List.setIfInBounds_toArray, List.set_cons_zero, List.set_cons_succ, i64_w, i32_w]
                                            rfl
                                          refine take_ (i := 2) (N := some 67) (v := ?_) (a' := ?_) #[true, true, true, true, false, true, true, true, false, false] rfl rfl (take_ofW HT_.out HW_.out (by kernel_rfl)) (fun _ _ _ h => h) (Or.inl ⟨by rfl, ?_⟩) hHeld ?_ ?_
                                          rotate_left
                                          · intro w' s0
                                            go_simp
                                            with_reducible rfl
                                          rotate_left
                                          · simp only [Act.put, List.setIfInBounds_toArray, List.set_cons_zero, List.set_cons_succ, i64_w, i32_w]
                                            rfl
                                          refine one_ (i := 4) (N := some 69) #[true, true, true, true, true, true, true, true, false, false] rfl rfl (one_of HT_.out (by kernel_rfl)) (by decide) (fun K hK => ?_)
                                          refine goes_ Try.func12 (by kernel_rfl) rfl #[.int .u8 (rd l0 0), .int .i64 x5_2] (by rfl) rfl rfl (by (try simp only [List.map_toArray, List.map_cons, List.map_nil]); first | done | rfl | (simp only [List.length_drop, List.length_take]; rfl)) ?_
                                          with_reducible refine (der_head.calls (rd l0 0) x5_2 t132 _ A30.out).mono ?_
                                          rintro e w42 ⟨v133, rfl, ho0, hb⟩
                                          refine ⟨_, rfl, ?_⟩
                                          have n0_ := Aside0.mk (Kd.R_lower ho0 (below_size (by repeat (first | (with_reducible first | exact HB.out | apply below_alloc | apply pw_below_drewN | apply below_drew1 | refine below_set ?_ GE125.out) | exact HB.out))))
                                          have n1_ := Aside0.mk (blk_below (g := gb125) (o := .cells #[.int .u8 0, .slice none 0 0] 26 (0, 0)) (by (with_reducible repeat (first | refine blk_drewN ?_ _ | refine blk_drew ?_ | refine blk_alloc ?_ _)); exact BK125.out) hb)
                                          have n2_ := Aside0.mk (below_step (by repeat (first | (with_reducible first | exact HB.out | apply below_alloc | apply pw_below_drewN | apply below_drew1 | refine below_set ?_ GE125.out) | exact HB.out)) hb)
                                          clear BK125
                                          clear HB
                                          have HO134 := n0_
                                          have BK125 := n1_
                                          have HB := n2_
                                          clear n0_ n1_ n2_
                                          (try clear hb)
                                          (try clear hb2)
                                          (try clear hk)
                                          (try clear hi)
                                          (try clear ho0)
                                          obtain ⟨Ao43, co43, eo43⟩ := Kd.R_slice HO134.out
                                          (first | subst eo43 | (injection eo43 with f1_ f2_ f3_; have f4_ := f1_.symm; have f5_ := f3_.symm; clear f1_ f2_ f3_; subst f4_; subst f5_))
                                          refine hK.out _ _ (((HB.out.cell (World.block_lt_of_cell? w _ hw131_0)).trans hw131_0)) (fun hHeld => ?_)
                                          clear hK K
                                          refine norm_ (a' := ?_) ?_ ?_
                                          rotate_left
                                          · show Act.put _ (some 69) _ = _
                                            simp only [Act.put, List.setIfInBounds_toArray, List.set_cons_zero, List.set_cons_succ, i64_w, i32_w]
                                            rfl
                                          refine one_ (i := 8) (N := some 73) #[true, true, true, true, true, true, true, true, true, false] rfl rfl (one_of HT_.out (by kernel_rfl)) (by decide) (fun K hK => ?_)
                                          refine goes_ Try.func14 (by kernel_rfl) rfl #[.slice Ao43 t132.length co43, .slice (some ad126) (l0.take ((ji31) : Int).toNat).length c0] (by rfl) rfl rfl (by (try simp only [List.map_toArray, List.map_cons, List.map_nil]); first | done | (rw [show (l0.take ((ji31) : Int).toNat).length = (ji31).toNat from (by rw [List.length_take]; have h_ : ((ji31) : Int) ≤ (l0.length : Int) := of_decide_eq_true (by first | (with_reducible assumption) | assumption); omega)] <;> rfl) | (simp only [hji31]; rfl) | rfl | (simp only [List.length_drop, List.length_take]; rfl)) ?_
                                          with_reducible refine (bytes_Equal.calls _ _ t132 _ _ (l0.take ((ji31) : Int).toNat) false _ ?side1 ?side2 ?side3 ?side4 A34.out).mono ?_
                                          (case side1 => repeat (first | exact (Kd.R_reads' HO134.out).2.2 | (with_reducible refine Kd.C_alloc ?_ _) | (with_reducible refine Kd.C_drewN ?_ _) | (with_reducible refine Kd.C_drew ?_)))
                                          (case side2 => exact (Kd.R_reads' HO134.out).2.1)
                                          (case side3 => repeat (first | exact (Kd.C_below HR135.out HB.out) | (with_reducible refine Kd.C_alloc ?_ _) | (with_reducible refine Kd.C_drewN ?_ _) | (with_reducible refine Kd.C_drew ?_)))
                                          (case side4 => exact HC135.out)
                                          rintro e w' ⟨rfl, ⟨nd, rfl⟩⟩
                                          refine ⟨_, rfl, ?_⟩
                                          refine hK.out _ _ (((HB.out.cell (World.block_lt_of_cell? w _ hw131_0)).trans hw131_0)) (fun hHeld => ?_)
                                          clear hK K
                                          refine norm_ (a' := ?_) ?_ ?_
                                          rotate_left
                                          · show Act.put _ (some 73) _ = _
                                            simp only [Act.put, List.setIfInBounds_toArray, List.set_cons_zero, List.set_cons_succ, i64_w, i32_w]
                                            rfl
                                          refine pure_ (i := 9) (N := some 74) (v := ?_) (a' := ?_) #[true, true, true, true, true, true, true, true, true, true] rfl rfl (any_of HT_.out (by kernel_rfl)) (fun _ _ _ h => h) (Or.inl ⟨by rfl, ?_⟩) ?_ ?_
                                          rotate_left
                                          · intro w'
                                            go_simp
                                            with_reducible rfl
                                          rotate_left
                                          · simp only [Act.put, List.setIfInBounds_toArray, List.set_cons_zero, List.set_cons_succ, i64_w, i32_w]
                                            rfl
                                          refine done_ (done_of HT_.out (by kernel_rfl)) ?_
                                          have hcz44_0 : w42.cell? ⟨gb125, 0, none⟩ = some (.int .u8 0) := (blk_cell BK125.out 0).trans rfl
                                          have hcz44_1 : w42.cell? ⟨gb125, 1, none⟩ = some (.slice none 0 0) := (blk_cell BK125.out 1).trans rfl
                                          have hfz44_0 := blk_frozen BK125.out 0
                                          have hfz44_1 := blk_frozen BK125.out 1
                                          try go_wp2
                                          refine bodyPost_ret (results_ctt rfl _ _ gb125 26 #[.int .u8 0, .slice none 0 0] (0, 0) _ rfl (by (with_reducible repeat (first | refine blk_drewN ?_ _ | refine blk_drew ?_ | refine blk_alloc ?_ _)); refine blk_put (cs := #[.int .u8 0, .slice none 0 0]) ?_ 1 _ rfl; (with_reducible repeat (first | refine blk_drewN ?_ _ | refine blk_drew ?_ | refine blk_alloc ?_ _)); refine blk_put (cs := #[.int .u8 0, .slice none 0 0]) ?_ 0 _ rfl; (with_reducible repeat (first | refine blk_drewN ?_ _ | refine blk_drew ?_ | refine blk_alloc ?_ _)); exact BK125.out) Try.underlying26 rfl (by kernel_rfl)) rfl ?_
                                          exact ⟨_, by first | rfl | (simp [errW_none, errW_some] <;> rfl) | (simp only [← hji31]; first | rfl | (simp [errW_none, errW_some] <;> rfl)) | (simp [*, errW_none, errW_some] <;> rfl), by first | exact Kd.R_nil _ _ _ _ _ | exact Kd.N_nil _ _ _ _ _ | exact Kd.V_nil _ _ _ _ _ | exact Kd.Q_nil _ _ _ _ _ | exact Kd.S_nil _ _ _ _ _, by repeat (first | (with_reducible first | exact HB.out | apply below_alloc | apply pw_below_drewN | apply below_drew1 | refine below_set ?_ GE125.out) | exact HB.out)⟩
                                      · rw [if_neg c33] at H
                                        exact absurd H (by simp)
                                    · rw [if_neg c32] at H
                                      exact absurd H (by simp)
                                  · rw [if_neg c29] at H
                                    exact absurd H (by simp)
                          · rw [if_neg c24] at H
                            exact absurd H (by simp)
                        · rw [if_neg c23] at H
                          exact absurd H (by simp)
              · rw [if_neg c16] at H
                have c16b0 : decide (128 ≤ (wrap64 (rd l0 1))) = false := decide_eq_false c16
                clear c16
                (first | rw [c16b0] | (simp only [i64_w, i32_w]; rw [c16b0]) | skip)
                have H' := Aside0.mk H
                clear H
                go_wp2
                go_meet
                case rel => exact ⟨_, (wrap64 (rd l0 1)), (2), (0), (by first | rfl | (simp; done) | (simp [*]; done)), (by first | rfl | (simp; done) | (simp [*]; done)), H', ⟨by first | omega | exact Nat.le_refl _⟩, ⟨by (with_reducible repeat (first | refine blk_drewN ?_ _ | refine blk_drew ?_ | refine blk_alloc ?_ _)); exact BK125.out⟩, ⟨by repeat (first | (with_reducible first | exact HB.out | apply below_alloc | apply pw_below_drewN | apply below_drew1 | refine below_set ?_ GE125.out) | exact HB.out)⟩⟩
            case rest =>
              clear HC14
              try clear c1
              try clear p1
              try clear q1
              try clear hx1
              try clear qi1
              try clear c2
              try clear c2b0
              try clear c2b1
              try clear c2b2
              try clear p2
              try clear c3
              try clear c5
              try clear c5b0
              try clear c5b1
              try clear p6
              try clear c7
              try clear c10
              try clear c10b0
              try clear c10b1
              try clear c11
              try clear c12
              try clear p12
              try clear q12
              try clear hx12
              try clear qi12
              try clear c13
              try clear c13b0
              try clear c13b1
              try clear p13
              try clear q13
              try clear hx13
              try clear qi13
              try clear c14
              try clear c16
              try clear c16b0
              try clear c18
              try clear c18b0
              try clear c19
              try clear c21
              try clear c21b0
              try clear c23
              try clear c23b0
              try clear c23b1
              try clear c24
              try clear c24b0
              try clear c24b1
              try clear c26
              try clear c26b0
              try clear c26b1
              try clear c26b2
              try clear c27
              try clear c27b0
              try clear c28
              try clear c28b0
              try clear c28b1
              try clear c28b2
              try clear c29
              try clear c29b0
              try clear c29b1
              try clear c32
              try clear c32b0
              try clear c32b1
              try clear c33
              try clear c33b0
              try clear c33b1
              try clear c35
              try clear hcz12_0
              try clear hcz12_1
              try clear hcz20_0
              try clear hcz20_1
              try clear hcz22_0
              try clear hcz22_1
              try clear hcz44_0
              try clear hcz44_1
              try clear hcz4_0
              try clear hcz4_1
              try clear hcz9_0
              try clear hcz9_1
              try clear hfz12_0
              try clear hfz12_1
              try clear hfz20_0
              try clear hfz20_1
              try clear hfz22_0
              try clear hfz22_1
              try clear hfz44_0
              try clear hfz44_1
              try clear hfz4_0
              try clear hfz4_1
              try clear hfz9_0
              try clear hfz9_1
              try clear hx126_0
              try clear hx128_0
              try clear hx130_0
              try clear hx131_0
              try clear p1
              try clear p12
              try clear p126
              try clear p128
              try clear p130
              try clear p131
              try clear p2
              try clear p6
              try clear q1
              try clear q12
              try clear q126
              try clear q128
              try clear q130
              try clear q131
              obtain ⟨kq, x5_13, x6_13, x126000_13, rfl, rfl, HA, HJ13, BK125, HB⟩ := hcut
              cases kq with
              | zero => exact absurd HA.out (by simp [der_Take.j2])
              | succ kj13 =>
                have H := HA.out
                clear HA
                simp only [der_Take.j2] at H
                by_cases c45 : x5_13 ≥ 1048576
                · rw [if_pos c45] at H
                  have c45b0 : decide (1048576 ≤ x5_13) = true := decide_eq_true c45
                  clear c45
                  simp only [Option.some.injEq, Prod.mk.injEq] at H
                  obtain ⟨rfl, rfl, rfl, rfl⟩ := H
                  have hcz46_0 : wc.cell? ⟨gb125, 0, none⟩ = some (.int .u8 x126000_13) := (blk_cell BK125.out 0).trans rfl
                  have hcz46_1 : wc.cell? ⟨gb125, 1, none⟩ = some (.slice none 0 0) := (blk_cell BK125.out 1).trans rfl
                  have hfz46_0 := blk_frozen BK125.out 0
                  have hfz46_1 := blk_frozen BK125.out 1
                  go_wp2
                  refine bodyPost_ret (results_ctt rfl _ _ gb125 26 #[.int .u8 0, .slice none 0 0] (0, 0) _ rfl (by (with_reducible repeat (first | refine blk_drewN ?_ _ | refine blk_drew ?_ | refine blk_alloc ?_ _)); refine blk_put (cs := #[.int .u8 0, .slice none 0 0]) ?_ 1 _ rfl; (with_reducible repeat (first | refine blk_drewN ?_ _ | refine blk_drew ?_ | refine blk_alloc ?_ _)); refine blk_put (cs := #[.int .u8 x126000_13, .slice none 0 0]) ?_ 0 _ rfl; (with_reducible repeat (first | refine blk_drewN ?_ _ | refine blk_drew ?_ | refine blk_alloc ?_ _)); exact BK125.out) Try.underlying26 rfl (by kernel_rfl)) rfl ?_
                  exact ⟨_, by first | rfl | (simp [errW_none, errW_some] <;> rfl) | (simp [*, errW_none, errW_some] <;> rfl), by first | exact Kd.R_nil _ _ _ _ _ | exact Kd.N_nil _ _ _ _ _ | exact Kd.V_nil _ _ _ _ _ | exact Kd.Q_nil _ _ _ _ _ | exact Kd.S_nil _ _ _ _ _, by repeat (first | (with_reducible first | exact HB.out | apply below_alloc | apply pw_below_drewN | apply below_drew1 | refine below_set ?_ GE125.out) | exact HB.out)⟩
                · rw [if_neg c45] at H
                  have c45b0 : decide (1048576 ≤ x5_13) = false := decide_eq_false c45
                  clear c45
                  by_cases c47 : (wrap64 ((l0.length : Int) - x6_13)) < x5_13
                  · rw [if_pos c47] at H
                    have c47b0 : decide ((wrap64 ((l0.length : Int) - x6_13)) < x5_13) = true := decide_eq_true c47
                    clear c47
                    simp only [Option.some.injEq, Prod.mk.injEq] at H
                    obtain ⟨rfl, rfl, rfl, rfl⟩ := H
                    have hcz48_0 : wc.cell? ⟨gb125, 0, none⟩ = some (.int .u8 x126000_13) := (blk_cell BK125.out 0).trans rfl
                    have hcz48_1 : wc.cell? ⟨gb125, 1, none⟩ = some (.slice none 0 0) := (blk_cell BK125.out 1).trans rfl
                    have hfz48_0 := blk_frozen BK125.out 0
                    have hfz48_1 := blk_frozen BK125.out 1
                    go_wp2
                    refine bodyPost_ret (results_ctt rfl _ _ gb125 26 #[.int .u8 0, .slice none 0 0] (0, 0) _ rfl (by (with_reducible repeat (first | refine blk_drewN ?_ _ | refine blk_drew ?_ | refine blk_alloc ?_ _)); refine blk_put (cs := #[.int .u8 0, .slice none 0 0]) ?_ 1 _ rfl; (with_reducible repeat (first | refine blk_drewN ?_ _ | refine blk_drew ?_ | refine blk_alloc ?_ _)); refine blk_put (cs := #[.int .u8 x126000_13, .slice none 0 0]) ?_ 0 _ rfl; (with_reducible repeat (first | refine blk_drewN ?_ _ | refine blk_drew ?_ | refine blk_alloc ?_ _)); exact BK125.out) Try.underlying26 rfl (by kernel_rfl)) rfl ?_
                    exact ⟨_, by first | rfl | (simp [errW_none, errW_some] <;> rfl) | (simp [*, errW_none, errW_some] <;> rfl), by first | exact Kd.R_nil _ _ _ _ _ | exact Kd.N_nil _ _ _ _ _ | exact Kd.V_nil _ _ _ _ _ | exact Kd.Q_nil _ _ _ _ _ | exact Kd.S_nil _ _ _ _ _, by repeat (first | (with_reducible first | exact HB.out | apply below_alloc | apply pw_below_drewN | apply below_drew1 | refine below_set ?_ GE125.out) | exact HB.out)⟩
                  · rw [if_neg c47] at H
                    have c47b0 : decide ((wrap64 ((l0.length : Int) - x6_13)) < x5_13) = false := decide_eq_false c47
                    clear c47
                    by_cases c49 : 0 < (l0.length : Int)
                    · rw [if_pos c49] at H
                      have c49b0 : decide (0 < (l0.length : Int)) = true := decide_eq_true c49
                      have c49b1 : decide (0 < l0.length) = true := decide_eq_true (by omega)
                      clear c49
                      by_cases c50 : 0 ≤ x6_13
                      · rw [if_pos c50] at H
                        have c50b0 := eq_true c50
                        have c50b1 : decide (0 ≤ x6_13) = true := decide_eq_true c50
                        clear c50
                        by_cases c51 : x6_13 ≤ (wrap64 (x6_13 + x5_13))
                        · rw [if_pos c51] at H
                          have c51b0 := eq_true c51
                          have c51b1 : decide (x6_13 ≤ (wrap64 (x6_13 + x5_13))) = true := decide_eq_true c51
                          by_cases c52 : (wrap64 (x6_13 + x5_13)) ≤ (l0.length : Int)
                          · rw [if_pos c52] at H
                            have c52b0 := eq_true c52
                            have c52b1 : decide ((wrap64 (x6_13 + x5_13)) ≤ (l0.length : Int)) = true := decide_eq_true c52
                            replace H := Option.bind_eq_some_iff.mp H
                            obtain ⟨t139, A530, H⟩ := H
                            replace H : (some (rd l0 0, t139, wrap64 (x6_13 + x5_13), 0)) = some (r1, r2, r3, r4) := H
                            have A53 := Aside0.mk A530
                            clear A530
                            simp only [Option.some.injEq, Prod.mk.injEq] at H
                            obtain ⟨rfl, rfl, rfl, rfl⟩ := H
                            try go_wp2
                            have n0_ := Aside0.mk (blk_drew BK125.out)
                            have n1_ := Aside0.mk (below_drew1 HB.out)
                            clear BK125
                            clear HB
                            have BK125 := n0_
                            have HB := n1_
                            clear n0_ n1_
                            have p137 : 0 ≤ (0 : Int) := (by omega)
                            have q137 : 0 < (l0.length : Int) := of_decide_eq_true (by first | (with_reducible assumption) | assumption)
                            obtain ⟨ad137, e137, hx137_0⟩ := Kd.at_int HR0.out 0 p137 q137
                            have hw137_0 := hx137_0
                            (try rw [show ((0 : Int)).toNat = 0 from rfl] at hw137_0)
                            (try rw [show 0 * 1 = 0 from rfl] at hw137_0)
                            (try rw [Addr.add_zero'] at hw137_0)
                            obtain rfl : ad126 = ad137 := (by injection e137)
                            have qi137 : (0 < l0.length) = True := eq_true (by omega)
                            (try rw [show ((0 : Int)).toNat = 0 from rfl] at hx137_0)
                            (try rw [Addr.add_zero'] at hx137_0)
                            replace hx137_0 := (HB.out.cell (World.block_lt_of_cell? w _ hx137_0)).trans hx137_0
                            replace p137 := eq_true p137
                            replace q137 := eq_true q137
                            obtain ⟨i055, hi055, _, hsz55, _⟩ := info_parts info5
                            obtain ⟨A55, hcut55, hA55, hC55⟩ := print_mid_of (P := Try.prog) (Value.int .u8) 0 24 5 .i64 .i64 Try.underlying24 hi055 hsz55 (some ad126) c0 l0 x6_13 (wrap64 (x6_13 + x5_13)) (of_decide_eq_true (by first | (with_reducible assumption) | assumption)) (by first | omega | exact of_decide_eq_true (by first | (with_reducible assumption) | assumption)) (of_decide_eq_true (by first | (with_reducible assumption) | assumption)) HC0.out
                            have HR138 := Aside0.mk (Kd.C_of_reads (h1 := fun _ => rfl) (hA55 _ (Kd.reads_of_C HR0.out)))
                            have HC138 := Aside0.mk hC55
                            clear hA55 hC55 hi055 hsz55
                            refine start_ (n := 17) (S := fun w' => w'.cell? ad126 = some (.int .u8 (rd l0 0))) (ds := []) #[false, false, false, false, false, false, false, false, false, false, false, false, false, false, false, false, false] (by kernel_rfl) rfl rfl (((HB.out.cell (World.block_lt_of_cell? w _ hw137_0)).trans hw137_0)) (fun hHeld => ?_); refine with_tabW der_Take.tab26 der_Take.bits26 (fun HT_ HW_ => ?_)
                            generalize wc.drew = w54 at BK125 HB HR138 hx137_0 hHeld ⊢
                            refine pure_ (i := 0) (N := some 88) (v := ?_) (a' := ?_) #[true, false, false, false, false, false, false, false, false, false, false, false, false, false, false, false, false] rfl rfl (any_of HT_.out (by kernel_rfl)) (fun _ _ _ h => h) (Or.inl ⟨by rfl, ?_⟩) ?_ ?_
                            rotate_left
                            · intro w'
                              go_simp
                              with_reducible rfl
                            rotate_left
                            · simp only [Act.put, List.setIfInBounds_toArray, List.set_cons_zero, List.set_cons_succ, i64_w, i32_w]
                              rfl
                            refine pure_ (i := 1) (N := some 89) (v := ?_) (a' := ?_) #[true, true, false, false, false, false, false, false, false, false, false, false, false, false, false, false, false] rfl rfl (any_of HT_.out (by kernel_rfl)) (fun _ _ _ h => h) (Or.inl ⟨by rfl, ?_⟩) ?_ ?_
                            rotate_left
                            · intro w'
                              go_simp
                              with_reducible rfl
                            rotate_left
                            · simp only [Act.put, List.setIfInBounds_toArray, List.set_cons_zero, List.set_cons_succ, i64_w, i32_w]
                              rfl
                            refine pure_ (i := 3) (N := some 91) (v := ?_) (a' := ?_) #[true, true, false, true, false, false, false, false, false, false, false, false, false, false, false, false, false] rfl rfl (any_of HT_.out (by kernel_rfl)) (fun _ _ _ h => h) (Or.inl ⟨by rfl, ?_⟩) ?_ ?_
                            rotate_left
                            · intro w'
                              go_simp
                              with_reducible rfl
                            rotate_left
                            · simp only [Act.put, List.setIfInBounds_toArray, List.set_cons_zero, List.set_cons_succ, i64_w, i32_w]
                              rfl
                            refine pure_ (i := 4) (N := some 92) (v := ?_) (a' := ?_) #[true, true, false, true, true, false, false, false, false, false, false, false, false, false, false, false, false] rfl rfl (any_of HT_.out (by kernel_rfl)) (fun _ _ _ h => h) (Or.inl ⟨by rfl, ?_⟩) ?_ ?_
                            rotate_left
                            · intro w'
                              go_simp
                              with_reducible rfl
                            rotate_left
                            · simp only [Act.put, List.setIfInBounds_toArray, List.set_cons_zero, List.set_cons_succ, i64_w, i32_w]
                              rfl
                            refine pure_ (i := 5) (N := some 93) (v := ?_) (a' := ?_) #[true, true, false, true, true, true, false, false, false, false, false, false, false, false, false, false, false] rfl rfl (any_of HT_.out (by kernel_rfl)) (fun _ _ _ h => h) (Or.inl ⟨by rfl, ?_⟩) ?_ ?_
                            rotate_left
                            · intro w'
                              go_simp
                              with_reducible rfl
                            rotate_left
                            · simp only [Act.put, List.setIfInBounds_toArray, List.set_cons_zero, List.set_cons_succ, i64_w, i32_w]
                              rfl
                            refine pure_ (i := 6) (N := some 94) (v := ?_) (a' := ?_) #[true, true, false, true, true, true, true, false, false, false, false, false, false, false, false, false, false] rfl rfl (any_of HT_.out (by kernel_rfl)) (fun _ _ _ h => h) (Or.inl ⟨by rfl, ?_⟩) ?_ ?_
                            rotate_left
                            · intro w'
                              go_simp
                              with_reducible rfl
                            rotate_left
                            · simp only [Act.put, List.setIfInBounds_toArray, List.set_cons_zero, List.set_cons_succ, i64_w, i32_w]
                              rfl
                            refine pure_ (i := 7) (N := some 95) (v := ?_) (a' := ?_) #[true, true, false, true, true, true, true, true, false, false, false, false, false, false, false, false, false] rfl rfl (any_of HT_.out (by kernel_rfl)) (fun _ _ _ h => h) (Or.inl ⟨by rfl, ?_⟩) ?_ ?_
                            rotate_left
                            · intro w'
                              go_simp
                              with_reducible rfl
                            rotate_left
                            · simp only [Act.put, List.setIfInBounds_toArray, List.set_cons_zero, List.set_cons_succ, i64_w, i32_w]
                              rfl
                            refine pure_ (i := 8) (N := some 96) (v := ?_) (a' := ?_) #[true, true, false, true, true, true, true, true, true, false, false, false, false, false, false, false, false] rfl rfl (any_of HT_.out (by kernel_rfl)) (fun _ _ _ h => h) (Or.inl ⟨by rfl, ?_⟩) ?_ ?_
                            rotate_left
                            · intro w'
                              go_simp
                              with_reducible rfl
                            rotate_left
                            · simp only [Act.put, List.setIfInBounds_toArray, List.set_cons_zero, List.set_cons_succ, i64_w, i32_w]
                              rfl
                            refine pure_ (i := 11) (N := some 99) (v := ?_) (a' := ?_) #[true, true, false, true, true, true, true, true, true, false, false, true, false, false, false, false, false] rfl rfl (any_of HT_.out (by kernel_rfl)) (fun _ _ _ h => h) (Or.inl ⟨by rfl, ?_⟩) ?_ ?_
                            rotate_left
                            · intro w'
                              go_simp
                              with_reducible rfl
                            rotate_left
                            · simp only [Act.put, List.setIfInBounds_toArray, List.set_cons_zero, List.set_cons_succ, i64_w, i32_w]
                              rfl
                            refine pure_ (i := 12) (N := some 100) (v := ?_) (a' := ?_) #[true, true, false, true, true, true, true, true, true, false, false, true, true, false, false, false, false] rfl rfl (any_of HT_.out (by kernel_rfl)) (fun _ _ _ h => h) (Or.inl ⟨by rfl, ?_⟩) ?_ ?_
                            rotate_left
                            · intro w'
                              go_simp
                              with_reducible rfl
                            rotate_left
                            · simp only [Act.put, List.setIfInBounds_toArray, List.set_cons_zero, List.set_cons_succ, i64_w, i32_w]
                              rfl
                            refine pure_ (i := 13) (N := some 101) (v := ?_) (a' := ?_) #[true, true, false, true, true, true, true, true, true, false, false, true, true, true, false, false, false] rfl rfl (any_of HT_.out (by kernel_rfl)) (fun _ _ _ h => h) (Or.inl ⟨by rfl, ?_⟩) ?_ ?_
                            rotate_left
                            · intro w'
                              go_simp
                              with_reducible rfl
                            rotate_left
                            · simp only [Act.put, List.setIfInBounds_toArray, List.set_cons_zero, List.set_cons_succ, i64_w, i32_w]
                              rfl
                            refine take_ (i := 2) (N := some 90) (v := ?_) (a' := ?_) #[true, true, true, true, true, true, true, true, true, false, false, true, true, true, false, false, false] rfl rfl (take_ofW HT_.out HW_.out (by kernel_rfl)) (fun _ _ _ h => h) (Or.inl ⟨by rfl, ?_⟩) hHeld ?_ ?_
                            rotate_left
                            · intro w' s0
                              go_simp
                              with_reducible rfl
                            rotate_left
                            · simp only [Act.put, List.setIfInBounds_toArray, List.set_cons_zero, List.set_cons_succ, i64_w, i32_w]
                              rfl
                            refine one_ (i := 9) (N := some 97) #[true, true, true, true, true, true, true, true, true, true, false, true, true, true, false, false, false] rfl rfl (one_of HT_.out (by kernel_rfl)) (by decide) (fun K hK => ?_)
                            refine goes_ Try.func15 (by kernel_rfl) rfl #[.slice A55 ((l0.take ((wrap64 (x6_13 + x5_13)) : Int).toNat).drop (x6_13 : Int).toNat).length (c0 - x6_13.toNat)] (by rfl) rfl rfl (by (try simp only [List.map_toArray, List.map_cons, List.map_nil]); first | done | (rw [show ((l0.take ((wrap64 (x6_13 + x5_13)) : Int).toNat).drop (x6_13 : Int).toNat).length = ((wrap64 (x6_13 + x5_13)).toNat - x6_13.toNat) from (by rw [List.length_drop, List.length_take]; have h_ : ((wrap64 (x6_13 + x5_13)) : Int) ≤ (l0.length : Int) := of_decide_eq_true (by first | (with_reducible assumption) | assumption); omega)] <;> rfl) | rfl | (simp only [List.length_drop, List.length_take]; rfl)) ?_
                            with_reducible refine (bytes_Clone.calls _ _ ((l0.take ((wrap64 (x6_13 + x5_13)) : Int).toNat).drop (x6_13 : Int).toNat) t139 _ ?side1 ?side2 A53.out).mono ?_
                            (case side1 => repeat (first | exact (Kd.C_below HR138.out HB.out) | (with_reducible refine Kd.C_alloc ?_ _) | (with_reducible refine Kd.C_drewN ?_ _) | (with_reducible refine Kd.C_drew ?_)))
                            (case side2 => exact HC138.out)
                            rintro e w56 ⟨v140, rfl, ho0, hb⟩
                            refine ⟨_, rfl, ?_⟩
                            have n0_ := Aside0.mk (Kd.R_lower ho0 (below_size (by repeat (first | (with_reducible first | exact HB.out | apply below_alloc | apply pw_below_drewN | apply below_drew1 | refine below_set ?_ GE125.out) | exact HB.out))))
                            have n1_ := Aside0.mk (blk_below (g := gb125) (o := .cells #[.int .u8 x126000_13, .slice none 0 0] 26 (0, 0)) (by (with_reducible repeat (first | refine blk_drewN ?_ _ | refine blk_drew ?_ | refine blk_alloc ?_ _)); exact BK125.out) hb)
                            have n2_ := Aside0.mk (below_step (by repeat (first | (with_reducible first | exact HB.out | apply below_alloc | apply pw_below_drewN | apply below_drew1 | refine below_set ?_ GE125.out) | exact HB.out)) hb)
                            clear BK125
                            clear HB
                            have HO141 := n0_
                            have BK125 := n1_
                            have HB := n2_
                            clear n0_ n1_ n2_
                            (try clear hb)
                            (try clear hb2)
                            (try clear hk)
                            (try clear hi)
                            (try clear ho0)
                            obtain ⟨Ao57, co57, eo57⟩ := Kd.R_slice HO141.out
                            (first | subst eo57 | (injection eo57 with f1_ f2_ f3_; have f4_ := f1_.symm; have f5_ := f3_.symm; clear f1_ f2_ f3_; subst f4_; subst f5_))
                            refine hK.out _ _ (((HB.out.cell (World.block_lt_of_cell? w _ hw137_0)).trans hw137_0)) (fun hHeld => ?_)
                            clear hK K
                            refine norm_ (a' := ?_) ?_ ?_
                            rotate_left
                            · show Act.put _ (some 97) _ = _
                              simp only [Act.put, List.setIfInBounds_toArray, List.set_cons_zero, List.set_cons_succ, i64_w, i32_w]
                              rfl
                            refine pure_ (i := 10) (N := some 98) (v := ?_) (a' := ?_) #[true, true, true, true, true, true, true, true, true, true, true, true, true, true, false, false, false] rfl rfl (any_of HT_.out (by kernel_rfl)) (fun _ _ _ h => h) (Or.inl ⟨by rfl, ?_⟩) ?_ ?_
                            rotate_left
                            · intro w'
                              go_simp
                              with_reducible rfl
                            rotate_left
                            · simp only [Act.put, List.setIfInBounds_toArray, List.set_cons_zero, List.set_cons_succ, i64_w, i32_w]
                              rfl
                            refine one_ (i := 14) (N := none) #[true, true, true, true, true, true, true, true, true, true, true, true, true, true, true, false, false] rfl rfl (one_of HT_.out (by kernel_rfl)) (by decide) (fun K hK => ?_)
                            have hs58 : w56.cell? ⟨gb125, 0, none⟩ = some (.int .u8 x126000_13) := (blk_cell BK125.out 0).trans rfl
                            have hfs58 := blk_frozen BK125.out 0
                            have hs59 : w56.cell? ⟨gb125, 1, none⟩ = some (.slice none 0 0) := (blk_cell BK125.out 1).trans rfl
                            have hfs59 := blk_frozen BK125.out 1
                            refine skip_ (w1 := ?_) (by rfl) rfl ?_ ?_
                            rotate_left
                            · go_simp
                              rfl
                            refine hK.out _ _ (((cell_far (p := ⟨gb125, _, none⟩) (by first | exact Nat.ne_of_lt (Nat.lt_of_lt_of_le (by have := World.block_lt_of_cell? _ _ hw137_0; first | rwa [add_block] at this | exact this) GW125.out) | (rw [add_block]; exact Nat.ne_of_lt (Nat.lt_of_lt_of_le (by have := World.block_lt_of_cell? _ _ hw137_0; first | rwa [add_block] at this | exact this) GW125.out)) | (show (Addr.add _ _).block ≠ _; rw [add_block]; exact Nat.ne_of_lt (Nat.lt_of_lt_of_le (by have := World.block_lt_of_cell? _ _ hw137_0; first | rwa [add_block] at this | exact this) GW125.out)) | (dsimp only; exact Nat.ne_of_lt (Nat.lt_of_lt_of_le (by have := World.block_lt_of_cell? _ _ hw137_0; first | rwa [add_block] at this | exact this) GW125.out))) _).trans (((cell_far (p := ⟨gb125, _, none⟩) (by first | exact Nat.ne_of_lt (Nat.lt_of_lt_of_le (by have := World.block_lt_of_cell? _ _ hw137_0; first | rwa [add_block] at this | exact this) GW125.out) | (rw [add_block]; exact Nat.ne_of_lt (Nat.lt_of_lt_of_le (by have := World.block_lt_of_cell? _ _ hw137_0; first | rwa [add_block] at this | exact this) GW125.out)) | (show (Addr.add _ _).block ≠ _; rw [add_block]; exact Nat.ne_of_lt (Nat.lt_of_lt_of_le (by have := World.block_lt_of_cell? _ _ hw137_0; first | rwa [add_block] at this | exact this) GW125.out)) | (dsimp only; exact Nat.ne_of_lt (Nat.lt_of_lt_of_le (by have := World.block_lt_of_cell? _ _ hw137_0; first | rwa [add_block] at this | exact this) GW125.out))) _).trans (hHeld))))) (fun hHeld => ?_)
                            clear hK K
                            refine pure_ (i := 15) (N := some 3) (v := ?_) (a' := ?_) #[true, true, true, true, true, true, true, true, true, true, true, true, true, true, true, true, false] rfl rfl (any_of HT_.out (by kernel_rfl)) (fun _ _ _ h => h) (Or.inl ⟨by rfl, ?_⟩) ?_ ?_
                            rotate_left
                            · intro w'
                              go_simp
                              with_reducible rfl
                            rotate_left
                            · simp only [Act.put, List.setIfInBounds_toArray, List.set_cons_zero, List.set_cons_succ, i64_w, i32_w]
                              rfl
                            refine pure_ (i := 16) (N := some 4) (v := ?_) (a' := ?_) #[true, true, true, true, true, true, true, true, true, true, true, true, true, true, true, true, true] rfl rfl (any_of HT_.out (by kernel_rfl)) (fun _ _ _ h => h) (Or.inl ⟨by rfl, ?_⟩) ?_ ?_
                            rotate_left
                            · intro w'
                              go_simp
                              with_reducible rfl
                            rotate_left
                            · simp only [Act.put, List.setIfInBounds_toArray, List.set_cons_zero, List.set_cons_succ, i64_w, i32_w]
                              rfl
                            refine done_ (done_of HT_.out (by kernel_rfl)) ?_
                            try go_wp2
                            refine bodyPost_ret (results_ctt rfl _ _ gb125 26 #[.int .u8 (rd l0 0), .slice Ao57 t139.length co57] (0, 0) _ rfl (by (with_reducible repeat (first | refine blk_drewN ?_ _ | refine blk_drew ?_ | refine blk_alloc ?_ _)); refine blk_put (cs := #[.int .u8 (rd l0 0), .slice none 0 0]) ?_ 1 _ rfl; (with_reducible repeat (first | refine blk_drewN ?_ _ | refine blk_drew ?_ | refine blk_alloc ?_ _)); refine blk_put (cs := #[.int .u8 x126000_13, .slice none 0 0]) ?_ 0 _ rfl; (with_reducible repeat (first | refine blk_drewN ?_ _ | refine blk_drew ?_ | refine blk_alloc ?_ _)); exact BK125.out) Try.underlying26 rfl (by kernel_rfl)) rfl ?_
                            exact ⟨_, by first | rfl | (simp [errW_none, errW_some] <;> rfl) | (simp [*, errW_none, errW_some] <;> rfl), by (with_reducible repeat (first | apply Kd.R_alloc | apply Kd.R_drewN | apply Kd.R_drew)); exact Kd.R_mono (Kd.R_far (p := ⟨gb125, 1, none⟩) (Kd.R_far (p := ⟨gb125, 0, none⟩) (Kd.R_types HO141.out BK125.out (by decide)) (fun _ hk => hk.2) (.int .u8 (rd l0 0))) (fun _ hk => hk.2) (.slice Ao57 t139.length co57)) (fun _ hk => trivial), by repeat (first | (with_reducible first | exact HB.out | apply below_alloc | apply pw_below_drewN | apply below_drew1 | refine below_set ?_ GE125.out) | exact HB.out)⟩
                          · rw [if_neg c52] at H
                            exact absurd H (by simp)
                        · rw [if_neg c51] at H
                          exact absurd H (by simp)
                      · rw [if_neg c50] at H
                        exact absurd H (by simp)
                    · rw [if_neg c49] at H
                      exact absurd H (by simp)
          · rw [if_neg c13] at H
            exact absurd H (by simp)
    · rw [if_neg c5] at H
      exact absurd H (by simp)

end Go.Proofs.Ytdogiefacgknmaa.Hp
