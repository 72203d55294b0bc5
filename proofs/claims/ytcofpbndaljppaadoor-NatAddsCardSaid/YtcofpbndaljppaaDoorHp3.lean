/- Go functions of this seat as Lean functions, and their contracts: what the Go code computes, for every input. (By hp.py, a program of this repo, over the kit's print.py.) -/
import Derived.Test.YtcofpbndaljppaaDoorHp0
import Derived.Test.YtcofpbndaljppaaDoorHp1
import Derived.Test.YtcofpbndaljppaaDoorHp2
namespace Go.Proofs.YtcofpbndaljppaaDoor.Hp
open Go.RowKit Go.Proofs.YtcofpbndaljppaaDoorW.PrintWords Go.Proofs.YtcofpbndaljppaaDoorW.PrintLast Go.Proofs.YtcofpbndaljppaaDoorW.PrintMore
attribute [local go_sem] max2_int min2_int max_two min_two max_three min_three max_four min_four   -- for this text's walks alone
set_option linter.unusedVariables false
set_option linter.unusedSimpArgs false

/-! ### nat_div: function 33 -/
mutual
def nat_div.l0 : Nat → Int → List Int → List Int → List Int → Int → Option (List Int × List Int)
 | 0, _, _, _, _, _ => none
 | k + 1, x6, x7, x8, x9, x10 => if x10 ≥ 0 then ((nat_guess.f k x7 x10 x8).bind fun t164 => ((nat_take.f k x7 x10 x8 t164).bind fun bt165 => (if bt165.1 = true then (nat_div.l1 k x6 bt165.2 x8 x9 x10 (IntKind.u64.wrap (t164 - 1)) 0 (x8.length : Int) 0) else (if 0 ≤ x10 then (if x10 < (x9.length : Int) then (nat_div.l0 k x6 bt165.2 x8 (x9.set (x10 : Int).toNat ((t164) % 4294967296)) (wrap64 (x10 - 1))) else (none)) else (none))))) else (if 0 ≤ (x8.length : Int) then (if ((x8.length : Int) : Int).toNat ≤ 70368744177664 then ((some (List.replicate ((x8.length : Int) : Int).toNat 0 : List Int)).bind fun y176 => (nat_div.l2 k x6 x7 x9 y176 (y176.length : Int) 0)) else (none)) else (none))
def nat_div.l1 : Nat → Int → List Int → List Int → List Int → Int → Int → Int → Int → Int → Option (List Int × List Int)
 | 0, _, _, _, _, _, _, _, _, _ => none
 | k + 1, x6, x7, x8, x9, x10, x11, x12, x61, x62 => if x62 < x61 then (if 0 ≤ (wrap64 (x62 + x10)) then (if (wrap64 (x62 + x10)) < (x7.length : Int) then (if 0 ≤ x62 then (if x62 < (x8.length : Int) then ((bits_Add32.f (rd x7 (wrap64 (x62 + x10))) (rd x8 x62) x12).bind fun bt169 => (nat_div.l1 k x6 (x7.set ((wrap64 (x62 + x10)) : Int).toNat bt169.1) x8 x9 x10 x11 bt169.2 x61 (wrap64 (x62 + 1)))) else (none)) else (none)) else (none)) else (none)) else (if 0 ≤ (wrap64 (x10 + (x8.length : Int))) then (if (wrap64 (x10 + (x8.length : Int))) < (x7.length : Int) then (if 0 ≤ x10 then (if x10 < (x9.length : Int) then (nat_div.l0 k x6 (x7.set ((wrap64 (x10 + (x8.length : Int))) : Int).toNat (((rd x7 (wrap64 (x10 + (x8.length : Int)))) + x12) % 4294967296)) x8 (x9.set (x10 : Int).toNat ((x11) % 4294967296)) (wrap64 (x10 - 1))) else (none)) else (none)) else (none)) else (none))
def nat_div.l2 : Nat → Int → List Int → List Int → List Int → Int → Int → Option (List Int × List Int)
 | 0, _, _, _, _, _, _ => none
 | k + 1, x6, x7, x9, x14, x105, x106 => if x106 < x105 then (if 0 ≤ (wrap64 (x106 + 1)) then (if (wrap64 (x106 + 1)) < (x7.length : Int) then (if 0 ≤ x106 then (if x106 < (x7.length : Int) then (if 0 ≤ x6 then (if x106 < (x14.length : Int) then (nat_div.l2 k x6 x7 x9 (x14.set (x106 : Int).toNat ((shr .u64 (Go.bits .or .u64 (IntKind.u64.wrap ((IntKind.u64.wrap (rd x7 (wrap64 (x106 + 1)))) * 4294967296)) (IntKind.u64.wrap (rd x7 x106))) x6) % 4294967296)) x105 (wrap64 (x106 + 1))) else (none)) else (none)) else (none)) else (none)) else (none)) else (none)) else ((nat_num_trim.f k x9).bind fun t182 => ((nat_num_trim.f k x14).bind fun t185 => (some (t182, t185))))
end
def nat_div.f (k : Nat) (l0 : List Int) (l1 : List Int) : Option (List Int × List Int) := (nat_compare.f k l0 l1).bind fun t149 => (if t149 < 0 then (some (([] : List Int), l0)) else (if 0 ≤ (wrap64 ((l1.length : Int) - 1)) then (if (wrap64 ((l1.length : Int) - 1)) < (l1.length : Int) then ((bits_LeadingZeros32.f (rd l1 (wrap64 ((l1.length : Int) - 1)))).bind fun t151 => ((nat_shift.f k l0 t151).bind fun t152 => ((nat_shift.f k l1 t151).bind fun t155 => ((nat_num_trim.f k t155).bind fun t158 => (if 0 ≤ (wrap64 ((wrap64 ((l0.length : Int) - (l1.length : Int))) + 1)) then (if (wrap64 ((wrap64 ((l0.length : Int) - (l1.length : Int))) + 1) : Int).toNat ≤ 70368744177664 then ((some (List.replicate (wrap64 ((wrap64 ((l0.length : Int) - (l1.length : Int))) + 1) : Int).toNat 0 : List Int)).bind fun y161 => (nat_div.l0 k t151 t152 t158 y161 (wrap64 ((y161.length : Int) - 1)))) else (none)) else (none)))))) else (none)) else (none)))
theorem nat_div.mono_l : ∀ k, (∀ y0 y1 y2 y3 y4, LeO (nat_div.l0 k y0 y1 y2 y3 y4) (nat_div.l0 (k + 1) y0 y1 y2 y3 y4)) ∧ (∀ y0 y1 y2 y3 y4 y5 y6 y7 y8, LeO (nat_div.l1 k y0 y1 y2 y3 y4 y5 y6 y7 y8) (nat_div.l1 (k + 1) y0 y1 y2 y3 y4 y5 y6 y7 y8)) ∧ (∀ y0 y1 y2 y3 y4 y5, LeO (nat_div.l2 k y0 y1 y2 y3 y4 y5) (nat_div.l2 (k + 1) y0 y1 y2 y3 y4 y5))
 | 0 => ⟨fun _ _ _ _ _ r h => by simp [nat_div.l0] at h, fun _ _ _ _ _ _ _ _ _ r h => by simp [nat_div.l1] at h, fun _ _ _ _ _ _ r h => by simp [nat_div.l2] at h⟩
 | k + 1 => by
  obtain ⟨ih0, ih1, ih2⟩ := nat_div.mono_l k
  refine ⟨?_, ?_, ?_⟩
  ·intro y0 y1 y2 y3 y4
   unfold nat_div.l0
   repeat' first
   | (with_reducible exact ih0 _ _ _ _ _)
   | (with_reducible exact ih1 _ _ _ _ _ _ _ _ _)
   | (with_reducible exact ih2 _ _ _ _ _ _)
   | (with_reducible exact nat_compare.mono _ _ _)
   | (with_reducible exact nat_guess.mono _ _ _ _)
   | (with_reducible exact nat_num_trim.mono _ _)
   | (with_reducible exact nat_shift.mono _ _ _)
   | (with_reducible exact nat_take.mono _ _ _ _ _)
   | (with_reducible exact LeO.refl _)
   | (with_reducible exact LeO.none _)
   | (with_reducible refine LeO.ite ?_ ?_)
   | (with_reducible refine LeO.bind ?_ (fun _ => ?_))
   | exact ih0 _ _ _ _ _
   | exact ih1 _ _ _ _ _ _ _ _ _
   | exact ih2 _ _ _ _ _ _
   | exact nat_compare.mono _ _ _
   | exact nat_guess.mono _ _ _ _
   | exact nat_num_trim.mono _ _
   | exact nat_shift.mono _ _ _
   | exact nat_take.mono _ _ _ _ _
   | exact LeO.none _
   | refine LeO.ite ?_ ?_
   | refine LeO.bind ?_ (fun _ => ?_)
  ·intro y0 y1 y2 y3 y4 y5 y6 y7 y8
   unfold nat_div.l1
   repeat' first
   | (with_reducible exact ih0 _ _ _ _ _)
   | (with_reducible exact ih1 _ _ _ _ _ _ _ _ _)
   | (with_reducible exact ih2 _ _ _ _ _ _)
   | (with_reducible exact nat_compare.mono _ _ _)
   | (with_reducible exact nat_guess.mono _ _ _ _)
   | (with_reducible exact nat_num_trim.mono _ _)
   | (with_reducible exact nat_shift.mono _ _ _)
   | (with_reducible exact nat_take.mono _ _ _ _ _)
   | (with_reducible exact LeO.refl _)
   | (with_reducible exact LeO.none _)
   | (with_reducible refine LeO.ite ?_ ?_)
   | (with_reducible refine LeO.bind ?_ (fun _ => ?_))
   | exact ih0 _ _ _ _ _
   | exact ih1 _ _ _ _ _ _ _ _ _
   | exact ih2 _ _ _ _ _ _
   | exact nat_compare.mono _ _ _
   | exact nat_guess.mono _ _ _ _
   | exact nat_num_trim.mono _ _
   | exact nat_shift.mono _ _ _
   | exact nat_take.mono _ _ _ _ _
   | exact LeO.none _
   | refine LeO.ite ?_ ?_
   | refine LeO.bind ?_ (fun _ => ?_)
  ·intro y0 y1 y2 y3 y4 y5
   unfold nat_div.l2
   repeat' first
   | (with_reducible exact ih0 _ _ _ _ _)
   | (with_reducible exact ih1 _ _ _ _ _ _ _ _ _)
   | (with_reducible exact ih2 _ _ _ _ _ _)
   | (with_reducible exact nat_compare.mono _ _ _)
   | (with_reducible exact nat_guess.mono _ _ _ _)
   | (with_reducible exact nat_num_trim.mono _ _)
   | (with_reducible exact nat_shift.mono _ _ _)
   | (with_reducible exact nat_take.mono _ _ _ _ _)
   | (with_reducible exact LeO.refl _)
   | (with_reducible exact LeO.none _)
   | (with_reducible refine LeO.ite ?_ ?_)
   | (with_reducible refine LeO.bind ?_ (fun _ => ?_))
   | exact ih0 _ _ _ _ _
   | exact ih1 _ _ _ _ _ _ _ _ _
   | exact ih2 _ _ _ _ _ _
   | exact nat_compare.mono _ _ _
   | exact nat_guess.mono _ _ _ _
   | exact nat_num_trim.mono _ _
   | exact nat_shift.mono _ _ _
   | exact nat_take.mono _ _ _ _ _
   | exact LeO.none _
   | refine LeO.ite ?_ ?_
   | refine LeO.bind ?_ (fun _ => ?_)
theorem nat_div.mono : ∀ a0 a1 k, LeO (nat_div.f k a0 a1) (nat_div.f (k + 1) a0 a1) := by
 intro a0 a1 k
 obtain ⟨ih0, ih1, ih2⟩ := nat_div.mono_l k
 unfold nat_div.f
 repeat' first
   | (with_reducible exact ih0 _ _ _ _ _)
   | (with_reducible exact ih1 _ _ _ _ _ _ _ _ _)
   | (with_reducible exact ih2 _ _ _ _ _ _)
   | (with_reducible exact nat_compare.mono _ _ _)
   | (with_reducible exact nat_guess.mono _ _ _ _)
   | (with_reducible exact nat_num_trim.mono _ _)
   | (with_reducible exact nat_shift.mono _ _ _)
   | (with_reducible exact nat_take.mono _ _ _ _ _)
   | (with_reducible exact LeO.refl _)
   | (with_reducible exact LeO.none _)
   | (with_reducible refine LeO.ite ?_ ?_)
   | (with_reducible refine LeO.bind ?_ (fun _ => ?_))
   | exact ih0 _ _ _ _ _
   | exact ih1 _ _ _ _ _ _ _ _ _
   | exact ih2 _ _ _ _ _ _
   | exact nat_compare.mono _ _ _
   | exact nat_guess.mono _ _ _ _
   | exact nat_num_trim.mono _ _
   | exact nat_shift.mono _ _ _
   | exact nat_take.mono _ _ _ _ _
   | exact LeO.none _
   | refine LeO.ite ?_ ?_
   | refine LeO.bind ?_ (fun _ => ?_)
def nat_div.T16 : Bool × List (List Nat × List Nat) := (true, [([], []), ([], []), ([], []), ([1, 2], [1, 2]), ([], []), ([], []), ([], []), ([5, 6], [5, 6]), ([4, 7], [4, 7]), ([8], [8]), ([], []), ([], []), ([10, 11], [10, 11]), ([12], [12]), ([], []), ([9, 13, 14], [9, 13, 14]), ([15], [15]), ([16], [16]), ([16], [16]), ([0, 3, 0, 1, 2, 3, 4, 5, 6, 7, 8, 9, 10, 11, 12, 13, 14, 15, 16, 17], [0, 3]), ([19, 17, 15, 0, 1, 2, 3, 4, 5, 6, 7, 8, 9, 10, 11, 12, 13, 14, 15, 16, 17], [17, 19]), ([18, 20, 0, 1, 2, 3, 4, 5, 6, 7, 8, 9, 10, 11, 12, 13, 14, 15, 16, 17, 18, 19, 20], [14, 18])])
def nat_div.B16 : List Nat := [0, 0, 0, 6, 0, 0, 0, 96, 240, 496, 0, 0, 3072, 7168, 0, 32752, 65520, 131056, 131056, 262143, 786431, 2097151]
theorem nat_div.tab16 : rtab .any (opsOf Tryd.f33 16) = nat_div.T16 := by kernel_rfl
theorem nat_div.bits16 : waitsOk nat_div.T16.2 nat_div.B16 = true := by kernel_rfl
def nat_div.T24 : Bool × List (List Nat × List Nat) := (true, [([], []), ([], []), ([], []), ([], []), ([3], [3]), ([2, 4], [2, 4]), ([5], [5]), ([6], [6]), ([7], [7]), ([], []), ([], []), ([9, 10], [9, 10]), ([11], [11]), ([12], [12]), ([8, 13], [8, 13]), ([], []), ([14, 15], [14, 15]), ([16], [16]), ([0, 1, 0, 1, 2, 3, 4, 5, 6, 7, 8, 9, 10, 11, 12, 13, 14, 15, 16, 17], [0, 1]), ([18, 17, 0, 1, 2, 3, 4, 5, 6, 7, 8, 9, 10, 11, 12, 13, 14, 15, 16, 17], [17, 18])])
def nat_div.B24 : List Nat := [0, 0, 0, 0, 8, 28, 60, 124, 252, 0, 0, 1536, 3584, 7680, 16380, 0, 65532, 131068, 262143, 524287]
theorem nat_div.tab24 : rtab .any (opsOf Tryd.f33 24) = nat_div.T24 := by kernel_rfl
theorem nat_div.bits24 : waitsOk nat_div.T24.2 nat_div.B24 = true := by kernel_rfl
set_option maxHeartbeats 8000000 in
set_option maxRecDepth 100000 in
theorem nat_div.calls (k : Nat) (P0_ : Nat → Prop) (A0 : Option Addr) (c0 : Nat) (l0 : List Int) (A1 : Option Addr) (c1 : Nat) (l1 : List Int) (r1 : List Int) (r2 : List Int) (w : World) (hs0 : Kd.V (Kd.int .u32) 55 w w.heap.size (fun k_ => P0_ k_) (.slice A0 l0.length c0) l0) (hr1 : Kd.C (Kd.int .u32) w A1 l1.length l1) (hc1 : l1.length ≤ c1) (h : nat_div.f k l0 l1 = some (r1, r2)) :
  Calls Tryd.prog 33 #[.slice A0 l0.length c0, .slice A1 l1.length c1] w fun e w' => ∃ v0_ v1_ : Value, e = .returned (.tuple #[v0_, v1_]) ∧ Kd.V (Kd.int .u32) 55 w' w.heap.size (fun k_ => (P0_ k_ ∨ w.heap.size ≤ k_)) v0_ r1 ∧ Kd.V (Kd.int .u32) 55 w' w.heap.size (fun k_ => (P0_ k_ ∨ w.heap.size ≤ k_)) v1_ r2 ∧ Below w.heap.size w w' := by
 have HO0 := Aside0.mk (show Kd.V (Kd.int .u32) 55 w w.heap.size (fun k_ => (P0_ k_ ∨ w.heap.size ≤ k_)) (.slice A0 l0.length c0) l0 from Kd.V_mono hs0 (fun k_ hk => .inl hk))
 have HR1 := Aside0.mk hr1
 have HC1 := Aside0.mk hc1
 clear hr1 hc1
 have HB := Aside0.mk (Below.refl w.heap.size w)
 have H : ((nat_compare.f k l0 l1).bind fun t149 => (if t149 < 0 then (some (([] : List Int), l0)) else (if 0 ≤ (wrap64 ((l1.length : Int) - 1)) then (if (wrap64 ((l1.length : Int) - 1)) < (l1.length : Int) then ((bits_LeadingZeros32.f (rd l1 (wrap64 ((l1.length : Int) - 1)))).bind fun t151 => ((nat_shift.f k l0 t151).bind fun t152 => ((nat_shift.f k l1 t151).bind fun t155 => ((nat_num_trim.f k t155).bind fun t158 => (if 0 ≤ (wrap64 ((wrap64 ((l0.length : Int) - (l1.length : Int))) + 1)) then (if (wrap64 ((wrap64 ((l0.length : Int) - (l1.length : Int))) + 1) : Int).toNat ≤ 70368744177664 then ((some (List.replicate (wrap64 ((wrap64 ((l0.length : Int) - (l1.length : Int))) + 1) : Int).toNat 0 : List Int)).bind fun y161 => (nat_div.l0 k t151 t152 t158 y161 (wrap64 ((y161.length : Int) - 1)))) else (none)) else (none)))))) else (none)) else (none)))) = some (r1, r2) := h
 clear h
 replace H := Option.bind_eq_some_iff.mp H
 obtain ⟨t149, A30, H⟩ := H
 replace H : (if t149 < 0 then (some (([] : List Int), l0)) else (if 0 ≤ (wrap64 ((l1.length : Int) - 1)) then (if (wrap64 ((l1.length : Int) - 1)) < (l1.length : Int) then ((bits_LeadingZeros32.f (rd l1 (wrap64 ((l1.length : Int) - 1)))).bind fun t151 => ((nat_shift.f k l0 t151).bind fun t152 => ((nat_shift.f k l1 t151).bind fun t155 => ((nat_num_trim.f k t155).bind fun t158 => (if 0 ≤ (wrap64 ((wrap64 ((l0.length : Int) - (l1.length : Int))) + 1)) then (if (wrap64 ((wrap64 ((l0.length : Int) - (l1.length : Int))) + 1) : Int).toNat ≤ 70368744177664 then ((some (List.replicate (wrap64 ((wrap64 ((l0.length : Int) - (l1.length : Int))) + 1) : Int).toNat 0 : List Int)).bind fun y161 => (nat_div.l0 k t151 t152 t158 y161 (wrap64 ((y161.length : Int) - 1)))) else (none)) else (none)))))) else (none)) else (none))) = some (r1, r2) := H
 have A3 := Aside0.mk A30
 clear A30
 by_cases c4 : t149 < 0
 ·rw [if_pos c4] at H
  have c4b0 : decide (t149 < 0) = true := decide_eq_true c4
  clear c4
  simp only [Option.some.injEq, Prod.mk.injEq] at H
  obtain ⟨rfl, rfl⟩ := H
  go_enter Tryd.func33, Tryd.ntmps33
  go_wp2_with (first | ((with_reducible refine gate_callee (f := 38) rfl ?_); refine goesA (some 18) Tryd.func38 #[.slice A0 l0.length c0, .slice A1 l1.length c1] rfl ?_; (with_reducible refine (nat_compare.calls k _ _ l0 _ _ l1 t149 _ ?side1 ?side2 ?side3 ?side4 A3.out).mono ?_); (case side1 => exact Cu (Kd.V_reads' HO0.out).2.2); (case side2 => exact (Kd.V_reads' HO0.out).2.1); (case side3 => exact Cu HR1.out); (case side4 => exact HC1.out); rintro e w' ⟨rfl, ⟨nd, rfl⟩⟩; refine ⟨_, rfl, ?_⟩))
  go_ret2
  exact ⟨_, _, rfl_, Kd.V_nil _ _ _ _ _, Vu HO0, Bu HB⟩
 ·rw [if_neg c4] at H
  have c4b0 : decide (t149 < 0) = false := decide_eq_false c4
  clear c4
  obtain ⟨ji5, hji5⟩ : ∃ j_ : Int, (wrap64 ((l1.length : Int) - 1)) = j_ := ⟨_, rfl⟩
  replace H : (if 0 ≤ (ji5) then (if (ji5) < (l1.length : Int) then ((bits_LeadingZeros32.f (rd l1 (ji5))).bind fun t151 => ((nat_shift.f k l0 t151).bind fun t152 => ((nat_shift.f k l1 t151).bind fun t155 => ((nat_num_trim.f k t155).bind fun t158 => (if 0 ≤ (wrap64 ((wrap64 ((l0.length : Int) - (l1.length : Int))) + 1)) then (if (wrap64 ((wrap64 ((l0.length : Int) - (l1.length : Int))) + 1) : Int).toNat ≤ 70368744177664 then ((some (List.replicate (wrap64 ((wrap64 ((l0.length : Int) - (l1.length : Int))) + 1) : Int).toNat 0 : List Int)).bind fun y161 => (nat_div.l0 k t151 t152 t158 y161 (wrap64 ((y161.length : Int) - 1)))) else (none)) else (none)))))) else (none)) else (none)) = some (r1, r2) := by first | (rw [hji5] at H; exact H) | (simp only [hji5] at H ⊢; exact H)
  (try rw [hji5] at A3)
  have hji5w : (IntKind.i64.wrap ((l1.length : Int) - 1)) = ji5 := (i64_w _).trans hji5
  by_cases c6 : 0 ≤ (ji5)
  ·rw [if_pos c6] at H
   have c6b0 : decide (0 ≤ (ji5)) = true := decide_eq_true c6
   clear c6
   by_cases c7 : (ji5) < (l1.length : Int)
   ·rw [if_pos c7] at H
    have c7b0 : decide ((ji5) < (l1.length : Int)) = true := decide_eq_true c7
    clear c7
    replace H := Option.bind_eq_some_iff.mp H
    obtain ⟨t151, A80, H⟩ := H
    replace H : ((nat_shift.f k l0 t151).bind fun t152 => ((nat_shift.f k l1 t151).bind fun t155 => ((nat_num_trim.f k t155).bind fun t158 => (if 0 ≤ (wrap64 ((wrap64 ((l0.length : Int) - (l1.length : Int))) + 1)) then (if (wrap64 ((wrap64 ((l0.length : Int) - (l1.length : Int))) + 1) : Int).toNat ≤ 70368744177664 then ((some (List.replicate (wrap64 ((wrap64 ((l0.length : Int) - (l1.length : Int))) + 1) : Int).toNat 0 : List Int)).bind fun y161 => (nat_div.l0 k t151 t152 t158 y161 (wrap64 ((y161.length : Int) - 1)))) else (none)) else (none))))) = some (r1, r2) := H
    have A8 := Aside0.mk A80
    clear A80
    replace H := Option.bind_eq_some_iff.mp H
    obtain ⟨t152, A90, H⟩ := H
    replace H : ((nat_shift.f k l1 t151).bind fun t155 => ((nat_num_trim.f k t155).bind fun t158 => (if 0 ≤ (wrap64 ((wrap64 ((l0.length : Int) - (l1.length : Int))) + 1)) then (if (wrap64 ((wrap64 ((l0.length : Int) - (l1.length : Int))) + 1) : Int).toNat ≤ 70368744177664 then ((some (List.replicate (wrap64 ((wrap64 ((l0.length : Int) - (l1.length : Int))) + 1) : Int).toNat 0 : List Int)).bind fun y161 => (nat_div.l0 k t151 t152 t158 y161 (wrap64 ((y161.length : Int) - 1)))) else (none)) else (none)))) = some (r1, r2) := H
    have A9 := Aside0.mk A90
    clear A90
    replace H := Option.bind_eq_some_iff.mp H
    obtain ⟨t155, A100, H⟩ := H
    replace H : ((nat_num_trim.f k t155).bind fun t158 => (if 0 ≤ (wrap64 ((wrap64 ((l0.length : Int) - (l1.length : Int))) + 1)) then (if (wrap64 ((wrap64 ((l0.length : Int) - (l1.length : Int))) + 1) : Int).toNat ≤ 70368744177664 then ((some (List.replicate (wrap64 ((wrap64 ((l0.length : Int) - (l1.length : Int))) + 1) : Int).toNat 0 : List Int)).bind fun y161 => (nat_div.l0 k t151 t152 t158 y161 (wrap64 ((y161.length : Int) - 1)))) else (none)) else (none))) = some (r1, r2) := H
    have A10 := Aside0.mk A100
    clear A100
    replace H := Option.bind_eq_some_iff.mp H
    obtain ⟨t158, A110, H⟩ := H
    replace H : (if 0 ≤ (wrap64 ((wrap64 ((l0.length : Int) - (l1.length : Int))) + 1)) then (if (wrap64 ((wrap64 ((l0.length : Int) - (l1.length : Int))) + 1) : Int).toNat ≤ 70368744177664 then ((some (List.replicate (wrap64 ((wrap64 ((l0.length : Int) - (l1.length : Int))) + 1) : Int).toNat 0 : List Int)).bind fun y161 => (nat_div.l0 k t151 t152 t158 y161 (wrap64 ((y161.length : Int) - 1)))) else (none)) else (none)) = some (r1, r2) := H
    have A11 := Aside0.mk A110
    clear A110
    obtain ⟨ji12, hji12⟩ : ∃ j_ : Int, (wrap64 ((wrap64 ((l0.length : Int) - (l1.length : Int))) + 1)) = j_ := ⟨_, rfl⟩
    replace H : (if 0 ≤ (ji12) then (if (ji12 : Int).toNat ≤ 70368744177664 then ((some (List.replicate (ji12 : Int).toNat 0 : List Int)).bind fun y161 => (nat_div.l0 k t151 t152 t158 y161 (wrap64 ((y161.length : Int) - 1)))) else (none)) else (none)) = some (r1, r2) := by first | (rw [hji12] at H; exact H) | (simp only [hji12] at H ⊢; exact H)
    (try rw [hji12] at A3)
    (try rw [hji12] at A8)
    (try rw [hji12] at A9)
    (try rw [hji12] at A10)
    (try rw [hji12] at A11)
    have hji12w : (IntKind.i64.wrap ((wrap64 ((l0.length : Int) - (l1.length : Int))) + 1)) = ji12 := (i64_w _).trans hji12
    by_cases c13 : 0 ≤ (ji12)
    ·rw [if_pos c13] at H
     have c13b0 := eq_true c13
     have c13b1 : decide (0 ≤ (ji12)) = true := decide_eq_true c13
     clear c13
     by_cases c14 : (ji12 : Int).toNat ≤ 70368744177664
     ·rw [if_pos c14] at H
      have c14b0 := eq_true c14
      have c14b1 : decide ((ji12 : Int).toNat ≤ 70368744177664) = true := decide_eq_true c14
      clear c14
      obtain ⟨y161, hy161⟩ : ∃ y_ : List Int, y_ = (List.replicate (ji12 : Int).toNat 0) := ⟨_, rfl⟩
      replace H : (nat_div.l0 k t151 t152 t158 y161 (wrap64 ((y161.length : Int) - 1))) = some (r1, r2) := by first | (rw [hy161]; with_reducible exact H) | (have H2_ := (Option.bind_some _ _).symm.trans H; rw [hy161]; with_reducible exact H2_) | (have H2_ := (Option.bind_some _ _).symm.trans H; with_reducible exact H2_) | with_reducible exact H | (rw [hy161]; exact H) | exact H
      have Ny161 := Aside0.mk hy161
      clear hy161
      have H' := Aside0.mk H
      clear H
      go_enter Tryd.func33, Tryd.ntmps33
      go_wp2_with (first | ((with_reducible refine gate_callee (f := 38) rfl ?_); refine goesA (some 18) Tryd.func38 #[.slice A0 l0.length c0, .slice A1 l1.length c1] rfl ?_; (with_reducible refine (nat_compare.calls k _ _ l0 _ _ l1 t149 _ ?side1 ?side2 ?side3 ?side4 A3.out).mono ?_); (case side1 => exact Cu (Kd.V_reads' HO0.out).2.2); (case side2 => exact (Kd.V_reads' HO0.out).2.1); (case side3 => exact Cu HR1.out); (case side4 => exact HC1.out); rintro e w' ⟨rfl, ⟨nd, rfl⟩⟩; refine ⟨_, rfl, ?_⟩; have p150 : 0 ≤ ((ji5) : Int) := of_decide_eq_true (by first | (with_reducible assumption) | assumption); have q150 : (ji5) < (l1.length : Int) := of_decide_eq_true (by first | (with_reducible assumption) | assumption); obtain ⟨ad150, e150, hx150_0⟩ := Kd.at_int HR1.out (ji5) p150 q150; cases e150; replace p150 := eq_true p150; replace q150 := eq_true q150) | ((with_reducible refine gate_callee (f := 47) rfl ?_); refine goesL_ (some 27) rfl rfl Tryd.func47 (by kernel_rfl) rfl #[.int .u32 (rd l1 (ji5))] rfl (by (try simp only [List.map_toArray, List.map_cons, List.map_nil]); first | done | (simp only [hji5]; rfl) | rfl | (simp only [List.length_drop, List.length_take]; rfl)) ?_; (with_reducible refine (bits_LeadingZeros32.calls (rd l1 (ji5)) t151 _ A8.out).mono ?_); rintro e w' ⟨rfl, ⟨nd, rfl⟩⟩; refine ⟨_, rfl, ?_⟩) | ((with_reducible refine gate_callee (f := 48) rfl ?_); refine goesA (some 30) Tryd.func48 #[.slice A0 l0.length c0, .int .i64 t151] rfl ?_; (with_reducible refine (nat_shift.calls k _ _ l0 t151 t152 _ ?side1 ?side2 A9.out).mono ?_); (case side1 => exact Cu (Kd.V_reads' HO0.out).2.2); (case side2 => exact (Kd.V_reads' HO0.out).2.1); rintro e w15 ⟨v153, rfl, ho0, hb⟩; refine ⟨_, rfl, ?_⟩; have n0_ := Ve HO0 (Kd.R_base ho0) hb; have n1_ := Aside0.mk (Kd.R_lower (Kd.R_newM (M := fun k_ => (w.heap.size ≤ k_)) ho0 (Bz HB) (fun k_ h_ => h_)) (Bz HB)); have n2_ := Bs HB hb; clear HO0 HB; revert n0_ n1_ n2_; intro HO0 HO154 HB; (try clear hb); (try clear hb2); (try clear hk); (try clear hi); (try clear ho0)) | ((with_reducible refine gate_callee (f := 48) rfl ?_); refine goesA (some 33) Tryd.func48 #[.slice (some ad150) l1.length c1, .int .i64 t151] rfl ?_; (with_reducible refine (nat_shift.calls k _ _ l1 t151 t155 _ ?side1 ?side2 A10.out).mono ?_); (case side1 => exact Cu (Kd.C_below HR1.out HB.out)); (case side2 => exact HC1.out); rintro e w16 ⟨v156, rfl, ho0, hb⟩; refine ⟨_, rfl, ?_⟩; have n0_ := Ve HO0 (Kd.R_base ho0) hb; have n1_ := Re HO154 (Kd.R_base ho0) hb; have n2_ := Aside0.mk (Kd.R_lower (Kd.R_new' (Kd.R_newM (M := fun k_ => (w.heap.size ≤ k_)) ho0 (Bz HB) (fun k_ h_ => h_)) (Kd.R_lt (Ru HO154))) (Bz HB)); have n3_ := Bs HB hb; clear HO0 HO154 HB; revert n0_ n1_ n2_ n3_; intro HO0 HO154 HO157 HB; (try clear hb); (try clear hb2); (try clear hk); (try clear hi); (try clear ho0); obtain ⟨Ao17, co17, eo17⟩ := Kd.R_slice HO157.out; subst eo17) | ((with_reducible refine gate_callee (f := 44) rfl ?_); refine goesA (some 34) Tryd.func44 #[.slice Ao17 t155.length co17] rfl ?_; (with_reducible refine (nat_num_trim.calls k (fun k_ => some k_ = (.slice Ao17 t155.length co17 : Value).ownBlock) _ _ t155 t158 _ ?side1 A11.out).mono ?_); (case side1 => exact Kd.R_V (Kd.R_tight rfl (HO157.out))); rintro e w18 ⟨v159, rfl, ho0, hb⟩; refine ⟨_, rfl, ?_⟩; have n0_ := Vb HO0 hb; have n1_ := Rb HO154 hb; have n2_ := Rb HO157 hb; have n3_ := Aside0.mk (Kd.V_lower (Kd.V_mono (ok' := fun k_ => (P0_ k_ ∨ w.heap.size ≤ k_) ∧ some k_ ≠ (v153 : Value).ownBlock) ho0 (fun k_ hk_ => ⟨Or.elim hk_ (fun hs_ => (.inr (((HO157.out).1 k_ hs_.symm).1.1))) (fun hn_ => (.inr (Nat.le_trans (Bz HB) hn_))), Or.elim hk_ (fun hs_ => ((HO157.out).1 k_ hs_.symm).2) (fun hn_ => (Kd.fresh' (Kd.R_lt (Ru HO154)) k_ hn_))⟩)) (Bz HB)); have n4_ := Bs HB hb; clear HO0 HO154 HO157 HB; revert n0_ n1_ n2_ n3_ n4_; intro HO0 HO154 HO157 HO160 HB; (try clear hb); (try clear hb2); (try clear hk); (try clear hi); (try clear ho0)) | ((with_reducible refine gate_dst (N := 41) rfl ?_); refine Kd.R_make (Kd.int .u32) _ 55 rfl (N := 41) rfl 47 _ _ rfl ji12 rfl rfl Tryd.underlying47 (.int .u32 0) 4 info55 rfl (by decide) (by omega) 0 (ok := fun _ => True) (okp := fun _ => True) rfl (fun _ hk => hk) trivial (of_decide_eq_true (by first | (with_reducible assumption) | assumption)) (Nat.le_trans (Nat.mul_le_mul_right _ (of_decide_eq_true (by first | (with_reducible assumption) | assumption) : ji12.toNat ≤ 70368744177664)) (by omega)) (Below.refl _ _) (Nat.le_refl _) ?_; intro v162 w19 ho20 hb hg_ hnew_; clear hg_ hnew_; (first | rw [← Ny161.out] at ho20 | (simp only [Int.reduceToNat] at ho20; rw [← Ny161.out] at ho20)); have n0_ := Ve HO0 (Kd.R_base ho20) hb; have n1_ := Re HO154 (Kd.R_base ho20) hb; have n2_ := Re HO157 (Kd.R_base ho20) hb; have n3_ := Ve HO160 (Kd.R_base ho20) hb; have n4_ := Aside0.mk (Kd.R_lower (Kd.R_new' (Kd.R_new' (Kd.R_newM (M := fun k_ => (w.heap.size ≤ k_)) ho20 (Bz HB) (fun k_ h_ => h_)) (Kd.R_lt (Ru HO154))) (Kd.R_lt (Ru HO157))) (Bz HB)); have n5_ := Bs HB hb; clear HO0 HO154 HO157 HO160 HB; revert n0_ n1_ n2_ n3_ n4_ n5_; intro HO0 HO154 HO157 HO160 HO163 HB; clear hb ho20; obtain ⟨Ao21, co21, eo21⟩ := Kd.R_slice HO163.out; subst eo21))
      go_loopg [10] k (fun kq v10 w' => ∃ (x7_1 : List Int) (x9_1 : List Int) (x10_1 : Int), v10 = .int .i64 x10_1 ∧ Aside0 (nat_div.l0 kq t151 x7_1 t158 x9_1 x10_1 = some (r1, r2)) ∧ Aside0 (kq ≤ k) ∧ Aside0 (Kd.R (Kd.int .u32) 55 w' w.heap.size (fun k_ => (w.heap.size ≤ k_) ∧ some k_ ≠ ((.slice Ao21 y161.length co21) : Value).ownBlock) v153 x7_1) ∧ Aside0 (Kd.V (Kd.int .u32) 55 w' w.heap.size (fun k_ => (P0_ k_ ∨ w.heap.size ≤ k_) ∧ some k_ ≠ (v153 : Value).ownBlock ∧ some k_ ≠ ((.slice Ao21 y161.length co21) : Value).ownBlock) v159 t158) ∧ Aside0 (Kd.R (Kd.int .u32) 55 w' w.heap.size (fun k_ => (w.heap.size ≤ k_) ∧ some k_ ≠ (v153 : Value).ownBlock) (.slice Ao21 y161.length co21) x9_1) ∧ Aside0 (Below w.heap.size w w'))
      case atStart => exact ⟨(t152), (y161), (wrap64 ((y161.length : Int) - 1)), (by first | rfl | (simp; done) | (simp [*]; done)), H', ⟨Nat.le_refl _⟩, ⟨by (with_reducible repeat (first | apply Kd.R_alloc | apply Kd.R_drewN | apply Kd.R_drew)); exact Kd.R_mono HO154.out (fun _ hk => ⟨hk.1.1.1, hk.2⟩)⟩, ⟨by (with_reducible repeat (first | apply Kd.V_alloc | apply Kd.V_drewN | apply Kd.V_drew)); exact Kd.V_mono HO160.out (fun _ hk => ⟨hk.1.1, ⟨hk.1.2, hk.2⟩⟩)⟩, ⟨by (with_reducible repeat (first | apply Kd.R_alloc | apply Kd.R_drewN | apply Kd.R_drew)); exact Kd.R_mono HO163.out (fun _ hk => ⟨hk.1.1.1, hk.1.2⟩)⟩, ⟨Bu HB⟩⟩
      case round =>
       clear H'
       try clear c1
       try clear p1
       try clear q1
       try clear hx1
       try clear p2
       try clear c3
       try clear c4
       try clear c4b0
       try clear c6
       try clear c6b0
       try clear p6
       try clear c7
       try clear c7b0
       try clear c13
       try clear c13b0
       try clear c13b1
       try clear c14
       try clear c14b0
       try clear c14b1
       try clear p15
       try clear q15
       try clear hx15
       try clear hx150_0
       try clear p150
       try clear q150
       obtain ⟨x7_1, x9_1, x10_1, rfl, HA, HK1, HO_7, HO_8, HO_9, HB⟩ := hrel
       have hl9_1 := (Kd.R_reads' HO_9.out).1
       rw [hl9_1] at HO_9
       (try simp only [hl9_1])
       (try simp only [hl9_1] at HO_7)
       (try simp only [hl9_1] at HO_8)
       cases gk with
       | zero => exact absurd HA.out (by simp [nat_div.l0])
       | succ k1 =>
        have H := HA.out
        clear HA
        simp only [nat_div.l0] at H
        by_cases c22 : x10_1 ≥ 0
        ·rw [if_pos c22] at H
         have c22b0 : decide (0 ≤ x10_1) = true := decide_eq_true c22
         clear c22
         replace H := Option.bind_eq_some_iff.mp H
         obtain ⟨t164, A230, H⟩ := H
         replace H : ((nat_take.f k1 x7_1 x10_1 t158 t164).bind fun bt165 => (if bt165.1 = true then (nat_div.l1 k1 t151 bt165.2 t158 x9_1 x10_1 (IntKind.u64.wrap (t164 - 1)) 0 (t158.length : Int) 0) else (if 0 ≤ x10_1 then (if x10_1 < (x9_1.length : Int) then (nat_div.l0 k1 t151 bt165.2 t158 (x9_1.set (x10_1 : Int).toNat ((t164) % 4294967296)) (wrap64 (x10_1 - 1))) else (none)) else (none)))) = some (r1, r2) := H
         have A23 := Aside0.mk A230
         clear A230
         replace H := Option.bind_eq_some_iff.mp H
         obtain ⟨⟨t165, t166⟩, A240, H⟩ := H
         replace H : (if t165 = true then (nat_div.l1 k1 t151 t166 t158 x9_1 x10_1 (IntKind.u64.wrap (t164 - 1)) 0 (t158.length : Int) 0) else (if 0 ≤ x10_1 then (if x10_1 < (x9_1.length : Int) then (nat_div.l0 k1 t151 t166 t158 (x9_1.set (x10_1 : Int).toNat ((t164) % 4294967296)) (wrap64 (x10_1 - 1))) else (none)) else (none))) = some (r1, r2) := H
         have A24 := Aside0.mk A240
         clear A240
         by_cases c25 : t165 = true
         ·subst c25
          have H1 : (nat_div.l1 k1 t151 t166 t158 x9_1 x10_1 (IntKind.u64.wrap (t164 - 1)) 0 (t158.length : Int) 0) = some (r1, r2) := by rw [if_pos rfl] at H; exact H
          clear H
          have H := H1
          clear H1
          have H' := Aside0.mk H
          clear H
          obtain ⟨Ao26, co26, eo26⟩ := Kd.R_slice HO_7.out
          subst eo26
          obtain ⟨Ao27, co27, eo27⟩ := Kd.V_slice HO_8.out
          subst eo27
          go_wp2_with (first | ((with_reducible refine gate_callee (f := 49) rfl ?_); refine goesA (some 52) Tryd.func49 #[.slice Ao26 x7_1.length co26, .int .i64 x10_1, .slice Ao27 t158.length co27] rfl ?_; (with_reducible refine (nat_guess.calls k1 _ _ x7_1 x10_1 _ _ t158 t164 _ ?side1 ?side2 ?side3 ?side4 A23.out).mono ?_); (case side1 => exact Cu (Kd.R_reads' HO_7.out).2.2); (case side2 => exact (Kd.R_reads' HO_7.out).2.1); (case side3 => exact Cu (Kd.V_reads' HO_8.out).2.2); (case side4 => exact (Kd.V_reads' HO_8.out).2.1); rintro e w' ⟨rfl, ⟨nd, rfl⟩⟩; refine ⟨_, rfl, ?_⟩) | ((with_reducible refine gate_callee (f := 50) rfl ?_); refine goesA (some 57) Tryd.func50 #[.slice Ao26 x7_1.length co26, .int .i64 x10_1, .slice Ao27 t158.length co27, .int .u64 t164] rfl ?_; (with_reducible refine (nat_take.calls k1 (fun k_ => some k_ = (.slice Ao26 x7_1.length co26 : Value).ownBlock) (.slice Ao26 x7_1.length co26) x7_1 x10_1 _ _ t158 t164 true t166 w _ ?side1 ?side2 ?side3 ?side4 A24.out).mono ?_); (case side1 => repeat (first | (with_reducible first | exact HB.out | apply below_alloc | apply pw_below_drewN | apply below_drew1) | exact HB.out)); (case side2 => exact Kd.R_tight rfl HO_7.out); (case side3 => exact Kd.C_kept_ownV (e := 0) (base := 0) (HO_8.out) (fun k_ hk_ hs_ => (hk_.2.1) hs_)); (case side4 => exact (Kd.V_reads' HO_8.out).2.1); rintro e w28 ⟨rfl, hy0, hb, hkp⟩; refine ⟨_, rfl, ?_⟩; have n0_ := Aside0.mk (Kd.R_reok rfl hy0 (fun k_ e_ => HO_7.out.1 k_ e_)); have n1_ := Aside0.mk (Kd.V_mono (ok' := fun k_ => (P0_ k_ ∨ w.heap.size ≤ k_) ∧ some k_ ≠ (.slice Ao26 x7_1.length co26 : Value).ownBlock ∧ some k_ ≠ (.slice Ao21 x9_1.length co21 : Value).ownBlock) (Kd.V_keptB (HO_8.out) hkp (fun k_ hk_ hs_ => (hk_.2.1) hs_)) (fun k_ hk_ => ⟨hk_.1.1, hk_.1.2.1, hk_.1.2.2⟩)); have n2_ := Aside0.mk (Kd.R_mono (ok' := fun k_ => (w.heap.size ≤ k_) ∧ some k_ ≠ (.slice Ao26 x7_1.length co26 : Value).ownBlock) (Kd.R_keptB (HO_9.out) hkp (fun k_ hk_ hs_ => (hk_.2) hs_)) (fun k_ hk_ => ⟨hk_.1.1, hk_.1.2⟩)); have n3_ := Aside0.mk (hb); clear HO_7 HO_8 HO_9 HB; revert n0_ n1_ n2_ n3_; intro HO_7 HO_8 HO_9 HB; (try clear hb); (try clear hkp); (try clear hy0)))
          go_loopg [12, 62] k1 (fun kq v12 v62 w' => ∃ (x7_2 : List Int) (x12_2 : Int) (x62_2 : Int), v12 = .int .u32 x12_2 ∧ v62 = .int .i64 x62_2 ∧ Aside0 (nat_div.l1 kq t151 x7_2 t158 x9_1 x10_1 (IntKind.u64.wrap (t164 - 1)) x12_2 (t158.length : Int) x62_2 = some (r1, r2)) ∧ Aside0 (kq ≤ k1) ∧ Aside0 (Kd.R (Kd.int .u32) 55 w' w.heap.size (fun k_ => (w.heap.size ≤ k_) ∧ some k_ ≠ ((.slice Ao21 x9_1.length co21) : Value).ownBlock) (.slice Ao26 x7_1.length co26) x7_2) ∧ Aside0 (Kd.V (Kd.int .u32) 55 w' w.heap.size (fun k_ => (P0_ k_ ∨ w.heap.size ≤ k_) ∧ some k_ ≠ ((.slice Ao26 x7_1.length co26) : Value).ownBlock ∧ some k_ ≠ ((.slice Ao21 x9_1.length co21) : Value).ownBlock) (.slice Ao27 t158.length co27) t158) ∧ Aside0 (Kd.R (Kd.int .u32) 55 w' w.heap.size (fun k_ => (w.heap.size ≤ k_) ∧ some k_ ≠ ((.slice Ao26 x7_1.length co26) : Value).ownBlock) (.slice Ao21 x9_1.length co21) x9_1) ∧ Aside0 (Below w.heap.size w w'))
          case atStart => exact ⟨(t166), (0), (0), (by first | rfl | (simp; done) | (simp [*]; done)), (by first | rfl | (simp; done) | (simp [*]; done)), H', ⟨Nat.le_refl _⟩, ⟨by (try simp only [hl9_1]); (with_reducible repeat (first | apply Kd.R_alloc | apply Kd.R_drewN | apply Kd.R_drew)); exact HO_7.out⟩, ⟨by (try simp only [hl9_1]); (with_reducible repeat (first | apply Kd.V_alloc | apply Kd.V_drewN | apply Kd.V_drew)); exact HO_8.out⟩, ⟨by (try simp only [hl9_1]); (with_reducible repeat (first | apply Kd.R_alloc | apply Kd.R_drewN | apply Kd.R_drew)); exact HO_9.out⟩, ⟨Bu HB⟩⟩
          case round =>
           clear H'
           try clear c1
           try clear p1
           try clear q1
           try clear hx1
           try clear c2
           try clear p2
           try clear c3
           try clear c4
           try clear c4b0
           try clear c5
           try clear c6
           try clear c6b0
           try clear p6
           try clear c7
           try clear c7b0
           try clear c13
           try clear c13b0
           try clear c13b1
           try clear c14
           try clear c14b0
           try clear c14b1
           try clear p15
           try clear q15
           try clear hx15
           try clear c22
           try clear c22b0
           try clear c25
           try clear hx150_0
           try clear p1
           try clear p15
           try clear p150
           try clear p2
           try clear p6
           try clear q1
           try clear q15
           try clear q150
           obtain ⟨x7_2, x12_2, x62_2, rfl, rfl, HA, HK2, HO_7, HO_8, HO_9, HB⟩ := hrel
           have hl7_2 := (Kd.R_reads' HO_7.out).1
           rw [hl7_2] at HO_7
           (try simp only [hl7_2])
           (try simp only [hl7_2] at HO_8)
           (try simp only [hl7_2] at HO_9)
           cases gk with
           | zero => exact absurd HA.out (by simp [nat_div.l1])
           | succ k2 =>
            have H := HA.out
            clear HA
            simp only [nat_div.l1] at H
            by_cases c29 : x62_2 < (t158.length : Int)
            ·rw [if_pos c29] at H
             have c29b0 : decide (x62_2 < (t158.length : Int)) = true := decide_eq_true c29
             (try (have c29b0zhl7_2 := c29b0; rw [hl7_2] at c29b0zhl7_2))
             (try (have c29b0zhl9_1 := c29b0; rw [hl9_1] at c29b0zhl9_1))
             clear c29
             obtain ⟨ji30, hji30⟩ : ∃ j_ : Int, (wrap64 (x62_2 + x10_1)) = j_ := ⟨_, rfl⟩
             replace H : (if 0 ≤ (ji30) then (if (ji30) < (x7_2.length : Int) then (if 0 ≤ x62_2 then (if x62_2 < (t158.length : Int) then ((bits_Add32.f (rd x7_2 (ji30)) (rd t158 x62_2) x12_2).bind fun bt169 => (nat_div.l1 k2 t151 (x7_2.set ((ji30) : Int).toNat bt169.1) t158 x9_1 x10_1 (IntKind.u64.wrap (t164 - 1)) bt169.2 (t158.length : Int) (wrap64 (x62_2 + 1)))) else (none)) else (none)) else (none)) else (none)) = some (r1, r2) := by first | (rw [hji30] at H; exact H) | (simp only [hji30] at H ⊢; exact H)
             have hji30w : (IntKind.i64.wrap (x62_2 + x10_1)) = ji30 := (i64_w _).trans hji30
             by_cases c31 : 0 ≤ (ji30)
             ·rw [if_pos c31] at H
              have c31b0 : decide (0 ≤ (ji30)) = true := decide_eq_true c31
              clear c31
              by_cases c32 : (ji30) < (x7_2.length : Int)
              ·rw [if_pos c32] at H
               have c32b0 : decide ((ji30) < (x7_2.length : Int)) = true := decide_eq_true c32
               clear c32
               by_cases c33 : 0 ≤ x62_2
               ·rw [if_pos c33] at H
                have c33b0 : decide (0 ≤ x62_2) = true := decide_eq_true c33
                clear c33
                by_cases c34 : x62_2 < (t158.length : Int)
                ·rw [if_pos c34] at H
                 have c34b0 : decide (x62_2 < (t158.length : Int)) = true := decide_eq_true c34
                 (try (have c34b0zhl7_2 := c34b0; rw [hl7_2] at c34b0zhl7_2))
                 (try (have c34b0zhl9_1 := c34b0; rw [hl9_1] at c34b0zhl9_1))
                 clear c34
                 replace H := Option.bind_eq_some_iff.mp H
                 obtain ⟨⟨t169, t170⟩, A350, H⟩ := H
                 replace H : (nat_div.l1 k2 t151 (x7_2.set ((ji30) : Int).toNat t169) t158 x9_1 x10_1 (IntKind.u64.wrap (t164 - 1)) t170 (t158.length : Int) (wrap64 (x62_2 + 1))) = some (r1, r2) := H
                 have A35 := Aside0.mk A350
                 clear A350
                 obtain ⟨y171, hy171⟩ : ∃ y_ : List Int, y_ = (x7_2.set ((ji30) : Int).toNat t169) := ⟨_, rfl⟩
                 replace H : (nat_div.l1 k2 t151 y171 t158 x9_1 x10_1 (IntKind.u64.wrap (t164 - 1)) t170 (t158.length : Int) (wrap64 (x62_2 + 1))) = some (r1, r2) := by first | (rw [hy171]; with_reducible exact H) | (have H2_ := (Option.bind_some _ _).symm.trans H; rw [hy171]; with_reducible exact H2_) | (have H2_ := (Option.bind_some _ _).symm.trans H; with_reducible exact H2_) | with_reducible exact H | (rw [hy171]; exact H) | exact H
                 have Ny171 := Aside0.mk hy171
                 clear hy171
                 have H' := Aside0.mk H
                 clear H
                 try go_wp2
                 have n0_ := Aside0.mk (Kd.R_drew HO_7.out)
                 have n1_ := Aside0.mk (Kd.V_drew HO_8.out)
                 have n2_ := Aside0.mk (Kd.R_drew HO_9.out)
                 have n3_ := Aside0.mk (below_drew1 HB.out)
                 clear HO_7
                 clear HO_8
                 clear HO_9
                 clear HB
                 have HO_7 := n0_
                 have HO_8 := n1_
                 have HO_9 := n2_
                 have HB := n3_
                 clear n0_ n1_ n2_ n3_
                 have p167 : 0 ≤ ((ji30) : Int) := of_decide_eq_true (by first | (with_reducible assumption) | assumption)
                 have q167 : (ji30) < (x7_2.length : Int) := of_decide_eq_true (by first | (with_reducible assumption) | assumption)
                 obtain ⟨ad167, e167, hx167_0⟩ := Kd.at_int (Kd.R_reads' HO_7.out).2.2 (ji30) p167 q167
                 cases e167
                 replace p167 := eq_true p167
                 replace q167 := eq_true q167
                 have p168 : 0 ≤ (x62_2 : Int) := of_decide_eq_true (by first | (with_reducible assumption) | assumption)
                 have q168 : x62_2 < (t158.length : Int) := of_decide_eq_true (by first | (with_reducible assumption) | assumption)
                 obtain ⟨ad168, e168, hx168_0⟩ := Kd.at_int (Kd.V_reads' HO_8.out).2.2 x62_2 p168 q168
                 cases e168
                 replace p168 := eq_true p168
                 replace q168 := eq_true q168
                 refine start_ (n := 22) (S := fun w' => w'.cell? (ad167.add ((ji30)).toNat) = some (.int .u32 (rd x7_2 (ji30))) ∧ w'.cell? (ad168.add (x62_2).toNat) = some (.int .u32 (rd t158 x62_2))) (ds := [20]) #[false, false, false, false, false, false, false, false, false, false, false, false, false, false, false, false, false, false, false, false, false, false] (by kernel_rfl) rfl rfl ⟨hx167_0, hx168_0⟩ (fun hHeld => ?_); refine with_tabW nat_div.tab16 nat_div.bits16 (fun HT_ HW_ => ?_)
                 generalize wr.drew = w37 at HO_7 HO_8 HO_9 HB hx167_0 hx168_0 hHeld ⊢
                 refine pure_ (i := 0) (N := some 66) (v := ?_) (a' := ?_) #[true, false, false, false, false, false, false, false, false, false, false, false, false, false, false, false, false, false, false, false, false, false] rfl rfl (any_of HT_.out (by kernel_rfl)) (fun _ _ _ h => h) (Or.inl ⟨by rfl, ?_⟩) ?_ ?_
                 rotate_left
                 ·intro w'
                  go_simp
                  with_reducible rfl
                 rotate_left
                 ·simp only [Act.put, List.setIfInBounds_toArray, List.set_cons_zero, List.set_cons_succ, i64_w, i32_w]
                  rfl
                 refine pure_ (i := 1) (N := some 67) (v := ?_) (a' := ?_) #[true, true, false, false, false, false, false, false, false, false, false, false, false, false, false, false, false, false, false, false, false, false] rfl rfl (any_of HT_.out (by kernel_rfl)) (fun _ _ _ h => h) (Or.inl ⟨by rfl, ?_⟩) ?_ ?_
                 rotate_left
                 ·intro w'
                  go_simp
                  with_reducible rfl
                 rotate_left
                 ·simp only [Act.put, List.setIfInBounds_toArray, List.set_cons_zero, List.set_cons_succ, i64_w, i32_w]
                  rfl
                 refine pure_ (i := 2) (N := some 68) (v := ?_) (a' := ?_) #[true, true, true, false, false, false, false, false, false, false, false, false, false, false, false, false, false, false, false, false, false, false] rfl rfl (any_of HT_.out (by kernel_rfl)) (fun _ _ _ h => h) (Or.inl ⟨by rfl, ?_⟩) ?_ ?_
                 rotate_left
                 ·intro w'
                  go_simp
                  with_reducible rfl
                 rotate_left
                 ·simp only [Act.put, List.setIfInBounds_toArray, List.set_cons_zero, List.set_cons_succ, i64_w, i32_w]
                  rfl
                 refine pure_ (i := 3) (N := some 69) (v := ?_) (a' := ?_) #[true, true, true, true, false, false, false, false, false, false, false, false, false, false, false, false, false, false, false, false, false, false] rfl rfl (any_of HT_.out (by kernel_rfl)) (fun _ _ _ h => h) (Or.inl ⟨by rfl, ?_⟩) ?_ ?_
                 rotate_left
                 ·intro w'
                  go_simp
                  with_reducible rfl
                 rotate_left
                 ·simp only [Act.put, List.setIfInBounds_toArray, List.set_cons_zero, List.set_cons_succ, i64_w, i32_w]
                  rfl
                 refine pure_ (i := 4) (N := some 70) (v := ?_) (a' := ?_) #[true, true, true, true, true, false, false, false, false, false, false, false, false, false, false, false, false, false, false, false, false, false] rfl rfl (any_of HT_.out (by kernel_rfl)) (fun _ _ _ h => h) (Or.inl ⟨by rfl, ?_⟩) ?_ ?_
                 rotate_left
                 ·intro w'
                  go_simp
                  with_reducible rfl
                 rotate_left
                 ·simp only [Act.put, List.setIfInBounds_toArray, List.set_cons_zero, List.set_cons_succ, i64_w, i32_w]
                  rfl
                 refine pure_ (i := 5) (N := some 71) (v := ?_) (a' := ?_) #[true, true, true, true, true, true, false, false, false, false, false, false, false, false, false, false, false, false, false, false, false, false] rfl rfl (any_of HT_.out (by kernel_rfl)) (fun _ _ _ h => h) (Or.inl ⟨by rfl, ?_⟩) ?_ ?_
                 rotate_left
                 ·intro w'
                  go_simp
                  with_reducible rfl
                 rotate_left
                 ·simp only [Act.put, List.setIfInBounds_toArray, List.set_cons_zero, List.set_cons_succ, i64_w, i32_w]
                  rfl
                 refine pure_ (i := 6) (N := some 72) (v := ?_) (a' := ?_) #[true, true, true, true, true, true, true, false, false, false, false, false, false, false, false, false, false, false, false, false, false, false] rfl rfl (any_of HT_.out (by kernel_rfl)) (fun _ _ _ h => h) (Or.inl ⟨by rfl, ?_⟩) ?_ ?_
                 rotate_left
                 ·intro w'
                  go_simp
                  with_reducible rfl
                 rotate_left
                 ·simp only [Act.put, List.setIfInBounds_toArray, List.set_cons_zero, List.set_cons_succ, i64_w, i32_w]
                  rfl
                 refine pure_ (i := 7) (N := some 73) (v := ?_) (a' := ?_) #[true, true, true, true, true, true, true, true, false, false, false, false, false, false, false, false, false, false, false, false, false, false] rfl rfl (any_of HT_.out (by kernel_rfl)) (fun _ _ _ h => h) (Or.inl ⟨by rfl, ?_⟩) ?_ ?_
                 rotate_left
                 ·intro w'
                  go_simp
                  with_reducible rfl
                 rotate_left
                 ·simp only [Act.put, List.setIfInBounds_toArray, List.set_cons_zero, List.set_cons_succ, i64_w, i32_w]
                  rfl
                 refine pure_ (i := 8) (N := some 74) (v := ?_) (a' := ?_) #[true, true, true, true, true, true, true, true, true, false, false, false, false, false, false, false, false, false, false, false, false, false] rfl rfl (any_of HT_.out (by kernel_rfl)) (fun _ _ _ h => h) (Or.inl ⟨by rfl, ?_⟩) ?_ ?_
                 rotate_left
                 ·intro w'
                  go_simp
                  with_reducible rfl
                 rotate_left
                 ·simp only [Act.put, List.setIfInBounds_toArray, List.set_cons_zero, List.set_cons_succ, i64_w, i32_w]
                  rfl
                 refine pure_ (i := 10) (N := some 76) (v := ?_) (a' := ?_) #[true, true, true, true, true, true, true, true, true, false, true, false, false, false, false, false, false, false, false, false, false, false] rfl rfl (any_of HT_.out (by kernel_rfl)) (fun _ _ _ h => h) (Or.inl ⟨by rfl, ?_⟩) ?_ ?_
                 rotate_left
                 ·intro w'
                  go_simp
                  with_reducible rfl
                 rotate_left
                 ·simp only [Act.put, List.setIfInBounds_toArray, List.set_cons_zero, List.set_cons_succ, i64_w, i32_w]
                  rfl
                 refine pure_ (i := 11) (N := some 77) (v := ?_) (a' := ?_) #[true, true, true, true, true, true, true, true, true, false, true, true, false, false, false, false, false, false, false, false, false, false] rfl rfl (any_of HT_.out (by kernel_rfl)) (fun _ _ _ h => h) (Or.inl ⟨by rfl, ?_⟩) ?_ ?_
                 rotate_left
                 ·intro w'
                  go_simp
                  with_reducible rfl
                 rotate_left
                 ·simp only [Act.put, List.setIfInBounds_toArray, List.set_cons_zero, List.set_cons_succ, i64_w, i32_w]
                  rfl
                 refine pure_ (i := 12) (N := some 78) (v := ?_) (a' := ?_) #[true, true, true, true, true, true, true, true, true, false, true, true, true, false, false, false, false, false, false, false, false, false] rfl rfl (any_of HT_.out (by kernel_rfl)) (fun _ _ _ h => h) (Or.inl ⟨by rfl, ?_⟩) ?_ ?_
                 rotate_left
                 ·intro w'
                  go_simp
                  with_reducible rfl
                 rotate_left
                 ·simp only [Act.put, List.setIfInBounds_toArray, List.set_cons_zero, List.set_cons_succ, i64_w, i32_w]
                  rfl
                 refine pure_ (i := 14) (N := some 80) (v := ?_) (a' := ?_) #[true, true, true, true, true, true, true, true, true, false, true, true, true, false, true, false, false, false, false, false, false, false] rfl rfl (any_of HT_.out (by kernel_rfl)) (fun _ _ _ h => h) (Or.inl ⟨by rfl, ?_⟩) ?_ ?_
                 rotate_left
                 ·intro w'
                  go_simp
                  with_reducible rfl
                 rotate_left
                 ·simp only [Act.put, List.setIfInBounds_toArray, List.set_cons_zero, List.set_cons_succ, i64_w, i32_w]
                  rfl
                 refine take_ (i := 9) (N := some 75) (v := ?_) (a' := ?_) #[true, true, true, true, true, true, true, true, true, true, true, true, true, false, true, false, false, false, false, false, false, false] rfl rfl (take_ofW HT_.out HW_.out (by kernel_rfl)) (fun _ _ _ h => h) (Or.inl ⟨by rfl, ?_⟩) hHeld ?_ ?_
                 rotate_left
                 ·rintro w' ⟨s0, s1⟩
                  go_simp
                  with_reducible rfl
                 rotate_left
                 ·simp only [Act.put, List.setIfInBounds_toArray, List.set_cons_zero, List.set_cons_succ, i64_w, i32_w]
                  rfl
                 refine take_ (i := 13) (N := some 79) (v := ?_) (a' := ?_) #[true, true, true, true, true, true, true, true, true, true, true, true, true, true, true, false, false, false, false, false, false, false] rfl rfl (take_ofW HT_.out HW_.out (by kernel_rfl)) (fun _ _ _ h => h) (Or.inl ⟨by rfl, ?_⟩) hHeld ?_ ?_
                 rotate_left
                 ·rintro w' ⟨s0, s1⟩
                  go_simp
                  with_reducible rfl
                 rotate_left
                 ·simp only [Act.put, List.setIfInBounds_toArray, List.set_cons_zero, List.set_cons_succ, i64_w, i32_w]
                  rfl
                 refine one_ (i := 15) (N := some 81) #[true, true, true, true, true, true, true, true, true, true, true, true, true, true, true, true, false, false, false, false, false, false] rfl rfl (one_of HT_.out (by kernel_rfl)) (by decide) (fun K hK => ?_)
                 refine goes_ Tryd.func51 (by kernel_rfl) rfl #[.int .u32 (rd x7_2 (ji30)), .int .u32 (rd t158 x62_2), .int .u32 x12_2] (by rfl) rfl rfl (by (try simp only [List.map_toArray, List.map_cons, List.map_nil]); first | done | (simp only [hji30]; rfl) | rfl | (simp only [List.length_drop, List.length_take]; rfl)) ?_
                 with_reducible refine (bits_Add32.calls (rd x7_2 (ji30)) (rd t158 x62_2) x12_2 t169 t170 _ A35.out).mono ?_
                 rintro e w' ⟨rfl, ⟨nd, rfl⟩⟩
                 refine ⟨_, rfl, ?_⟩
                 have p36 : 0 ≤ ((ji30) : Int) := of_decide_eq_true (by first | (with_reducible assumption) | assumption)
                 have q36 : ((ji30) : Int) < ((x7_2.length : Int) : Int) := of_decide_eq_true (by first | (with_reducible assumption) | assumption)
                 obtain ⟨go36, co36, eo36, gb36, gl36, cl36, HG36⟩ := Kd.R_form HO_7.out (by omega)
                 (first | cases eo36 | (injection eo36 with ea_ en_ ec_; (first | subst ea_ | (injection ea_ with ea_; subst ea_)); subst ec_; clear en_))
                 have GB36 := Aside0.mk gb36
                 have GG36 := Aside0.mk HG36
                 clear gb36 gl36 HG36
                 (first | simp only [add_plain] at hx167_0 | skip)
                 obtain ⟨hx36_0, hf36_0⟩ := Kd.R_celln 0 HO_7.out ((ji30) : Int) p36 q36
                 replace p36 := eq_true p36
                 replace q36 := eq_true q36
                 have HP38 := Kd.R_putn HO_7.out ((ji30) : Int) t169
                 rw [← Ny171.out] at HP38
                 have HQ38 := Aside0.mk HP38
                 clear HP38
                 refine hK.out _ _ ⟨hHeld.1, hHeld.2⟩ (fun hHeld => ?_)
                 clear hK K
                 refine norm_ (a' := ?_) ?_ ?_
                 rotate_left
                 ·show Act.put _ (some 81) _ = _
                  simp only [Act.put, List.setIfInBounds_toArray, List.set_cons_zero, List.set_cons_succ, i64_w, i32_w]
                  rfl
                 refine pure_ (i := 16) (N := some 65) (v := ?_) (a' := ?_) #[true, true, true, true, true, true, true, true, true, true, true, true, true, true, true, true, true, false, false, false, false, false] rfl rfl (any_of HT_.out (by kernel_rfl)) (fun _ _ _ h => h) (Or.inl ⟨by rfl, ?_⟩) ?_ ?_
                 rotate_left
                 ·intro w'
                  go_simp
                  with_reducible rfl
                 rotate_left
                 ·simp only [Act.put, List.setIfInBounds_toArray, List.set_cons_zero, List.set_cons_succ, i64_w, i32_w]
                  rfl
                 refine pure_ (i := 17) (N := some 82) (v := ?_) (a' := ?_) #[true, true, true, true, true, true, true, true, true, true, true, true, true, true, true, true, true, true, false, false, false, false] rfl rfl (any_of HT_.out (by kernel_rfl)) (fun _ _ _ h => h) (Or.inl ⟨by rfl, ?_⟩) ?_ ?_
                 rotate_left
                 ·intro w'
                  go_simp
                  with_reducible rfl
                 rotate_left
                 ·simp only [Act.put, List.setIfInBounds_toArray, List.set_cons_zero, List.set_cons_succ, i64_w, i32_w]
                  rfl
                 refine pure_ (i := 18) (N := some 83) (v := ?_) (a' := ?_) #[true, true, true, true, true, true, true, true, true, true, true, true, true, true, true, true, true, true, true, false, false, false] rfl rfl (any_of HT_.out (by kernel_rfl)) (fun _ _ _ h => h) (Or.inl ⟨by rfl, ?_⟩) ?_ ?_
                 rotate_left
                 ·intro w'
                  go_simp
                  with_reducible rfl
                 rotate_left
                 ·simp only [Act.put, List.setIfInBounds_toArray, List.set_cons_zero, List.set_cons_succ, i64_w, i32_w]
                  rfl
                 refine pure_ (i := 19) (N := some 84) (v := ?_) (a' := ?_) #[true, true, true, true, true, true, true, true, true, true, true, true, true, true, true, true, true, true, true, true, false, false] rfl rfl (any_of HT_.out (by kernel_rfl)) (fun _ _ _ h => h) (Or.inl ⟨by rfl, ?_⟩) ?_ ?_
                 rotate_left
                 ·intro w'
                  go_simp
                  with_reducible rfl
                 rotate_left
                 ·simp only [Act.put, List.setIfInBounds_toArray, List.set_cons_zero, List.set_cons_succ, i64_w, i32_w]
                  rfl
                 refine last_ (i := 20) (N := none) #[true, true, true, true, true, true, true, true, true, true, true, true, true, true, true, true, true, true, true, true, true, false] rfl rfl (one_of HT_.out (by kernel_rfl)) (by decide) (fun K hK => ?_)
                 refine skip_ (w1 := ?_) (by rfl) rfl ?_ ?_
                 rotate_left
                 ·go_simp
                  rfl
                 refine hK.out _ _ ?_
                 clear hK K
                 refine pure_ (i := 21) (N := some 12) (v := ?_) (a' := ?_) #[true, true, true, true, true, true, true, true, true, true, true, true, true, true, true, true, true, true, true, true, true, true] rfl rfl (any_of HT_.out (by kernel_rfl)) (fun _ _ _ h => h) (Or.inl ⟨by rfl, ?_⟩) ?_ ?_
                 rotate_left
                 ·intro w'
                  go_simp
                  with_reducible rfl
                 rotate_left
                 ·simp only [Act.put, List.setIfInBounds_toArray, List.set_cons_zero, List.set_cons_succ, i64_w, i32_w]
                  rfl
                 refine done_ (done_of HT_.out (by kernel_rfl)) ?_
                 try go_wp2
                 (try simp only [← hl7_2])
                 go_roundg k2
                 case measure => have := HK1.out; have := HK2.out; omega
                 case rel => exact ⟨(y171), (t170), (wrap64 (x62_2 + 1)), (by first | rfl | (simp; done) | (simp [*]; done)), (by first | rfl | (simp; done) | (simp [*]; done)), H', ⟨by have := HK1.out; have := HK2.out; omega⟩, ⟨by (try simp only [hl9_1]); (try simp only [hl7_2]); (with_reducible repeat (first | apply Kd.R_alloc | apply Kd.R_drewN | apply Kd.R_drew)); exact HQ38.out⟩, ⟨by (try simp only [hl9_1]); (try simp only [hl7_2]); (with_reducible repeat (first | apply Kd.V_alloc | apply Kd.V_drewN | apply Kd.V_drew)); exact Kd.V_mono (Kd.V_far (p := ⟨go36, ((ji30) : Int).toNat, none⟩) (Kd.V_mono HO_8.out (fun k_ hk => (⟨hk, fun e_ => hk.2.1 (by rw [e_]; rfl)⟩ : _ ∧ k_ ≠ go36))) (fun _ hk => hk.2) (.int .u32 t169)) (fun _ hk => ⟨hk.1.1, ⟨hk.1.2.1, hk.1.2.2⟩⟩)⟩, ⟨by (try simp only [hl9_1]); (try simp only [hl7_2]); (with_reducible repeat (first | apply Kd.R_alloc | apply Kd.R_drewN | apply Kd.R_drew)); exact Kd.R_mono (Kd.R_far (p := ⟨go36, ((ji30) : Int).toNat, none⟩) (Kd.R_mono HO_9.out (fun k_ hk => (⟨hk, fun e_ => hk.2 (by rw [e_]; rfl)⟩ : _ ∧ k_ ≠ go36))) (fun _ hk => hk.2) (.int .u32 t169)) (fun _ hk => ⟨hk.1.1, hk.1.2⟩)⟩, ⟨by repeat (first | (with_reducible first | exact HB.out | apply below_alloc | apply pw_below_drewN | apply below_drew1 | refine below_set ?_ GB36.out) | exact HB.out)⟩⟩
                ·rw [if_neg c34] at H
                 exact absurd H (by simp)
               ·rw [if_neg c33] at H
                exact absurd H (by simp)
              ·rw [if_neg c32] at H
               exact absurd H (by simp)
             ·rw [if_neg c31] at H
              exact absurd H (by simp)
            ·rw [if_neg c29] at H
             have c29b0 : decide (x62_2 < (t158.length : Int)) = false := decide_eq_false c29
             (try (have c29b0zhl7_2 := c29b0; rw [hl7_2] at c29b0zhl7_2))
             (try (have c29b0zhl9_1 := c29b0; rw [hl9_1] at c29b0zhl9_1))
             clear c29
             obtain ⟨ji39, hji39⟩ : ∃ j_ : Int, (wrap64 (x10_1 + (t158.length : Int))) = j_ := ⟨_, rfl⟩
             replace H : (if 0 ≤ (ji39) then (if (ji39) < (x7_2.length : Int) then (if 0 ≤ x10_1 then (if x10_1 < (x9_1.length : Int) then (nat_div.l0 k2 t151 (x7_2.set ((ji39) : Int).toNat (((rd x7_2 (ji39)) + x12_2) % 4294967296)) t158 (x9_1.set (x10_1 : Int).toNat (((IntKind.u64.wrap (t164 - 1))) % 4294967296)) (wrap64 (x10_1 - 1))) else (none)) else (none)) else (none)) else (none)) = some (r1, r2) := by first | (rw [hji39] at H; exact H) | (simp only [hji39] at H ⊢; exact H)
             have hji39w : (IntKind.i64.wrap (x10_1 + (t158.length : Int))) = ji39 := (i64_w _).trans hji39
             by_cases c40 : 0 ≤ (ji39)
             ·rw [if_pos c40] at H
              have c40b0 : decide (0 ≤ (ji39)) = true := decide_eq_true c40
              clear c40
              by_cases c41 : (ji39) < (x7_2.length : Int)
              ·rw [if_pos c41] at H
               have c41b0 : decide ((ji39) < (x7_2.length : Int)) = true := decide_eq_true c41
               clear c41
               obtain ⟨y173, hy173⟩ : ∃ y_ : List Int, y_ = (x7_2.set ((ji39) : Int).toNat (((rd x7_2 (ji39)) + x12_2) % 4294967296)) := ⟨_, rfl⟩
               replace H : (if 0 ≤ x10_1 then (if x10_1 < (x9_1.length : Int) then (nat_div.l0 k2 t151 y173 t158 (x9_1.set (x10_1 : Int).toNat (((IntKind.u64.wrap (t164 - 1))) % 4294967296)) (wrap64 (x10_1 - 1))) else (none)) else (none)) = some (r1, r2) := by first | (rw [hy173]; with_reducible exact H) | (have H2_ := (Option.bind_some _ _).symm.trans H; rw [hy173]; with_reducible exact H2_) | (have H2_ := (Option.bind_some _ _).symm.trans H; with_reducible exact H2_) | with_reducible exact H | (rw [hy173]; exact H) | exact H
               have Ny173 := Aside0.mk hy173
               clear hy173
               by_cases c43 : 0 ≤ x10_1
               ·rw [if_pos c43] at H
                have c43b0 : decide (0 ≤ x10_1) = true := decide_eq_true c43
                clear c43
                by_cases c44 : x10_1 < (x9_1.length : Int)
                ·rw [if_pos c44] at H
                 have c44b0 : decide (x10_1 < (x9_1.length : Int)) = true := decide_eq_true c44
                 clear c44
                 obtain ⟨y174, hy174⟩ : ∃ y_ : List Int, y_ = (x9_1.set (x10_1 : Int).toNat (((IntKind.u64.wrap (t164 - 1))) % 4294967296)) := ⟨_, rfl⟩
                 replace H : (nat_div.l0 k2 t151 y173 t158 y174 (wrap64 (x10_1 - 1))) = some (r1, r2) := by first | (rw [hy174]; with_reducible exact H) | (have H2_ := (Option.bind_some _ _).symm.trans H; rw [hy174]; with_reducible exact H2_) | (have H2_ := (Option.bind_some _ _).symm.trans H; with_reducible exact H2_) | with_reducible exact H | (rw [hy174]; exact H) | exact H
                 have Ny174 := Aside0.mk hy174
                 clear hy174
                 have H' := Aside0.mk H
                 clear H
                 have p172 : 0 ≤ ((ji39) : Int) := of_decide_eq_true (by first | (with_reducible assumption) | assumption)
                 have q172 : (ji39) < (x7_2.length : Int) := of_decide_eq_true (by first | (with_reducible assumption) | assumption)
                 obtain ⟨ad172, e172, hx172_0⟩ := Kd.at_int (Kd.R_reads' HO_7.out).2.2 (ji39) p172 q172
                 cases e172
                 replace p172 := eq_true p172
                 replace q172 := eq_true q172
                 have p42 : 0 ≤ ((ji39) : Int) := of_decide_eq_true (by first | (with_reducible assumption) | assumption)
                 have q42 : ((ji39) : Int) < ((x7_2.length : Int) : Int) := of_decide_eq_true (by first | (with_reducible assumption) | assumption)
                 obtain ⟨go42, co42, eo42, gb42, gl42, cl42, HG42⟩ := Kd.R_form HO_7.out (by omega)
                 (first | cases eo42 | (injection eo42 with ea_ en_ ec_; (first | subst ea_ | (injection ea_ with ea_; subst ea_)); subst ec_; clear en_))
                 have GB42 := Aside0.mk gb42
                 have GG42 := Aside0.mk HG42
                 clear gb42 gl42 HG42
                 (first | simp only [add_plain] at hx172_0 | skip)
                 obtain ⟨hx42_0, hf42_0⟩ := Kd.R_celln 0 HO_7.out ((ji39) : Int) p42 q42
                 replace p42 := eq_true p42
                 replace q42 := eq_true q42
                 have HP46 := Kd.R_putg HO_7.out ((ji39) : Int) (((rd x7_2 (ji39)) + x12_2) % 4294967296)
                 go_wp2_with (first | ((with_reducible refine gate_store (t := 55) (p := 95) rfl ?_); refine store_event (t := 55) (p := 95) (v := ?vo_w47) (w1 := (wr.setCell ⟨go42, ((ji39) : Int).toNat, none⟩ (.int .u32 (((rd x7_2 (ji39)) + x12_2) % 4294967296)))) ?hg ?ho ?hn ?hr ?_; (case ho => rfl); (case hg => rfl); (case hn => rfl); (case hr => first | (go_simp; done) | (go_simp; rfl)); intro w47 hw; have hg : wr.grownBy w47 (some go42) := (by rw [hw]; exact HP46.2); have hp_ : Kd.R (Kd.int .u32) 55 w47 w.heap.size (fun k_ => (w.heap.size ≤ k_) ∧ some k_ ≠ (.slice Ao21 x9_1.length co21 : Value).ownBlock) (.slice (some ⟨go42, 0, none⟩) x7_2.length co26) y173 := (by rw [hw, Ny173.out]; exact HP46.1); clear HP46; have n0_ := Aside0.mk (hp_); have n1_ := Aside0.mk (Kd.V_afterv (v := (.slice (some ⟨go42, 0, none⟩) x7_2.length co26)) (v1 := (.slice (some ⟨go42, 0, none⟩) x7_2.length co26)) (ok := (fun k_ => (P0_ k_ ∨ w.heap.size ≤ k_) ∧ some k_ ≠ (.slice Ao21 x9_1.length co21 : Value).ownBlock)) (by (with_reducible repeat (first | apply Kd.V_alloc | apply Kd.V_drewN | apply Kd.V_drew)); exact Kd.V_mono HO_8.out (fun _ hk => ⟨⟨hk.1, hk.2.2⟩, hk.2.1⟩)) hg (.inl rfl)); have n2_ := Aside0.mk (Kd.R_after (v := (.slice (some ⟨go42, 0, none⟩) x7_2.length co26)) (v1 := (.slice (some ⟨go42, 0, none⟩) x7_2.length co26)) (ok := (fun k_ => (w.heap.size ≤ k_))) (Ru HO_9) hg (.inl rfl)); have n3_ := Aside0.mk ((by rw [hw]; exact below_set (HB.out) GB42.out : Below w.heap.size w w47)); clear HO_7 HO_8 HO_9 HB; revert n0_ n1_ n2_ n3_; intro HO_7 HO_8 HO_9 HB; clear hg hw hp_; have p45 : 0 ≤ (x10_1 : Int) := of_decide_eq_true (by first | (with_reducible assumption) | assumption); have q45 : (x10_1 : Int) < ((x9_1.length : Int) : Int) := of_decide_eq_true (by first | (with_reducible assumption) | assumption); obtain ⟨go45, co45, eo45, gb45, gl45, cl45, HG45⟩ := Kd.R_form HO_9.out (by omega); (first | cases eo45 | (injection eo45 with ea_ en_ ec_; (first | subst ea_ | (injection ea_ with ea_; subst ea_)); subst ec_; clear en_)); have GB45 := Aside0.mk gb45; have GG45 := Aside0.mk HG45; clear gb45 gl45 HG45; obtain ⟨hx45_0, hf45_0⟩ := Kd.R_celln 0 HO_9.out (x10_1 : Int) p45 q45; replace p45 := eq_true p45; replace q45 := eq_true q45; obtain ⟨hy48_, hz48_⟩ := Kd.R_celln 0 HO_9.out (x10_1 : Int) (of_decide_eq_true (by first | (with_reducible assumption) | assumption)) (of_decide_eq_true (by first | (with_reducible assumption) | assumption)); have HP48 := Kd.R_putg HO_9.out (x10_1 : Int) (((IntKind.u64.wrap (t164 - 1))) % 4294967296)) | ((with_reducible refine gate_store (t := 55) (p := 100) rfl ?_); refine store_event (t := 55) (p := 100) (v := ?vo_w49) (w1 := (w47.setCell ⟨go45, (x10_1 : Int).toNat, none⟩ (.int .u32 (((IntKind.u64.wrap (t164 - 1))) % 4294967296)))) ?hg ?ho ?hn ?hr ?_; (case ho => rfl); (case hg => rfl); (case hn => rfl); (case hr => first | (go_simp; done) | (go_simp; rfl)); intro w49 hw; have hg : w47.grownBy w49 (some go45) := (by rw [hw]; exact HP48.2); have hp_ : Kd.R (Kd.int .u32) 55 w49 w.heap.size (fun k_ => (w.heap.size ≤ k_) ∧ some k_ ≠ (.slice (some ⟨go42, 0, none⟩) x7_2.length co26 : Value).ownBlock) (.slice (some ⟨go45, 0, none⟩) x9_1.length co21) y174 := (by rw [hw, Ny174.out]; exact HP48.1); clear HP48; have n0_ := Aside0.mk (Kd.R_after (v := (.slice (some ⟨go45, 0, none⟩) x9_1.length co21)) (v1 := (.slice (some ⟨go45, 0, none⟩) x9_1.length co21)) (ok := (fun k_ => (w.heap.size ≤ k_))) (Ru HO_7) hg (.inl rfl)); have n1_ := Aside0.mk (Kd.V_afterv (v := (.slice (some ⟨go45, 0, none⟩) x9_1.length co21)) (v1 := (.slice (some ⟨go45, 0, none⟩) x9_1.length co21)) (ok := (fun k_ => (P0_ k_ ∨ w.heap.size ≤ k_) ∧ some k_ ≠ (.slice (some ⟨go42, 0, none⟩) x7_2.length co26 : Value).ownBlock)) (by (with_reducible repeat (first | apply Kd.V_alloc | apply Kd.V_drewN | apply Kd.V_drew)); exact Kd.V_mono HO_8.out (fun _ hk => ⟨⟨hk.1.1, hk.2⟩, hk.1.2⟩)) hg (.inl rfl)); have n2_ := Aside0.mk (hp_); have n3_ := Aside0.mk ((by rw [hw]; exact below_set (HB.out) GB45.out : Below w.heap.size w w49)); clear HO_7 HO_8 HO_9 HB; revert n0_ n1_ n2_ n3_; intro HO_7 HO_8 HO_9 HB; clear hg hw hp_))
                 (try simp only [← hl9_1, ← hl7_2])
                 go_roundg k2
                 case measure => have := HK1.out; have := HK2.out; omega
                 case rel => exact ⟨(y173), (y174), (wrap64 (x10_1 - 1)), (by first | rfl | (simp; done) | (simp [*]; done)), H', ⟨by have := HK1.out; have := HK2.out; omega⟩, ⟨by (try simp only [hl9_1]); (try simp only [hl7_2]); (with_reducible repeat (first | apply Kd.R_alloc | apply Kd.R_drewN | apply Kd.R_drew)); exact HO_7.out⟩, ⟨by (try simp only [hl9_1]); (try simp only [hl7_2]); (with_reducible repeat (first | apply Kd.V_alloc | apply Kd.V_drewN | apply Kd.V_drew)); exact Kd.V_mono HO_8.out (fun _ hk => ⟨hk.1.1, ⟨hk.1.2, hk.2⟩⟩)⟩, ⟨by (try simp only [hl9_1]); (try simp only [hl7_2]); (with_reducible repeat (first | apply Kd.R_alloc | apply Kd.R_drewN | apply Kd.R_drew)); exact HO_9.out⟩, ⟨Bu HB⟩⟩
                ·rw [if_neg c44] at H
                 exact absurd H (by simp)
               ·rw [if_neg c43] at H
                exact absurd H (by simp)
              ·rw [if_neg c41] at H
               exact absurd H (by simp)
             ·rw [if_neg c40] at H
              exact absurd H (by simp)
         ·replace c25 := Bool.eq_false_iff.mpr c25
          subst c25
          have H1 : (if 0 ≤ x10_1 then (if x10_1 < (x9_1.length : Int) then (nat_div.l0 k1 t151 t166 t158 (x9_1.set (x10_1 : Int).toNat ((t164) % 4294967296)) (wrap64 (x10_1 - 1))) else (none)) else (none)) = some (r1, r2) := by rw [if_neg (show ¬ (false = true) by decide)] at H; exact H
          clear H
          have H := H1
          clear H1
          by_cases c50 : 0 ≤ x10_1
          ·rw [if_pos c50] at H
           have c50b0 : decide (0 ≤ x10_1) = true := decide_eq_true c50
           clear c50
           by_cases c51 : x10_1 < (x9_1.length : Int)
           ·rw [if_pos c51] at H
            have c51b0 : decide (x10_1 < (x9_1.length : Int)) = true := decide_eq_true c51
            clear c51
            obtain ⟨y175, hy175⟩ : ∃ y_ : List Int, y_ = (x9_1.set (x10_1 : Int).toNat ((t164) % 4294967296)) := ⟨_, rfl⟩
            replace H : (nat_div.l0 k1 t151 t166 t158 y175 (wrap64 (x10_1 - 1))) = some (r1, r2) := by first | (rw [hy175]; with_reducible exact H) | (have H2_ := (Option.bind_some _ _).symm.trans H; rw [hy175]; with_reducible exact H2_) | (have H2_ := (Option.bind_some _ _).symm.trans H; with_reducible exact H2_) | with_reducible exact H | (rw [hy175]; exact H) | exact H
            have Ny175 := Aside0.mk hy175
            clear hy175
            have H' := Aside0.mk H
            clear H
            obtain ⟨Ao53, co53, eo53⟩ := Kd.R_slice HO_7.out
            subst eo53
            obtain ⟨Ao54, co54, eo54⟩ := Kd.V_slice HO_8.out
            subst eo54
            go_wp2_with (first | ((with_reducible refine gate_callee (f := 49) rfl ?_); refine goesA (some 52) Tryd.func49 #[.slice Ao53 x7_1.length co53, .int .i64 x10_1, .slice Ao54 t158.length co54] rfl ?_; (with_reducible refine (nat_guess.calls k1 _ _ x7_1 x10_1 _ _ t158 t164 _ ?side1 ?side2 ?side3 ?side4 A23.out).mono ?_); (case side1 => exact Cu (Kd.R_reads' HO_7.out).2.2); (case side2 => exact (Kd.R_reads' HO_7.out).2.1); (case side3 => exact Cu (Kd.V_reads' HO_8.out).2.2); (case side4 => exact (Kd.V_reads' HO_8.out).2.1); rintro e w' ⟨rfl, ⟨nd, rfl⟩⟩; refine ⟨_, rfl, ?_⟩; (try (rw [drewN_self wr]; generalize hq_ : World.drewN wr _ = wr; (try (replace hx45_0 := cell_at hq_ hx45_0)); (try (replace hf45_0 := frozen_at' hq_ hf45_0)); have n0_ : Aside0 (Kd.R (Kd.int .u32) 55 wr w.heap.size (fun k_ => (w.heap.size ≤ k_) ∧ some k_ ≠ (.slice Ao21 x9_1.length co21 : Value).ownBlock) (.slice Ao53 x7_1.length co53) x7_1) := ⟨by rw [← hq_]; exact (Ru HO_7)⟩; have n1_ : Aside0 (Kd.V (Kd.int .u32) 55 wr w.heap.size (fun k_ => (P0_ k_ ∨ w.heap.size ≤ k_) ∧ some k_ ≠ (.slice Ao53 x7_1.length co53 : Value).ownBlock ∧ some k_ ≠ (.slice Ao21 x9_1.length co21 : Value).ownBlock) (.slice Ao54 t158.length co54) t158) := ⟨by rw [← hq_]; exact (Vu HO_8)⟩; have n2_ : Aside0 (Kd.R (Kd.int .u32) 55 wr w.heap.size (fun k_ => (w.heap.size ≤ k_) ∧ some k_ ≠ (.slice Ao53 x7_1.length co53 : Value).ownBlock) (.slice Ao21 x9_1.length co21) x9_1) := ⟨by rw [← hq_]; exact (Ru HO_9)⟩; have n3_ : Aside0 (Below w.heap.size w wr) := ⟨by rw [← hq_]; exact (Bu HB)⟩; clear HO_7 HO_8 HO_9 HB hq_; have HO_7 := n0_; have HO_8 := n1_; have HO_9 := n2_; have HB := n3_; clear n0_ n1_ n2_ n3_))) | ((with_reducible refine gate_callee (f := 50) rfl ?_); refine goesA (some 57) Tryd.func50 #[.slice Ao53 x7_1.length co53, .int .i64 x10_1, .slice Ao54 t158.length co54, .int .u64 t164] rfl ?_; (with_reducible refine (nat_take.calls k1 (fun k_ => some k_ = (.slice Ao53 x7_1.length co53 : Value).ownBlock) (.slice Ao53 x7_1.length co53) x7_1 x10_1 _ _ t158 t164 false t166 w _ ?side1 ?side2 ?side3 ?side4 A24.out).mono ?_); (case side1 => repeat (first | (with_reducible first | exact HB.out | apply below_alloc | apply pw_below_drewN | apply below_drew1) | exact HB.out)); (case side2 => exact Kd.R_tight rfl HO_7.out); (case side3 => exact Kd.C_kept_ownV (e := 0) (base := 0) (HO_8.out) (fun k_ hk_ hs_ => (hk_.2.1) hs_)); (case side4 => exact (Kd.V_reads' HO_8.out).2.1); rintro e w55 ⟨rfl, hy0, hb, hkp⟩; refine ⟨_, rfl, ?_⟩; have n0_ := Aside0.mk (Kd.R_reok rfl hy0 (fun k_ e_ => HO_7.out.1 k_ e_)); have n1_ := Aside0.mk (Kd.V_mono (ok' := fun k_ => (P0_ k_ ∨ w.heap.size ≤ k_) ∧ some k_ ≠ (.slice Ao53 x7_1.length co53 : Value).ownBlock ∧ some k_ ≠ (.slice Ao21 x9_1.length co21 : Value).ownBlock) (Kd.V_keptB (HO_8.out) hkp (fun k_ hk_ hs_ => (hk_.2.1) hs_)) (fun k_ hk_ => ⟨hk_.1.1, hk_.1.2.1, hk_.1.2.2⟩)); have n2_ := Aside0.mk (Kd.R_mono (ok' := fun k_ => (w.heap.size ≤ k_) ∧ some k_ ≠ (.slice Ao53 x7_1.length co53 : Value).ownBlock) (Kd.R_keptB (HO_9.out) hkp (fun k_ hk_ hs_ => (hk_.2) hs_)) (fun k_ hk_ => ⟨hk_.1.1, hk_.1.2⟩)); have n3_ := Aside0.mk (hb); clear HO_7 HO_8 HO_9 HB; revert n0_ n1_ n2_ n3_; intro HO_7 HO_8 HO_9 HB; (try clear hb); (try clear hkp); (try clear hy0); have p52 : 0 ≤ (x10_1 : Int) := of_decide_eq_true (by first | (with_reducible assumption) | assumption); have q52 : (x10_1 : Int) < ((x9_1.length : Int) : Int) := of_decide_eq_true (by first | (with_reducible assumption) | assumption); obtain ⟨go52, co52, eo52, gb52, gl52, cl52, HG52⟩ := Kd.R_form HO_9.out (by omega); (first | cases eo52 | (injection eo52 with ea_ en_ ec_; (first | subst ea_ | (injection ea_ with ea_; subst ea_)); subst ec_; clear en_)); have GB52 := Aside0.mk gb52; have GG52 := Aside0.mk HG52; clear gb52 gl52 HG52; obtain ⟨hx52_0, hf52_0⟩ := Kd.R_celln 0 HO_9.out (x10_1 : Int) p52 q52; replace p52 := eq_true p52; replace q52 := eq_true q52; obtain ⟨hy56_, hz56_⟩ := Kd.R_celln 0 HO_9.out (x10_1 : Int) (of_decide_eq_true (by first | (with_reducible assumption) | assumption)) (of_decide_eq_true (by first | (with_reducible assumption) | assumption)); have HP56 := Kd.R_putg HO_9.out (x10_1 : Int) ((t164) % 4294967296)) | ((with_reducible refine gate_store (t := 55) (p := 100) rfl ?_); refine store_event (t := 55) (p := 100) (v := ?vo_w57) (w1 := (w55.setCell ⟨go52, (x10_1 : Int).toNat, none⟩ (.int .u32 ((t164) % 4294967296)))) ?hg ?ho ?hn ?hr ?_; (case ho => rfl); (case hg => rfl); (case hn => rfl); (case hr => first | (go_simp; done) | (go_simp; rfl)); intro w57 hw; have hg : w55.grownBy w57 (some go52) := (by rw [hw]; exact HP56.2); have hp_ : Kd.R (Kd.int .u32) 55 w57 w.heap.size (fun k_ => (w.heap.size ≤ k_) ∧ some k_ ≠ (.slice Ao53 x7_1.length co53 : Value).ownBlock) (.slice (some ⟨go52, 0, none⟩) x9_1.length co21) y175 := (by rw [hw, Ny175.out]; exact HP56.1); clear HP56; have n0_ := Aside0.mk (Kd.R_after (v := (.slice (some ⟨go52, 0, none⟩) x9_1.length co21)) (v1 := (.slice (some ⟨go52, 0, none⟩) x9_1.length co21)) (ok := (fun k_ => (w.heap.size ≤ k_))) (Ru HO_7) hg (.inl rfl)); have n1_ := Aside0.mk (Kd.V_afterv (v := (.slice (some ⟨go52, 0, none⟩) x9_1.length co21)) (v1 := (.slice (some ⟨go52, 0, none⟩) x9_1.length co21)) (ok := (fun k_ => (P0_ k_ ∨ w.heap.size ≤ k_) ∧ some k_ ≠ (.slice Ao53 x7_1.length co53 : Value).ownBlock)) (by (with_reducible repeat (first | apply Kd.V_alloc | apply Kd.V_drewN | apply Kd.V_drew)); exact Kd.V_mono HO_8.out (fun _ hk => ⟨⟨hk.1, hk.2.1⟩, hk.2.2⟩)) hg (.inl rfl)); have n2_ := Aside0.mk (hp_); have n3_ := Aside0.mk ((by rw [hw]; exact below_set (HB.out) GB52.out : Below w.heap.size w w57)); clear HO_7 HO_8 HO_9 HB; revert n0_ n1_ n2_ n3_; intro HO_7 HO_8 HO_9 HB; clear hg hw hp_))
            (try simp only [← hl9_1])
            go_roundg k1
            case measure => have := HK1.out; omega
            case rel => exact ⟨(t166), (y175), (wrap64 (x10_1 - 1)), (by first | rfl | (simp; done) | (simp [*]; done)), H', ⟨by have := HK1.out; omega⟩, ⟨by (try simp only [hl9_1]); (with_reducible repeat (first | apply Kd.R_alloc | apply Kd.R_drewN | apply Kd.R_drew)); exact HO_7.out⟩, ⟨by (try simp only [hl9_1]); (with_reducible repeat (first | apply Kd.V_alloc | apply Kd.V_drewN | apply Kd.V_drew)); exact Kd.V_mono HO_8.out (fun _ hk => ⟨hk.1.1, ⟨hk.1.2, hk.2⟩⟩)⟩, ⟨by (try simp only [hl9_1]); (with_reducible repeat (first | apply Kd.R_alloc | apply Kd.R_drewN | apply Kd.R_drew)); exact HO_9.out⟩, ⟨Bu HB⟩⟩
           ·rw [if_neg c51] at H
            exact absurd H (by simp)
          ·rw [if_neg c50] at H
           exact absurd H (by simp)
        ·rw [if_neg c22] at H
         have c22b0 : decide (0 ≤ x10_1) = false := decide_eq_false c22
         clear c22
         by_cases c58 : 0 ≤ (t158.length : Int)
         ·rw [if_pos c58] at H
          have c58b0 := eq_true c58
          have c58b1 : decide (0 ≤ (t158.length : Int)) = true := decide_eq_true c58
          clear c58
          by_cases c59 : ((t158.length : Int) : Int).toNat ≤ 70368744177664
          ·rw [if_pos c59] at H
           have c59b0 := eq_true c59
           have c59b1 : decide (((t158.length : Int) : Int).toNat ≤ 70368744177664) = true := decide_eq_true c59
           clear c59
           obtain ⟨y176, hy176⟩ : ∃ y_ : List Int, y_ = (List.replicate ((t158.length : Int) : Int).toNat 0) := ⟨_, rfl⟩
           replace H : (nat_div.l2 k1 t151 x7_1 x9_1 y176 (y176.length : Int) 0) = some (r1, r2) := by first | (rw [hy176]; with_reducible exact H) | (have H2_ := (Option.bind_some _ _).symm.trans H; rw [hy176]; with_reducible exact H2_) | (have H2_ := (Option.bind_some _ _).symm.trans H; with_reducible exact H2_) | with_reducible exact H | (rw [hy176]; exact H) | exact H
           have Ny176 := Aside0.mk hy176
           clear hy176
           have H' := Aside0.mk H
           clear H
           obtain ⟨Ao60, co60, eo60⟩ := Kd.V_slice HO_8.out
           subst eo60
           go_wp2_with (first | ((with_reducible refine gate_dst (N := 103) rfl ?_); refine Kd.R_make (Kd.int .u32) _ 55 rfl (N := 103) rfl 47 _ _ rfl (t158.length : Int) rfl rfl Tryd.underlying47 (.int .u32 0) 4 info55 rfl (by decide) (by omega) 0 (ok := fun _ => True) (okp := fun _ => True) rfl (fun _ hk => hk) trivial (of_decide_eq_true (by first | (with_reducible assumption) | assumption)) (Nat.le_trans (Nat.mul_le_mul_right _ (of_decide_eq_true (by first | (with_reducible assumption) | assumption) : (t158.length : Int).toNat ≤ 70368744177664)) (by omega)) (Below.refl _ _) (Nat.le_refl _) ?_; intro v177 w61 ho62 hb hg_ hnew_; clear hg_ hnew_; (first | rw [← Ny176.out] at ho62 | (simp only [Int.reduceToNat] at ho62; rw [← Ny176.out] at ho62)); have n0_ := Re HO_7 (Kd.R_base ho62) hb; have n1_ := Ve HO_8 (Kd.R_base ho62) hb; have n2_ := Re HO_9 (Kd.R_base ho62) hb; have n3_ := Aside0.mk (Kd.R_lower (Kd.R_new' (Kd.R_new' (Kd.R_newM (M := fun k_ => (w.heap.size ≤ k_)) ho62 (Bz HB) (fun k_ h_ => h_)) (Kd.R_lt (Ru HO_7))) (Kd.R_lt (Ru HO_9))) (Bz HB)); have n4_ := Bs HB hb; clear HO_7 HO_8 HO_9 HB; revert n0_ n1_ n2_ n3_ n4_; intro HO_7 HO_8 HO_9 HO178 HB; clear hb ho62; obtain ⟨Ao63, co63, eo63⟩ := Kd.R_slice HO178.out; subst eo63))
           go_loopg [106] k1 (fun kq v106 w' => ∃ (x14_2 : List Int) (x106_2 : Int), v106 = .int .i64 x106_2 ∧ Aside0 (nat_div.l2 kq t151 x7_1 x9_1 x14_2 (y176.length : Int) x106_2 = some (r1, r2)) ∧ Aside0 (kq ≤ k1) ∧ Aside0 (Kd.R (Kd.int .u32) 55 w' w.heap.size (fun k_ => (w.heap.size ≤ k_) ∧ some k_ ≠ ((.slice Ao21 x9_1.length co21) : Value).ownBlock ∧ some k_ ≠ ((.slice Ao63 y176.length co63) : Value).ownBlock) v153 x7_1) ∧ Aside0 (Kd.R (Kd.int .u32) 55 w' w.heap.size (fun k_ => (w.heap.size ≤ k_) ∧ some k_ ≠ (v153 : Value).ownBlock ∧ some k_ ≠ ((.slice Ao63 y176.length co63) : Value).ownBlock) (.slice Ao21 x9_1.length co21) x9_1) ∧ Aside0 (Kd.R (Kd.int .u32) 55 w' w.heap.size (fun k_ => (w.heap.size ≤ k_) ∧ some k_ ≠ (v153 : Value).ownBlock ∧ some k_ ≠ ((.slice Ao21 x9_1.length co21) : Value).ownBlock) (.slice Ao63 y176.length co63) x14_2) ∧ Aside0 (Below w.heap.size w w'))
           case atStart => exact ⟨(y176), (0), (by first | rfl | (simp; done) | (simp [*]; done)), H', ⟨Nat.le_refl _⟩, ⟨by (try simp only [hl9_1]); (with_reducible repeat (first | apply Kd.R_alloc | apply Kd.R_drewN | apply Kd.R_drew)); exact Kd.R_mono HO_7.out (fun _ hk => ⟨hk.1.1, ⟨hk.1.2, hk.2⟩⟩)⟩, ⟨by (try simp only [hl9_1]); (with_reducible repeat (first | apply Kd.R_alloc | apply Kd.R_drewN | apply Kd.R_drew)); exact Kd.R_mono HO_9.out (fun _ hk => ⟨hk.1.1, ⟨hk.1.2, hk.2⟩⟩)⟩, ⟨by (try simp only [hl9_1]); (with_reducible repeat (first | apply Kd.R_alloc | apply Kd.R_drewN | apply Kd.R_drew)); exact Kd.R_mono HO178.out (fun _ hk => ⟨hk.1.1.1, ⟨hk.1.2, hk.2⟩⟩)⟩, ⟨Bu HB⟩⟩
           case round =>
            clear H'
            try clear c1
            try clear p1
            try clear q1
            try clear hx1
            try clear c2
            try clear p2
            try clear c3
            try clear p3
            try clear q3
            try clear hx3
            try clear hf3
            try clear c4
            try clear c4b0
            try clear p4
            try clear q4
            try clear hx4
            try clear hf4
            try clear c5
            try clear p5
            try clear q5
            try clear hx5
            try clear hf5
            try clear c6
            try clear c6b0
            try clear p6
            try clear c7
            try clear c7b0
            try clear c13
            try clear c13b0
            try clear c13b1
            try clear c14
            try clear c14b0
            try clear c14b1
            try clear p15
            try clear q15
            try clear hx15
            try clear p16
            try clear q16
            try clear hx16
            try clear p17
            try clear q17
            try clear hx17
            try clear c22
            try clear c22b0
            try clear c25
            try clear c29
            try clear c29b0
            try clear c31
            try clear c31b0
            try clear c32
            try clear c32b0
            try clear c33
            try clear c33b0
            try clear c34
            try clear c34b0
            try clear p36
            try clear q36
            try clear hx36
            try clear hf36
            try clear c38
            try clear c40
            try clear c40b0
            try clear c41
            try clear c41b0
            try clear p42
            try clear q42
            try clear hx42
            try clear hf42
            try clear c43
            try clear c43b0
            try clear c44
            try clear c44b0
            try clear p45
            try clear q45
            try clear hx45
            try clear hf45
            try clear c47
            try clear c48
            try clear c49
            try clear c50
            try clear c50b0
            try clear c51
            try clear c51b0
            try clear p52
            try clear q52
            try clear hx52
            try clear hf52
            try clear c58
            try clear c58b0
            try clear c58b1
            try clear c59
            try clear c59b0
            try clear c59b1
            try clear hx150_0
            try clear hx167_0
            try clear hx168_0
            try clear hx172_0
            try clear hx36_0
            try clear hx42_0
            try clear hx45_0
            try clear hx52_0
            try clear p1
            try clear p15
            try clear p150
            try clear p167
            try clear p168
            try clear p172
            try clear p2
            try clear p36
            try clear p42
            try clear p45
            try clear p52
            try clear p6
            try clear q1
            try clear q15
            try clear q150
            try clear q167
            try clear q168
            try clear q172
            try clear q36
            try clear q42
            try clear q45
            try clear q52
            obtain ⟨x14_2, x106_2, rfl, HA, HK2, HO_7, HO_9, HO_14, HB⟩ := hrel
            have hl14_2 := (Kd.R_reads' HO_14.out).1
            rw [hl14_2] at HO_14
            (try simp only [hl14_2])
            (try simp only [hl14_2] at HO_7)
            (try simp only [hl14_2] at HO_9)
            cases gk with
            | zero => exact absurd HA.out (by simp [nat_div.l2])
            | succ k2 =>
             have H := HA.out
             clear HA
             simp only [nat_div.l2] at H
             by_cases c64 : x106_2 < (y176.length : Int)
             ·rw [if_pos c64] at H
              have c64b0 : decide (x106_2 < (y176.length : Int)) = true := decide_eq_true c64
              (try (have c64b0zhl14_2 := c64b0; rw [hl14_2] at c64b0zhl14_2))
              (try (have c64b0zhl9_1 := c64b0; rw [hl9_1] at c64b0zhl9_1))
              clear c64
              obtain ⟨ji65, hji65⟩ : ∃ j_ : Int, (wrap64 (x106_2 + 1)) = j_ := ⟨_, rfl⟩
              replace H : (if 0 ≤ (ji65) then (if (ji65) < (x7_1.length : Int) then (if 0 ≤ x106_2 then (if x106_2 < (x7_1.length : Int) then (if 0 ≤ t151 then (if x106_2 < (x14_2.length : Int) then (nat_div.l2 k2 t151 x7_1 x9_1 (x14_2.set (x106_2 : Int).toNat ((shr .u64 (Go.bits .or .u64 (IntKind.u64.wrap ((IntKind.u64.wrap (rd x7_1 (ji65))) * 4294967296)) (IntKind.u64.wrap (rd x7_1 x106_2))) t151) % 4294967296)) (y176.length : Int) ji65) else (none)) else (none)) else (none)) else (none)) else (none)) else (none)) = some (r1, r2) := by first | (rw [hji65] at H; exact H) | (simp only [hji65] at H ⊢; exact H)
              have hji65w : (IntKind.i64.wrap (x106_2 + 1)) = ji65 := (i64_w _).trans hji65
              by_cases c66 : 0 ≤ (ji65)
              ·rw [if_pos c66] at H
               have c66b0 : decide (0 ≤ (ji65)) = true := decide_eq_true c66
               clear c66
               by_cases c67 : (ji65) < (x7_1.length : Int)
               ·rw [if_pos c67] at H
                have c67b0 : decide ((ji65) < (x7_1.length : Int)) = true := decide_eq_true c67
                clear c67
                by_cases c68 : 0 ≤ x106_2
                ·rw [if_pos c68] at H
                 have c68b0 : decide (0 ≤ x106_2) = true := decide_eq_true c68
                 clear c68
                 by_cases c69 : x106_2 < (x7_1.length : Int)
                 ·rw [if_pos c69] at H
                  have c69b0 : decide (x106_2 < (x7_1.length : Int)) = true := decide_eq_true c69
                  clear c69
                  by_cases c70 : 0 ≤ t151
                  ·rw [if_pos c70] at H
                   have c70b0 := eq_true c70
                   have c70b1 : decide (0 ≤ t151) = true := decide_eq_true c70
                   clear c70
                   obtain ⟨ji71, hji71⟩ : ∃ j_ : Int, (shr .u64 (Go.bits .or .u64 (IntKind.u64.wrap ((IntKind.u64.wrap (rd x7_1 (ji65))) * 4294967296)) (IntKind.u64.wrap (rd x7_1 x106_2))) t151) = j_ := ⟨_, rfl⟩
                   replace H : (if x106_2 < (x14_2.length : Int) then (nat_div.l2 k2 t151 x7_1 x9_1 (x14_2.set (x106_2 : Int).toNat ((ji71) % 4294967296)) (y176.length : Int) ji65) else (none)) = some (r1, r2) := by first | (rw [hji71] at H; exact H) | (simp only [hji71] at H ⊢; exact H)
                   have hji71_ : ((Go.bits .or .u64 (IntKind.u64.wrap ((IntKind.u64.wrap (rd x7_1 (ji65))) * 4294967296)) (IntKind.u64.wrap (rd x7_1 x106_2))) / 2 ^ min t151.toNat 64) = ji71 := hji71
                   have hji71z : t151 ≤ 64 → ((Go.bits .or .u64 (IntKind.u64.wrap ((IntKind.u64.wrap (rd x7_1 (ji65))) * 4294967296)) (IntKind.u64.wrap (rd x7_1 x106_2))) / 2 ^ t151.toNat) = ji71 := shr_small hji71
                   by_cases c72 : x106_2 < (x14_2.length : Int)
                   ·rw [if_pos c72] at H
                    have c72b0 : decide (x106_2 < (x14_2.length : Int)) = true := decide_eq_true c72
                    clear c72
                    obtain ⟨y181, hy181⟩ : ∃ y_ : List Int, y_ = (x14_2.set (x106_2 : Int).toNat ((ji71) % 4294967296)) := ⟨_, rfl⟩
                    replace H : (nat_div.l2 k2 t151 x7_1 x9_1 y181 (y176.length : Int) ji65) = some (r1, r2) := by first | (rw [hy181]; with_reducible exact H) | (have H2_ := (Option.bind_some _ _).symm.trans H; rw [hy181]; with_reducible exact H2_) | (have H2_ := (Option.bind_some _ _).symm.trans H; with_reducible exact H2_) | with_reducible exact H | (rw [hy181]; exact H) | exact H
                    have Ny181 := Aside0.mk hy181
                    clear hy181
                    have H' := Aside0.mk H
                    clear H
                    try go_wp2
                    have n0_ := Aside0.mk (Kd.R_drew HO_7.out)
                    have n1_ := Aside0.mk (Kd.R_drew HO_9.out)
                    have n2_ := Aside0.mk (Kd.R_drew HO_14.out)
                    have n3_ := Aside0.mk (below_drew1 HB.out)
                    clear HO_7
                    clear HO_9
                    clear HO_14
                    clear HB
                    have HO_7 := n0_
                    have HO_9 := n1_
                    have HO_14 := n2_
                    have HB := n3_
                    clear n0_ n1_ n2_ n3_
                    obtain ⟨Ao75, co75, eo75⟩ := Kd.R_slice HO_7.out
                    (first | subst eo75 | (injection eo75 with f1_ f2_ f3_; have f4_ := f1_.symm; have f5_ := f3_.symm; clear f1_ f2_ f3_; subst f4_; subst f5_))
                    have p179 : 0 ≤ ((ji65) : Int) := of_decide_eq_true (by first | (with_reducible assumption) | assumption)
                    have q179 : (ji65) < (x7_1.length : Int) := of_decide_eq_true (by first | (with_reducible assumption) | assumption)
                    obtain ⟨ad179, e179, hx179_0⟩ := Kd.at_int (Kd.R_reads' HO_7.out).2.2 (ji65) p179 q179
                    cases e179
                    replace p179 := eq_true p179
                    replace q179 := eq_true q179
                    have p180 : 0 ≤ (x106_2 : Int) := of_decide_eq_true (by first | (with_reducible assumption) | assumption)
                    have q180 : x106_2 < (x7_1.length : Int) := of_decide_eq_true (by first | (with_reducible assumption) | assumption)
                    obtain ⟨ad180, e180, hx180_0⟩ := Kd.at_int (Kd.R_reads' HO_7.out).2.2 x106_2 p180 q180
                    obtain rfl : ad179 = ad180 := (by injection e180)
                    replace p180 := eq_true p180
                    replace q180 := eq_true q180
                    have p73 : 0 ≤ (x106_2 : Int) := of_decide_eq_true (by first | (with_reducible assumption) | assumption)
                    have q73 : (x106_2 : Int) < ((x14_2.length : Int) : Int) := of_decide_eq_true (by first | (with_reducible assumption) | assumption)
                    obtain ⟨go73, co73, eo73, gb73, gl73, cl73, HG73⟩ := Kd.R_form HO_14.out (by omega)
                    (first | cases eo73 | (injection eo73 with ea_ en_ ec_; (first | subst ea_ | (injection ea_ with ea_; subst ea_)); subst ec_; clear en_))
                    have GB73 := Aside0.mk gb73
                    have GG73 := Aside0.mk HG73
                    clear gb73 gl73 HG73
                    obtain ⟨hx73_0, hf73_0⟩ := Kd.R_celln 0 HO_14.out (x106_2 : Int) p73 q73
                    replace p73 := eq_true p73
                    replace q73 := eq_true q73
                    have HP76 := Kd.R_putn HO_14.out (x106_2 : Int) ((ji71) % 4294967296)
                    rw [← Ny181.out] at HP76
                    have HQ76 := Aside0.mk HP76
                    clear HP76
                    refine start_ (n := 20) (S := fun w' => w'.cell? (ad179.add ((ji65)).toNat) = some (.int .u32 (rd x7_1 (ji65))) ∧ w'.cell? (ad179.add (x106_2).toNat) = some (.int .u32 (rd x7_1 x106_2))) (ds := [19]) #[false, false, false, false, false, false, false, false, false, false, false, false, false, false, false, false, false, false, false, false] (by kernel_rfl) rfl rfl ⟨hx179_0, hx180_0⟩ (fun hHeld => ?_); refine with_tabW nat_div.tab24 nat_div.bits24 (fun HT_ HW_ => ?_)
                    generalize wr.drew = w74 at HO_7 HO_9 HO_14 HB GG73 HQ76 hf73_0 hx179_0 hx180_0 hx73_0 hHeld ⊢
                    refine pure_ (i := 0) (N := some 109) (v := ?_) (a' := ?_) #[true, false, false, false, false, false, false, false, false, false, false, false, false, false, false, false, false, false, false, false] rfl rfl (any_of HT_.out (by kernel_rfl)) (fun _ _ _ h => h) (Or.inl ⟨by rfl, ?_⟩) ?_ ?_
                    rotate_left
                    ·intro w'
                     go_simp
                     with_reducible rfl
                    rotate_left
                    ·simp only [Act.put, List.setIfInBounds_toArray, List.set_cons_zero, List.set_cons_succ, i64_w, i32_w]
                     rfl
                    refine pure_ (i := 1) (N := some 110) (v := ?_) (a' := ?_) #[true, true, false, false, false, false, false, false, false, false, false, false, false, false, false, false, false, false, false, false] rfl rfl (any_of HT_.out (by kernel_rfl)) (fun _ _ _ h => h) (Or.inl ⟨by rfl, ?_⟩) ?_ ?_
                    rotate_left
                    ·intro w'
                     go_simp
                     with_reducible rfl
                    rotate_left
                    ·simp only [Act.put, List.setIfInBounds_toArray, List.set_cons_zero, List.set_cons_succ, i64_w, i32_w]
                     rfl
                    refine pure_ (i := 2) (N := some 111) (v := ?_) (a' := ?_) #[true, true, true, false, false, false, false, false, false, false, false, false, false, false, false, false, false, false, false, false] rfl rfl (any_of HT_.out (by kernel_rfl)) (fun _ _ _ h => h) (Or.inl ⟨by rfl, ?_⟩) ?_ ?_
                    rotate_left
                    ·intro w'
                     go_simp
                     with_reducible rfl
                    rotate_left
                    ·simp only [Act.put, List.setIfInBounds_toArray, List.set_cons_zero, List.set_cons_succ, i64_w, i32_w]
                     rfl
                    refine pure_ (i := 3) (N := some 112) (v := ?_) (a' := ?_) #[true, true, true, true, false, false, false, false, false, false, false, false, false, false, false, false, false, false, false, false] rfl rfl (any_of HT_.out (by kernel_rfl)) (fun _ _ _ h => h) (Or.inl ⟨by rfl, ?_⟩) ?_ ?_
                    rotate_left
                    ·intro w'
                     go_simp
                     with_reducible rfl
                    rotate_left
                    ·simp only [Act.put, List.setIfInBounds_toArray, List.set_cons_zero, List.set_cons_succ, i64_w, i32_w]
                     rfl
                    refine pure_ (i := 4) (N := some 113) (v := ?_) (a' := ?_) #[true, true, true, true, true, false, false, false, false, false, false, false, false, false, false, false, false, false, false, false] rfl rfl (any_of HT_.out (by kernel_rfl)) (fun _ _ _ h => h) (Or.inl ⟨by rfl, ?_⟩) ?_ ?_
                    rotate_left
                    ·intro w'
                     go_simp
                     with_reducible rfl
                    rotate_left
                    ·simp only [Act.put, List.setIfInBounds_toArray, List.set_cons_zero, List.set_cons_succ, i64_w, i32_w]
                     rfl
                    refine pure_ (i := 5) (N := some 114) (v := ?_) (a' := ?_) #[true, true, true, true, true, true, false, false, false, false, false, false, false, false, false, false, false, false, false, false] rfl rfl (any_of HT_.out (by kernel_rfl)) (fun _ _ _ h => h) (Or.inl ⟨by rfl, ?_⟩) ?_ ?_
                    rotate_left
                    ·intro w'
                     go_simp
                     with_reducible rfl
                    rotate_left
                    ·simp only [Act.put, List.setIfInBounds_toArray, List.set_cons_zero, List.set_cons_succ, i64_w, i32_w]
                     rfl
                    refine pure_ (i := 9) (N := some 118) (v := ?_) (a' := ?_) #[true, true, true, true, true, true, false, false, false, true, false, false, false, false, false, false, false, false, false, false] rfl rfl (any_of HT_.out (by kernel_rfl)) (fun _ _ _ h => h) (Or.inl ⟨by rfl, ?_⟩) ?_ ?_
                    rotate_left
                    ·intro w'
                     go_simp
                     with_reducible rfl
                    rotate_left
                    ·simp only [Act.put, List.setIfInBounds_toArray, List.set_cons_zero, List.set_cons_succ, i64_w, i32_w]
                     rfl
                    refine pure_ (i := 10) (N := some 119) (v := ?_) (a' := ?_) #[true, true, true, true, true, true, false, false, false, true, true, false, false, false, false, false, false, false, false, false] rfl rfl (any_of HT_.out (by kernel_rfl)) (fun _ _ _ h => h) (Or.inl ⟨by rfl, ?_⟩) ?_ ?_
                    rotate_left
                    ·intro w'
                     go_simp
                     with_reducible rfl
                    rotate_left
                    ·simp only [Act.put, List.setIfInBounds_toArray, List.set_cons_zero, List.set_cons_succ, i64_w, i32_w]
                     rfl
                    refine pure_ (i := 11) (N := some 120) (v := ?_) (a' := ?_) #[true, true, true, true, true, true, false, false, false, true, true, true, false, false, false, false, false, false, false, false] rfl rfl (any_of HT_.out (by kernel_rfl)) (fun _ _ _ h => h) (Or.inl ⟨by rfl, ?_⟩) ?_ ?_
                    rotate_left
                    ·intro w'
                     go_simp
                     with_reducible rfl
                    rotate_left
                    ·simp only [Act.put, List.setIfInBounds_toArray, List.set_cons_zero, List.set_cons_succ, i64_w, i32_w]
                     rfl
                    refine pure_ (i := 15) (N := some 124) (v := ?_) (a' := ?_) #[true, true, true, true, true, true, false, false, false, true, true, true, false, false, false, true, false, false, false, false] rfl rfl (any_of HT_.out (by kernel_rfl)) (fun _ _ _ h => h) (Or.inl ⟨by rfl, ?_⟩) ?_ ?_
                    rotate_left
                    ·intro w'
                     go_simp
                     with_reducible rfl
                    rotate_left
                    ·simp only [Act.put, List.setIfInBounds_toArray, List.set_cons_zero, List.set_cons_succ, i64_w, i32_w]
                     rfl
                    refine take_ (i := 6) (N := some 115) (v := ?_) (a' := ?_) #[true, true, true, true, true, true, true, false, false, true, true, true, false, false, false, true, false, false, false, false] rfl rfl (take_ofW HT_.out HW_.out (by kernel_rfl)) (fun _ _ _ h => h) (Or.inl ⟨by rfl, ?_⟩) hHeld ?_ ?_
                    rotate_left
                    ·rintro w' ⟨s0, s1⟩
                     go_simp
                     with_reducible rfl
                    rotate_left
                    ·simp only [Act.put, List.setIfInBounds_toArray, List.set_cons_zero, List.set_cons_succ, i64_w, i32_w]
                     rfl
                    refine pure_ (i := 7) (N := some 116) (v := ?_) (a' := ?_) #[true, true, true, true, true, true, true, true, false, true, true, true, false, false, false, true, false, false, false, false] rfl rfl (any_of HT_.out (by kernel_rfl)) (fun _ _ _ h => h) (Or.inl ⟨by rfl, ?_⟩) ?_ ?_
                    rotate_left
                    ·intro w'
                     go_simp
                     with_reducible rfl
                    rotate_left
                    ·simp only [Act.put, List.setIfInBounds_toArray, List.set_cons_zero, List.set_cons_succ, i64_w, i32_w]
                     rfl
                    refine pure_ (i := 8) (N := some 117) (v := ?_) (a' := ?_) #[true, true, true, true, true, true, true, true, true, true, true, true, false, false, false, true, false, false, false, false] rfl rfl (any_of HT_.out (by kernel_rfl)) (fun _ _ _ h => h) (Or.inl ⟨by rfl, ?_⟩) ?_ ?_
                    rotate_left
                    ·intro w'
                     go_simp
                     with_reducible rfl
                    rotate_left
                    ·simp only [Act.put, List.setIfInBounds_toArray, List.set_cons_zero, List.set_cons_succ, i64_w, i32_w]
                     rfl
                    refine take_ (i := 12) (N := some 121) (v := ?_) (a' := ?_) #[true, true, true, true, true, true, true, true, true, true, true, true, true, false, false, true, false, false, false, false] rfl rfl (take_ofW HT_.out HW_.out (by kernel_rfl)) (fun _ _ _ h => h) (Or.inl ⟨by rfl, ?_⟩) hHeld ?_ ?_
                    rotate_left
                    ·rintro w' ⟨s0, s1⟩
                     go_simp
                     with_reducible rfl
                    rotate_left
                    ·simp only [Act.put, List.setIfInBounds_toArray, List.set_cons_zero, List.set_cons_succ, i64_w, i32_w]
                     rfl
                    refine pure_ (i := 13) (N := some 122) (v := ?_) (a' := ?_) #[true, true, true, true, true, true, true, true, true, true, true, true, true, true, false, true, false, false, false, false] rfl rfl (any_of HT_.out (by kernel_rfl)) (fun _ _ _ h => h) (Or.inl ⟨by rfl, ?_⟩) ?_ ?_
                    rotate_left
                    ·intro w'
                     go_simp
                     with_reducible rfl
                    rotate_left
                    ·simp only [Act.put, List.setIfInBounds_toArray, List.set_cons_zero, List.set_cons_succ, i64_w, i32_w]
                     rfl
                    refine pure_ (i := 14) (N := some 123) (v := ?_) (a' := ?_) #[true, true, true, true, true, true, true, true, true, true, true, true, true, true, true, true, false, false, false, false] rfl rfl (any_of HT_.out (by kernel_rfl)) (fun _ _ _ h => h) (Or.inl ⟨by rfl, ?_⟩) ?_ ?_
                    rotate_left
                    ·intro w'
                     go_simp
                     with_reducible rfl
                    rotate_left
                    ·simp only [Act.put, List.setIfInBounds_toArray, List.set_cons_zero, List.set_cons_succ, i64_w, i32_w]
                     rfl
                    refine pure_ (i := 16) (N := some 125) (v := ?_) (a' := ?_) #[true, true, true, true, true, true, true, true, true, true, true, true, true, true, true, true, true, false, false, false] rfl rfl (any_of HT_.out (by kernel_rfl)) (fun _ _ _ h => h) (Or.inl ⟨by rfl, ?_⟩) ?_ ?_
                    rotate_left
                    ·intro w'
                     go_simp
                     with_reducible rfl
                    rotate_left
                    ·simp only [Act.put, List.setIfInBounds_toArray, List.set_cons_zero, List.set_cons_succ, i64_w, i32_w]
                     rfl
                    refine pure_ (i := 17) (N := some 126) (v := ?_) (a' := ?_) #[true, true, true, true, true, true, true, true, true, true, true, true, true, true, true, true, true, true, false, false] rfl rfl (any_of HT_.out (by kernel_rfl)) (fun _ _ _ h => h) (Or.inl ⟨by rfl, ?_⟩) ?_ ?_
                    rotate_left
                    ·intro w'
                     go_simp
                     with_reducible rfl
                    rotate_left
                    ·simp only [Act.put, List.setIfInBounds_toArray, List.set_cons_zero, List.set_cons_succ, i64_w, i32_w]
                     rfl
                    refine pure_ (i := 18) (N := some 127) (v := ?_) (a' := ?_) #[true, true, true, true, true, true, true, true, true, true, true, true, true, true, true, true, true, true, true, false] rfl rfl (any_of HT_.out (by kernel_rfl)) (fun _ _ _ h => h) (Or.inl ⟨by rfl, ?_⟩) ?_ ?_
                    rotate_left
                    ·intro w'
                     go_simp
                     with_reducible rfl
                    rotate_left
                    ·simp only [Act.put, List.setIfInBounds_toArray, List.set_cons_zero, List.set_cons_succ, i64_w, i32_w]
                     rfl
                    refine last_ (i := 19) (N := none) #[true, true, true, true, true, true, true, true, true, true, true, true, true, true, true, true, true, true, true, true] rfl rfl (one_of HT_.out (by kernel_rfl)) (by decide) (fun K hK => ?_)
                    refine skip_ (w1 := ?_) (by rfl) rfl ?_ ?_
                    rotate_left
                    ·go_simp
                     rfl
                    refine hK.out _ _ ?_
                    clear hK K
                    refine done_ (done_of HT_.out (by kernel_rfl)) ?_
                    try go_wp2
                    (try simp only [← hl14_2])
                    go_roundg k2
                    case measure => have := HK1.out; have := HK2.out; omega
                    case rel => exact ⟨(y181), (ji65), (by first | rfl | (simp; done) | (simp only [← hji65] <;> (first | rfl | simp)) | (simp [*]; done)), H', ⟨by have := HK1.out; have := HK2.out; omega⟩, ⟨by (try simp only [hl9_1]); (try simp only [hl14_2]); (with_reducible repeat (first | apply Kd.R_alloc | apply Kd.R_drewN | apply Kd.R_drew)); exact Kd.R_mono (Kd.R_far (p := ⟨go73, (x106_2 : Int).toNat, none⟩) (Kd.R_mono HO_7.out (fun k_ hk => (⟨hk, fun e_ => hk.2.2 (by rw [e_]; rfl)⟩ : _ ∧ k_ ≠ go73))) (fun _ hk => hk.2) (.int .u32 ((ji71) % 4294967296))) (fun _ hk => ⟨hk.1.1, ⟨hk.1.2.1, hk.1.2.2⟩⟩)⟩, ⟨by (try simp only [hl9_1]); (try simp only [hl14_2]); (with_reducible repeat (first | apply Kd.R_alloc | apply Kd.R_drewN | apply Kd.R_drew)); exact Kd.R_mono (Kd.R_far (p := ⟨go73, (x106_2 : Int).toNat, none⟩) (Kd.R_mono HO_9.out (fun k_ hk => (⟨hk, fun e_ => hk.2.2 (by rw [e_]; rfl)⟩ : _ ∧ k_ ≠ go73))) (fun _ hk => hk.2) (.int .u32 ((ji71) % 4294967296))) (fun _ hk => ⟨hk.1.1, ⟨hk.1.2.1, hk.1.2.2⟩⟩)⟩, ⟨by (try simp only [hl9_1]); (try simp only [hl14_2]); (with_reducible repeat (first | apply Kd.R_alloc | apply Kd.R_drewN | apply Kd.R_drew)); exact HQ76.out⟩, ⟨by repeat (first | (with_reducible first | exact HB.out | apply below_alloc | apply pw_below_drewN | apply below_drew1 | refine below_set ?_ GB73.out) | exact HB.out)⟩⟩
                   ·rw [if_neg c72] at H
                    exact absurd H (by simp)
                  ·rw [if_neg c70] at H
                   exact absurd H (by simp)
                 ·rw [if_neg c69] at H
                  exact absurd H (by simp)
                ·rw [if_neg c68] at H
                 exact absurd H (by simp)
               ·rw [if_neg c67] at H
                exact absurd H (by simp)
              ·rw [if_neg c66] at H
               exact absurd H (by simp)
             ·rw [if_neg c64] at H
              have c64b0 : decide (x106_2 < (y176.length : Int)) = false := decide_eq_false c64
              (try (have c64b0zhl14_2 := c64b0; rw [hl14_2] at c64b0zhl14_2))
              (try (have c64b0zhl9_1 := c64b0; rw [hl9_1] at c64b0zhl9_1))
              clear c64
              replace H := Option.bind_eq_some_iff.mp H
              obtain ⟨t182, A770, H⟩ := H
              replace H : ((nat_num_trim.f k2 x14_2).bind fun t185 => (some (t182, t185))) = some (r1, r2) := H
              have A77 := Aside0.mk A770
              clear A770
              replace H := Option.bind_eq_some_iff.mp H
              obtain ⟨t185, A780, H⟩ := H
              replace H : (some (t182, t185)) = some (r1, r2) := H
              have A78 := Aside0.mk A780
              clear A780
              simp only [Option.some.injEq, Prod.mk.injEq] at H
              obtain ⟨rfl, rfl⟩ := H
              go_wp2_with (first | ((with_reducible refine gate_callee (f := 44) rfl ?_); refine goesA (some 130) Tryd.func44 #[.slice Ao21 x9_1.length co21] rfl ?_; (with_reducible refine (nat_num_trim.calls k2 (fun k_ => some k_ = (.slice Ao21 x9_1.length co21 : Value).ownBlock) _ _ x9_1 t182 _ ?side1 A77.out).mono ?_); (case side1 => exact Kd.R_V (Kd.R_tight rfl (HO_9.out))); rintro e w79 ⟨v183, rfl, ho0, hb⟩; refine ⟨_, rfl, ?_⟩; have n0_ := Rb HO_7 hb; have n1_ := Rb HO_9 hb; have n2_ := Rb HO_14 hb; have n3_ := Aside0.mk (Kd.V_lower (Kd.V_mono (ok' := fun k_ => (P0_ k_ ∨ w.heap.size ≤ k_) ∧ some k_ ≠ (v153 : Value).ownBlock ∧ some k_ ≠ (.slice Ao63 x14_2.length co63 : Value).ownBlock) ho0 (fun k_ hk_ => ⟨Or.elim hk_ (fun hs_ => (.inr (((HO_9.out).1 k_ hs_.symm).1))) (fun hn_ => (.inr (Nat.le_trans (Bz HB) hn_))), Or.elim hk_ (fun hs_ => ((HO_9.out).1 k_ hs_.symm).2.1) (fun hn_ => (Kd.fresh' (Kd.R_lt (Ru HO_7)) k_ hn_)), Or.elim hk_ (fun hs_ => ((HO_9.out).1 k_ hs_.symm).2.2) (fun hn_ => (Kd.fresh' (Kd.R_lt (Ru HO_14)) k_ hn_))⟩)) (Bz HB)); have n4_ := Bs HB hb; clear HO_7 HO_9 HO_14 HB; revert n0_ n1_ n2_ n3_ n4_; intro HO_7 HO_9 HO_14 HO184 HB; (try clear hb); (try clear hb2); (try clear hk); (try clear hi); (try clear ho0)) | ((with_reducible refine gate_callee (f := 44) rfl ?_); refine goesA (some 132) Tryd.func44 #[.slice Ao63 x14_2.length co63] rfl ?_; (with_reducible refine (nat_num_trim.calls k2 (fun k_ => some k_ = (.slice Ao63 x14_2.length co63 : Value).ownBlock) _ _ x14_2 t185 _ ?side1 A78.out).mono ?_); (case side1 => exact Kd.R_V (Kd.R_tight rfl (HO_14.out))); rintro e w80 ⟨v186, rfl, ho0, hb⟩; refine ⟨_, rfl, ?_⟩; have n0_ := Rb HO_7 hb; have n1_ := Rb HO_9 hb; have n2_ := Rb HO_14 hb; have n3_ := Vb HO184 hb; have n4_ := Aside0.mk (Kd.V_lower (Kd.V_mono (ok' := fun k_ => (P0_ k_ ∨ w.heap.size ≤ k_) ∧ some k_ ≠ (v153 : Value).ownBlock ∧ some k_ ≠ (.slice Ao21 x9_1.length co21 : Value).ownBlock) ho0 (fun k_ hk_ => ⟨Or.elim hk_ (fun hs_ => (.inr (((HO_14.out).1 k_ hs_.symm).1))) (fun hn_ => (.inr (Nat.le_trans (Bz HB) hn_))), Or.elim hk_ (fun hs_ => ((HO_14.out).1 k_ hs_.symm).2.1) (fun hn_ => (Kd.fresh' (Kd.R_lt (Ru HO_7)) k_ hn_)), Or.elim hk_ (fun hs_ => ((HO_14.out).1 k_ hs_.symm).2.2) (fun hn_ => (Kd.fresh' (Kd.R_lt (Ru HO_9)) k_ hn_))⟩)) (Bz HB)); have n5_ := Bs HB hb; clear HO_7 HO_9 HO_14 HO184 HB; revert n0_ n1_ n2_ n3_ n4_ n5_; intro HO_7 HO_9 HO_14 HO184 HO187 HB; (try clear hb); (try clear hb2); (try clear hk); (try clear hi); (try clear ho0)))
              go_ret2
              exact ⟨_, _, by first | rfl | (simp [errW_none, errW_some] <;> rfl) | (simp only [← hji5, ← hji12]; first | rfl | (simp [errW_none, errW_some] <;> rfl)) | (simp [*, errW_none, errW_some] <;> rfl), by (with_reducible repeat (first | apply Kd.V_alloc | apply Kd.V_drewN | apply Kd.V_drew)); exact Kd.V_mono HO184.out (fun _ hk => hk.1), by (with_reducible repeat (first | apply Kd.V_alloc | apply Kd.V_drewN | apply Kd.V_drew)); exact Kd.V_mono HO187.out (fun _ hk => hk.1), Bu HB⟩
          ·rw [if_neg c59] at H
           exact absurd H (by simp)
         ·rw [if_neg c58] at H
          exact absurd H (by simp)
     ·rw [if_neg c14] at H
      exact absurd H (by simp)
    ·rw [if_neg c13] at H
     exact absurd H (by simp)
   ·rw [if_neg c7] at H
    exact absurd H (by simp)
  ·rw [if_neg c6] at H
   exact absurd H (by simp)

end Go.Proofs.YtcofpbndaljppaaDoor.Hp
