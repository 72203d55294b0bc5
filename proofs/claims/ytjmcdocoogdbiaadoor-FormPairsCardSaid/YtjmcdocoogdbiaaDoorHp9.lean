/- Go functions of this seat as Lean functions, and their contracts: what the Go code computes, for every input. (By hp.py, a program of this repo, over the kit's print.py.) -/
import Derived.Test.YtjmcdocoogdbiaaDoorHp0
import Derived.Test.YtjmcdocoogdbiaaDoorHp2
import Derived.Test.YtjmcdocoogdbiaaDoorHp6
namespace Go.Proofs.YtjmcdocoogdbiaaDoor.Hp
open Go.RowKit Go.Proofs.YtjmcdocoogdbiaaDoorW.PrintWords Go.Proofs.YtjmcdocoogdbiaaDoorW.PrintLast Go.Proofs.YtjmcdocoogdbiaaDoorW.PrintMore
attribute [local go_sem] max2_int min2_int max_two min_two max_three min_three max_four min_four   -- for this text's walks alone
set_option linter.unusedVariables false
set_option linter.unusedSimpArgs false

/-! ### lanyardref03_Query: function 19 -/
def lanyardref03_Query.l0 : Nat → List (S40) → ByteArray → Int → Option (ByteArray)
 | 0, _, _, _ => none
 | k + 1, x0, x3, x4 => if x4 < (x0.length : Int) then (if x4 > 0 then (if x3.size + 1 ≤ 9223372036854775807 then (if 0 ≤ x4 then ((lanyardref03_Percent.f k ((rd_T40 x0 x4).f0)).bind fun t201 => (if (x3 ++ (⟨#[38]⟩ : ByteArray)).size + t201.size ≤ 9223372036854775807 then (if ((x3 ++ (⟨#[38]⟩ : ByteArray)) ++ t201).size + 1 ≤ 9223372036854775807 then ((lanyardref03_Percent.f k ((rd_T40 x0 x4).f1)).bind fun t203 => (if (((x3 ++ (⟨#[38]⟩ : ByteArray)) ++ t201) ++ (⟨#[61]⟩ : ByteArray)).size + t203.size ≤ 9223372036854775807 then (lanyardref03_Query.l0 k x0 ((((x3 ++ (⟨#[38]⟩ : ByteArray)) ++ t201) ++ (⟨#[61]⟩ : ByteArray)) ++ t203) (wrap64 (x4 + 1))) else (none))) else (none)) else (none))) else (none)) else (none)) else (if 0 ≤ x4 then ((lanyardref03_Percent.f k ((rd_T40 x0 x4).f0)).bind fun t205 => (if x3.size + t205.size ≤ 9223372036854775807 then (if (x3 ++ t205).size + 1 ≤ 9223372036854775807 then ((lanyardref03_Percent.f k ((rd_T40 x0 x4).f1)).bind fun t207 => (if ((x3 ++ t205) ++ (⟨#[61]⟩ : ByteArray)).size + t207.size ≤ 9223372036854775807 then (lanyardref03_Query.l0 k x0 (((x3 ++ t205) ++ (⟨#[61]⟩ : ByteArray)) ++ t207) (wrap64 (x4 + 1))) else (none))) else (none)) else (none))) else (none))) else (some x3)
def lanyardref03_Query.f (k : Nat) (l0 : List (S40)) : Option (ByteArray) := lanyardref03_Query.l0 k l0 (⟨#[]⟩ : ByteArray) 0
theorem lanyardref03_Query.mono_l : ∀ k, (∀ y0 y1 y2, LeO (lanyardref03_Query.l0 k y0 y1 y2) (lanyardref03_Query.l0 (k + 1) y0 y1 y2))
 | 0 => fun _ _ _ r h => by simp [lanyardref03_Query.l0] at h
 | k + 1 => by
  have ih0 := lanyardref03_Query.mono_l k
  ·intro y0 y1 y2
   unfold lanyardref03_Query.l0
   repeat' first
   | (with_reducible exact ih0 _ _ _)
   | (with_reducible exact lanyardref03_Percent.mono _ _)
   | (with_reducible exact LeO.refl _)
   | (with_reducible exact LeO.none _)
   | (with_reducible refine LeO.ite ?_ ?_)
   | (with_reducible refine LeO.bind ?_ (fun _ => ?_))
   | exact ih0 _ _ _
   | exact lanyardref03_Percent.mono _ _
   | exact LeO.none _
   | refine LeO.ite ?_ ?_
   | refine LeO.bind ?_ (fun _ => ?_)
theorem lanyardref03_Query.mono : ∀ a0 k, LeO (lanyardref03_Query.f k a0) (lanyardref03_Query.f (k + 1) a0) := by
 intro a0 k
 have ih0 := lanyardref03_Query.mono_l k
 unfold lanyardref03_Query.f
 repeat' first
   | (with_reducible exact ih0 _ _ _)
   | (with_reducible exact lanyardref03_Percent.mono _ _)
   | (with_reducible exact LeO.refl _)
   | (with_reducible exact LeO.none _)
   | (with_reducible refine LeO.ite ?_ ?_)
   | (with_reducible refine LeO.bind ?_ (fun _ => ?_))
   | exact ih0 _ _ _
   | exact lanyardref03_Percent.mono _ _
   | exact LeO.none _
   | refine LeO.ite ?_ ?_
   | refine LeO.bind ?_ (fun _ => ?_)
def lanyardref03_Query.T7 : Bool × List (List Nat × List Nat) := (true, [([], []), ([], []), ([], []), ([1, 2], [1, 2]), ([3], [3]), ([4], [4]), ([5], [5]), ([0, 6], [0, 6]), ([7], [7]), ([], []), ([], []), ([9, 10], [9, 10]), ([11], [11]), ([12], [12]), ([13, 6], [13]), ([8, 14], [8, 14]), ([15, 14, 0, 1, 2, 3, 4, 5, 6, 7, 8, 9, 10, 11, 12, 13, 14, 15], [0, 15])])
def lanyardref03_Query.B7 : List Nat := [0, 0, 0, 6, 14, 30, 62, 127, 255, 0, 0, 1536, 3584, 7680, 15998, 32767, 65535]
theorem lanyardref03_Query.tab7 : rtab .any (opsOf Tryd.f19 7) = lanyardref03_Query.T7 := by kernel_rfl
theorem lanyardref03_Query.bits7 : waitsOk lanyardref03_Query.T7.2 lanyardref03_Query.B7 = true := by kernel_rfl
set_option maxHeartbeats 8000000 in
set_option maxRecDepth 100000 in
theorem lanyardref03_Query.calls (k : Nat) (A0 : Option Addr) (c0 : Nat) (l0 : List (S40)) (r : ByteArray) (w : World) (hr0 : Kd.C k40 w A0 l0.length l0) (hc0 : l0.length ≤ c0) (h : lanyardref03_Query.f k l0 = some r) :
  Calls Tryd.prog 19 #[.slice A0 l0.length c0] w fun e w' => e = .returned (.string r) ∧ Below w.heap.size w w' := by
 have HR0 := Aside0.mk hr0
 have HC0 := Aside0.mk hc0
 clear hr0 hc0
 have HB := Aside0.mk (Below.refl w.heap.size w)
 have H : (lanyardref03_Query.l0 k l0 (⟨#[]⟩ : ByteArray) 0) = some r := h
 clear h
 have H' := Aside0.mk H
 clear H
 go_enter Tryd.func19, Tryd.ntmps19
 go_wp2
 go_loopg [3, 4] k (fun kq v3 v4 w' => ∃ (x3_1 : ByteArray) (x4_1 : Int), v3 = .string x3_1 ∧ v4 = .int .i64 x4_1 ∧ Aside0 (lanyardref03_Query.l0 kq l0 x3_1 x4_1 = some r) ∧ Aside0 (kq ≤ k) ∧ Aside0 (Below w.heap.size w w'))
 case atStart => exact ⟨((⟨#[]⟩ : ByteArray)), (0), (by first | rfl | (simp; done) | (simp [*]; done)), (by first | rfl | (simp; done) | (simp [*]; done)), H', ⟨Nat.le_refl _⟩, ⟨Bu HB⟩⟩
 case round =>
  clear H'
  try clear c1
  obtain ⟨x3_1, x4_1, rfl, rfl, HA, HK1, HB⟩ := hrel
  cases gk with
  | zero => exact absurd HA.out (by simp [lanyardref03_Query.l0])
  | succ k1 =>
   have H := HA.out
   clear HA
   simp only [lanyardref03_Query.l0] at H
   by_cases c2 : x4_1 < (l0.length : Int)
   ·rw [if_pos c2] at H
    have c2b0 : decide (x4_1 < (l0.length : Int)) = true := decide_eq_true c2
    clear c2
    by_cases c3 : x4_1 > 0
    ·rw [if_pos c3] at H
     have c3b0 : decide (0 < x4_1) = true := decide_eq_true c3
     clear c3
     by_cases c4 : x3_1.size + 1 ≤ 9223372036854775807
     ·rw [if_pos c4] at H
      have c4b0 := eq_true c4
      have c4b1 : decide (x3_1.size + 1 ≤ 9223372036854775807) = true := decide_eq_true c4
      try have c4b2 : (9223372036854775807 < x3_1.size + 1) = False := eq_false (Nat.not_lt.2 c4)
      by_cases c5 : 0 ≤ x4_1
      ·rw [if_pos c5] at H
       have c5b0 : decide (0 ≤ x4_1) = true := decide_eq_true c5
       clear c5
       replace H := Option.bind_eq_some_iff.mp H
       obtain ⟨t201, A60, H⟩ := H
       replace H : (if (x3_1 ++ (⟨#[38]⟩ : ByteArray)).size + t201.size ≤ 9223372036854775807 then (if ((x3_1 ++ (⟨#[38]⟩ : ByteArray)) ++ t201).size + 1 ≤ 9223372036854775807 then ((lanyardref03_Percent.f k1 ((rd_T40 l0 x4_1).f1)).bind fun t203 => (if (((x3_1 ++ (⟨#[38]⟩ : ByteArray)) ++ t201) ++ (⟨#[61]⟩ : ByteArray)).size + t203.size ≤ 9223372036854775807 then (lanyardref03_Query.l0 k1 l0 ((((x3_1 ++ (⟨#[38]⟩ : ByteArray)) ++ t201) ++ (⟨#[61]⟩ : ByteArray)) ++ t203) (wrap64 (x4_1 + 1))) else (none))) else (none)) else (none)) = some r := H
       have A6 := Aside0.mk A60
       clear A60
       by_cases c7 : (x3_1 ++ (⟨#[38]⟩ : ByteArray)).size + t201.size ≤ 9223372036854775807
       ·rw [if_pos c7] at H
        have c7b0 := eq_true c7
        have c7b1 : decide ((x3_1 ++ (⟨#[38]⟩ : ByteArray)).size + t201.size ≤ 9223372036854775807) = true := decide_eq_true c7
        try have c7b2 : (9223372036854775807 < (x3_1 ++ (⟨#[38]⟩ : ByteArray)).size + t201.size) = False := eq_false (Nat.not_lt.2 c7)
        try have c7b2z : (9223372036854775807 < x3_1.size + 1 + t201.size) = False := by have h_ := c7b2; simp only [ByteArray.size_append] at h_; exact h_
        by_cases c8 : ((x3_1 ++ (⟨#[38]⟩ : ByteArray)) ++ t201).size + 1 ≤ 9223372036854775807
        ·rw [if_pos c8] at H
         have c8b0 := eq_true c8
         have c8b1 : decide (((x3_1 ++ (⟨#[38]⟩ : ByteArray)) ++ t201).size + 1 ≤ 9223372036854775807) = true := decide_eq_true c8
         try have c8b2 : (9223372036854775807 < ((x3_1 ++ (⟨#[38]⟩ : ByteArray)) ++ t201).size + 1) = False := eq_false (Nat.not_lt.2 c8)
         try have c8b2z : (9223372036854775807 < x3_1.size + 1 + t201.size + 1) = False := by have h_ := c8b2; simp only [ByteArray.size_append] at h_; exact h_
         replace H := Option.bind_eq_some_iff.mp H
         obtain ⟨t203, A90, H⟩ := H
         replace H : (if (((x3_1 ++ (⟨#[38]⟩ : ByteArray)) ++ t201) ++ (⟨#[61]⟩ : ByteArray)).size + t203.size ≤ 9223372036854775807 then (lanyardref03_Query.l0 k1 l0 ((((x3_1 ++ (⟨#[38]⟩ : ByteArray)) ++ t201) ++ (⟨#[61]⟩ : ByteArray)) ++ t203) (wrap64 (x4_1 + 1))) else (none)) = some r := H
         have A9 := Aside0.mk A90
         clear A90
         by_cases c10 : (((x3_1 ++ (⟨#[38]⟩ : ByteArray)) ++ t201) ++ (⟨#[61]⟩ : ByteArray)).size + t203.size ≤ 9223372036854775807
         ·rw [if_pos c10] at H
          have c10b0 := eq_true c10
          have c10b1 : decide ((((x3_1 ++ (⟨#[38]⟩ : ByteArray)) ++ t201) ++ (⟨#[61]⟩ : ByteArray)).size + t203.size ≤ 9223372036854775807) = true := decide_eq_true c10
          try have c10b2 : (9223372036854775807 < (((x3_1 ++ (⟨#[38]⟩ : ByteArray)) ++ t201) ++ (⟨#[61]⟩ : ByteArray)).size + t203.size) = False := eq_false (Nat.not_lt.2 c10)
          try have c10b2z : (9223372036854775807 < x3_1.size + 1 + t201.size + 1 + t203.size) = False := by have h_ := c10b2; simp only [ByteArray.size_append] at h_; exact h_
          have H' := Aside0.mk H
          clear H
          try go_wp2
          have n0_ := Aside0.mk (below_drew1 HB.out)
          clear HB
          have HB := n0_
          clear n0_
          have p200 : 0 ≤ (x4_1 : Int) := of_decide_eq_true (by first | (with_reducible assumption) | assumption)
          have q200 : x4_1 < (l0.length : Int) := of_decide_eq_true (by first | (with_reducible assumption) | assumption)
          obtain ⟨ad200, e200, hx200_0, hx200_1⟩ := at_T40 HR0.out x4_1 p200 q200
          have hw200_1 := hx200_1
          have hw200_0 := hx200_0
          cases e200
          replace hx200_0 := (HB.out.cell (World.block_lt_of_cell? w _ hx200_0)).trans hx200_0
          replace hx200_1 := (HB.out.cell (World.block_lt_of_cell? w _ hx200_1)).trans hx200_1
          replace p200 := eq_true p200
          replace q200 := eq_true q200
          have p202 : 0 ≤ (x4_1 : Int) := of_decide_eq_true (by first | (with_reducible assumption) | assumption)
          have q202 : x4_1 < (l0.length : Int) := of_decide_eq_true (by first | (with_reducible assumption) | assumption)
          obtain ⟨ad202, e202, hx202_0, hx202_1⟩ := at_T40 HR0.out x4_1 p202 q202
          have hw202_1 := hx202_1
          have hw202_0 := hx202_0
          obtain rfl : ad200 = ad202 := (by injection e202)
          replace hx202_0 := (HB.out.cell (World.block_lt_of_cell? w _ hx202_0)).trans hx202_0
          replace hx202_1 := (HB.out.cell (World.block_lt_of_cell? w _ hx202_1)).trans hx202_1
          replace p202 := eq_true p202
          replace q202 := eq_true q202
          refine start_ (n := 17) (S := fun w' => w'.cell? (ad200.add ((x4_1).toNat * 2)) = some (.string ((rd_T40 l0 x4_1).f0)) ∧ w'.cell? ⟨(ad200.add ((x4_1).toNat * 2)).block, (ad200.add ((x4_1).toNat * 2)).off + 1, none⟩ = some (.string ((rd_T40 l0 x4_1).f1)) ∧ w'.cell? (ad200.add ((x4_1).toNat * 2)) = some (.string ((rd_T40 l0 x4_1).f0)) ∧ w'.cell? ⟨(ad200.add ((x4_1).toNat * 2)).block, (ad200.add ((x4_1).toNat * 2)).off + 1, none⟩ = some (.string ((rd_T40 l0 x4_1).f1))) (ds := []) #[false, false, false, false, false, false, false, false, false, false, false, false, false, false, false, false, false] (by kernel_rfl) rfl rfl ⟨((HB.out.cell (World.block_lt_of_cell? w _ hw200_0)).trans hw200_0), ((HB.out.cell (World.block_lt_of_cell? w _ hw200_1)).trans hw200_1), ((HB.out.cell (World.block_lt_of_cell? w _ hw202_0)).trans hw202_0), ((HB.out.cell (World.block_lt_of_cell? w _ hw202_1)).trans hw202_1)⟩ (fun hHeld => ?_); refine with_tabW lanyardref03_Query.tab7 lanyardref03_Query.bits7 (fun HT_ HW_ => ?_)
          generalize wr.drew = w11 at HB hx200_0 hx200_1 hx202_0 hx202_1 hHeld ⊢
          refine pure_ (i := 0) (N := some 15) (v := ?_) (a' := ?_) #[true, false, false, false, false, false, false, false, false, false, false, false, false, false, false, false, false] rfl rfl (any_of HT_.out (by kernel_rfl)) (fun _ _ _ h => h) (Or.inl ⟨by rfl, ?_⟩) ?_ ?_
          rotate_left
          ·intro w'
           go_simp
           with_reducible rfl
          rotate_left
          ·simp only [Act.put, List.setIfInBounds_toArray, List.set_cons_zero, List.set_cons_succ, i64_w, i32_w]
           rfl
          refine pure_ (i := 1) (N := some 16) (v := ?_) (a' := ?_) #[true, true, false, false, false, false, false, false, false, false, false, false, false, false, false, false, false] rfl rfl (any_of HT_.out (by kernel_rfl)) (fun _ _ _ h => h) (Or.inl ⟨by rfl, ?_⟩) ?_ ?_
          rotate_left
          ·intro w'
           go_simp
           with_reducible rfl
          rotate_left
          ·simp only [Act.put, List.setIfInBounds_toArray, List.set_cons_zero, List.set_cons_succ, i64_w, i32_w]
           rfl
          refine pure_ (i := 2) (N := some 17) (v := ?_) (a' := ?_) #[true, true, true, false, false, false, false, false, false, false, false, false, false, false, false, false, false] rfl rfl (any_of HT_.out (by kernel_rfl)) (fun _ _ _ h => h) (Or.inl ⟨by rfl, ?_⟩) ?_ ?_
          rotate_left
          ·intro w'
           go_simp
           with_reducible rfl
          rotate_left
          ·simp only [Act.put, List.setIfInBounds_toArray, List.set_cons_zero, List.set_cons_succ, i64_w, i32_w]
           rfl
          refine pure_ (i := 3) (N := some 18) (v := ?_) (a' := ?_) #[true, true, true, true, false, false, false, false, false, false, false, false, false, false, false, false, false] rfl rfl (any_of HT_.out (by kernel_rfl)) (fun _ _ _ h => h) (Or.inl ⟨by rfl, ?_⟩) ?_ ?_
          rotate_left
          ·intro w'
           go_simp
           with_reducible rfl
          rotate_left
          ·simp only [Act.put, List.setIfInBounds_toArray, List.set_cons_zero, List.set_cons_succ, i64_w, i32_w]
           rfl
          refine pure_ (i := 4) (N := some 19) (v := ?_) (a' := ?_) #[true, true, true, true, true, false, false, false, false, false, false, false, false, false, false, false, false] rfl rfl (any_of HT_.out (by kernel_rfl)) (fun _ _ _ h => h) (Or.inl ⟨by rfl, ?_⟩) ?_ ?_
          rotate_left
          ·intro w'
           go_simp
           with_reducible rfl
          rotate_left
          ·simp only [Act.put, List.setIfInBounds_toArray, List.set_cons_zero, List.set_cons_succ, i64_w, i32_w]
           rfl
          refine pure_ (i := 9) (N := some 24) (v := ?_) (a' := ?_) #[true, true, true, true, true, false, false, false, false, true, false, false, false, false, false, false, false] rfl rfl (any_of HT_.out (by kernel_rfl)) (fun _ _ _ h => h) (Or.inl ⟨by rfl, ?_⟩) ?_ ?_
          rotate_left
          ·intro w'
           go_simp
           with_reducible rfl
          rotate_left
          ·simp only [Act.put, List.setIfInBounds_toArray, List.set_cons_zero, List.set_cons_succ, i64_w, i32_w]
           rfl
          refine pure_ (i := 10) (N := some 25) (v := ?_) (a' := ?_) #[true, true, true, true, true, false, false, false, false, true, true, false, false, false, false, false, false] rfl rfl (any_of HT_.out (by kernel_rfl)) (fun _ _ _ h => h) (Or.inl ⟨by rfl, ?_⟩) ?_ ?_
          rotate_left
          ·intro w'
           go_simp
           with_reducible rfl
          rotate_left
          ·simp only [Act.put, List.setIfInBounds_toArray, List.set_cons_zero, List.set_cons_succ, i64_w, i32_w]
           rfl
          refine pure_ (i := 11) (N := some 26) (v := ?_) (a' := ?_) #[true, true, true, true, true, false, false, false, false, true, true, true, false, false, false, false, false] rfl rfl (any_of HT_.out (by kernel_rfl)) (fun _ _ _ h => h) (Or.inl ⟨by rfl, ?_⟩) ?_ ?_
          rotate_left
          ·intro w'
           go_simp
           with_reducible rfl
          rotate_left
          ·simp only [Act.put, List.setIfInBounds_toArray, List.set_cons_zero, List.set_cons_succ, i64_w, i32_w]
           rfl
          refine pure_ (i := 12) (N := some 27) (v := ?_) (a' := ?_) #[true, true, true, true, true, false, false, false, false, true, true, true, true, false, false, false, false] rfl rfl (any_of HT_.out (by kernel_rfl)) (fun _ _ _ h => h) (Or.inl ⟨by rfl, ?_⟩) ?_ ?_
          rotate_left
          ·intro w'
           go_simp
           with_reducible rfl
          rotate_left
          ·simp only [Act.put, List.setIfInBounds_toArray, List.set_cons_zero, List.set_cons_succ, i64_w, i32_w]
           rfl
          refine take_ (i := 5) (N := some 20) (v := ?_) (a' := ?_) #[true, true, true, true, true, true, false, false, false, true, true, true, true, false, false, false, false] rfl rfl (take_ofW HT_.out HW_.out (by kernel_rfl)) (fun _ _ _ h => h) (Or.inl ⟨by rfl, ?_⟩) hHeld ?_ ?_
          rotate_left
          ·rintro w' ⟨s0, s1, s2, s3⟩
           go_simp
           with_reducible rfl
          rotate_left
          ·simp only [Act.put, List.setIfInBounds_toArray, List.set_cons_zero, List.set_cons_succ, i64_w, i32_w]
           rfl
          refine take_ (i := 13) (N := some 28) (v := ?_) (a' := ?_) #[true, true, true, true, true, true, false, false, false, true, true, true, true, true, false, false, false] rfl rfl (take_ofW HT_.out HW_.out (by kernel_rfl)) (fun _ _ _ h => h) (Or.inl ⟨by rfl, ?_⟩) hHeld ?_ ?_
          rotate_left
          ·rintro w' ⟨s0, s1, s2, s3⟩
           go_simp
           with_reducible rfl
          rotate_left
          ·simp only [Act.put, List.setIfInBounds_toArray, List.set_cons_zero, List.set_cons_succ, i64_w, i32_w]
           rfl
          refine one_ (i := 6) (N := some 21) #[true, true, true, true, true, true, true, false, false, true, true, true, true, true, false, false, false] rfl rfl (one_of HT_.out (by kernel_rfl)) (by decide) (fun K hK => ?_)
          refine goes_ Tryd.func12 (by kernel_rfl) rfl #[.string ((rd_T40 l0 x4_1).f0)] (by rfl) rfl rfl (by (try simp only [List.map_toArray, List.map_cons, List.map_nil]); first | done | rfl | (simp only [List.length_drop, List.length_take]; rfl)) ?_
          with_reducible refine (lanyardref03_Percent.calls k1 ((rd_T40 l0 x4_1).f0) t201 _ A6.out).mono ?_
          rintro e w12 ⟨rfl, hb⟩
          refine ⟨_, rfl, ?_⟩
          have n0_ := Bs HB hb
          clear HB
          have HB := n0_
          clear n0_
          (try clear hb)
          (try clear hb2)
          (try clear hk)
          (try clear hi)
          refine hK.out _ _ ⟨((HB.out.cell (World.block_lt_of_cell? w _ hw200_0)).trans hw200_0), ((HB.out.cell (World.block_lt_of_cell? w _ hw200_1)).trans hw200_1), ((HB.out.cell (World.block_lt_of_cell? w _ hw202_0)).trans hw202_0), ((HB.out.cell (World.block_lt_of_cell? w _ hw202_1)).trans hw202_1)⟩ (fun hHeld => ?_)
          clear hK K
          refine norm_ (a' := ?_) ?_ ?_
          rotate_left
          ·show Act.put _ (some 21) _ = _
           simp only [Act.put, List.setIfInBounds_toArray, List.set_cons_zero, List.set_cons_succ, i64_w, i32_w]
           rfl
          refine pure_ (i := 7) (N := some 22) (v := ?_) (a' := ?_) #[true, true, true, true, true, true, true, true, false, true, true, true, true, true, false, false, false] rfl rfl (any_of HT_.out (by kernel_rfl)) (fun _ _ _ h => h) (Or.inl ⟨by rfl, ?_⟩) ?_ ?_
          rotate_left
          ·intro w'
           go_simp
           with_reducible rfl
          rotate_left
          ·simp only [Act.put, List.setIfInBounds_toArray, List.set_cons_zero, List.set_cons_succ, i64_w, i32_w]
           rfl
          refine pure_ (i := 8) (N := some 23) (v := ?_) (a' := ?_) #[true, true, true, true, true, true, true, true, true, true, true, true, true, true, false, false, false] rfl rfl (any_of HT_.out (by kernel_rfl)) (fun _ _ _ h => h) (Or.inl ⟨by rfl, ?_⟩) ?_ ?_
          rotate_left
          ·intro w'
           go_simp
           with_reducible rfl
          rotate_left
          ·simp only [Act.put, List.setIfInBounds_toArray, List.set_cons_zero, List.set_cons_succ, i64_w, i32_w]
           rfl
          refine one_ (i := 14) (N := some 29) #[true, true, true, true, true, true, true, true, true, true, true, true, true, true, true, false, false] rfl rfl (one_of HT_.out (by kernel_rfl)) (by decide) (fun K hK => ?_)
          refine goes_ Tryd.func12 (by kernel_rfl) rfl #[.string ((rd_T40 l0 x4_1).f1)] (by rfl) rfl rfl (by (try simp only [List.map_toArray, List.map_cons, List.map_nil]); first | done | rfl | (simp only [List.length_drop, List.length_take]; rfl)) ?_
          with_reducible refine (lanyardref03_Percent.calls k1 ((rd_T40 l0 x4_1).f1) t203 _ A9.out).mono ?_
          rintro e w13 ⟨rfl, hb⟩
          refine ⟨_, rfl, ?_⟩
          have n0_ := Bs HB hb
          clear HB
          have HB := n0_
          clear n0_
          (try clear hb)
          (try clear hb2)
          (try clear hk)
          (try clear hi)
          refine hK.out _ _ ⟨((HB.out.cell (World.block_lt_of_cell? w _ hw200_0)).trans hw200_0), ((HB.out.cell (World.block_lt_of_cell? w _ hw200_1)).trans hw200_1), ((HB.out.cell (World.block_lt_of_cell? w _ hw202_0)).trans hw202_0), ((HB.out.cell (World.block_lt_of_cell? w _ hw202_1)).trans hw202_1)⟩ (fun hHeld => ?_)
          clear hK K
          refine norm_ (a' := ?_) ?_ ?_
          rotate_left
          ·show Act.put _ (some 29) _ = _
           simp only [Act.put, List.setIfInBounds_toArray, List.set_cons_zero, List.set_cons_succ, i64_w, i32_w]
           rfl
          refine pure_ (i := 15) (N := some 30) (v := ?_) (a' := ?_) #[true, true, true, true, true, true, true, true, true, true, true, true, true, true, true, true, false] rfl rfl (any_of HT_.out (by kernel_rfl)) (fun _ _ _ h => h) (Or.inl ⟨by rfl, ?_⟩) ?_ ?_
          rotate_left
          ·intro w'
           go_simp
           with_reducible rfl
          rotate_left
          ·simp only [Act.put, List.setIfInBounds_toArray, List.set_cons_zero, List.set_cons_succ, i64_w, i32_w]
           rfl
          refine pure_ (i := 16) (N := some 3) (v := ?_) (a' := ?_) #[true, true, true, true, true, true, true, true, true, true, true, true, true, true, true, true, true] rfl rfl (any_of HT_.out (by kernel_rfl)) (fun _ _ _ h => h) (Or.inl ⟨by rfl, ?_⟩) ?_ ?_
          rotate_left
          ·intro w'
           go_simp
           with_reducible rfl
          rotate_left
          ·simp only [Act.put, List.setIfInBounds_toArray, List.set_cons_zero, List.set_cons_succ, i64_w, i32_w]
           rfl
          refine done_ (done_of HT_.out (by kernel_rfl)) ?_
          try go_wp2
          go_roundg k1
          case measure => have := HK1.out; omega
          case rel => exact ⟨((((x3_1 ++ (⟨#[38]⟩ : ByteArray)) ++ t201) ++ (⟨#[61]⟩ : ByteArray)) ++ t203), (wrap64 (x4_1 + 1)), (by first | rfl | (simp; done) | (simp [*]; done)), (by first | rfl | (simp; done) | (simp [*]; done)), H', ⟨by have := HK1.out; omega⟩, ⟨Bu HB⟩⟩
         ·rw [if_neg c10] at H
          exact absurd H (by simp)
        ·rw [if_neg c8] at H
         exact absurd H (by simp)
       ·rw [if_neg c7] at H
        exact absurd H (by simp)
      ·rw [if_neg c5] at H
       exact absurd H (by simp)
     ·rw [if_neg c4] at H
      exact absurd H (by simp)
    ·rw [if_neg c3] at H
     have c3b0 : decide (0 < x4_1) = false := decide_eq_false c3
     clear c3
     by_cases c14 : 0 ≤ x4_1
     ·rw [if_pos c14] at H
      have c14b0 : decide (0 ≤ x4_1) = true := decide_eq_true c14
      clear c14
      replace H := Option.bind_eq_some_iff.mp H
      obtain ⟨t205, A150, H⟩ := H
      replace H : (if x3_1.size + t205.size ≤ 9223372036854775807 then (if (x3_1 ++ t205).size + 1 ≤ 9223372036854775807 then ((lanyardref03_Percent.f k1 ((rd_T40 l0 x4_1).f1)).bind fun t207 => (if ((x3_1 ++ t205) ++ (⟨#[61]⟩ : ByteArray)).size + t207.size ≤ 9223372036854775807 then (lanyardref03_Query.l0 k1 l0 (((x3_1 ++ t205) ++ (⟨#[61]⟩ : ByteArray)) ++ t207) (wrap64 (x4_1 + 1))) else (none))) else (none)) else (none)) = some r := H
      have A15 := Aside0.mk A150
      clear A150
      by_cases c16 : x3_1.size + t205.size ≤ 9223372036854775807
      ·rw [if_pos c16] at H
       have c16b0 := eq_true c16
       have c16b1 : decide (x3_1.size + t205.size ≤ 9223372036854775807) = true := decide_eq_true c16
       try have c16b2 : (9223372036854775807 < x3_1.size + t205.size) = False := eq_false (Nat.not_lt.2 c16)
       by_cases c17 : (x3_1 ++ t205).size + 1 ≤ 9223372036854775807
       ·rw [if_pos c17] at H
        have c17b0 := eq_true c17
        have c17b1 : decide ((x3_1 ++ t205).size + 1 ≤ 9223372036854775807) = true := decide_eq_true c17
        try have c17b2 : (9223372036854775807 < (x3_1 ++ t205).size + 1) = False := eq_false (Nat.not_lt.2 c17)
        try have c17b2z : (9223372036854775807 < x3_1.size + t205.size + 1) = False := by have h_ := c17b2; simp only [ByteArray.size_append] at h_; exact h_
        replace H := Option.bind_eq_some_iff.mp H
        obtain ⟨t207, A180, H⟩ := H
        replace H : (if ((x3_1 ++ t205) ++ (⟨#[61]⟩ : ByteArray)).size + t207.size ≤ 9223372036854775807 then (lanyardref03_Query.l0 k1 l0 (((x3_1 ++ t205) ++ (⟨#[61]⟩ : ByteArray)) ++ t207) (wrap64 (x4_1 + 1))) else (none)) = some r := H
        have A18 := Aside0.mk A180
        clear A180
        by_cases c19 : ((x3_1 ++ t205) ++ (⟨#[61]⟩ : ByteArray)).size + t207.size ≤ 9223372036854775807
        ·rw [if_pos c19] at H
         have c19b0 := eq_true c19
         have c19b1 : decide (((x3_1 ++ t205) ++ (⟨#[61]⟩ : ByteArray)).size + t207.size ≤ 9223372036854775807) = true := decide_eq_true c19
         try have c19b2 : (9223372036854775807 < ((x3_1 ++ t205) ++ (⟨#[61]⟩ : ByteArray)).size + t207.size) = False := eq_false (Nat.not_lt.2 c19)
         try have c19b2z : (9223372036854775807 < x3_1.size + t205.size + 1 + t207.size) = False := by have h_ := c19b2; simp only [ByteArray.size_append] at h_; exact h_
         have H' := Aside0.mk H
         clear H
         try go_wp2
         have n0_ := Aside0.mk (below_drew1 HB.out)
         clear HB
         have HB := n0_
         clear n0_
         have p204 : 0 ≤ (x4_1 : Int) := of_decide_eq_true (by first | (with_reducible assumption) | assumption)
         have q204 : x4_1 < (l0.length : Int) := of_decide_eq_true (by first | (with_reducible assumption) | assumption)
         obtain ⟨ad204, e204, hx204_0, hx204_1⟩ := at_T40 HR0.out x4_1 p204 q204
         have hw204_1 := hx204_1
         have hw204_0 := hx204_0
         cases e204
         replace hx204_0 := (HB.out.cell (World.block_lt_of_cell? w _ hx204_0)).trans hx204_0
         replace hx204_1 := (HB.out.cell (World.block_lt_of_cell? w _ hx204_1)).trans hx204_1
         replace p204 := eq_true p204
         replace q204 := eq_true q204
         have p206 : 0 ≤ (x4_1 : Int) := of_decide_eq_true (by first | (with_reducible assumption) | assumption)
         have q206 : x4_1 < (l0.length : Int) := of_decide_eq_true (by first | (with_reducible assumption) | assumption)
         obtain ⟨ad206, e206, hx206_0, hx206_1⟩ := at_T40 HR0.out x4_1 p206 q206
         have hw206_1 := hx206_1
         have hw206_0 := hx206_0
         obtain rfl : ad204 = ad206 := (by injection e206)
         replace hx206_0 := (HB.out.cell (World.block_lt_of_cell? w _ hx206_0)).trans hx206_0
         replace hx206_1 := (HB.out.cell (World.block_lt_of_cell? w _ hx206_1)).trans hx206_1
         replace p206 := eq_true p206
         replace q206 := eq_true q206
         refine start_ (n := 17) (S := fun w' => w'.cell? (ad204.add ((x4_1).toNat * 2)) = some (.string ((rd_T40 l0 x4_1).f0)) ∧ w'.cell? ⟨(ad204.add ((x4_1).toNat * 2)).block, (ad204.add ((x4_1).toNat * 2)).off + 1, none⟩ = some (.string ((rd_T40 l0 x4_1).f1)) ∧ w'.cell? (ad204.add ((x4_1).toNat * 2)) = some (.string ((rd_T40 l0 x4_1).f0)) ∧ w'.cell? ⟨(ad204.add ((x4_1).toNat * 2)).block, (ad204.add ((x4_1).toNat * 2)).off + 1, none⟩ = some (.string ((rd_T40 l0 x4_1).f1))) (ds := []) #[false, false, false, false, false, false, false, false, false, false, false, false, false, false, false, false, false] (by kernel_rfl) rfl rfl ⟨((HB.out.cell (World.block_lt_of_cell? w _ hw204_0)).trans hw204_0), ((HB.out.cell (World.block_lt_of_cell? w _ hw204_1)).trans hw204_1), ((HB.out.cell (World.block_lt_of_cell? w _ hw206_0)).trans hw206_0), ((HB.out.cell (World.block_lt_of_cell? w _ hw206_1)).trans hw206_1)⟩ (fun hHeld => ?_); refine with_tabW lanyardref03_Query.tab7 lanyardref03_Query.bits7 (fun HT_ HW_ => ?_)
         generalize wr.drew = w20 at HB hx204_0 hx204_1 hx206_0 hx206_1 hHeld ⊢
         refine pure_ (i := 0) (N := some 15) (v := ?_) (a' := ?_) #[true, false, false, false, false, false, false, false, false, false, false, false, false, false, false, false, false] rfl rfl (any_of HT_.out (by kernel_rfl)) (fun _ _ _ h => h) (Or.inl ⟨by rfl, ?_⟩) ?_ ?_
         rotate_left
         ·intro w'
          go_simp
          with_reducible rfl
         rotate_left
         ·simp only [Act.put, List.setIfInBounds_toArray, List.set_cons_zero, List.set_cons_succ, i64_w, i32_w]
          rfl
         refine pure_ (i := 1) (N := some 16) (v := ?_) (a' := ?_) #[true, true, false, false, false, false, false, false, false, false, false, false, false, false, false, false, false] rfl rfl (any_of HT_.out (by kernel_rfl)) (fun _ _ _ h => h) (Or.inl ⟨by rfl, ?_⟩) ?_ ?_
         rotate_left
         ·intro w'
          go_simp
          with_reducible rfl
         rotate_left
         ·simp only [Act.put, List.setIfInBounds_toArray, List.set_cons_zero, List.set_cons_succ, i64_w, i32_w]
          rfl
         refine pure_ (i := 2) (N := some 17) (v := ?_) (a' := ?_) #[true, true, true, false, false, false, false, false, false, false, false, false, false, false, false, false, false] rfl rfl (any_of HT_.out (by kernel_rfl)) (fun _ _ _ h => h) (Or.inl ⟨by rfl, ?_⟩) ?_ ?_
         rotate_left
         ·intro w'
          go_simp
          with_reducible rfl
         rotate_left
         ·simp only [Act.put, List.setIfInBounds_toArray, List.set_cons_zero, List.set_cons_succ, i64_w, i32_w]
          rfl
         refine pure_ (i := 3) (N := some 18) (v := ?_) (a' := ?_) #[true, true, true, true, false, false, false, false, false, false, false, false, false, false, false, false, false] rfl rfl (any_of HT_.out (by kernel_rfl)) (fun _ _ _ h => h) (Or.inl ⟨by rfl, ?_⟩) ?_ ?_
         rotate_left
         ·intro w'
          go_simp
          with_reducible rfl
         rotate_left
         ·simp only [Act.put, List.setIfInBounds_toArray, List.set_cons_zero, List.set_cons_succ, i64_w, i32_w]
          rfl
         refine pure_ (i := 4) (N := some 19) (v := ?_) (a' := ?_) #[true, true, true, true, true, false, false, false, false, false, false, false, false, false, false, false, false] rfl rfl (any_of HT_.out (by kernel_rfl)) (fun _ _ _ h => h) (Or.inl ⟨by rfl, ?_⟩) ?_ ?_
         rotate_left
         ·intro w'
          go_simp
          with_reducible rfl
         rotate_left
         ·simp only [Act.put, List.setIfInBounds_toArray, List.set_cons_zero, List.set_cons_succ, i64_w, i32_w]
          rfl
         refine pure_ (i := 9) (N := some 24) (v := ?_) (a' := ?_) #[true, true, true, true, true, false, false, false, false, true, false, false, false, false, false, false, false] rfl rfl (any_of HT_.out (by kernel_rfl)) (fun _ _ _ h => h) (Or.inl ⟨by rfl, ?_⟩) ?_ ?_
         rotate_left
         ·intro w'
          go_simp
          with_reducible rfl
         rotate_left
         ·simp only [Act.put, List.setIfInBounds_toArray, List.set_cons_zero, List.set_cons_succ, i64_w, i32_w]
          rfl
         refine pure_ (i := 10) (N := some 25) (v := ?_) (a' := ?_) #[true, true, true, true, true, false, false, false, false, true, true, false, false, false, false, false, false] rfl rfl (any_of HT_.out (by kernel_rfl)) (fun _ _ _ h => h) (Or.inl ⟨by rfl, ?_⟩) ?_ ?_
         rotate_left
         ·intro w'
          go_simp
          with_reducible rfl
         rotate_left
         ·simp only [Act.put, List.setIfInBounds_toArray, List.set_cons_zero, List.set_cons_succ, i64_w, i32_w]
          rfl
         refine pure_ (i := 11) (N := some 26) (v := ?_) (a' := ?_) #[true, true, true, true, true, false, false, false, false, true, true, true, false, false, false, false, false] rfl rfl (any_of HT_.out (by kernel_rfl)) (fun _ _ _ h => h) (Or.inl ⟨by rfl, ?_⟩) ?_ ?_
         rotate_left
         ·intro w'
          go_simp
          with_reducible rfl
         rotate_left
         ·simp only [Act.put, List.setIfInBounds_toArray, List.set_cons_zero, List.set_cons_succ, i64_w, i32_w]
          rfl
         refine pure_ (i := 12) (N := some 27) (v := ?_) (a' := ?_) #[true, true, true, true, true, false, false, false, false, true, true, true, true, false, false, false, false] rfl rfl (any_of HT_.out (by kernel_rfl)) (fun _ _ _ h => h) (Or.inl ⟨by rfl, ?_⟩) ?_ ?_
         rotate_left
         ·intro w'
          go_simp
          with_reducible rfl
         rotate_left
         ·simp only [Act.put, List.setIfInBounds_toArray, List.set_cons_zero, List.set_cons_succ, i64_w, i32_w]
          rfl
         refine take_ (i := 5) (N := some 20) (v := ?_) (a' := ?_) #[true, true, true, true, true, true, false, false, false, true, true, true, true, false, false, false, false] rfl rfl (take_ofW HT_.out HW_.out (by kernel_rfl)) (fun _ _ _ h => h) (Or.inl ⟨by rfl, ?_⟩) hHeld ?_ ?_
         rotate_left
         ·rintro w' ⟨s0, s1, s2, s3⟩
          go_simp
          with_reducible rfl
         rotate_left
         ·simp only [Act.put, List.setIfInBounds_toArray, List.set_cons_zero, List.set_cons_succ, i64_w, i32_w]
          rfl
         refine take_ (i := 13) (N := some 28) (v := ?_) (a' := ?_) #[true, true, true, true, true, true, false, false, false, true, true, true, true, true, false, false, false] rfl rfl (take_ofW HT_.out HW_.out (by kernel_rfl)) (fun _ _ _ h => h) (Or.inl ⟨by rfl, ?_⟩) hHeld ?_ ?_
         rotate_left
         ·rintro w' ⟨s0, s1, s2, s3⟩
          go_simp
          with_reducible rfl
         rotate_left
         ·simp only [Act.put, List.setIfInBounds_toArray, List.set_cons_zero, List.set_cons_succ, i64_w, i32_w]
          rfl
         refine one_ (i := 6) (N := some 21) #[true, true, true, true, true, true, true, false, false, true, true, true, true, true, false, false, false] rfl rfl (one_of HT_.out (by kernel_rfl)) (by decide) (fun K hK => ?_)
         refine goes_ Tryd.func12 (by kernel_rfl) rfl #[.string ((rd_T40 l0 x4_1).f0)] (by rfl) rfl rfl (by (try simp only [List.map_toArray, List.map_cons, List.map_nil]); first | done | rfl | (simp only [List.length_drop, List.length_take]; rfl)) ?_
         with_reducible refine (lanyardref03_Percent.calls k1 ((rd_T40 l0 x4_1).f0) t205 _ A15.out).mono ?_
         rintro e w21 ⟨rfl, hb⟩
         refine ⟨_, rfl, ?_⟩
         have n0_ := Bs HB hb
         clear HB
         have HB := n0_
         clear n0_
         (try clear hb)
         (try clear hb2)
         (try clear hk)
         (try clear hi)
         refine hK.out _ _ ⟨((HB.out.cell (World.block_lt_of_cell? w _ hw204_0)).trans hw204_0), ((HB.out.cell (World.block_lt_of_cell? w _ hw204_1)).trans hw204_1), ((HB.out.cell (World.block_lt_of_cell? w _ hw206_0)).trans hw206_0), ((HB.out.cell (World.block_lt_of_cell? w _ hw206_1)).trans hw206_1)⟩ (fun hHeld => ?_)
         clear hK K
         refine norm_ (a' := ?_) ?_ ?_
         rotate_left
         ·show Act.put _ (some 21) _ = _
          simp only [Act.put, List.setIfInBounds_toArray, List.set_cons_zero, List.set_cons_succ, i64_w, i32_w]
          rfl
         refine pure_ (i := 7) (N := some 22) (v := ?_) (a' := ?_) #[true, true, true, true, true, true, true, true, false, true, true, true, true, true, false, false, false] rfl rfl (any_of HT_.out (by kernel_rfl)) (fun _ _ _ h => h) (Or.inl ⟨by rfl, ?_⟩) ?_ ?_
         rotate_left
         ·intro w'
          go_simp
          with_reducible rfl
         rotate_left
         ·simp only [Act.put, List.setIfInBounds_toArray, List.set_cons_zero, List.set_cons_succ, i64_w, i32_w]
          rfl
         refine pure_ (i := 8) (N := some 23) (v := ?_) (a' := ?_) #[true, true, true, true, true, true, true, true, true, true, true, true, true, true, false, false, false] rfl rfl (any_of HT_.out (by kernel_rfl)) (fun _ _ _ h => h) (Or.inl ⟨by rfl, ?_⟩) ?_ ?_
         rotate_left
         ·intro w'
          go_simp
          with_reducible rfl
         rotate_left
         ·simp only [Act.put, List.setIfInBounds_toArray, List.set_cons_zero, List.set_cons_succ, i64_w, i32_w]
          rfl
         refine one_ (i := 14) (N := some 29) #[true, true, true, true, true, true, true, true, true, true, true, true, true, true, true, false, false] rfl rfl (one_of HT_.out (by kernel_rfl)) (by decide) (fun K hK => ?_)
         refine goes_ Tryd.func12 (by kernel_rfl) rfl #[.string ((rd_T40 l0 x4_1).f1)] (by rfl) rfl rfl (by (try simp only [List.map_toArray, List.map_cons, List.map_nil]); first | done | rfl | (simp only [List.length_drop, List.length_take]; rfl)) ?_
         with_reducible refine (lanyardref03_Percent.calls k1 ((rd_T40 l0 x4_1).f1) t207 _ A18.out).mono ?_
         rintro e w22 ⟨rfl, hb⟩
         refine ⟨_, rfl, ?_⟩
         have n0_ := Bs HB hb
         clear HB
         have HB := n0_
         clear n0_
         (try clear hb)
         (try clear hb2)
         (try clear hk)
         (try clear hi)
         refine hK.out _ _ ⟨((HB.out.cell (World.block_lt_of_cell? w _ hw204_0)).trans hw204_0), ((HB.out.cell (World.block_lt_of_cell? w _ hw204_1)).trans hw204_1), ((HB.out.cell (World.block_lt_of_cell? w _ hw206_0)).trans hw206_0), ((HB.out.cell (World.block_lt_of_cell? w _ hw206_1)).trans hw206_1)⟩ (fun hHeld => ?_)
         clear hK K
         refine norm_ (a' := ?_) ?_ ?_
         rotate_left
         ·show Act.put _ (some 29) _ = _
          simp only [Act.put, List.setIfInBounds_toArray, List.set_cons_zero, List.set_cons_succ, i64_w, i32_w]
          rfl
         refine pure_ (i := 15) (N := some 30) (v := ?_) (a' := ?_) #[true, true, true, true, true, true, true, true, true, true, true, true, true, true, true, true, false] rfl rfl (any_of HT_.out (by kernel_rfl)) (fun _ _ _ h => h) (Or.inl ⟨by rfl, ?_⟩) ?_ ?_
         rotate_left
         ·intro w'
          go_simp
          with_reducible rfl
         rotate_left
         ·simp only [Act.put, List.setIfInBounds_toArray, List.set_cons_zero, List.set_cons_succ, i64_w, i32_w]
          rfl
         refine pure_ (i := 16) (N := some 3) (v := ?_) (a' := ?_) #[true, true, true, true, true, true, true, true, true, true, true, true, true, true, true, true, true] rfl rfl (any_of HT_.out (by kernel_rfl)) (fun _ _ _ h => h) (Or.inl ⟨by rfl, ?_⟩) ?_ ?_
         rotate_left
         ·intro w'
          go_simp
          with_reducible rfl
         rotate_left
         ·simp only [Act.put, List.setIfInBounds_toArray, List.set_cons_zero, List.set_cons_succ, i64_w, i32_w]
          rfl
         refine done_ (done_of HT_.out (by kernel_rfl)) ?_
         try go_wp2
         go_roundg k1
         case measure => have := HK1.out; omega
         case rel => exact ⟨(((x3_1 ++ t205) ++ (⟨#[61]⟩ : ByteArray)) ++ t207), (wrap64 (x4_1 + 1)), (by first | rfl | (simp; done) | (simp [*]; done)), (by first | rfl | (simp; done) | (simp [*]; done)), H', ⟨by have := HK1.out; omega⟩, ⟨Bu HB⟩⟩
        ·rw [if_neg c19] at H
         exact absurd H (by simp)
       ·rw [if_neg c17] at H
        exact absurd H (by simp)
      ·rw [if_neg c16] at H
       exact absurd H (by simp)
     ·rw [if_neg c14] at H
      exact absurd H (by simp)
   ·rw [if_neg c2] at H
    have c2b0 : decide (x4_1 < (l0.length : Int)) = false := decide_eq_false c2
    clear c2
    obtain rfl := Option.some.inj H
    go_wp2
    go_ret
    exact ⟨rfl_, Bu HB⟩

/-! ### escape_common: function 48 -/
def escape_common.f (a0 : Int) : Option (ByteArray) := if a0 = 38 then (some (⟨#[38, 97, 109, 112, 59]⟩ : ByteArray)) else (if a0 = 60 then (some (⟨#[38, 108, 116, 59]⟩ : ByteArray)) else (some (⟨#[]⟩ : ByteArray)))
set_option maxHeartbeats 8000000 in
set_option maxRecDepth 100000 in
theorem escape_common.calls (a0 : Int) (r : ByteArray) (w : World) (h : escape_common.f a0 = some r) :
  Calls Tryd.prog 48 #[.int .u8 a0] w fun e w' => e = .returned (.string r) ∧ Drawn0 w w' := by
 have H : (if a0 = 38 then (some (⟨#[38, 97, 109, 112, 59]⟩ : ByteArray)) else (if a0 = 60 then (some (⟨#[38, 108, 116, 59]⟩ : ByteArray)) else (some (⟨#[]⟩ : ByteArray)))) = some r := h
 clear h
 refine (Classical.em (a0 = 38)).elim (fun c2 => ?a70_) (fun c2 => ?b70_)
 case' a70_ =>
  rw [if_pos c2] at H
  have c2b0 : (a0 == 38) = true := beq_iff_eq.mpr c2
  have c2b1 : (a0 != 38) = false := bne_eq_false_iff_eq.mpr c2
  clear c2
  obtain rfl := Option.some.inj H
 case' b70_ =>
  rw [if_neg c2] at H
  have c2b0 : (a0 == 38) = false := beq_eq_false_iff_ne.mpr c2
  have c2b1 : (a0 != 38) = true := bne_iff_ne.mpr c2
  refine (Classical.em (a0 = 60)).elim (fun c3 => ?a71_) (fun c3 => ?b71_)
  case' a71_ =>
   rw [if_pos c3] at H
   have c3b0 : (a0 == 60) = true := beq_iff_eq.mpr c3
   have c3b1 : (a0 != 60) = false := bne_eq_false_iff_eq.mpr c3
   clear c3
   obtain rfl := Option.some.inj H
  case' b71_ =>
   rw [if_neg c3] at H
   have c3b0 : (a0 == 60) = false := beq_eq_false_iff_ne.mpr c3
   have c3b1 : (a0 != 60) = true := bne_iff_ne.mpr c3
   obtain rfl := Option.some.inj H
   go_enter Tryd.func48, Tryd.ntmps48
   go_wp2
   go_ret
   exact ⟨by first | rfl | (simp; done) | (simp [*]; done), by repeat (first | exact Drawn0.refl _ | apply Drawn0.step)⟩

 case a70_ | b70_ =>
  go_enter Tryd.func48, Tryd.ntmps48
  go_wp2
  go_ret
  exact ⟨by first | rfl | (simp; done) | (simp [*]; done), by repeat (first | exact Drawn0.refl _ | apply Drawn0.step)⟩
/-! ### escape_inAttr: function 37 -/
def escape_inAttr.f (a0 : Int) : Option (ByteArray) := if a0 = 34 then (some (⟨#[38, 113, 117, 111, 116, 59]⟩ : ByteArray)) else (if a0 = 9 then (some (⟨#[38, 35, 120, 57, 59]⟩ : ByteArray)) else (if a0 = 10 then (some (⟨#[38, 35, 120, 65, 59]⟩ : ByteArray)) else (if a0 = 13 then (some (⟨#[38, 35, 120, 68, 59]⟩ : ByteArray)) else ((escape_common.f a0).bind fun t208 => (some t208)))))
set_option maxHeartbeats 8000000 in
set_option maxRecDepth 100000 in
theorem escape_inAttr.calls (a0 : Int) (r : ByteArray) (w : World) (h : escape_inAttr.f a0 = some r) :
  Calls Tryd.prog 37 #[.int .u8 a0] w fun e w' => e = .returned (.string r) ∧ Drawn0 w w' := by
 have H : (if a0 = 34 then (some (⟨#[38, 113, 117, 111, 116, 59]⟩ : ByteArray)) else (if a0 = 9 then (some (⟨#[38, 35, 120, 57, 59]⟩ : ByteArray)) else (if a0 = 10 then (some (⟨#[38, 35, 120, 65, 59]⟩ : ByteArray)) else (if a0 = 13 then (some (⟨#[38, 35, 120, 68, 59]⟩ : ByteArray)) else ((escape_common.f a0).bind fun t208 => (some t208)))))) = some r := h
 clear h
 refine (Classical.em (a0 = 34)).elim (fun c2 => ?a72_) (fun c2 => ?b72_)
 case' a72_ =>
  rw [if_pos c2] at H
  have c2b0 : (a0 == 34) = true := beq_iff_eq.mpr c2
  have c2b1 : (a0 != 34) = false := bne_eq_false_iff_eq.mpr c2
  clear c2
  obtain rfl := Option.some.inj H
 case' b72_ =>
  rw [if_neg c2] at H
  have c2b0 : (a0 == 34) = false := beq_eq_false_iff_ne.mpr c2
  have c2b1 : (a0 != 34) = true := bne_iff_ne.mpr c2
  refine (Classical.em (a0 = 9)).elim (fun c3 => ?a73_) (fun c3 => ?b73_)
  case' a73_ =>
   rw [if_pos c3] at H
   have c3b0 : (a0 == 9) = true := beq_iff_eq.mpr c3
   have c3b1 : (a0 != 9) = false := bne_eq_false_iff_eq.mpr c3
   clear c3
   obtain rfl := Option.some.inj H
  case' b73_ =>
   rw [if_neg c3] at H
   have c3b0 : (a0 == 9) = false := beq_eq_false_iff_ne.mpr c3
   have c3b1 : (a0 != 9) = true := bne_iff_ne.mpr c3
   refine (Classical.em (a0 = 10)).elim (fun c4 => ?a74_) (fun c4 => ?b74_)
   case' a74_ =>
    rw [if_pos c4] at H
    have c4b0 : (a0 == 10) = true := beq_iff_eq.mpr c4
    have c4b1 : (a0 != 10) = false := bne_eq_false_iff_eq.mpr c4
    clear c4
    obtain rfl := Option.some.inj H
   case' b74_ =>
    rw [if_neg c4] at H
    have c4b0 : (a0 == 10) = false := beq_eq_false_iff_ne.mpr c4
    have c4b1 : (a0 != 10) = true := bne_iff_ne.mpr c4
    refine (Classical.em (a0 = 13)).elim (fun c5 => ?a75_) (fun c5 => ?b75_)
    case' a75_ =>
     rw [if_pos c5] at H
     have c5b0 : (a0 == 13) = true := beq_iff_eq.mpr c5
     have c5b1 : (a0 != 13) = false := bne_eq_false_iff_eq.mpr c5
     clear c5
     obtain rfl := Option.some.inj H
    case' b75_ =>
     rw [if_neg c5] at H
     have c5b0 : (a0 == 13) = false := beq_eq_false_iff_ne.mpr c5
     have c5b1 : (a0 != 13) = true := bne_iff_ne.mpr c5
     replace H := Option.bind_eq_some_iff.mp H
     obtain ⟨t208, A60, H⟩ := H
     replace H : (some t208) = some r := H
     have A6 := Aside0.mk A60
     clear A60
     obtain rfl := Option.some.inj H
     go_enter Tryd.func37, Tryd.ntmps37
     go_wp2_with (first | ((with_reducible refine gate_callee (f := 48) rfl ?_); refine goesA (some 13) Tryd.func48 #[.int .u8 a0] rfl ?_; (with_reducible refine (escape_common.calls a0 t208 _ A6.out).mono ?_); rintro e w' ⟨rfl, ⟨nd, rfl⟩⟩; refine ⟨_, rfl, ?_⟩))
     go_ret
     exact ⟨by first | rfl | (simp; done) | (simp [*]; done), by repeat (first | exact Drawn0.refl _ | apply Drawn0.step)⟩

 case a72_ | a73_ | a74_ | b74_ =>
  go_enter Tryd.func37, Tryd.ntmps37
  go_wp2
  go_ret
  exact ⟨by first | rfl | (simp; done) | (simp [*]; done), by repeat (first | exact Drawn0.refl _ | apply Drawn0.step)⟩
/-! ### escape_Attr: function 20 -/
def escape_Attr.f (a0 : ByteArray) : Option ByteArray := escape_turned.f escape_inAttr.f a0
set_option maxHeartbeats 4000000 in
set_option maxRecDepth 100000 in
theorem escape_Attr.calls (a0 : ByteArray) (r : ByteArray) (w : World) (h : escape_Attr.f a0 = some r) :
    Calls Tryd.prog 20 #[.string a0] w fun e w' => e = .returned (.string r) ∧ Below w.heap.size w w' := by
  have H := Aside0.mk h
  clear h
  go_enter Tryd.func20, Tryd.ntmps20
  go_wp2_with (go_at_call 36; refine (escape_turned.walk 37 (enters_of Tryd.func37 (by kernel_rfl) rfl) escape_inAttr.f (fun c r w h => escape_inAttr.calls c r w h) _ _ _ H.out).mono ?_; rintro e w' ⟨rfl, hb⟩; have g := Aside0.mk hb; clear hb)
  go_ret
  exact ⟨rfl, g.out⟩

/-! ### escape_inText: function 38 -/
def escape_inText.f (a0 : Int) : Option (ByteArray) := if a0 = 62 then (some (⟨#[38, 103, 116, 59]⟩ : ByteArray)) else (if a0 = 13 then (some (⟨#[38, 35, 120, 68, 59]⟩ : ByteArray)) else ((escape_common.f a0).bind fun t209 => (some t209)))
set_option maxHeartbeats 8000000 in
set_option maxRecDepth 100000 in
theorem escape_inText.calls (a0 : Int) (r : ByteArray) (w : World) (h : escape_inText.f a0 = some r) :
  Calls Tryd.prog 38 #[.int .u8 a0] w fun e w' => e = .returned (.string r) ∧ Drawn0 w w' := by
 have H : (if a0 = 62 then (some (⟨#[38, 103, 116, 59]⟩ : ByteArray)) else (if a0 = 13 then (some (⟨#[38, 35, 120, 68, 59]⟩ : ByteArray)) else ((escape_common.f a0).bind fun t209 => (some t209)))) = some r := h
 clear h
 refine (Classical.em (a0 = 62)).elim (fun c2 => ?a76_) (fun c2 => ?b76_)
 case' a76_ =>
  rw [if_pos c2] at H
  have c2b0 : (a0 == 62) = true := beq_iff_eq.mpr c2
  have c2b1 : (a0 != 62) = false := bne_eq_false_iff_eq.mpr c2
  clear c2
  obtain rfl := Option.some.inj H
 case' b76_ =>
  rw [if_neg c2] at H
  have c2b0 : (a0 == 62) = false := beq_eq_false_iff_ne.mpr c2
  have c2b1 : (a0 != 62) = true := bne_iff_ne.mpr c2
  refine (Classical.em (a0 = 13)).elim (fun c3 => ?a77_) (fun c3 => ?b77_)
  case' a77_ =>
   rw [if_pos c3] at H
   have c3b0 : (a0 == 13) = true := beq_iff_eq.mpr c3
   have c3b1 : (a0 != 13) = false := bne_eq_false_iff_eq.mpr c3
   clear c3
   obtain rfl := Option.some.inj H
  case' b77_ =>
   rw [if_neg c3] at H
   have c3b0 : (a0 == 13) = false := beq_eq_false_iff_ne.mpr c3
   have c3b1 : (a0 != 13) = true := bne_iff_ne.mpr c3
   replace H := Option.bind_eq_some_iff.mp H
   obtain ⟨t209, A40, H⟩ := H
   replace H : (some t209) = some r := H
   have A4 := Aside0.mk A40
   clear A40
   obtain rfl := Option.some.inj H
   go_enter Tryd.func38, Tryd.ntmps38
   go_wp2_with (first | ((with_reducible refine gate_callee (f := 48) rfl ?_); refine goesA (some 9) Tryd.func48 #[.int .u8 a0] rfl ?_; (with_reducible refine (escape_common.calls a0 t209 _ A4.out).mono ?_); rintro e w' ⟨rfl, ⟨nd, rfl⟩⟩; refine ⟨_, rfl, ?_⟩))
   go_ret
   exact ⟨by first | rfl | (simp; done) | (simp [*]; done), by repeat (first | exact Drawn0.refl _ | apply Drawn0.step)⟩

 case a76_ | b76_ =>
  go_enter Tryd.func38, Tryd.ntmps38
  go_wp2
  go_ret
  exact ⟨by first | rfl | (simp; done) | (simp [*]; done), by repeat (first | exact Drawn0.refl _ | apply Drawn0.step)⟩
/-! ### escape_Text: function 21 -/
def escape_Text.f (a0 : ByteArray) : Option ByteArray := escape_turned.f escape_inText.f a0
set_option maxHeartbeats 4000000 in
set_option maxRecDepth 100000 in
theorem escape_Text.calls (a0 : ByteArray) (r : ByteArray) (w : World) (h : escape_Text.f a0 = some r) :
    Calls Tryd.prog 21 #[.string a0] w fun e w' => e = .returned (.string r) ∧ Below w.heap.size w w' := by
  have H := Aside0.mk h
  clear h
  go_enter Tryd.func21, Tryd.ntmps21
  go_wp2_with (go_at_call 36; refine (escape_turned.walk 38 (enters_of Tryd.func38 (by kernel_rfl) rfl) escape_inText.f (fun c r w h => escape_inText.calls c r w h) _ _ _ H.out).mono ?_; rintro e w' ⟨rfl, hb⟩; have g := Aside0.mk hb; clear hb)
  go_ret
  exact ⟨rfl, g.out⟩

/-! ### escape_inPage: function 39 -/
def escape_inPage.f (a0 : Int) : Option (ByteArray) := if a0 = 62 then (some (⟨#[38, 103, 116, 59]⟩ : ByteArray)) else (if a0 = 34 then (some (⟨#[38, 113, 117, 111, 116, 59]⟩ : ByteArray)) else (if a0 = 39 then (some (⟨#[38, 35, 51, 57, 59]⟩ : ByteArray)) else ((escape_common.f a0).bind fun t210 => (some t210))))
set_option maxHeartbeats 8000000 in
set_option maxRecDepth 100000 in
theorem escape_inPage.calls (a0 : Int) (r : ByteArray) (w : World) (h : escape_inPage.f a0 = some r) :
  Calls Tryd.prog 39 #[.int .u8 a0] w fun e w' => e = .returned (.string r) ∧ Drawn0 w w' := by
 have H : (if a0 = 62 then (some (⟨#[38, 103, 116, 59]⟩ : ByteArray)) else (if a0 = 34 then (some (⟨#[38, 113, 117, 111, 116, 59]⟩ : ByteArray)) else (if a0 = 39 then (some (⟨#[38, 35, 51, 57, 59]⟩ : ByteArray)) else ((escape_common.f a0).bind fun t210 => (some t210))))) = some r := h
 clear h
 refine (Classical.em (a0 = 62)).elim (fun c2 => ?a78_) (fun c2 => ?b78_)
 case' a78_ =>
  rw [if_pos c2] at H
  have c2b0 : (a0 == 62) = true := beq_iff_eq.mpr c2
  have c2b1 : (a0 != 62) = false := bne_eq_false_iff_eq.mpr c2
  clear c2
  obtain rfl := Option.some.inj H
 case' b78_ =>
  rw [if_neg c2] at H
  have c2b0 : (a0 == 62) = false := beq_eq_false_iff_ne.mpr c2
  have c2b1 : (a0 != 62) = true := bne_iff_ne.mpr c2
  refine (Classical.em (a0 = 34)).elim (fun c3 => ?a79_) (fun c3 => ?b79_)
  case' a79_ =>
   rw [if_pos c3] at H
   have c3b0 : (a0 == 34) = true := beq_iff_eq.mpr c3
   have c3b1 : (a0 != 34) = false := bne_eq_false_iff_eq.mpr c3
   clear c3
   obtain rfl := Option.some.inj H
  case' b79_ =>
   rw [if_neg c3] at H
   have c3b0 : (a0 == 34) = false := beq_eq_false_iff_ne.mpr c3
   have c3b1 : (a0 != 34) = true := bne_iff_ne.mpr c3
   refine (Classical.em (a0 = 39)).elim (fun c4 => ?a80_) (fun c4 => ?b80_)
   case' a80_ =>
    rw [if_pos c4] at H
    have c4b0 : (a0 == 39) = true := beq_iff_eq.mpr c4
    have c4b1 : (a0 != 39) = false := bne_eq_false_iff_eq.mpr c4
    clear c4
    obtain rfl := Option.some.inj H
   case' b80_ =>
    rw [if_neg c4] at H
    have c4b0 : (a0 == 39) = false := beq_eq_false_iff_ne.mpr c4
    have c4b1 : (a0 != 39) = true := bne_iff_ne.mpr c4
    replace H := Option.bind_eq_some_iff.mp H
    obtain ⟨t210, A50, H⟩ := H
    replace H : (some t210) = some r := H
    have A5 := Aside0.mk A50
    clear A50
    obtain rfl := Option.some.inj H
    go_enter Tryd.func39, Tryd.ntmps39
    go_wp2_with (first | ((with_reducible refine gate_callee (f := 48) rfl ?_); refine goesA (some 11) Tryd.func48 #[.int .u8 a0] rfl ?_; (with_reducible refine (escape_common.calls a0 t210 _ A5.out).mono ?_); rintro e w' ⟨rfl, ⟨nd, rfl⟩⟩; refine ⟨_, rfl, ?_⟩))
    go_ret
    exact ⟨by first | rfl | (simp; done) | (simp [*]; done), by repeat (first | exact Drawn0.refl _ | apply Drawn0.step)⟩

 case a78_ | a79_ | b79_ =>
  go_enter Tryd.func39, Tryd.ntmps39
  go_wp2
  go_ret
  exact ⟨by first | rfl | (simp; done) | (simp [*]; done), by repeat (first | exact Drawn0.refl _ | apply Drawn0.step)⟩
/-! ### escape_Page: function 22 -/
def escape_Page.f (a0 : ByteArray) : Option ByteArray := escape_turned.f escape_inPage.f a0
set_option maxHeartbeats 4000000 in
set_option maxRecDepth 100000 in
theorem escape_Page.calls (a0 : ByteArray) (r : ByteArray) (w : World) (h : escape_Page.f a0 = some r) :
    Calls Tryd.prog 22 #[.string a0] w fun e w' => e = .returned (.string r) ∧ Below w.heap.size w w' := by
  have H := Aside0.mk h
  clear h
  go_enter Tryd.func22, Tryd.ntmps22
  go_wp2_with (go_at_call 36; refine (escape_turned.walk 39 (enters_of Tryd.func39 (by kernel_rfl) rfl) escape_inPage.f (fun c r w h => escape_inPage.calls c r w h) _ _ _ H.out).mono ?_; rintro e w' ⟨rfl, hb⟩; have g := Aside0.mk hb; clear hb)
  go_ret
  exact ⟨rfl, g.out⟩

end Go.Proofs.YtjmcdocoogdbiaaDoor.Hp
