/- Go functions of this seat as Lean functions, and their contracts: what the Go code computes, for every input. (By hp.py, a program of this repo, over the kit's print.py.) -/
import Derived.Test.YtcikjghmelbkaaaDoorHp0
import Derived.Test.YtcikjghmelbkaaaDoorHp2
import Derived.Test.YtcikjghmelbkaaaDoorHp6
namespace Go.Proofs.YtcikjghmelbkaaaDoor.Hp
open Go.RowKit Go.Proofs.YtcikjghmelbkaaaDoorW.PrintWords Go.Proofs.YtcikjghmelbkaaaDoorW.PrintLast Go.Proofs.YtcikjghmelbkaaaDoorW.PrintMore
attribute [local go_sem] max2_int min2_int max_two min_two max_three min_three max_four min_four   -- for this text's walks alone
set_option linter.unusedVariables false
set_option linter.unusedSimpArgs false

/-! ### lanyardref10_Date: function 12 -/
mutual
def lanyardref10_Date.l0 : Nat → Int → Int → Int → Option (Int × Int × Int)
 | 0, _, _, _ => none
 | k + 1, x5, x6, x7 => if x6 < x7 then ((lanyardref10_Days.f k (wrap64 (Int.tdiv (wrap64 ((wrap64 (x6 + x7)) + 1)) 2)) 1 1).bind fun t160 => (if t160 ≤ x5 then (lanyardref10_Date.l0 k x5 (wrap64 (Int.tdiv (wrap64 ((wrap64 (x6 + x7)) + 1)) 2)) x7) else (lanyardref10_Date.l0 k x5 x6 (wrap64 ((wrap64 (Int.tdiv (wrap64 ((wrap64 (x6 + x7)) + 1)) 2)) - 1))))) else (lanyardref10_Date.l1 k x5 x6 1)
def lanyardref10_Date.l1 : Nat → Int → Int → Int → Option (Int × Int × Int)
 | 0, _, _, _ => none
 | k + 1, x5, x6, x9 => if x9 < 12 then ((lanyardref10_Days.f k x6 (wrap64 (x9 + 1)) 1).bind fun t161 => (if t161 ≤ x5 then (lanyardref10_Date.l1 k x5 x6 (wrap64 (x9 + 1))) else ((lanyardref10_Days.f k x6 x9 1).bind fun t162 => (some (x6, x9, wrap64 ((wrap64 (x5 - t162)) + 1)))))) else ((lanyardref10_Days.f k x6 x9 1).bind fun t163 => (some (x6, x9, wrap64 ((wrap64 (x5 - t163)) + 1))))
end
def lanyardref10_Date.f (k : Nat) (a0 : Int) : Option (Int × Int × Int) := (lanyardref10_First.f).bind fun t159 => (lanyardref10_Date.l0 k (wrap64 ((wrap64 (Int.tdiv (wrap64 (a0 - t159)) 86400000)) - 719162)) 1 9999)
theorem lanyardref10_Date.mono_l : ∀ k, (∀ y0 y1 y2, LeO (lanyardref10_Date.l0 k y0 y1 y2) (lanyardref10_Date.l0 (k + 1) y0 y1 y2)) ∧ (∀ y0 y1 y2, LeO (lanyardref10_Date.l1 k y0 y1 y2) (lanyardref10_Date.l1 (k + 1) y0 y1 y2))
 | 0 => ⟨fun _ _ _ r h => by simp [lanyardref10_Date.l0] at h, fun _ _ _ r h => by simp [lanyardref10_Date.l1] at h⟩
 | k + 1 => by
  obtain ⟨ih0, ih1⟩ := lanyardref10_Date.mono_l k
  refine ⟨?_, ?_⟩
  ·intro y0 y1 y2
   unfold lanyardref10_Date.l0
   repeat' first
   | (with_reducible exact ih0 _ _ _)
   | (with_reducible exact ih1 _ _ _)
   | (with_reducible exact lanyardref10_Days.mono _ _ _ _)
   | (with_reducible exact LeO.refl _)
   | (with_reducible exact LeO.none _)
   | (with_reducible refine LeO.ite ?_ ?_)
   | (with_reducible refine LeO.bind ?_ (fun _ => ?_))
   | exact ih0 _ _ _
   | exact ih1 _ _ _
   | exact lanyardref10_Days.mono _ _ _ _
   | exact LeO.none _
   | refine LeO.ite ?_ ?_
   | refine LeO.bind ?_ (fun _ => ?_)
  ·intro y0 y1 y2
   unfold lanyardref10_Date.l1
   repeat' first
   | (with_reducible exact ih0 _ _ _)
   | (with_reducible exact ih1 _ _ _)
   | (with_reducible exact lanyardref10_Days.mono _ _ _ _)
   | (with_reducible exact LeO.refl _)
   | (with_reducible exact LeO.none _)
   | (with_reducible refine LeO.ite ?_ ?_)
   | (with_reducible refine LeO.bind ?_ (fun _ => ?_))
   | exact ih0 _ _ _
   | exact ih1 _ _ _
   | exact lanyardref10_Days.mono _ _ _ _
   | exact LeO.none _
   | refine LeO.ite ?_ ?_
   | refine LeO.bind ?_ (fun _ => ?_)
theorem lanyardref10_Date.mono : ∀ a0 k, LeO (lanyardref10_Date.f k a0) (lanyardref10_Date.f (k + 1) a0) := by
 intro a0 k
 obtain ⟨ih0, ih1⟩ := lanyardref10_Date.mono_l k
 unfold lanyardref10_Date.f
 repeat' first
   | (with_reducible exact ih0 _ _ _)
   | (with_reducible exact ih1 _ _ _)
   | (with_reducible exact lanyardref10_Days.mono _ _ _ _)
   | (with_reducible exact LeO.refl _)
   | (with_reducible exact LeO.none _)
   | (with_reducible refine LeO.ite ?_ ?_)
   | (with_reducible refine LeO.bind ?_ (fun _ => ?_))
   | exact ih0 _ _ _
   | exact ih1 _ _ _
   | exact lanyardref10_Days.mono _ _ _ _
   | exact LeO.none _
   | refine LeO.ite ?_ ?_
   | refine LeO.bind ?_ (fun _ => ?_)
set_option maxHeartbeats 8000000 in
set_option maxRecDepth 100000 in
theorem lanyardref10_Date.calls (k : Nat) (a0 : Int) (r1 : Int) (r2 : Int) (r3 : Int) (w : World) (h : lanyardref10_Date.f k a0 = some (r1, r2, r3)) :
  Calls Tryd.prog 12 #[.int .i64 a0] w fun e w' => e = .returned (.tuple #[.int .i64 r1, .int .i64 r2, .int .i64 r3]) ∧ Below w.heap.size w w' := by
 have HB := Aside0.mk (Below.refl w.heap.size w)
 have H : ((lanyardref10_First.f).bind fun t159 => (lanyardref10_Date.l0 k (wrap64 ((wrap64 (Int.tdiv (wrap64 (a0 - t159)) 86400000)) - 719162)) 1 9999)) = some (r1, r2, r3) := h
 clear h
 replace H := Option.bind_eq_some_iff.mp H
 obtain ⟨t159, A20, H⟩ := H
 replace H : (lanyardref10_Date.l0 k (wrap64 ((wrap64 (Int.tdiv (wrap64 (a0 - t159)) 86400000)) - 719162)) 1 9999) = some (r1, r2, r3) := H
 have A2 := Aside0.mk A20
 clear A20
 have H' := Aside0.mk H
 clear H
 go_enter Tryd.func12, Tryd.ntmps12
 go_wp2_with (first | ((with_reducible refine gate_callee (f := 19) rfl ?_); refine goesA (some 11) Tryd.func19 #[] rfl ?_; (with_reducible refine (lanyardref10_First.calls  t159 _ A2.out).mono ?_); rintro e w' ⟨rfl, ⟨nd, rfl⟩⟩; refine ⟨_, rfl, ?_⟩))
 go_loopg [6, 7] k (fun kq v6 v7 w' => ∃ (x6_1 : Int) (x7_1 : Int), v6 = .int .i64 x6_1 ∧ v7 = .int .i64 x7_1 ∧ Aside0 (lanyardref10_Date.l0 kq (wrap64 ((wrap64 (Int.tdiv (wrap64 (a0 - t159)) 86400000)) - 719162)) x6_1 x7_1 = some (r1, r2, r3)) ∧ Aside0 (kq ≤ k) ∧ Aside0 (Below w.heap.size w w'))
 case atStart => exact ⟨(1), (9999), (by first | rfl | (simp; done) | (simp [*]; done)), (by first | rfl | (simp; done) | (simp [*]; done)), H', ⟨Nat.le_refl _⟩, ⟨Bu HB⟩⟩
 case round =>
  clear H'
  try clear c1
  try clear p2
  obtain ⟨x6_1, x7_1, rfl, rfl, HA, HK1, HB⟩ := hrel
  cases gk with
  | zero => exact absurd HA.out (by simp [lanyardref10_Date.l0])
  | succ k1 =>
   have H := HA.out
   clear HA
   simp only [lanyardref10_Date.l0] at H
   by_cases c3 : x6_1 < x7_1
   ·rw [if_pos c3] at H
    have c3b0 : decide (x6_1 < x7_1) = true := decide_eq_true c3
    clear c3
    replace H := Option.bind_eq_some_iff.mp H
    obtain ⟨t160, A40, H⟩ := H
    replace H : (if t160 ≤ (wrap64 ((wrap64 (Int.tdiv (wrap64 (a0 - t159)) 86400000)) - 719162)) then (lanyardref10_Date.l0 k1 (wrap64 ((wrap64 (Int.tdiv (wrap64 (a0 - t159)) 86400000)) - 719162)) (wrap64 (Int.tdiv (wrap64 ((wrap64 (x6_1 + x7_1)) + 1)) 2)) x7_1) else (lanyardref10_Date.l0 k1 (wrap64 ((wrap64 (Int.tdiv (wrap64 (a0 - t159)) 86400000)) - 719162)) x6_1 (wrap64 ((wrap64 (Int.tdiv (wrap64 ((wrap64 (x6_1 + x7_1)) + 1)) 2)) - 1)))) = some (r1, r2, r3) := H
    have A4 := Aside0.mk A40
    clear A40
    by_cases c5 : t160 ≤ (wrap64 ((wrap64 (Int.tdiv (wrap64 (a0 - t159)) 86400000)) - 719162))
    ·rw [if_pos c5] at H
     have c5b0 : decide (t160 ≤ (wrap64 ((wrap64 (Int.tdiv (wrap64 (a0 - t159)) 86400000)) - 719162))) = true := decide_eq_true c5
     clear c5
     have H' := Aside0.mk H
     clear H
     go_wp2_with (first | ((with_reducible refine gate_callee (f := 17) rfl ?_); refine goesA (some 24) Tryd.func17 #[.int .i64 (wrap64 (Int.tdiv (wrap64 ((wrap64 (x6_1 + x7_1)) + 1)) 2)), .int .i64 1, .int .i64 1] rfl ?_; (with_reducible refine (lanyardref10_Days.calls k1 (wrap64 (Int.tdiv (wrap64 ((wrap64 (x6_1 + x7_1)) + 1)) 2)) 1 1 t160 _ A4.out).mono ?_); rintro e w6 ⟨rfl, hb⟩; refine ⟨_, rfl, ?_⟩; have n0_ := Bs HB hb; clear HB; revert n0_; intro HB; (try clear hb); (try clear hb2); (try clear hk); (try clear hi)))
     go_roundg k1
     case measure => have := HK1.out; omega
     case rel => exact ⟨(wrap64 (Int.tdiv (wrap64 ((wrap64 (x6_1 + x7_1)) + 1)) 2)), (x7_1), (by first | rfl | (simp; done) | (simp [*]; done)), (by first | rfl | (simp; done) | (simp [*]; done)), H', ⟨by have := HK1.out; omega⟩, ⟨Bu HB⟩⟩
    ·rw [if_neg c5] at H
     have c5b0 : decide (t160 ≤ (wrap64 ((wrap64 (Int.tdiv (wrap64 (a0 - t159)) 86400000)) - 719162))) = false := decide_eq_false c5
     clear c5
     have H' := Aside0.mk H
     clear H
     go_wp2_with (first | ((with_reducible refine gate_callee (f := 17) rfl ?_); refine goesA (some 24) Tryd.func17 #[.int .i64 (wrap64 (Int.tdiv (wrap64 ((wrap64 (x6_1 + x7_1)) + 1)) 2)), .int .i64 1, .int .i64 1] rfl ?_; (with_reducible refine (lanyardref10_Days.calls k1 (wrap64 (Int.tdiv (wrap64 ((wrap64 (x6_1 + x7_1)) + 1)) 2)) 1 1 t160 _ A4.out).mono ?_); rintro e w7 ⟨rfl, hb⟩; refine ⟨_, rfl, ?_⟩; have n0_ := Bs HB hb; clear HB; revert n0_; intro HB; (try clear hb); (try clear hb2); (try clear hk); (try clear hi)))
     go_roundg k1
     case measure => have := HK1.out; omega
     case rel => exact ⟨(x6_1), (wrap64 ((wrap64 (Int.tdiv (wrap64 ((wrap64 (x6_1 + x7_1)) + 1)) 2)) - 1)), (by first | rfl | (simp; done) | (simp [*]; done)), (by first | rfl | (simp; done) | (simp [*]; done)), H', ⟨by have := HK1.out; omega⟩, ⟨Bu HB⟩⟩
   ·rw [if_neg c3] at H
    have c3b0 : decide (x6_1 < x7_1) = false := decide_eq_false c3
    clear c3
    have H' := Aside0.mk H
    clear H
    go_wp2
    go_loopg [9] k1 (fun kq v9 w' => ∃ (x9_2 : Int), v9 = .int .i64 x9_2 ∧ Aside0 (lanyardref10_Date.l1 kq (wrap64 ((wrap64 (Int.tdiv (wrap64 (a0 - t159)) 86400000)) - 719162)) x6_1 x9_2 = some (r1, r2, r3)) ∧ Aside0 (kq ≤ k1) ∧ Aside0 (Below w.heap.size w w'))
    case atStart => exact ⟨(1), (by first | rfl | (simp; done) | (simp [*]; done)), H', ⟨Nat.le_refl _⟩, ⟨Bu HB⟩⟩
    case round =>
     clear H'
     try clear c1
     try clear p2
     try clear c3
     try clear c3b0
     try clear c5
     try clear c5b0
     try clear p6
     try clear p2
     obtain ⟨x9_2, rfl, HA, HK2, HB⟩ := hrel
     cases gk with
     | zero => exact absurd HA.out (by simp [lanyardref10_Date.l1])
     | succ k2 =>
      have H := HA.out
      clear HA
      simp only [lanyardref10_Date.l1] at H
      by_cases c8 : x9_2 < 12
      ·rw [if_pos c8] at H
       have c8b0 : decide (x9_2 < 12) = true := decide_eq_true c8
       clear c8
       replace H := Option.bind_eq_some_iff.mp H
       obtain ⟨t161, A90, H⟩ := H
       replace H : (if t161 ≤ (wrap64 ((wrap64 (Int.tdiv (wrap64 (a0 - t159)) 86400000)) - 719162)) then (lanyardref10_Date.l1 k2 (wrap64 ((wrap64 (Int.tdiv (wrap64 (a0 - t159)) 86400000)) - 719162)) x6_1 (wrap64 (x9_2 + 1))) else ((lanyardref10_Days.f k2 x6_1 x9_2 1).bind fun t162 => (some (x6_1, x9_2, wrap64 ((wrap64 ((wrap64 ((wrap64 (Int.tdiv (wrap64 (a0 - t159)) 86400000)) - 719162)) - t162)) + 1))))) = some (r1, r2, r3) := H
       have A9 := Aside0.mk A90
       clear A90
       by_cases c10 : t161 ≤ (wrap64 ((wrap64 (Int.tdiv (wrap64 (a0 - t159)) 86400000)) - 719162))
       ·rw [if_pos c10] at H
        have c10b0 : decide (t161 ≤ (wrap64 ((wrap64 (Int.tdiv (wrap64 (a0 - t159)) 86400000)) - 719162))) = true := decide_eq_true c10
        clear c10
        have H' := Aside0.mk H
        clear H
        go_wp2_with (first | (go_at_call 17; (with_reducible refine (lanyardref10_Days.calls k2 x6_1 (wrap64 (x9_2 + 1)) 1 t161 _ A9.out).mono ?_); rintro e w11 ⟨rfl, hb⟩; have n0_ := Bs HB hb; clear HB; revert n0_; intro HB; (try clear hb); (try clear hb2); (try clear hk); (try clear hi)))
        go_roundg k2
        case measure => have := HK1.out; have := HK2.out; omega
        case rel => exact ⟨(wrap64 (x9_2 + 1)), (by first | rfl | (simp; done) | (simp [*]; done)), H', ⟨by have := HK1.out; have := HK2.out; omega⟩, ⟨Bu HB⟩⟩
       ·rw [if_neg c10] at H
        have c10b0 : decide (t161 ≤ (wrap64 ((wrap64 (Int.tdiv (wrap64 (a0 - t159)) 86400000)) - 719162))) = false := decide_eq_false c10
        clear c10
        replace H := Option.bind_eq_some_iff.mp H
        obtain ⟨t162, A120, H⟩ := H
        replace H : (some (x6_1, x9_2, wrap64 ((wrap64 ((wrap64 ((wrap64 (Int.tdiv (wrap64 (a0 - t159)) 86400000)) - 719162)) - t162)) + 1))) = some (r1, r2, r3) := H
        have A12 := Aside0.mk A120
        clear A120
        simp only [Option.some.injEq, Prod.mk.injEq] at H
        obtain ⟨rfl, rfl, rfl⟩ := H
        go_wp2_with (first | (go_at_call 17; (with_reducible refine (lanyardref10_Days.calls k2 x6_1 (wrap64 (x9_2 + 1)) 1 t161 _ A9.out).mono ?_); rintro e w13 ⟨rfl, hb⟩; have n0_ := Bs HB hb; clear HB; revert n0_; intro HB; (try clear hb); (try clear hb2); (try clear hk); (try clear hi)) | ((with_reducible refine gate_callee (f := 17) rfl ?_); refine goesA (some 47) Tryd.func17 #[.int .i64 x6_1, .int .i64 x9_2, .int .i64 1] rfl ?_; (with_reducible refine (lanyardref10_Days.calls k2 x6_1 x9_2 1 t162 _ A12.out).mono ?_); rintro e w14 ⟨rfl, hb⟩; refine ⟨_, rfl, ?_⟩; have n0_ := Bs HB hb; clear HB; revert n0_; intro HB; (try clear hb); (try clear hb2); (try clear hk); (try clear hi)))
        go_ret3
        exact ⟨rfl_, Bu HB⟩
      ·rw [if_neg c8] at H
       have c8b0 : decide (x9_2 < 12) = false := decide_eq_false c8
       clear c8
       replace H := Option.bind_eq_some_iff.mp H
       obtain ⟨t163, A150, H⟩ := H
       replace H : (some (x6_1, x9_2, wrap64 ((wrap64 ((wrap64 ((wrap64 (Int.tdiv (wrap64 (a0 - t159)) 86400000)) - 719162)) - t163)) + 1))) = some (r1, r2, r3) := H
       have A15 := Aside0.mk A150
       clear A150
       simp only [Option.some.injEq, Prod.mk.injEq] at H
       obtain ⟨rfl, rfl, rfl⟩ := H
       go_wp2_with (first | ((with_reducible refine gate_callee (f := 17) rfl ?_); refine goesA (some 47) Tryd.func17 #[.int .i64 x6_1, .int .i64 x9_2, .int .i64 1] rfl ?_; (with_reducible refine (lanyardref10_Days.calls k2 x6_1 x9_2 1 t163 _ A15.out).mono ?_); rintro e w16 ⟨rfl, hb⟩; refine ⟨_, rfl, ?_⟩; have n0_ := Bs HB hb; clear HB; revert n0_; intro HB; (try clear hb); (try clear hb2); (try clear hk); (try clear hi)))
       go_ret3
       exact ⟨rfl_, Bu HB⟩

/-! ### lanyardref10_two: function 30 -/
def lanyardref10_two.l0 : Nat → Int → Int → ByteArray → Int → Option (ByteArray)
 | 0, _, _, _, _ => none
 | k + 1, x0, x1, x5, x6 => if x6 < x1 then ((some (([(wrap64 (48 + (Int.tmod x0 10))) % 256] : List Int) : List Int)).bind fun y164 => (if (strOfNums y164).size + x5.size ≤ 9223372036854775807 then (lanyardref10_two.l0 k (wrap64 (Int.tdiv x0 10)) x1 ((strOfNums y164) ++ x5) (wrap64 (x6 + 1))) else (none))) else (some x5)
def lanyardref10_two.f (k : Nat) (a0 : Int) (a1 : Int) : Option (ByteArray) := lanyardref10_two.l0 k a0 a1 (⟨#[]⟩ : ByteArray) 0
theorem lanyardref10_two.mono_l : ∀ k, (∀ y0 y1 y2 y3, LeO (lanyardref10_two.l0 k y0 y1 y2 y3) (lanyardref10_two.l0 (k + 1) y0 y1 y2 y3))
 | 0 => fun _ _ _ _ r h => by simp [lanyardref10_two.l0] at h
 | k + 1 => by
  have ih0 := lanyardref10_two.mono_l k
  ·intro y0 y1 y2 y3
   unfold lanyardref10_two.l0
   repeat' first
   | (with_reducible exact ih0 _ _ _ _)
   | (with_reducible exact LeO.refl _)
   | (with_reducible exact LeO.none _)
   | (with_reducible refine LeO.ite ?_ ?_)
   | (with_reducible refine LeO.bind ?_ (fun _ => ?_))
   | exact ih0 _ _ _ _
   | exact LeO.none _
   | refine LeO.ite ?_ ?_
   | refine LeO.bind ?_ (fun _ => ?_)
theorem lanyardref10_two.mono : ∀ a0 a1 k, LeO (lanyardref10_two.f k a0 a1) (lanyardref10_two.f (k + 1) a0 a1) := by
 intro a0 a1 k
 have ih0 := lanyardref10_two.mono_l k
 unfold lanyardref10_two.f
 repeat' first
   | (with_reducible exact ih0 _ _ _ _)
   | (with_reducible exact LeO.refl _)
   | (with_reducible exact LeO.none _)
   | (with_reducible refine LeO.ite ?_ ?_)
   | (with_reducible refine LeO.bind ?_ (fun _ => ?_))
   | exact ih0 _ _ _ _
   | exact LeO.none _
   | refine LeO.ite ?_ ?_
   | refine LeO.bind ?_ (fun _ => ?_)
set_option maxHeartbeats 8000000 in
set_option maxRecDepth 100000 in
theorem lanyardref10_two.calls (k : Nat) (a0 : Int) (a1 : Int) (r : ByteArray) (w : World) (h : lanyardref10_two.f k a0 a1 = some r) :
  Calls Tryd.prog 30 #[.int .i64 a0, .int .i64 a1] w fun e w' => e = .returned (.string r) ∧ Below w.heap.size w w' := by
 have HB := Aside0.mk (Below.refl w.heap.size w)
 have H : (lanyardref10_two.l0 k a0 a1 (⟨#[]⟩ : ByteArray) 0) = some r := h
 clear h
 have H' := Aside0.mk H
 clear H
 go_enter Tryd.func30, Tryd.ntmps30
 go_wp2
 go_loopg [0, 5, 6] k (fun kq v0 v5 v6 w' => ∃ (x0_1 : Int) (x5_1 : ByteArray) (x6_1 : Int), v0 = .int .i64 x0_1 ∧ v5 = .string x5_1 ∧ v6 = .int .i64 x6_1 ∧ Aside0 (lanyardref10_two.l0 kq x0_1 a1 x5_1 x6_1 = some r) ∧ Aside0 (kq ≤ k) ∧ Aside0 (Below w.heap.size w w'))
 case atStart => exact ⟨(a0), ((⟨#[]⟩ : ByteArray)), (0), (by first | rfl | (simp; done) | (simp [*]; done)), (by first | rfl | (simp; done) | (simp [*]; done)), (by first | rfl | (simp; done) | (simp [*]; done)), H', ⟨Nat.le_refl _⟩, ⟨Bu HB⟩⟩
 case round =>
  clear H'
  try clear p2
  obtain ⟨x0_1, x5_1, x6_1, rfl, rfl, rfl, HA, HK1, HB⟩ := hrel
  cases gk with
  | zero => exact absurd HA.out (by simp [lanyardref10_two.l0])
  | succ k1 =>
   have H := HA.out
   clear HA
   simp only [lanyardref10_two.l0] at H
   by_cases c3 : x6_1 < a1
   ·rw [if_pos c3] at H
    have c3b0 : decide (x6_1 < a1) = true := decide_eq_true c3
    clear c3
    obtain ⟨y164, hy164⟩ : ∃ y_ : List Int, y_ = (([(wrap64 (48 + (Int.tmod x0_1 10))) % 256] : List Int)) := ⟨_, rfl⟩
    replace H : (if (strOfNums y164).size + x5_1.size ≤ 9223372036854775807 then (lanyardref10_two.l0 k1 (wrap64 (Int.tdiv x0_1 10)) a1 ((strOfNums y164) ++ x5_1) (wrap64 (x6_1 + 1))) else (none)) = some r := by first | (rw [hy164]; with_reducible exact H) | (have H2_ := (Option.bind_some _ _).symm.trans H; rw [hy164]; with_reducible exact H2_) | (have H2_ := (Option.bind_some _ _).symm.trans H; with_reducible exact H2_) | with_reducible exact H | (rw [hy164]; exact H) | exact H
    have Ny164 := Aside0.mk hy164
    clear hy164
    by_cases c4 : (strOfNums y164).size + x5_1.size ≤ 9223372036854775807
    ·rw [if_pos c4] at H
     have c4b0 := eq_true c4
     have c4b1 : decide ((strOfNums y164).size + x5_1.size ≤ 9223372036854775807) = true := decide_eq_true c4
     try have c4b2 : (9223372036854775807 < (strOfNums y164).size + x5_1.size) = False := eq_false (Nat.not_lt.2 c4)
     have H' := Aside0.mk H
     clear H
     go_wp2_with (first | ((with_reducible refine gate_dst (N := 16) rfl ?_); refine Kd.R_lit (Kd.int .u8) _ 5 ?hg (N := 16) ?hd (xs := ([(wrap64 (48 + (Int.tmod x0_1 10))) % 256] : List Int)) (inner := [.int .u8 ((wrap64 (48 + (Int.tmod x0_1 10))) % 256)]) (ok := fun _ => True) (okp := fun _ => True) ?hr ?hp (fun _ hk => hk) trivial (Below.refl _ _) (Nat.le_refl _) (by simp) ?_; (case hd => rfl); (case hg => rfl); (case hr => first | (go_simp; done) | (go_simp; rfl)); (case hp => exact (Reps.one (show Kd.M (Kd.int .u8) _ _ _ ((wrap64 (48 + (Int.tmod x0_1 10))) % 256) [.int .u8 ((wrap64 (48 + (Int.tmod x0_1 10))) % 256)] from rfl) (Reps.none _ _))); intro v165 w5 ho6 hb hg_ hnew_; clear hg_ hnew_; (first | rw [← Ny164.out] at ho6 | (simp only [Int.reduceToNat] at ho6; rw [← Ny164.out] at ho6)); have n0_ := Aside0.mk (Kd.R_lower ho6 (Bz HB)); have n1_ := Bs HB hb; clear HB; revert n0_ n1_; intro HO166 HB; clear hb ho6; have hcv7 := own_string (P := Tryd.prog) Tryd.underlying39 Tryd.underlying5 Tryd.underlying9 (Kd.own_of_R HO166.out); have hcv8 := fun n_ : Nat => own_string (P := Tryd.prog) Tryd.underlying39 Tryd.underlying5 Tryd.underlying9 (Kd.own_of_R (Kd.R_drewN HO166.out n_))))
     go_roundg k1
     case measure => have := HK1.out; omega
     case rel => exact ⟨(wrap64 (Int.tdiv x0_1 10)), ((strOfNums y164) ++ x5_1), (wrap64 (x6_1 + 1)), (by first | rfl | (simp; done) | (simp [*]; done)), (by first | rfl | (simp; done) | (simp [*]; done)), (by first | rfl | (simp; done) | (simp [*]; done)), H', ⟨by have := HK1.out; omega⟩, ⟨Bu HB⟩⟩
    ·rw [if_neg c4] at H
     exact absurd H (by simp)
   ·rw [if_neg c3] at H
    have c3b0 : decide (x6_1 < a1) = false := decide_eq_false c3
    clear c3
    obtain rfl := Option.some.inj H
    go_wp2
    go_ret
    exact ⟨rfl_, Bu HB⟩

/-! ### lanyardref10_Print: function 14 -/
def lanyardref10_Print.f (k : Nat) (a0 : Int) : Option (ByteArray) := (lanyardref10_Date.f k a0).bind fun bt167 => ((lanyardref10_First.f).bind fun t170 => ((lanyardref10_two.f k bt167.1 4).bind fun t171 => (if t171.size + 1 ≤ 9223372036854775807 then ((lanyardref10_two.f k bt167.2.1 2).bind fun t172 => (if (t171 ++ (⟨#[45]⟩ : ByteArray)).size + t172.size ≤ 9223372036854775807 then (if ((t171 ++ (⟨#[45]⟩ : ByteArray)) ++ t172).size + 1 ≤ 9223372036854775807 then ((lanyardref10_two.f k bt167.2.2 2).bind fun t173 => (if (((t171 ++ (⟨#[45]⟩ : ByteArray)) ++ t172) ++ (⟨#[45]⟩ : ByteArray)).size + t173.size ≤ 9223372036854775807 then (if ((((t171 ++ (⟨#[45]⟩ : ByteArray)) ++ t172) ++ (⟨#[45]⟩ : ByteArray)) ++ t173).size + 1 ≤ 9223372036854775807 then ((lanyardref10_two.f k (wrap64 (Int.tdiv (Int.tmod (wrap64 (a0 - t170)) 86400000) 3600000)) 2).bind fun t174 => (if (((((t171 ++ (⟨#[45]⟩ : ByteArray)) ++ t172) ++ (⟨#[45]⟩ : ByteArray)) ++ t173) ++ (⟨#[84]⟩ : ByteArray)).size + t174.size ≤ 9223372036854775807 then (if ((((((t171 ++ (⟨#[45]⟩ : ByteArray)) ++ t172) ++ (⟨#[45]⟩ : ByteArray)) ++ t173) ++ (⟨#[84]⟩ : ByteArray)) ++ t174).size + 1 ≤ 9223372036854775807 then ((lanyardref10_two.f k (Int.tmod (wrap64 (Int.tdiv (Int.tmod (wrap64 (a0 - t170)) 86400000) 60000)) 60) 2).bind fun t175 => (if (((((((t171 ++ (⟨#[45]⟩ : ByteArray)) ++ t172) ++ (⟨#[45]⟩ : ByteArray)) ++ t173) ++ (⟨#[84]⟩ : ByteArray)) ++ t174) ++ (⟨#[58]⟩ : ByteArray)).size + t175.size ≤ 9223372036854775807 then (if ((((((((t171 ++ (⟨#[45]⟩ : ByteArray)) ++ t172) ++ (⟨#[45]⟩ : ByteArray)) ++ t173) ++ (⟨#[84]⟩ : ByteArray)) ++ t174) ++ (⟨#[58]⟩ : ByteArray)) ++ t175).size + 1 ≤ 9223372036854775807 then ((lanyardref10_two.f k (Int.tmod (wrap64 (Int.tdiv (Int.tmod (wrap64 (a0 - t170)) 86400000) 1000)) 60) 2).bind fun t176 => (if (((((((((t171 ++ (⟨#[45]⟩ : ByteArray)) ++ t172) ++ (⟨#[45]⟩ : ByteArray)) ++ t173) ++ (⟨#[84]⟩ : ByteArray)) ++ t174) ++ (⟨#[58]⟩ : ByteArray)) ++ t175) ++ (⟨#[58]⟩ : ByteArray)).size + t176.size ≤ 9223372036854775807 then (if (Int.tmod (wrap64 (a0 - t170)) 1000) = 0 then (if ((((((((((t171 ++ (⟨#[45]⟩ : ByteArray)) ++ t172) ++ (⟨#[45]⟩ : ByteArray)) ++ t173) ++ (⟨#[84]⟩ : ByteArray)) ++ t174) ++ (⟨#[58]⟩ : ByteArray)) ++ t175) ++ (⟨#[58]⟩ : ByteArray)) ++ t176).size + 1 ≤ 9223372036854775807 then (some (((((((((((t171 ++ (⟨#[45]⟩ : ByteArray)) ++ t172) ++ (⟨#[45]⟩ : ByteArray)) ++ t173) ++ (⟨#[84]⟩ : ByteArray)) ++ t174) ++ (⟨#[58]⟩ : ByteArray)) ++ t175) ++ (⟨#[58]⟩ : ByteArray)) ++ t176) ++ (⟨#[90]⟩ : ByteArray))) else (none)) else (if ((((((((((t171 ++ (⟨#[45]⟩ : ByteArray)) ++ t172) ++ (⟨#[45]⟩ : ByteArray)) ++ t173) ++ (⟨#[84]⟩ : ByteArray)) ++ t174) ++ (⟨#[58]⟩ : ByteArray)) ++ t175) ++ (⟨#[58]⟩ : ByteArray)) ++ t176).size + 1 ≤ 9223372036854775807 then ((lanyardref10_two.f k (Int.tmod (wrap64 (a0 - t170)) 1000) 3).bind fun t177 => (if (((((((((((t171 ++ (⟨#[45]⟩ : ByteArray)) ++ t172) ++ (⟨#[45]⟩ : ByteArray)) ++ t173) ++ (⟨#[84]⟩ : ByteArray)) ++ t174) ++ (⟨#[58]⟩ : ByteArray)) ++ t175) ++ (⟨#[58]⟩ : ByteArray)) ++ t176) ++ (⟨#[46]⟩ : ByteArray)).size + t177.size ≤ 9223372036854775807 then (if ((((((((((((t171 ++ (⟨#[45]⟩ : ByteArray)) ++ t172) ++ (⟨#[45]⟩ : ByteArray)) ++ t173) ++ (⟨#[84]⟩ : ByteArray)) ++ t174) ++ (⟨#[58]⟩ : ByteArray)) ++ t175) ++ (⟨#[58]⟩ : ByteArray)) ++ t176) ++ (⟨#[46]⟩ : ByteArray)) ++ t177).size + 1 ≤ 9223372036854775807 then (some (((((((((((((t171 ++ (⟨#[45]⟩ : ByteArray)) ++ t172) ++ (⟨#[45]⟩ : ByteArray)) ++ t173) ++ (⟨#[84]⟩ : ByteArray)) ++ t174) ++ (⟨#[58]⟩ : ByteArray)) ++ t175) ++ (⟨#[58]⟩ : ByteArray)) ++ t176) ++ (⟨#[46]⟩ : ByteArray)) ++ t177) ++ (⟨#[90]⟩ : ByteArray))) else (none)) else (none))) else (none))) else (none))) else (none)) else (none))) else (none)) else (none))) else (none)) else (none))) else (none)) else (none))) else (none))))
theorem lanyardref10_Print.mono : ∀ a0 k, LeO (lanyardref10_Print.f k a0) (lanyardref10_Print.f (k + 1) a0) := by
 intro a0 k
 unfold lanyardref10_Print.f
 repeat' first
   | (with_reducible exact lanyardref10_Date.mono _ _)
   | (with_reducible exact lanyardref10_two.mono _ _ _)
   | (with_reducible exact LeO.refl _)
   | (with_reducible exact LeO.none _)
   | (with_reducible refine LeO.ite ?_ ?_)
   | (with_reducible refine LeO.bind ?_ (fun _ => ?_))
   | exact lanyardref10_Date.mono _ _
   | exact lanyardref10_two.mono _ _ _
   | exact LeO.none _
   | refine LeO.ite ?_ ?_
   | refine LeO.bind ?_ (fun _ => ?_)
set_option maxHeartbeats 8000000 in
set_option maxRecDepth 100000 in
theorem lanyardref10_Print.calls (k : Nat) (a0 : Int) (r : ByteArray) (w : World) (h : lanyardref10_Print.f k a0 = some r) :
  Calls Tryd.prog 14 #[.int .i64 a0] w fun e w' => e = .returned (.string r) ∧ Below w.heap.size w w' := by
 have HB := Aside0.mk (Below.refl w.heap.size w)
 have H : ((lanyardref10_Date.f k a0).bind fun bt167 => ((lanyardref10_First.f).bind fun t170 => ((lanyardref10_two.f k bt167.1 4).bind fun t171 => (if t171.size + 1 ≤ 9223372036854775807 then ((lanyardref10_two.f k bt167.2.1 2).bind fun t172 => (if (t171 ++ (⟨#[45]⟩ : ByteArray)).size + t172.size ≤ 9223372036854775807 then (if ((t171 ++ (⟨#[45]⟩ : ByteArray)) ++ t172).size + 1 ≤ 9223372036854775807 then ((lanyardref10_two.f k bt167.2.2 2).bind fun t173 => (if (((t171 ++ (⟨#[45]⟩ : ByteArray)) ++ t172) ++ (⟨#[45]⟩ : ByteArray)).size + t173.size ≤ 9223372036854775807 then (if ((((t171 ++ (⟨#[45]⟩ : ByteArray)) ++ t172) ++ (⟨#[45]⟩ : ByteArray)) ++ t173).size + 1 ≤ 9223372036854775807 then ((lanyardref10_two.f k (wrap64 (Int.tdiv (Int.tmod (wrap64 (a0 - t170)) 86400000) 3600000)) 2).bind fun t174 => (if (((((t171 ++ (⟨#[45]⟩ : ByteArray)) ++ t172) ++ (⟨#[45]⟩ : ByteArray)) ++ t173) ++ (⟨#[84]⟩ : ByteArray)).size + t174.size ≤ 9223372036854775807 then (if ((((((t171 ++ (⟨#[45]⟩ : ByteArray)) ++ t172) ++ (⟨#[45]⟩ : ByteArray)) ++ t173) ++ (⟨#[84]⟩ : ByteArray)) ++ t174).size + 1 ≤ 9223372036854775807 then ((lanyardref10_two.f k (Int.tmod (wrap64 (Int.tdiv (Int.tmod (wrap64 (a0 - t170)) 86400000) 60000)) 60) 2).bind fun t175 => (if (((((((t171 ++ (⟨#[45]⟩ : ByteArray)) ++ t172) ++ (⟨#[45]⟩ : ByteArray)) ++ t173) ++ (⟨#[84]⟩ : ByteArray)) ++ t174) ++ (⟨#[58]⟩ : ByteArray)).size + t175.size ≤ 9223372036854775807 then (if ((((((((t171 ++ (⟨#[45]⟩ : ByteArray)) ++ t172) ++ (⟨#[45]⟩ : ByteArray)) ++ t173) ++ (⟨#[84]⟩ : ByteArray)) ++ t174) ++ (⟨#[58]⟩ : ByteArray)) ++ t175).size + 1 ≤ 9223372036854775807 then ((lanyardref10_two.f k (Int.tmod (wrap64 (Int.tdiv (Int.tmod (wrap64 (a0 - t170)) 86400000) 1000)) 60) 2).bind fun t176 => (if (((((((((t171 ++ (⟨#[45]⟩ : ByteArray)) ++ t172) ++ (⟨#[45]⟩ : ByteArray)) ++ t173) ++ (⟨#[84]⟩ : ByteArray)) ++ t174) ++ (⟨#[58]⟩ : ByteArray)) ++ t175) ++ (⟨#[58]⟩ : ByteArray)).size + t176.size ≤ 9223372036854775807 then (if (Int.tmod (wrap64 (a0 - t170)) 1000) = 0 then (if ((((((((((t171 ++ (⟨#[45]⟩ : ByteArray)) ++ t172) ++ (⟨#[45]⟩ : ByteArray)) ++ t173) ++ (⟨#[84]⟩ : ByteArray)) ++ t174) ++ (⟨#[58]⟩ : ByteArray)) ++ t175) ++ (⟨#[58]⟩ : ByteArray)) ++ t176).size + 1 ≤ 9223372036854775807 then (some (((((((((((t171 ++ (⟨#[45]⟩ : ByteArray)) ++ t172) ++ (⟨#[45]⟩ : ByteArray)) ++ t173) ++ (⟨#[84]⟩ : ByteArray)) ++ t174) ++ (⟨#[58]⟩ : ByteArray)) ++ t175) ++ (⟨#[58]⟩ : ByteArray)) ++ t176) ++ (⟨#[90]⟩ : ByteArray))) else (none)) else (if ((((((((((t171 ++ (⟨#[45]⟩ : ByteArray)) ++ t172) ++ (⟨#[45]⟩ : ByteArray)) ++ t173) ++ (⟨#[84]⟩ : ByteArray)) ++ t174) ++ (⟨#[58]⟩ : ByteArray)) ++ t175) ++ (⟨#[58]⟩ : ByteArray)) ++ t176).size + 1 ≤ 9223372036854775807 then ((lanyardref10_two.f k (Int.tmod (wrap64 (a0 - t170)) 1000) 3).bind fun t177 => (if (((((((((((t171 ++ (⟨#[45]⟩ : ByteArray)) ++ t172) ++ (⟨#[45]⟩ : ByteArray)) ++ t173) ++ (⟨#[84]⟩ : ByteArray)) ++ t174) ++ (⟨#[58]⟩ : ByteArray)) ++ t175) ++ (⟨#[58]⟩ : ByteArray)) ++ t176) ++ (⟨#[46]⟩ : ByteArray)).size + t177.size ≤ 9223372036854775807 then (if ((((((((((((t171 ++ (⟨#[45]⟩ : ByteArray)) ++ t172) ++ (⟨#[45]⟩ : ByteArray)) ++ t173) ++ (⟨#[84]⟩ : ByteArray)) ++ t174) ++ (⟨#[58]⟩ : ByteArray)) ++ t175) ++ (⟨#[58]⟩ : ByteArray)) ++ t176) ++ (⟨#[46]⟩ : ByteArray)) ++ t177).size + 1 ≤ 9223372036854775807 then (some (((((((((((((t171 ++ (⟨#[45]⟩ : ByteArray)) ++ t172) ++ (⟨#[45]⟩ : ByteArray)) ++ t173) ++ (⟨#[84]⟩ : ByteArray)) ++ t174) ++ (⟨#[58]⟩ : ByteArray)) ++ t175) ++ (⟨#[58]⟩ : ByteArray)) ++ t176) ++ (⟨#[46]⟩ : ByteArray)) ++ t177) ++ (⟨#[90]⟩ : ByteArray))) else (none)) else (none))) else (none))) else (none))) else (none)) else (none))) else (none)) else (none))) else (none)) else (none))) else (none)) else (none))) else (none))))) = some r := h
 clear h
 replace H := Option.bind_eq_some_iff.mp H
 obtain ⟨⟨t167, t168, t169⟩, A20, H⟩ := H
 replace H : ((lanyardref10_First.f).bind fun t170 => ((lanyardref10_two.f k t167 4).bind fun t171 => (if t171.size + 1 ≤ 9223372036854775807 then ((lanyardref10_two.f k t168 2).bind fun t172 => (if (t171 ++ (⟨#[45]⟩ : ByteArray)).size + t172.size ≤ 9223372036854775807 then (if ((t171 ++ (⟨#[45]⟩ : ByteArray)) ++ t172).size + 1 ≤ 9223372036854775807 then ((lanyardref10_two.f k t169 2).bind fun t173 => (if (((t171 ++ (⟨#[45]⟩ : ByteArray)) ++ t172) ++ (⟨#[45]⟩ : ByteArray)).size + t173.size ≤ 9223372036854775807 then (if ((((t171 ++ (⟨#[45]⟩ : ByteArray)) ++ t172) ++ (⟨#[45]⟩ : ByteArray)) ++ t173).size + 1 ≤ 9223372036854775807 then ((lanyardref10_two.f k (wrap64 (Int.tdiv (Int.tmod (wrap64 (a0 - t170)) 86400000) 3600000)) 2).bind fun t174 => (if (((((t171 ++ (⟨#[45]⟩ : ByteArray)) ++ t172) ++ (⟨#[45]⟩ : ByteArray)) ++ t173) ++ (⟨#[84]⟩ : ByteArray)).size + t174.size ≤ 9223372036854775807 then (if ((((((t171 ++ (⟨#[45]⟩ : ByteArray)) ++ t172) ++ (⟨#[45]⟩ : ByteArray)) ++ t173) ++ (⟨#[84]⟩ : ByteArray)) ++ t174).size + 1 ≤ 9223372036854775807 then ((lanyardref10_two.f k (Int.tmod (wrap64 (Int.tdiv (Int.tmod (wrap64 (a0 - t170)) 86400000) 60000)) 60) 2).bind fun t175 => (if (((((((t171 ++ (⟨#[45]⟩ : ByteArray)) ++ t172) ++ (⟨#[45]⟩ : ByteArray)) ++ t173) ++ (⟨#[84]⟩ : ByteArray)) ++ t174) ++ (⟨#[58]⟩ : ByteArray)).size + t175.size ≤ 9223372036854775807 then (if ((((((((t171 ++ (⟨#[45]⟩ : ByteArray)) ++ t172) ++ (⟨#[45]⟩ : ByteArray)) ++ t173) ++ (⟨#[84]⟩ : ByteArray)) ++ t174) ++ (⟨#[58]⟩ : ByteArray)) ++ t175).size + 1 ≤ 9223372036854775807 then ((lanyardref10_two.f k (Int.tmod (wrap64 (Int.tdiv (Int.tmod (wrap64 (a0 - t170)) 86400000) 1000)) 60) 2).bind fun t176 => (if (((((((((t171 ++ (⟨#[45]⟩ : ByteArray)) ++ t172) ++ (⟨#[45]⟩ : ByteArray)) ++ t173) ++ (⟨#[84]⟩ : ByteArray)) ++ t174) ++ (⟨#[58]⟩ : ByteArray)) ++ t175) ++ (⟨#[58]⟩ : ByteArray)).size + t176.size ≤ 9223372036854775807 then (if (Int.tmod (wrap64 (a0 - t170)) 1000) = 0 then (if ((((((((((t171 ++ (⟨#[45]⟩ : ByteArray)) ++ t172) ++ (⟨#[45]⟩ : ByteArray)) ++ t173) ++ (⟨#[84]⟩ : ByteArray)) ++ t174) ++ (⟨#[58]⟩ : ByteArray)) ++ t175) ++ (⟨#[58]⟩ : ByteArray)) ++ t176).size + 1 ≤ 9223372036854775807 then (some (((((((((((t171 ++ (⟨#[45]⟩ : ByteArray)) ++ t172) ++ (⟨#[45]⟩ : ByteArray)) ++ t173) ++ (⟨#[84]⟩ : ByteArray)) ++ t174) ++ (⟨#[58]⟩ : ByteArray)) ++ t175) ++ (⟨#[58]⟩ : ByteArray)) ++ t176) ++ (⟨#[90]⟩ : ByteArray))) else (none)) else (if ((((((((((t171 ++ (⟨#[45]⟩ : ByteArray)) ++ t172) ++ (⟨#[45]⟩ : ByteArray)) ++ t173) ++ (⟨#[84]⟩ : ByteArray)) ++ t174) ++ (⟨#[58]⟩ : ByteArray)) ++ t175) ++ (⟨#[58]⟩ : ByteArray)) ++ t176).size + 1 ≤ 9223372036854775807 then ((lanyardref10_two.f k (Int.tmod (wrap64 (a0 - t170)) 1000) 3).bind fun t177 => (if (((((((((((t171 ++ (⟨#[45]⟩ : ByteArray)) ++ t172) ++ (⟨#[45]⟩ : ByteArray)) ++ t173) ++ (⟨#[84]⟩ : ByteArray)) ++ t174) ++ (⟨#[58]⟩ : ByteArray)) ++ t175) ++ (⟨#[58]⟩ : ByteArray)) ++ t176) ++ (⟨#[46]⟩ : ByteArray)).size + t177.size ≤ 9223372036854775807 then (if ((((((((((((t171 ++ (⟨#[45]⟩ : ByteArray)) ++ t172) ++ (⟨#[45]⟩ : ByteArray)) ++ t173) ++ (⟨#[84]⟩ : ByteArray)) ++ t174) ++ (⟨#[58]⟩ : ByteArray)) ++ t175) ++ (⟨#[58]⟩ : ByteArray)) ++ t176) ++ (⟨#[46]⟩ : ByteArray)) ++ t177).size + 1 ≤ 9223372036854775807 then (some (((((((((((((t171 ++ (⟨#[45]⟩ : ByteArray)) ++ t172) ++ (⟨#[45]⟩ : ByteArray)) ++ t173) ++ (⟨#[84]⟩ : ByteArray)) ++ t174) ++ (⟨#[58]⟩ : ByteArray)) ++ t175) ++ (⟨#[58]⟩ : ByteArray)) ++ t176) ++ (⟨#[46]⟩ : ByteArray)) ++ t177) ++ (⟨#[90]⟩ : ByteArray))) else (none)) else (none))) else (none))) else (none))) else (none)) else (none))) else (none)) else (none))) else (none)) else (none))) else (none)) else (none))) else (none)))) = some r := H
 have A2 := Aside0.mk A20
 clear A20
 replace H := Option.bind_eq_some_iff.mp H
 obtain ⟨t170, A30, H⟩ := H
 replace H : ((lanyardref10_two.f k t167 4).bind fun t171 => (if t171.size + 1 ≤ 9223372036854775807 then ((lanyardref10_two.f k t168 2).bind fun t172 => (if (t171 ++ (⟨#[45]⟩ : ByteArray)).size + t172.size ≤ 9223372036854775807 then (if ((t171 ++ (⟨#[45]⟩ : ByteArray)) ++ t172).size + 1 ≤ 9223372036854775807 then ((lanyardref10_two.f k t169 2).bind fun t173 => (if (((t171 ++ (⟨#[45]⟩ : ByteArray)) ++ t172) ++ (⟨#[45]⟩ : ByteArray)).size + t173.size ≤ 9223372036854775807 then (if ((((t171 ++ (⟨#[45]⟩ : ByteArray)) ++ t172) ++ (⟨#[45]⟩ : ByteArray)) ++ t173).size + 1 ≤ 9223372036854775807 then ((lanyardref10_two.f k (wrap64 (Int.tdiv (Int.tmod (wrap64 (a0 - t170)) 86400000) 3600000)) 2).bind fun t174 => (if (((((t171 ++ (⟨#[45]⟩ : ByteArray)) ++ t172) ++ (⟨#[45]⟩ : ByteArray)) ++ t173) ++ (⟨#[84]⟩ : ByteArray)).size + t174.size ≤ 9223372036854775807 then (if ((((((t171 ++ (⟨#[45]⟩ : ByteArray)) ++ t172) ++ (⟨#[45]⟩ : ByteArray)) ++ t173) ++ (⟨#[84]⟩ : ByteArray)) ++ t174).size + 1 ≤ 9223372036854775807 then ((lanyardref10_two.f k (Int.tmod (wrap64 (Int.tdiv (Int.tmod (wrap64 (a0 - t170)) 86400000) 60000)) 60) 2).bind fun t175 => (if (((((((t171 ++ (⟨#[45]⟩ : ByteArray)) ++ t172) ++ (⟨#[45]⟩ : ByteArray)) ++ t173) ++ (⟨#[84]⟩ : ByteArray)) ++ t174) ++ (⟨#[58]⟩ : ByteArray)).size + t175.size ≤ 9223372036854775807 then (if ((((((((t171 ++ (⟨#[45]⟩ : ByteArray)) ++ t172) ++ (⟨#[45]⟩ : ByteArray)) ++ t173) ++ (⟨#[84]⟩ : ByteArray)) ++ t174) ++ (⟨#[58]⟩ : ByteArray)) ++ t175).size + 1 ≤ 9223372036854775807 then ((lanyardref10_two.f k (Int.tmod (wrap64 (Int.tdiv (Int.tmod (wrap64 (a0 - t170)) 86400000) 1000)) 60) 2).bind fun t176 => (if (((((((((t171 ++ (⟨#[45]⟩ : ByteArray)) ++ t172) ++ (⟨#[45]⟩ : ByteArray)) ++ t173) ++ (⟨#[84]⟩ : ByteArray)) ++ t174) ++ (⟨#[58]⟩ : ByteArray)) ++ t175) ++ (⟨#[58]⟩ : ByteArray)).size + t176.size ≤ 9223372036854775807 then (if (Int.tmod (wrap64 (a0 - t170)) 1000) = 0 then (if ((((((((((t171 ++ (⟨#[45]⟩ : ByteArray)) ++ t172) ++ (⟨#[45]⟩ : ByteArray)) ++ t173) ++ (⟨#[84]⟩ : ByteArray)) ++ t174) ++ (⟨#[58]⟩ : ByteArray)) ++ t175) ++ (⟨#[58]⟩ : ByteArray)) ++ t176).size + 1 ≤ 9223372036854775807 then (some (((((((((((t171 ++ (⟨#[45]⟩ : ByteArray)) ++ t172) ++ (⟨#[45]⟩ : ByteArray)) ++ t173) ++ (⟨#[84]⟩ : ByteArray)) ++ t174) ++ (⟨#[58]⟩ : ByteArray)) ++ t175) ++ (⟨#[58]⟩ : ByteArray)) ++ t176) ++ (⟨#[90]⟩ : ByteArray))) else (none)) else (if ((((((((((t171 ++ (⟨#[45]⟩ : ByteArray)) ++ t172) ++ (⟨#[45]⟩ : ByteArray)) ++ t173) ++ (⟨#[84]⟩ : ByteArray)) ++ t174) ++ (⟨#[58]⟩ : ByteArray)) ++ t175) ++ (⟨#[58]⟩ : ByteArray)) ++ t176).size + 1 ≤ 9223372036854775807 then ((lanyardref10_two.f k (Int.tmod (wrap64 (a0 - t170)) 1000) 3).bind fun t177 => (if (((((((((((t171 ++ (⟨#[45]⟩ : ByteArray)) ++ t172) ++ (⟨#[45]⟩ : ByteArray)) ++ t173) ++ (⟨#[84]⟩ : ByteArray)) ++ t174) ++ (⟨#[58]⟩ : ByteArray)) ++ t175) ++ (⟨#[58]⟩ : ByteArray)) ++ t176) ++ (⟨#[46]⟩ : ByteArray)).size + t177.size ≤ 9223372036854775807 then (if ((((((((((((t171 ++ (⟨#[45]⟩ : ByteArray)) ++ t172) ++ (⟨#[45]⟩ : ByteArray)) ++ t173) ++ (⟨#[84]⟩ : ByteArray)) ++ t174) ++ (⟨#[58]⟩ : ByteArray)) ++ t175) ++ (⟨#[58]⟩ : ByteArray)) ++ t176) ++ (⟨#[46]⟩ : ByteArray)) ++ t177).size + 1 ≤ 9223372036854775807 then (some (((((((((((((t171 ++ (⟨#[45]⟩ : ByteArray)) ++ t172) ++ (⟨#[45]⟩ : ByteArray)) ++ t173) ++ (⟨#[84]⟩ : ByteArray)) ++ t174) ++ (⟨#[58]⟩ : ByteArray)) ++ t175) ++ (⟨#[58]⟩ : ByteArray)) ++ t176) ++ (⟨#[46]⟩ : ByteArray)) ++ t177) ++ (⟨#[90]⟩ : ByteArray))) else (none)) else (none))) else (none))) else (none))) else (none)) else (none))) else (none)) else (none))) else (none)) else (none))) else (none)) else (none))) else (none))) = some r := H
 have A3 := Aside0.mk A30
 clear A30
 replace H := Option.bind_eq_some_iff.mp H
 obtain ⟨t171, A40, H⟩ := H
 replace H : (if t171.size + 1 ≤ 9223372036854775807 then ((lanyardref10_two.f k t168 2).bind fun t172 => (if (t171 ++ (⟨#[45]⟩ : ByteArray)).size + t172.size ≤ 9223372036854775807 then (if ((t171 ++ (⟨#[45]⟩ : ByteArray)) ++ t172).size + 1 ≤ 9223372036854775807 then ((lanyardref10_two.f k t169 2).bind fun t173 => (if (((t171 ++ (⟨#[45]⟩ : ByteArray)) ++ t172) ++ (⟨#[45]⟩ : ByteArray)).size + t173.size ≤ 9223372036854775807 then (if ((((t171 ++ (⟨#[45]⟩ : ByteArray)) ++ t172) ++ (⟨#[45]⟩ : ByteArray)) ++ t173).size + 1 ≤ 9223372036854775807 then ((lanyardref10_two.f k (wrap64 (Int.tdiv (Int.tmod (wrap64 (a0 - t170)) 86400000) 3600000)) 2).bind fun t174 => (if (((((t171 ++ (⟨#[45]⟩ : ByteArray)) ++ t172) ++ (⟨#[45]⟩ : ByteArray)) ++ t173) ++ (⟨#[84]⟩ : ByteArray)).size + t174.size ≤ 9223372036854775807 then (if ((((((t171 ++ (⟨#[45]⟩ : ByteArray)) ++ t172) ++ (⟨#[45]⟩ : ByteArray)) ++ t173) ++ (⟨#[84]⟩ : ByteArray)) ++ t174).size + 1 ≤ 9223372036854775807 then ((lanyardref10_two.f k (Int.tmod (wrap64 (Int.tdiv (Int.tmod (wrap64 (a0 - t170)) 86400000) 60000)) 60) 2).bind fun t175 => (if (((((((t171 ++ (⟨#[45]⟩ : ByteArray)) ++ t172) ++ (⟨#[45]⟩ : ByteArray)) ++ t173) ++ (⟨#[84]⟩ : ByteArray)) ++ t174) ++ (⟨#[58]⟩ : ByteArray)).size + t175.size ≤ 9223372036854775807 then (if ((((((((t171 ++ (⟨#[45]⟩ : ByteArray)) ++ t172) ++ (⟨#[45]⟩ : ByteArray)) ++ t173) ++ (⟨#[84]⟩ : ByteArray)) ++ t174) ++ (⟨#[58]⟩ : ByteArray)) ++ t175).size + 1 ≤ 9223372036854775807 then ((lanyardref10_two.f k (Int.tmod (wrap64 (Int.tdiv (Int.tmod (wrap64 (a0 - t170)) 86400000) 1000)) 60) 2).bind fun t176 => (if (((((((((t171 ++ (⟨#[45]⟩ : ByteArray)) ++ t172) ++ (⟨#[45]⟩ : ByteArray)) ++ t173) ++ (⟨#[84]⟩ : ByteArray)) ++ t174) ++ (⟨#[58]⟩ : ByteArray)) ++ t175) ++ (⟨#[58]⟩ : ByteArray)).size + t176.size ≤ 9223372036854775807 then (if (Int.tmod (wrap64 (a0 - t170)) 1000) = 0 then (if ((((((((((t171 ++ (⟨#[45]⟩ : ByteArray)) ++ t172) ++ (⟨#[45]⟩ : ByteArray)) ++ t173) ++ (⟨#[84]⟩ : ByteArray)) ++ t174) ++ (⟨#[58]⟩ : ByteArray)) ++ t175) ++ (⟨#[58]⟩ : ByteArray)) ++ t176).size + 1 ≤ 9223372036854775807 then (some (((((((((((t171 ++ (⟨#[45]⟩ : ByteArray)) ++ t172) ++ (⟨#[45]⟩ : ByteArray)) ++ t173) ++ (⟨#[84]⟩ : ByteArray)) ++ t174) ++ (⟨#[58]⟩ : ByteArray)) ++ t175) ++ (⟨#[58]⟩ : ByteArray)) ++ t176) ++ (⟨#[90]⟩ : ByteArray))) else (none)) else (if ((((((((((t171 ++ (⟨#[45]⟩ : ByteArray)) ++ t172) ++ (⟨#[45]⟩ : ByteArray)) ++ t173) ++ (⟨#[84]⟩ : ByteArray)) ++ t174) ++ (⟨#[58]⟩ : ByteArray)) ++ t175) ++ (⟨#[58]⟩ : ByteArray)) ++ t176).size + 1 ≤ 9223372036854775807 then ((lanyardref10_two.f k (Int.tmod (wrap64 (a0 - t170)) 1000) 3).bind fun t177 => (if (((((((((((t171 ++ (⟨#[45]⟩ : ByteArray)) ++ t172) ++ (⟨#[45]⟩ : ByteArray)) ++ t173) ++ (⟨#[84]⟩ : ByteArray)) ++ t174) ++ (⟨#[58]⟩ : ByteArray)) ++ t175) ++ (⟨#[58]⟩ : ByteArray)) ++ t176) ++ (⟨#[46]⟩ : ByteArray)).size + t177.size ≤ 9223372036854775807 then (if ((((((((((((t171 ++ (⟨#[45]⟩ : ByteArray)) ++ t172) ++ (⟨#[45]⟩ : ByteArray)) ++ t173) ++ (⟨#[84]⟩ : ByteArray)) ++ t174) ++ (⟨#[58]⟩ : ByteArray)) ++ t175) ++ (⟨#[58]⟩ : ByteArray)) ++ t176) ++ (⟨#[46]⟩ : ByteArray)) ++ t177).size + 1 ≤ 9223372036854775807 then (some (((((((((((((t171 ++ (⟨#[45]⟩ : ByteArray)) ++ t172) ++ (⟨#[45]⟩ : ByteArray)) ++ t173) ++ (⟨#[84]⟩ : ByteArray)) ++ t174) ++ (⟨#[58]⟩ : ByteArray)) ++ t175) ++ (⟨#[58]⟩ : ByteArray)) ++ t176) ++ (⟨#[46]⟩ : ByteArray)) ++ t177) ++ (⟨#[90]⟩ : ByteArray))) else (none)) else (none))) else (none))) else (none))) else (none)) else (none))) else (none)) else (none))) else (none)) else (none))) else (none)) else (none))) else (none)) = some r := H
 have A4 := Aside0.mk A40
 clear A40
 by_cases c5 : t171.size + 1 ≤ 9223372036854775807
 ·rw [if_pos c5] at H
  have c5b0 := eq_true c5
  have c5b1 : decide (t171.size + 1 ≤ 9223372036854775807) = true := decide_eq_true c5
  try have c5b2 : (9223372036854775807 < t171.size + 1) = False := eq_false (Nat.not_lt.2 c5)
  replace H := Option.bind_eq_some_iff.mp H
  obtain ⟨t172, A60, H⟩ := H
  replace H : (if (t171 ++ (⟨#[45]⟩ : ByteArray)).size + t172.size ≤ 9223372036854775807 then (if ((t171 ++ (⟨#[45]⟩ : ByteArray)) ++ t172).size + 1 ≤ 9223372036854775807 then ((lanyardref10_two.f k t169 2).bind fun t173 => (if (((t171 ++ (⟨#[45]⟩ : ByteArray)) ++ t172) ++ (⟨#[45]⟩ : ByteArray)).size + t173.size ≤ 9223372036854775807 then (if ((((t171 ++ (⟨#[45]⟩ : ByteArray)) ++ t172) ++ (⟨#[45]⟩ : ByteArray)) ++ t173).size + 1 ≤ 9223372036854775807 then ((lanyardref10_two.f k (wrap64 (Int.tdiv (Int.tmod (wrap64 (a0 - t170)) 86400000) 3600000)) 2).bind fun t174 => (if (((((t171 ++ (⟨#[45]⟩ : ByteArray)) ++ t172) ++ (⟨#[45]⟩ : ByteArray)) ++ t173) ++ (⟨#[84]⟩ : ByteArray)).size + t174.size ≤ 9223372036854775807 then (if ((((((t171 ++ (⟨#[45]⟩ : ByteArray)) ++ t172) ++ (⟨#[45]⟩ : ByteArray)) ++ t173) ++ (⟨#[84]⟩ : ByteArray)) ++ t174).size + 1 ≤ 9223372036854775807 then ((lanyardref10_two.f k (Int.tmod (wrap64 (Int.tdiv (Int.tmod (wrap64 (a0 - t170)) 86400000) 60000)) 60) 2).bind fun t175 => (if (((((((t171 ++ (⟨#[45]⟩ : ByteArray)) ++ t172) ++ (⟨#[45]⟩ : ByteArray)) ++ t173) ++ (⟨#[84]⟩ : ByteArray)) ++ t174) ++ (⟨#[58]⟩ : ByteArray)).size + t175.size ≤ 9223372036854775807 then (if ((((((((t171 ++ (⟨#[45]⟩ : ByteArray)) ++ t172) ++ (⟨#[45]⟩ : ByteArray)) ++ t173) ++ (⟨#[84]⟩ : ByteArray)) ++ t174) ++ (⟨#[58]⟩ : ByteArray)) ++ t175).size + 1 ≤ 9223372036854775807 then ((lanyardref10_two.f k (Int.tmod (wrap64 (Int.tdiv (Int.tmod (wrap64 (a0 - t170)) 86400000) 1000)) 60) 2).bind fun t176 => (if (((((((((t171 ++ (⟨#[45]⟩ : ByteArray)) ++ t172) ++ (⟨#[45]⟩ : ByteArray)) ++ t173) ++ (⟨#[84]⟩ : ByteArray)) ++ t174) ++ (⟨#[58]⟩ : ByteArray)) ++ t175) ++ (⟨#[58]⟩ : ByteArray)).size + t176.size ≤ 9223372036854775807 then (if (Int.tmod (wrap64 (a0 - t170)) 1000) = 0 then (if ((((((((((t171 ++ (⟨#[45]⟩ : ByteArray)) ++ t172) ++ (⟨#[45]⟩ : ByteArray)) ++ t173) ++ (⟨#[84]⟩ : ByteArray)) ++ t174) ++ (⟨#[58]⟩ : ByteArray)) ++ t175) ++ (⟨#[58]⟩ : ByteArray)) ++ t176).size + 1 ≤ 9223372036854775807 then (some (((((((((((t171 ++ (⟨#[45]⟩ : ByteArray)) ++ t172) ++ (⟨#[45]⟩ : ByteArray)) ++ t173) ++ (⟨#[84]⟩ : ByteArray)) ++ t174) ++ (⟨#[58]⟩ : ByteArray)) ++ t175) ++ (⟨#[58]⟩ : ByteArray)) ++ t176) ++ (⟨#[90]⟩ : ByteArray))) else (none)) else (if ((((((((((t171 ++ (⟨#[45]⟩ : ByteArray)) ++ t172) ++ (⟨#[45]⟩ : ByteArray)) ++ t173) ++ (⟨#[84]⟩ : ByteArray)) ++ t174) ++ (⟨#[58]⟩ : ByteArray)) ++ t175) ++ (⟨#[58]⟩ : ByteArray)) ++ t176).size + 1 ≤ 9223372036854775807 then ((lanyardref10_two.f k (Int.tmod (wrap64 (a0 - t170)) 1000) 3).bind fun t177 => (if (((((((((((t171 ++ (⟨#[45]⟩ : ByteArray)) ++ t172) ++ (⟨#[45]⟩ : ByteArray)) ++ t173) ++ (⟨#[84]⟩ : ByteArray)) ++ t174) ++ (⟨#[58]⟩ : ByteArray)) ++ t175) ++ (⟨#[58]⟩ : ByteArray)) ++ t176) ++ (⟨#[46]⟩ : ByteArray)).size + t177.size ≤ 9223372036854775807 then (if ((((((((((((t171 ++ (⟨#[45]⟩ : ByteArray)) ++ t172) ++ (⟨#[45]⟩ : ByteArray)) ++ t173) ++ (⟨#[84]⟩ : ByteArray)) ++ t174) ++ (⟨#[58]⟩ : ByteArray)) ++ t175) ++ (⟨#[58]⟩ : ByteArray)) ++ t176) ++ (⟨#[46]⟩ : ByteArray)) ++ t177).size + 1 ≤ 9223372036854775807 then (some (((((((((((((t171 ++ (⟨#[45]⟩ : ByteArray)) ++ t172) ++ (⟨#[45]⟩ : ByteArray)) ++ t173) ++ (⟨#[84]⟩ : ByteArray)) ++ t174) ++ (⟨#[58]⟩ : ByteArray)) ++ t175) ++ (⟨#[58]⟩ : ByteArray)) ++ t176) ++ (⟨#[46]⟩ : ByteArray)) ++ t177) ++ (⟨#[90]⟩ : ByteArray))) else (none)) else (none))) else (none))) else (none))) else (none)) else (none))) else (none)) else (none))) else (none)) else (none))) else (none)) else (none)) = some r := H
  have A6 := Aside0.mk A60
  clear A60
  by_cases c7 : (t171 ++ (⟨#[45]⟩ : ByteArray)).size + t172.size ≤ 9223372036854775807
  ·rw [if_pos c7] at H
   have c7b0 := eq_true c7
   have c7b1 : decide ((t171 ++ (⟨#[45]⟩ : ByteArray)).size + t172.size ≤ 9223372036854775807) = true := decide_eq_true c7
   try have c7b2 : (9223372036854775807 < (t171 ++ (⟨#[45]⟩ : ByteArray)).size + t172.size) = False := eq_false (Nat.not_lt.2 c7)
   try have c7b2z : (9223372036854775807 < t171.size + 1 + t172.size) = False := by have h_ := c7b2; simp only [ByteArray.size_append] at h_; exact h_
   by_cases c8 : ((t171 ++ (⟨#[45]⟩ : ByteArray)) ++ t172).size + 1 ≤ 9223372036854775807
   ·rw [if_pos c8] at H
    have c8b0 := eq_true c8
    have c8b1 : decide (((t171 ++ (⟨#[45]⟩ : ByteArray)) ++ t172).size + 1 ≤ 9223372036854775807) = true := decide_eq_true c8
    try have c8b2 : (9223372036854775807 < ((t171 ++ (⟨#[45]⟩ : ByteArray)) ++ t172).size + 1) = False := eq_false (Nat.not_lt.2 c8)
    try have c8b2z : (9223372036854775807 < t171.size + 1 + t172.size + 1) = False := by have h_ := c8b2; simp only [ByteArray.size_append] at h_; exact h_
    replace H := Option.bind_eq_some_iff.mp H
    obtain ⟨t173, A90, H⟩ := H
    replace H : (if (((t171 ++ (⟨#[45]⟩ : ByteArray)) ++ t172) ++ (⟨#[45]⟩ : ByteArray)).size + t173.size ≤ 9223372036854775807 then (if ((((t171 ++ (⟨#[45]⟩ : ByteArray)) ++ t172) ++ (⟨#[45]⟩ : ByteArray)) ++ t173).size + 1 ≤ 9223372036854775807 then ((lanyardref10_two.f k (wrap64 (Int.tdiv (Int.tmod (wrap64 (a0 - t170)) 86400000) 3600000)) 2).bind fun t174 => (if (((((t171 ++ (⟨#[45]⟩ : ByteArray)) ++ t172) ++ (⟨#[45]⟩ : ByteArray)) ++ t173) ++ (⟨#[84]⟩ : ByteArray)).size + t174.size ≤ 9223372036854775807 then (if ((((((t171 ++ (⟨#[45]⟩ : ByteArray)) ++ t172) ++ (⟨#[45]⟩ : ByteArray)) ++ t173) ++ (⟨#[84]⟩ : ByteArray)) ++ t174).size + 1 ≤ 9223372036854775807 then ((lanyardref10_two.f k (Int.tmod (wrap64 (Int.tdiv (Int.tmod (wrap64 (a0 - t170)) 86400000) 60000)) 60) 2).bind fun t175 => (if (((((((t171 ++ (⟨#[45]⟩ : ByteArray)) ++ t172) ++ (⟨#[45]⟩ : ByteArray)) ++ t173) ++ (⟨#[84]⟩ : ByteArray)) ++ t174) ++ (⟨#[58]⟩ : ByteArray)).size + t175.size ≤ 9223372036854775807 then (if ((((((((t171 ++ (⟨#[45]⟩ : ByteArray)) ++ t172) ++ (⟨#[45]⟩ : ByteArray)) ++ t173) ++ (⟨#[84]⟩ : ByteArray)) ++ t174) ++ (⟨#[58]⟩ : ByteArray)) ++ t175).size + 1 ≤ 9223372036854775807 then ((lanyardref10_two.f k (Int.tmod (wrap64 (Int.tdiv (Int.tmod (wrap64 (a0 - t170)) 86400000) 1000)) 60) 2).bind fun t176 => (if (((((((((t171 ++ (⟨#[45]⟩ : ByteArray)) ++ t172) ++ (⟨#[45]⟩ : ByteArray)) ++ t173) ++ (⟨#[84]⟩ : ByteArray)) ++ t174) ++ (⟨#[58]⟩ : ByteArray)) ++ t175) ++ (⟨#[58]⟩ : ByteArray)).size + t176.size ≤ 9223372036854775807 then (if (Int.tmod (wrap64 (a0 - t170)) 1000) = 0 then (if ((((((((((t171 ++ (⟨#[45]⟩ : ByteArray)) ++ t172) ++ (⟨#[45]⟩ : ByteArray)) ++ t173) ++ (⟨#[84]⟩ : ByteArray)) ++ t174) ++ (⟨#[58]⟩ : ByteArray)) ++ t175) ++ (⟨#[58]⟩ : ByteArray)) ++ t176).size + 1 ≤ 9223372036854775807 then (some (((((((((((t171 ++ (⟨#[45]⟩ : ByteArray)) ++ t172) ++ (⟨#[45]⟩ : ByteArray)) ++ t173) ++ (⟨#[84]⟩ : ByteArray)) ++ t174) ++ (⟨#[58]⟩ : ByteArray)) ++ t175) ++ (⟨#[58]⟩ : ByteArray)) ++ t176) ++ (⟨#[90]⟩ : ByteArray))) else (none)) else (if ((((((((((t171 ++ (⟨#[45]⟩ : ByteArray)) ++ t172) ++ (⟨#[45]⟩ : ByteArray)) ++ t173) ++ (⟨#[84]⟩ : ByteArray)) ++ t174) ++ (⟨#[58]⟩ : ByteArray)) ++ t175) ++ (⟨#[58]⟩ : ByteArray)) ++ t176).size + 1 ≤ 9223372036854775807 then ((lanyardref10_two.f k (Int.tmod (wrap64 (a0 - t170)) 1000) 3).bind fun t177 => (if (((((((((((t171 ++ (⟨#[45]⟩ : ByteArray)) ++ t172) ++ (⟨#[45]⟩ : ByteArray)) ++ t173) ++ (⟨#[84]⟩ : ByteArray)) ++ t174) ++ (⟨#[58]⟩ : ByteArray)) ++ t175) ++ (⟨#[58]⟩ : ByteArray)) ++ t176) ++ (⟨#[46]⟩ : ByteArray)).size + t177.size ≤ 9223372036854775807 then (if ((((((((((((t171 ++ (⟨#[45]⟩ : ByteArray)) ++ t172) ++ (⟨#[45]⟩ : ByteArray)) ++ t173) ++ (⟨#[84]⟩ : ByteArray)) ++ t174) ++ (⟨#[58]⟩ : ByteArray)) ++ t175) ++ (⟨#[58]⟩ : ByteArray)) ++ t176) ++ (⟨#[46]⟩ : ByteArray)) ++ t177).size + 1 ≤ 9223372036854775807 then (some (((((((((((((t171 ++ (⟨#[45]⟩ : ByteArray)) ++ t172) ++ (⟨#[45]⟩ : ByteArray)) ++ t173) ++ (⟨#[84]⟩ : ByteArray)) ++ t174) ++ (⟨#[58]⟩ : ByteArray)) ++ t175) ++ (⟨#[58]⟩ : ByteArray)) ++ t176) ++ (⟨#[46]⟩ : ByteArray)) ++ t177) ++ (⟨#[90]⟩ : ByteArray))) else (none)) else (none))) else (none))) else (none))) else (none)) else (none))) else (none)) else (none))) else (none)) else (none)) = some r := H
    have A9 := Aside0.mk A90
    clear A90
    by_cases c10 : (((t171 ++ (⟨#[45]⟩ : ByteArray)) ++ t172) ++ (⟨#[45]⟩ : ByteArray)).size + t173.size ≤ 9223372036854775807
    ·rw [if_pos c10] at H
     have c10b0 := eq_true c10
     have c10b1 : decide ((((t171 ++ (⟨#[45]⟩ : ByteArray)) ++ t172) ++ (⟨#[45]⟩ : ByteArray)).size + t173.size ≤ 9223372036854775807) = true := decide_eq_true c10
     try have c10b2 : (9223372036854775807 < (((t171 ++ (⟨#[45]⟩ : ByteArray)) ++ t172) ++ (⟨#[45]⟩ : ByteArray)).size + t173.size) = False := eq_false (Nat.not_lt.2 c10)
     try have c10b2z : (9223372036854775807 < t171.size + 1 + t172.size + 1 + t173.size) = False := by have h_ := c10b2; simp only [ByteArray.size_append] at h_; exact h_
     by_cases c11 : ((((t171 ++ (⟨#[45]⟩ : ByteArray)) ++ t172) ++ (⟨#[45]⟩ : ByteArray)) ++ t173).size + 1 ≤ 9223372036854775807
     ·rw [if_pos c11] at H
      have c11b0 := eq_true c11
      have c11b1 : decide (((((t171 ++ (⟨#[45]⟩ : ByteArray)) ++ t172) ++ (⟨#[45]⟩ : ByteArray)) ++ t173).size + 1 ≤ 9223372036854775807) = true := decide_eq_true c11
      try have c11b2 : (9223372036854775807 < ((((t171 ++ (⟨#[45]⟩ : ByteArray)) ++ t172) ++ (⟨#[45]⟩ : ByteArray)) ++ t173).size + 1) = False := eq_false (Nat.not_lt.2 c11)
      try have c11b2z : (9223372036854775807 < t171.size + 1 + t172.size + 1 + t173.size + 1) = False := by have h_ := c11b2; simp only [ByteArray.size_append] at h_; exact h_
      replace H := Option.bind_eq_some_iff.mp H
      obtain ⟨t174, A120, H⟩ := H
      replace H : (if (((((t171 ++ (⟨#[45]⟩ : ByteArray)) ++ t172) ++ (⟨#[45]⟩ : ByteArray)) ++ t173) ++ (⟨#[84]⟩ : ByteArray)).size + t174.size ≤ 9223372036854775807 then (if ((((((t171 ++ (⟨#[45]⟩ : ByteArray)) ++ t172) ++ (⟨#[45]⟩ : ByteArray)) ++ t173) ++ (⟨#[84]⟩ : ByteArray)) ++ t174).size + 1 ≤ 9223372036854775807 then ((lanyardref10_two.f k (Int.tmod (wrap64 (Int.tdiv (Int.tmod (wrap64 (a0 - t170)) 86400000) 60000)) 60) 2).bind fun t175 => (if (((((((t171 ++ (⟨#[45]⟩ : ByteArray)) ++ t172) ++ (⟨#[45]⟩ : ByteArray)) ++ t173) ++ (⟨#[84]⟩ : ByteArray)) ++ t174) ++ (⟨#[58]⟩ : ByteArray)).size + t175.size ≤ 9223372036854775807 then (if ((((((((t171 ++ (⟨#[45]⟩ : ByteArray)) ++ t172) ++ (⟨#[45]⟩ : ByteArray)) ++ t173) ++ (⟨#[84]⟩ : ByteArray)) ++ t174) ++ (⟨#[58]⟩ : ByteArray)) ++ t175).size + 1 ≤ 9223372036854775807 then ((lanyardref10_two.f k (Int.tmod (wrap64 (Int.tdiv (Int.tmod (wrap64 (a0 - t170)) 86400000) 1000)) 60) 2).bind fun t176 => (if (((((((((t171 ++ (⟨#[45]⟩ : ByteArray)) ++ t172) ++ (⟨#[45]⟩ : ByteArray)) ++ t173) ++ (⟨#[84]⟩ : ByteArray)) ++ t174) ++ (⟨#[58]⟩ : ByteArray)) ++ t175) ++ (⟨#[58]⟩ : ByteArray)).size + t176.size ≤ 9223372036854775807 then (if (Int.tmod (wrap64 (a0 - t170)) 1000) = 0 then (if ((((((((((t171 ++ (⟨#[45]⟩ : ByteArray)) ++ t172) ++ (⟨#[45]⟩ : ByteArray)) ++ t173) ++ (⟨#[84]⟩ : ByteArray)) ++ t174) ++ (⟨#[58]⟩ : ByteArray)) ++ t175) ++ (⟨#[58]⟩ : ByteArray)) ++ t176).size + 1 ≤ 9223372036854775807 then (some (((((((((((t171 ++ (⟨#[45]⟩ : ByteArray)) ++ t172) ++ (⟨#[45]⟩ : ByteArray)) ++ t173) ++ (⟨#[84]⟩ : ByteArray)) ++ t174) ++ (⟨#[58]⟩ : ByteArray)) ++ t175) ++ (⟨#[58]⟩ : ByteArray)) ++ t176) ++ (⟨#[90]⟩ : ByteArray))) else (none)) else (if ((((((((((t171 ++ (⟨#[45]⟩ : ByteArray)) ++ t172) ++ (⟨#[45]⟩ : ByteArray)) ++ t173) ++ (⟨#[84]⟩ : ByteArray)) ++ t174) ++ (⟨#[58]⟩ : ByteArray)) ++ t175) ++ (⟨#[58]⟩ : ByteArray)) ++ t176).size + 1 ≤ 9223372036854775807 then ((lanyardref10_two.f k (Int.tmod (wrap64 (a0 - t170)) 1000) 3).bind fun t177 => (if (((((((((((t171 ++ (⟨#[45]⟩ : ByteArray)) ++ t172) ++ (⟨#[45]⟩ : ByteArray)) ++ t173) ++ (⟨#[84]⟩ : ByteArray)) ++ t174) ++ (⟨#[58]⟩ : ByteArray)) ++ t175) ++ (⟨#[58]⟩ : ByteArray)) ++ t176) ++ (⟨#[46]⟩ : ByteArray)).size + t177.size ≤ 9223372036854775807 then (if ((((((((((((t171 ++ (⟨#[45]⟩ : ByteArray)) ++ t172) ++ (⟨#[45]⟩ : ByteArray)) ++ t173) ++ (⟨#[84]⟩ : ByteArray)) ++ t174) ++ (⟨#[58]⟩ : ByteArray)) ++ t175) ++ (⟨#[58]⟩ : ByteArray)) ++ t176) ++ (⟨#[46]⟩ : ByteArray)) ++ t177).size + 1 ≤ 9223372036854775807 then (some (((((((((((((t171 ++ (⟨#[45]⟩ : ByteArray)) ++ t172) ++ (⟨#[45]⟩ : ByteArray)) ++ t173) ++ (⟨#[84]⟩ : ByteArray)) ++ t174) ++ (⟨#[58]⟩ : ByteArray)) ++ t175) ++ (⟨#[58]⟩ : ByteArray)) ++ t176) ++ (⟨#[46]⟩ : ByteArray)) ++ t177) ++ (⟨#[90]⟩ : ByteArray))) else (none)) else (none))) else (none))) else (none))) else (none)) else (none))) else (none)) else (none)) = some r := H
      have A12 := Aside0.mk A120
      clear A120
      by_cases c13 : (((((t171 ++ (⟨#[45]⟩ : ByteArray)) ++ t172) ++ (⟨#[45]⟩ : ByteArray)) ++ t173) ++ (⟨#[84]⟩ : ByteArray)).size + t174.size ≤ 9223372036854775807
      ·rw [if_pos c13] at H
       have c13b0 := eq_true c13
       have c13b1 : decide ((((((t171 ++ (⟨#[45]⟩ : ByteArray)) ++ t172) ++ (⟨#[45]⟩ : ByteArray)) ++ t173) ++ (⟨#[84]⟩ : ByteArray)).size + t174.size ≤ 9223372036854775807) = true := decide_eq_true c13
       try have c13b2 : (9223372036854775807 < (((((t171 ++ (⟨#[45]⟩ : ByteArray)) ++ t172) ++ (⟨#[45]⟩ : ByteArray)) ++ t173) ++ (⟨#[84]⟩ : ByteArray)).size + t174.size) = False := eq_false (Nat.not_lt.2 c13)
       try have c13b2z : (9223372036854775807 < t171.size + 1 + t172.size + 1 + t173.size + 1 + t174.size) = False := by have h_ := c13b2; simp only [ByteArray.size_append] at h_; exact h_
       by_cases c14 : ((((((t171 ++ (⟨#[45]⟩ : ByteArray)) ++ t172) ++ (⟨#[45]⟩ : ByteArray)) ++ t173) ++ (⟨#[84]⟩ : ByteArray)) ++ t174).size + 1 ≤ 9223372036854775807
       ·rw [if_pos c14] at H
        have c14b0 := eq_true c14
        have c14b1 : decide (((((((t171 ++ (⟨#[45]⟩ : ByteArray)) ++ t172) ++ (⟨#[45]⟩ : ByteArray)) ++ t173) ++ (⟨#[84]⟩ : ByteArray)) ++ t174).size + 1 ≤ 9223372036854775807) = true := decide_eq_true c14
        try have c14b2 : (9223372036854775807 < ((((((t171 ++ (⟨#[45]⟩ : ByteArray)) ++ t172) ++ (⟨#[45]⟩ : ByteArray)) ++ t173) ++ (⟨#[84]⟩ : ByteArray)) ++ t174).size + 1) = False := eq_false (Nat.not_lt.2 c14)
        try have c14b2z : (9223372036854775807 < t171.size + 1 + t172.size + 1 + t173.size + 1 + t174.size + 1) = False := by have h_ := c14b2; simp only [ByteArray.size_append] at h_; exact h_
        replace H := Option.bind_eq_some_iff.mp H
        obtain ⟨t175, A150, H⟩ := H
        replace H : (if (((((((t171 ++ (⟨#[45]⟩ : ByteArray)) ++ t172) ++ (⟨#[45]⟩ : ByteArray)) ++ t173) ++ (⟨#[84]⟩ : ByteArray)) ++ t174) ++ (⟨#[58]⟩ : ByteArray)).size + t175.size ≤ 9223372036854775807 then (if ((((((((t171 ++ (⟨#[45]⟩ : ByteArray)) ++ t172) ++ (⟨#[45]⟩ : ByteArray)) ++ t173) ++ (⟨#[84]⟩ : ByteArray)) ++ t174) ++ (⟨#[58]⟩ : ByteArray)) ++ t175).size + 1 ≤ 9223372036854775807 then ((lanyardref10_two.f k (Int.tmod (wrap64 (Int.tdiv (Int.tmod (wrap64 (a0 - t170)) 86400000) 1000)) 60) 2).bind fun t176 => (if (((((((((t171 ++ (⟨#[45]⟩ : ByteArray)) ++ t172) ++ (⟨#[45]⟩ : ByteArray)) ++ t173) ++ (⟨#[84]⟩ : ByteArray)) ++ t174) ++ (⟨#[58]⟩ : ByteArray)) ++ t175) ++ (⟨#[58]⟩ : ByteArray)).size + t176.size ≤ 9223372036854775807 then (if (Int.tmod (wrap64 (a0 - t170)) 1000) = 0 then (if ((((((((((t171 ++ (⟨#[45]⟩ : ByteArray)) ++ t172) ++ (⟨#[45]⟩ : ByteArray)) ++ t173) ++ (⟨#[84]⟩ : ByteArray)) ++ t174) ++ (⟨#[58]⟩ : ByteArray)) ++ t175) ++ (⟨#[58]⟩ : ByteArray)) ++ t176).size + 1 ≤ 9223372036854775807 then (some (((((((((((t171 ++ (⟨#[45]⟩ : ByteArray)) ++ t172) ++ (⟨#[45]⟩ : ByteArray)) ++ t173) ++ (⟨#[84]⟩ : ByteArray)) ++ t174) ++ (⟨#[58]⟩ : ByteArray)) ++ t175) ++ (⟨#[58]⟩ : ByteArray)) ++ t176) ++ (⟨#[90]⟩ : ByteArray))) else (none)) else (if ((((((((((t171 ++ (⟨#[45]⟩ : ByteArray)) ++ t172) ++ (⟨#[45]⟩ : ByteArray)) ++ t173) ++ (⟨#[84]⟩ : ByteArray)) ++ t174) ++ (⟨#[58]⟩ : ByteArray)) ++ t175) ++ (⟨#[58]⟩ : ByteArray)) ++ t176).size + 1 ≤ 9223372036854775807 then ((lanyardref10_two.f k (Int.tmod (wrap64 (a0 - t170)) 1000) 3).bind fun t177 => (if (((((((((((t171 ++ (⟨#[45]⟩ : ByteArray)) ++ t172) ++ (⟨#[45]⟩ : ByteArray)) ++ t173) ++ (⟨#[84]⟩ : ByteArray)) ++ t174) ++ (⟨#[58]⟩ : ByteArray)) ++ t175) ++ (⟨#[58]⟩ : ByteArray)) ++ t176) ++ (⟨#[46]⟩ : ByteArray)).size + t177.size ≤ 9223372036854775807 then (if ((((((((((((t171 ++ (⟨#[45]⟩ : ByteArray)) ++ t172) ++ (⟨#[45]⟩ : ByteArray)) ++ t173) ++ (⟨#[84]⟩ : ByteArray)) ++ t174) ++ (⟨#[58]⟩ : ByteArray)) ++ t175) ++ (⟨#[58]⟩ : ByteArray)) ++ t176) ++ (⟨#[46]⟩ : ByteArray)) ++ t177).size + 1 ≤ 9223372036854775807 then (some (((((((((((((t171 ++ (⟨#[45]⟩ : ByteArray)) ++ t172) ++ (⟨#[45]⟩ : ByteArray)) ++ t173) ++ (⟨#[84]⟩ : ByteArray)) ++ t174) ++ (⟨#[58]⟩ : ByteArray)) ++ t175) ++ (⟨#[58]⟩ : ByteArray)) ++ t176) ++ (⟨#[46]⟩ : ByteArray)) ++ t177) ++ (⟨#[90]⟩ : ByteArray))) else (none)) else (none))) else (none))) else (none))) else (none)) else (none)) = some r := H
        have A15 := Aside0.mk A150
        clear A150
        by_cases c16 : (((((((t171 ++ (⟨#[45]⟩ : ByteArray)) ++ t172) ++ (⟨#[45]⟩ : ByteArray)) ++ t173) ++ (⟨#[84]⟩ : ByteArray)) ++ t174) ++ (⟨#[58]⟩ : ByteArray)).size + t175.size ≤ 9223372036854775807
        ·rw [if_pos c16] at H
         have c16b0 := eq_true c16
         have c16b1 : decide ((((((((t171 ++ (⟨#[45]⟩ : ByteArray)) ++ t172) ++ (⟨#[45]⟩ : ByteArray)) ++ t173) ++ (⟨#[84]⟩ : ByteArray)) ++ t174) ++ (⟨#[58]⟩ : ByteArray)).size + t175.size ≤ 9223372036854775807) = true := decide_eq_true c16
         try have c16b2 : (9223372036854775807 < (((((((t171 ++ (⟨#[45]⟩ : ByteArray)) ++ t172) ++ (⟨#[45]⟩ : ByteArray)) ++ t173) ++ (⟨#[84]⟩ : ByteArray)) ++ t174) ++ (⟨#[58]⟩ : ByteArray)).size + t175.size) = False := eq_false (Nat.not_lt.2 c16)
         try have c16b2z : (9223372036854775807 < t171.size + 1 + t172.size + 1 + t173.size + 1 + t174.size + 1 + t175.size) = False := by have h_ := c16b2; simp only [ByteArray.size_append] at h_; exact h_
         by_cases c17 : ((((((((t171 ++ (⟨#[45]⟩ : ByteArray)) ++ t172) ++ (⟨#[45]⟩ : ByteArray)) ++ t173) ++ (⟨#[84]⟩ : ByteArray)) ++ t174) ++ (⟨#[58]⟩ : ByteArray)) ++ t175).size + 1 ≤ 9223372036854775807
         ·rw [if_pos c17] at H
          have c17b0 := eq_true c17
          have c17b1 : decide (((((((((t171 ++ (⟨#[45]⟩ : ByteArray)) ++ t172) ++ (⟨#[45]⟩ : ByteArray)) ++ t173) ++ (⟨#[84]⟩ : ByteArray)) ++ t174) ++ (⟨#[58]⟩ : ByteArray)) ++ t175).size + 1 ≤ 9223372036854775807) = true := decide_eq_true c17
          try have c17b2 : (9223372036854775807 < ((((((((t171 ++ (⟨#[45]⟩ : ByteArray)) ++ t172) ++ (⟨#[45]⟩ : ByteArray)) ++ t173) ++ (⟨#[84]⟩ : ByteArray)) ++ t174) ++ (⟨#[58]⟩ : ByteArray)) ++ t175).size + 1) = False := eq_false (Nat.not_lt.2 c17)
          try have c17b2z : (9223372036854775807 < t171.size + 1 + t172.size + 1 + t173.size + 1 + t174.size + 1 + t175.size + 1) = False := by have h_ := c17b2; simp only [ByteArray.size_append] at h_; exact h_
          replace H := Option.bind_eq_some_iff.mp H
          obtain ⟨t176, A180, H⟩ := H
          replace H : (if (((((((((t171 ++ (⟨#[45]⟩ : ByteArray)) ++ t172) ++ (⟨#[45]⟩ : ByteArray)) ++ t173) ++ (⟨#[84]⟩ : ByteArray)) ++ t174) ++ (⟨#[58]⟩ : ByteArray)) ++ t175) ++ (⟨#[58]⟩ : ByteArray)).size + t176.size ≤ 9223372036854775807 then (if (Int.tmod (wrap64 (a0 - t170)) 1000) = 0 then (if ((((((((((t171 ++ (⟨#[45]⟩ : ByteArray)) ++ t172) ++ (⟨#[45]⟩ : ByteArray)) ++ t173) ++ (⟨#[84]⟩ : ByteArray)) ++ t174) ++ (⟨#[58]⟩ : ByteArray)) ++ t175) ++ (⟨#[58]⟩ : ByteArray)) ++ t176).size + 1 ≤ 9223372036854775807 then (some (((((((((((t171 ++ (⟨#[45]⟩ : ByteArray)) ++ t172) ++ (⟨#[45]⟩ : ByteArray)) ++ t173) ++ (⟨#[84]⟩ : ByteArray)) ++ t174) ++ (⟨#[58]⟩ : ByteArray)) ++ t175) ++ (⟨#[58]⟩ : ByteArray)) ++ t176) ++ (⟨#[90]⟩ : ByteArray))) else (none)) else (if ((((((((((t171 ++ (⟨#[45]⟩ : ByteArray)) ++ t172) ++ (⟨#[45]⟩ : ByteArray)) ++ t173) ++ (⟨#[84]⟩ : ByteArray)) ++ t174) ++ (⟨#[58]⟩ : ByteArray)) ++ t175) ++ (⟨#[58]⟩ : ByteArray)) ++ t176).size + 1 ≤ 9223372036854775807 then ((lanyardref10_two.f k (Int.tmod (wrap64 (a0 - t170)) 1000) 3).bind fun t177 => (if (((((((((((t171 ++ (⟨#[45]⟩ : ByteArray)) ++ t172) ++ (⟨#[45]⟩ : ByteArray)) ++ t173) ++ (⟨#[84]⟩ : ByteArray)) ++ t174) ++ (⟨#[58]⟩ : ByteArray)) ++ t175) ++ (⟨#[58]⟩ : ByteArray)) ++ t176) ++ (⟨#[46]⟩ : ByteArray)).size + t177.size ≤ 9223372036854775807 then (if ((((((((((((t171 ++ (⟨#[45]⟩ : ByteArray)) ++ t172) ++ (⟨#[45]⟩ : ByteArray)) ++ t173) ++ (⟨#[84]⟩ : ByteArray)) ++ t174) ++ (⟨#[58]⟩ : ByteArray)) ++ t175) ++ (⟨#[58]⟩ : ByteArray)) ++ t176) ++ (⟨#[46]⟩ : ByteArray)) ++ t177).size + 1 ≤ 9223372036854775807 then (some (((((((((((((t171 ++ (⟨#[45]⟩ : ByteArray)) ++ t172) ++ (⟨#[45]⟩ : ByteArray)) ++ t173) ++ (⟨#[84]⟩ : ByteArray)) ++ t174) ++ (⟨#[58]⟩ : ByteArray)) ++ t175) ++ (⟨#[58]⟩ : ByteArray)) ++ t176) ++ (⟨#[46]⟩ : ByteArray)) ++ t177) ++ (⟨#[90]⟩ : ByteArray))) else (none)) else (none))) else (none))) else (none)) = some r := H
          have A18 := Aside0.mk A180
          clear A180
          by_cases c19 : (((((((((t171 ++ (⟨#[45]⟩ : ByteArray)) ++ t172) ++ (⟨#[45]⟩ : ByteArray)) ++ t173) ++ (⟨#[84]⟩ : ByteArray)) ++ t174) ++ (⟨#[58]⟩ : ByteArray)) ++ t175) ++ (⟨#[58]⟩ : ByteArray)).size + t176.size ≤ 9223372036854775807
          ·rw [if_pos c19] at H
           have c19b0 := eq_true c19
           have c19b1 : decide ((((((((((t171 ++ (⟨#[45]⟩ : ByteArray)) ++ t172) ++ (⟨#[45]⟩ : ByteArray)) ++ t173) ++ (⟨#[84]⟩ : ByteArray)) ++ t174) ++ (⟨#[58]⟩ : ByteArray)) ++ t175) ++ (⟨#[58]⟩ : ByteArray)).size + t176.size ≤ 9223372036854775807) = true := decide_eq_true c19
           try have c19b2 : (9223372036854775807 < (((((((((t171 ++ (⟨#[45]⟩ : ByteArray)) ++ t172) ++ (⟨#[45]⟩ : ByteArray)) ++ t173) ++ (⟨#[84]⟩ : ByteArray)) ++ t174) ++ (⟨#[58]⟩ : ByteArray)) ++ t175) ++ (⟨#[58]⟩ : ByteArray)).size + t176.size) = False := eq_false (Nat.not_lt.2 c19)
           try have c19b2z : (9223372036854775807 < t171.size + 1 + t172.size + 1 + t173.size + 1 + t174.size + 1 + t175.size + 1 + t176.size) = False := by have h_ := c19b2; simp only [ByteArray.size_append] at h_; exact h_
           by_cases c20 : (Int.tmod (wrap64 (a0 - t170)) 1000) = 0
           ·rw [if_pos c20] at H
            have c20b0 : ((Int.tmod (wrap64 (a0 - t170)) 1000) == 0) = true := beq_iff_eq.mpr c20
            have c20b1 : ((Int.tmod (wrap64 (a0 - t170)) 1000) != 0) = false := bne_eq_false_iff_eq.mpr c20
            clear c20
            by_cases c21 : ((((((((((t171 ++ (⟨#[45]⟩ : ByteArray)) ++ t172) ++ (⟨#[45]⟩ : ByteArray)) ++ t173) ++ (⟨#[84]⟩ : ByteArray)) ++ t174) ++ (⟨#[58]⟩ : ByteArray)) ++ t175) ++ (⟨#[58]⟩ : ByteArray)) ++ t176).size + 1 ≤ 9223372036854775807
            ·rw [if_pos c21] at H
             have c21b0 := eq_true c21
             have c21b1 : decide (((((((((((t171 ++ (⟨#[45]⟩ : ByteArray)) ++ t172) ++ (⟨#[45]⟩ : ByteArray)) ++ t173) ++ (⟨#[84]⟩ : ByteArray)) ++ t174) ++ (⟨#[58]⟩ : ByteArray)) ++ t175) ++ (⟨#[58]⟩ : ByteArray)) ++ t176).size + 1 ≤ 9223372036854775807) = true := decide_eq_true c21
             try have c21b2 : (9223372036854775807 < ((((((((((t171 ++ (⟨#[45]⟩ : ByteArray)) ++ t172) ++ (⟨#[45]⟩ : ByteArray)) ++ t173) ++ (⟨#[84]⟩ : ByteArray)) ++ t174) ++ (⟨#[58]⟩ : ByteArray)) ++ t175) ++ (⟨#[58]⟩ : ByteArray)) ++ t176).size + 1) = False := eq_false (Nat.not_lt.2 c21)
             try have c21b2z : (9223372036854775807 < t171.size + 1 + t172.size + 1 + t173.size + 1 + t174.size + 1 + t175.size + 1 + t176.size + 1) = False := by have h_ := c21b2; simp only [ByteArray.size_append] at h_; exact h_
             obtain rfl := Option.some.inj H
             go_enter Tryd.func14, Tryd.ntmps14
             go_wp2_with (first | ((with_reducible refine gate_callee (f := 12) rfl ?_); refine goesA (some 10) Tryd.func12 #[.int .i64 a0] rfl ?_; (with_reducible refine (lanyardref10_Date.calls k a0 t167 t168 t169 _ A2.out).mono ?_); rintro e w22 ⟨rfl, hb⟩; refine ⟨_, rfl, ?_⟩; have n0_ := Bs HB hb; clear HB; revert n0_; intro HB; (try clear hb); (try clear hb2); (try clear hk); (try clear hi)) | ((with_reducible refine gate_callee (f := 19) rfl ?_); refine goesA (some 15) Tryd.func19 #[] rfl ?_; (with_reducible refine (lanyardref10_First.calls  t170 _ A3.out).mono ?_); rintro e w' ⟨rfl, ⟨nd, rfl⟩⟩; refine ⟨_, rfl, ?_⟩) | ((with_reducible refine gate_callee (f := 30) rfl ?_); refine goesA (some 19) Tryd.func30 #[.int .i64 t167, .int .i64 4] rfl ?_; (with_reducible refine (lanyardref10_two.calls k t167 4 t171 _ A4.out).mono ?_); rintro e w23 ⟨rfl, hb⟩; refine ⟨_, rfl, ?_⟩; have n0_ := Bs HB hb; clear HB; revert n0_; intro HB; (try clear hb); (try clear hb2); (try clear hk); (try clear hi)) | ((with_reducible refine gate_callee (f := 30) rfl ?_); refine goesA (some 22) Tryd.func30 #[.int .i64 t168, .int .i64 2] rfl ?_; (with_reducible refine (lanyardref10_two.calls k t168 2 t172 _ A6.out).mono ?_); rintro e w24 ⟨rfl, hb⟩; refine ⟨_, rfl, ?_⟩; have n0_ := Bs HB hb; clear HB; revert n0_; intro HB; (try clear hb); (try clear hb2); (try clear hk); (try clear hi)) | ((with_reducible refine gate_callee (f := 30) rfl ?_); refine goesA (some 26) Tryd.func30 #[.int .i64 t169, .int .i64 2] rfl ?_; (with_reducible refine (lanyardref10_two.calls k t169 2 t173 _ A9.out).mono ?_); rintro e w25 ⟨rfl, hb⟩; refine ⟨_, rfl, ?_⟩; have n0_ := Bs HB hb; clear HB; revert n0_; intro HB; (try clear hb); (try clear hb2); (try clear hk); (try clear hi)) | ((with_reducible refine gate_callee (f := 30) rfl ?_); refine goesA (some 31) Tryd.func30 #[.int .i64 (wrap64 (Int.tdiv (Int.tmod (wrap64 (a0 - t170)) 86400000) 3600000)), .int .i64 2] rfl ?_; (with_reducible refine (lanyardref10_two.calls k (wrap64 (Int.tdiv (Int.tmod (wrap64 (a0 - t170)) 86400000) 3600000)) 2 t174 _ A12.out).mono ?_); rintro e w26 ⟨rfl, hb⟩; refine ⟨_, rfl, ?_⟩; have n0_ := Bs HB hb; clear HB; revert n0_; intro HB; (try clear hb); (try clear hb2); (try clear hk); (try clear hi)) | ((with_reducible refine gate_callee (f := 30) rfl ?_); refine goesA (some 37) Tryd.func30 #[.int .i64 (Int.tmod (wrap64 (Int.tdiv (Int.tmod (wrap64 (a0 - t170)) 86400000) 60000)) 60), .int .i64 2] rfl ?_; (with_reducible refine (lanyardref10_two.calls k (Int.tmod (wrap64 (Int.tdiv (Int.tmod (wrap64 (a0 - t170)) 86400000) 60000)) 60) 2 t175 _ A15.out).mono ?_); rintro e w27 ⟨rfl, hb⟩; refine ⟨_, rfl, ?_⟩; have n0_ := Bs HB hb; clear HB; revert n0_; intro HB; (try clear hb); (try clear hb2); (try clear hk); (try clear hi)) | ((with_reducible refine gate_callee (f := 30) rfl ?_); refine goesA (some 43) Tryd.func30 #[.int .i64 (Int.tmod (wrap64 (Int.tdiv (Int.tmod (wrap64 (a0 - t170)) 86400000) 1000)) 60), .int .i64 2] rfl ?_; (with_reducible refine (lanyardref10_two.calls k (Int.tmod (wrap64 (Int.tdiv (Int.tmod (wrap64 (a0 - t170)) 86400000) 1000)) 60) 2 t176 _ A18.out).mono ?_); rintro e w28 ⟨rfl, hb⟩; refine ⟨_, rfl, ?_⟩; have n0_ := Bs HB hb; clear HB; revert n0_; intro HB; (try clear hb); (try clear hb2); (try clear hk); (try clear hi)))
             go_ret
             exact ⟨rfl_, Bu HB⟩
            ·rw [if_neg c21] at H
             exact absurd H (by simp)
           ·rw [if_neg c20] at H
            have c20b0 : ((Int.tmod (wrap64 (a0 - t170)) 1000) == 0) = false := beq_eq_false_iff_ne.mpr c20
            have c20b1 : ((Int.tmod (wrap64 (a0 - t170)) 1000) != 0) = true := bne_iff_ne.mpr c20
            by_cases c29 : ((((((((((t171 ++ (⟨#[45]⟩ : ByteArray)) ++ t172) ++ (⟨#[45]⟩ : ByteArray)) ++ t173) ++ (⟨#[84]⟩ : ByteArray)) ++ t174) ++ (⟨#[58]⟩ : ByteArray)) ++ t175) ++ (⟨#[58]⟩ : ByteArray)) ++ t176).size + 1 ≤ 9223372036854775807
            ·rw [if_pos c29] at H
             have c29b0 := eq_true c29
             have c29b1 : decide (((((((((((t171 ++ (⟨#[45]⟩ : ByteArray)) ++ t172) ++ (⟨#[45]⟩ : ByteArray)) ++ t173) ++ (⟨#[84]⟩ : ByteArray)) ++ t174) ++ (⟨#[58]⟩ : ByteArray)) ++ t175) ++ (⟨#[58]⟩ : ByteArray)) ++ t176).size + 1 ≤ 9223372036854775807) = true := decide_eq_true c29
             try have c29b2 : (9223372036854775807 < ((((((((((t171 ++ (⟨#[45]⟩ : ByteArray)) ++ t172) ++ (⟨#[45]⟩ : ByteArray)) ++ t173) ++ (⟨#[84]⟩ : ByteArray)) ++ t174) ++ (⟨#[58]⟩ : ByteArray)) ++ t175) ++ (⟨#[58]⟩ : ByteArray)) ++ t176).size + 1) = False := eq_false (Nat.not_lt.2 c29)
             try have c29b2z : (9223372036854775807 < t171.size + 1 + t172.size + 1 + t173.size + 1 + t174.size + 1 + t175.size + 1 + t176.size + 1) = False := by have h_ := c29b2; simp only [ByteArray.size_append] at h_; exact h_
             replace H := Option.bind_eq_some_iff.mp H
             obtain ⟨t177, A300, H⟩ := H
             replace H : (if (((((((((((t171 ++ (⟨#[45]⟩ : ByteArray)) ++ t172) ++ (⟨#[45]⟩ : ByteArray)) ++ t173) ++ (⟨#[84]⟩ : ByteArray)) ++ t174) ++ (⟨#[58]⟩ : ByteArray)) ++ t175) ++ (⟨#[58]⟩ : ByteArray)) ++ t176) ++ (⟨#[46]⟩ : ByteArray)).size + t177.size ≤ 9223372036854775807 then (if ((((((((((((t171 ++ (⟨#[45]⟩ : ByteArray)) ++ t172) ++ (⟨#[45]⟩ : ByteArray)) ++ t173) ++ (⟨#[84]⟩ : ByteArray)) ++ t174) ++ (⟨#[58]⟩ : ByteArray)) ++ t175) ++ (⟨#[58]⟩ : ByteArray)) ++ t176) ++ (⟨#[46]⟩ : ByteArray)) ++ t177).size + 1 ≤ 9223372036854775807 then (some (((((((((((((t171 ++ (⟨#[45]⟩ : ByteArray)) ++ t172) ++ (⟨#[45]⟩ : ByteArray)) ++ t173) ++ (⟨#[84]⟩ : ByteArray)) ++ t174) ++ (⟨#[58]⟩ : ByteArray)) ++ t175) ++ (⟨#[58]⟩ : ByteArray)) ++ t176) ++ (⟨#[46]⟩ : ByteArray)) ++ t177) ++ (⟨#[90]⟩ : ByteArray))) else (none)) else (none)) = some r := H
             have A30 := Aside0.mk A300
             clear A300
             by_cases c31 : (((((((((((t171 ++ (⟨#[45]⟩ : ByteArray)) ++ t172) ++ (⟨#[45]⟩ : ByteArray)) ++ t173) ++ (⟨#[84]⟩ : ByteArray)) ++ t174) ++ (⟨#[58]⟩ : ByteArray)) ++ t175) ++ (⟨#[58]⟩ : ByteArray)) ++ t176) ++ (⟨#[46]⟩ : ByteArray)).size + t177.size ≤ 9223372036854775807
             ·rw [if_pos c31] at H
              have c31b0 := eq_true c31
              have c31b1 : decide ((((((((((((t171 ++ (⟨#[45]⟩ : ByteArray)) ++ t172) ++ (⟨#[45]⟩ : ByteArray)) ++ t173) ++ (⟨#[84]⟩ : ByteArray)) ++ t174) ++ (⟨#[58]⟩ : ByteArray)) ++ t175) ++ (⟨#[58]⟩ : ByteArray)) ++ t176) ++ (⟨#[46]⟩ : ByteArray)).size + t177.size ≤ 9223372036854775807) = true := decide_eq_true c31
              try have c31b2 : (9223372036854775807 < (((((((((((t171 ++ (⟨#[45]⟩ : ByteArray)) ++ t172) ++ (⟨#[45]⟩ : ByteArray)) ++ t173) ++ (⟨#[84]⟩ : ByteArray)) ++ t174) ++ (⟨#[58]⟩ : ByteArray)) ++ t175) ++ (⟨#[58]⟩ : ByteArray)) ++ t176) ++ (⟨#[46]⟩ : ByteArray)).size + t177.size) = False := eq_false (Nat.not_lt.2 c31)
              try have c31b2z : (9223372036854775807 < t171.size + 1 + t172.size + 1 + t173.size + 1 + t174.size + 1 + t175.size + 1 + t176.size + 1 + t177.size) = False := by have h_ := c31b2; simp only [ByteArray.size_append] at h_; exact h_
              by_cases c32 : ((((((((((((t171 ++ (⟨#[45]⟩ : ByteArray)) ++ t172) ++ (⟨#[45]⟩ : ByteArray)) ++ t173) ++ (⟨#[84]⟩ : ByteArray)) ++ t174) ++ (⟨#[58]⟩ : ByteArray)) ++ t175) ++ (⟨#[58]⟩ : ByteArray)) ++ t176) ++ (⟨#[46]⟩ : ByteArray)) ++ t177).size + 1 ≤ 9223372036854775807
              ·rw [if_pos c32] at H
               have c32b0 := eq_true c32
               have c32b1 : decide (((((((((((((t171 ++ (⟨#[45]⟩ : ByteArray)) ++ t172) ++ (⟨#[45]⟩ : ByteArray)) ++ t173) ++ (⟨#[84]⟩ : ByteArray)) ++ t174) ++ (⟨#[58]⟩ : ByteArray)) ++ t175) ++ (⟨#[58]⟩ : ByteArray)) ++ t176) ++ (⟨#[46]⟩ : ByteArray)) ++ t177).size + 1 ≤ 9223372036854775807) = true := decide_eq_true c32
               try have c32b2 : (9223372036854775807 < ((((((((((((t171 ++ (⟨#[45]⟩ : ByteArray)) ++ t172) ++ (⟨#[45]⟩ : ByteArray)) ++ t173) ++ (⟨#[84]⟩ : ByteArray)) ++ t174) ++ (⟨#[58]⟩ : ByteArray)) ++ t175) ++ (⟨#[58]⟩ : ByteArray)) ++ t176) ++ (⟨#[46]⟩ : ByteArray)) ++ t177).size + 1) = False := eq_false (Nat.not_lt.2 c32)
               try have c32b2z : (9223372036854775807 < t171.size + 1 + t172.size + 1 + t173.size + 1 + t174.size + 1 + t175.size + 1 + t176.size + 1 + t177.size + 1) = False := by have h_ := c32b2; simp only [ByteArray.size_append] at h_; exact h_
               obtain rfl := Option.some.inj H
               go_enter Tryd.func14, Tryd.ntmps14
               go_wp2_with (first | ((with_reducible refine gate_callee (f := 12) rfl ?_); refine goesA (some 10) Tryd.func12 #[.int .i64 a0] rfl ?_; (with_reducible refine (lanyardref10_Date.calls k a0 t167 t168 t169 _ A2.out).mono ?_); rintro e w33 ⟨rfl, hb⟩; refine ⟨_, rfl, ?_⟩; have n0_ := Bs HB hb; clear HB; revert n0_; intro HB; (try clear hb); (try clear hb2); (try clear hk); (try clear hi)) | ((with_reducible refine gate_callee (f := 19) rfl ?_); refine goesA (some 15) Tryd.func19 #[] rfl ?_; (with_reducible refine (lanyardref10_First.calls  t170 _ A3.out).mono ?_); rintro e w' ⟨rfl, ⟨nd, rfl⟩⟩; refine ⟨_, rfl, ?_⟩) | ((with_reducible refine gate_callee (f := 30) rfl ?_); refine goesA (some 19) Tryd.func30 #[.int .i64 t167, .int .i64 4] rfl ?_; (with_reducible refine (lanyardref10_two.calls k t167 4 t171 _ A4.out).mono ?_); rintro e w34 ⟨rfl, hb⟩; refine ⟨_, rfl, ?_⟩; have n0_ := Bs HB hb; clear HB; revert n0_; intro HB; (try clear hb); (try clear hb2); (try clear hk); (try clear hi)) | ((with_reducible refine gate_callee (f := 30) rfl ?_); refine goesA (some 22) Tryd.func30 #[.int .i64 t168, .int .i64 2] rfl ?_; (with_reducible refine (lanyardref10_two.calls k t168 2 t172 _ A6.out).mono ?_); rintro e w35 ⟨rfl, hb⟩; refine ⟨_, rfl, ?_⟩; have n0_ := Bs HB hb; clear HB; revert n0_; intro HB; (try clear hb); (try clear hb2); (try clear hk); (try clear hi)) | ((with_reducible refine gate_callee (f := 30) rfl ?_); refine goesA (some 26) Tryd.func30 #[.int .i64 t169, .int .i64 2] rfl ?_; (with_reducible refine (lanyardref10_two.calls k t169 2 t173 _ A9.out).mono ?_); rintro e w36 ⟨rfl, hb⟩; refine ⟨_, rfl, ?_⟩; have n0_ := Bs HB hb; clear HB; revert n0_; intro HB; (try clear hb); (try clear hb2); (try clear hk); (try clear hi)) | ((with_reducible refine gate_callee (f := 30) rfl ?_); refine goesA (some 31) Tryd.func30 #[.int .i64 (wrap64 (Int.tdiv (Int.tmod (wrap64 (a0 - t170)) 86400000) 3600000)), .int .i64 2] rfl ?_; (with_reducible refine (lanyardref10_two.calls k (wrap64 (Int.tdiv (Int.tmod (wrap64 (a0 - t170)) 86400000) 3600000)) 2 t174 _ A12.out).mono ?_); rintro e w37 ⟨rfl, hb⟩; refine ⟨_, rfl, ?_⟩; have n0_ := Bs HB hb; clear HB; revert n0_; intro HB; (try clear hb); (try clear hb2); (try clear hk); (try clear hi)) | ((with_reducible refine gate_callee (f := 30) rfl ?_); refine goesA (some 37) Tryd.func30 #[.int .i64 (Int.tmod (wrap64 (Int.tdiv (Int.tmod (wrap64 (a0 - t170)) 86400000) 60000)) 60), .int .i64 2] rfl ?_; (with_reducible refine (lanyardref10_two.calls k (Int.tmod (wrap64 (Int.tdiv (Int.tmod (wrap64 (a0 - t170)) 86400000) 60000)) 60) 2 t175 _ A15.out).mono ?_); rintro e w38 ⟨rfl, hb⟩; refine ⟨_, rfl, ?_⟩; have n0_ := Bs HB hb; clear HB; revert n0_; intro HB; (try clear hb); (try clear hb2); (try clear hk); (try clear hi)) | ((with_reducible refine gate_callee (f := 30) rfl ?_); refine goesA (some 43) Tryd.func30 #[.int .i64 (Int.tmod (wrap64 (Int.tdiv (Int.tmod (wrap64 (a0 - t170)) 86400000) 1000)) 60), .int .i64 2] rfl ?_; (with_reducible refine (lanyardref10_two.calls k (Int.tmod (wrap64 (Int.tdiv (Int.tmod (wrap64 (a0 - t170)) 86400000) 1000)) 60) 2 t176 _ A18.out).mono ?_); rintro e w39 ⟨rfl, hb⟩; refine ⟨_, rfl, ?_⟩; have n0_ := Bs HB hb; clear HB; revert n0_; intro HB; (try clear hb); (try clear hb2); (try clear hk); (try clear hi)) | ((with_reducible refine gate_callee (f := 30) rfl ?_); refine goesA (some 52) Tryd.func30 #[.int .i64 (Int.tmod (wrap64 (a0 - t170)) 1000), .int .i64 3] rfl ?_; (with_reducible refine (lanyardref10_two.calls k (Int.tmod (wrap64 (a0 - t170)) 1000) 3 t177 _ A30.out).mono ?_); rintro e w40 ⟨rfl, hb⟩; refine ⟨_, rfl, ?_⟩; have n0_ := Bs HB hb; clear HB; revert n0_; intro HB; (try clear hb); (try clear hb2); (try clear hk); (try clear hi)))
               go_ret
               exact ⟨rfl_, Bu HB⟩
              ·rw [if_neg c32] at H
               exact absurd H (by simp)
             ·rw [if_neg c31] at H
              exact absurd H (by simp)
            ·rw [if_neg c29] at H
             exact absurd H (by simp)
          ·rw [if_neg c19] at H
           exact absurd H (by simp)
         ·rw [if_neg c17] at H
          exact absurd H (by simp)
        ·rw [if_neg c16] at H
         exact absurd H (by simp)
       ·rw [if_neg c14] at H
        exact absurd H (by simp)
      ·rw [if_neg c13] at H
       exact absurd H (by simp)
     ·rw [if_neg c11] at H
      exact absurd H (by simp)
    ·rw [if_neg c10] at H
     exact absurd H (by simp)
   ·rw [if_neg c8] at H
    exact absurd H (by simp)
  ·rw [if_neg c7] at H
   exact absurd H (by simp)
 ·rw [if_neg c5] at H
  exact absurd H (by simp)

/-! ### lanyardref10_Right: function 16 -/
def lanyardref10_Right.f (a0 : Int) (a1 : Int) (a2 : Int) : Option (Bool) := if a0 ≥ 1 then (if a0 ≤ 9999 then (if a1 ≥ 1 then (if a1 ≤ 12 then (if a2 ≥ 1 then ((lanyardref10_Length.f a0 a1).bind fun t178 => (some (decide (a2 ≤ t178)))) else (some false)) else (some false)) else (some false)) else (some false)) else (some false)
set_option maxHeartbeats 8000000 in
set_option maxRecDepth 100000 in
theorem lanyardref10_Right.calls (a0 : Int) (a1 : Int) (a2 : Int) (r : Bool) (w : World) (h : lanyardref10_Right.f a0 a1 a2 = some r) :
  Calls Tryd.prog 16 #[.int .i64 a0, .int .i64 a1, .int .i64 a2] w fun e w' => e = .returned (.bool r) ∧ Below w.heap.size w w' := by
 have HB := Aside0.mk (Below.refl w.heap.size w)
 have H : (if a0 ≥ 1 then (if a0 ≤ 9999 then (if a1 ≥ 1 then (if a1 ≤ 12 then (if a2 ≥ 1 then ((lanyardref10_Length.f a0 a1).bind fun t178 => (some (decide (a2 ≤ t178)))) else (some false)) else (some false)) else (some false)) else (some false)) else (some false)) = some r := h
 clear h
 refine (Classical.em (a0 ≥ 1)).elim (fun c4 => ?a27_) (fun c4 => ?b27_)
 case' a27_ =>
  rw [if_pos c4] at H
  have c4b0 : decide (1 ≤ a0) = true := decide_eq_true c4
  clear c4
  refine (Classical.em (a0 ≤ 9999)).elim (fun c5 => ?a28_) (fun c5 => ?b28_)
  case' a28_ =>
   rw [if_pos c5] at H
   have c5b0 : decide (a0 ≤ 9999) = true := decide_eq_true c5
   clear c5
   refine (Classical.em (a1 ≥ 1)).elim (fun c6 => ?a29_) (fun c6 => ?b29_)
   case' a29_ =>
    rw [if_pos c6] at H
    have c6b0 : decide (1 ≤ a1) = true := decide_eq_true c6
    clear c6
    refine (Classical.em (a1 ≤ 12)).elim (fun c7 => ?a30_) (fun c7 => ?b30_)
    case' a30_ =>
     rw [if_pos c7] at H
     have c7b0 : decide (a1 ≤ 12) = true := decide_eq_true c7
     clear c7
     refine (Classical.em (a2 ≥ 1)).elim (fun c8 => ?a31_) (fun c8 => ?b31_)
     case' a31_ =>
      rw [if_pos c8] at H
      have c8b0 : decide (1 ≤ a2) = true := decide_eq_true c8
      clear c8
      replace H := Option.bind_eq_some_iff.mp H
      obtain ⟨t178, A90, H⟩ := H
      replace H : (some (decide (a2 ≤ t178))) = some r := H
      have A9 := Aside0.mk A90
      clear A90
      obtain rfl := Option.some.inj H
      go_enter Tryd.func16, Tryd.ntmps16
      go_wp2_with (first | (go_at_call 31; (with_reducible refine (lanyardref10_Length.calls a0 a1 t178 _ A9.out).mono ?_); rintro e w10 ⟨rfl, hb⟩; have n0_ := Bs HB hb; clear HB; revert n0_; intro HB; (try clear hb); (try clear hb2); (try clear hk); (try clear hi)))
      go_ret
      exact ⟨rfl_, Bu HB⟩
     case' b31_ =>
      rw [if_neg c8] at H
      have c8b0 : decide (1 ≤ a2) = false := decide_eq_false c8
      clear c8
      obtain rfl := Option.some.inj H
    case' b30_ =>
     rw [if_neg c7] at H
     have c7b0 : decide (a1 ≤ 12) = false := decide_eq_false c7
     clear c7
     obtain rfl := Option.some.inj H
   case' b29_ =>
    rw [if_neg c6] at H
    have c6b0 : decide (1 ≤ a1) = false := decide_eq_false c6
    clear c6
    obtain rfl := Option.some.inj H
  case' b28_ =>
   rw [if_neg c5] at H
   have c5b0 : decide (a0 ≤ 9999) = false := decide_eq_false c5
   clear c5
   obtain rfl := Option.some.inj H
 case' b27_ =>
  rw [if_neg c4] at H
  have c4b0 : decide (1 ≤ a0) = false := decide_eq_false c4
  clear c4
  obtain rfl := Option.some.inj H
  go_enter Tryd.func16, Tryd.ntmps16
  go_wp2
  go_ret
  exact ⟨rfl_, Bu HB⟩

 case a30_ | b30_ | b29_ | b28_ =>
  go_enter Tryd.func16, Tryd.ntmps16
  go_wp2
  go_ret
  exact ⟨rfl_, Bu HB⟩
/-! ### moment_Add: function 18 -/
def moment_Add.f (a0 : Int) (a1 : Int) : Option (Int × Int) := (moment_none.f a0).bind fun t179 => (if t179 = true then (some (0, 21)) else (if a1 < (wrap64 ((-62135596800000) - a0)) then (some (0, 21)) else (if a1 ≥ (wrap64 (253402300800000 - a0)) then (some (0, 21)) else (some (wrap64 (a0 + a1), 0)))))
set_option maxHeartbeats 8000000 in
set_option maxRecDepth 100000 in
theorem moment_Add.calls (a0 : Int) (a1 : Int) (r1 : Int) (r2 : Int) (w : World) (h : moment_Add.f a0 a1 = some (r1, r2)) :
  Calls Tryd.prog 18 #[.int .i64 a0, .int .i64 a1] w fun e w' => e = .returned (.tuple #[.int .i64 r1, .int .i64 r2]) ∧ Drawn0 w w' := by
 have H : ((moment_none.f a0).bind fun t179 => (if t179 = true then (some (0, 21)) else (if a1 < (wrap64 ((-62135596800000) - a0)) then (some (0, 21)) else (if a1 ≥ (wrap64 (253402300800000 - a0)) then (some (0, 21)) else (some (wrap64 (a0 + a1), 0)))))) = some (r1, r2) := h
 clear h
 replace H := Option.bind_eq_some_iff.mp H
 obtain ⟨t179, A30, H⟩ := H
 replace H : (if t179 = true then (some (0, 21)) else (if a1 < (wrap64 ((-62135596800000) - a0)) then (some (0, 21)) else (if a1 ≥ (wrap64 (253402300800000 - a0)) then (some (0, 21)) else (some (wrap64 (a0 + a1), 0))))) = some (r1, r2) := H
 have A3 := Aside0.mk A30
 clear A30
 by_cases c4 : t179 = true
 ·subst c4
  have H1 : (some (0, 21)) = some (r1, r2) := by rw [if_pos rfl] at H; exact H
  clear H
  have H := H1
  clear H1
  simp only [Option.some.injEq, Prod.mk.injEq] at H
  obtain ⟨rfl, rfl⟩ := H
  go_enter Tryd.func18, Tryd.ntmps18
  go_wp2_with (first | ((with_reducible refine gate_callee (f := 24) rfl ?_); refine goesA (some 7) Tryd.func24 #[.int .i64 a0] rfl ?_; (with_reducible refine (moment_none.calls a0 true _ A3.out).mono ?_); rintro e w' ⟨rfl, ⟨nd, rfl⟩⟩; refine ⟨_, rfl, ?_⟩))
  go_ret2
  exact ⟨by first | rfl | (simp; done) | (simp [*]; done), by repeat (first | exact Drawn0.refl _ | apply Drawn0.step)⟩
 ·replace c4 := Bool.eq_false_iff.mpr c4
  subst c4
  have H1 : (if a1 < (wrap64 ((-62135596800000) - a0)) then (some (0, 21)) else (if a1 ≥ (wrap64 (253402300800000 - a0)) then (some (0, 21)) else (some (wrap64 (a0 + a1), 0)))) = some (r1, r2) := by rw [if_neg (show ¬ (false = true) by decide)] at H; exact H
  clear H
  have H := H1
  clear H1
  refine (Classical.em (a1 < (wrap64 ((-62135596800000) - a0)))).elim (fun c5 => ?a32_) (fun c5 => ?b32_)
  case' a32_ =>
   rw [if_pos c5] at H
   have c5b0 : decide (a1 < (wrap64 ((-62135596800000) - a0))) = true := decide_eq_true c5
   clear c5
   simp only [Option.some.injEq, Prod.mk.injEq] at H
   obtain ⟨rfl, rfl⟩ := H
  case' b32_ =>
   rw [if_neg c5] at H
   have c5b0 : decide (a1 < (wrap64 ((-62135596800000) - a0))) = false := decide_eq_false c5
   clear c5
   refine (Classical.em (a1 ≥ (wrap64 (253402300800000 - a0)))).elim (fun c6 => ?a33_) (fun c6 => ?b33_)
   case' a33_ =>
    rw [if_pos c6] at H
    have c6b0 : decide ((wrap64 (253402300800000 - a0)) ≤ a1) = true := decide_eq_true c6
    clear c6
    simp only [Option.some.injEq, Prod.mk.injEq] at H
    obtain ⟨rfl, rfl⟩ := H
   case' b33_ =>
    rw [if_neg c6] at H
    have c6b0 : decide ((wrap64 (253402300800000 - a0)) ≤ a1) = false := decide_eq_false c6
    clear c6
    simp only [Option.some.injEq, Prod.mk.injEq] at H
    obtain ⟨rfl, rfl⟩ := H
    go_enter Tryd.func18, Tryd.ntmps18
    go_wp2_with (first | ((with_reducible refine gate_callee (f := 24) rfl ?_); refine goesA (some 7) Tryd.func24 #[.int .i64 a0] rfl ?_; (with_reducible refine (moment_none.calls a0 false _ A3.out).mono ?_); rintro e w' ⟨rfl, ⟨nd, rfl⟩⟩; refine ⟨_, rfl, ?_⟩))
    go_ret2
    exact ⟨by first | rfl | (simp; done) | (simp [*]; done), by repeat (first | exact Drawn0.refl _ | apply Drawn0.step)⟩

  case a32_ | b32_ =>
   go_enter Tryd.func18, Tryd.ntmps18
   go_wp2_with (first | ((with_reducible refine gate_callee (f := 24) rfl ?_); refine goesA (some 7) Tryd.func24 #[.int .i64 a0] rfl ?_; (with_reducible refine (moment_none.calls a0 false _ A3.out).mono ?_); rintro e w' ⟨rfl, ⟨nd, rfl⟩⟩; refine ⟨_, rfl, ?_⟩))
   go_ret2
   exact ⟨by first | rfl | (simp; done) | (simp [*]; done), by repeat (first | exact Drawn0.refl _ | apply Drawn0.step)⟩
/-! ### moment_Within: function 21 -/
def moment_Within.f (a0 : Int) (a1 : Int) (a2 : Int) (a3 : Int) : Option (Bool) := (moment_none.f a0).bind fun t180 => (if t180 = true then (some false) else ((moment_none.f a1).bind fun t181 => (if t181 = true then (some false) else ((moment_none.f a2).bind fun t182 => (if t182 = true then (some false) else (if a3 < 0 then (some false) else (if a3 > 86400000 then (some false) else (if a0 ≥ (wrap64 (a1 - a3)) then (some (decide (a0 < (wrap64 (a2 + a3))))) else (some false)))))))))
set_option maxHeartbeats 8000000 in
set_option maxRecDepth 100000 in
theorem moment_Within.calls (a0 : Int) (a1 : Int) (a2 : Int) (a3 : Int) (r : Bool) (w : World) (h : moment_Within.f a0 a1 a2 a3 = some r) :
  Calls Tryd.prog 21 #[.int .i64 a0, .int .i64 a1, .int .i64 a2, .int .i64 a3] w fun e w' => e = .returned (.bool r) ∧ Drawn0 w w' := by
 have H : ((moment_none.f a0).bind fun t180 => (if t180 = true then (some false) else ((moment_none.f a1).bind fun t181 => (if t181 = true then (some false) else ((moment_none.f a2).bind fun t182 => (if t182 = true then (some false) else (if a3 < 0 then (some false) else (if a3 > 86400000 then (some false) else (if a0 ≥ (wrap64 (a1 - a3)) then (some (decide (a0 < (wrap64 (a2 + a3))))) else (some false)))))))))) = some r := h
 clear h
 replace H := Option.bind_eq_some_iff.mp H
 obtain ⟨t180, A50, H⟩ := H
 replace H : (if t180 = true then (some false) else ((moment_none.f a1).bind fun t181 => (if t181 = true then (some false) else ((moment_none.f a2).bind fun t182 => (if t182 = true then (some false) else (if a3 < 0 then (some false) else (if a3 > 86400000 then (some false) else (if a0 ≥ (wrap64 (a1 - a3)) then (some (decide (a0 < (wrap64 (a2 + a3))))) else (some false))))))))) = some r := H
 have A5 := Aside0.mk A50
 clear A50
 by_cases c6 : t180 = true
 ·subst c6
  have H1 : (some false) = some r := by rw [if_pos rfl] at H; exact H
  clear H
  have H := H1
  clear H1
  obtain rfl := Option.some.inj H
  go_enter Tryd.func21, Tryd.ntmps21
  go_wp2_with (first | ((with_reducible refine gate_callee (f := 24) rfl ?_); refine goesA (some 10) Tryd.func24 #[.int .i64 a0] rfl ?_; (with_reducible refine (moment_none.calls a0 true _ A5.out).mono ?_); rintro e w' ⟨rfl, ⟨nd, rfl⟩⟩; refine ⟨_, rfl, ?_⟩))
  go_ret
  exact ⟨by first | rfl | (simp; done) | (simp [*]; done), by repeat (first | exact Drawn0.refl _ | apply Drawn0.step)⟩
 ·replace c6 := Bool.eq_false_iff.mpr c6
  subst c6
  have H1 : ((moment_none.f a1).bind fun t181 => (if t181 = true then (some false) else ((moment_none.f a2).bind fun t182 => (if t182 = true then (some false) else (if a3 < 0 then (some false) else (if a3 > 86400000 then (some false) else (if a0 ≥ (wrap64 (a1 - a3)) then (some (decide (a0 < (wrap64 (a2 + a3))))) else (some false)))))))) = some r := by rw [if_neg (show ¬ (false = true) by decide)] at H; exact H
  clear H
  have H := H1
  clear H1
  replace H := Option.bind_eq_some_iff.mp H
  obtain ⟨t181, A70, H⟩ := H
  replace H : (if t181 = true then (some false) else ((moment_none.f a2).bind fun t182 => (if t182 = true then (some false) else (if a3 < 0 then (some false) else (if a3 > 86400000 then (some false) else (if a0 ≥ (wrap64 (a1 - a3)) then (some (decide (a0 < (wrap64 (a2 + a3))))) else (some false))))))) = some r := H
  have A7 := Aside0.mk A70
  clear A70
  by_cases c8 : t181 = true
  ·subst c8
   have H1 : (some false) = some r := by rw [if_pos rfl] at H; exact H
   clear H
   have H := H1
   clear H1
   obtain rfl := Option.some.inj H
   go_enter Tryd.func21, Tryd.ntmps21
   go_wp2_with (first | ((with_reducible refine gate_callee (f := 24) rfl ?_); refine goesA (some 10) Tryd.func24 #[.int .i64 a0] rfl ?_; (with_reducible refine (moment_none.calls a0 false _ A5.out).mono ?_); rintro e w' ⟨rfl, ⟨nd, rfl⟩⟩; refine ⟨_, rfl, ?_⟩) | (go_at_call 24; (with_reducible refine (moment_none.calls a1 true _ A7.out).mono ?_); rintro e w' ⟨rfl, ⟨nd, rfl⟩⟩))
   go_ret
   exact ⟨by first | rfl | (simp; done) | (simp [*]; done), by repeat (first | exact Drawn0.refl _ | apply Drawn0.step)⟩
  ·replace c8 := Bool.eq_false_iff.mpr c8
   subst c8
   have H1 : ((moment_none.f a2).bind fun t182 => (if t182 = true then (some false) else (if a3 < 0 then (some false) else (if a3 > 86400000 then (some false) else (if a0 ≥ (wrap64 (a1 - a3)) then (some (decide (a0 < (wrap64 (a2 + a3))))) else (some false)))))) = some r := by rw [if_neg (show ¬ (false = true) by decide)] at H; exact H
   clear H
   have H := H1
   clear H1
   replace H := Option.bind_eq_some_iff.mp H
   obtain ⟨t182, A90, H⟩ := H
   replace H : (if t182 = true then (some false) else (if a3 < 0 then (some false) else (if a3 > 86400000 then (some false) else (if a0 ≥ (wrap64 (a1 - a3)) then (some (decide (a0 < (wrap64 (a2 + a3))))) else (some false))))) = some r := H
   have A9 := Aside0.mk A90
   clear A90
   by_cases c10 : t182 = true
   ·subst c10
    have H1 : (some false) = some r := by rw [if_pos rfl] at H; exact H
    clear H
    have H := H1
    clear H1
    obtain rfl := Option.some.inj H
    go_enter Tryd.func21, Tryd.ntmps21
    go_wp2_with (first | ((with_reducible refine gate_callee (f := 24) rfl ?_); refine goesA (some 10) Tryd.func24 #[.int .i64 a0] rfl ?_; (with_reducible refine (moment_none.calls a0 false _ A5.out).mono ?_); rintro e w' ⟨rfl, ⟨nd, rfl⟩⟩; refine ⟨_, rfl, ?_⟩) | (go_at_call 24; (with_reducible refine (moment_none.calls a1 false _ A7.out).mono ?_); rintro e w' ⟨rfl, ⟨nd, rfl⟩⟩) | (go_at_call 24; (with_reducible refine (moment_none.calls a2 true _ A9.out).mono ?_); rintro e w' ⟨rfl, ⟨nd, rfl⟩⟩))
    go_ret
    exact ⟨by first | rfl | (simp; done) | (simp [*]; done), by repeat (first | exact Drawn0.refl _ | apply Drawn0.step)⟩
   ·replace c10 := Bool.eq_false_iff.mpr c10
    subst c10
    have H1 : (if a3 < 0 then (some false) else (if a3 > 86400000 then (some false) else (if a0 ≥ (wrap64 (a1 - a3)) then (some (decide (a0 < (wrap64 (a2 + a3))))) else (some false)))) = some r := by rw [if_neg (show ¬ (false = true) by decide)] at H; exact H
    clear H
    have H := H1
    clear H1
    refine (Classical.em (a3 < 0)).elim (fun c11 => ?a34_) (fun c11 => ?b34_)
    case' a34_ =>
     rw [if_pos c11] at H
     have c11b0 : decide (a3 < 0) = true := decide_eq_true c11
     clear c11
     obtain rfl := Option.some.inj H
    case' b34_ =>
     rw [if_neg c11] at H
     have c11b0 : decide (a3 < 0) = false := decide_eq_false c11
     clear c11
     refine (Classical.em (a3 > 86400000)).elim (fun c12 => ?a35_) (fun c12 => ?b35_)
     case' a35_ =>
      rw [if_pos c12] at H
      have c12b0 : decide (86400000 < a3) = true := decide_eq_true c12
      clear c12
      obtain rfl := Option.some.inj H
     case' b35_ =>
      rw [if_neg c12] at H
      have c12b0 : decide (86400000 < a3) = false := decide_eq_false c12
      clear c12
      refine (Classical.em (a0 ≥ (wrap64 (a1 - a3)))).elim (fun c13 => ?a36_) (fun c13 => ?b36_)
      case' a36_ =>
       rw [if_pos c13] at H
       have c13b0 : decide ((wrap64 (a1 - a3)) ≤ a0) = true := decide_eq_true c13
       clear c13
       obtain rfl := Option.some.inj H
      case' b36_ =>
       rw [if_neg c13] at H
       have c13b0 : decide ((wrap64 (a1 - a3)) ≤ a0) = false := decide_eq_false c13
       clear c13
       obtain rfl := Option.some.inj H
       go_enter Tryd.func21, Tryd.ntmps21
       go_wp2_with (first | ((with_reducible refine gate_callee (f := 24) rfl ?_); refine goesA (some 10) Tryd.func24 #[.int .i64 a0] rfl ?_; (with_reducible refine (moment_none.calls a0 false _ A5.out).mono ?_); rintro e w' ⟨rfl, ⟨nd, rfl⟩⟩; refine ⟨_, rfl, ?_⟩) | (go_at_call 24; (with_reducible refine (moment_none.calls a1 false _ A7.out).mono ?_); rintro e w' ⟨rfl, ⟨nd, rfl⟩⟩) | (go_at_call 24; (with_reducible refine (moment_none.calls a2 false _ A9.out).mono ?_); rintro e w' ⟨rfl, ⟨nd, rfl⟩⟩))
       go_ret
       exact ⟨by first | rfl | (simp; done) | (simp [*]; done), by repeat (first | exact Drawn0.refl _ | apply Drawn0.step)⟩

    case a34_ | a35_ | b35_ =>
     go_enter Tryd.func21, Tryd.ntmps21
     go_wp2_with (first | ((with_reducible refine gate_callee (f := 24) rfl ?_); refine goesA (some 10) Tryd.func24 #[.int .i64 a0] rfl ?_; (with_reducible refine (moment_none.calls a0 false _ A5.out).mono ?_); rintro e w' ⟨rfl, ⟨nd, rfl⟩⟩; refine ⟨_, rfl, ?_⟩) | (go_at_call 24; (with_reducible refine (moment_none.calls a1 false _ A7.out).mono ?_); rintro e w' ⟨rfl, ⟨nd, rfl⟩⟩) | (go_at_call 24; (with_reducible refine (moment_none.calls a2 false _ A9.out).mono ?_); rintro e w' ⟨rfl, ⟨nd, rfl⟩⟩))
     go_ret
     exact ⟨by first | rfl | (simp; done) | (simp [*]; done), by repeat (first | exact Drawn0.refl _ | apply Drawn0.step)⟩
end Go.Proofs.YtcikjghmelbkaaaDoor.Hp
