/- Go functions of this seat as Lean functions, and their contracts: what the Go code computes, for every input. (By hp.py, a program of this repo, over the kit's print.py.) -/
import Derived.Test.YtbokeoncpilgpaaHp0
import Derived.Test.YtbokeoncpilgpaaHp3
import Derived.Test.YtbokeoncpilgpaaHp9
namespace Go.Proofs.Ytbokeoncpilgpaa.Hp
open Go.RowKit Go.Proofs.YtbokeoncpilgpaaW.PrintWords Go.Proofs.YtbokeoncpilgpaaW.PrintLast Go.Proofs.YtbokeoncpilgpaaW.PrintMore
attribute [local go_sem] max2_int min2_int max_two min_two max_three min_three max_four min_four   -- for this text's walks alone
set_option linter.unusedVariables false
set_option linter.unusedSimpArgs false

/-! ### lanyardlaw04_FlateRuns: function 7 -/
mutual
def lanyardlaw04_FlateRuns.j0 : Nat → List Int → Int → Bool → Option (Bool)
 | 0, _, _, _ => none
 | k + 1, x0, x1, x26 => if x26 = true then ((lanyardlaw04_awake.f).bind fun t296 => (some t296)) else (lanyardlaw04_FlateRuns.l0 k x0 (wrap64 (40 + (Int.tmod (wrap64 ((Int.tmod x1 400) + 400)) 400))) ([] : List Int) 0)
def lanyardlaw04_FlateRuns.l0 : Nat → List Int → Int → List Int → Int → Option (Bool)
 | 0, _, _, _, _ => none
 | k + 1, x0, x5, x6, x7 => if x7 < x5 then (if x6.length + x0.length < 140737488355328 then (lanyardlaw04_FlateRuns.l0 k x0 x5 (x6 ++ x0) (wrap64 (x7 + 1))) else (none)) else ((flate_Deflate.f x6).bind fun bt300 => ((flate_Inflate.f bt300.1 (x6.length : Int)).bind fun bt304 => (if bt300.2 = 0 then (if bt304.2.2 = 0 then (if bt304.2.1 = (bt300.1.length : Int) then (if (strOfNums bt304.1).toList = (strOfNums x6).toList then (if (bt300.1.length : Int) > (wrap64 ((wrap64 ((wrap64 (2 * (x0.length : Int))) + 16)) + (wrap64 ((x6.length : Int) / 64)))) then (some false) else (if 65537 ≤ 281474976710656 then ((flate_Deflate.f (List.replicate 65537 0)).bind fun bt312 => (if bt312.2 = 12 then (some ((bt312.1.length : Int) == 0)) else (some false))) else (none))) else (some false)) else (some false)) else (some false)) else (some false))))
end
def lanyardlaw04_FlateRuns.f (k : Nat) (l0 : List Int) (a1 : Int) : Option (Bool) := (lanyardlaw04_awake.f).bind fun t295 => (if t295 = true then (if (l0.length : Int) < 1 then (lanyardlaw04_FlateRuns.j0 k l0 a1 true) else (lanyardlaw04_FlateRuns.j0 k l0 a1 (decide ((l0.length : Int) > 40)))) else (lanyardlaw04_FlateRuns.j0 k l0 a1 true))
theorem lanyardlaw04_FlateRuns.mono_l : ∀ k, (∀ y0 y1 y2, LeO (lanyardlaw04_FlateRuns.j0 k y0 y1 y2) (lanyardlaw04_FlateRuns.j0 (k + 1) y0 y1 y2)) ∧ (∀ y0 y1 y2 y3, LeO (lanyardlaw04_FlateRuns.l0 k y0 y1 y2 y3) (lanyardlaw04_FlateRuns.l0 (k + 1) y0 y1 y2 y3))
 | 0 => ⟨fun _ _ _ r h => by simp [lanyardlaw04_FlateRuns.j0] at h, fun _ _ _ _ r h => by simp [lanyardlaw04_FlateRuns.l0] at h⟩
 | k + 1 => by
  obtain ⟨ih0, ih1⟩ := lanyardlaw04_FlateRuns.mono_l k
  refine ⟨?_, ?_⟩
  ·intro y0 y1 y2
   unfold lanyardlaw04_FlateRuns.j0
   repeat' first
   | (with_reducible exact ih0 _ _ _)
   | (with_reducible exact ih1 _ _ _ _)
   | (with_reducible exact LeO.refl _)
   | (with_reducible exact LeO.none _)
   | (with_reducible refine LeO.ite ?_ ?_)
   | (with_reducible refine LeO.bind ?_ (fun _ => ?_))
   | exact ih0 _ _ _
   | exact ih1 _ _ _ _
   | exact LeO.none _
   | refine LeO.ite ?_ ?_
   | refine LeO.bind ?_ (fun _ => ?_)
  ·intro y0 y1 y2 y3
   unfold lanyardlaw04_FlateRuns.l0
   repeat' first
   | (with_reducible exact ih0 _ _ _)
   | (with_reducible exact ih1 _ _ _ _)
   | (with_reducible exact LeO.refl _)
   | (with_reducible exact LeO.none _)
   | (with_reducible refine LeO.ite ?_ ?_)
   | (with_reducible refine LeO.bind ?_ (fun _ => ?_))
   | exact ih0 _ _ _
   | exact ih1 _ _ _ _
   | exact LeO.none _
   | refine LeO.ite ?_ ?_
   | refine LeO.bind ?_ (fun _ => ?_)
theorem lanyardlaw04_FlateRuns.mono : ∀ a0 a1 k, LeO (lanyardlaw04_FlateRuns.f k a0 a1) (lanyardlaw04_FlateRuns.f (k + 1) a0 a1) := by
 intro a0 a1 k
 obtain ⟨ih0, ih1⟩ := lanyardlaw04_FlateRuns.mono_l k
 unfold lanyardlaw04_FlateRuns.f
 repeat' first
   | (with_reducible exact ih0 _ _ _)
   | (with_reducible exact ih1 _ _ _ _)
   | (with_reducible exact LeO.refl _)
   | (with_reducible exact LeO.none _)
   | (with_reducible refine LeO.ite ?_ ?_)
   | (with_reducible refine LeO.bind ?_ (fun _ => ?_))
   | exact ih0 _ _ _
   | exact ih1 _ _ _ _
   | exact LeO.none _
   | refine LeO.ite ?_ ?_
   | refine LeO.bind ?_ (fun _ => ?_)
set_option maxHeartbeats 8000000 in
set_option maxRecDepth 100000 in
theorem lanyardlaw04_FlateRuns.calls (k : Nat) (A0 : Option Addr) (c0 : Nat) (l0 : List Int) (a1 : Int) (r : Bool) (w : World) (hr0 : Kd.C (Kd.int .u8) w A0 l0.length l0) (hc0 : l0.length ≤ c0) (h : lanyardlaw04_FlateRuns.f k l0 a1 = some r) (hr_ : r = true := by rfl) :
  Calls Try.prog 7 #[.slice A0 l0.length c0, .int .i64 a1] w fun e w' => e = .returned (.bool r) ∧ Below w.heap.size w w' := by
 have HR_ := Aside0.mk hr_
 clear hr_
 have HR0 := Aside0.mk hr0
 have HC0 := Aside0.mk hc0
 clear hr0 hc0
 have HB := Aside0.mk (Below.refl w.heap.size w)
 have H : ((lanyardlaw04_awake.f).bind fun t295 => (if t295 = true then (if (l0.length : Int) < 1 then (lanyardlaw04_FlateRuns.j0 k l0 a1 true) else (lanyardlaw04_FlateRuns.j0 k l0 a1 (decide ((l0.length : Int) > 40)))) else (lanyardlaw04_FlateRuns.j0 k l0 a1 true))) = some r := h
 clear h
 have HC3 := Aside0.mk H
 clear H
 go_enter Try.func7, Try.ntmps7
 go_upto_region 1 with (fail)
 go_cut [26] (fun v26 wc => ∃ (kq : Nat) (x26_2 : Bool), v26 = .bool x26_2 ∧ Aside0 (lanyardlaw04_FlateRuns.j0 kq l0 a1 x26_2 = some r) ∧ Aside0 (kq ≤ k) ∧ Aside0 (Below w.heap.size w wc))
 case first =>
  have H := HC3.out
  clear HC3
  replace H := Option.bind_eq_some_iff.mp H
  obtain ⟨t295, A40, H⟩ := H
  replace H : (if t295 = true then (if (l0.length : Int) < 1 then (lanyardlaw04_FlateRuns.j0 k l0 a1 true) else (lanyardlaw04_FlateRuns.j0 k l0 a1 (decide ((l0.length : Int) > 40)))) else (lanyardlaw04_FlateRuns.j0 k l0 a1 true)) = some r := H
  have A4 := Aside0.mk A40
  clear A40
  by_cases c5 : t295 = true
  ·subst c5
   have H1 : (if (l0.length : Int) < 1 then (lanyardlaw04_FlateRuns.j0 k l0 a1 true) else (lanyardlaw04_FlateRuns.j0 k l0 a1 (decide ((l0.length : Int) > 40)))) = some r := by rw [if_pos rfl] at H; exact H
   clear H
   have H := H1
   clear H1
   by_cases c6 : (l0.length : Int) < 1
   ·rw [if_pos c6] at H
    have c6b0 : decide ((l0.length : Int) < 1) = true := decide_eq_true c6
    have c6b1 : decide (l0.length < 1) = true := decide_eq_true (by omega)
    clear c6
    (first | rw [c6b0] | (simp only [i64_w, i32_w]; rw [c6b0]) | skip)
    have H' := Aside0.mk H
    clear H
    go_wp2_with (first | ((with_reducible refine gate_callee (f := 9) rfl ?_); refine goesA (some 15) Try.func9 #[] rfl ?_; (with_reducible refine (lanyardlaw04_awake.calls  true _ A4.out).mono ?_); rintro e w7 ⟨rfl, hb⟩; refine ⟨_, rfl, ?_⟩; have n0_ := Bs HB hb; clear HB; revert n0_; intro HB; (try clear hb); (try clear hb2); (try clear hk); (try clear hi)))
    go_meet
    case rel => exact ⟨_, (true), (by first | rfl | (simp; done) | (simp [*]; done)), H', ⟨by first | omega | exact Nat.le_refl _⟩, ⟨Bu HB⟩⟩
   ·rw [if_neg c6] at H
    have c6b0 : decide ((l0.length : Int) < 1) = false := decide_eq_false c6
    have c6b1 : decide (l0.length < 1) = false := decide_eq_false (by omega)
    clear c6
    (first | rw [c6b0] | (simp only [i64_w, i32_w]; rw [c6b0]) | skip)
    have H' := Aside0.mk H
    clear H
    go_wp2_with (first | ((with_reducible refine gate_callee (f := 9) rfl ?_); refine goesA (some 15) Try.func9 #[] rfl ?_; (with_reducible refine (lanyardlaw04_awake.calls  true _ A4.out).mono ?_); rintro e w8 ⟨rfl, hb⟩; refine ⟨_, rfl, ?_⟩; have n0_ := Bs HB hb; clear HB; revert n0_; intro HB; (try clear hb); (try clear hb2); (try clear hk); (try clear hi)))
    go_meet
    case rel => exact ⟨_, (decide ((l0.length : Int) > 40)), (by first | rfl | (simp; done) | (simp [*]; done)), H', ⟨by first | omega | exact Nat.le_refl _⟩, ⟨Bu HB⟩⟩
  ·replace c5 := Bool.eq_false_iff.mpr c5
   subst c5
   have H1 : (lanyardlaw04_FlateRuns.j0 k l0 a1 true) = some r := by rw [if_neg (show ¬ (false = true) by decide)] at H; exact H
   clear H
   have H := H1
   clear H1
   have H' := Aside0.mk H
   clear H
   go_wp2_with (first | ((with_reducible refine gate_callee (f := 9) rfl ?_); refine goesA (some 15) Try.func9 #[] rfl ?_; (with_reducible refine (lanyardlaw04_awake.calls  false _ A4.out).mono ?_); rintro e w9 ⟨rfl, hb⟩; refine ⟨_, rfl, ?_⟩; have n0_ := Bs HB hb; clear HB; revert n0_; intro HB; (try clear hb); (try clear hb2); (try clear hk); (try clear hi)))
   go_meet
   case rel => exact ⟨_, (true), (by first | rfl | (simp; done) | (simp [*]; done)), H', ⟨by first | omega | exact Nat.le_refl _⟩, ⟨Bu HB⟩⟩
 case rest =>
  clear HC3
  try clear p2
  try clear c5
  try clear c6
  try clear c6b0
  try clear c6b1
  try clear c7
  try clear c9
  obtain ⟨kq, x26_2, rfl, HA, HJ2, HB⟩ := hcut
  cases kq with
  | zero => exact absurd HA.out (by simp [lanyardlaw04_FlateRuns.j0])
  | succ kj2 =>
   have H := HA.out
   clear HA
   simp only [lanyardlaw04_FlateRuns.j0] at H
   by_cases c10 : x26_2 = true
   ·subst c10
    have H1 : ((lanyardlaw04_awake.f).bind fun t296 => (some t296)) = some r := by rw [if_pos rfl] at H; exact H
    clear H
    have H := H1
    clear H1
    replace H := Option.bind_eq_some_iff.mp H
    obtain ⟨t296, A110, H⟩ := H
    replace H : (some t296) = some r := H
    have A11 := Aside0.mk A110
    clear A110
    obtain rfl := Option.some.inj H
    go_wp2_with (first | ((with_reducible refine gate_callee (f := 9) rfl ?_); refine goesA (some 27) Try.func9 #[] rfl ?_; (with_reducible refine (lanyardlaw04_awake.calls  t296 _ A11.out).mono ?_); rintro e w12 ⟨rfl, hb⟩; refine ⟨_, rfl, ?_⟩; have n0_ := Bs HB hb; clear HB; revert n0_; intro HB; (try clear hb); (try clear hb2); (try clear hk); (try clear hi)))
    go_ret
    exact ⟨rfl_, Bu HB⟩
   ·replace c10 := Bool.eq_false_iff.mpr c10
    subst c10
    have H1 : (lanyardlaw04_FlateRuns.l0 kj2 l0 (wrap64 (40 + (Int.tmod (wrap64 ((Int.tmod a1 400) + 400)) 400))) ([] : List Int) 0) = some r := by rw [if_neg (show ¬ (false = true) by decide)] at H; exact H
    clear H
    have H := H1
    clear H1
    have H' := Aside0.mk H
    clear H
    go_wp2
    go_loopg [6, 7] kj2 (fun kq v6 v7 w' => ∃ (x6_2 : List Int) (x7_2 : Int), v7 = .int .i64 x7_2 ∧ Aside0 (lanyardlaw04_FlateRuns.l0 kq l0 (wrap64 (40 + (Int.tmod (wrap64 ((Int.tmod a1 400) + 400)) 400))) x6_2 x7_2 = some r) ∧ Aside0 (kq ≤ kj2) ∧ Aside0 (Kd.R (Kd.int .u8) 5 w' w.heap.size (fun _ => True) v6 x6_2) ∧ Aside0 (Below w.heap.size w w'))
    case atStart => exact ⟨(([] : List Int)), (0), (by first | rfl | (simp; done) | (simp [*]; done)), H', ⟨Nat.le_refl _⟩, ⟨by first | exact Kd.R_nil _ _ _ _ _ | exact Kd.N_nil _ _ _ _ _ | exact Kd.V_nil _ _ _ _ _ | exact Kd.Q_nil _ _ _ _ _ | exact Kd.S_nil _ _ _ _ _⟩, ⟨Bu HB⟩⟩
    case round =>
     clear H'
     try clear c1
     try clear p2
     try clear c5
     try clear c6
     try clear c6b0
     try clear c6b1
     try clear p6
     try clear c7
     try clear c9
     try clear c10
     try clear p2
     obtain ⟨x6_2, x7_2, rfl, HA, HK2, HO_6, HB⟩ := hrel
     cases gk with
     | zero => exact absurd HA.out (by simp [lanyardlaw04_FlateRuns.l0])
     | succ k2 =>
      have H := HA.out
      clear HA
      simp only [lanyardlaw04_FlateRuns.l0] at H
      by_cases c13 : x7_2 < (wrap64 (40 + (Int.tmod (wrap64 ((Int.tmod a1 400) + 400)) 400)))
      ·rw [if_pos c13] at H
       have c13b0 : decide (x7_2 < (wrap64 (40 + (Int.tmod (wrap64 ((Int.tmod a1 400) + 400)) 400)))) = true := decide_eq_true c13
       clear c13
       by_cases c14 : x6_2.length + l0.length < 140737488355328
       ·rw [if_pos c14] at H
        have LMc14 := Aside0.mk c14
        clear c14
        obtain ⟨y297, hy297⟩ : ∃ y_ : List Int, y_ = (x6_2 ++ l0) := ⟨_, rfl⟩
        replace H : (lanyardlaw04_FlateRuns.l0 k2 l0 (wrap64 (40 + (Int.tmod (wrap64 ((Int.tmod a1 400) + 400)) 400))) y297 (wrap64 (x7_2 + 1))) = some r := by first | (rw [hy297]; with_reducible exact H) | (have H2_ := (Option.bind_some _ _).symm.trans H; rw [hy297]; with_reducible exact H2_) | (have H2_ := (Option.bind_some _ _).symm.trans H; with_reducible exact H2_) | with_reducible exact H | (rw [hy297]; exact H) | exact H
        have Ny297 := Aside0.mk hy297
        clear hy297
        have H' := Aside0.mk H
        clear H
        go_wp2_with (first | ((with_reducible refine gate_builtin (b := .append) (xs := #[.tmp 38, .tmp 39]) rfl ?_); (try (refine gate_guard (by rfl) ?_; dsimp only)); at_builtin; refine Kd.R_append_rows (Kd.int .u8) (w0 := w) w.heap.size rfl (.tmp 38) (.tmp 39) 22 5 (.int .u8 0) 1 rfl Try.underlying22 info5 rfl (by decide) (by omega) u6 x6_2 l0 _ _ _ (fun _ => True) (fun _ => False) rfl rfl ?aO ?aR (fun _ _ h => h) (fun _ h => h.elim) ?aF ?aB ?aS ?aL ?_; (case aR => repeat (first | exact (Kd.C_below HR0.out HB.out) | (with_reducible refine Kd.C_alloc ?_ _) | (with_reducible refine Kd.C_drewN ?_ _) | (with_reducible refine Kd.C_drew ?_))); (case aB => exact (Bu HB)); (case aF => exact (fun _ _ => trivial)); (case aO => exact (Ru HO_6)); (case aS => exact (Bz HB)); (case aL => have := LMc14.out; omega); intro v298 w15 ho hb hg hat; rw [← Ny297.out] at ho; have n0_ := Aside0.mk (hb); have n1_ := Aside0.mk (ho); clear HB HO_6; revert n0_ n1_; intro HB HO299; clear ho hb hg hat))
        go_roundg k2
        case measure => have := HJ2.out; have := HK2.out; omega
        case rel => exact ⟨(y297), (wrap64 (x7_2 + 1)), (by first | rfl | (simp; done) | (simp [*]; done)), H', ⟨by have := HJ2.out; have := HK2.out; omega⟩, ⟨Ru HO299⟩, ⟨Bu HB⟩⟩
       ·rw [if_neg c14] at H
        exact absurd H (by simp)
      ·rw [if_neg c13] at H
       have c13b0 : decide (x7_2 < (wrap64 (40 + (Int.tmod (wrap64 ((Int.tmod a1 400) + 400)) 400)))) = false := decide_eq_false c13
       clear c13
       replace H := Option.bind_eq_some_iff.mp H
       obtain ⟨⟨t300, t301⟩, A160, H⟩ := H
       replace H : ((flate_Inflate.f t300 (x6_2.length : Int)).bind fun bt304 => (if t301 = 0 then (if bt304.2.2 = 0 then (if bt304.2.1 = (t300.length : Int) then (if (strOfNums bt304.1).toList = (strOfNums x6_2).toList then (if (t300.length : Int) > (wrap64 ((wrap64 ((wrap64 (2 * (l0.length : Int))) + 16)) + (wrap64 ((x6_2.length : Int) / 64)))) then (some false) else (if 65537 ≤ 281474976710656 then ((flate_Deflate.f (List.replicate 65537 0)).bind fun bt312 => (if bt312.2 = 12 then (some ((bt312.1.length : Int) == 0)) else (some false))) else (none))) else (some false)) else (some false)) else (some false)) else (some false))) = some r := H
       have A16 := Aside0.mk A160
       clear A160
       replace H := Option.bind_eq_some_iff.mp H
       obtain ⟨⟨t304, t305, t306⟩, A170, H⟩ := H
       replace H : (if t301 = 0 then (if t306 = 0 then (if t305 = (t300.length : Int) then (if (strOfNums t304).toList = (strOfNums x6_2).toList then (if (t300.length : Int) > (wrap64 ((wrap64 ((wrap64 (2 * (l0.length : Int))) + 16)) + (wrap64 ((x6_2.length : Int) / 64)))) then (some false) else (if 65537 ≤ 281474976710656 then ((flate_Deflate.f (List.replicate 65537 0)).bind fun bt312 => (if bt312.2 = 12 then (some ((bt312.1.length : Int) == 0)) else (some false))) else (none))) else (some false)) else (some false)) else (some false)) else (some false)) = some r := H
       have A17 := Aside0.mk A170
       clear A170
       by_cases c18 : t301 = 0
       ·rw [if_pos c18] at H
        have c18b0 : (t301 == 0) = true := beq_iff_eq.mpr c18
        have c18b1 : (t301 != 0) = false := bne_eq_false_iff_eq.mpr c18
        clear c18
        by_cases c19 : t306 = 0
        ·rw [if_pos c19] at H
         have c19b0 : (t306 == 0) = true := beq_iff_eq.mpr c19
         have c19b1 : (t306 != 0) = false := bne_eq_false_iff_eq.mpr c19
         clear c19
         by_cases c20 : t305 = (t300.length : Int)
         ·rw [if_pos c20] at H
          have c20b0 : (t305 == (t300.length : Int)) = true := beq_iff_eq.mpr c20
          have c20b1 : (t305 != (t300.length : Int)) = false := bne_eq_false_iff_eq.mpr c20
          clear c20
          by_cases c21 : (strOfNums t304).toList = (strOfNums x6_2).toList
          ·rw [if_pos c21] at H
           have c21b0 : ((strOfNums t304).toList == (strOfNums x6_2).toList) = true := beq_iff_eq.mpr c21
           have c21b1 : ((strOfNums t304).toList != (strOfNums x6_2).toList) = false := bne_eq_false_iff_eq.mpr c21
           clear c21
           by_cases c22 : (t300.length : Int) > (wrap64 ((wrap64 ((wrap64 (2 * (l0.length : Int))) + 16)) + (wrap64 ((x6_2.length : Int) / 64))))
           ·rw [if_pos c22] at H
            have c22b0 : decide ((wrap64 ((wrap64 ((wrap64 (2 * (l0.length : Int))) + 16)) + (wrap64 ((x6_2.length : Int) / 64)))) < (t300.length : Int)) = true := decide_eq_true c22
            clear c22
            exact absurd (Option.some.inj H) (by rw [HR_.out]; decide)
           ·rw [if_neg c22] at H
            have c22b0 : decide ((wrap64 ((wrap64 ((wrap64 (2 * (l0.length : Int))) + 16)) + (wrap64 ((x6_2.length : Int) / 64)))) < (t300.length : Int)) = false := decide_eq_false c22
            clear c22
            by_cases c31 : 65537 ≤ 281474976710656
            ·rw [if_pos c31] at H
             have c31b0 := eq_true c31
             have c31b1 : decide (65537 ≤ 281474976710656) = true := decide_eq_true c31
             clear c31
             obtain ⟨y309, hy309⟩ : ∃ y_ : List Int, y_ = (List.replicate 65537 0) := ⟨_, rfl⟩
             replace H : ((flate_Deflate.f y309).bind fun bt312 => (if bt312.2 = 12 then (some ((bt312.1.length : Int) == 0)) else (some false))) = some r := by first | (rw [hy309]; with_reducible exact H) | (have H2_ := (Option.bind_some _ _).symm.trans H; rw [hy309]; with_reducible exact H2_) | (have H2_ := (Option.bind_some _ _).symm.trans H; with_reducible exact H2_) | with_reducible exact H | (rw [hy309]; exact H) | exact H
             have Ny309 := Aside0.mk hy309
             clear hy309
             replace H := Option.bind_eq_some_iff.mp H
             obtain ⟨⟨t312, t313⟩, A320, H⟩ := H
             replace H : (if t313 = 12 then (some ((t312.length : Int) == 0)) else (some false)) = some r := H
             have A32 := Aside0.mk A320
             clear A320
             by_cases c33 : t313 = 12
             ·rw [if_pos c33] at H
              have c33b0 : (t313 == 12) = true := beq_iff_eq.mpr c33
              have c33b1 : (t313 != 12) = false := bne_eq_false_iff_eq.mpr c33
              clear c33
              obtain rfl := Option.some.inj H
              obtain ⟨Ao34, co34, eo34⟩ := Kd.R_slice HO_6.out
              subst eo34
              go_wp2_with (first | ((with_reducible refine gate_callee (f := 10) rfl ?_); refine goesA (some 43) Try.func10 #[.slice Ao34 x6_2.length co34] rfl ?_; (with_reducible refine (flate_Deflate.calls _ _ x6_2 t300 t301 _ ?side1 ?side2 A16.out).mono ?_); (case side1 => exact Cu (Kd.R_reads' HO_6.out).2.2); (case side2 => exact (Kd.R_reads' HO_6.out).2.1); rintro e w35 ⟨v302, rfl, ho0, hb⟩; refine ⟨_, rfl, ?_⟩; have n0_ := Re HO_6 (Kd.R_base ho0) hb; have n1_ := Aside0.mk (Kd.R_lower (Kd.R_new' ho0 (Kd.R_lt (Ru HO_6))) (Bz HB)); have n2_ := Bs HB hb; clear HO_6 HB; revert n0_ n1_ n2_; intro HO_6 HO303 HB; (try clear hb); (try clear hb2); (try clear hk); (try clear hi); (try clear ho0); obtain ⟨Ao36, co36, eo36⟩ := Kd.R_slice HO303.out; subst eo36) | ((with_reducible refine gate_callee (f := 14) rfl ?_); refine goesA (some 50) Try.func14 #[.slice Ao36 t300.length co36, .int .i64 (x6_2.length : Int)] rfl ?_; (with_reducible refine (flate_Inflate.calls _ _ t300 (x6_2.length : Int) t304 t305 t306 _ ?side1 ?side2 A17.out).mono ?_); (case side1 => exact Cu (Kd.R_reads' HO303.out).2.2); (case side2 => exact (Kd.R_reads' HO303.out).2.1); rintro e w37 ⟨v307, rfl, ho0, hb⟩; refine ⟨_, rfl, ?_⟩; have n0_ := Re HO_6 (Kd.R_base ho0) hb; have n1_ := Re HO303 (Kd.R_base ho0) hb; have n2_ := Aside0.mk (Kd.R_lower (Kd.R_new' (Kd.R_new' ho0 (Kd.R_lt (Ru HO_6))) (Kd.R_lt (Ru HO303))) (Bz HB)); have n3_ := Bs HB hb; clear HO_6 HO303 HB; revert n0_ n1_ n2_ n3_; intro HO_6 HO303 HO308 HB; (try clear hb); (try clear hb2); (try clear hk); (try clear hi); (try clear ho0); have hcv38 := own_string (P := Try.prog) Try.underlying22 Try.underlying5 Try.underlying9 (Kd.own_of_R HO308.out); have hcv39 := fun n_ : Nat => own_string (P := Try.prog) Try.underlying22 Try.underlying5 Try.underlying9 (Kd.own_of_R (Kd.R_drewN HO308.out n_)); have hcv40 := own_string (P := Try.prog) Try.underlying22 Try.underlying5 Try.underlying9 (Kd.own_of_R HO_6.out); have hcv41 := fun n_ : Nat => own_string (P := Try.prog) Try.underlying22 Try.underlying5 Try.underlying9 (Kd.own_of_R (Kd.R_drewN HO_6.out n_))) | ((with_reducible refine gate_dst (N := 87) rfl ?_); (try (refine gate_guard (by rfl) ?_; dsimp only)); refine Kd.R_make (Kd.int .u8) _ 5 rfl (N := 87) rfl 22 _ _ rfl 65537 rfl rfl Try.underlying22 (.int .u8 0) 1 info5 rfl (by decide) (by omega) 0 (ok := fun _ => True) (okp := fun _ => True) rfl (fun _ hk => hk) trivial (by omega) (by omega) (Below.refl _ _) (Nat.le_refl _) ?_; intro v310 w42 ho43 hb hg_ hnew_; clear hg_ hnew_; (first | rw [← Ny309.out] at ho43 | (simp only [Int.reduceToNat] at ho43; rw [← Ny309.out] at ho43)); have n0_ := Re HO_6 (Kd.R_base ho43) hb; have n1_ := Re HO303 (Kd.R_base ho43) hb; have n2_ := Re HO308 (Kd.R_base ho43) hb; have n3_ := Aside0.mk (Kd.R_lower (Kd.R_new' (Kd.R_new' (Kd.R_new' ho43 (Kd.R_lt (Ru HO_6))) (Kd.R_lt (Ru HO303))) (Kd.R_lt (Ru HO308))) (Bz HB)); have n4_ := Bs HB hb; clear HO_6 HO303 HO308 HB; revert n0_ n1_ n2_ n3_ n4_; intro HO_6 HO303 HO308 HO311 HB; clear hb ho43; obtain ⟨Ao44, co44, eo44⟩ := Kd.R_slice HO311.out; subst eo44) | ((with_reducible refine gate_callee (f := 10) rfl ?_); refine goesA (some 88) Try.func10 #[.slice Ao44 y309.length co44] rfl ?_; (with_reducible refine (flate_Deflate.calls _ _ y309 t312 t313 _ ?side1 ?side2 A32.out).mono ?_); (case side1 => exact Cu (Kd.R_reads' HO311.out).2.2); (case side2 => exact (Kd.R_reads' HO311.out).2.1); rintro e w45 ⟨v314, rfl, ho0, hb⟩; refine ⟨_, rfl, ?_⟩; have n0_ := Re HO_6 (Kd.R_base ho0) hb; have n1_ := Re HO303 (Kd.R_base ho0) hb; have n2_ := Re HO308 (Kd.R_base ho0) hb; have n3_ := Re HO311 (Kd.R_base ho0) hb; have n4_ := Aside0.mk (Kd.R_lower (Kd.R_new' (Kd.R_new' (Kd.R_new' (Kd.R_new' ho0 (Kd.R_lt (Ru HO_6))) (Kd.R_lt (Ru HO303))) (Kd.R_lt (Ru HO308))) (Kd.R_lt (Ru HO311))) (Bz HB)); have n5_ := Bs HB hb; clear HO_6 HO303 HO308 HO311 HB; revert n0_ n1_ n2_ n3_ n4_ n5_; intro HO_6 HO303 HO308 HO311 HO315 HB; (try clear hb); (try clear hb2); (try clear hk); (try clear hi); (try clear ho0); obtain ⟨Ao46, co46, eo46⟩ := Kd.R_slice HO315.out; subst eo46))
              go_ret
              exact ⟨rfl_, Bu HB⟩
             ·rw [if_neg c33] at H
              have c33b0 : (t313 == 12) = false := beq_eq_false_iff_ne.mpr c33
              have c33b1 : (t313 != 12) = true := bne_iff_ne.mpr c33
              exact absurd (Option.some.inj H) (by rw [HR_.out]; decide)
            ·rw [if_neg c31] at H
             exact absurd H (by simp)
          ·rw [if_neg c21] at H
           have c21b0 : ((strOfNums t304).toList == (strOfNums x6_2).toList) = false := beq_eq_false_iff_ne.mpr c21
           have c21b1 : ((strOfNums t304).toList != (strOfNums x6_2).toList) = true := bne_iff_ne.mpr c21
           exact absurd (Option.some.inj H) (by rw [HR_.out]; decide)
         ·rw [if_neg c20] at H
          have c20b0 : (t305 == (t300.length : Int)) = false := beq_eq_false_iff_ne.mpr c20
          have c20b1 : (t305 != (t300.length : Int)) = true := bne_iff_ne.mpr c20
          exact absurd (Option.some.inj H) (by rw [HR_.out]; decide)
        ·rw [if_neg c19] at H
         have c19b0 : (t306 == 0) = false := beq_eq_false_iff_ne.mpr c19
         have c19b1 : (t306 != 0) = true := bne_iff_ne.mpr c19
         exact absurd (Option.some.inj H) (by rw [HR_.out]; decide)
       ·rw [if_neg c18] at H
        have c18b0 : (t301 == 0) = false := beq_eq_false_iff_ne.mpr c18
        have c18b1 : (t301 != 0) = true := bne_iff_ne.mpr c18
        exact absurd (Option.some.inj H) (by rw [HR_.out]; decide)
/-- THE ONE PURE STATEMENT of lanyardlaw04_FlateRuns: yours. -/
def lanyardlaw04_FlateRuns.Pure : Prop := ∀ (l0 : List Int) (a1 : Int), l0.length ≤ maxLen → l0.length * 1 ≤ 140737488351232 → (∀ x ∈ l0, (Lit.int .u8 x).wf = true) → (Lit.int .i64 a1).wf = true → ∃ k, lanyardlaw04_FlateRuns.f k l0 a1 = some true
theorem lanyardlaw04_FlateRuns.walk (P : lanyardlaw04_FlateRuns.Pure) (a0 : Option Addr) (len0 cap0 : Nat) (z0 : List Int) (a1 : Int) (w : World) (w0 : (a0 = none ∧ len0 = 0 ∧ cap0 = 0 ∧ z0 = []) ∨ ∃ x, a0 = some x ∧ len0 ≤ cap0 ∧ cap0 ≤ maxLen ∧ z0.length = cap0 ∧ (∀ i, i < z0.length → w.cell? (x.add i) = some (.int .u8 (z0.getD i 0))) ∧ ∀ n ∈ z0, (Lit.int .u8 n).wf = true) (y0 : len0 * 1 ≤ 140737488351232) (w1 : (Lit.int .i64 a1).wf = true) :
  Calls Try.prog 7 #[.slice a0 len0 cap0, .int .i64 a1] w fun e w' => e = .returned (.bool true) ∧ Below w.heap.size w w' := by
 obtain ⟨l0, rfl, hr0, hm0, hw0, hc0⟩ := ReadsInt.ofRowC w0
 obtain ⟨k, h⟩ := P l0 a1 hm0 y0 hw0 w1
 refine (lanyardlaw04_FlateRuns.calls k _ _ l0 a1 true w (Kd.C_of_reads (d := (0 : Int)) (h1 := fun _ => rfl) hr0) hc0 h).mono ?_
 rintro e w' ⟨rfl, hd⟩
 exact ⟨rfl, hd⟩

end Go.Proofs.Ytbokeoncpilgpaa.Hp
