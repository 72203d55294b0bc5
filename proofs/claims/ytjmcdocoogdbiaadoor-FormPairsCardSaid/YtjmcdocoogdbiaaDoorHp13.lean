/- Go functions of this seat as Lean functions, and their contracts: what the Go code computes, for every input. (By hp.py, a program of this repo, over the kit's print.py.) -/
import Derived.Test.YtjmcdocoogdbiaaDoorHp0
import Derived.Test.YtjmcdocoogdbiaaDoorHp4
import Derived.Test.YtjmcdocoogdbiaaDoorHp8
import Derived.Test.YtjmcdocoogdbiaaDoorHp9
namespace Go.Proofs.YtjmcdocoogdbiaaDoor.Hp
open Go.RowKit Go.Proofs.YtjmcdocoogdbiaaDoorW.PrintWords Go.Proofs.YtjmcdocoogdbiaaDoorW.PrintLast Go.Proofs.YtjmcdocoogdbiaaDoorW.PrintMore
attribute [local go_sem] max2_int min2_int max_two min_two max_three min_three max_four min_four   -- for this text's walks alone
set_option linter.unusedVariables false
set_option linter.unusedSimpArgs false

/-! ### lanyardlaw03_FormPairs: function 5 -/
mutual
def lanyardlaw03_FormPairs.j0 : Nat → List (S40) → ByteArray → Bool → Option (Bool)
 | 0, _, _, _ => none
 | k + 1, x0, x1, x19 => if x19 = true then ((lanyardlaw03_awake.f k).bind fun t240 => (some t240)) else (lanyardlaw03_FormPairs.l0 k x0 x1 0)
def lanyardlaw03_FormPairs.l0 : Nat → List (S40) → ByteArray → Int → Option (Bool)
 | 0, _, _, _ => none
 | k + 1, x0, x1, x5 => if x5 < (x0.length : Int) then (if 0 ≤ x5 then (if (((rd_T40 x0 x5).f0).size : Int) > 200 then (some true) else (if (((rd_T40 x0 x5).f1).size : Int) > 200 then (some true) else (lanyardlaw03_FormPairs.l0 k x0 x1 (wrap64 (x5 + 1))))) else (none)) else ((escape_Query.f k x0).bind fun t243 => ((escape_ParseQuery.f k t243).bind fun bt244 => ((lanyardref03_Query.f k x0).bind fun t248 => (if t243.toList = t248.toList then (if (x0.length : Int) > 64 then (if bt244.2 = 12 then (some ((bt244.1.length : Int) == 0)) else (some false)) else ((escape_Get.f k bt244.1 x1).bind fun bt249 => ((lanyardref03_Get.f k x0 x1).bind fun bt251 => (if bt244.2 = 0 then ((lanyardref03_Same.f k bt244.1 x0).bind fun t253 => (if t253 = true then (if bt249.1.toList = bt251.1.toList then (some (bt249.2 == bt251.2)) else (some false)) else (some false))) else (some false))))) else (some false)))))
end
def lanyardlaw03_FormPairs.f (k : Nat) (l0 : List (S40)) (a1 : ByteArray) : Option (Bool) := (lanyardlaw03_awake.f k).bind fun t239 => (if t239 = true then (lanyardlaw03_FormPairs.j0 k l0 a1 (decide ((l0.length : Int) > 100))) else (lanyardlaw03_FormPairs.j0 k l0 a1 true))
theorem lanyardlaw03_FormPairs.mono_l : ∀ k, (∀ y0 y1 y2, LeO (lanyardlaw03_FormPairs.j0 k y0 y1 y2) (lanyardlaw03_FormPairs.j0 (k + 1) y0 y1 y2)) ∧ (∀ y0 y1 y2, LeO (lanyardlaw03_FormPairs.l0 k y0 y1 y2) (lanyardlaw03_FormPairs.l0 (k + 1) y0 y1 y2))
 | 0 => ⟨fun _ _ _ r h => by simp [lanyardlaw03_FormPairs.j0] at h, fun _ _ _ r h => by simp [lanyardlaw03_FormPairs.l0] at h⟩
 | k + 1 => by
  obtain ⟨ih0, ih1⟩ := lanyardlaw03_FormPairs.mono_l k
  refine ⟨?_, ?_⟩
  ·intro y0 y1 y2
   unfold lanyardlaw03_FormPairs.j0
   repeat' first
   | (with_reducible exact ih0 _ _ _)
   | (with_reducible exact ih1 _ _ _)
   | (with_reducible exact escape_Get.mono _ _ _)
   | (with_reducible exact escape_ParseQuery.mono _ _)
   | (with_reducible exact escape_Query.mono _ _)
   | (with_reducible exact lanyardlaw03_awake.mono _)
   | (with_reducible exact lanyardref03_Get.mono _ _ _)
   | (with_reducible exact lanyardref03_Query.mono _ _)
   | (with_reducible exact lanyardref03_Same.mono _ _ _)
   | (with_reducible exact LeO.refl _)
   | (with_reducible exact LeO.none _)
   | (with_reducible refine LeO.ite ?_ ?_)
   | (with_reducible refine LeO.bind ?_ (fun _ => ?_))
   | exact ih0 _ _ _
   | exact ih1 _ _ _
   | exact escape_Get.mono _ _ _
   | exact escape_ParseQuery.mono _ _
   | exact escape_Query.mono _ _
   | exact lanyardlaw03_awake.mono _
   | exact lanyardref03_Get.mono _ _ _
   | exact lanyardref03_Query.mono _ _
   | exact lanyardref03_Same.mono _ _ _
   | exact LeO.none _
   | refine LeO.ite ?_ ?_
   | refine LeO.bind ?_ (fun _ => ?_)
  ·intro y0 y1 y2
   unfold lanyardlaw03_FormPairs.l0
   repeat' first
   | (with_reducible exact ih0 _ _ _)
   | (with_reducible exact ih1 _ _ _)
   | (with_reducible exact escape_Get.mono _ _ _)
   | (with_reducible exact escape_ParseQuery.mono _ _)
   | (with_reducible exact escape_Query.mono _ _)
   | (with_reducible exact lanyardlaw03_awake.mono _)
   | (with_reducible exact lanyardref03_Get.mono _ _ _)
   | (with_reducible exact lanyardref03_Query.mono _ _)
   | (with_reducible exact lanyardref03_Same.mono _ _ _)
   | (with_reducible exact LeO.refl _)
   | (with_reducible exact LeO.none _)
   | (with_reducible refine LeO.ite ?_ ?_)
   | (with_reducible refine LeO.bind ?_ (fun _ => ?_))
   | exact ih0 _ _ _
   | exact ih1 _ _ _
   | exact escape_Get.mono _ _ _
   | exact escape_ParseQuery.mono _ _
   | exact escape_Query.mono _ _
   | exact lanyardlaw03_awake.mono _
   | exact lanyardref03_Get.mono _ _ _
   | exact lanyardref03_Query.mono _ _
   | exact lanyardref03_Same.mono _ _ _
   | exact LeO.none _
   | refine LeO.ite ?_ ?_
   | refine LeO.bind ?_ (fun _ => ?_)
theorem lanyardlaw03_FormPairs.mono : ∀ a0 a1 k, LeO (lanyardlaw03_FormPairs.f k a0 a1) (lanyardlaw03_FormPairs.f (k + 1) a0 a1) := by
 intro a0 a1 k
 obtain ⟨ih0, ih1⟩ := lanyardlaw03_FormPairs.mono_l k
 unfold lanyardlaw03_FormPairs.f
 repeat' first
   | (with_reducible exact ih0 _ _ _)
   | (with_reducible exact ih1 _ _ _)
   | (with_reducible exact escape_Get.mono _ _ _)
   | (with_reducible exact escape_ParseQuery.mono _ _)
   | (with_reducible exact escape_Query.mono _ _)
   | (with_reducible exact lanyardlaw03_awake.mono _)
   | (with_reducible exact lanyardref03_Get.mono _ _ _)
   | (with_reducible exact lanyardref03_Query.mono _ _)
   | (with_reducible exact lanyardref03_Same.mono _ _ _)
   | (with_reducible exact LeO.refl _)
   | (with_reducible exact LeO.none _)
   | (with_reducible refine LeO.ite ?_ ?_)
   | (with_reducible refine LeO.bind ?_ (fun _ => ?_))
   | exact ih0 _ _ _
   | exact ih1 _ _ _
   | exact escape_Get.mono _ _ _
   | exact escape_ParseQuery.mono _ _
   | exact escape_Query.mono _ _
   | exact lanyardlaw03_awake.mono _
   | exact lanyardref03_Get.mono _ _ _
   | exact lanyardref03_Query.mono _ _
   | exact lanyardref03_Same.mono _ _ _
   | exact LeO.none _
   | refine LeO.ite ?_ ?_
   | refine LeO.bind ?_ (fun _ => ?_)
set_option maxHeartbeats 8000000 in
set_option maxRecDepth 100000 in
theorem lanyardlaw03_FormPairs.calls (k : Nat) (A0 : Option Addr) (c0 : Nat) (l0 : List (S40)) (a1 : ByteArray) (r : Bool) (w : World) (hr0 : Kd.C k40 w A0 l0.length l0) (hc0 : l0.length ≤ c0) (hU : Uni w) (h : lanyardlaw03_FormPairs.f k l0 a1 = some r) :
  Calls Tryd.prog 5 #[.slice A0 l0.length c0, .string a1] w fun e w' => e = .returned (.bool r) ∧ Below w.heap.size w w' := by
 have HU := Aside0.mk hU
 clear hU
 have HR0 := Aside0.mk hr0
 have HC0 := Aside0.mk hc0
 clear hr0 hc0
 have HB := Aside0.mk (Below.refl w.heap.size w)
 have H : ((lanyardlaw03_awake.f k).bind fun t239 => (if t239 = true then (lanyardlaw03_FormPairs.j0 k l0 a1 (decide ((l0.length : Int) > 100))) else (lanyardlaw03_FormPairs.j0 k l0 a1 true))) = some r := h
 clear h
 have HC3 := Aside0.mk H
 clear H
 go_enter Tryd.func5, Tryd.ntmps5
 go_upto_region 1 with (fail)
 go_cut [19] (fun v19 wc => ∃ (kq : Nat) (x19_2 : Bool), v19 = .bool x19_2 ∧ Aside0 (lanyardlaw03_FormPairs.j0 kq l0 a1 x19_2 = some r) ∧ Aside0 (kq ≤ k) ∧ Aside0 (Below w.heap.size w wc))
 case first =>
  have H := HC3.out
  clear HC3
  replace H := Option.bind_eq_some_iff.mp H
  obtain ⟨t239, A40, H⟩ := H
  replace H : (if t239 = true then (lanyardlaw03_FormPairs.j0 k l0 a1 (decide ((l0.length : Int) > 100))) else (lanyardlaw03_FormPairs.j0 k l0 a1 true)) = some r := H
  have A4 := Aside0.mk A40
  clear A40
  by_cases c5 : t239 = true
  ·subst c5
   have H1 : (lanyardlaw03_FormPairs.j0 k l0 a1 (decide ((l0.length : Int) > 100))) = some r := by rw [if_pos rfl] at H; exact H
   clear H
   have H := H1
   clear H1
   have H' := Aside0.mk H
   clear H
   go_wp2_with (first | ((with_reducible refine gate_callee (f := 8) rfl ?_); refine goesA (some 13) Tryd.func8 #[] rfl ?_; (with_reducible refine (lanyardlaw03_awake.calls k  true _ ?sideU A4.out).mono ?_); (case sideU => first | exact HU.out | exact Uni.up HU (Bu HB) | exact Uni.below HU.out (by assumption)); rintro e w6 ⟨rfl, hb⟩; refine ⟨_, rfl, ?_⟩; have n0_ := Bs HB hb; clear HB; revert n0_; intro HB; (try clear hb); (try clear hb2); (try clear hk); (try clear hi)))
   go_meet
   case rel => exact ⟨_, (decide ((l0.length : Int) > 100)), (by first | rfl | (simp; done) | (simp [*]; done)), H', ⟨by first | omega | exact Nat.le_refl _⟩, ⟨Bu HB⟩⟩
  ·replace c5 := Bool.eq_false_iff.mpr c5
   subst c5
   have H1 : (lanyardlaw03_FormPairs.j0 k l0 a1 true) = some r := by rw [if_neg (show ¬ (false = true) by decide)] at H; exact H
   clear H
   have H := H1
   clear H1
   have H' := Aside0.mk H
   clear H
   go_wp2_with (first | ((with_reducible refine gate_callee (f := 8) rfl ?_); refine goesA (some 13) Tryd.func8 #[] rfl ?_; (with_reducible refine (lanyardlaw03_awake.calls k  false _ ?sideU A4.out).mono ?_); (case sideU => first | exact HU.out | exact Uni.up HU (Bu HB) | exact Uni.below HU.out (by assumption)); rintro e w7 ⟨rfl, hb⟩; refine ⟨_, rfl, ?_⟩; have n0_ := Bs HB hb; clear HB; revert n0_; intro HB; (try clear hb); (try clear hb2); (try clear hk); (try clear hi)))
   go_meet
   case rel => exact ⟨_, (true), (by first | rfl | (simp; done) | (simp [*]; done)), H', ⟨by first | omega | exact Nat.le_refl _⟩, ⟨Bu HB⟩⟩
 case rest =>
  clear HC3
  try clear p2
  try clear c5
  obtain ⟨kq, x19_2, rfl, HA, HJ2, HB⟩ := hcut
  cases kq with
  | zero => exact absurd HA.out (by simp [lanyardlaw03_FormPairs.j0])
  | succ kj2 =>
   have H := HA.out
   clear HA
   simp only [lanyardlaw03_FormPairs.j0] at H
   by_cases c8 : x19_2 = true
   ·subst c8
    have H1 : ((lanyardlaw03_awake.f kj2).bind fun t240 => (some t240)) = some r := by rw [if_pos rfl] at H; exact H
    clear H
    have H := H1
    clear H1
    replace H := Option.bind_eq_some_iff.mp H
    obtain ⟨t240, A90, H⟩ := H
    replace H : (some t240) = some r := H
    have A9 := Aside0.mk A90
    clear A90
    obtain rfl := Option.some.inj H
    go_wp2_with (first | ((with_reducible refine gate_callee (f := 8) rfl ?_); refine goesA (some 20) Tryd.func8 #[] rfl ?_; (with_reducible refine (lanyardlaw03_awake.calls kj2  t240 _ ?sideU A9.out).mono ?_); (case sideU => first | exact HU.out | exact Uni.up HU (Bu HB) | exact Uni.below HU.out (by assumption)); rintro e w10 ⟨rfl, hb⟩; refine ⟨_, rfl, ?_⟩; have n0_ := Bs HB hb; clear HB; revert n0_; intro HB; (try clear hb); (try clear hb2); (try clear hk); (try clear hi)))
    go_ret
    exact ⟨rfl_, Bu HB⟩
   ·replace c8 := Bool.eq_false_iff.mpr c8
    subst c8
    have H1 : (lanyardlaw03_FormPairs.l0 kj2 l0 a1 0) = some r := by rw [if_neg (show ¬ (false = true) by decide)] at H; exact H
    clear H
    have H := H1
    clear H1
    have H' := Aside0.mk H
    clear H
    go_wp2
    go_loopg [5] kj2 (fun kq v5 w' => ∃ (x5_2 : Int), v5 = .int .i64 x5_2 ∧ Aside0 (lanyardlaw03_FormPairs.l0 kq l0 a1 x5_2 = some r) ∧ Aside0 (kq ≤ kj2) ∧ Aside0 (Below w.heap.size w w'))
    case atStart => exact ⟨(0), (by first | rfl | (simp; done) | (simp [*]; done)), H', ⟨Nat.le_refl _⟩, ⟨Bu HB⟩⟩
    case round =>
     clear H'
     try clear p2
     try clear c5
     try clear c8
     try clear p2
     obtain ⟨x5_2, rfl, HA, HK2, HB⟩ := hrel
     cases gk with
     | zero => exact absurd HA.out (by simp [lanyardlaw03_FormPairs.l0])
     | succ k2 =>
      have H := HA.out
      clear HA
      simp only [lanyardlaw03_FormPairs.l0] at H
      refine (Classical.em (x5_2 < (l0.length : Int))).elim (fun c11 => ?a87_) (fun c11 => ?b87_)
      case' a87_ =>
       rw [if_pos c11] at H
       have c11b0 : decide (x5_2 < (l0.length : Int)) = true := decide_eq_true c11
       clear c11
       refine (Classical.em (0 ≤ x5_2)).elim (fun c12 => ?a88_) (fun c12 => ?b88_)
       case' a88_ =>
        rw [if_pos c12] at H
        have c12b0 : decide (0 ≤ x5_2) = true := decide_eq_true c12
        clear c12
        refine (Classical.em ((((rd_T40 l0 x5_2).f0).size : Int) > 200)).elim (fun c13 => ?a89_) (fun c13 => ?b89_)
        case' a89_ =>
         rw [if_pos c13] at H
         have c13b0 : decide (200 < (((rd_T40 l0 x5_2).f0).size : Int)) = true := decide_eq_true c13
         have c13b1 : decide (200 < ((rd_T40 l0 x5_2).f0).size) = true := decide_eq_true (by omega)
         clear c13
         obtain rfl := Option.some.inj H
         have p241 : 0 ≤ (x5_2 : Int) := of_decide_eq_true (by first | (with_reducible assumption) | assumption)
         have q241 : x5_2 < (l0.length : Int) := of_decide_eq_true (by first | (with_reducible assumption) | assumption)
         obtain ⟨ad241, e241, hx241_0, hx241_1⟩ := at_T40 HR0.out x5_2 p241 q241
         cases e241
         replace hx241_0 := (HB.out.cell (World.block_lt_of_cell? w _ hx241_0)).trans hx241_0
         replace hx241_1 := (HB.out.cell (World.block_lt_of_cell? w _ hx241_1)).trans hx241_1
         replace p241 := eq_true p241
         replace q241 := eq_true q241
        case' b89_ =>
         rw [if_neg c13] at H
         have c13b0 : decide (200 < (((rd_T40 l0 x5_2).f0).size : Int)) = false := decide_eq_false c13
         have c13b1 : decide (200 < ((rd_T40 l0 x5_2).f0).size) = false := decide_eq_false (by omega)
         clear c13
         refine (Classical.em ((((rd_T40 l0 x5_2).f1).size : Int) > 200)).elim (fun c14 => ?a90_) (fun c14 => ?b90_)
         case' a90_ =>
          rw [if_pos c14] at H
          have c14b0 : decide (200 < (((rd_T40 l0 x5_2).f1).size : Int)) = true := decide_eq_true c14
          have c14b1 : decide (200 < ((rd_T40 l0 x5_2).f1).size) = true := decide_eq_true (by omega)
          clear c14
          obtain rfl := Option.some.inj H
          have p241 : 0 ≤ (x5_2 : Int) := of_decide_eq_true (by first | (with_reducible assumption) | assumption)
          have q241 : x5_2 < (l0.length : Int) := of_decide_eq_true (by first | (with_reducible assumption) | assumption)
          obtain ⟨ad241, e241, hx241_0, hx241_1⟩ := at_T40 HR0.out x5_2 p241 q241
          cases e241
          replace hx241_0 := (HB.out.cell (World.block_lt_of_cell? w _ hx241_0)).trans hx241_0
          replace hx241_1 := (HB.out.cell (World.block_lt_of_cell? w _ hx241_1)).trans hx241_1
          replace p241 := eq_true p241
          replace q241 := eq_true q241
          have p242 : 0 ≤ (x5_2 : Int) := of_decide_eq_true (by first | (with_reducible assumption) | assumption)
          have q242 : x5_2 < (l0.length : Int) := of_decide_eq_true (by first | (with_reducible assumption) | assumption)
          obtain ⟨ad242, e242, hx242_0, hx242_1⟩ := at_T40 HR0.out x5_2 p242 q242
          obtain rfl : ad241 = ad242 := (by injection e242)
          replace hx242_0 := (HB.out.cell (World.block_lt_of_cell? w _ hx242_0)).trans hx242_0
          replace hx242_1 := (HB.out.cell (World.block_lt_of_cell? w _ hx242_1)).trans hx242_1
          replace p242 := eq_true p242
          replace q242 := eq_true q242
         case' b90_ =>
          rw [if_neg c14] at H
          have c14b0 : decide (200 < (((rd_T40 l0 x5_2).f1).size : Int)) = false := decide_eq_false c14
          have c14b1 : decide (200 < ((rd_T40 l0 x5_2).f1).size) = false := decide_eq_false (by omega)
          clear c14
          have H' := Aside0.mk H
          clear H
          have p241 : 0 ≤ (x5_2 : Int) := of_decide_eq_true (by first | (with_reducible assumption) | assumption)
          have q241 : x5_2 < (l0.length : Int) := of_decide_eq_true (by first | (with_reducible assumption) | assumption)
          obtain ⟨ad241, e241, hx241_0, hx241_1⟩ := at_T40 HR0.out x5_2 p241 q241
          cases e241
          replace hx241_0 := (HB.out.cell (World.block_lt_of_cell? w _ hx241_0)).trans hx241_0
          replace hx241_1 := (HB.out.cell (World.block_lt_of_cell? w _ hx241_1)).trans hx241_1
          replace p241 := eq_true p241
          replace q241 := eq_true q241
          have p242 : 0 ≤ (x5_2 : Int) := of_decide_eq_true (by first | (with_reducible assumption) | assumption)
          have q242 : x5_2 < (l0.length : Int) := of_decide_eq_true (by first | (with_reducible assumption) | assumption)
          obtain ⟨ad242, e242, hx242_0, hx242_1⟩ := at_T40 HR0.out x5_2 p242 q242
          obtain rfl : ad241 = ad242 := (by injection e242)
          replace hx242_0 := (HB.out.cell (World.block_lt_of_cell? w _ hx242_0)).trans hx242_0
          replace hx242_1 := (HB.out.cell (World.block_lt_of_cell? w _ hx242_1)).trans hx242_1
          replace p242 := eq_true p242
          replace q242 := eq_true q242
          go_wp2
          go_roundg k2
          case measure => have := HJ2.out; have := HK2.out; omega
          case rel => exact ⟨(wrap64 (x5_2 + 1)), (by first | rfl | (simp; done) | (simp [*]; done)), H', ⟨by have := HJ2.out; have := HK2.out; omega⟩, ⟨Bu HB⟩⟩
       case' b88_ =>
        rw [if_neg c12] at H
        exact absurd H (by simp)
      case' b87_ =>
       rw [if_neg c11] at H
       have c11b0 : decide (x5_2 < (l0.length : Int)) = false := decide_eq_false c11
       clear c11
       replace H := Option.bind_eq_some_iff.mp H
       obtain ⟨t243, A150, H⟩ := H
       replace H : ((escape_ParseQuery.f k2 t243).bind fun bt244 => ((lanyardref03_Query.f k2 l0).bind fun t248 => (if t243.toList = t248.toList then (if (l0.length : Int) > 64 then (if bt244.2 = 12 then (some ((bt244.1.length : Int) == 0)) else (some false)) else ((escape_Get.f k2 bt244.1 a1).bind fun bt249 => ((lanyardref03_Get.f k2 l0 a1).bind fun bt251 => (if bt244.2 = 0 then ((lanyardref03_Same.f k2 bt244.1 l0).bind fun t253 => (if t253 = true then (if bt249.1.toList = bt251.1.toList then (some (bt249.2 == bt251.2)) else (some false)) else (some false))) else (some false))))) else (some false)))) = some r := H
       have A15 := Aside0.mk A150
       clear A150
       replace H := Option.bind_eq_some_iff.mp H
       obtain ⟨⟨t244, t245⟩, A160, H⟩ := H
       replace H : ((lanyardref03_Query.f k2 l0).bind fun t248 => (if t243.toList = t248.toList then (if (l0.length : Int) > 64 then (if t245 = 12 then (some ((t244.length : Int) == 0)) else (some false)) else ((escape_Get.f k2 t244 a1).bind fun bt249 => ((lanyardref03_Get.f k2 l0 a1).bind fun bt251 => (if t245 = 0 then ((lanyardref03_Same.f k2 t244 l0).bind fun t253 => (if t253 = true then (if bt249.1.toList = bt251.1.toList then (some (bt249.2 == bt251.2)) else (some false)) else (some false))) else (some false))))) else (some false))) = some r := H
       have A16 := Aside0.mk A160
       clear A160
       replace H := Option.bind_eq_some_iff.mp H
       obtain ⟨t248, A170, H⟩ := H
       replace H : (if t243.toList = t248.toList then (if (l0.length : Int) > 64 then (if t245 = 12 then (some ((t244.length : Int) == 0)) else (some false)) else ((escape_Get.f k2 t244 a1).bind fun bt249 => ((lanyardref03_Get.f k2 l0 a1).bind fun bt251 => (if t245 = 0 then ((lanyardref03_Same.f k2 t244 l0).bind fun t253 => (if t253 = true then (if bt249.1.toList = bt251.1.toList then (some (bt249.2 == bt251.2)) else (some false)) else (some false))) else (some false))))) else (some false)) = some r := H
       have A17 := Aside0.mk A170
       clear A170
       by_cases c18 : t243.toList = t248.toList
       ·rw [if_pos c18] at H
        have c18b0 : (t243.toList == t248.toList) = true := beq_iff_eq.mpr c18
        have c18b1 : (t243.toList != t248.toList) = false := bne_eq_false_iff_eq.mpr c18
        clear c18
        by_cases c19 : (l0.length : Int) > 64
        ·rw [if_pos c19] at H
         have c19b0 : decide (64 < (l0.length : Int)) = true := decide_eq_true c19
         have c19b1 : decide (64 < l0.length) = true := decide_eq_true (by omega)
         clear c19
         by_cases c20 : t245 = 12
         ·rw [if_pos c20] at H
          have c20b0 : (t245 == 12) = true := beq_iff_eq.mpr c20
          have c20b1 : (t245 != 12) = false := bne_eq_false_iff_eq.mpr c20
          clear c20
          obtain rfl := Option.some.inj H
          go_wp2_with (first | ((with_reducible refine gate_callee (f := 18) rfl ?_); refine goesA (some 44) Tryd.func18 #[.slice A0 l0.length c0] rfl ?_; (with_reducible refine (escape_Query.calls k2 _ _ l0 t243 _ ?side1 ?side2 A15.out).mono ?_); (case side1 => exact Cu (Kd.C_below HR0.out HB.out)); (case side2 => exact HC0.out); rintro e w21 ⟨rfl, hb⟩; refine ⟨_, rfl, ?_⟩; have n0_ := Bs HB hb; clear HB; revert n0_; intro HB; (try clear hb); (try clear hb2); (try clear hk); (try clear hi)) | ((with_reducible refine gate_callee (f := 13) rfl ?_); refine goesA (some 47) Tryd.func13 #[.string t243] rfl ?_; (with_reducible refine (escape_ParseQuery.calls k2 t243 t244 t245 _ ?sideU A16.out).mono ?_); (case sideU => first | exact HU.out | exact Uni.up HU (Bu HB) | exact Uni.below HU.out (by assumption)); rintro e w22 ⟨v246, rfl, ho0, hb⟩; refine ⟨_, rfl, ?_⟩; have n0_ := Aside0.mk (Kd.R_lower ho0 (Bz HB)); have n1_ := Bs HB hb; clear HB; revert n0_ n1_; intro HO247 HB; (try clear hb); (try clear hb2); (try clear hk); (try clear hi); (try clear ho0)) | ((with_reducible refine gate_callee (f := 19) rfl ?_); refine goesA (some 52) Tryd.func19 #[.slice A0 l0.length c0] rfl ?_; (with_reducible refine (lanyardref03_Query.calls k2 _ _ l0 t248 _ ?side1 ?side2 A17.out).mono ?_); (case side1 => exact Cu (Kd.C_below HR0.out HB.out)); (case side2 => exact HC0.out); rintro e w23 ⟨rfl, hb⟩; refine ⟨_, rfl, ?_⟩; have n0_ := Rb HO247 hb; have n1_ := Bs HB hb; clear HO247 HB; revert n0_ n1_; intro HO247 HB; (try clear hb); (try clear hb2); (try clear hk); (try clear hi); obtain ⟨Ao24, co24, eo24⟩ := Kd.R_slice HO247.out; subst eo24))
          go_ret
          exact ⟨rfl_, Bu HB⟩
         ·rw [if_neg c20] at H
          have c20b0 : (t245 == 12) = false := beq_eq_false_iff_ne.mpr c20
          have c20b1 : (t245 != 12) = true := bne_iff_ne.mpr c20
          obtain rfl := Option.some.inj H
          go_wp2_with (first | ((with_reducible refine gate_callee (f := 18) rfl ?_); refine goesA (some 44) Tryd.func18 #[.slice A0 l0.length c0] rfl ?_; (with_reducible refine (escape_Query.calls k2 _ _ l0 t243 _ ?side1 ?side2 A15.out).mono ?_); (case side1 => exact Cu (Kd.C_below HR0.out HB.out)); (case side2 => exact HC0.out); rintro e w25 ⟨rfl, hb⟩; refine ⟨_, rfl, ?_⟩; have n0_ := Bs HB hb; clear HB; revert n0_; intro HB; (try clear hb); (try clear hb2); (try clear hk); (try clear hi)) | ((with_reducible refine gate_callee (f := 13) rfl ?_); refine goesA (some 47) Tryd.func13 #[.string t243] rfl ?_; (with_reducible refine (escape_ParseQuery.calls k2 t243 t244 t245 _ ?sideU A16.out).mono ?_); (case sideU => first | exact HU.out | exact Uni.up HU (Bu HB) | exact Uni.below HU.out (by assumption)); rintro e w26 ⟨v246, rfl, ho0, hb⟩; refine ⟨_, rfl, ?_⟩; have n0_ := Aside0.mk (Kd.R_lower ho0 (Bz HB)); have n1_ := Bs HB hb; clear HB; revert n0_ n1_; intro HO247 HB; (try clear hb); (try clear hb2); (try clear hk); (try clear hi); (try clear ho0)) | ((with_reducible refine gate_callee (f := 19) rfl ?_); refine goesA (some 52) Tryd.func19 #[.slice A0 l0.length c0] rfl ?_; (with_reducible refine (lanyardref03_Query.calls k2 _ _ l0 t248 _ ?side1 ?side2 A17.out).mono ?_); (case side1 => exact Cu (Kd.C_below HR0.out HB.out)); (case side2 => exact HC0.out); rintro e w27 ⟨rfl, hb⟩; refine ⟨_, rfl, ?_⟩; have n0_ := Rb HO247 hb; have n1_ := Bs HB hb; clear HO247 HB; revert n0_ n1_; intro HO247 HB; (try clear hb); (try clear hb2); (try clear hk); (try clear hi)))
          go_ret
          exact ⟨rfl_, Bu HB⟩
        ·rw [if_neg c19] at H
         have c19b0 : decide (64 < (l0.length : Int)) = false := decide_eq_false c19
         have c19b1 : decide (64 < l0.length) = false := decide_eq_false (by omega)
         clear c19
         replace H := Option.bind_eq_some_iff.mp H
         obtain ⟨⟨t249, t250⟩, A280, H⟩ := H
         replace H : ((lanyardref03_Get.f k2 l0 a1).bind fun bt251 => (if t245 = 0 then ((lanyardref03_Same.f k2 t244 l0).bind fun t253 => (if t253 = true then (if t249.toList = bt251.1.toList then (some (t250 == bt251.2)) else (some false)) else (some false))) else (some false))) = some r := H
         have A28 := Aside0.mk A280
         clear A280
         replace H := Option.bind_eq_some_iff.mp H
         obtain ⟨⟨t251, t252⟩, A290, H⟩ := H
         replace H : (if t245 = 0 then ((lanyardref03_Same.f k2 t244 l0).bind fun t253 => (if t253 = true then (if t249.toList = t251.toList then (some (t250 == t252)) else (some false)) else (some false))) else (some false)) = some r := H
         have A29 := Aside0.mk A290
         clear A290
         by_cases c30 : t245 = 0
         ·rw [if_pos c30] at H
          have c30b0 : (t245 == 0) = true := beq_iff_eq.mpr c30
          have c30b1 : (t245 != 0) = false := bne_eq_false_iff_eq.mpr c30
          clear c30
          replace H := Option.bind_eq_some_iff.mp H
          obtain ⟨t253, A310, H⟩ := H
          replace H : (if t253 = true then (if t249.toList = t251.toList then (some (t250 == t252)) else (some false)) else (some false)) = some r := H
          have A31 := Aside0.mk A310
          clear A310
          by_cases c32 : t253 = true
          ·subst c32
           have H1 : (if t249.toList = t251.toList then (some (t250 == t252)) else (some false)) = some r := by rw [if_pos rfl] at H; exact H
           clear H
           have H := H1
           clear H1
           by_cases c33 : t249.toList = t251.toList
           ·rw [if_pos c33] at H
            have c33b0 : (t249.toList == t251.toList) = true := beq_iff_eq.mpr c33
            have c33b1 : (t249.toList != t251.toList) = false := bne_eq_false_iff_eq.mpr c33
            clear c33
            obtain rfl := Option.some.inj H
            go_wp2_with (first | ((with_reducible refine gate_callee (f := 18) rfl ?_); refine goesA (some 44) Tryd.func18 #[.slice A0 l0.length c0] rfl ?_; (with_reducible refine (escape_Query.calls k2 _ _ l0 t243 _ ?side1 ?side2 A15.out).mono ?_); (case side1 => exact Cu (Kd.C_below HR0.out HB.out)); (case side2 => exact HC0.out); rintro e w34 ⟨rfl, hb⟩; refine ⟨_, rfl, ?_⟩; have n0_ := Bs HB hb; clear HB; revert n0_; intro HB; (try clear hb); (try clear hb2); (try clear hk); (try clear hi)) | ((with_reducible refine gate_callee (f := 13) rfl ?_); refine goesA (some 47) Tryd.func13 #[.string t243] rfl ?_; (with_reducible refine (escape_ParseQuery.calls k2 t243 t244 t245 _ ?sideU A16.out).mono ?_); (case sideU => first | exact HU.out | exact Uni.up HU (Bu HB) | exact Uni.below HU.out (by assumption)); rintro e w35 ⟨v246, rfl, ho0, hb⟩; refine ⟨_, rfl, ?_⟩; have n0_ := Aside0.mk (Kd.R_lower ho0 (Bz HB)); have n1_ := Bs HB hb; clear HB; revert n0_ n1_; intro HO247 HB; (try clear hb); (try clear hb2); (try clear hk); (try clear hi); (try clear ho0)) | ((with_reducible refine gate_callee (f := 19) rfl ?_); refine goesA (some 52) Tryd.func19 #[.slice A0 l0.length c0] rfl ?_; (with_reducible refine (lanyardref03_Query.calls k2 _ _ l0 t248 _ ?side1 ?side2 A17.out).mono ?_); (case side1 => exact Cu (Kd.C_below HR0.out HB.out)); (case side2 => exact HC0.out); rintro e w36 ⟨rfl, hb⟩; refine ⟨_, rfl, ?_⟩; have n0_ := Rb HO247 hb; have n1_ := Bs HB hb; clear HO247 HB; revert n0_ n1_; intro HO247 HB; (try clear hb); (try clear hb2); (try clear hk); (try clear hi); obtain ⟨Ao37, co37, eo37⟩ := Kd.R_slice HO247.out; subst eo37) | ((with_reducible refine gate_callee (f := 15) rfl ?_); refine goesA (some 67) Tryd.func15 #[.slice Ao37 t244.length co37, .string a1] rfl ?_; (with_reducible refine (escape_Get.calls k2 _ _ t244 a1 t249 t250 _ ?side1 ?side2 A28.out).mono ?_); (case side1 => exact Cu (Kd.R_reads' HO247.out).2.2); (case side2 => exact (Kd.R_reads' HO247.out).2.1); rintro e w38 ⟨rfl, hb⟩; refine ⟨_, rfl, ?_⟩; have n0_ := Rb HO247 hb; have n1_ := Bs HB hb; clear HO247 HB; revert n0_ n1_; intro HO247 HB; (try clear hb); (try clear hb2); (try clear hk); (try clear hi)) | ((with_reducible refine gate_callee (f := 16) rfl ?_); refine goesA (some 73) Tryd.func16 #[.slice A0 l0.length c0, .string a1] rfl ?_; (with_reducible refine (lanyardref03_Get.calls k2 _ _ l0 a1 t251 t252 _ ?side1 ?side2 A29.out).mono ?_); (case side1 => exact Cu (Kd.C_below HR0.out HB.out)); (case side2 => exact HC0.out); rintro e w' ⟨rfl, ⟨nd, rfl⟩⟩; refine ⟨_, rfl, ?_⟩) | (go_at_call 17; (with_reducible refine (lanyardref03_Same.calls k2 _ _ t244 _ _ l0 true _ ?side1 ?side2 ?side3 ?side4 A31.out).mono ?_); (case side1 => exact Cu (Kd.R_reads' HO247.out).2.2); (case side2 => exact (Kd.R_reads' HO247.out).2.1); (case side3 => repeat (first | exact (Kd.C_below HR0.out (Bu HB)) | (with_reducible refine Kd.C_alloc ?_ _) | (with_reducible refine Kd.C_drewN ?_ _) | (with_reducible refine Kd.C_drew ?_))); (case side4 => exact HC0.out); rintro e w' ⟨rfl, ⟨nd, rfl⟩⟩))
            go_ret
            exact ⟨rfl_, Bu HB⟩
           ·rw [if_neg c33] at H
            have c33b0 : (t249.toList == t251.toList) = false := beq_eq_false_iff_ne.mpr c33
            have c33b1 : (t249.toList != t251.toList) = true := bne_iff_ne.mpr c33
            obtain rfl := Option.some.inj H
            go_wp2_with (first | ((with_reducible refine gate_callee (f := 18) rfl ?_); refine goesA (some 44) Tryd.func18 #[.slice A0 l0.length c0] rfl ?_; (with_reducible refine (escape_Query.calls k2 _ _ l0 t243 _ ?side1 ?side2 A15.out).mono ?_); (case side1 => exact Cu (Kd.C_below HR0.out HB.out)); (case side2 => exact HC0.out); rintro e w39 ⟨rfl, hb⟩; refine ⟨_, rfl, ?_⟩; have n0_ := Bs HB hb; clear HB; revert n0_; intro HB; (try clear hb); (try clear hb2); (try clear hk); (try clear hi)) | ((with_reducible refine gate_callee (f := 13) rfl ?_); refine goesA (some 47) Tryd.func13 #[.string t243] rfl ?_; (with_reducible refine (escape_ParseQuery.calls k2 t243 t244 t245 _ ?sideU A16.out).mono ?_); (case sideU => first | exact HU.out | exact Uni.up HU (Bu HB) | exact Uni.below HU.out (by assumption)); rintro e w40 ⟨v246, rfl, ho0, hb⟩; refine ⟨_, rfl, ?_⟩; have n0_ := Aside0.mk (Kd.R_lower ho0 (Bz HB)); have n1_ := Bs HB hb; clear HB; revert n0_ n1_; intro HO247 HB; (try clear hb); (try clear hb2); (try clear hk); (try clear hi); (try clear ho0)) | ((with_reducible refine gate_callee (f := 19) rfl ?_); refine goesA (some 52) Tryd.func19 #[.slice A0 l0.length c0] rfl ?_; (with_reducible refine (lanyardref03_Query.calls k2 _ _ l0 t248 _ ?side1 ?side2 A17.out).mono ?_); (case side1 => exact Cu (Kd.C_below HR0.out HB.out)); (case side2 => exact HC0.out); rintro e w41 ⟨rfl, hb⟩; refine ⟨_, rfl, ?_⟩; have n0_ := Rb HO247 hb; have n1_ := Bs HB hb; clear HO247 HB; revert n0_ n1_; intro HO247 HB; (try clear hb); (try clear hb2); (try clear hk); (try clear hi); obtain ⟨Ao42, co42, eo42⟩ := Kd.R_slice HO247.out; subst eo42) | ((with_reducible refine gate_callee (f := 15) rfl ?_); refine goesA (some 67) Tryd.func15 #[.slice Ao42 t244.length co42, .string a1] rfl ?_; (with_reducible refine (escape_Get.calls k2 _ _ t244 a1 t249 t250 _ ?side1 ?side2 A28.out).mono ?_); (case side1 => exact Cu (Kd.R_reads' HO247.out).2.2); (case side2 => exact (Kd.R_reads' HO247.out).2.1); rintro e w43 ⟨rfl, hb⟩; refine ⟨_, rfl, ?_⟩; have n0_ := Rb HO247 hb; have n1_ := Bs HB hb; clear HO247 HB; revert n0_ n1_; intro HO247 HB; (try clear hb); (try clear hb2); (try clear hk); (try clear hi)) | ((with_reducible refine gate_callee (f := 16) rfl ?_); refine goesA (some 73) Tryd.func16 #[.slice A0 l0.length c0, .string a1] rfl ?_; (with_reducible refine (lanyardref03_Get.calls k2 _ _ l0 a1 t251 t252 _ ?side1 ?side2 A29.out).mono ?_); (case side1 => exact Cu (Kd.C_below HR0.out HB.out)); (case side2 => exact HC0.out); rintro e w' ⟨rfl, ⟨nd, rfl⟩⟩; refine ⟨_, rfl, ?_⟩) | (go_at_call 17; (with_reducible refine (lanyardref03_Same.calls k2 _ _ t244 _ _ l0 true _ ?side1 ?side2 ?side3 ?side4 A31.out).mono ?_); (case side1 => exact Cu (Kd.R_reads' HO247.out).2.2); (case side2 => exact (Kd.R_reads' HO247.out).2.1); (case side3 => repeat (first | exact (Kd.C_below HR0.out (Bu HB)) | (with_reducible refine Kd.C_alloc ?_ _) | (with_reducible refine Kd.C_drewN ?_ _) | (with_reducible refine Kd.C_drew ?_))); (case side4 => exact HC0.out); rintro e w' ⟨rfl, ⟨nd, rfl⟩⟩))
            go_ret
            exact ⟨rfl_, Bu HB⟩
          ·replace c32 := Bool.eq_false_iff.mpr c32
           subst c32
           have H1 : (some false) = some r := by rw [if_neg (show ¬ (false = true) by decide)] at H; exact H
           clear H
           have H := H1
           clear H1
           obtain rfl := Option.some.inj H
           go_wp2_with (first | ((with_reducible refine gate_callee (f := 18) rfl ?_); refine goesA (some 44) Tryd.func18 #[.slice A0 l0.length c0] rfl ?_; (with_reducible refine (escape_Query.calls k2 _ _ l0 t243 _ ?side1 ?side2 A15.out).mono ?_); (case side1 => exact Cu (Kd.C_below HR0.out HB.out)); (case side2 => exact HC0.out); rintro e w44 ⟨rfl, hb⟩; refine ⟨_, rfl, ?_⟩; have n0_ := Bs HB hb; clear HB; revert n0_; intro HB; (try clear hb); (try clear hb2); (try clear hk); (try clear hi)) | ((with_reducible refine gate_callee (f := 13) rfl ?_); refine goesA (some 47) Tryd.func13 #[.string t243] rfl ?_; (with_reducible refine (escape_ParseQuery.calls k2 t243 t244 t245 _ ?sideU A16.out).mono ?_); (case sideU => first | exact HU.out | exact Uni.up HU (Bu HB) | exact Uni.below HU.out (by assumption)); rintro e w45 ⟨v246, rfl, ho0, hb⟩; refine ⟨_, rfl, ?_⟩; have n0_ := Aside0.mk (Kd.R_lower ho0 (Bz HB)); have n1_ := Bs HB hb; clear HB; revert n0_ n1_; intro HO247 HB; (try clear hb); (try clear hb2); (try clear hk); (try clear hi); (try clear ho0)) | ((with_reducible refine gate_callee (f := 19) rfl ?_); refine goesA (some 52) Tryd.func19 #[.slice A0 l0.length c0] rfl ?_; (with_reducible refine (lanyardref03_Query.calls k2 _ _ l0 t248 _ ?side1 ?side2 A17.out).mono ?_); (case side1 => exact Cu (Kd.C_below HR0.out HB.out)); (case side2 => exact HC0.out); rintro e w46 ⟨rfl, hb⟩; refine ⟨_, rfl, ?_⟩; have n0_ := Rb HO247 hb; have n1_ := Bs HB hb; clear HO247 HB; revert n0_ n1_; intro HO247 HB; (try clear hb); (try clear hb2); (try clear hk); (try clear hi); obtain ⟨Ao47, co47, eo47⟩ := Kd.R_slice HO247.out; subst eo47) | ((with_reducible refine gate_callee (f := 15) rfl ?_); refine goesA (some 67) Tryd.func15 #[.slice Ao47 t244.length co47, .string a1] rfl ?_; (with_reducible refine (escape_Get.calls k2 _ _ t244 a1 t249 t250 _ ?side1 ?side2 A28.out).mono ?_); (case side1 => exact Cu (Kd.R_reads' HO247.out).2.2); (case side2 => exact (Kd.R_reads' HO247.out).2.1); rintro e w48 ⟨rfl, hb⟩; refine ⟨_, rfl, ?_⟩; have n0_ := Rb HO247 hb; have n1_ := Bs HB hb; clear HO247 HB; revert n0_ n1_; intro HO247 HB; (try clear hb); (try clear hb2); (try clear hk); (try clear hi)) | ((with_reducible refine gate_callee (f := 16) rfl ?_); refine goesA (some 73) Tryd.func16 #[.slice A0 l0.length c0, .string a1] rfl ?_; (with_reducible refine (lanyardref03_Get.calls k2 _ _ l0 a1 t251 t252 _ ?side1 ?side2 A29.out).mono ?_); (case side1 => exact Cu (Kd.C_below HR0.out HB.out)); (case side2 => exact HC0.out); rintro e w' ⟨rfl, ⟨nd, rfl⟩⟩; refine ⟨_, rfl, ?_⟩) | (go_at_call 17; (with_reducible refine (lanyardref03_Same.calls k2 _ _ t244 _ _ l0 false _ ?side1 ?side2 ?side3 ?side4 A31.out).mono ?_); (case side1 => exact Cu (Kd.R_reads' HO247.out).2.2); (case side2 => exact (Kd.R_reads' HO247.out).2.1); (case side3 => repeat (first | exact (Kd.C_below HR0.out (Bu HB)) | (with_reducible refine Kd.C_alloc ?_ _) | (with_reducible refine Kd.C_drewN ?_ _) | (with_reducible refine Kd.C_drew ?_))); (case side4 => exact HC0.out); rintro e w' ⟨rfl, ⟨nd, rfl⟩⟩))
           go_ret
           exact ⟨rfl_, Bu HB⟩
         ·rw [if_neg c30] at H
          have c30b0 : (t245 == 0) = false := beq_eq_false_iff_ne.mpr c30
          have c30b1 : (t245 != 0) = true := bne_iff_ne.mpr c30
          obtain rfl := Option.some.inj H
          go_wp2_with (first | ((with_reducible refine gate_callee (f := 18) rfl ?_); refine goesA (some 44) Tryd.func18 #[.slice A0 l0.length c0] rfl ?_; (with_reducible refine (escape_Query.calls k2 _ _ l0 t243 _ ?side1 ?side2 A15.out).mono ?_); (case side1 => exact Cu (Kd.C_below HR0.out HB.out)); (case side2 => exact HC0.out); rintro e w49 ⟨rfl, hb⟩; refine ⟨_, rfl, ?_⟩; have n0_ := Bs HB hb; clear HB; revert n0_; intro HB; (try clear hb); (try clear hb2); (try clear hk); (try clear hi)) | ((with_reducible refine gate_callee (f := 13) rfl ?_); refine goesA (some 47) Tryd.func13 #[.string t243] rfl ?_; (with_reducible refine (escape_ParseQuery.calls k2 t243 t244 t245 _ ?sideU A16.out).mono ?_); (case sideU => first | exact HU.out | exact Uni.up HU (Bu HB) | exact Uni.below HU.out (by assumption)); rintro e w50 ⟨v246, rfl, ho0, hb⟩; refine ⟨_, rfl, ?_⟩; have n0_ := Aside0.mk (Kd.R_lower ho0 (Bz HB)); have n1_ := Bs HB hb; clear HB; revert n0_ n1_; intro HO247 HB; (try clear hb); (try clear hb2); (try clear hk); (try clear hi); (try clear ho0)) | ((with_reducible refine gate_callee (f := 19) rfl ?_); refine goesA (some 52) Tryd.func19 #[.slice A0 l0.length c0] rfl ?_; (with_reducible refine (lanyardref03_Query.calls k2 _ _ l0 t248 _ ?side1 ?side2 A17.out).mono ?_); (case side1 => exact Cu (Kd.C_below HR0.out HB.out)); (case side2 => exact HC0.out); rintro e w51 ⟨rfl, hb⟩; refine ⟨_, rfl, ?_⟩; have n0_ := Rb HO247 hb; have n1_ := Bs HB hb; clear HO247 HB; revert n0_ n1_; intro HO247 HB; (try clear hb); (try clear hb2); (try clear hk); (try clear hi); obtain ⟨Ao52, co52, eo52⟩ := Kd.R_slice HO247.out; subst eo52) | ((with_reducible refine gate_callee (f := 15) rfl ?_); refine goesA (some 67) Tryd.func15 #[.slice Ao52 t244.length co52, .string a1] rfl ?_; (with_reducible refine (escape_Get.calls k2 _ _ t244 a1 t249 t250 _ ?side1 ?side2 A28.out).mono ?_); (case side1 => exact Cu (Kd.R_reads' HO247.out).2.2); (case side2 => exact (Kd.R_reads' HO247.out).2.1); rintro e w53 ⟨rfl, hb⟩; refine ⟨_, rfl, ?_⟩; have n0_ := Rb HO247 hb; have n1_ := Bs HB hb; clear HO247 HB; revert n0_ n1_; intro HO247 HB; (try clear hb); (try clear hb2); (try clear hk); (try clear hi)) | ((with_reducible refine gate_callee (f := 16) rfl ?_); refine goesA (some 73) Tryd.func16 #[.slice A0 l0.length c0, .string a1] rfl ?_; (with_reducible refine (lanyardref03_Get.calls k2 _ _ l0 a1 t251 t252 _ ?side1 ?side2 A29.out).mono ?_); (case side1 => exact Cu (Kd.C_below HR0.out HB.out)); (case side2 => exact HC0.out); rintro e w' ⟨rfl, ⟨nd, rfl⟩⟩; refine ⟨_, rfl, ?_⟩))
          go_ret
          exact ⟨rfl_, Bu HB⟩
       ·rw [if_neg c18] at H
        have c18b0 : (t243.toList == t248.toList) = false := beq_eq_false_iff_ne.mpr c18
        have c18b1 : (t243.toList != t248.toList) = true := bne_iff_ne.mpr c18
        obtain rfl := Option.some.inj H
        go_wp2_with (first | ((with_reducible refine gate_callee (f := 18) rfl ?_); refine goesA (some 44) Tryd.func18 #[.slice A0 l0.length c0] rfl ?_; (with_reducible refine (escape_Query.calls k2 _ _ l0 t243 _ ?side1 ?side2 A15.out).mono ?_); (case side1 => exact Cu (Kd.C_below HR0.out HB.out)); (case side2 => exact HC0.out); rintro e w54 ⟨rfl, hb⟩; refine ⟨_, rfl, ?_⟩; have n0_ := Bs HB hb; clear HB; revert n0_; intro HB; (try clear hb); (try clear hb2); (try clear hk); (try clear hi)) | ((with_reducible refine gate_callee (f := 13) rfl ?_); refine goesA (some 47) Tryd.func13 #[.string t243] rfl ?_; (with_reducible refine (escape_ParseQuery.calls k2 t243 t244 t245 _ ?sideU A16.out).mono ?_); (case sideU => first | exact HU.out | exact Uni.up HU (Bu HB) | exact Uni.below HU.out (by assumption)); rintro e w55 ⟨v246, rfl, ho0, hb⟩; refine ⟨_, rfl, ?_⟩; have n0_ := Aside0.mk (Kd.R_lower ho0 (Bz HB)); have n1_ := Bs HB hb; clear HB; revert n0_ n1_; intro HO247 HB; (try clear hb); (try clear hb2); (try clear hk); (try clear hi); (try clear ho0)) | ((with_reducible refine gate_callee (f := 19) rfl ?_); refine goesA (some 52) Tryd.func19 #[.slice A0 l0.length c0] rfl ?_; (with_reducible refine (lanyardref03_Query.calls k2 _ _ l0 t248 _ ?side1 ?side2 A17.out).mono ?_); (case side1 => exact Cu (Kd.C_below HR0.out HB.out)); (case side2 => exact HC0.out); rintro e w56 ⟨rfl, hb⟩; refine ⟨_, rfl, ?_⟩; have n0_ := Rb HO247 hb; have n1_ := Bs HB hb; clear HO247 HB; revert n0_ n1_; intro HO247 HB; (try clear hb); (try clear hb2); (try clear hk); (try clear hi)))
        go_ret
        exact ⟨rfl_, Bu HB⟩

      case a89_ | b89_ =>
       go_wp2
       go_ret
       exact ⟨rfl_, Bu HB⟩
/-- THE ONE PURE STATEMENT of lanyardlaw03_FormPairs: yours. -/
def lanyardlaw03_FormPairs.Pure : Prop := ∀ (l0 : List (S40)) (a1 : ByteArray), l0.length ≤ maxLen → (∀ x ∈ l0, (x.f0.size ≤ maxLen) ∧ (x.f1.size ≤ maxLen)) → a1.size ≤ 140737488351232 → ∃ k, lanyardlaw03_FormPairs.f k l0 a1 = some true
theorem lanyardlaw03_FormPairs.walk (P : lanyardlaw03_FormPairs.Pure) (a0 : Option Addr) (cap0 : Nat) (l0 : List (S40)) (a1 : ByteArray) (w : World) (w0 : Kd.C k40 w a0 l0.length l0) (y0 : l0.length ≤ cap0) (m0 : l0.length ≤ maxLen) (g0 : ∀ x ∈ l0, (x.f0.size ≤ maxLen) ∧ (x.f1.size ≤ maxLen)) (w1 : a1.size ≤ 140737488351232) (hU : Uni w) :
  Calls Tryd.prog 5 #[.slice a0 l0.length cap0, .string a1] w fun e w' => e = .returned (.bool true) ∧ Below w.heap.size w w' := by
 obtain ⟨k, h⟩ := P l0 a1 m0 g0 w1
 refine (lanyardlaw03_FormPairs.calls k _ _ l0 a1 true w w0 y0 hU h).mono ?_
 rintro e w' ⟨rfl, hd⟩
 exact ⟨rfl, hd⟩

end Go.Proofs.YtjmcdocoogdbiaaDoor.Hp
