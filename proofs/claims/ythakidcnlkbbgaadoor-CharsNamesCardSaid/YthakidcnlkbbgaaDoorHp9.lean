/- Go functions of this seat as Lean functions, and their contracts: what the Go code computes, for every input. (By hp.py, a program of this repo, over the kit's print.py.) -/
import Derived.Test.YthakidcnlkbbgaaDoorHp0
import Derived.Test.YthakidcnlkbbgaaDoorHp2
import Derived.Test.YthakidcnlkbbgaaDoorHp5
namespace Go.Proofs.YthakidcnlkbbgaaDoor.Hp
open Go.RowKit Go.Proofs.YthakidcnlkbbgaaDoorW.PrintWords Go.Proofs.YthakidcnlkbbgaaDoorW.PrintLast Go.Proofs.YthakidcnlkbbgaaDoorW.PrintMore
attribute [local go_sem] max2_int min2_int max_two min_two max_three min_three max_four min_four   -- for this text's walks alone
set_option linter.unusedVariables false
set_option linter.unusedSimpArgs false

/-! ### lanyardlaw01_CharsNames: function 4 -/
mutual
def lanyardlaw01_CharsNames.j0 : Nat → List ByteArray → Bool → Option (Bool)
 | 0, _, _ => none
 | k + 1, x0, x12 => if x12 = true then ((lanyardlaw01_awake.f k).bind fun t229 => (some t229)) else (lanyardlaw01_CharsNames.l0 k x0 true 0)
def lanyardlaw01_CharsNames.l0 : Nat → List ByteArray → Bool → Int → Option (Bool)
 | 0, _, _, _ => none
 | k + 1, x0, x3, x4 => if x4 < (x0.length : Int) then (if 0 ≤ x4 then (if ((rdOf ByteArray.empty x0 x4).size : Int) > 1000 then (some true) else ((lanyardref01_Name.f k (rdOf ByteArray.empty x0 x4)).bind fun t233 => ((chars_Name.f k (([rdOf ByteArray.empty x0 x4] : List ByteArray))).bind fun t238 => (if (t238 != t233) = true then (some false) else (if x3 = true then (lanyardlaw01_CharsNames.l0 k x0 t233 (wrap64 (x4 + 1))) else (lanyardlaw01_CharsNames.l0 k x0 false (wrap64 (x4 + 1)))))))) else (none)) else ((chars_Name.f k x0).bind fun t230 => (some (t230 == x3)))
end
def lanyardlaw01_CharsNames.f (k : Nat) (l0 : List ByteArray) : Option (Bool) := (lanyardlaw01_awake.f k).bind fun t228 => (if t228 = true then (lanyardlaw01_CharsNames.j0 k l0 (decide ((l0.length : Int) > 50))) else (lanyardlaw01_CharsNames.j0 k l0 true))
theorem lanyardlaw01_CharsNames.mono_l : ∀ k, (∀ y0 y1, LeO (lanyardlaw01_CharsNames.j0 k y0 y1) (lanyardlaw01_CharsNames.j0 (k + 1) y0 y1)) ∧ (∀ y0 y1 y2, LeO (lanyardlaw01_CharsNames.l0 k y0 y1 y2) (lanyardlaw01_CharsNames.l0 (k + 1) y0 y1 y2))
 | 0 => ⟨fun _ _ r h => by simp [lanyardlaw01_CharsNames.j0] at h, fun _ _ _ r h => by simp [lanyardlaw01_CharsNames.l0] at h⟩
 | k + 1 => by
  obtain ⟨ih0, ih1⟩ := lanyardlaw01_CharsNames.mono_l k
  refine ⟨?_, ?_⟩
  ·intro y0 y1
   unfold lanyardlaw01_CharsNames.j0
   repeat' first
   | (with_reducible exact ih0 _ _)
   | (with_reducible exact ih1 _ _ _)
   | (with_reducible exact chars_Name.mono _ _)
   | (with_reducible exact lanyardlaw01_awake.mono _)
   | (with_reducible exact lanyardref01_Name.mono _ _)
   | (with_reducible exact LeO.refl _)
   | (with_reducible exact LeO.none _)
   | (with_reducible refine LeO.ite ?_ ?_)
   | (with_reducible refine LeO.bind ?_ (fun _ => ?_))
   | exact ih0 _ _
   | exact ih1 _ _ _
   | exact chars_Name.mono _ _
   | exact lanyardlaw01_awake.mono _
   | exact lanyardref01_Name.mono _ _
   | exact LeO.none _
   | refine LeO.ite ?_ ?_
   | refine LeO.bind ?_ (fun _ => ?_)
  ·intro y0 y1 y2
   unfold lanyardlaw01_CharsNames.l0
   repeat' first
   | (with_reducible exact ih0 _ _)
   | (with_reducible exact ih1 _ _ _)
   | (with_reducible exact chars_Name.mono _ _)
   | (with_reducible exact lanyardlaw01_awake.mono _)
   | (with_reducible exact lanyardref01_Name.mono _ _)
   | (with_reducible exact LeO.refl _)
   | (with_reducible exact LeO.none _)
   | (with_reducible refine LeO.ite ?_ ?_)
   | (with_reducible refine LeO.bind ?_ (fun _ => ?_))
   | exact ih0 _ _
   | exact ih1 _ _ _
   | exact chars_Name.mono _ _
   | exact lanyardlaw01_awake.mono _
   | exact lanyardref01_Name.mono _ _
   | exact LeO.none _
   | refine LeO.ite ?_ ?_
   | refine LeO.bind ?_ (fun _ => ?_)
theorem lanyardlaw01_CharsNames.mono : ∀ a0 k, LeO (lanyardlaw01_CharsNames.f k a0) (lanyardlaw01_CharsNames.f (k + 1) a0) := by
 intro a0 k
 obtain ⟨ih0, ih1⟩ := lanyardlaw01_CharsNames.mono_l k
 unfold lanyardlaw01_CharsNames.f
 repeat' first
   | (with_reducible exact ih0 _ _)
   | (with_reducible exact ih1 _ _ _)
   | (with_reducible exact chars_Name.mono _ _)
   | (with_reducible exact lanyardlaw01_awake.mono _)
   | (with_reducible exact lanyardref01_Name.mono _ _)
   | (with_reducible exact LeO.refl _)
   | (with_reducible exact LeO.none _)
   | (with_reducible refine LeO.ite ?_ ?_)
   | (with_reducible refine LeO.bind ?_ (fun _ => ?_))
   | exact ih0 _ _
   | exact ih1 _ _ _
   | exact chars_Name.mono _ _
   | exact lanyardlaw01_awake.mono _
   | exact lanyardref01_Name.mono _ _
   | exact LeO.none _
   | refine LeO.ite ?_ ?_
   | refine LeO.bind ?_ (fun _ => ?_)
set_option maxHeartbeats 8000000 in
set_option maxRecDepth 100000 in
theorem lanyardlaw01_CharsNames.calls (k : Nat) (A0 : Option Addr) (c0 : Nat) (l0 : List ByteArray) (r : Bool) (w : World) (hr0 : Kd.C Kd.string w A0 l0.length l0) (hc0 : l0.length ≤ c0) (hU : Uni w) (h : lanyardlaw01_CharsNames.f k l0 = some r) :
  Calls Tryd.prog 4 #[.slice A0 l0.length c0] w fun e w' => e = .returned (.bool r) ∧ Below w.heap.size w w' := by
 have HU := Aside0.mk hU
 clear hU
 have HR0 := Aside0.mk hr0
 have HC0 := Aside0.mk hc0
 clear hr0 hc0
 have HB := Aside0.mk (Below.refl w.heap.size w)
 have H : ((lanyardlaw01_awake.f k).bind fun t228 => (if t228 = true then (lanyardlaw01_CharsNames.j0 k l0 (decide ((l0.length : Int) > 50))) else (lanyardlaw01_CharsNames.j0 k l0 true))) = some r := h
 clear h
 have HC2 := Aside0.mk H
 clear H
 go_enter Tryd.func4, Tryd.ntmps4
 go_upto_region 1 with (fail)
 go_cut [12] (fun v12 wc => ∃ (kq : Nat) (x12_1 : Bool), v12 = .bool x12_1 ∧ Aside0 (lanyardlaw01_CharsNames.j0 kq l0 x12_1 = some r) ∧ Aside0 (kq ≤ k) ∧ Aside0 (Below w.heap.size w wc))
 case first =>
  have H := HC2.out
  clear HC2
  replace H := Option.bind_eq_some_iff.mp H
  obtain ⟨t228, A30, H⟩ := H
  replace H : (if t228 = true then (lanyardlaw01_CharsNames.j0 k l0 (decide ((l0.length : Int) > 50))) else (lanyardlaw01_CharsNames.j0 k l0 true)) = some r := H
  have A3 := Aside0.mk A30
  clear A30
  by_cases c4 : t228 = true
  ·subst c4
   have H1 : (lanyardlaw01_CharsNames.j0 k l0 (decide ((l0.length : Int) > 50))) = some r := by rw [if_pos rfl] at H; exact H
   clear H
   have H := H1
   clear H1
   have H' := Aside0.mk H
   clear H
   go_wp2_with (first | ((with_reducible refine gate_callee (f := 8) rfl ?_); refine goesA (some 6) Tryd.func8 #[] rfl ?_; (with_reducible refine (lanyardlaw01_awake.calls k  true _ ?sideU A3.out).mono ?_); (case sideU => first | exact HU.out | exact Uni.up HU (Bu HB) | exact Uni.below HU.out (by assumption)); rintro e w5 ⟨rfl, hb⟩; refine ⟨_, rfl, ?_⟩; have n0_ := Bs HB hb; clear HB; revert n0_; intro HB; (try clear hb); (try clear hb2); (try clear hk); (try clear hi)))
   go_meet
   case rel => exact ⟨_, (decide ((l0.length : Int) > 50)), (by first | rfl | (simp; done) | (simp [*]; done)), H', ⟨by first | omega | exact Nat.le_refl _⟩, ⟨Bu HB⟩⟩
  ·replace c4 := Bool.eq_false_iff.mpr c4
   subst c4
   have H1 : (lanyardlaw01_CharsNames.j0 k l0 true) = some r := by rw [if_neg (show ¬ (false = true) by decide)] at H; exact H
   clear H
   have H := H1
   clear H1
   have H' := Aside0.mk H
   clear H
   go_wp2_with (first | ((with_reducible refine gate_callee (f := 8) rfl ?_); refine goesA (some 6) Tryd.func8 #[] rfl ?_; (with_reducible refine (lanyardlaw01_awake.calls k  false _ ?sideU A3.out).mono ?_); (case sideU => first | exact HU.out | exact Uni.up HU (Bu HB) | exact Uni.below HU.out (by assumption)); rintro e w6 ⟨rfl, hb⟩; refine ⟨_, rfl, ?_⟩; have n0_ := Bs HB hb; clear HB; revert n0_; intro HB; (try clear hb); (try clear hb2); (try clear hk); (try clear hi)))
   go_meet
   case rel => exact ⟨_, (true), (by first | rfl | (simp; done) | (simp [*]; done)), H', ⟨by first | omega | exact Nat.le_refl _⟩, ⟨Bu HB⟩⟩
 case rest =>
  clear HC2
  try clear p2
  try clear c4
  obtain ⟨kq, x12_1, rfl, HA, HJ1, HB⟩ := hcut
  cases kq with
  | zero => exact absurd HA.out (by simp [lanyardlaw01_CharsNames.j0])
  | succ kj1 =>
   have H := HA.out
   clear HA
   simp only [lanyardlaw01_CharsNames.j0] at H
   by_cases c7 : x12_1 = true
   ·subst c7
    have H1 : ((lanyardlaw01_awake.f kj1).bind fun t229 => (some t229)) = some r := by rw [if_pos rfl] at H; exact H
    clear H
    have H := H1
    clear H1
    replace H := Option.bind_eq_some_iff.mp H
    obtain ⟨t229, A80, H⟩ := H
    replace H : (some t229) = some r := H
    have A8 := Aside0.mk A80
    clear A80
    obtain rfl := Option.some.inj H
    go_wp2_with (first | ((with_reducible refine gate_callee (f := 8) rfl ?_); refine goesA (some 13) Tryd.func8 #[] rfl ?_; (with_reducible refine (lanyardlaw01_awake.calls kj1  t229 _ ?sideU A8.out).mono ?_); (case sideU => first | exact HU.out | exact Uni.up HU (Bu HB) | exact Uni.below HU.out (by assumption)); rintro e w9 ⟨rfl, hb⟩; refine ⟨_, rfl, ?_⟩; have n0_ := Bs HB hb; clear HB; revert n0_; intro HB; (try clear hb); (try clear hb2); (try clear hk); (try clear hi)))
    go_ret
    exact ⟨rfl_, Bu HB⟩
   ·replace c7 := Bool.eq_false_iff.mpr c7
    subst c7
    have H1 : (lanyardlaw01_CharsNames.l0 kj1 l0 true 0) = some r := by rw [if_neg (show ¬ (false = true) by decide)] at H; exact H
    clear H
    have H := H1
    clear H1
    have H' := Aside0.mk H
    clear H
    go_wp2
    go_loopg [3, 4] kj1 (fun kq v3 v4 w' => ∃ (x3_2 : Bool) (x4_2 : Int), v3 = .bool x3_2 ∧ v4 = .int .i64 x4_2 ∧ Aside0 (lanyardlaw01_CharsNames.l0 kq l0 x3_2 x4_2 = some r) ∧ Aside0 (kq ≤ kj1) ∧ Aside0 (Below w.heap.size w w'))
    case atStart => exact ⟨(true), (0), (by first | rfl | (simp; done) | (simp [*]; done)), (by first | rfl | (simp; done) | (simp [*]; done)), H', ⟨Nat.le_refl _⟩, ⟨Bu HB⟩⟩
    case round =>
     clear H'
     try clear p2
     try clear c4
     try clear c7
     try clear c8
     try clear p2
     obtain ⟨x3_2, x4_2, rfl, rfl, HA, HK2, HB⟩ := hrel
     cases gk with
     | zero => exact absurd HA.out (by simp [lanyardlaw01_CharsNames.l0])
     | succ k2 =>
      have H := HA.out
      clear HA
      simp only [lanyardlaw01_CharsNames.l0] at H
      by_cases c10 : x4_2 < (l0.length : Int)
      ·rw [if_pos c10] at H
       have c10b0 : decide (x4_2 < (l0.length : Int)) = true := decide_eq_true c10
       clear c10
       by_cases c11 : 0 ≤ x4_2
       ·rw [if_pos c11] at H
        have c11b0 : decide (0 ≤ x4_2) = true := decide_eq_true c11
        clear c11
        by_cases c12 : ((rdOf ByteArray.empty l0 x4_2).size : Int) > 1000
        ·rw [if_pos c12] at H
         have c12b0 : decide (1000 < ((rdOf ByteArray.empty l0 x4_2).size : Int)) = true := decide_eq_true c12
         have c12b1 : decide (1000 < (rdOf ByteArray.empty l0 x4_2).size) = true := decide_eq_true (by omega)
         clear c12
         obtain rfl := Option.some.inj H
         have p231 : 0 ≤ (x4_2 : Int) := of_decide_eq_true (by first | (with_reducible assumption) | assumption)
         have q231 : x4_2 < (l0.length : Int) := of_decide_eq_true (by first | (with_reducible assumption) | assumption)
         obtain ⟨ad231, e231, hx231_0⟩ := Kd.at_string HR0.out x4_2 p231 q231
         cases e231
         replace hx231_0 := (HB.out.cell (World.block_lt_of_cell? w _ hx231_0)).trans hx231_0
         replace p231 := eq_true p231
         replace q231 := eq_true q231
         go_wp2
         go_ret
         exact ⟨rfl_, Bu HB⟩
        ·rw [if_neg c12] at H
         have c12b0 : decide (1000 < ((rdOf ByteArray.empty l0 x4_2).size : Int)) = false := decide_eq_false c12
         have c12b1 : decide (1000 < (rdOf ByteArray.empty l0 x4_2).size) = false := decide_eq_false (by omega)
         clear c12
         replace H := Option.bind_eq_some_iff.mp H
         obtain ⟨t233, A130, H⟩ := H
         replace H : ((chars_Name.f k2 (([rdOf ByteArray.empty l0 x4_2] : List ByteArray))).bind fun t238 => (if (t238 != t233) = true then (some false) else (if x3_2 = true then (lanyardlaw01_CharsNames.l0 k2 l0 t233 (wrap64 (x4_2 + 1))) else (lanyardlaw01_CharsNames.l0 k2 l0 false (wrap64 (x4_2 + 1)))))) = some r := H
         have A13 := Aside0.mk A130
         clear A130
         obtain ⟨y235, hy235⟩ : ∃ y_ : List ByteArray, y_ = (([rdOf ByteArray.empty l0 x4_2] : List ByteArray)) := ⟨_, rfl⟩
         replace H : ((chars_Name.f k2 y235).bind fun t238 => (if (t238 != t233) = true then (some false) else (if x3_2 = true then (lanyardlaw01_CharsNames.l0 k2 l0 t233 (wrap64 (x4_2 + 1))) else (lanyardlaw01_CharsNames.l0 k2 l0 false (wrap64 (x4_2 + 1)))))) = some r := by first | (rw [hy235]; with_reducible exact H) | (have H2_ := (Option.bind_some _ _).symm.trans H; rw [hy235]; with_reducible exact H2_) | (have H2_ := (Option.bind_some _ _).symm.trans H; with_reducible exact H2_) | with_reducible exact H | (rw [hy235]; exact H) | exact H
         have Ny235 := Aside0.mk hy235
         clear hy235
         replace H := Option.bind_eq_some_iff.mp H
         obtain ⟨t238, A140, H⟩ := H
         replace H : (if (t238 != t233) = true then (some false) else (if x3_2 = true then (lanyardlaw01_CharsNames.l0 k2 l0 t233 (wrap64 (x4_2 + 1))) else (lanyardlaw01_CharsNames.l0 k2 l0 false (wrap64 (x4_2 + 1))))) = some r := H
         have A14 := Aside0.mk A140
         clear A140
         by_cases c15 : (t238 != t233) = true
         ·rw [if_pos c15] at H
          have c15b0 : (t238 != t233) = true := c15
          (try (have c15b1 : decide (t238 = t233) = false := by simpa using c15))
          (try (have c15b2 : (t238 == t233) = false := by simpa using c15))
          (try (have c15b3 : ¬ (t238 = t233) := by simpa using c15))
          clear c15
          obtain rfl := Option.some.inj H
          have p231 : 0 ≤ (x4_2 : Int) := of_decide_eq_true (by first | (with_reducible assumption) | assumption)
          have q231 : x4_2 < (l0.length : Int) := of_decide_eq_true (by first | (with_reducible assumption) | assumption)
          obtain ⟨ad231, e231, hx231_0⟩ := Kd.at_string HR0.out x4_2 p231 q231
          cases e231
          replace hx231_0 := (HB.out.cell (World.block_lt_of_cell? w _ hx231_0)).trans hx231_0
          replace p231 := eq_true p231
          replace q231 := eq_true q231
          have p232 : 0 ≤ (x4_2 : Int) := of_decide_eq_true (by first | (with_reducible assumption) | assumption)
          have q232 : x4_2 < (l0.length : Int) := of_decide_eq_true (by first | (with_reducible assumption) | assumption)
          obtain ⟨ad232, e232, hx232_0⟩ := Kd.at_string HR0.out x4_2 p232 q232
          obtain rfl : ad231 = ad232 := (by injection e232)
          replace hx232_0 := (HB.out.cell (World.block_lt_of_cell? w _ hx232_0)).trans hx232_0
          replace p232 := eq_true p232
          replace q232 := eq_true q232
          go_wp2_with (first | ((with_reducible refine gate_callee (f := 11) rfl ?_); refine goesA (some 30) Tryd.func11 #[.string (rdOf ByteArray.empty l0 x4_2)] rfl ?_; (with_reducible refine (lanyardref01_Name.calls k2 (rdOf ByteArray.empty l0 x4_2) t233 _ A13.out).mono ?_); rintro e w16 ⟨rfl, hb⟩; refine ⟨_, rfl, ?_⟩; have n0_ := Bs HB hb; clear HB; revert n0_; intro HB; (try clear hb); (try clear hb2); (try clear hk); (try clear hi); have p234 : 0 ≤ (x4_2 : Int) := of_decide_eq_true (by first | (with_reducible assumption) | assumption); have q234 : x4_2 < (l0.length : Int) := of_decide_eq_true (by first | (with_reducible assumption) | assumption); obtain ⟨ad234, e234, hx234_0⟩ := Kd.at_string HR0.out x4_2 p234 q234; obtain rfl : ad231 = ad234 := (by injection e234); replace hx234_0 := (HB.out.cell (World.block_lt_of_cell? w _ hx234_0)).trans hx234_0; replace p234 := eq_true p234; replace q234 := eq_true q234) | ((with_reducible refine gate_dst (N := 35) rfl ?_); (try (refine gate_guard (by rfl) ?_; dsimp only)); refine Kd.R_lit Kd.string _ 9 ?hg (N := 35) ?hd (xs := ([rdOf ByteArray.empty l0 x4_2] : List ByteArray)) (inner := [.string (rdOf ByteArray.empty l0 x4_2)]) (ok := fun _ => True) (okp := fun _ => True) ?hr ?hp (fun _ hk => hk) trivial (Below.refl _ _) (Nat.le_refl _) (by simp) ?_; (case hd => rfl); (case hg => rfl); (case hr => first | (go_simp; done) | (go_simp; rfl)); (case hp => exact (Reps.one (show Kd.M Kd.string _ _ _ (rdOf ByteArray.empty l0 x4_2) [.string (rdOf ByteArray.empty l0 x4_2)] from rfl) (Reps.none _ _))); intro v236 w17 ho18 hb hg_ hnew_; clear hg_ hnew_; (first | rw [← Ny235.out] at ho18 | (simp only [Int.reduceToNat] at ho18; rw [← Ny235.out] at ho18)); have n0_ := Aside0.mk (Kd.R_lower ho18 (Bz HB)); have n1_ := Bs HB hb; clear HB; revert n0_ n1_; intro HO237 HB; clear hb ho18; obtain ⟨Ao19, co19, eo19⟩ := Kd.R_slice HO237.out; subst eo19) | ((with_reducible refine gate_callee (f := 12) rfl ?_); refine goesA (some 36) Tryd.func12 #[.slice Ao19 y235.length co19] rfl ?_; (with_reducible refine (chars_Name.calls k2 _ _ y235 t238 _ ?side1 ?side2 ?sideU A14.out).mono ?_); (case sideU => first | exact HU.out | exact Uni.up HU (Bu HB) | exact Uni.below HU.out (by assumption)); (case side1 => exact Cu (Kd.R_reads' HO237.out).2.2); (case side2 => exact (Kd.R_reads' HO237.out).2.1); rintro e w20 ⟨rfl, hb⟩; refine ⟨_, rfl, ?_⟩; have n0_ := Rb HO237 hb; have n1_ := Bs HB hb; clear HO237 HB; revert n0_ n1_; intro HO237 HB; (try clear hb); (try clear hb2); (try clear hk); (try clear hi)))
          go_ret
          exact ⟨rfl_, Bu HB⟩
         ·rw [if_neg c15] at H
          have c15b0 : (t238 != t233) = false := by simpa using c15
          (try (have c15b1 : decide (t238 = t233) = true := by simpa using c15))
          (try (have c15b2 : (t238 == t233) = true := by simpa using c15))
          clear c15
          by_cases c21 : x3_2 = true
          ·subst c21
           have H1 : (lanyardlaw01_CharsNames.l0 k2 l0 t233 (wrap64 (x4_2 + 1))) = some r := by rw [if_pos rfl] at H; exact H
           clear H
           have H := H1
           clear H1
           have H' := Aside0.mk H
           clear H
           have p231 : 0 ≤ (x4_2 : Int) := of_decide_eq_true (by first | (with_reducible assumption) | assumption)
           have q231 : x4_2 < (l0.length : Int) := of_decide_eq_true (by first | (with_reducible assumption) | assumption)
           obtain ⟨ad231, e231, hx231_0⟩ := Kd.at_string HR0.out x4_2 p231 q231
           cases e231
           replace hx231_0 := (HB.out.cell (World.block_lt_of_cell? w _ hx231_0)).trans hx231_0
           replace p231 := eq_true p231
           replace q231 := eq_true q231
           have p232 : 0 ≤ (x4_2 : Int) := of_decide_eq_true (by first | (with_reducible assumption) | assumption)
           have q232 : x4_2 < (l0.length : Int) := of_decide_eq_true (by first | (with_reducible assumption) | assumption)
           obtain ⟨ad232, e232, hx232_0⟩ := Kd.at_string HR0.out x4_2 p232 q232
           obtain rfl : ad231 = ad232 := (by injection e232)
           replace hx232_0 := (HB.out.cell (World.block_lt_of_cell? w _ hx232_0)).trans hx232_0
           replace p232 := eq_true p232
           replace q232 := eq_true q232
           go_wp2_with (first | ((with_reducible refine gate_callee (f := 11) rfl ?_); refine goesA (some 30) Tryd.func11 #[.string (rdOf ByteArray.empty l0 x4_2)] rfl ?_; (with_reducible refine (lanyardref01_Name.calls k2 (rdOf ByteArray.empty l0 x4_2) t233 _ A13.out).mono ?_); rintro e w22 ⟨rfl, hb⟩; refine ⟨_, rfl, ?_⟩; have n0_ := Bs HB hb; clear HB; revert n0_; intro HB; (try clear hb); (try clear hb2); (try clear hk); (try clear hi); have p234 : 0 ≤ (x4_2 : Int) := of_decide_eq_true (by first | (with_reducible assumption) | assumption); have q234 : x4_2 < (l0.length : Int) := of_decide_eq_true (by first | (with_reducible assumption) | assumption); obtain ⟨ad234, e234, hx234_0⟩ := Kd.at_string HR0.out x4_2 p234 q234; obtain rfl : ad231 = ad234 := (by injection e234); replace hx234_0 := (HB.out.cell (World.block_lt_of_cell? w _ hx234_0)).trans hx234_0; replace p234 := eq_true p234; replace q234 := eq_true q234) | ((with_reducible refine gate_dst (N := 35) rfl ?_); (try (refine gate_guard (by rfl) ?_; dsimp only)); refine Kd.R_lit Kd.string _ 9 ?hg (N := 35) ?hd (xs := ([rdOf ByteArray.empty l0 x4_2] : List ByteArray)) (inner := [.string (rdOf ByteArray.empty l0 x4_2)]) (ok := fun _ => True) (okp := fun _ => True) ?hr ?hp (fun _ hk => hk) trivial (Below.refl _ _) (Nat.le_refl _) (by simp) ?_; (case hd => rfl); (case hg => rfl); (case hr => first | (go_simp; done) | (go_simp; rfl)); (case hp => exact (Reps.one (show Kd.M Kd.string _ _ _ (rdOf ByteArray.empty l0 x4_2) [.string (rdOf ByteArray.empty l0 x4_2)] from rfl) (Reps.none _ _))); intro v236 w23 ho24 hb hg_ hnew_; clear hg_ hnew_; (first | rw [← Ny235.out] at ho24 | (simp only [Int.reduceToNat] at ho24; rw [← Ny235.out] at ho24)); have n0_ := Aside0.mk (Kd.R_lower ho24 (Bz HB)); have n1_ := Bs HB hb; clear HB; revert n0_ n1_; intro HO237 HB; clear hb ho24; obtain ⟨Ao25, co25, eo25⟩ := Kd.R_slice HO237.out; subst eo25) | ((with_reducible refine gate_callee (f := 12) rfl ?_); refine goesA (some 36) Tryd.func12 #[.slice Ao25 y235.length co25] rfl ?_; (with_reducible refine (chars_Name.calls k2 _ _ y235 t238 _ ?side1 ?side2 ?sideU A14.out).mono ?_); (case sideU => first | exact HU.out | exact Uni.up HU (Bu HB) | exact Uni.below HU.out (by assumption)); (case side1 => exact Cu (Kd.R_reads' HO237.out).2.2); (case side2 => exact (Kd.R_reads' HO237.out).2.1); rintro e w26 ⟨rfl, hb⟩; refine ⟨_, rfl, ?_⟩; have n0_ := Rb HO237 hb; have n1_ := Bs HB hb; clear HO237 HB; revert n0_ n1_; intro HO237 HB; (try clear hb); (try clear hb2); (try clear hk); (try clear hi)))
           go_roundg k2
           case measure => have := HJ1.out; have := HK2.out; omega
           case rel => exact ⟨(t233), (wrap64 (x4_2 + 1)), (by first | rfl | (simp; done) | (simp [*]; done)), (by first | rfl | (simp; done) | (simp [*]; done)), H', ⟨by have := HJ1.out; have := HK2.out; omega⟩, ⟨Bu HB⟩⟩
          ·replace c21 := Bool.eq_false_iff.mpr c21
           subst c21
           have H1 : (lanyardlaw01_CharsNames.l0 k2 l0 false (wrap64 (x4_2 + 1))) = some r := by rw [if_neg (show ¬ (false = true) by decide)] at H; exact H
           clear H
           have H := H1
           clear H1
           have H' := Aside0.mk H
           clear H
           have p231 : 0 ≤ (x4_2 : Int) := of_decide_eq_true (by first | (with_reducible assumption) | assumption)
           have q231 : x4_2 < (l0.length : Int) := of_decide_eq_true (by first | (with_reducible assumption) | assumption)
           obtain ⟨ad231, e231, hx231_0⟩ := Kd.at_string HR0.out x4_2 p231 q231
           cases e231
           replace hx231_0 := (HB.out.cell (World.block_lt_of_cell? w _ hx231_0)).trans hx231_0
           replace p231 := eq_true p231
           replace q231 := eq_true q231
           have p232 : 0 ≤ (x4_2 : Int) := of_decide_eq_true (by first | (with_reducible assumption) | assumption)
           have q232 : x4_2 < (l0.length : Int) := of_decide_eq_true (by first | (with_reducible assumption) | assumption)
           obtain ⟨ad232, e232, hx232_0⟩ := Kd.at_string HR0.out x4_2 p232 q232
           obtain rfl : ad231 = ad232 := (by injection e232)
           replace hx232_0 := (HB.out.cell (World.block_lt_of_cell? w _ hx232_0)).trans hx232_0
           replace p232 := eq_true p232
           replace q232 := eq_true q232
           go_wp2_with (first | ((with_reducible refine gate_callee (f := 11) rfl ?_); refine goesA (some 30) Tryd.func11 #[.string (rdOf ByteArray.empty l0 x4_2)] rfl ?_; (with_reducible refine (lanyardref01_Name.calls k2 (rdOf ByteArray.empty l0 x4_2) t233 _ A13.out).mono ?_); rintro e w27 ⟨rfl, hb⟩; refine ⟨_, rfl, ?_⟩; have n0_ := Bs HB hb; clear HB; revert n0_; intro HB; (try clear hb); (try clear hb2); (try clear hk); (try clear hi); have p234 : 0 ≤ (x4_2 : Int) := of_decide_eq_true (by first | (with_reducible assumption) | assumption); have q234 : x4_2 < (l0.length : Int) := of_decide_eq_true (by first | (with_reducible assumption) | assumption); obtain ⟨ad234, e234, hx234_0⟩ := Kd.at_string HR0.out x4_2 p234 q234; obtain rfl : ad231 = ad234 := (by injection e234); replace hx234_0 := (HB.out.cell (World.block_lt_of_cell? w _ hx234_0)).trans hx234_0; replace p234 := eq_true p234; replace q234 := eq_true q234) | ((with_reducible refine gate_dst (N := 35) rfl ?_); (try (refine gate_guard (by rfl) ?_; dsimp only)); refine Kd.R_lit Kd.string _ 9 ?hg (N := 35) ?hd (xs := ([rdOf ByteArray.empty l0 x4_2] : List ByteArray)) (inner := [.string (rdOf ByteArray.empty l0 x4_2)]) (ok := fun _ => True) (okp := fun _ => True) ?hr ?hp (fun _ hk => hk) trivial (Below.refl _ _) (Nat.le_refl _) (by simp) ?_; (case hd => rfl); (case hg => rfl); (case hr => first | (go_simp; done) | (go_simp; rfl)); (case hp => exact (Reps.one (show Kd.M Kd.string _ _ _ (rdOf ByteArray.empty l0 x4_2) [.string (rdOf ByteArray.empty l0 x4_2)] from rfl) (Reps.none _ _))); intro v236 w28 ho29 hb hg_ hnew_; clear hg_ hnew_; (first | rw [← Ny235.out] at ho29 | (simp only [Int.reduceToNat] at ho29; rw [← Ny235.out] at ho29)); have n0_ := Aside0.mk (Kd.R_lower ho29 (Bz HB)); have n1_ := Bs HB hb; clear HB; revert n0_ n1_; intro HO237 HB; clear hb ho29; obtain ⟨Ao30, co30, eo30⟩ := Kd.R_slice HO237.out; subst eo30) | ((with_reducible refine gate_callee (f := 12) rfl ?_); refine goesA (some 36) Tryd.func12 #[.slice Ao30 y235.length co30] rfl ?_; (with_reducible refine (chars_Name.calls k2 _ _ y235 t238 _ ?side1 ?side2 ?sideU A14.out).mono ?_); (case sideU => first | exact HU.out | exact Uni.up HU (Bu HB) | exact Uni.below HU.out (by assumption)); (case side1 => exact Cu (Kd.R_reads' HO237.out).2.2); (case side2 => exact (Kd.R_reads' HO237.out).2.1); rintro e w31 ⟨rfl, hb⟩; refine ⟨_, rfl, ?_⟩; have n0_ := Rb HO237 hb; have n1_ := Bs HB hb; clear HO237 HB; revert n0_ n1_; intro HO237 HB; (try clear hb); (try clear hb2); (try clear hk); (try clear hi)))
           go_roundg k2
           case measure => have := HJ1.out; have := HK2.out; omega
           case rel => exact ⟨(false), (wrap64 (x4_2 + 1)), (by first | rfl | (simp; done) | (simp [*]; done)), (by first | rfl | (simp; done) | (simp [*]; done)), H', ⟨by have := HJ1.out; have := HK2.out; omega⟩, ⟨Bu HB⟩⟩
       ·rw [if_neg c11] at H
        exact absurd H (by simp)
      ·rw [if_neg c10] at H
       have c10b0 : decide (x4_2 < (l0.length : Int)) = false := decide_eq_false c10
       clear c10
       replace H := Option.bind_eq_some_iff.mp H
       obtain ⟨t230, A320, H⟩ := H
       replace H : (some (t230 == x3_2)) = some r := H
       have A32 := Aside0.mk A320
       clear A320
       obtain rfl := Option.some.inj H
       go_wp2_with (first | ((with_reducible refine gate_callee (f := 12) rfl ?_); refine goesA (some 44) Tryd.func12 #[.slice A0 l0.length c0] rfl ?_; (with_reducible refine (chars_Name.calls k2 _ _ l0 t230 _ ?side1 ?side2 ?sideU A32.out).mono ?_); (case sideU => first | exact HU.out | exact Uni.up HU (Bu HB) | exact Uni.below HU.out (by assumption)); (case side1 => exact Cu (Kd.C_below HR0.out HB.out)); (case side2 => exact HC0.out); rintro e w33 ⟨rfl, hb⟩; refine ⟨_, rfl, ?_⟩; have n0_ := Bs HB hb; clear HB; revert n0_; intro HB; (try clear hb); (try clear hb2); (try clear hk); (try clear hi)))
       go_ret
       exact ⟨rfl_, Bu HB⟩

/-- THE ONE PURE STATEMENT of lanyardlaw01_CharsNames: yours. -/
def lanyardlaw01_CharsNames.Pure : Prop := ∀ (l0 : List ByteArray), l0.length ≤ maxLen → (∀ x ∈ l0, x.size ≤ maxLen) → ∃ k, lanyardlaw01_CharsNames.f k l0 = some true
theorem lanyardlaw01_CharsNames.walk (P : lanyardlaw01_CharsNames.Pure) (a0 : Option Addr) (cap0 : Nat) (l0 : List ByteArray) (w : World) (w0 : Kd.C Kd.string w a0 l0.length l0) (y0 : l0.length ≤ cap0) (m0 : l0.length ≤ maxLen) (g0 : ∀ x ∈ l0, x.size ≤ maxLen) (hU : Uni w) :
  Calls Tryd.prog 4 #[.slice a0 l0.length cap0] w fun e w' => e = .returned (.bool true) ∧ Below w.heap.size w w' := by
 obtain ⟨k, h⟩ := P l0 m0 g0
 refine (lanyardlaw01_CharsNames.calls k _ _ l0 true w w0 y0 hU h).mono ?_
 rintro e w' ⟨rfl, hd⟩
 exact ⟨rfl, hd⟩

end Go.Proofs.YthakidcnlkbbgaaDoor.Hp
