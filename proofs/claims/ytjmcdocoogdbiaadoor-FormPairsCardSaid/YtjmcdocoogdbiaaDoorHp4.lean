/- Go functions of this seat as Lean functions, and their contracts: what the Go code computes, for every input. (By hp.py, a program of this repo, over the kit's print.py.) -/
import Derived.Test.YtjmcdocoogdbiaaDoorHp0
import Derived.Test.YtjmcdocoogdbiaaDoorHp1
import Derived.Test.YtjmcdocoogdbiaaDoorHp2
import Derived.Test.YtjmcdocoogdbiaaDoorHp3
namespace Go.Proofs.YtjmcdocoogdbiaaDoor.Hp
open Go.RowKit Go.Proofs.YtjmcdocoogdbiaaDoorW.PrintWords Go.Proofs.YtjmcdocoogdbiaaDoorW.PrintLast Go.Proofs.YtjmcdocoogdbiaaDoorW.PrintMore
attribute [local go_sem] max2_int min2_int max_two min_two max_three min_three max_four min_four   -- for this text's walks alone
set_option linter.unusedVariables false
set_option linter.unusedSimpArgs false

attribute [local go_sem high] eqA40
/-! ### escape_ParseQuery: function 13 -/
def escape_ParseQuery.l0 : Nat → List (S40) → List ByteArray → Int → Int → Option ((List (S40)) × Int)
 | 0, _, _, _, _ => none
 | k + 1, x5, x21, x22, x23 => if x23 < x22 then (if 0 ≤ x23 then (if x23 < (x21.length : Int) then ((strings_Cut.f (rdOf ByteArray.empty x21 x23) (⟨#[61]⟩ : ByteArray)).bind fun bt120 => ((escape_Unpercent.f k bt120.1 true).bind fun bt123 => ((escape_Unpercent.f k bt120.2.1 true).bind fun bt125 => (if bt123.2 = 0 then (if bt125.2 = 0 then (if x5.length < 4398046511104 then (escape_ParseQuery.l0 k (x5 ++ [(⟨bt123.1, bt125.1⟩ : S40)]) x21 x22 (wrap64 (x23 + 1))) else (none)) else (some (([] : List (S40)), 10))) else (some (([] : List (S40)), 10)))))) else (none)) else (none)) else (some (x5, 0))
def escape_ParseQuery.f (k : Nat) (a0 : ByteArray) : Option ((List (S40)) × Int) := (strings_Split.f a0 (⟨#[38]⟩ : ByteArray)).bind fun t113 => ((slices_DeleteFunc_string_string.f t113).bind fun t116 => (if (t116.length : Int) > 64 then (some (([] : List (S40)), 12)) else (escape_ParseQuery.l0 k ([] : List (S40)) t116 (t116.length : Int) 0)))
theorem escape_ParseQuery.mono_l : ∀ k, (∀ y0 y1 y2 y3, LeO (escape_ParseQuery.l0 k y0 y1 y2 y3) (escape_ParseQuery.l0 (k + 1) y0 y1 y2 y3))
 | 0 => fun _ _ _ _ r h => by simp [escape_ParseQuery.l0] at h
 | k + 1 => by
  have ih0 := escape_ParseQuery.mono_l k
  ·intro y0 y1 y2 y3
   unfold escape_ParseQuery.l0
   repeat' first
   | (with_reducible exact ih0 _ _ _ _)
   | (with_reducible exact escape_Unpercent.mono _ _ _)
   | (with_reducible exact LeO.refl _)
   | (with_reducible exact LeO.none _)
   | (with_reducible refine LeO.ite ?_ ?_)
   | (with_reducible refine LeO.bind ?_ (fun _ => ?_))
   | exact ih0 _ _ _ _
   | exact escape_Unpercent.mono _ _ _
   | exact LeO.none _
   | refine LeO.ite ?_ ?_
   | refine LeO.bind ?_ (fun _ => ?_)
theorem escape_ParseQuery.mono : ∀ a0 k, LeO (escape_ParseQuery.f k a0) (escape_ParseQuery.f (k + 1) a0) := by
 intro a0 k
 have ih0 := escape_ParseQuery.mono_l k
 unfold escape_ParseQuery.f
 repeat' first
   | (with_reducible exact ih0 _ _ _ _)
   | (with_reducible exact escape_Unpercent.mono _ _ _)
   | (with_reducible exact LeO.refl _)
   | (with_reducible exact LeO.none _)
   | (with_reducible refine LeO.ite ?_ ?_)
   | (with_reducible refine LeO.bind ?_ (fun _ => ?_))
   | exact ih0 _ _ _ _
   | exact escape_Unpercent.mono _ _ _
   | exact LeO.none _
   | refine LeO.ite ?_ ?_
   | refine LeO.bind ?_ (fun _ => ?_)
set_option maxHeartbeats 8000000 in
set_option maxRecDepth 100000 in
theorem escape_ParseQuery.calls (k : Nat) (a0 : ByteArray) (r1 : List (S40)) (r2 : Int) (w : World) (hU : Uni w) (h : escape_ParseQuery.f k a0 = some (r1, r2)) :
  Calls Tryd.prog 13 #[.string a0] w fun e w' => ∃ v0_ : Value, e = .returned (.tuple #[v0_, .int .i64 r2]) ∧ Kd.R k40 40 w' w.heap.size (fun _ => True) v0_ r1 ∧ Below w.heap.size w w' := by
 have HU := Aside0.mk hU
 clear hU
 have hu40 := Tryd.underlying40
 have HB := Aside0.mk (Below.refl w.heap.size w)
 have H : ((strings_Split.f a0 (⟨#[38]⟩ : ByteArray)).bind fun t113 => ((slices_DeleteFunc_string_string.f t113).bind fun t116 => (if (t116.length : Int) > 64 then (some (([] : List (S40)), 12)) else (escape_ParseQuery.l0 k ([] : List (S40)) t116 (t116.length : Int) 0)))) = some (r1, r2) := h
 clear h
 replace H := Option.bind_eq_some_iff.mp H
 obtain ⟨t113, A20, H⟩ := H
 replace H : ((slices_DeleteFunc_string_string.f t113).bind fun t116 => (if (t116.length : Int) > 64 then (some (([] : List (S40)), 12)) else (escape_ParseQuery.l0 k ([] : List (S40)) t116 (t116.length : Int) 0))) = some (r1, r2) := H
 have A2 := Aside0.mk A20
 clear A20
 replace H := Option.bind_eq_some_iff.mp H
 obtain ⟨t116, A30, H⟩ := H
 replace H : (if (t116.length : Int) > 64 then (some (([] : List (S40)), 12)) else (escape_ParseQuery.l0 k ([] : List (S40)) t116 (t116.length : Int) 0)) = some (r1, r2) := H
 have A3 := Aside0.mk A30
 clear A30
 by_cases c4 : (t116.length : Int) > 64
 ·rw [if_pos c4] at H
  have c4b0 : decide (64 < (t116.length : Int)) = true := decide_eq_true c4
  have c4b1 : decide (64 < t116.length) = true := decide_eq_true (by omega)
  clear c4
  simp only [Option.some.injEq, Prod.mk.injEq] at H
  obtain ⟨rfl, rfl⟩ := H
  go_enter Tryd.func13, Tryd.ntmps13
  go_wp2_with (first | ((with_reducible refine gate_callee (f := 29) rfl ?_); refine goesL_ (some 16) rfl rfl Tryd.func29 (by kernel_rfl) rfl #[.string a0, .string (⟨#[38]⟩ : ByteArray)] rfl (by (try simp only [List.map_toArray, List.map_cons, List.map_nil]); first | done | rfl | (simp only [List.length_drop, List.length_take]; rfl)) ?_; (with_reducible refine (strings_Split.fresh a0 (⟨#[38]⟩ : ByteArray) t113 _ ?sideU A2.out).mono ?_); (case sideU => first | exact HU.out | exact Uni.up HU (Bu HB) | exact Uni.below HU.out (by assumption)); rintro e w5 ⟨v114, rfl, ho0, hb, hf⟩; refine ⟨_, rfl, ?_⟩; have HF := Aside0.mk hf; clear hf; have n0_ := Aside0.mk (Kd.R_lower ho0 (Bz HB)); have n1_ := Bs HB hb; clear HB; revert n0_ n1_; intro HO115 HB; (try clear hb); (try clear hb2); (try clear hk); (try clear hi); (try clear ho0); obtain ⟨Ao6, co6, eo6⟩ := Kd.R_slice HO115.out; subst eo6) | ((with_reducible refine gate_callee (f := 32) rfl ?_); refine goesL_ (some 17) rfl rfl Tryd.func32 (by kernel_rfl) rfl #[.slice Ao6 t113.length co6, .func (.func 33) #[] #[]] rfl (by (try simp only [List.map_toArray, List.map_cons, List.map_nil]); first | done | rfl | (simp only [List.length_drop, List.length_take]; rfl)) ?_; (with_reducible refine (slices_DeleteFunc_string_string.calls HF.out A3.out).mono ?_); rintro e w7 ⟨v117, rfl, ho0, hb⟩; refine ⟨_, rfl, ?_⟩; have n1_ := Aside0.mk ho0; have n2_ := Aside0.mk hb; clear HO115 HB HF; have HO118 := n1_; have HB := n2_; clear n1_ n2_; (try clear hb); (try clear hb2); (try clear hk); (try clear hi); (try clear ho0); obtain ⟨Ao8, co8, eo8⟩ := Kd.R_slice HO118.out; subst eo8))
  go_ret2
  exact ⟨_, rfl_, by first | exact Kd.R_nil _ _ _ _ _ | exact Kd.N_nil _ _ _ _ _ | exact Kd.V_nil _ _ _ _ _ | exact Kd.Q_nil _ _ _ _ _ | exact Kd.S_nil _ _ _ _ _, Bu HB⟩
 ·rw [if_neg c4] at H
  have c4b0 : decide (64 < (t116.length : Int)) = false := decide_eq_false c4
  have c4b1 : decide (64 < t116.length) = false := decide_eq_false (by omega)
  clear c4
  have H' := Aside0.mk H
  clear H
  go_enter Tryd.func13, Tryd.ntmps13
  go_wp2_with (first | ((with_reducible refine gate_callee (f := 29) rfl ?_); refine goesL_ (some 16) rfl rfl Tryd.func29 (by kernel_rfl) rfl #[.string a0, .string (⟨#[38]⟩ : ByteArray)] rfl (by (try simp only [List.map_toArray, List.map_cons, List.map_nil]); first | done | rfl | (simp only [List.length_drop, List.length_take]; rfl)) ?_; (with_reducible refine (strings_Split.fresh a0 (⟨#[38]⟩ : ByteArray) t113 _ ?sideU A2.out).mono ?_); (case sideU => first | exact HU.out | exact Uni.up HU (Bu HB) | exact Uni.below HU.out (by assumption)); rintro e w9 ⟨v114, rfl, ho0, hb, hf⟩; refine ⟨_, rfl, ?_⟩; have HF := Aside0.mk hf; clear hf; have n0_ := Aside0.mk (Kd.R_lower ho0 (Bz HB)); have n1_ := Bs HB hb; clear HB; revert n0_ n1_; intro HO115 HB; (try clear hb); (try clear hb2); (try clear hk); (try clear hi); (try clear ho0); obtain ⟨Ao10, co10, eo10⟩ := Kd.R_slice HO115.out; subst eo10) | ((with_reducible refine gate_callee (f := 32) rfl ?_); refine goesL_ (some 17) rfl rfl Tryd.func32 (by kernel_rfl) rfl #[.slice Ao10 t113.length co10, .func (.func 33) #[] #[]] rfl (by (try simp only [List.map_toArray, List.map_cons, List.map_nil]); first | done | rfl | (simp only [List.length_drop, List.length_take]; rfl)) ?_; (with_reducible refine (slices_DeleteFunc_string_string.calls HF.out A3.out).mono ?_); rintro e w11 ⟨v117, rfl, ho0, hb⟩; refine ⟨_, rfl, ?_⟩; have n1_ := Aside0.mk ho0; have n2_ := Aside0.mk hb; clear HO115 HB HF; have HO118 := n1_; have HB := n2_; clear n1_ n2_; (try clear hb); (try clear hb2); (try clear hk); (try clear hi); (try clear ho0); obtain ⟨Ao12, co12, eo12⟩ := Kd.R_slice HO118.out; subst eo12))
  go_loopg [5, 23] k (fun kq v5 v23 w' => ∃ (x5_1 : List (S40)) (x23_1 : Int), v23 = .int .i64 x23_1 ∧ Aside0 (escape_ParseQuery.l0 kq x5_1 t116 (t116.length : Int) x23_1 = some (r1, r2)) ∧ Aside0 (kq ≤ k) ∧ Aside0 (Kd.R k40 40 w' w.heap.size (fun _ => True) v5 x5_1) ∧ Aside0 (Kd.R Kd.string 9 w' w.heap.size (fun _ => True) (.slice Ao12 t116.length co12) t116) ∧ Aside0 (Below w.heap.size w w'))
  case atStart => exact ⟨(([] : List (S40))), (0), (by first | rfl | (simp; done) | (simp [*]; done)), H', ⟨Nat.le_refl _⟩, ⟨by first | exact Kd.R_nil _ _ _ _ _ | exact Kd.N_nil _ _ _ _ _ | exact Kd.V_nil _ _ _ _ _ | exact Kd.Q_nil _ _ _ _ _ | exact Kd.S_nil _ _ _ _ _⟩, ⟨by (with_reducible repeat (first | apply Kd.R_alloc | apply Kd.R_drewN | apply Kd.R_drew)); exact Kd.R_mono HO118.out (fun _ hk => trivial)⟩, ⟨Bu HB⟩⟩
  case round =>
   clear H'
   try clear c1
   try clear c2
   try clear p2
   try clear c3
   try clear c4
   try clear c4b0
   try clear c4b1
   obtain ⟨x5_1, x23_1, rfl, HA, HK1, HO_5, HO_21, HB⟩ := hrel
   cases gk with
   | zero => exact absurd HA.out (by simp [escape_ParseQuery.l0])
   | succ k1 =>
    have H := HA.out
    clear HA
    simp only [escape_ParseQuery.l0] at H
    refine (Classical.em (x23_1 < (t116.length : Int))).elim (fun c13 => ?a15_) (fun c13 => ?b15_)
    case' a15_ =>
     rw [if_pos c13] at H
     have c13b0 : decide (x23_1 < (t116.length : Int)) = true := decide_eq_true c13
     clear c13
     refine (Classical.em (0 ≤ x23_1)).elim (fun c14 => ?a16_) (fun c14 => ?b16_)
     case' a16_ =>
      rw [if_pos c14] at H
      have c14b0 : decide (0 ≤ x23_1) = true := decide_eq_true c14
      clear c14
      refine (Classical.em (x23_1 < (t116.length : Int))).elim (fun c15 => ?a17_) (fun c15 => ?b17_)
      case' a17_ =>
       rw [if_pos c15] at H
       have c15b0 : decide (x23_1 < (t116.length : Int)) = true := decide_eq_true c15
       clear c15
       replace H := Option.bind_eq_some_iff.mp H
       obtain ⟨⟨t120, t121, t122⟩, A160, H⟩ := H
       replace H : ((escape_Unpercent.f k1 t120 true).bind fun bt123 => ((escape_Unpercent.f k1 t121 true).bind fun bt125 => (if bt123.2 = 0 then (if bt125.2 = 0 then (if x5_1.length < 4398046511104 then (escape_ParseQuery.l0 k1 (x5_1 ++ [(⟨bt123.1, bt125.1⟩ : S40)]) t116 (t116.length : Int) (wrap64 (x23_1 + 1))) else (none)) else (some (([] : List (S40)), 10))) else (some (([] : List (S40)), 10))))) = some (r1, r2) := H
       have A16 := Aside0.mk A160
       clear A160
       replace H := Option.bind_eq_some_iff.mp H
       obtain ⟨⟨t123, t124⟩, A170, H⟩ := H
       replace H : ((escape_Unpercent.f k1 t121 true).bind fun bt125 => (if t124 = 0 then (if bt125.2 = 0 then (if x5_1.length < 4398046511104 then (escape_ParseQuery.l0 k1 (x5_1 ++ [(⟨t123, bt125.1⟩ : S40)]) t116 (t116.length : Int) (wrap64 (x23_1 + 1))) else (none)) else (some (([] : List (S40)), 10))) else (some (([] : List (S40)), 10)))) = some (r1, r2) := H
       have A17 := Aside0.mk A170
       clear A170
       replace H := Option.bind_eq_some_iff.mp H
       obtain ⟨⟨t125, t126⟩, A180, H⟩ := H
       replace H : (if t124 = 0 then (if t126 = 0 then (if x5_1.length < 4398046511104 then (escape_ParseQuery.l0 k1 (x5_1 ++ [(⟨t123, t125⟩ : S40)]) t116 (t116.length : Int) (wrap64 (x23_1 + 1))) else (none)) else (some (([] : List (S40)), 10))) else (some (([] : List (S40)), 10))) = some (r1, r2) := H
       have A18 := Aside0.mk A180
       clear A180
       refine (Classical.em (t124 = 0)).elim (fun c19 => ?a18_) (fun c19 => ?b18_)
       case' a18_ =>
        rw [if_pos c19] at H
        have c19b0 : (t124 == 0) = true := beq_iff_eq.mpr c19
        have c19b1 : (t124 != 0) = false := bne_eq_false_iff_eq.mpr c19
        clear c19
        refine (Classical.em (t126 = 0)).elim (fun c20 => ?a19_) (fun c20 => ?b19_)
        case' a19_ =>
         rw [if_pos c20] at H
         have c20b0 : (t126 == 0) = true := beq_iff_eq.mpr c20
         have c20b1 : (t126 != 0) = false := bne_eq_false_iff_eq.mpr c20
         clear c20
         by_cases c21 : x5_1.length < 4398046511104
         ·rw [if_pos c21] at H
          have LMc21 := Aside0.mk c21
          clear c21
          obtain ⟨y127, hy127⟩ : ∃ y_ : List (S40), y_ = (x5_1 ++ [(⟨t123, t125⟩ : S40)]) := ⟨_, rfl⟩
          replace H : (escape_ParseQuery.l0 k1 y127 t116 (t116.length : Int) (wrap64 (x23_1 + 1))) = some (r1, r2) := by first | (rw [hy127]; with_reducible exact H) | (have H2_ := (Option.bind_some _ _).symm.trans H; rw [hy127]; with_reducible exact H2_) | (have H2_ := (Option.bind_some _ _).symm.trans H; with_reducible exact H2_) | with_reducible exact H | (rw [hy127]; exact H) | exact H
          have Ny127 := Aside0.mk hy127
          clear hy127
          have H' := Aside0.mk H
          clear H
          have p119 : 0 ≤ (x23_1 : Int) := of_decide_eq_true (by first | (with_reducible assumption) | assumption)
          have q119 : x23_1 < (t116.length : Int) := of_decide_eq_true (by first | (with_reducible assumption) | assumption)
          obtain ⟨ad119, e119, hx119_0⟩ := Kd.at_string (Kd.R_reads' HO_21.out).2.2 x23_1 p119 q119
          cases e119
          replace p119 := eq_true p119
          replace q119 := eq_true q119
          go_wp2_with (first | ((with_reducible refine gate_callee (f := 34) rfl ?_); refine goesL_ (some 29) rfl rfl Tryd.func34 (by kernel_rfl) rfl #[.string (rdOf ByteArray.empty t116 x23_1), .string (⟨#[61]⟩ : ByteArray)] rfl (by (try simp only [List.map_toArray, List.map_cons, List.map_nil]); first | done | rfl | (simp only [List.length_drop, List.length_take]; rfl)) ?_; (with_reducible refine (strings_Cut.calls (rdOf ByteArray.empty t116 x23_1) (⟨#[61]⟩ : ByteArray) t120 t121 t122 _ ?sideU A16.out).mono ?_); (case sideU => first | exact HU.out | exact Uni.up HU (Bu HB) | exact Uni.below HU.out (by assumption)); rintro e w' ⟨rfl, ⟨nd, rfl⟩⟩; refine ⟨_, rfl, ?_⟩) | ((with_reducible refine gate_callee (f := 10) rfl ?_); refine goesA (some 35) Tryd.func10 #[.string t120, .bool true] rfl ?_; (with_reducible refine (escape_Unpercent.calls k1 t120 true t123 t124 _ ?sideU A17.out).mono ?_); (case sideU => first | exact HU.out | exact Uni.up HU (Bu HB) | exact Uni.below HU.out (by assumption)); rintro e w22 ⟨rfl, hb⟩; refine ⟨_, rfl, ?_⟩; have n0_ := Rb HO_5 hb; have n1_ := Rb HO_21 hb; have n2_ := Bs HB hb; clear HO_5 HO_21 HB; revert n0_ n1_ n2_; intro HO_5 HO_21 HB; (try clear hb); (try clear hb2); (try clear hk); (try clear hi)) | ((with_reducible refine gate_callee (f := 10) rfl ?_); refine goesA (some 40) Tryd.func10 #[.string t121, .bool true] rfl ?_; (with_reducible refine (escape_Unpercent.calls k1 t121 true t125 t126 _ ?sideU A18.out).mono ?_); (case sideU => first | exact HU.out | exact Uni.up HU (Bu HB) | exact Uni.below HU.out (by assumption)); rintro e w23 ⟨rfl, hb⟩; refine ⟨_, rfl, ?_⟩; have n0_ := Rb HO_5 hb; have n1_ := Rb HO_21 hb; have n2_ := Bs HB hb; clear HO_5 HO_21 HB; revert n0_ n1_ n2_; intro HO_5 HO_21 HB; (try clear hb); (try clear hb2); (try clear hk); (try clear hi)) | ((with_reducible refine gate_builtin (b := .append) (xs := #[.tmp 49, .tmp 53]) rfl ?_); at_builtin; refine Kd.R_append k40 (w0 := w) w.heap.size rfl (.tmp 49) (.tmp 53) 30 40 (.agg #[(.string ⟨#[]⟩), (.string ⟨#[]⟩)]) 32 rfl Tryd.underlying30 info40 rfl (by decide) (by omega) u5 x5_1 (⟨t123, t125⟩ : S40) [.string t123, .string t125] (fun _ => True) (fun _ => False) rfl rfl ?aP (fun _ hk => hk.elim) ?aF ?aO ?aB ?aS ?aL ?_; (case aP => exact k40_mkM _ _ _ (⟨t123, t125⟩ : S40)); (case aB => exact (Bu HB)); (case aF => exact (fun _ _ => trivial)); (case aO => exact (Ru HO_5)); (case aS => exact (Bz HB)); (case aL => have := LMc21.out; omega); intro v128 w24 ho hb hg hat; rw [← Ny127.out] at ho; have n0_ := Aside0.mk (Kd.R_over' (Ru HO_21) (Kd.R_typed (Ru HO_5)) (by decide) hg); have n1_ := Aside0.mk (hb); have n2_ := Aside0.mk (ho); clear HO_21 HB HO_5; revert n0_ n1_ n2_; intro HO_21 HB HO129; clear ho hb hg hat))
          go_roundg k1
          case measure => have := HK1.out; omega
          case rel => exact ⟨(y127), (wrap64 (x23_1 + 1)), (by first | rfl | (simp; done) | (simp [*]; done)), H', ⟨by have := HK1.out; omega⟩, ⟨Ru HO129⟩, ⟨Ru HO_21⟩, ⟨Bu HB⟩⟩
         ·rw [if_neg c21] at H
          exact absurd H (by simp)
        case' b19_ =>
         rw [if_neg c20] at H
         have c20b0 : (t126 == 0) = false := beq_eq_false_iff_ne.mpr c20
         have c20b1 : (t126 != 0) = true := bne_iff_ne.mpr c20
         simp only [Option.some.injEq, Prod.mk.injEq] at H
         obtain ⟨rfl, rfl⟩ := H
         have p119 : 0 ≤ (x23_1 : Int) := of_decide_eq_true (by first | (with_reducible assumption) | assumption)
         have q119 : x23_1 < (t116.length : Int) := of_decide_eq_true (by first | (with_reducible assumption) | assumption)
         obtain ⟨ad119, e119, hx119_0⟩ := Kd.at_string (Kd.R_reads' HO_21.out).2.2 x23_1 p119 q119
         cases e119
         replace p119 := eq_true p119
         replace q119 := eq_true q119
       case' b18_ =>
        rw [if_neg c19] at H
        have c19b0 : (t124 == 0) = false := beq_eq_false_iff_ne.mpr c19
        have c19b1 : (t124 != 0) = true := bne_iff_ne.mpr c19
        simp only [Option.some.injEq, Prod.mk.injEq] at H
        obtain ⟨rfl, rfl⟩ := H
        have p119 : 0 ≤ (x23_1 : Int) := of_decide_eq_true (by first | (with_reducible assumption) | assumption)
        have q119 : x23_1 < (t116.length : Int) := of_decide_eq_true (by first | (with_reducible assumption) | assumption)
        obtain ⟨ad119, e119, hx119_0⟩ := Kd.at_string (Kd.R_reads' HO_21.out).2.2 x23_1 p119 q119
        cases e119
        replace p119 := eq_true p119
        replace q119 := eq_true q119
      case' b17_ =>
       rw [if_neg c15] at H
       exact absurd H (by simp)
     case' b16_ =>
      rw [if_neg c14] at H
      exact absurd H (by simp)
    case' b15_ =>
     rw [if_neg c13] at H
     have c13b0 : decide (x23_1 < (t116.length : Int)) = false := decide_eq_false c13
     clear c13
     simp only [Option.some.injEq, Prod.mk.injEq] at H
     obtain ⟨rfl, rfl⟩ := H
     go_wp2
     go_ret2
     exact ⟨_, rfl_, Ru HO_5, Bu HB⟩

    case a18_ | b18_ =>
     go_wp2_with (first | ((with_reducible refine gate_callee (f := 34) rfl ?_); refine goesL_ (some 29) rfl rfl Tryd.func34 (by kernel_rfl) rfl #[.string (rdOf ByteArray.empty t116 x23_1), .string (⟨#[61]⟩ : ByteArray)] rfl (by (try simp only [List.map_toArray, List.map_cons, List.map_nil]); first | done | rfl | (simp only [List.length_drop, List.length_take]; rfl)) ?_; (with_reducible refine (strings_Cut.calls (rdOf ByteArray.empty t116 x23_1) (⟨#[61]⟩ : ByteArray) t120 t121 t122 _ ?sideU A16.out).mono ?_); (case sideU => first | exact HU.out | exact Uni.up HU (Bu HB) | exact Uni.below HU.out (by assumption)); rintro e w' ⟨rfl, ⟨nd, rfl⟩⟩; refine ⟨_, rfl, ?_⟩) | ((with_reducible refine gate_callee (f := 10) rfl ?_); refine goesA (some 35) Tryd.func10 #[.string t120, .bool true] rfl ?_; (with_reducible refine (escape_Unpercent.calls k1 t120 true t123 t124 _ ?sideU A17.out).mono ?_); (case sideU => first | exact HU.out | exact Uni.up HU (Bu HB) | exact Uni.below HU.out (by assumption)); rintro e wz1 ⟨rfl, hb⟩; refine ⟨_, rfl, ?_⟩; have n0_ := Rb HO_5 hb; have n1_ := Rb HO_21 hb; have n2_ := Bs HB hb; clear HO_5 HO_21 HB; revert n0_ n1_ n2_; intro HO_5 HO_21 HB; (try clear hb); (try clear hb2); (try clear hk); (try clear hi)) | ((with_reducible refine gate_callee (f := 10) rfl ?_); refine goesA (some 40) Tryd.func10 #[.string t121, .bool true] rfl ?_; (with_reducible refine (escape_Unpercent.calls k1 t121 true t125 t126 _ ?sideU A18.out).mono ?_); (case sideU => first | exact HU.out | exact Uni.up HU (Bu HB) | exact Uni.below HU.out (by assumption)); rintro e wz2 ⟨rfl, hb⟩; refine ⟨_, rfl, ?_⟩; have n0_ := Rb HO_5 hb; have n1_ := Rb HO_21 hb; have n2_ := Bs HB hb; clear HO_5 HO_21 HB; revert n0_ n1_ n2_; intro HO_5 HO_21 HB; (try clear hb); (try clear hb2); (try clear hk); (try clear hi)))
     go_ret2
     exact ⟨_, rfl_, by first | exact Kd.R_nil _ _ _ _ _ | exact Kd.N_nil _ _ _ _ _ | exact Kd.V_nil _ _ _ _ _ | exact Kd.Q_nil _ _ _ _ _ | exact Kd.S_nil _ _ _ _ _, Bu HB⟩
/-! ### lanyardref03_Same: function 17 -/
def lanyardref03_Same.l0 : Nat → List (S40) → List (S40) → Int → Option (Bool)
 | 0, _, _, _ => none
 | k + 1, x0, x1, x5 => if x5 < (x0.length : Int) then (if 0 ≤ x5 then (if x5 < (x1.length : Int) then (if (!((((rd_T40 x0 x5).f0).toList) == (((rd_T40 x1 x5).f0).toList)) || (!((((rd_T40 x0 x5).f1).toList) == (((rd_T40 x1 x5).f1).toList)))) = true then (some false) else (lanyardref03_Same.l0 k x0 x1 (wrap64 (x5 + 1)))) else (none)) else (none)) else (some true)
def lanyardref03_Same.f (k : Nat) (l0 : List (S40)) (l1 : List (S40)) : Option (Bool) := if (l0.length : Int) = (l1.length : Int) then (lanyardref03_Same.l0 k l0 l1 0) else (some false)
theorem lanyardref03_Same.mono_l : ∀ k, (∀ y0 y1 y2, LeO (lanyardref03_Same.l0 k y0 y1 y2) (lanyardref03_Same.l0 (k + 1) y0 y1 y2))
 | 0 => fun _ _ _ r h => by simp [lanyardref03_Same.l0] at h
 | k + 1 => by
  have ih0 := lanyardref03_Same.mono_l k
  ·intro y0 y1 y2
   unfold lanyardref03_Same.l0
   repeat' first
   | (with_reducible exact ih0 _ _ _)
   | (with_reducible exact LeO.refl _)
   | (with_reducible exact LeO.none _)
   | (with_reducible refine LeO.ite ?_ ?_)
   | (with_reducible refine LeO.bind ?_ (fun _ => ?_))
   | exact ih0 _ _ _
   | exact LeO.none _
   | refine LeO.ite ?_ ?_
   | refine LeO.bind ?_ (fun _ => ?_)
theorem lanyardref03_Same.mono : ∀ a0 a1 k, LeO (lanyardref03_Same.f k a0 a1) (lanyardref03_Same.f (k + 1) a0 a1) := by
 intro a0 a1 k
 have ih0 := lanyardref03_Same.mono_l k
 unfold lanyardref03_Same.f
 repeat' first
   | (with_reducible exact ih0 _ _ _)
   | (with_reducible exact LeO.refl _)
   | (with_reducible exact LeO.none _)
   | (with_reducible refine LeO.ite ?_ ?_)
   | (with_reducible refine LeO.bind ?_ (fun _ => ?_))
   | exact ih0 _ _ _
   | exact LeO.none _
   | refine LeO.ite ?_ ?_
   | refine LeO.bind ?_ (fun _ => ?_)
set_option maxHeartbeats 8000000 in
set_option maxRecDepth 100000 in
theorem lanyardref03_Same.calls (k : Nat) (A0 : Option Addr) (c0 : Nat) (l0 : List (S40)) (A1 : Option Addr) (c1 : Nat) (l1 : List (S40)) (r : Bool) (w : World) (hr0 : Kd.C k40 w A0 l0.length l0) (hc0 : l0.length ≤ c0) (hr1 : Kd.C k40 w A1 l1.length l1) (hc1 : l1.length ≤ c1) (h : lanyardref03_Same.f k l0 l1 = some r) :
  Calls Tryd.prog 17 #[.slice A0 l0.length c0, .slice A1 l1.length c1] w fun e w' => e = .returned (.bool r) ∧ Drawn0 w w' := by
 have hu40 := Tryd.underlying40
 have HR0 := Aside0.mk hr0
 have HC0 := Aside0.mk hc0
 clear hr0 hc0
 have HR1 := Aside0.mk hr1
 have HC1 := Aside0.mk hc1
 clear hr1 hc1
 have H : (if (l0.length : Int) = (l1.length : Int) then (lanyardref03_Same.l0 k l0 l1 0) else (some false)) = some r := h
 clear h
 by_cases c3 : (l0.length : Int) = (l1.length : Int)
 ·rw [if_pos c3] at H
  have c3b0 : ((l0.length : Int) == (l1.length : Int)) = true := beq_iff_eq.mpr c3
  have c3b1 : ((l0.length : Int) != (l1.length : Int)) = false := bne_eq_false_iff_eq.mpr c3
  have c3b2 : (l0.length == l1.length) = true := by first | simpa using c3 | (simp at c3 ⊢; omega)
  clear c3
  have H' := Aside0.mk H
  clear H
  go_enter Tryd.func17, Tryd.ntmps17
  go_wp2
  repeat (go_quiet (fail); try go_wp2)
  go_loopg [5] k (fun kq v5 w' => ∃ (x5_1 : Int), v5 = .int .i64 x5_1 ∧ Aside0 (lanyardref03_Same.l0 kq l0 l1 x5_1 = some r) ∧ Aside0 (kq ≤ k) ∧ Drawn0 w w')
  case atStart => exact ⟨(0), (by first | rfl | (simp; done) | (simp [*]; done)), H', ⟨Nat.le_refl _⟩, by repeat (first | exact Drawn0.refl _ | apply Drawn0.step)⟩
  case round =>
   clear H'
   try clear c1
   try clear p2
   try clear c3
   try clear c3b0
   try clear c3b1
   try clear c3b2
   obtain ⟨x5_1, rfl, HA, HK1, ⟨m1, rfl⟩⟩ := hrel
   cases gk with
   | zero => exact absurd HA.out (by simp [lanyardref03_Same.l0])
   | succ k1 =>
    have H := HA.out
    clear HA
    simp only [lanyardref03_Same.l0] at H
    refine (Classical.em (x5_1 < (l0.length : Int))).elim (fun c4 => ?a20_) (fun c4 => ?b20_)
    case' a20_ =>
     rw [if_pos c4] at H
     have c4b0 : decide (x5_1 < (l0.length : Int)) = true := decide_eq_true c4
     clear c4
     refine (Classical.em (0 ≤ x5_1)).elim (fun c5 => ?a21_) (fun c5 => ?b21_)
     case' a21_ =>
      rw [if_pos c5] at H
      have c5b0 : decide (0 ≤ x5_1) = true := decide_eq_true c5
      clear c5
      refine (Classical.em (x5_1 < (l1.length : Int))).elim (fun c6 => ?a22_) (fun c6 => ?b22_)
      case' a22_ =>
       rw [if_pos c6] at H
       have c6b0 : decide (x5_1 < (l1.length : Int)) = true := decide_eq_true c6
       clear c6
       refine (Classical.em ((!((((rd_T40 l0 x5_1).f0).toList) == (((rd_T40 l1 x5_1).f0).toList)) || (!((((rd_T40 l0 x5_1).f1).toList) == (((rd_T40 l1 x5_1).f1).toList)))) = true)).elim (fun c7 => ?a23_) (fun c7 => ?b23_)
       case' a23_ =>
        rw [if_pos c7] at H
        have c7b0 : (!((((rd_T40 l0 x5_1).f0).toList) == (((rd_T40 l1 x5_1).f0).toList)) || (!((((rd_T40 l0 x5_1).f1).toList) == (((rd_T40 l1 x5_1).f1).toList)))) = true := c7
        clear c7
        obtain rfl := Option.some.inj H
        have p130 : 0 ≤ (x5_1 : Int) := of_decide_eq_true (by first | (with_reducible assumption) | assumption)
        have q130 : x5_1 < (l0.length : Int) := of_decide_eq_true (by first | (with_reducible assumption) | assumption)
        obtain ⟨ad130, e130, hx130_0, hx130_1⟩ := at_T40 HR0.out x5_1 p130 q130
        cases e130
        replace p130 := eq_true p130
        replace q130 := eq_true q130
        have p131 : 0 ≤ (x5_1 : Int) := of_decide_eq_true (by first | (with_reducible assumption) | assumption)
        have q131 : x5_1 < (l1.length : Int) := of_decide_eq_true (by first | (with_reducible assumption) | assumption)
        obtain ⟨ad131, e131, hx131_0, hx131_1⟩ := at_T40 HR1.out x5_1 p131 q131
        cases e131
        replace p131 := eq_true p131
        replace q131 := eq_true q131
       case' b23_ =>
        rw [if_neg c7] at H
        have c7b0 : (!((((rd_T40 l0 x5_1).f0).toList) == (((rd_T40 l1 x5_1).f0).toList)) || (!((((rd_T40 l0 x5_1).f1).toList) == (((rd_T40 l1 x5_1).f1).toList)))) = false := by simpa using c7
        clear c7
        have H' := Aside0.mk H
        clear H
        have p130 : 0 ≤ (x5_1 : Int) := of_decide_eq_true (by first | (with_reducible assumption) | assumption)
        have q130 : x5_1 < (l0.length : Int) := of_decide_eq_true (by first | (with_reducible assumption) | assumption)
        obtain ⟨ad130, e130, hx130_0, hx130_1⟩ := at_T40 HR0.out x5_1 p130 q130
        cases e130
        replace p130 := eq_true p130
        replace q130 := eq_true q130
        have p131 : 0 ≤ (x5_1 : Int) := of_decide_eq_true (by first | (with_reducible assumption) | assumption)
        have q131 : x5_1 < (l1.length : Int) := of_decide_eq_true (by first | (with_reducible assumption) | assumption)
        obtain ⟨ad131, e131, hx131_0, hx131_1⟩ := at_T40 HR1.out x5_1 p131 q131
        cases e131
        replace p131 := eq_true p131
        replace q131 := eq_true q131
        go_wp2
        repeat (go_quiet (fail); try go_wp2)
        go_roundg k1
        case measure => have := HK1.out; omega
        case rel => exact ⟨(wrap64 (x5_1 + 1)), (by first | rfl | (simp; done) | (simp [*]; done)), H', ⟨by have := HK1.out; omega⟩, by repeat (first | exact Drawn0.refl _ | apply Drawn0.step)⟩
      case' b22_ =>
       rw [if_neg c6] at H
       exact absurd H (by simp)
     case' b21_ =>
      rw [if_neg c5] at H
      exact absurd H (by simp)
    case' b20_ =>
     rw [if_neg c4] at H
     have c4b0 : decide (x5_1 < (l0.length : Int)) = false := decide_eq_false c4
     clear c4
     obtain rfl := Option.some.inj H
    case a20_ | b20_ =>
     go_wp2
     repeat (go_quiet (fail); try go_wp2)
     go_ret
     exact ⟨by first | rfl | (simp; done) | (simp [*]; done), by repeat (first | exact Drawn0.refl _ | apply Drawn0.step)⟩
 ·rw [if_neg c3] at H
  have c3b0 : ((l0.length : Int) == (l1.length : Int)) = false := beq_eq_false_iff_ne.mpr c3
  have c3b1 : ((l0.length : Int) != (l1.length : Int)) = true := bne_iff_ne.mpr c3
  have c3b2 : (l0.length == l1.length) = false := by first | simpa using c3 | (simp at c3 ⊢; omega)
  obtain rfl := Option.some.inj H
  go_enter Tryd.func17, Tryd.ntmps17
  go_wp2
  repeat (go_quiet (fail); try go_wp2)
  go_ret
  exact ⟨by first | rfl | (simp; done) | (simp [*]; done), by repeat (first | exact Drawn0.refl _ | apply Drawn0.step)⟩

/-! ### lanyardlaw03_awake: function 8 -/
def lanyardlaw03_awake.f (k : Nat)  : Option (Bool) := (escape_ParseQuery.f k (⟨#[97, 61, 49, 38, 38, 98, 61, 37, 52, 49, 43, 99, 38, 100]⟩ : ByteArray)).bind fun bt132 => ((escape_Percent.f (⟨#[97, 32, 98, 47, 195, 169]⟩ : ByteArray)).bind fun t136 => (if t136.toList = ([97, 37, 50, 48, 98, 37, 50, 70, 37, 67, 51, 37, 65, 57] : List UInt8) then (if bt132.2 = 0 then ((lanyardref03_Same.f k bt132.1 (([(⟨(⟨#[97]⟩ : ByteArray), (⟨#[49]⟩ : ByteArray)⟩ : S40), (⟨(⟨#[98]⟩ : ByteArray), (⟨#[65, 32, 99]⟩ : ByteArray)⟩ : S40), (⟨(⟨#[100]⟩ : ByteArray), (⟨#[]⟩ : ByteArray)⟩ : S40)] : List (S40)))).bind fun t140 => (some t140)) else (some false)) else (some false)))
theorem lanyardlaw03_awake.mono : ∀ k, LeO (lanyardlaw03_awake.f k ) (lanyardlaw03_awake.f (k + 1) ) := by
 intro  k
 unfold lanyardlaw03_awake.f
 repeat' first
   | (with_reducible exact escape_ParseQuery.mono _ _)
   | (with_reducible exact lanyardref03_Same.mono _ _ _)
   | (with_reducible exact LeO.refl _)
   | (with_reducible exact LeO.none _)
   | (with_reducible refine LeO.ite ?_ ?_)
   | (with_reducible refine LeO.bind ?_ (fun _ => ?_))
   | exact escape_ParseQuery.mono _ _
   | exact lanyardref03_Same.mono _ _ _
   | exact LeO.none _
   | refine LeO.ite ?_ ?_
   | refine LeO.bind ?_ (fun _ => ?_)
set_option maxHeartbeats 8000000 in
set_option maxRecDepth 100000 in
theorem lanyardlaw03_awake.calls (k : Nat)  (r : Bool) (w : World) (hU : Uni w) (h : lanyardlaw03_awake.f k  = some r) :
  Calls Tryd.prog 8 #[] w fun e w' => e = .returned (.bool r) ∧ Below w.heap.size w w' := by
 have HU := Aside0.mk hU
 clear hU
 have hu40 := Tryd.underlying40
 have HB := Aside0.mk (Below.refl w.heap.size w)
 have H : ((escape_ParseQuery.f k (⟨#[97, 61, 49, 38, 38, 98, 61, 37, 52, 49, 43, 99, 38, 100]⟩ : ByteArray)).bind fun bt132 => ((escape_Percent.f (⟨#[97, 32, 98, 47, 195, 169]⟩ : ByteArray)).bind fun t136 => (if t136.toList = ([97, 37, 50, 48, 98, 37, 50, 70, 37, 67, 51, 37, 65, 57] : List UInt8) then (if bt132.2 = 0 then ((lanyardref03_Same.f k bt132.1 (([(⟨(⟨#[97]⟩ : ByteArray), (⟨#[49]⟩ : ByteArray)⟩ : S40), (⟨(⟨#[98]⟩ : ByteArray), (⟨#[65, 32, 99]⟩ : ByteArray)⟩ : S40), (⟨(⟨#[100]⟩ : ByteArray), (⟨#[]⟩ : ByteArray)⟩ : S40)] : List (S40)))).bind fun t140 => (some t140)) else (some false)) else (some false)))) = some r := h
 clear h
 replace H := Option.bind_eq_some_iff.mp H
 obtain ⟨⟨t132, t133⟩, A10, H⟩ := H
 replace H : ((escape_Percent.f (⟨#[97, 32, 98, 47, 195, 169]⟩ : ByteArray)).bind fun t136 => (if t136.toList = ([97, 37, 50, 48, 98, 37, 50, 70, 37, 67, 51, 37, 65, 57] : List UInt8) then (if t133 = 0 then ((lanyardref03_Same.f k t132 (([(⟨(⟨#[97]⟩ : ByteArray), (⟨#[49]⟩ : ByteArray)⟩ : S40), (⟨(⟨#[98]⟩ : ByteArray), (⟨#[65, 32, 99]⟩ : ByteArray)⟩ : S40), (⟨(⟨#[100]⟩ : ByteArray), (⟨#[]⟩ : ByteArray)⟩ : S40)] : List (S40)))).bind fun t140 => (some t140)) else (some false)) else (some false))) = some r := H
 have A1 := Aside0.mk A10
 clear A10
 replace H := Option.bind_eq_some_iff.mp H
 obtain ⟨t136, A20, H⟩ := H
 replace H : (if t136.toList = ([97, 37, 50, 48, 98, 37, 50, 70, 37, 67, 51, 37, 65, 57] : List UInt8) then (if t133 = 0 then ((lanyardref03_Same.f k t132 (([(⟨(⟨#[97]⟩ : ByteArray), (⟨#[49]⟩ : ByteArray)⟩ : S40), (⟨(⟨#[98]⟩ : ByteArray), (⟨#[65, 32, 99]⟩ : ByteArray)⟩ : S40), (⟨(⟨#[100]⟩ : ByteArray), (⟨#[]⟩ : ByteArray)⟩ : S40)] : List (S40)))).bind fun t140 => (some t140)) else (some false)) else (some false)) = some r := H
 have A2 := Aside0.mk A20
 clear A20
 by_cases c3 : t136.toList = ([97, 37, 50, 48, 98, 37, 50, 70, 37, 67, 51, 37, 65, 57] : List UInt8)
 ·rw [if_pos c3] at H
  have c3b0 : (t136.toList == ([97, 37, 50, 48, 98, 37, 50, 70, 37, 67, 51, 37, 65, 57] : List UInt8)) = true := beq_iff_eq.mpr c3
  have c3b1 : (t136.toList != ([97, 37, 50, 48, 98, 37, 50, 70, 37, 67, 51, 37, 65, 57] : List UInt8)) = false := bne_eq_false_iff_eq.mpr c3
  clear c3
  by_cases c4 : t133 = 0
  ·rw [if_pos c4] at H
   have c4b0 : (t133 == 0) = true := beq_iff_eq.mpr c4
   have c4b1 : (t133 != 0) = false := bne_eq_false_iff_eq.mpr c4
   clear c4
   obtain ⟨y137, hy137⟩ : ∃ y_ : List (S40), y_ = (([(⟨(⟨#[97]⟩ : ByteArray), (⟨#[49]⟩ : ByteArray)⟩ : S40), (⟨(⟨#[98]⟩ : ByteArray), (⟨#[65, 32, 99]⟩ : ByteArray)⟩ : S40), (⟨(⟨#[100]⟩ : ByteArray), (⟨#[]⟩ : ByteArray)⟩ : S40)] : List (S40))) := ⟨_, rfl⟩
   replace H : ((lanyardref03_Same.f k t132 y137).bind fun t140 => (some t140)) = some r := by first | (rw [hy137]; with_reducible exact H) | (have H2_ := (Option.bind_some _ _).symm.trans H; rw [hy137]; with_reducible exact H2_) | (have H2_ := (Option.bind_some _ _).symm.trans H; with_reducible exact H2_) | with_reducible exact H | (rw [hy137]; exact H) | exact H
   have Ny137 := Aside0.mk hy137
   clear hy137
   replace H := Option.bind_eq_some_iff.mp H
   obtain ⟨t140, A50, H⟩ := H
   replace H : (some t140) = some r := H
   have A5 := Aside0.mk A50
   clear A50
   obtain rfl := Option.some.inj H
   go_enter Tryd.func8, Tryd.ntmps8
   go_wp2_with (first | ((with_reducible refine gate_callee (f := 13) rfl ?_); refine goesL_ (some 4) rfl rfl Tryd.func13 (by kernel_rfl) rfl #[.string (⟨#[97, 61, 49, 38, 38, 98, 61, 37, 52, 49, 43, 99, 38, 100]⟩ : ByteArray)] rfl (by (try simp only [List.map_toArray, List.map_cons, List.map_nil]); first | done | rfl | (simp only [List.length_drop, List.length_take]; rfl)) ?_; (with_reducible refine (escape_ParseQuery.calls k (⟨#[97, 61, 49, 38, 38, 98, 61, 37, 52, 49, 43, 99, 38, 100]⟩ : ByteArray) t132 t133 _ ?sideU A1.out).mono ?_); (case sideU => first | exact HU.out | exact Uni.up HU (Bu HB) | exact Uni.below HU.out (by assumption)); rintro e w6 ⟨v134, rfl, ho0, hb⟩; refine ⟨_, rfl, ?_⟩; have n0_ := Aside0.mk (Kd.R_lower ho0 (Bz HB)); have n1_ := Bs HB hb; clear HB; revert n0_ n1_; intro HO135 HB; (try clear hb); (try clear hb2); (try clear hk); (try clear hi); (try clear ho0)) | ((with_reducible refine gate_callee (f := 9) rfl ?_); refine goesL_ (some 7) rfl rfl Tryd.func9 (by kernel_rfl) rfl #[.string (⟨#[97, 32, 98, 47, 195, 169]⟩ : ByteArray)] rfl (by (try simp only [List.map_toArray, List.map_cons, List.map_nil]); first | done | rfl | (simp only [List.length_drop, List.length_take]; rfl)) ?_; (with_reducible refine (escape_Percent.calls (⟨#[97, 32, 98, 47, 195, 169]⟩ : ByteArray) t136 _ A2.out).mono ?_); rintro e w7 ⟨rfl, hb⟩; refine ⟨_, rfl, ?_⟩; have n0_ := Rb HO135 hb; have n1_ := Bs HB hb; clear HO135 HB; revert n0_ n1_; intro HO135 HB; (try clear hb); (try clear hb2); (try clear hk); (try clear hi)) | ((with_reducible refine gate_dst (N := 18) rfl ?_); (try (refine gate_guard (by rfl) ?_; dsimp only)); refine Kd.R_lit k40 _ 40 ?hg (N := 18) ?hd (xs := ([(⟨(⟨#[97]⟩ : ByteArray), (⟨#[49]⟩ : ByteArray)⟩ : S40), (⟨(⟨#[98]⟩ : ByteArray), (⟨#[65, 32, 99]⟩ : ByteArray)⟩ : S40), (⟨(⟨#[100]⟩ : ByteArray), (⟨#[]⟩ : ByteArray)⟩ : S40)] : List (S40))) (inner := [.string (⟨#[97]⟩ : ByteArray), .string (⟨#[49]⟩ : ByteArray), .string (⟨#[98]⟩ : ByteArray), .string (⟨#[65, 32, 99]⟩ : ByteArray), .string (⟨#[100]⟩ : ByteArray), .string (⟨#[]⟩ : ByteArray)]) (ok := fun _ => True) (okp := fun _ => True) ?hr ?hp (fun _ hk => hk) trivial (Below.refl _ _) (Nat.le_refl _) (by simp) ?_; (case hd => rfl); (case hg => rfl); (case hr => first | (go_simp; done) | (go_simp; rfl)); (case hp => exact (Reps.c2 (show Kd.M k40 _ _ _ (⟨(⟨#[97]⟩ : ByteArray), (⟨#[49]⟩ : ByteArray)⟩ : S40) [.string (⟨#[97]⟩ : ByteArray), .string (⟨#[49]⟩ : ByteArray)] from (k40_mkM _ _ _ (⟨(⟨#[97]⟩ : ByteArray), (⟨#[49]⟩ : ByteArray)⟩ : S40) )) (Reps.c2 (show Kd.M k40 _ _ _ (⟨(⟨#[98]⟩ : ByteArray), (⟨#[65, 32, 99]⟩ : ByteArray)⟩ : S40) [.string (⟨#[98]⟩ : ByteArray), .string (⟨#[65, 32, 99]⟩ : ByteArray)] from (k40_mkM _ _ _ (⟨(⟨#[98]⟩ : ByteArray), (⟨#[65, 32, 99]⟩ : ByteArray)⟩ : S40) )) (Reps.c2 (show Kd.M k40 _ _ _ (⟨(⟨#[100]⟩ : ByteArray), (⟨#[]⟩ : ByteArray)⟩ : S40) [.string (⟨#[100]⟩ : ByteArray), .string (⟨#[]⟩ : ByteArray)] from (k40_mkM _ _ _ (⟨(⟨#[100]⟩ : ByteArray), (⟨#[]⟩ : ByteArray)⟩ : S40) )) (Reps.none _ _))))); intro v138 w8 ho9 hb hg_ hnew_; clear hg_ hnew_; (first | rw [← Ny137.out] at ho9 | (simp only [Int.reduceToNat] at ho9; rw [← Ny137.out] at ho9)); have n0_ := Re HO135 (Kd.R_base ho9) hb; have n1_ := Aside0.mk (Kd.R_lower (Kd.R_new' ho9 (Kd.R_lt (Ru HO135))) (Bz HB)); have n2_ := Bs HB hb; clear HO135 HB; revert n0_ n1_ n2_; intro HO135 HO139 HB; clear hb ho9; obtain ⟨Ao10, co10, eo10⟩ := Kd.R_slice HO135.out; subst eo10; obtain ⟨Ao11, co11, eo11⟩ := Kd.R_slice HO139.out; subst eo11) | (go_at_call 17; (with_reducible refine (lanyardref03_Same.calls k _ _ t132 _ _ y137 t140 _ ?side1 ?side2 ?side3 ?side4 A5.out).mono ?_); (case side1 => exact Cu (Kd.R_reads' HO135.out).2.2); (case side2 => exact (Kd.R_reads' HO135.out).2.1); (case side3 => exact Cu (Kd.R_reads' HO139.out).2.2); (case side4 => exact (Kd.R_reads' HO139.out).2.1); rintro e w' ⟨rfl, ⟨nd, rfl⟩⟩))
   go_ret
   exact ⟨rfl_, Bu HB⟩
  ·rw [if_neg c4] at H
   have c4b0 : (t133 == 0) = false := beq_eq_false_iff_ne.mpr c4
   have c4b1 : (t133 != 0) = true := bne_iff_ne.mpr c4
   obtain rfl := Option.some.inj H
   go_enter Tryd.func8, Tryd.ntmps8
   go_wp2_with (first | ((with_reducible refine gate_callee (f := 13) rfl ?_); refine goesL_ (some 4) rfl rfl Tryd.func13 (by kernel_rfl) rfl #[.string (⟨#[97, 61, 49, 38, 38, 98, 61, 37, 52, 49, 43, 99, 38, 100]⟩ : ByteArray)] rfl (by (try simp only [List.map_toArray, List.map_cons, List.map_nil]); first | done | rfl | (simp only [List.length_drop, List.length_take]; rfl)) ?_; (with_reducible refine (escape_ParseQuery.calls k (⟨#[97, 61, 49, 38, 38, 98, 61, 37, 52, 49, 43, 99, 38, 100]⟩ : ByteArray) t132 t133 _ ?sideU A1.out).mono ?_); (case sideU => first | exact HU.out | exact Uni.up HU (Bu HB) | exact Uni.below HU.out (by assumption)); rintro e w12 ⟨v134, rfl, ho0, hb⟩; refine ⟨_, rfl, ?_⟩; have n0_ := Aside0.mk (Kd.R_lower ho0 (Bz HB)); have n1_ := Bs HB hb; clear HB; revert n0_ n1_; intro HO135 HB; (try clear hb); (try clear hb2); (try clear hk); (try clear hi); (try clear ho0)) | ((with_reducible refine gate_callee (f := 9) rfl ?_); refine goesL_ (some 7) rfl rfl Tryd.func9 (by kernel_rfl) rfl #[.string (⟨#[97, 32, 98, 47, 195, 169]⟩ : ByteArray)] rfl (by (try simp only [List.map_toArray, List.map_cons, List.map_nil]); first | done | rfl | (simp only [List.length_drop, List.length_take]; rfl)) ?_; (with_reducible refine (escape_Percent.calls (⟨#[97, 32, 98, 47, 195, 169]⟩ : ByteArray) t136 _ A2.out).mono ?_); rintro e w13 ⟨rfl, hb⟩; refine ⟨_, rfl, ?_⟩; have n0_ := Rb HO135 hb; have n1_ := Bs HB hb; clear HO135 HB; revert n0_ n1_; intro HO135 HB; (try clear hb); (try clear hb2); (try clear hk); (try clear hi)))
   go_ret
   exact ⟨rfl_, Bu HB⟩
 ·rw [if_neg c3] at H
  have c3b0 : (t136.toList == ([97, 37, 50, 48, 98, 37, 50, 70, 37, 67, 51, 37, 65, 57] : List UInt8)) = false := beq_eq_false_iff_ne.mpr c3
  have c3b1 : (t136.toList != ([97, 37, 50, 48, 98, 37, 50, 70, 37, 67, 51, 37, 65, 57] : List UInt8)) = true := bne_iff_ne.mpr c3
  obtain rfl := Option.some.inj H
  go_enter Tryd.func8, Tryd.ntmps8
  go_wp2_with (first | ((with_reducible refine gate_callee (f := 13) rfl ?_); refine goesL_ (some 4) rfl rfl Tryd.func13 (by kernel_rfl) rfl #[.string (⟨#[97, 61, 49, 38, 38, 98, 61, 37, 52, 49, 43, 99, 38, 100]⟩ : ByteArray)] rfl (by (try simp only [List.map_toArray, List.map_cons, List.map_nil]); first | done | rfl | (simp only [List.length_drop, List.length_take]; rfl)) ?_; (with_reducible refine (escape_ParseQuery.calls k (⟨#[97, 61, 49, 38, 38, 98, 61, 37, 52, 49, 43, 99, 38, 100]⟩ : ByteArray) t132 t133 _ ?sideU A1.out).mono ?_); (case sideU => first | exact HU.out | exact Uni.up HU (Bu HB) | exact Uni.below HU.out (by assumption)); rintro e w14 ⟨v134, rfl, ho0, hb⟩; refine ⟨_, rfl, ?_⟩; have n0_ := Aside0.mk (Kd.R_lower ho0 (Bz HB)); have n1_ := Bs HB hb; clear HB; revert n0_ n1_; intro HO135 HB; (try clear hb); (try clear hb2); (try clear hk); (try clear hi); (try clear ho0)) | ((with_reducible refine gate_callee (f := 9) rfl ?_); refine goesL_ (some 7) rfl rfl Tryd.func9 (by kernel_rfl) rfl #[.string (⟨#[97, 32, 98, 47, 195, 169]⟩ : ByteArray)] rfl (by (try simp only [List.map_toArray, List.map_cons, List.map_nil]); first | done | rfl | (simp only [List.length_drop, List.length_take]; rfl)) ?_; (with_reducible refine (escape_Percent.calls (⟨#[97, 32, 98, 47, 195, 169]⟩ : ByteArray) t136 _ A2.out).mono ?_); rintro e w15 ⟨rfl, hb⟩; refine ⟨_, rfl, ?_⟩; have n0_ := Rb HO135 hb; have n1_ := Bs HB hb; clear HO135 HB; revert n0_ n1_; intro HO135 HB; (try clear hb); (try clear hb2); (try clear hk); (try clear hi)))
  go_ret
  exact ⟨rfl_, Bu HB⟩

/-! ### lanyardref02_digit: function 44 -/
mutual
def lanyardref02_digit.j0 : Nat → Int → Bool → Option (Int)
 | 0, _, _ => none
 | k + 1, x0, x8 => if x8 = true then (some (wrap64 ((wrap64 (x0)) - 48))) else (if x0 ≥ 97 then (lanyardref02_digit.j1 k x0 (decide (x0 ≤ 102))) else (lanyardref02_digit.j1 k x0 false))
def lanyardref02_digit.j1 : Nat → Int → Bool → Option (Int)
 | 0, _, _ => none
 | k + 1, x0, x17 => if x17 = true then (some (wrap64 ((wrap64 (x0)) - 87))) else (if x0 ≥ 65 then (if x0 ≤ 70 then (some (wrap64 ((wrap64 (x0)) - 55))) else (some (-1))) else (some (-1)))
end
def lanyardref02_digit.f (k : Nat) (a0 : Int) : Option (Int) := if a0 ≥ 48 then (lanyardref02_digit.j0 k a0 (decide (a0 ≤ 57))) else (lanyardref02_digit.j0 k a0 false)
theorem lanyardref02_digit.mono_l : ∀ k, (∀ y0 y1, LeO (lanyardref02_digit.j0 k y0 y1) (lanyardref02_digit.j0 (k + 1) y0 y1)) ∧ (∀ y0 y1, LeO (lanyardref02_digit.j1 k y0 y1) (lanyardref02_digit.j1 (k + 1) y0 y1))
 | 0 => ⟨fun _ _ r h => by simp [lanyardref02_digit.j0] at h, fun _ _ r h => by simp [lanyardref02_digit.j1] at h⟩
 | k + 1 => by
  obtain ⟨ih0, ih1⟩ := lanyardref02_digit.mono_l k
  refine ⟨?_, ?_⟩
  ·intro y0 y1
   unfold lanyardref02_digit.j0
   repeat' first
   | (with_reducible exact ih0 _ _)
   | (with_reducible exact ih1 _ _)
   | (with_reducible exact LeO.refl _)
   | (with_reducible exact LeO.none _)
   | (with_reducible refine LeO.ite ?_ ?_)
   | (with_reducible refine LeO.bind ?_ (fun _ => ?_))
   | exact ih0 _ _
   | exact ih1 _ _
   | exact LeO.none _
   | refine LeO.ite ?_ ?_
   | refine LeO.bind ?_ (fun _ => ?_)
  ·intro y0 y1
   unfold lanyardref02_digit.j1
   repeat' first
   | (with_reducible exact ih0 _ _)
   | (with_reducible exact ih1 _ _)
   | (with_reducible exact LeO.refl _)
   | (with_reducible exact LeO.none _)
   | (with_reducible refine LeO.ite ?_ ?_)
   | (with_reducible refine LeO.bind ?_ (fun _ => ?_))
   | exact ih0 _ _
   | exact ih1 _ _
   | exact LeO.none _
   | refine LeO.ite ?_ ?_
   | refine LeO.bind ?_ (fun _ => ?_)
theorem lanyardref02_digit.mono : ∀ a0 k, LeO (lanyardref02_digit.f k a0) (lanyardref02_digit.f (k + 1) a0) := by
 intro a0 k
 obtain ⟨ih0, ih1⟩ := lanyardref02_digit.mono_l k
 unfold lanyardref02_digit.f
 repeat' first
   | (with_reducible exact ih0 _ _)
   | (with_reducible exact ih1 _ _)
   | (with_reducible exact LeO.refl _)
   | (with_reducible exact LeO.none _)
   | (with_reducible refine LeO.ite ?_ ?_)
   | (with_reducible refine LeO.bind ?_ (fun _ => ?_))
   | exact ih0 _ _
   | exact ih1 _ _
   | exact LeO.none _
   | refine LeO.ite ?_ ?_
   | refine LeO.bind ?_ (fun _ => ?_)
set_option maxHeartbeats 8000000 in
set_option maxRecDepth 100000 in
theorem lanyardref02_digit.calls (k : Nat) (a0 : Int) (r : Int) (w : World) (h : lanyardref02_digit.f k a0 = some r) :
  Calls Tryd.prog 44 #[.int .u8 a0] w fun e w' => e = .returned (.int .i64 r) ∧ Drawn0 w w' := by
 have H : (if a0 ≥ 48 then (lanyardref02_digit.j0 k a0 (decide (a0 ≤ 57))) else (lanyardref02_digit.j0 k a0 false)) = some r := h
 clear h
 have HC2 := Aside0.mk H
 clear H
 go_enter Tryd.func44, Tryd.ntmps44
 go_upto_region 1 with (fail)
 go_cut [8] (fun v8 wc => ∃ (kq : Nat) (x8_1 : Bool), v8 = .bool x8_1 ∧ Aside0 (lanyardref02_digit.j0 kq a0 x8_1 = some r) ∧ Aside0 (kq ≤ k) ∧ Drawn0 w wc)
 case first =>
  have H := HC2.out
  clear HC2
  by_cases c3 : a0 ≥ 48
  ·rw [if_pos c3] at H
   have c3b0 : decide (48 ≤ a0) = true := decide_eq_true c3
   clear c3
   (first | rw [c3b0] | (simp only [i64_w, i32_w]; rw [c3b0]) | skip)
   have H' := Aside0.mk H
   clear H
   go_wp2
   go_meet
   case rel => exact ⟨_, (decide (a0 ≤ 57)), (by first | rfl | (simp; done) | (simp [*]; done)), H', ⟨by first | omega | exact Nat.le_refl _⟩, by repeat (first | exact Drawn0.refl _ | apply Drawn0.step)⟩
  ·rw [if_neg c3] at H
   have c3b0 : decide (48 ≤ a0) = false := decide_eq_false c3
   clear c3
   (first | rw [c3b0] | (simp only [i64_w, i32_w]; rw [c3b0]) | skip)
   have H' := Aside0.mk H
   clear H
   go_wp2
   go_meet
   case rel => exact ⟨_, (false), (by first | rfl | (simp; done) | (simp [*]; done)), H', ⟨by first | omega | exact Nat.le_refl _⟩, by repeat (first | exact Drawn0.refl _ | apply Drawn0.step)⟩
 case rest =>
  clear HC2
  try clear p2
  try clear c3
  try clear c3b0
  obtain ⟨kq, x8_1, rfl, HA, HJ1, ⟨mc1, rfl⟩⟩ := hcut
  cases kq with
  | zero => exact absurd HA.out (by simp [lanyardref02_digit.j0])
  | succ kj1 =>
   have H := HA.out
   clear HA
   simp only [lanyardref02_digit.j0] at H
   by_cases c4 : x8_1 = true
   ·subst c4
    have H1 : (some (wrap64 ((wrap64 (a0)) - 48))) = some r := by rw [if_pos rfl] at H; exact H
    clear H
    have H := H1
    clear H1
    obtain rfl := Option.some.inj H
    go_wp2
    go_ret
    exact ⟨by first | rfl | (simp; done) | (simp [*]; done), by repeat (first | exact Drawn0.refl _ | apply Drawn0.step)⟩
   ·replace c4 := Bool.eq_false_iff.mpr c4
    subst c4
    have H1 : (if a0 ≥ 97 then (lanyardref02_digit.j1 kj1 a0 (decide (a0 ≤ 102))) else (lanyardref02_digit.j1 kj1 a0 false)) = some r := by rw [if_neg (show ¬ (false = true) by decide)] at H; exact H
    clear H
    have H := H1
    clear H1
    have HC5 := Aside0.mk H
    clear H
    go_upto_region 3 with (fail)
    go_cut [17] (fun v17 wc => ∃ (kq : Nat) (x17_4 : Bool), v17 = .bool x17_4 ∧ Aside0 (lanyardref02_digit.j1 kq a0 x17_4 = some r) ∧ Aside0 (kq ≤ kj1) ∧ Drawn0 w wc)
    case first =>
     have H := HC5.out
     clear HC5
     by_cases c6 : a0 ≥ 97
     ·rw [if_pos c6] at H
      have c6b0 : decide (97 ≤ a0) = true := decide_eq_true c6
      clear c6
      (first | rw [c6b0] | (simp only [i64_w, i32_w]; rw [c6b0]) | skip)
      have H' := Aside0.mk H
      clear H
      go_wp2
      go_meet
      case rel => exact ⟨_, (decide (a0 ≤ 102)), (by first | rfl | (simp; done) | (simp [*]; done)), H', ⟨by have := HJ1.out; first | omega | exact Nat.le_refl _⟩, by repeat (first | exact Drawn0.refl _ | apply Drawn0.step)⟩
     ·rw [if_neg c6] at H
      have c6b0 : decide (97 ≤ a0) = false := decide_eq_false c6
      clear c6
      (first | rw [c6b0] | (simp only [i64_w, i32_w]; rw [c6b0]) | skip)
      have H' := Aside0.mk H
      clear H
      go_wp2
      go_meet
      case rel => exact ⟨_, (false), (by first | rfl | (simp; done) | (simp [*]; done)), H', ⟨by have := HJ1.out; first | omega | exact Nat.le_refl _⟩, by repeat (first | exact Drawn0.refl _ | apply Drawn0.step)⟩
    case rest =>
     clear HC5
     try clear c1
     try clear p2
     try clear c3
     try clear c3b0
     try clear c4
     try clear c6
     try clear c6b0
     try clear p6
     try clear p2
     obtain ⟨kq, x17_4, rfl, HA, HJ4, ⟨mc4, rfl⟩⟩ := hcut
     cases kq with
     | zero => exact absurd HA.out (by simp [lanyardref02_digit.j1])
     | succ kj4 =>
      have H := HA.out
      clear HA
      simp only [lanyardref02_digit.j1] at H
      refine (Classical.em (x17_4 = true)).elim (fun c7 => ?a24_) (fun c7 => ?b24_)
      case' a24_ =>
       subst c7
       have H1 : (some (wrap64 ((wrap64 (a0)) - 87))) = some r := by rw [if_pos rfl] at H; exact H
       clear H
       have H := H1
       clear H1
       obtain rfl := Option.some.inj H
      case' b24_ =>
       replace c7 := Bool.eq_false_iff.mpr c7
       subst c7
       have H1 : (if a0 ≥ 65 then (if a0 ≤ 70 then (some (wrap64 ((wrap64 (a0)) - 55))) else (some (-1))) else (some (-1))) = some r := by rw [if_neg (show ¬ (false = true) by decide)] at H; exact H
       clear H
       have H := H1
       clear H1
       refine (Classical.em (a0 ≥ 65)).elim (fun c8 => ?a25_) (fun c8 => ?b25_)
       case' a25_ =>
        rw [if_pos c8] at H
        have c8b0 : decide (65 ≤ a0) = true := decide_eq_true c8
        clear c8
        refine (Classical.em (a0 ≤ 70)).elim (fun c9 => ?a26_) (fun c9 => ?b26_)
        case' a26_ =>
         rw [if_pos c9] at H
         have c9b0 : decide (a0 ≤ 70) = true := decide_eq_true c9
         clear c9
         obtain rfl := Option.some.inj H
        case' b26_ =>
         rw [if_neg c9] at H
         have c9b0 : decide (a0 ≤ 70) = false := decide_eq_false c9
         clear c9
         obtain rfl := Option.some.inj H
       case' b25_ =>
        rw [if_neg c8] at H
        have c8b0 : decide (65 ≤ a0) = false := decide_eq_false c8
        clear c8
        obtain rfl := Option.some.inj H
        go_wp2
        go_ret
        exact ⟨by first | rfl | (simp; done) | (simp [*]; done), by repeat (first | exact Drawn0.refl _ | apply Drawn0.step)⟩

      case a24_ | a26_ | b26_ =>
       go_wp2
       go_ret
       exact ⟨by first | rfl | (simp; done) | (simp [*]; done), by repeat (first | exact Drawn0.refl _ | apply Drawn0.step)⟩
end Go.Proofs.YtjmcdocoogdbiaaDoor.Hp
