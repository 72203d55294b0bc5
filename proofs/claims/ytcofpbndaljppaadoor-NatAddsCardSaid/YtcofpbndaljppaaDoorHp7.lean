/- Go functions of this seat as Lean functions, and their contracts: what the Go code computes, for every input. (By hp.py, a program of this repo, over the kit's print.py.) -/
import Derived.Test.YtcofpbndaljppaaDoorHp0
import Derived.Test.YtcofpbndaljppaaDoorHp4
import Derived.Test.YtcofpbndaljppaaDoorHp5
import Derived.Test.YtcofpbndaljppaaDoorHp6
namespace Go.Proofs.YtcofpbndaljppaaDoor.Hp
open Go.RowKit Go.Proofs.YtcofpbndaljppaaDoorW.PrintWords Go.Proofs.YtcofpbndaljppaaDoorW.PrintLast Go.Proofs.YtcofpbndaljppaaDoorW.PrintMore
attribute [local go_sem] max2_int min2_int max_two min_two max_three min_three max_four min_four   -- for this text's walks alone
set_option linter.unusedVariables false
set_option linter.unusedSimpArgs false

/-! ### lanyardlaw06_awake: function 11 -/
def lanyardlaw06_awake.f (k : Nat)  : Option (Bool) := (nat_Div.f k (([1, 0] : List Int)) (([7] : List Int))).bind fun bt411 => ((nat_Exp.f k (([3] : List Int)) (([4] : List Int)) (([5] : List Int))).bind fun bt427 => ((nat_Inverse.f k (([3] : List Int)) (([7] : List Int))).bind fun bt437 => (if bt411.2.2 = 0 then (if (strOfNums bt411.1).toList = ([36] : List UInt8) then (if (strOfNums bt411.2.1).toList = ([4] : List UInt8) then (if bt427.2 = 0 then (if (strOfNums bt427.1).toList = ([1] : List UInt8) then (if bt437.2 = 0 then (some ((strOfNums bt437.1).toList == ([5] : List UInt8))) else (some false)) else (some false)) else (some false)) else (some false)) else (some false)) else (some false))))
theorem lanyardlaw06_awake.mono : ∀ k, LeO (lanyardlaw06_awake.f k ) (lanyardlaw06_awake.f (k + 1) ) := by
 intro  k
 unfold lanyardlaw06_awake.f
 repeat' first
   | (with_reducible exact nat_Div.mono _ _ _)
   | (with_reducible exact nat_Exp.mono _ _ _ _)
   | (with_reducible exact nat_Inverse.mono _ _ _)
   | (with_reducible exact LeO.refl _)
   | (with_reducible exact LeO.none _)
   | (with_reducible refine LeO.ite ?_ ?_)
   | (with_reducible refine LeO.bind ?_ (fun _ => ?_))
   | exact nat_Div.mono _ _ _
   | exact nat_Exp.mono _ _ _ _
   | exact nat_Inverse.mono _ _ _
   | exact LeO.none _
   | refine LeO.ite ?_ ?_
   | refine LeO.bind ?_ (fun _ => ?_)
set_option maxHeartbeats 8000000 in
set_option maxRecDepth 100000 in
theorem lanyardlaw06_awake.calls (k : Nat)  (r : Bool) (w : World) (h : lanyardlaw06_awake.f k  = some r) :
  Calls Tryd.prog 11 #[] w fun e w' => e = .returned (.bool r) ∧ Below w.heap.size w w' := by
 have HB := Aside0.mk (Below.refl w.heap.size w)
 have H : ((nat_Div.f k (([1, 0] : List Int)) (([7] : List Int))).bind fun bt411 => ((nat_Exp.f k (([3] : List Int)) (([4] : List Int)) (([5] : List Int))).bind fun bt427 => ((nat_Inverse.f k (([3] : List Int)) (([7] : List Int))).bind fun bt437 => (if bt411.2.2 = 0 then (if (strOfNums bt411.1).toList = ([36] : List UInt8) then (if (strOfNums bt411.2.1).toList = ([4] : List UInt8) then (if bt427.2 = 0 then (if (strOfNums bt427.1).toList = ([1] : List UInt8) then (if bt437.2 = 0 then (some ((strOfNums bt437.1).toList == ([5] : List UInt8))) else (some false)) else (some false)) else (some false)) else (some false)) else (some false)) else (some false))))) = some r := h
 clear h
 obtain ⟨y405, hy405⟩ : ∃ y_ : List Int, y_ = (([1, 0] : List Int)) := ⟨_, rfl⟩
 replace H : ((nat_Div.f k y405 (([7] : List Int))).bind fun bt411 => ((nat_Exp.f k (([3] : List Int)) (([4] : List Int)) (([5] : List Int))).bind fun bt427 => ((nat_Inverse.f k (([3] : List Int)) (([7] : List Int))).bind fun bt437 => (if bt411.2.2 = 0 then (if (strOfNums bt411.1).toList = ([36] : List UInt8) then (if (strOfNums bt411.2.1).toList = ([4] : List UInt8) then (if bt427.2 = 0 then (if (strOfNums bt427.1).toList = ([1] : List UInt8) then (if bt437.2 = 0 then (some ((strOfNums bt437.1).toList == ([5] : List UInt8))) else (some false)) else (some false)) else (some false)) else (some false)) else (some false)) else (some false))))) = some r := by first | (rw [hy405]; with_reducible exact H) | (have H2_ := (Option.bind_some _ _).symm.trans H; rw [hy405]; with_reducible exact H2_) | (have H2_ := (Option.bind_some _ _).symm.trans H; with_reducible exact H2_) | with_reducible exact H | (rw [hy405]; exact H) | exact H
 have Ny405 := Aside0.mk hy405
 clear hy405
 obtain ⟨y408, hy408⟩ : ∃ y_ : List Int, y_ = (([7] : List Int)) := ⟨_, rfl⟩
 replace H : ((nat_Div.f k y405 y408).bind fun bt411 => ((nat_Exp.f k (([3] : List Int)) (([4] : List Int)) (([5] : List Int))).bind fun bt427 => ((nat_Inverse.f k (([3] : List Int)) (([7] : List Int))).bind fun bt437 => (if bt411.2.2 = 0 then (if (strOfNums bt411.1).toList = ([36] : List UInt8) then (if (strOfNums bt411.2.1).toList = ([4] : List UInt8) then (if bt427.2 = 0 then (if (strOfNums bt427.1).toList = ([1] : List UInt8) then (if bt437.2 = 0 then (some ((strOfNums bt437.1).toList == ([5] : List UInt8))) else (some false)) else (some false)) else (some false)) else (some false)) else (some false)) else (some false))))) = some r := by first | (rw [hy408]; with_reducible exact H) | (have H2_ := (Option.bind_some _ _).symm.trans H; rw [hy408]; with_reducible exact H2_) | (have H2_ := (Option.bind_some _ _).symm.trans H; with_reducible exact H2_) | with_reducible exact H | (rw [hy408]; exact H) | exact H
 have Ny408 := Aside0.mk hy408
 clear hy408
 replace H := Option.bind_eq_some_iff.mp H
 obtain ⟨⟨t411, t414, t417⟩, A10, H⟩ := H
 replace H : ((nat_Exp.f k (([3] : List Int)) (([4] : List Int)) (([5] : List Int))).bind fun bt427 => ((nat_Inverse.f k (([3] : List Int)) (([7] : List Int))).bind fun bt437 => (if t417 = 0 then (if (strOfNums t411).toList = ([36] : List UInt8) then (if (strOfNums t414).toList = ([4] : List UInt8) then (if bt427.2 = 0 then (if (strOfNums bt427.1).toList = ([1] : List UInt8) then (if bt437.2 = 0 then (some ((strOfNums bt437.1).toList == ([5] : List UInt8))) else (some false)) else (some false)) else (some false)) else (some false)) else (some false)) else (some false)))) = some r := H
 have A1 := Aside0.mk A10
 clear A10
 obtain ⟨y418, hy418⟩ : ∃ y_ : List Int, y_ = (([3] : List Int)) := ⟨_, rfl⟩
 replace H : ((nat_Exp.f k y418 (([4] : List Int)) (([5] : List Int))).bind fun bt427 => ((nat_Inverse.f k (([3] : List Int)) (([7] : List Int))).bind fun bt437 => (if t417 = 0 then (if (strOfNums t411).toList = ([36] : List UInt8) then (if (strOfNums t414).toList = ([4] : List UInt8) then (if bt427.2 = 0 then (if (strOfNums bt427.1).toList = ([1] : List UInt8) then (if bt437.2 = 0 then (some ((strOfNums bt437.1).toList == ([5] : List UInt8))) else (some false)) else (some false)) else (some false)) else (some false)) else (some false)) else (some false)))) = some r := by first | (rw [hy418]; with_reducible exact H) | (have H2_ := (Option.bind_some _ _).symm.trans H; rw [hy418]; with_reducible exact H2_) | (have H2_ := (Option.bind_some _ _).symm.trans H; with_reducible exact H2_) | with_reducible exact H | (rw [hy418]; exact H) | exact H
 have Ny418 := Aside0.mk hy418
 clear hy418
 obtain ⟨y421, hy421⟩ : ∃ y_ : List Int, y_ = (([4] : List Int)) := ⟨_, rfl⟩
 replace H : ((nat_Exp.f k y418 y421 (([5] : List Int))).bind fun bt427 => ((nat_Inverse.f k (([3] : List Int)) (([7] : List Int))).bind fun bt437 => (if t417 = 0 then (if (strOfNums t411).toList = ([36] : List UInt8) then (if (strOfNums t414).toList = ([4] : List UInt8) then (if bt427.2 = 0 then (if (strOfNums bt427.1).toList = ([1] : List UInt8) then (if bt437.2 = 0 then (some ((strOfNums bt437.1).toList == ([5] : List UInt8))) else (some false)) else (some false)) else (some false)) else (some false)) else (some false)) else (some false)))) = some r := by first | (rw [hy421]; with_reducible exact H) | (have H2_ := (Option.bind_some _ _).symm.trans H; rw [hy421]; with_reducible exact H2_) | (have H2_ := (Option.bind_some _ _).symm.trans H; with_reducible exact H2_) | with_reducible exact H | (rw [hy421]; exact H) | exact H
 have Ny421 := Aside0.mk hy421
 clear hy421
 obtain ⟨y424, hy424⟩ : ∃ y_ : List Int, y_ = (([5] : List Int)) := ⟨_, rfl⟩
 replace H : ((nat_Exp.f k y418 y421 y424).bind fun bt427 => ((nat_Inverse.f k (([3] : List Int)) (([7] : List Int))).bind fun bt437 => (if t417 = 0 then (if (strOfNums t411).toList = ([36] : List UInt8) then (if (strOfNums t414).toList = ([4] : List UInt8) then (if bt427.2 = 0 then (if (strOfNums bt427.1).toList = ([1] : List UInt8) then (if bt437.2 = 0 then (some ((strOfNums bt437.1).toList == ([5] : List UInt8))) else (some false)) else (some false)) else (some false)) else (some false)) else (some false)) else (some false)))) = some r := by first | (rw [hy424]; with_reducible exact H) | (have H2_ := (Option.bind_some _ _).symm.trans H; rw [hy424]; with_reducible exact H2_) | (have H2_ := (Option.bind_some _ _).symm.trans H; with_reducible exact H2_) | with_reducible exact H | (rw [hy424]; exact H) | exact H
 have Ny424 := Aside0.mk hy424
 clear hy424
 replace H := Option.bind_eq_some_iff.mp H
 obtain ⟨⟨t427, t428⟩, A20, H⟩ := H
 replace H : ((nat_Inverse.f k (([3] : List Int)) (([7] : List Int))).bind fun bt437 => (if t417 = 0 then (if (strOfNums t411).toList = ([36] : List UInt8) then (if (strOfNums t414).toList = ([4] : List UInt8) then (if t428 = 0 then (if (strOfNums t427).toList = ([1] : List UInt8) then (if bt437.2 = 0 then (some ((strOfNums bt437.1).toList == ([5] : List UInt8))) else (some false)) else (some false)) else (some false)) else (some false)) else (some false)) else (some false))) = some r := H
 have A2 := Aside0.mk A20
 clear A20
 obtain ⟨y431, hy431⟩ : ∃ y_ : List Int, y_ = (([3] : List Int)) := ⟨_, rfl⟩
 replace H : ((nat_Inverse.f k y431 (([7] : List Int))).bind fun bt437 => (if t417 = 0 then (if (strOfNums t411).toList = ([36] : List UInt8) then (if (strOfNums t414).toList = ([4] : List UInt8) then (if t428 = 0 then (if (strOfNums t427).toList = ([1] : List UInt8) then (if bt437.2 = 0 then (some ((strOfNums bt437.1).toList == ([5] : List UInt8))) else (some false)) else (some false)) else (some false)) else (some false)) else (some false)) else (some false))) = some r := by first | (rw [hy431]; with_reducible exact H) | (have H2_ := (Option.bind_some _ _).symm.trans H; rw [hy431]; with_reducible exact H2_) | (have H2_ := (Option.bind_some _ _).symm.trans H; with_reducible exact H2_) | with_reducible exact H | (rw [hy431]; exact H) | exact H
 have Ny431 := Aside0.mk hy431
 clear hy431
 obtain ⟨y434, hy434⟩ : ∃ y_ : List Int, y_ = (([7] : List Int)) := ⟨_, rfl⟩
 replace H : ((nat_Inverse.f k y431 y434).bind fun bt437 => (if t417 = 0 then (if (strOfNums t411).toList = ([36] : List UInt8) then (if (strOfNums t414).toList = ([4] : List UInt8) then (if t428 = 0 then (if (strOfNums t427).toList = ([1] : List UInt8) then (if bt437.2 = 0 then (some ((strOfNums bt437.1).toList == ([5] : List UInt8))) else (some false)) else (some false)) else (some false)) else (some false)) else (some false)) else (some false))) = some r := by first | (rw [hy434]; with_reducible exact H) | (have H2_ := (Option.bind_some _ _).symm.trans H; rw [hy434]; with_reducible exact H2_) | (have H2_ := (Option.bind_some _ _).symm.trans H; with_reducible exact H2_) | with_reducible exact H | (rw [hy434]; exact H) | exact H
 have Ny434 := Aside0.mk hy434
 clear hy434
 replace H := Option.bind_eq_some_iff.mp H
 obtain ⟨⟨t437, t438⟩, A30, H⟩ := H
 replace H : (if t417 = 0 then (if (strOfNums t411).toList = ([36] : List UInt8) then (if (strOfNums t414).toList = ([4] : List UInt8) then (if t428 = 0 then (if (strOfNums t427).toList = ([1] : List UInt8) then (if t438 = 0 then (some ((strOfNums t437).toList == ([5] : List UInt8))) else (some false)) else (some false)) else (some false)) else (some false)) else (some false)) else (some false)) = some r := H
 have A3 := Aside0.mk A30
 clear A30
 refine (Classical.em (t417 = 0)).elim (fun c4 => ?a22_) (fun c4 => ?b22_)
 case' a22_ =>
  rw [if_pos c4] at H
  have c4b0 : (t417 == 0) = true := beq_iff_eq.mpr c4
  have c4b1 : (t417 != 0) = false := bne_eq_false_iff_eq.mpr c4
  clear c4
  refine (Classical.em ((strOfNums t411).toList = ([36] : List UInt8))).elim (fun c5 => ?a23_) (fun c5 => ?b23_)
  case' a23_ =>
   rw [if_pos c5] at H
   have c5b0 : ((strOfNums t411).toList == ([36] : List UInt8)) = true := beq_iff_eq.mpr c5
   have c5b1 : ((strOfNums t411).toList != ([36] : List UInt8)) = false := bne_eq_false_iff_eq.mpr c5
   clear c5
   refine (Classical.em ((strOfNums t414).toList = ([4] : List UInt8))).elim (fun c6 => ?a24_) (fun c6 => ?b24_)
   case' a24_ =>
    rw [if_pos c6] at H
    have c6b0 : ((strOfNums t414).toList == ([4] : List UInt8)) = true := beq_iff_eq.mpr c6
    have c6b1 : ((strOfNums t414).toList != ([4] : List UInt8)) = false := bne_eq_false_iff_eq.mpr c6
    clear c6
    refine (Classical.em (t428 = 0)).elim (fun c7 => ?a25_) (fun c7 => ?b25_)
    case' a25_ =>
     rw [if_pos c7] at H
     have c7b0 : (t428 == 0) = true := beq_iff_eq.mpr c7
     have c7b1 : (t428 != 0) = false := bne_eq_false_iff_eq.mpr c7
     clear c7
     refine (Classical.em ((strOfNums t427).toList = ([1] : List UInt8))).elim (fun c8 => ?a26_) (fun c8 => ?b26_)
     case' a26_ =>
      rw [if_pos c8] at H
      have c8b0 : ((strOfNums t427).toList == ([1] : List UInt8)) = true := beq_iff_eq.mpr c8
      have c8b1 : ((strOfNums t427).toList != ([1] : List UInt8)) = false := bne_eq_false_iff_eq.mpr c8
      clear c8
      refine (Classical.em (t438 = 0)).elim (fun c9 => ?a27_) (fun c9 => ?b27_)
      case' a27_ =>
       rw [if_pos c9] at H
       have c9b0 : (t438 == 0) = true := beq_iff_eq.mpr c9
       have c9b1 : (t438 != 0) = false := bne_eq_false_iff_eq.mpr c9
       clear c9
       obtain rfl := Option.some.inj H
      case' b27_ =>
       rw [if_neg c9] at H
       have c9b0 : (t438 == 0) = false := beq_eq_false_iff_ne.mpr c9
       have c9b1 : (t438 != 0) = true := bne_iff_ne.mpr c9
       obtain rfl := Option.some.inj H
     case' b26_ =>
      rw [if_neg c8] at H
      have c8b0 : ((strOfNums t427).toList == ([1] : List UInt8)) = false := beq_eq_false_iff_ne.mpr c8
      have c8b1 : ((strOfNums t427).toList != ([1] : List UInt8)) = true := bne_iff_ne.mpr c8
      obtain rfl := Option.some.inj H
    case' b25_ =>
     rw [if_neg c7] at H
     have c7b0 : (t428 == 0) = false := beq_eq_false_iff_ne.mpr c7
     have c7b1 : (t428 != 0) = true := bne_iff_ne.mpr c7
     obtain rfl := Option.some.inj H
   case' b24_ =>
    rw [if_neg c6] at H
    have c6b0 : ((strOfNums t414).toList == ([4] : List UInt8)) = false := beq_eq_false_iff_ne.mpr c6
    have c6b1 : ((strOfNums t414).toList != ([4] : List UInt8)) = true := bne_iff_ne.mpr c6
    obtain rfl := Option.some.inj H
  case' b23_ =>
   rw [if_neg c5] at H
   have c5b0 : ((strOfNums t411).toList == ([36] : List UInt8)) = false := beq_eq_false_iff_ne.mpr c5
   have c5b1 : ((strOfNums t411).toList != ([36] : List UInt8)) = true := bne_iff_ne.mpr c5
   obtain rfl := Option.some.inj H
 case' b22_ =>
  rw [if_neg c4] at H
  have c4b0 : (t417 == 0) = false := beq_eq_false_iff_ne.mpr c4
  have c4b1 : (t417 != 0) = true := bne_iff_ne.mpr c4
  obtain rfl := Option.some.inj H
  go_enter Tryd.func11, Tryd.ntmps11
  go_wp2_with (first | ((with_reducible refine gate_dst (N := 9) rfl ?_); refine litI .u8 5 9 [1, 0] [.int .u8 1, .int .u8 0] ?hr ?_; (case hr => first | (go_simp; done) | (go_simp; rfl)); intro v406 w184 ho185 hb; (first | rw [← Ny405.out] at ho185 | (simp only [Int.reduceToNat] at ho185; rw [← Ny405.out] at ho185)); have n0_ := Aside0.mk (Kd.R_lower ho185 (Bz HB)); have n1_ := Bs HB hb; clear HB; revert n0_ n1_; intro HO407 HB; clear hb ho185) | ((with_reducible refine gate_dst (N := 10) rfl ?_); refine litI .u8 5 10 [7] [.int .u8 7] ?hr ?_; (case hr => first | (go_simp; done) | (go_simp; rfl)); intro v409 w186 ho187 hb; (first | rw [← Ny408.out] at ho187 | (simp only [Int.reduceToNat] at ho187; rw [← Ny408.out] at ho187)); have n0_ := Re HO407 (Kd.R_base ho187) hb; have n1_ := Aside0.mk (Kd.R_lower (Kd.R_new' ho187 (Kd.R_lt (Ru HO407))) (Bz HB)); have n2_ := Bs HB hb; clear HO407 HB; revert n0_ n1_ n2_; intro HO407 HO410 HB; clear hb ho187; obtain ⟨Ao188, co188, eo188⟩ := Kd.R_slice HO407.out; subst eo188; obtain ⟨Ao189, co189, eo189⟩ := Kd.R_slice HO410.out; subst eo189) | ((with_reducible refine gate_callee (f := 13) rfl ?_); refine goesA (some 11) Tryd.func13 #[.slice Ao188 y405.length co188, .slice Ao189 y408.length co189] rfl ?_; (with_reducible refine (nat_Div.calls k (fun k_ => some k_ = (.slice Ao188 y405.length co188 : Value).ownBlock) _ _ y405 (fun k_ => some k_ = (.slice Ao189 y408.length co189 : Value).ownBlock) _ _ y408 t411 t414 t417 _ ?side1 ?side2 A1.out).mono ?_); (case side1 => exact Kd.R_V (Kd.R_tight rfl (HO407.out))); (case side2 => exact Kd.R_V (Kd.R_tight rfl (HO410.out))); rintro e w190 ⟨v412, v415, rfl, ho0, ho1, hb⟩; refine ⟨_, rfl, ?_⟩; have n0_ := Aside0.mk (Kd.R_mono (Kd.R_told (Kd.R_told (Kd.R_old (Ru HO407) hb) (Kd.R_base ho0)) (Kd.R_base ho1)) (fun _ h_ => h_.1)); have n1_ := Aside0.mk (Kd.R_mono (Kd.R_told (Kd.R_told (Kd.R_old (Ru HO410) hb) (Kd.R_base ho0)) (Kd.R_base ho1)) (fun _ h_ => h_.1)); have n2_ := Aside0.mk (Kd.R_lower (Kd.R_new' (Kd.R_new' (Kd.R_mono (ok' := fun k_ => some k_ ≠ (v415 : Value).ownBlock) ho0 (fun _ hk_ => hk_.2)) (Kd.R_lt (Ru HO407))) (Kd.R_lt (Ru HO410))) (Bz HB)); have n3_ := Aside0.mk (Kd.R_lower (Kd.R_new' (Kd.R_new' (Kd.R_mono (ok' := fun k_ => some k_ ≠ (v412 : Value).ownBlock) ho1 (fun _ hk_ => hk_.2)) (Kd.R_lt (Ru HO407))) (Kd.R_lt (Ru HO410))) (Bz HB)); have n4_ := Bs HB hb; clear HO407 HO410 HB; revert n0_ n1_ n2_ n3_ n4_; intro HO407 HO410 HO413 HO416 HB; (try clear hb); (try clear hb2); (try clear hk); (try clear hi); (try clear ho0); (try clear ho1)) | ((with_reducible refine gate_dst (N := 16) rfl ?_); refine litI .u8 5 16 [3] [.int .u8 3] ?hr ?_; (case hr => first | (go_simp; done) | (go_simp; rfl)); intro v419 w191 ho192 hb; (first | rw [← Ny418.out] at ho192 | (simp only [Int.reduceToNat] at ho192; rw [← Ny418.out] at ho192)); have n0_ := Re HO407 (Kd.R_base ho192) hb; have n1_ := Re HO410 (Kd.R_base ho192) hb; have n2_ := Re HO413 (Kd.R_base ho192) hb; have n3_ := Re HO416 (Kd.R_base ho192) hb; have n4_ := Aside0.mk (Kd.R_lower (Kd.R_new' (Kd.R_new' (Kd.R_new' (Kd.R_new' ho192 (Kd.R_lt (Ru HO407))) (Kd.R_lt (Ru HO410))) (Kd.R_lt (Ru HO413))) (Kd.R_lt (Ru HO416))) (Bz HB)); have n5_ := Bs HB hb; clear HO407 HO410 HO413 HO416 HB; revert n0_ n1_ n2_ n3_ n4_ n5_; intro HO407 HO410 HO413 HO416 HO420 HB; clear hb ho192) | ((with_reducible refine gate_dst (N := 17) rfl ?_); refine litI .u8 5 17 [4] [.int .u8 4] ?hr ?_; (case hr => first | (go_simp; done) | (go_simp; rfl)); intro v422 w193 ho194 hb; (first | rw [← Ny421.out] at ho194 | (simp only [Int.reduceToNat] at ho194; rw [← Ny421.out] at ho194)); have n0_ := Re HO407 (Kd.R_base ho194) hb; have n1_ := Re HO410 (Kd.R_base ho194) hb; have n2_ := Re HO413 (Kd.R_base ho194) hb; have n3_ := Re HO416 (Kd.R_base ho194) hb; have n4_ := Re HO420 (Kd.R_base ho194) hb; have n5_ := Aside0.mk (Kd.R_lower (Kd.R_new' (Kd.R_new' (Kd.R_new' (Kd.R_new' (Kd.R_new' ho194 (Kd.R_lt (Ru HO407))) (Kd.R_lt (Ru HO410))) (Kd.R_lt (Ru HO413))) (Kd.R_lt (Ru HO416))) (Kd.R_lt (Ru HO420))) (Bz HB)); have n6_ := Bs HB hb; clear HO407 HO410 HO413 HO416 HO420 HB; revert n0_ n1_ n2_ n3_ n4_ n5_ n6_; intro HO407 HO410 HO413 HO416 HO420 HO423 HB; clear hb ho194) | ((with_reducible refine gate_dst (N := 18) rfl ?_); refine litI .u8 5 18 [5] [.int .u8 5] ?hr ?_; (case hr => first | (go_simp; done) | (go_simp; rfl)); intro v425 w195 ho196 hb; (first | rw [← Ny424.out] at ho196 | (simp only [Int.reduceToNat] at ho196; rw [← Ny424.out] at ho196)); have n0_ := Re HO407 (Kd.R_base ho196) hb; have n1_ := Re HO410 (Kd.R_base ho196) hb; have n2_ := Re HO413 (Kd.R_base ho196) hb; have n3_ := Re HO416 (Kd.R_base ho196) hb; have n4_ := Re HO420 (Kd.R_base ho196) hb; have n5_ := Re HO423 (Kd.R_base ho196) hb; have n6_ := Aside0.mk (Kd.R_lower (Kd.R_new' (Kd.R_new' (Kd.R_new' (Kd.R_new' (Kd.R_new' (Kd.R_new' ho196 (Kd.R_lt (Ru HO407))) (Kd.R_lt (Ru HO410))) (Kd.R_lt (Ru HO413))) (Kd.R_lt (Ru HO416))) (Kd.R_lt (Ru HO420))) (Kd.R_lt (Ru HO423))) (Bz HB)); have n7_ := Bs HB hb; clear HO407 HO410 HO413 HO416 HO420 HO423 HB; revert n0_ n1_ n2_ n3_ n4_ n5_ n6_ n7_; intro HO407 HO410 HO413 HO416 HO420 HO423 HO426 HB; clear hb ho196; obtain ⟨Ao197, co197, eo197⟩ := Kd.R_slice HO420.out; subst eo197; obtain ⟨Ao198, co198, eo198⟩ := Kd.R_slice HO423.out; subst eo198; obtain ⟨Ao199, co199, eo199⟩ := Kd.R_slice HO426.out; subst eo199) | ((with_reducible refine gate_callee (f := 16) rfl ?_); refine goesA (some 19) Tryd.func16 #[.slice Ao197 y418.length co197, .slice Ao198 y421.length co198, .slice Ao199 y424.length co199] rfl ?_; (with_reducible refine (nat_Exp.calls k _ _ y418 _ _ y421 _ _ y424 t427 t428 _ ?side1 ?side2 ?side3 ?side4 ?side5 ?side6 A2.out).mono ?_); (case side1 => exact Cu (Kd.R_reads' HO420.out).2.2); (case side2 => exact (Kd.R_reads' HO420.out).2.1); (case side3 => exact Cu (Kd.R_reads' HO423.out).2.2); (case side4 => exact (Kd.R_reads' HO423.out).2.1); (case side5 => exact Cu (Kd.R_reads' HO426.out).2.2); (case side6 => exact (Kd.R_reads' HO426.out).2.1); rintro e w200 ⟨v429, rfl, ho0, hb⟩; refine ⟨_, rfl, ?_⟩; have n0_ := Re HO407 (Kd.R_base ho0) hb; have n1_ := Re HO410 (Kd.R_base ho0) hb; have n2_ := Re HO413 (Kd.R_base ho0) hb; have n3_ := Re HO416 (Kd.R_base ho0) hb; have n4_ := Re HO420 (Kd.R_base ho0) hb; have n5_ := Re HO423 (Kd.R_base ho0) hb; have n6_ := Re HO426 (Kd.R_base ho0) hb; have n7_ := Aside0.mk (Kd.R_lower (Kd.R_new' (Kd.R_new' (Kd.R_new' (Kd.R_new' (Kd.R_new' (Kd.R_new' (Kd.R_new' ho0 (Kd.R_lt (Ru HO407))) (Kd.R_lt (Ru HO410))) (Kd.R_lt (Ru HO413))) (Kd.R_lt (Ru HO416))) (Kd.R_lt (Ru HO420))) (Kd.R_lt (Ru HO423))) (Kd.R_lt (Ru HO426))) (Bz HB)); have n8_ := Bs HB hb; clear HO407 HO410 HO413 HO416 HO420 HO423 HO426 HB; revert n0_ n1_ n2_ n3_ n4_ n5_ n6_ n7_ n8_; intro HO407 HO410 HO413 HO416 HO420 HO423 HO426 HO430 HB; (try clear hb); (try clear hb2); (try clear hk); (try clear hi); (try clear ho0)) | ((with_reducible refine gate_dst (N := 23) rfl ?_); refine litI .u8 5 23 [3] [.int .u8 3] ?hr ?_; (case hr => first | (go_simp; done) | (go_simp; rfl)); intro v432 w201 ho202 hb; (first | rw [← Ny431.out] at ho202 | (simp only [Int.reduceToNat] at ho202; rw [← Ny431.out] at ho202)); have n0_ := Re HO407 (Kd.R_base ho202) hb; have n1_ := Re HO410 (Kd.R_base ho202) hb; have n2_ := Re HO413 (Kd.R_base ho202) hb; have n3_ := Re HO416 (Kd.R_base ho202) hb; have n4_ := Re HO420 (Kd.R_base ho202) hb; have n5_ := Re HO423 (Kd.R_base ho202) hb; have n6_ := Re HO426 (Kd.R_base ho202) hb; have n7_ := Re HO430 (Kd.R_base ho202) hb; have n8_ := Aside0.mk (Kd.R_lower (Kd.R_new' (Kd.R_new' (Kd.R_new' (Kd.R_new' (Kd.R_new' (Kd.R_new' (Kd.R_new' (Kd.R_new' ho202 (Kd.R_lt (Ru HO407))) (Kd.R_lt (Ru HO410))) (Kd.R_lt (Ru HO413))) (Kd.R_lt (Ru HO416))) (Kd.R_lt (Ru HO420))) (Kd.R_lt (Ru HO423))) (Kd.R_lt (Ru HO426))) (Kd.R_lt (Ru HO430))) (Bz HB)); have n9_ := Bs HB hb; clear HO407 HO410 HO413 HO416 HO420 HO423 HO426 HO430 HB; revert n0_ n1_ n2_ n3_ n4_ n5_ n6_ n7_ n8_ n9_; intro HO407 HO410 HO413 HO416 HO420 HO423 HO426 HO430 HO433 HB; clear hb ho202) | ((with_reducible refine gate_dst (N := 24) rfl ?_); refine litI .u8 5 24 [7] [.int .u8 7] ?hr ?_; (case hr => first | (go_simp; done) | (go_simp; rfl)); intro v435 w203 ho204 hb; (first | rw [← Ny434.out] at ho204 | (simp only [Int.reduceToNat] at ho204; rw [← Ny434.out] at ho204)); have n0_ := Re HO407 (Kd.R_base ho204) hb; have n1_ := Re HO410 (Kd.R_base ho204) hb; have n2_ := Re HO413 (Kd.R_base ho204) hb; have n3_ := Re HO416 (Kd.R_base ho204) hb; have n4_ := Re HO420 (Kd.R_base ho204) hb; have n5_ := Re HO423 (Kd.R_base ho204) hb; have n6_ := Re HO426 (Kd.R_base ho204) hb; have n7_ := Re HO430 (Kd.R_base ho204) hb; have n8_ := Re HO433 (Kd.R_base ho204) hb; have n9_ := Aside0.mk (Kd.R_lower (Kd.R_new' (Kd.R_new' (Kd.R_new' (Kd.R_new' (Kd.R_new' (Kd.R_new' (Kd.R_new' (Kd.R_new' (Kd.R_new' ho204 (Kd.R_lt (Ru HO407))) (Kd.R_lt (Ru HO410))) (Kd.R_lt (Ru HO413))) (Kd.R_lt (Ru HO416))) (Kd.R_lt (Ru HO420))) (Kd.R_lt (Ru HO423))) (Kd.R_lt (Ru HO426))) (Kd.R_lt (Ru HO430))) (Kd.R_lt (Ru HO433))) (Bz HB)); have n10_ := Bs HB hb; clear HO407 HO410 HO413 HO416 HO420 HO423 HO426 HO430 HO433 HB; revert n0_ n1_ n2_ n3_ n4_ n5_ n6_ n7_ n8_ n9_ n10_; intro HO407 HO410 HO413 HO416 HO420 HO423 HO426 HO430 HO433 HO436 HB; clear hb ho204; obtain ⟨Ao205, co205, eo205⟩ := Kd.R_slice HO433.out; subst eo205; obtain ⟨Ao206, co206, eo206⟩ := Kd.R_slice HO436.out; subst eo206) | ((with_reducible refine gate_callee (f := 20) rfl ?_); refine goesA (some 25) Tryd.func20 #[.slice Ao205 y431.length co205, .slice Ao206 y434.length co206] rfl ?_; (with_reducible refine (nat_Inverse.calls k _ _ y431 _ _ y434 t437 t438 _ ?side1 ?side2 ?side3 ?side4 A3.out).mono ?_); (case side1 => exact Cu (Kd.R_reads' HO433.out).2.2); (case side2 => exact (Kd.R_reads' HO433.out).2.1); (case side3 => exact Cu (Kd.R_reads' HO436.out).2.2); (case side4 => exact (Kd.R_reads' HO436.out).2.1); rintro e w207 ⟨v439, rfl, ho0, hb⟩; refine ⟨_, rfl, ?_⟩; have n0_ := Re HO407 (Kd.R_base ho0) hb; have n1_ := Re HO410 (Kd.R_base ho0) hb; have n2_ := Re HO413 (Kd.R_base ho0) hb; have n3_ := Re HO416 (Kd.R_base ho0) hb; have n4_ := Re HO420 (Kd.R_base ho0) hb; have n5_ := Re HO423 (Kd.R_base ho0) hb; have n6_ := Re HO426 (Kd.R_base ho0) hb; have n7_ := Re HO430 (Kd.R_base ho0) hb; have n8_ := Re HO433 (Kd.R_base ho0) hb; have n9_ := Re HO436 (Kd.R_base ho0) hb; have n10_ := Aside0.mk (Kd.R_lower (Kd.R_new' (Kd.R_new' (Kd.R_new' (Kd.R_new' (Kd.R_new' (Kd.R_new' (Kd.R_new' (Kd.R_new' (Kd.R_new' (Kd.R_new' ho0 (Kd.R_lt (Ru HO407))) (Kd.R_lt (Ru HO410))) (Kd.R_lt (Ru HO413))) (Kd.R_lt (Ru HO416))) (Kd.R_lt (Ru HO420))) (Kd.R_lt (Ru HO423))) (Kd.R_lt (Ru HO426))) (Kd.R_lt (Ru HO430))) (Kd.R_lt (Ru HO433))) (Kd.R_lt (Ru HO436))) (Bz HB)); have n11_ := Bs HB hb; clear HO407 HO410 HO413 HO416 HO420 HO423 HO426 HO430 HO433 HO436 HB; revert n0_ n1_ n2_ n3_ n4_ n5_ n6_ n7_ n8_ n9_ n10_ n11_; intro HO407 HO410 HO413 HO416 HO420 HO423 HO426 HO430 HO433 HO436 HO440 HB; (try clear hb); (try clear hb2); (try clear hk); (try clear hi); (try clear ho0)))
  go_ret
  exact ⟨rfl_, Bu HB⟩

 case a27_ | b27_ | b26_ | b25_ | b24_ | b23_ =>
  go_enter Tryd.func11, Tryd.ntmps11
  go_wp2_with (first | ((with_reducible refine gate_dst (N := 9) rfl ?_); refine litI .u8 5 9 [1, 0] [.int .u8 1, .int .u8 0] ?hr ?_; (case hr => first | (go_simp; done) | (go_simp; rfl)); intro vz1 wz1 hoz1 hb; (first | rw [← Ny405.out] at hoz1 | (simp only [Int.reduceToNat] at hoz1; rw [← Ny405.out] at hoz1)); have nz1 := Aside0.mk (Kd.R_lower hoz1 (Bz HB)); have nz2 := Bs HB hb; clear HB; have HOz1 := nz1; have HB := nz2; clear nz1 nz2; clear hb hoz1) | ((with_reducible refine gate_dst (N := 10) rfl ?_); refine litI .u8 5 10 [7] [.int .u8 7] ?hr ?_; (case hr => first | (go_simp; done) | (go_simp; rfl)); intro vz2 wz2 hoz2 hb; (first | rw [← Ny408.out] at hoz2 | (simp only [Int.reduceToNat] at hoz2; rw [← Ny408.out] at hoz2)); have nz1 := Re HOz1 (Kd.R_base hoz2) hb; have nz2 := Aside0.mk (Kd.R_lower (Kd.R_new' hoz2 (Kd.R_lt (Ru HOz1))) (Bz HB)); have nz3 := Bs HB hb; clear HOz1; clear HB; have HOz1 := nz1; have HOz2 := nz2; have HB := nz3; clear nz1 nz2 nz3; clear hb hoz2; obtain ⟨Aoz1, coz1, eoz1⟩ := Kd.R_slice HOz1.out; subst eoz1; obtain ⟨Aoz2, coz2, eoz2⟩ := Kd.R_slice HOz2.out; subst eoz2) | ((with_reducible refine gate_callee (f := 13) rfl ?_); refine goesA (some 11) Tryd.func13 #[.slice Aoz1 y405.length coz1, .slice Aoz2 y408.length coz2] rfl ?_; (with_reducible refine (nat_Div.calls k (fun k_ => some k_ = (.slice Aoz1 y405.length coz1 : Value).ownBlock) _ _ y405 (fun k_ => some k_ = (.slice Aoz2 y408.length coz2 : Value).ownBlock) _ _ y408 t411 t414 t417 _ ?side1 ?side2 A1.out).mono ?_); (case side1 => exact Kd.R_V (Kd.R_tight rfl (HOz1.out))); (case side2 => exact Kd.R_V (Kd.R_tight rfl (HOz2.out))); rintro e wz3 ⟨vz3, vz4, rfl, hoz3, hoz4, hb⟩; refine ⟨_, rfl, ?_⟩; have nz1 := Aside0.mk (Kd.R_mono (Kd.R_told (Kd.R_told (Kd.R_old (Ru HOz1) hb) (Kd.R_base hoz3)) (Kd.R_base hoz4)) (fun _ h_ => h_.1)); have nz2 := Aside0.mk (Kd.R_mono (Kd.R_told (Kd.R_told (Kd.R_old (Ru HOz2) hb) (Kd.R_base hoz3)) (Kd.R_base hoz4)) (fun _ h_ => h_.1)); have nz3 := Aside0.mk (Kd.R_lower (Kd.R_new' (Kd.R_new' (Kd.R_mono (ok' := fun k_ => some k_ ≠ (vz4 : Value).ownBlock) hoz3 (fun _ hk_ => hk_.2)) (Kd.R_lt (Ru HOz1))) (Kd.R_lt (Ru HOz2))) (Bz HB)); have nz4 := Aside0.mk (Kd.R_lower (Kd.R_new' (Kd.R_new' (Kd.R_mono (ok' := fun k_ => some k_ ≠ (vz3 : Value).ownBlock) hoz4 (fun _ hk_ => hk_.2)) (Kd.R_lt (Ru HOz1))) (Kd.R_lt (Ru HOz2))) (Bz HB)); have nz5 := Bs HB hb; clear HOz1; clear HOz2; clear HB; have HOz1 := nz1; have HOz2 := nz2; have HOz3 := nz3; have HOz4 := nz4; have HB := nz5; clear nz1 nz2 nz3 nz4 nz5; (try clear hb); (try clear hb2); (try clear hk); (try clear hi); (try clear hoz3); (try clear hoz4)) | ((with_reducible refine gate_dst (N := 16) rfl ?_); refine litI .u8 5 16 [3] [.int .u8 3] ?hr ?_; (case hr => first | (go_simp; done) | (go_simp; rfl)); intro vz5 wz4 hoz5 hb; (first | rw [← Ny418.out] at hoz5 | (simp only [Int.reduceToNat] at hoz5; rw [← Ny418.out] at hoz5)); have nz1 := Re HOz1 (Kd.R_base hoz5) hb; have nz2 := Re HOz2 (Kd.R_base hoz5) hb; have nz3 := Re HOz3 (Kd.R_base hoz5) hb; have nz4 := Re HOz4 (Kd.R_base hoz5) hb; have nz5 := Aside0.mk (Kd.R_lower (Kd.R_new' (Kd.R_new' (Kd.R_new' (Kd.R_new' hoz5 (Kd.R_lt (Ru HOz1))) (Kd.R_lt (Ru HOz2))) (Kd.R_lt (Ru HOz3))) (Kd.R_lt (Ru HOz4))) (Bz HB)); have nz6 := Bs HB hb; clear HOz1; clear HOz2; clear HOz3; clear HOz4; clear HB; have HOz1 := nz1; have HOz2 := nz2; have HOz3 := nz3; have HOz4 := nz4; have HOz5 := nz5; have HB := nz6; clear nz1 nz2 nz3 nz4 nz5 nz6; clear hb hoz5) | ((with_reducible refine gate_dst (N := 17) rfl ?_); refine litI .u8 5 17 [4] [.int .u8 4] ?hr ?_; (case hr => first | (go_simp; done) | (go_simp; rfl)); intro vz6 wz5 hoz6 hb; (first | rw [← Ny421.out] at hoz6 | (simp only [Int.reduceToNat] at hoz6; rw [← Ny421.out] at hoz6)); have nz1 := Re HOz1 (Kd.R_base hoz6) hb; have nz2 := Re HOz2 (Kd.R_base hoz6) hb; have nz3 := Re HOz3 (Kd.R_base hoz6) hb; have nz4 := Re HOz4 (Kd.R_base hoz6) hb; have nz5 := Re HOz5 (Kd.R_base hoz6) hb; have nz6 := Aside0.mk (Kd.R_lower (Kd.R_new' (Kd.R_new' (Kd.R_new' (Kd.R_new' (Kd.R_new' hoz6 (Kd.R_lt (Ru HOz1))) (Kd.R_lt (Ru HOz2))) (Kd.R_lt (Ru HOz3))) (Kd.R_lt (Ru HOz4))) (Kd.R_lt (Ru HOz5))) (Bz HB)); have nz7 := Bs HB hb; clear HOz1; clear HOz2; clear HOz3; clear HOz4; clear HOz5; clear HB; have HOz1 := nz1; have HOz2 := nz2; have HOz3 := nz3; have HOz4 := nz4; have HOz5 := nz5; have HOz6 := nz6; have HB := nz7; clear nz1 nz2 nz3 nz4 nz5 nz6 nz7; clear hb hoz6) | ((with_reducible refine gate_dst (N := 18) rfl ?_); refine litI .u8 5 18 [5] [.int .u8 5] ?hr ?_; (case hr => first | (go_simp; done) | (go_simp; rfl)); intro vz7 wz6 hoz7 hb; (first | rw [← Ny424.out] at hoz7 | (simp only [Int.reduceToNat] at hoz7; rw [← Ny424.out] at hoz7)); have nz1 := Re HOz1 (Kd.R_base hoz7) hb; have nz2 := Re HOz2 (Kd.R_base hoz7) hb; have nz3 := Re HOz3 (Kd.R_base hoz7) hb; have nz4 := Re HOz4 (Kd.R_base hoz7) hb; have nz5 := Re HOz5 (Kd.R_base hoz7) hb; have nz6 := Re HOz6 (Kd.R_base hoz7) hb; have nz7 := Aside0.mk (Kd.R_lower (Kd.R_new' (Kd.R_new' (Kd.R_new' (Kd.R_new' (Kd.R_new' (Kd.R_new' hoz7 (Kd.R_lt (Ru HOz1))) (Kd.R_lt (Ru HOz2))) (Kd.R_lt (Ru HOz3))) (Kd.R_lt (Ru HOz4))) (Kd.R_lt (Ru HOz5))) (Kd.R_lt (Ru HOz6))) (Bz HB)); have nz8 := Bs HB hb; clear HOz1; clear HOz2; clear HOz3; clear HOz4; clear HOz5; clear HOz6; clear HB; have HOz1 := nz1; have HOz2 := nz2; have HOz3 := nz3; have HOz4 := nz4; have HOz5 := nz5; have HOz6 := nz6; have HOz7 := nz7; have HB := nz8; clear nz1 nz2 nz3 nz4 nz5 nz6 nz7 nz8; clear hb hoz7; obtain ⟨Aoz3, coz3, eoz3⟩ := Kd.R_slice HOz5.out; subst eoz3; obtain ⟨Aoz4, coz4, eoz4⟩ := Kd.R_slice HOz6.out; subst eoz4; obtain ⟨Aoz5, coz5, eoz5⟩ := Kd.R_slice HOz7.out; subst eoz5) | ((with_reducible refine gate_callee (f := 16) rfl ?_); refine goesA (some 19) Tryd.func16 #[.slice Aoz3 y418.length coz3, .slice Aoz4 y421.length coz4, .slice Aoz5 y424.length coz5] rfl ?_; (with_reducible refine (nat_Exp.calls k _ _ y418 _ _ y421 _ _ y424 t427 t428 _ ?side1 ?side2 ?side3 ?side4 ?side5 ?side6 A2.out).mono ?_); (case side1 => exact Cu (Kd.R_reads' HOz5.out).2.2); (case side2 => exact (Kd.R_reads' HOz5.out).2.1); (case side3 => exact Cu (Kd.R_reads' HOz6.out).2.2); (case side4 => exact (Kd.R_reads' HOz6.out).2.1); (case side5 => exact Cu (Kd.R_reads' HOz7.out).2.2); (case side6 => exact (Kd.R_reads' HOz7.out).2.1); rintro e wz7 ⟨vz8, rfl, hoz3, hb⟩; refine ⟨_, rfl, ?_⟩; have nz1 := Re HOz1 (Kd.R_base hoz3) hb; have nz2 := Re HOz2 (Kd.R_base hoz3) hb; have nz3 := Re HOz3 (Kd.R_base hoz3) hb; have nz4 := Re HOz4 (Kd.R_base hoz3) hb; have nz5 := Re HOz5 (Kd.R_base hoz3) hb; have nz6 := Re HOz6 (Kd.R_base hoz3) hb; have nz7 := Re HOz7 (Kd.R_base hoz3) hb; have nz8 := Aside0.mk (Kd.R_lower (Kd.R_new' (Kd.R_new' (Kd.R_new' (Kd.R_new' (Kd.R_new' (Kd.R_new' (Kd.R_new' hoz3 (Kd.R_lt (Ru HOz1))) (Kd.R_lt (Ru HOz2))) (Kd.R_lt (Ru HOz3))) (Kd.R_lt (Ru HOz4))) (Kd.R_lt (Ru HOz5))) (Kd.R_lt (Ru HOz6))) (Kd.R_lt (Ru HOz7))) (Bz HB)); have nz9 := Bs HB hb; clear HOz1; clear HOz2; clear HOz3; clear HOz4; clear HOz5; clear HOz6; clear HOz7; clear HB; have HOz1 := nz1; have HOz2 := nz2; have HOz3 := nz3; have HOz4 := nz4; have HOz5 := nz5; have HOz6 := nz6; have HOz7 := nz7; have HOz8 := nz8; have HB := nz9; clear nz1 nz2 nz3 nz4 nz5 nz6 nz7 nz8 nz9; (try clear hb); (try clear hb2); (try clear hk); (try clear hi); (try clear hoz3)) | ((with_reducible refine gate_dst (N := 23) rfl ?_); refine litI .u8 5 23 [3] [.int .u8 3] ?hr ?_; (case hr => first | (go_simp; done) | (go_simp; rfl)); intro vz9 wz8 hoz8 hb; (first | rw [← Ny431.out] at hoz8 | (simp only [Int.reduceToNat] at hoz8; rw [← Ny431.out] at hoz8)); have nz1 := Re HOz1 (Kd.R_base hoz8) hb; have nz2 := Re HOz2 (Kd.R_base hoz8) hb; have nz3 := Re HOz3 (Kd.R_base hoz8) hb; have nz4 := Re HOz4 (Kd.R_base hoz8) hb; have nz5 := Re HOz5 (Kd.R_base hoz8) hb; have nz6 := Re HOz6 (Kd.R_base hoz8) hb; have nz7 := Re HOz7 (Kd.R_base hoz8) hb; have nz8 := Re HOz8 (Kd.R_base hoz8) hb; have nz9 := Aside0.mk (Kd.R_lower (Kd.R_new' (Kd.R_new' (Kd.R_new' (Kd.R_new' (Kd.R_new' (Kd.R_new' (Kd.R_new' (Kd.R_new' hoz8 (Kd.R_lt (Ru HOz1))) (Kd.R_lt (Ru HOz2))) (Kd.R_lt (Ru HOz3))) (Kd.R_lt (Ru HOz4))) (Kd.R_lt (Ru HOz5))) (Kd.R_lt (Ru HOz6))) (Kd.R_lt (Ru HOz7))) (Kd.R_lt (Ru HOz8))) (Bz HB)); have nz10 := Bs HB hb; clear HOz1; clear HOz2; clear HOz3; clear HOz4; clear HOz5; clear HOz6; clear HOz7; clear HOz8; clear HB; have HOz1 := nz1; have HOz2 := nz2; have HOz3 := nz3; have HOz4 := nz4; have HOz5 := nz5; have HOz6 := nz6; have HOz7 := nz7; have HOz8 := nz8; have HOz9 := nz9; have HB := nz10; clear nz1 nz2 nz3 nz4 nz5 nz6 nz7 nz8 nz9 nz10; clear hb hoz8) | ((with_reducible refine gate_dst (N := 24) rfl ?_); refine litI .u8 5 24 [7] [.int .u8 7] ?hr ?_; (case hr => first | (go_simp; done) | (go_simp; rfl)); intro vz10 wz9 hoz9 hb; (first | rw [← Ny434.out] at hoz9 | (simp only [Int.reduceToNat] at hoz9; rw [← Ny434.out] at hoz9)); have nz1 := Re HOz1 (Kd.R_base hoz9) hb; have nz2 := Re HOz2 (Kd.R_base hoz9) hb; have nz3 := Re HOz3 (Kd.R_base hoz9) hb; have nz4 := Re HOz4 (Kd.R_base hoz9) hb; have nz5 := Re HOz5 (Kd.R_base hoz9) hb; have nz6 := Re HOz6 (Kd.R_base hoz9) hb; have nz7 := Re HOz7 (Kd.R_base hoz9) hb; have nz8 := Re HOz8 (Kd.R_base hoz9) hb; have nz9 := Re HOz9 (Kd.R_base hoz9) hb; have nz10 := Aside0.mk (Kd.R_lower (Kd.R_new' (Kd.R_new' (Kd.R_new' (Kd.R_new' (Kd.R_new' (Kd.R_new' (Kd.R_new' (Kd.R_new' (Kd.R_new' hoz9 (Kd.R_lt (Ru HOz1))) (Kd.R_lt (Ru HOz2))) (Kd.R_lt (Ru HOz3))) (Kd.R_lt (Ru HOz4))) (Kd.R_lt (Ru HOz5))) (Kd.R_lt (Ru HOz6))) (Kd.R_lt (Ru HOz7))) (Kd.R_lt (Ru HOz8))) (Kd.R_lt (Ru HOz9))) (Bz HB)); have nz11 := Bs HB hb; clear HOz1; clear HOz2; clear HOz3; clear HOz4; clear HOz5; clear HOz6; clear HOz7; clear HOz8; clear HOz9; clear HB; have HOz1 := nz1; have HOz2 := nz2; have HOz3 := nz3; have HOz4 := nz4; have HOz5 := nz5; have HOz6 := nz6; have HOz7 := nz7; have HOz8 := nz8; have HOz9 := nz9; have HOz10 := nz10; have HB := nz11; clear nz1 nz2 nz3 nz4 nz5 nz6 nz7 nz8 nz9 nz10 nz11; clear hb hoz9; obtain ⟨Aoz6, coz6, eoz6⟩ := Kd.R_slice HOz9.out; subst eoz6; obtain ⟨Aoz7, coz7, eoz7⟩ := Kd.R_slice HOz10.out; subst eoz7) | ((with_reducible refine gate_callee (f := 20) rfl ?_); refine goesA (some 25) Tryd.func20 #[.slice Aoz6 y431.length coz6, .slice Aoz7 y434.length coz7] rfl ?_; (with_reducible refine (nat_Inverse.calls k _ _ y431 _ _ y434 t437 t438 _ ?side1 ?side2 ?side3 ?side4 A3.out).mono ?_); (case side1 => exact Cu (Kd.R_reads' HOz9.out).2.2); (case side2 => exact (Kd.R_reads' HOz9.out).2.1); (case side3 => exact Cu (Kd.R_reads' HOz10.out).2.2); (case side4 => exact (Kd.R_reads' HOz10.out).2.1); rintro e wz10 ⟨vz11, rfl, hoz3, hb⟩; refine ⟨_, rfl, ?_⟩; have nz1 := Re HOz1 (Kd.R_base hoz3) hb; have nz2 := Re HOz2 (Kd.R_base hoz3) hb; have nz3 := Re HOz3 (Kd.R_base hoz3) hb; have nz4 := Re HOz4 (Kd.R_base hoz3) hb; have nz5 := Re HOz5 (Kd.R_base hoz3) hb; have nz6 := Re HOz6 (Kd.R_base hoz3) hb; have nz7 := Re HOz7 (Kd.R_base hoz3) hb; have nz8 := Re HOz8 (Kd.R_base hoz3) hb; have nz9 := Re HOz9 (Kd.R_base hoz3) hb; have nz10 := Re HOz10 (Kd.R_base hoz3) hb; have nz11 := Aside0.mk (Kd.R_lower (Kd.R_new' (Kd.R_new' (Kd.R_new' (Kd.R_new' (Kd.R_new' (Kd.R_new' (Kd.R_new' (Kd.R_new' (Kd.R_new' (Kd.R_new' hoz3 (Kd.R_lt (Ru HOz1))) (Kd.R_lt (Ru HOz2))) (Kd.R_lt (Ru HOz3))) (Kd.R_lt (Ru HOz4))) (Kd.R_lt (Ru HOz5))) (Kd.R_lt (Ru HOz6))) (Kd.R_lt (Ru HOz7))) (Kd.R_lt (Ru HOz8))) (Kd.R_lt (Ru HOz9))) (Kd.R_lt (Ru HOz10))) (Bz HB)); have nz12 := Bs HB hb; clear HOz1; clear HOz2; clear HOz3; clear HOz4; clear HOz5; clear HOz6; clear HOz7; clear HOz8; clear HOz9; clear HOz10; clear HB; have HOz1 := nz1; have HOz2 := nz2; have HOz3 := nz3; have HOz4 := nz4; have HOz5 := nz5; have HOz6 := nz6; have HOz7 := nz7; have HOz8 := nz8; have HOz9 := nz9; have HOz10 := nz10; have HOz11 := nz11; have HB := nz12; clear nz1 nz2 nz3 nz4 nz5 nz6 nz7 nz8 nz9 nz10 nz11 nz12; (try clear hb); (try clear hb2); (try clear hk); (try clear hi); (try clear hoz3); have hcvz1 := own_string (P := Tryd.prog) Tryd.underlying22 Tryd.underlying5 Tryd.underlying9 (Kd.own_of_R HOz3.out); have hcvz2 := fun n_ : Nat => own_string (P := Tryd.prog) Tryd.underlying22 Tryd.underlying5 Tryd.underlying9 (Kd.own_of_R (Kd.R_drewN HOz3.out n_)); have hcvz3 := own_string (P := Tryd.prog) Tryd.underlying22 Tryd.underlying5 Tryd.underlying9 (Kd.own_of_R HOz4.out); have hcvz4 := fun n_ : Nat => own_string (P := Tryd.prog) Tryd.underlying22 Tryd.underlying5 Tryd.underlying9 (Kd.own_of_R (Kd.R_drewN HOz4.out n_)); have hcvz5 := own_string (P := Tryd.prog) Tryd.underlying22 Tryd.underlying5 Tryd.underlying9 (Kd.own_of_R HOz8.out); have hcvz6 := fun n_ : Nat => own_string (P := Tryd.prog) Tryd.underlying22 Tryd.underlying5 Tryd.underlying9 (Kd.own_of_R (Kd.R_drewN HOz8.out n_)); have hcvz7 := own_string (P := Tryd.prog) Tryd.underlying22 Tryd.underlying5 Tryd.underlying9 (Kd.own_of_R HOz11.out); have hcvz8 := fun n_ : Nat => own_string (P := Tryd.prog) Tryd.underlying22 Tryd.underlying5 Tryd.underlying9 (Kd.own_of_R (Kd.R_drewN HOz11.out n_))))
  go_ret
  exact ⟨rfl_, Bu HB⟩
/-! ### lanyardref06_trim: function 30 -/
def lanyardref06_trim.l0 : Nat → List Int → Option (List Int)
 | 0, _ => none
 | k + 1, x0 => if (x0.length : Int) > 0 then (if 0 ≤ (wrap64 ((x0.length : Int) - 1)) then (if (wrap64 ((x0.length : Int) - 1)) < (x0.length : Int) then (if (rd x0 (wrap64 ((x0.length : Int) - 1))) = 0 then (if (wrap64 ((x0.length : Int) - 1)) ≤ (x0.length : Int) then (lanyardref06_trim.l0 k (x0.take ((wrap64 ((x0.length : Int) - 1)) : Int).toNat)) else (none)) else (some x0)) else (none)) else (none)) else (some x0)
def lanyardref06_trim.f (k : Nat) (l0 : List Int) : Option (List Int) := lanyardref06_trim.l0 k l0
theorem lanyardref06_trim.mono_l : ∀ k, (∀ y0, LeO (lanyardref06_trim.l0 k y0) (lanyardref06_trim.l0 (k + 1) y0))
 | 0 => fun _ r h => by simp [lanyardref06_trim.l0] at h
 | k + 1 => by
  have ih0 := lanyardref06_trim.mono_l k
  ·intro y0
   unfold lanyardref06_trim.l0
   repeat' first
   | (with_reducible exact ih0 _)
   | (with_reducible exact LeO.refl _)
   | (with_reducible exact LeO.none _)
   | (with_reducible refine LeO.ite ?_ ?_)
   | (with_reducible refine LeO.bind ?_ (fun _ => ?_))
   | exact ih0 _
   | exact LeO.none _
   | refine LeO.ite ?_ ?_
   | refine LeO.bind ?_ (fun _ => ?_)
theorem lanyardref06_trim.mono : ∀ a0 k, LeO (lanyardref06_trim.f k a0) (lanyardref06_trim.f (k + 1) a0) := by
 intro a0 k
 have ih0 := lanyardref06_trim.mono_l k
 unfold lanyardref06_trim.f
 repeat' first
   | (with_reducible exact ih0 _)
   | (with_reducible exact LeO.refl _)
   | (with_reducible exact LeO.none _)
   | (with_reducible refine LeO.ite ?_ ?_)
   | (with_reducible refine LeO.bind ?_ (fun _ => ?_))
   | exact ih0 _
   | exact LeO.none _
   | refine LeO.ite ?_ ?_
   | refine LeO.bind ?_ (fun _ => ?_)
set_option maxHeartbeats 8000000 in
set_option maxRecDepth 100000 in
theorem lanyardref06_trim.calls (k : Nat) (P0_ : Nat → Prop) (A0 : Option Addr) (c0 : Nat) (l0 : List Int) (r : List Int) (w : World) (hs0 : Kd.V (Kd.int .i64) 3 w w.heap.size (fun k_ => P0_ k_) (.slice A0 l0.length c0) l0) (h : lanyardref06_trim.f k l0 = some r) :
  Calls Tryd.prog 30 #[.slice A0 l0.length c0] w fun e w' => ∃ v0_ : Value, e = .returned (v0_) ∧ Kd.V (Kd.int .i64) 3 w' w.heap.size (fun k_ => (P0_ k_ ∨ w.heap.size ≤ k_)) v0_ r ∧ Below w.heap.size w w' := by
 have HO0 := Aside0.mk (show Kd.V (Kd.int .i64) 3 w w.heap.size (fun k_ => (P0_ k_ ∨ w.heap.size ≤ k_)) (.slice A0 l0.length c0) l0 from Kd.V_mono hs0 (fun k_ hk => .inl hk))
 have HB := Aside0.mk (Below.refl w.heap.size w)
 have H : (lanyardref06_trim.l0 k l0) = some r := h
 clear h
 have H' := Aside0.mk H
 clear H
 go_enter Tryd.func30, Tryd.ntmps30
 go_wp2
 go_loopg [0] k (fun kq v0 w' => ∃ (x0_1 : List Int), Aside0 (lanyardref06_trim.l0 kq x0_1 = some r) ∧ Aside0 (kq ≤ k) ∧ Aside0 (Kd.V (Kd.int .i64) 3 w' w.heap.size (fun k_ => (P0_ k_ ∨ w.heap.size ≤ k_)) v0 x0_1) ∧ Aside0 (Below w.heap.size w w'))
 case atStart => exact ⟨(l0), H', ⟨Nat.le_refl _⟩, ⟨Vu HO0⟩, ⟨Bu HB⟩⟩
 case round =>
  clear H'
  obtain ⟨x0_1, HA, HK1, HO_0, HB⟩ := hrel
  cases gk with
  | zero => exact absurd HA.out (by simp [lanyardref06_trim.l0])
  | succ k1 =>
   have H := HA.out
   clear HA
   simp only [lanyardref06_trim.l0] at H
   by_cases c2 : (x0_1.length : Int) > 0
   ·rw [if_pos c2] at H
    have c2b0 : decide (0 < (x0_1.length : Int)) = true := decide_eq_true c2
    have c2b1 : decide (0 < x0_1.length) = true := decide_eq_true (by omega)
    clear c2
    obtain ⟨ji3, hji3⟩ : ∃ j_ : Int, (wrap64 ((x0_1.length : Int) - 1)) = j_ := ⟨_, rfl⟩
    replace H : (if 0 ≤ (ji3) then (if (ji3) < (x0_1.length : Int) then (if (rd x0_1 (ji3)) = 0 then (if (ji3) ≤ (x0_1.length : Int) then (lanyardref06_trim.l0 k1 (x0_1.take ((ji3) : Int).toNat)) else (none)) else (some x0_1)) else (none)) else (none)) = some r := by first | (rw [hji3] at H; exact H) | (simp only [hji3] at H ⊢; exact H)
    have hji3w : (IntKind.i64.wrap ((x0_1.length : Int) - 1)) = ji3 := (i64_w _).trans hji3
    by_cases c4 : 0 ≤ (ji3)
    ·rw [if_pos c4] at H
     have c4b0 : decide (0 ≤ (ji3)) = true := decide_eq_true c4
     clear c4
     by_cases c5 : (ji3) < (x0_1.length : Int)
     ·rw [if_pos c5] at H
      have c5b0 : decide ((ji3) < (x0_1.length : Int)) = true := decide_eq_true c5
      clear c5
      by_cases c6 : (rd x0_1 (ji3)) = 0
      ·rw [if_pos c6] at H
       have c6b0 : ((rd x0_1 (ji3)) == 0) = true := beq_iff_eq.mpr c6
       have c6b1 : ((rd x0_1 (ji3)) != 0) = false := bne_eq_false_iff_eq.mpr c6
       clear c6
       have c7b0 := eq_true (of_decide_eq_true (by first | (with_reducible assumption) | assumption) : 0 ≤ (ji3))
       by_cases c8 : (ji3) ≤ (x0_1.length : Int)
       ·rw [if_pos c8] at H
        have c8b0 := eq_true c8
        have c8b1 : decide ((ji3) ≤ (x0_1.length : Int)) = true := decide_eq_true c8
        clear c8
        obtain ⟨y442, hy442⟩ : ∃ y_ : List Int, y_ = (x0_1.take ((ji3) : Int).toNat) := ⟨_, rfl⟩
        replace H : (lanyardref06_trim.l0 k1 y442) = some r := by first | (rw [hy442]; with_reducible exact H) | (have H2_ := (Option.bind_some _ _).symm.trans H; rw [hy442]; with_reducible exact H2_) | (have H2_ := (Option.bind_some _ _).symm.trans H; with_reducible exact H2_) | with_reducible exact H | (rw [hy442]; exact H) | exact H
        have Ny442 := Aside0.mk hy442
        clear hy442
        have H' := Aside0.mk H
        clear H
        obtain ⟨Ao9, co9, eo9⟩ := Kd.V_slice HO_0.out
        subst eo9
        have p441 : 0 ≤ ((ji3) : Int) := of_decide_eq_true (by first | (with_reducible assumption) | assumption)
        have q441 : (ji3) < (x0_1.length : Int) := of_decide_eq_true (by first | (with_reducible assumption) | assumption)
        obtain ⟨ad441, e441, hx441_0⟩ := Kd.at_int (Kd.V_reads' HO_0.out).2.2 (ji3) p441 q441
        cases e441
        replace p441 := eq_true p441
        replace q441 := eq_true q441
        have q10 : ((ji3) : Int) ≤ ((x0_1.length : Int) : Int) := of_decide_eq_true (by first | (with_reducible assumption) | assumption)
        obtain ⟨i010, hi010, _, hsz10, _⟩ := info_parts info3
        have hroom10 : x0_1.length ≤ co9 := (Kd.V_reads' HO_0.out).2.1
        have hC10 : Kd.F (Kd.int .i64) _ _ (some ad441) x0_1.length x0_1 := (Kd.V_at (base := w.heap.size) HO_0.out).2.2
        have hcut10 := cut_to (P := Tryd.prog) 24 3 .i64 Tryd.underlying24 hi010 (some ad441) x0_1.length co9 (ji3) (of_decide_eq_true (by first | (with_reducible assumption) | assumption)) q10 hroom10
        have hr10 := Kd.F_take (m := ((ji3) : Int).toNat) hC10 (by omega)
        have hy10 : y442.length = ((ji3) : Int).toNat := (by rw [Ny442.out, List.length_take]; omega)
        rw [← Ny442.out] at hr10
        rw [← hy10] at hcut10
        have HO446 := Aside0.mk (show Kd.V (Kd.int .i64) 3 _ w.heap.size _ (.slice (some ad441) y442.length co9) y442 from Kd.V_mk (by omega) hr10)
        have HC446 := Aside0.mk (show y442.length ≤ co9 from by omega)
        clear hr10 hC10 hroom10 hi010 hsz10
        have KY10 := Aside0.mk hy10
        clear hy10
        replace q10 := eq_true q10
        go_wp2
        go_roundg k1
        case measure => have := HK1.out; omega
        case rel => exact ⟨(y442), H', ⟨by have := HK1.out; omega⟩, ⟨Vu HO446⟩, ⟨Bu HB⟩⟩
       ·rw [if_neg c8] at H
        exact absurd H (by simp)
      ·rw [if_neg c6] at H
       have c6b0 : ((rd x0_1 (ji3)) == 0) = false := beq_eq_false_iff_ne.mpr c6
       have c6b1 : ((rd x0_1 (ji3)) != 0) = true := bne_iff_ne.mpr c6
       obtain rfl := Option.some.inj H
       obtain ⟨Ao11, co11, eo11⟩ := Kd.V_slice HO_0.out
       subst eo11
       have p441 : 0 ≤ ((ji3) : Int) := of_decide_eq_true (by first | (with_reducible assumption) | assumption)
       have q441 : (ji3) < (x0_1.length : Int) := of_decide_eq_true (by first | (with_reducible assumption) | assumption)
       obtain ⟨ad441, e441, hx441_0⟩ := Kd.at_int (Kd.V_reads' HO_0.out).2.2 (ji3) p441 q441
       cases e441
       replace p441 := eq_true p441
       replace q441 := eq_true q441
       go_wp2
       go_ret
       exact ⟨_, by first | rfl | (simp [errW_none, errW_some] <;> rfl) | (simp only [← hji3]; first | rfl | (simp [errW_none, errW_some] <;> rfl)) | (simp [*, errW_none, errW_some] <;> rfl), Vu HO_0, Bu HB⟩
     ·rw [if_neg c5] at H
      exact absurd H (by simp)
    ·rw [if_neg c4] at H
     exact absurd H (by simp)
   ·rw [if_neg c2] at H
    have c2b0 : decide (0 < (x0_1.length : Int)) = false := decide_eq_false c2
    have c2b1 : decide (0 < x0_1.length) = false := decide_eq_false (by omega)
    clear c2
    obtain rfl := Option.some.inj H
    obtain ⟨Ao12, co12, eo12⟩ := Kd.V_slice HO_0.out
    subst eo12
    go_wp2
    go_ret
    exact ⟨_, rfl_, Vu HO_0, Bu HB⟩

/-! ### lanyardref06_Of: function 12 -/
def lanyardref06_Of.l0 : Nat → List Int → List Int → Int → Option (List Int)
 | 0, _, _, _ => none
 | k + 1, x0, x3, x4 => if x4 ≥ 0 then (if 0 ≤ x4 then (if x4 < (x0.length : Int) then (if x3.length < 17592186044416 then (lanyardref06_Of.l0 k x0 (x3 ++ [wrap64 (rd x0 x4)]) (wrap64 (x4 - 1))) else (none)) else (none)) else (none)) else ((lanyardref06_trim.f k x3).bind fun t451 => (some t451))
def lanyardref06_Of.f (k : Nat) (l0 : List Int) : Option (List Int) := lanyardref06_Of.l0 k l0 ([] : List Int) (wrap64 ((l0.length : Int) - 1))
theorem lanyardref06_Of.mono_l : ∀ k, (∀ y0 y1 y2, LeO (lanyardref06_Of.l0 k y0 y1 y2) (lanyardref06_Of.l0 (k + 1) y0 y1 y2))
 | 0 => fun _ _ _ r h => by simp [lanyardref06_Of.l0] at h
 | k + 1 => by
  have ih0 := lanyardref06_Of.mono_l k
  ·intro y0 y1 y2
   unfold lanyardref06_Of.l0
   repeat' first
   | (with_reducible exact ih0 _ _ _)
   | (with_reducible exact lanyardref06_trim.mono _ _)
   | (with_reducible exact LeO.refl _)
   | (with_reducible exact LeO.none _)
   | (with_reducible refine LeO.ite ?_ ?_)
   | (with_reducible refine LeO.bind ?_ (fun _ => ?_))
   | exact ih0 _ _ _
   | exact lanyardref06_trim.mono _ _
   | exact LeO.none _
   | refine LeO.ite ?_ ?_
   | refine LeO.bind ?_ (fun _ => ?_)
theorem lanyardref06_Of.mono : ∀ a0 k, LeO (lanyardref06_Of.f k a0) (lanyardref06_Of.f (k + 1) a0) := by
 intro a0 k
 have ih0 := lanyardref06_Of.mono_l k
 unfold lanyardref06_Of.f
 repeat' first
   | (with_reducible exact ih0 _ _ _)
   | (with_reducible exact lanyardref06_trim.mono _ _)
   | (with_reducible exact LeO.refl _)
   | (with_reducible exact LeO.none _)
   | (with_reducible refine LeO.ite ?_ ?_)
   | (with_reducible refine LeO.bind ?_ (fun _ => ?_))
   | exact ih0 _ _ _
   | exact lanyardref06_trim.mono _ _
   | exact LeO.none _
   | refine LeO.ite ?_ ?_
   | refine LeO.bind ?_ (fun _ => ?_)
set_option maxHeartbeats 8000000 in
set_option maxRecDepth 100000 in
theorem lanyardref06_Of.calls (k : Nat) (A0 : Option Addr) (c0 : Nat) (l0 : List Int) (r : List Int) (w : World) (hr0 : Kd.C (Kd.int .u8) w A0 l0.length l0) (hc0 : l0.length ≤ c0) (h : lanyardref06_Of.f k l0 = some r) :
  Calls Tryd.prog 12 #[.slice A0 l0.length c0] w fun e w' => ∃ v0_ : Value, e = .returned (v0_) ∧ Kd.V (Kd.int .i64) 3 w' w.heap.size (fun k_ => (w.heap.size ≤ k_)) v0_ r ∧ Below w.heap.size w w' := by
 have HR0 := Aside0.mk hr0
 have HC0 := Aside0.mk hc0
 clear hr0 hc0
 have HB := Aside0.mk (Below.refl w.heap.size w)
 have H : (lanyardref06_Of.l0 k l0 ([] : List Int) (wrap64 ((l0.length : Int) - 1))) = some r := h
 clear h
 have H' := Aside0.mk H
 clear H
 go_enter Tryd.func12, Tryd.ntmps12
 go_wp2
 go_loopg [3, 4] k (fun kq v3 v4 w' => ∃ (x3_1 : List Int) (x4_1 : Int), v4 = .int .i64 x4_1 ∧ Aside0 (lanyardref06_Of.l0 kq l0 x3_1 x4_1 = some r) ∧ Aside0 (kq ≤ k) ∧ Aside0 (Kd.R (Kd.int .i64) 3 w' w.heap.size (fun k_ => (w.heap.size ≤ k_)) v3 x3_1) ∧ Aside0 (Below w.heap.size w w'))
 case atStart => exact ⟨(([] : List Int)), (wrap64 ((l0.length : Int) - 1)), (by first | rfl | (simp; done) | (simp [*]; done)), H', ⟨Nat.le_refl _⟩, ⟨by first | exact Kd.R_nil _ _ _ _ _ | exact Kd.N_nil _ _ _ _ _ | exact Kd.V_nil _ _ _ _ _ | exact Kd.Q_nil _ _ _ _ _ | exact Kd.S_nil _ _ _ _ _⟩, ⟨Bu HB⟩⟩
 case round =>
  clear H'
  try clear c1
  obtain ⟨x3_1, x4_1, rfl, HA, HK1, HO_3, HB⟩ := hrel
  cases gk with
  | zero => exact absurd HA.out (by simp [lanyardref06_Of.l0])
  | succ k1 =>
   have H := HA.out
   clear HA
   simp only [lanyardref06_Of.l0] at H
   by_cases c2 : x4_1 ≥ 0
   ·rw [if_pos c2] at H
    have c2b0 : decide (0 ≤ x4_1) = true := decide_eq_true c2
    clear c2
    by_cases c3 : 0 ≤ x4_1
    ·rw [if_pos c3] at H
     have c3b0 : decide (0 ≤ x4_1) = true := decide_eq_true c3
     clear c3
     by_cases c4 : x4_1 < (l0.length : Int)
     ·rw [if_pos c4] at H
      have c4b0 : decide (x4_1 < (l0.length : Int)) = true := decide_eq_true c4
      clear c4
      by_cases c5 : x3_1.length < 17592186044416
      ·rw [if_pos c5] at H
       have LMc5 := Aside0.mk c5
       clear c5
       obtain ⟨y448, hy448⟩ : ∃ y_ : List Int, y_ = (x3_1 ++ [wrap64 (rd l0 x4_1)]) := ⟨_, rfl⟩
       replace H : (lanyardref06_Of.l0 k1 l0 y448 (wrap64 (x4_1 - 1))) = some r := by first | (rw [hy448]; with_reducible exact H) | (have H2_ := (Option.bind_some _ _).symm.trans H; rw [hy448]; with_reducible exact H2_) | (have H2_ := (Option.bind_some _ _).symm.trans H; with_reducible exact H2_) | with_reducible exact H | (rw [hy448]; exact H) | exact H
       have Ny448 := Aside0.mk hy448
       clear hy448
       have H' := Aside0.mk H
       clear H
       have p447 : 0 ≤ (x4_1 : Int) := of_decide_eq_true (by first | (with_reducible assumption) | assumption)
       have q447 : x4_1 < (l0.length : Int) := of_decide_eq_true (by first | (with_reducible assumption) | assumption)
       obtain ⟨ad447, e447, hx447_0⟩ := Kd.at_int HR0.out x4_1 p447 q447
       cases e447
       replace hx447_0 := (HB.out.cell (World.block_lt_of_cell? w _ hx447_0)).trans hx447_0
       replace p447 := eq_true p447
       replace q447 := eq_true q447
       go_wp2_with (first | ((with_reducible refine gate_builtin (b := .append) (xs := #[.tmp 12, .tmp 18]) rfl ?_); at_builtin; refine Kd.R_append (Kd.int .i64) (w0 := w) w.heap.size rfl (.tmp 12) (.tmp 18) 24 3 (.int .i64 0) 8 rfl Tryd.underlying24 info3 rfl (by decide) (by omega) u3 x3_1 (wrap64 (rd l0 x4_1)) [.int .i64 (wrap64 (rd l0 x4_1))] (fun k_ => (w.heap.size ≤ k_)) (fun _ => False) rfl rfl ?aP (fun _ hk => hk.elim) ?aF ?aO ?aB ?aS ?aL ?_; (case aP => exact rfl); (case aB => exact (Bu HB)); (case aF => exact (fun k_ hk => (Nat.le_trans (Bz HB) hk))); (case aO => exact (Ru HO_3)); (case aS => exact (Bz HB)); (case aL => have := LMc5.out; omega); intro v449 w6 ho hb hg hat; rw [← Ny448.out] at ho; have n0_ := Aside0.mk (hb); have n1_ := Aside0.mk (ho); clear HB HO_3; revert n0_ n1_; intro HB HO450; clear ho hb hg hat))
       go_roundg k1
       case measure => have := HK1.out; omega
       case rel => exact ⟨(y448), (wrap64 (x4_1 - 1)), (by first | rfl | (simp; done) | (simp [*]; done)), H', ⟨by have := HK1.out; omega⟩, ⟨Ru HO450⟩, ⟨Bu HB⟩⟩
      ·rw [if_neg c5] at H
       exact absurd H (by simp)
     ·rw [if_neg c4] at H
      exact absurd H (by simp)
    ·rw [if_neg c3] at H
     exact absurd H (by simp)
   ·rw [if_neg c2] at H
    have c2b0 : decide (0 ≤ x4_1) = false := decide_eq_false c2
    clear c2
    replace H := Option.bind_eq_some_iff.mp H
    obtain ⟨t451, A70, H⟩ := H
    replace H : (some t451) = some r := H
    have A7 := Aside0.mk A70
    clear A70
    obtain rfl := Option.some.inj H
    obtain ⟨Ao8, co8, eo8⟩ := Kd.R_slice HO_3.out
    subst eo8
    go_wp2_with (first | ((with_reducible refine gate_callee (f := 30) rfl ?_); refine goesA (some 21) Tryd.func30 #[.slice Ao8 x3_1.length co8] rfl ?_; (with_reducible refine (lanyardref06_trim.calls k1 (fun k_ => some k_ = (.slice Ao8 x3_1.length co8 : Value).ownBlock) _ _ x3_1 t451 _ ?side1 A7.out).mono ?_); (case side1 => exact Kd.R_V (Kd.R_tight rfl (HO_3.out))); rintro e w9 ⟨v452, rfl, ho0, hb⟩; refine ⟨_, rfl, ?_⟩; have n0_ := Rb HO_3 hb; have n1_ := Aside0.mk (Kd.V_lower (Kd.V_mono (ok' := fun k_ => (w.heap.size ≤ k_)) ho0 (fun k_ hk_ => Or.elim hk_ (fun hs_ => ((HO_3.out).1 k_ hs_.symm)) (fun hn_ => (Nat.le_trans (Bz HB) hn_)))) (Bz HB)); have n2_ := Bs HB hb; clear HO_3 HB; revert n0_ n1_ n2_; intro HO_3 HO453 HB; (try clear hb); (try clear hb2); (try clear hk); (try clear hi); (try clear ho0)))
    go_ret
    exact ⟨_, rfl_, Vu HO453, Bu HB⟩

/-! ### lanyardref06_Cmp: function 21 -/
def lanyardref06_Cmp.l0 : Nat → List Int → List Int → Int → Option (Int)
 | 0, _, _, _ => none
 | k + 1, x0, x1, x5 => if x5 ≥ 0 then (if 0 ≤ x5 then (if x5 < (x0.length : Int) then (if x5 < (x1.length : Int) then (if (rd x0 x5) < (rd x1 x5) then (some (-1)) else (if (rd x0 x5) > (rd x1 x5) then (some 1) else (lanyardref06_Cmp.l0 k x0 x1 (wrap64 (x5 - 1))))) else (none)) else (none)) else (none)) else (some 0)
def lanyardref06_Cmp.f (k : Nat) (l0 : List Int) (l1 : List Int) : Option (Int) := if (l0.length : Int) < (l1.length : Int) then (some (-1)) else (if (l0.length : Int) > (l1.length : Int) then (some 1) else (lanyardref06_Cmp.l0 k l0 l1 (wrap64 ((l0.length : Int) - 1))))
theorem lanyardref06_Cmp.mono_l : ∀ k, (∀ y0 y1 y2, LeO (lanyardref06_Cmp.l0 k y0 y1 y2) (lanyardref06_Cmp.l0 (k + 1) y0 y1 y2))
 | 0 => fun _ _ _ r h => by simp [lanyardref06_Cmp.l0] at h
 | k + 1 => by
  have ih0 := lanyardref06_Cmp.mono_l k
  ·intro y0 y1 y2
   unfold lanyardref06_Cmp.l0
   repeat' first
   | (with_reducible exact ih0 _ _ _)
   | (with_reducible exact LeO.refl _)
   | (with_reducible exact LeO.none _)
   | (with_reducible refine LeO.ite ?_ ?_)
   | (with_reducible refine LeO.bind ?_ (fun _ => ?_))
   | exact ih0 _ _ _
   | exact LeO.none _
   | refine LeO.ite ?_ ?_
   | refine LeO.bind ?_ (fun _ => ?_)
theorem lanyardref06_Cmp.mono : ∀ a0 a1 k, LeO (lanyardref06_Cmp.f k a0 a1) (lanyardref06_Cmp.f (k + 1) a0 a1) := by
 intro a0 a1 k
 have ih0 := lanyardref06_Cmp.mono_l k
 unfold lanyardref06_Cmp.f
 repeat' first
   | (with_reducible exact ih0 _ _ _)
   | (with_reducible exact LeO.refl _)
   | (with_reducible exact LeO.none _)
   | (with_reducible refine LeO.ite ?_ ?_)
   | (with_reducible refine LeO.bind ?_ (fun _ => ?_))
   | exact ih0 _ _ _
   | exact LeO.none _
   | refine LeO.ite ?_ ?_
   | refine LeO.bind ?_ (fun _ => ?_)
set_option maxHeartbeats 8000000 in
set_option maxRecDepth 100000 in
theorem lanyardref06_Cmp.calls (k : Nat) (A0 : Option Addr) (c0 : Nat) (l0 : List Int) (A1 : Option Addr) (c1 : Nat) (l1 : List Int) (r : Int) (w : World) (hr0 : Kd.C (Kd.int .i64) w A0 l0.length l0) (hc0 : l0.length ≤ c0) (hr1 : Kd.C (Kd.int .i64) w A1 l1.length l1) (hc1 : l1.length ≤ c1) (h : lanyardref06_Cmp.f k l0 l1 = some r) :
  Calls Tryd.prog 21 #[.slice A0 l0.length c0, .slice A1 l1.length c1] w fun e w' => e = .returned (.int .i64 r) ∧ Drawn0 w w' := by
 have HR0 := Aside0.mk hr0
 have HC0 := Aside0.mk hc0
 clear hr0 hc0
 have HR1 := Aside0.mk hr1
 have HC1 := Aside0.mk hc1
 clear hr1 hc1
 have H : (if (l0.length : Int) < (l1.length : Int) then (some (-1)) else (if (l0.length : Int) > (l1.length : Int) then (some 1) else (lanyardref06_Cmp.l0 k l0 l1 (wrap64 ((l0.length : Int) - 1))))) = some r := h
 clear h
 refine (Classical.em ((l0.length : Int) < (l1.length : Int))).elim (fun c3 => ?a28_) (fun c3 => ?b28_)
 case' a28_ =>
  rw [if_pos c3] at H
  have c3b0 : decide ((l0.length : Int) < (l1.length : Int)) = true := decide_eq_true c3
  have c3b1 : decide (l0.length < l1.length) = true := decide_eq_true (Int.ofNat_lt.mp c3)
  clear c3
  obtain rfl := Option.some.inj H
 case' b28_ =>
  rw [if_neg c3] at H
  have c3b0 : decide ((l0.length : Int) < (l1.length : Int)) = false := decide_eq_false c3
  have c3b1 : decide (l0.length < l1.length) = false := decide_eq_false (fun h => c3 (Int.ofNat_lt.mpr h))
  clear c3
  refine (Classical.em ((l0.length : Int) > (l1.length : Int))).elim (fun c4 => ?a29_) (fun c4 => ?b29_)
  case' a29_ =>
   rw [if_pos c4] at H
   have c4b0 : decide ((l1.length : Int) < (l0.length : Int)) = true := decide_eq_true c4
   have c4b1 : decide (l1.length < l0.length) = true := decide_eq_true (Int.ofNat_lt.mp c4)
   clear c4
   obtain rfl := Option.some.inj H
  case' b29_ =>
   rw [if_neg c4] at H
   have c4b0 : decide ((l1.length : Int) < (l0.length : Int)) = false := decide_eq_false c4
   have c4b1 : decide (l1.length < l0.length) = false := decide_eq_false (fun h => c4 (Int.ofNat_lt.mpr h))
   clear c4
   have H' := Aside0.mk H
   clear H
   go_enter Tryd.func21, Tryd.ntmps21
   go_wp2
   repeat (go_quiet (fail); try go_wp2)
   go_loopg [5] k (fun kq v5 w' => ∃ (x5_1 : Int), v5 = .int .i64 x5_1 ∧ Aside0 (lanyardref06_Cmp.l0 kq l0 l1 x5_1 = some r) ∧ Aside0 (kq ≤ k) ∧ Drawn0 w w')
   case atStart => exact ⟨(wrap64 ((l0.length : Int) - 1)), (by first | rfl | (simp; done) | (simp [*]; done)), H', ⟨Nat.le_refl _⟩, by repeat (first | exact Drawn0.refl _ | apply Drawn0.step)⟩
   case round =>
    clear H'
    try clear c1
    try clear c2
    try clear p2
    try clear c3
    try clear c3b0
    try clear c3b1
    try clear c4
    try clear c4b0
    try clear c4b1
    obtain ⟨x5_1, rfl, HA, HK1, ⟨m1, rfl⟩⟩ := hrel
    cases gk with
    | zero => exact absurd HA.out (by simp [lanyardref06_Cmp.l0])
    | succ k1 =>
     have H := HA.out
     clear HA
     simp only [lanyardref06_Cmp.l0] at H
     by_cases c5 : x5_1 ≥ 0
     ·rw [if_pos c5] at H
      have c5b0 : decide (0 ≤ x5_1) = true := decide_eq_true c5
      clear c5
      by_cases c6 : 0 ≤ x5_1
      ·rw [if_pos c6] at H
       have c6b0 : decide (0 ≤ x5_1) = true := decide_eq_true c6
       clear c6
       by_cases c7 : x5_1 < (l0.length : Int)
       ·rw [if_pos c7] at H
        have c7b0 : decide (x5_1 < (l0.length : Int)) = true := decide_eq_true c7
        clear c7
        by_cases c8 : x5_1 < (l1.length : Int)
        ·rw [if_pos c8] at H
         have c8b0 : decide (x5_1 < (l1.length : Int)) = true := decide_eq_true c8
         clear c8
         by_cases c9 : (rd l0 x5_1) < (rd l1 x5_1)
         ·rw [if_pos c9] at H
          have c9b0 : decide ((rd l0 x5_1) < (rd l1 x5_1)) = true := decide_eq_true c9
          clear c9
          obtain rfl := Option.some.inj H
          have p454 : 0 ≤ (x5_1 : Int) := of_decide_eq_true (by first | (with_reducible assumption) | assumption)
          have q454 : x5_1 < (l0.length : Int) := of_decide_eq_true (by first | (with_reducible assumption) | assumption)
          obtain ⟨ad454, e454, hx454_0⟩ := Kd.at_int HR0.out x5_1 p454 q454
          cases e454
          replace p454 := eq_true p454
          replace q454 := eq_true q454
          have p455 : 0 ≤ (x5_1 : Int) := of_decide_eq_true (by first | (with_reducible assumption) | assumption)
          have q455 : x5_1 < (l1.length : Int) := of_decide_eq_true (by first | (with_reducible assumption) | assumption)
          obtain ⟨ad455, e455, hx455_0⟩ := Kd.at_int HR1.out x5_1 p455 q455
          cases e455
          replace p455 := eq_true p455
          replace q455 := eq_true q455
          go_wp2
          repeat (go_quiet (fail); try go_wp2)
          go_ret
          exact ⟨by first | rfl | (simp; done) | (simp [*]; done), by repeat (first | exact Drawn0.refl _ | apply Drawn0.step)⟩
         ·rw [if_neg c9] at H
          have c9b0 : decide ((rd l0 x5_1) < (rd l1 x5_1)) = false := decide_eq_false c9
          clear c9
          by_cases c10 : (rd l0 x5_1) > (rd l1 x5_1)
          ·rw [if_pos c10] at H
           have c10b0 : decide ((rd l1 x5_1) < (rd l0 x5_1)) = true := decide_eq_true c10
           clear c10
           obtain rfl := Option.some.inj H
           have p454 : 0 ≤ (x5_1 : Int) := of_decide_eq_true (by first | (with_reducible assumption) | assumption)
           have q454 : x5_1 < (l0.length : Int) := of_decide_eq_true (by first | (with_reducible assumption) | assumption)
           obtain ⟨ad454, e454, hx454_0⟩ := Kd.at_int HR0.out x5_1 p454 q454
           cases e454
           replace p454 := eq_true p454
           replace q454 := eq_true q454
           have p455 : 0 ≤ (x5_1 : Int) := of_decide_eq_true (by first | (with_reducible assumption) | assumption)
           have q455 : x5_1 < (l1.length : Int) := of_decide_eq_true (by first | (with_reducible assumption) | assumption)
           obtain ⟨ad455, e455, hx455_0⟩ := Kd.at_int HR1.out x5_1 p455 q455
           cases e455
           replace p455 := eq_true p455
           replace q455 := eq_true q455
           have p456 : 0 ≤ (x5_1 : Int) := of_decide_eq_true (by first | (with_reducible assumption) | assumption)
           have q456 : x5_1 < (l0.length : Int) := of_decide_eq_true (by first | (with_reducible assumption) | assumption)
           obtain ⟨ad456, e456, hx456_0⟩ := Kd.at_int HR0.out x5_1 p456 q456
           obtain rfl : ad454 = ad456 := (by injection e456)
           replace p456 := eq_true p456
           replace q456 := eq_true q456
           have p457 : 0 ≤ (x5_1 : Int) := of_decide_eq_true (by first | (with_reducible assumption) | assumption)
           have q457 : x5_1 < (l1.length : Int) := of_decide_eq_true (by first | (with_reducible assumption) | assumption)
           obtain ⟨ad457, e457, hx457_0⟩ := Kd.at_int HR1.out x5_1 p457 q457
           obtain rfl : ad455 = ad457 := (by injection e457)
           replace p457 := eq_true p457
           replace q457 := eq_true q457
           go_wp2
           repeat (go_quiet (fail); try go_wp2)
           go_ret
           exact ⟨by first | rfl | (simp; done) | (simp [*]; done), by repeat (first | exact Drawn0.refl _ | apply Drawn0.step)⟩
          ·rw [if_neg c10] at H
           have c10b0 : decide ((rd l1 x5_1) < (rd l0 x5_1)) = false := decide_eq_false c10
           clear c10
           have H' := Aside0.mk H
           clear H
           have p454 : 0 ≤ (x5_1 : Int) := of_decide_eq_true (by first | (with_reducible assumption) | assumption)
           have q454 : x5_1 < (l0.length : Int) := of_decide_eq_true (by first | (with_reducible assumption) | assumption)
           obtain ⟨ad454, e454, hx454_0⟩ := Kd.at_int HR0.out x5_1 p454 q454
           cases e454
           replace p454 := eq_true p454
           replace q454 := eq_true q454
           have p455 : 0 ≤ (x5_1 : Int) := of_decide_eq_true (by first | (with_reducible assumption) | assumption)
           have q455 : x5_1 < (l1.length : Int) := of_decide_eq_true (by first | (with_reducible assumption) | assumption)
           obtain ⟨ad455, e455, hx455_0⟩ := Kd.at_int HR1.out x5_1 p455 q455
           cases e455
           replace p455 := eq_true p455
           replace q455 := eq_true q455
           have p456 : 0 ≤ (x5_1 : Int) := of_decide_eq_true (by first | (with_reducible assumption) | assumption)
           have q456 : x5_1 < (l0.length : Int) := of_decide_eq_true (by first | (with_reducible assumption) | assumption)
           obtain ⟨ad456, e456, hx456_0⟩ := Kd.at_int HR0.out x5_1 p456 q456
           obtain rfl : ad454 = ad456 := (by injection e456)
           replace p456 := eq_true p456
           replace q456 := eq_true q456
           have p457 : 0 ≤ (x5_1 : Int) := of_decide_eq_true (by first | (with_reducible assumption) | assumption)
           have q457 : x5_1 < (l1.length : Int) := of_decide_eq_true (by first | (with_reducible assumption) | assumption)
           obtain ⟨ad457, e457, hx457_0⟩ := Kd.at_int HR1.out x5_1 p457 q457
           obtain rfl : ad455 = ad457 := (by injection e457)
           replace p457 := eq_true p457
           replace q457 := eq_true q457
           go_wp2
           repeat (go_quiet (fail); try go_wp2)
           go_roundg k1
           case measure => have := HK1.out; omega
           case rel => exact ⟨(wrap64 (x5_1 - 1)), (by first | rfl | (simp; done) | (simp [*]; done)), H', ⟨by have := HK1.out; omega⟩, by repeat (first | exact Drawn0.refl _ | apply Drawn0.step)⟩
        ·rw [if_neg c8] at H
         exact absurd H (by simp)
       ·rw [if_neg c7] at H
        exact absurd H (by simp)
      ·rw [if_neg c6] at H
       exact absurd H (by simp)
     ·rw [if_neg c5] at H
      have c5b0 : decide (0 ≤ x5_1) = false := decide_eq_false c5
      clear c5
      obtain rfl := Option.some.inj H
      go_wp2
      repeat (go_quiet (fail); try go_wp2)
      go_ret
      exact ⟨by first | rfl | (simp; done) | (simp [*]; done), by repeat (first | exact Drawn0.refl _ | apply Drawn0.step)⟩

 case a28_ | b28_ =>
  go_enter Tryd.func21, Tryd.ntmps21
  go_wp2
  repeat (go_quiet (fail); try go_wp2)
  go_ret
  exact ⟨by first | rfl | (simp; done) | (simp [*]; done), by repeat (first | exact Drawn0.refl _ | apply Drawn0.step)⟩
/-! ### lanyardref06_at: function 43 -/
def lanyardref06_at.f (l0 : List Int) (a1 : Int) : Option (Int) := if a1 < (l0.length : Int) then (if 0 ≤ a1 then (some (rd l0 a1)) else (none)) else (some 0)
set_option maxHeartbeats 8000000 in
set_option maxRecDepth 100000 in
theorem lanyardref06_at.calls (A0 : Option Addr) (c0 : Nat) (l0 : List Int) (a1 : Int) (r : Int) (w : World) (hr0 : Kd.C (Kd.int .i64) w A0 l0.length l0) (hc0 : l0.length ≤ c0) (h : lanyardref06_at.f l0 a1 = some r) :
  Calls Tryd.prog 43 #[.slice A0 l0.length c0, .int .i64 a1] w fun e w' => e = .returned (.int .i64 r) ∧ Drawn0 w w' := by
 have HR0 := Aside0.mk hr0
 have HC0 := Aside0.mk hc0
 clear hr0 hc0
 have H : (if a1 < (l0.length : Int) then (if 0 ≤ a1 then (some (rd l0 a1)) else (none)) else (some 0)) = some r := h
 clear h
 by_cases c3 : a1 < (l0.length : Int)
 ·rw [if_pos c3] at H
  have c3b0 : decide (a1 < (l0.length : Int)) = true := decide_eq_true c3
  clear c3
  by_cases c4 : 0 ≤ a1
  ·rw [if_pos c4] at H
   have c4b0 : decide (0 ≤ a1) = true := decide_eq_true c4
   clear c4
   obtain rfl := Option.some.inj H
   have p458 : 0 ≤ (a1 : Int) := of_decide_eq_true (by first | (with_reducible assumption) | assumption)
   have q458 : a1 < (l0.length : Int) := of_decide_eq_true (by first | (with_reducible assumption) | assumption)
   obtain ⟨ad458, e458, hx458_0⟩ := Kd.at_int HR0.out a1 p458 q458
   cases e458
   replace p458 := eq_true p458
   replace q458 := eq_true q458
   go_enter Tryd.func43, Tryd.ntmps43
   go_wp2
   go_ret
   exact ⟨by first | rfl | (simp; done) | (simp [*]; done), by repeat (first | exact Drawn0.refl _ | apply Drawn0.step)⟩
  ·rw [if_neg c4] at H
   exact absurd H (by simp)
 ·rw [if_neg c3] at H
  have c3b0 : decide (a1 < (l0.length : Int)) = false := decide_eq_false c3
  clear c3
  obtain rfl := Option.some.inj H
  go_enter Tryd.func43, Tryd.ntmps43
  go_wp2
  go_ret
  exact ⟨by first | rfl | (simp; done) | (simp [*]; done), by repeat (first | exact Drawn0.refl _ | apply Drawn0.step)⟩

/-! ### lanyardref06_Add: function 28 -/
mutual
def lanyardref06_Add.l0 : Nat → List Int → List Int → List Int → Int → Int → Option (List Int)
 | 0, _, _, _, _, _ => none
 | k + 1, x0, x1, x5, x6, x7 => if x7 < (x0.length : Int) then (lanyardref06_Add.j1 k x0 x1 x5 x6 x7 true) else (if x7 < (x1.length : Int) then (lanyardref06_Add.j1 k x0 x1 x5 x6 x7 true) else (lanyardref06_Add.j1 k x0 x1 x5 x6 x7 (decide (x6 > 0))))
def lanyardref06_Add.j1 : Nat → List Int → List Int → List Int → Int → Int → Bool → Option (List Int)
 | 0, _, _, _, _, _, _ => none
 | k + 1, x0, x1, x5, x6, x7, x21 => if x21 = true then ((lanyardref06_at.f x0 x7).bind fun t459 => ((lanyardref06_at.f x1 x7).bind fun t460 => (if x5.length < 17592186044416 then (lanyardref06_Add.l0 k x0 x1 (x5 ++ [Int.tmod (wrap64 ((wrap64 (x6 + t459)) + t460)) 256]) (wrap64 (Int.tdiv (wrap64 ((wrap64 (x6 + t459)) + t460)) 256)) (wrap64 (x7 + 1))) else (none)))) else ((lanyardref06_trim.f k x5).bind fun t464 => (some t464))
end
def lanyardref06_Add.f (k : Nat) (l0 : List Int) (l1 : List Int) : Option (List Int) := lanyardref06_Add.l0 k l0 l1 ([] : List Int) 0 0
theorem lanyardref06_Add.mono_l : ∀ k, (∀ y0 y1 y2 y3 y4, LeO (lanyardref06_Add.l0 k y0 y1 y2 y3 y4) (lanyardref06_Add.l0 (k + 1) y0 y1 y2 y3 y4)) ∧ (∀ y0 y1 y2 y3 y4 y5, LeO (lanyardref06_Add.j1 k y0 y1 y2 y3 y4 y5) (lanyardref06_Add.j1 (k + 1) y0 y1 y2 y3 y4 y5))
 | 0 => ⟨fun _ _ _ _ _ r h => by simp [lanyardref06_Add.l0] at h, fun _ _ _ _ _ _ r h => by simp [lanyardref06_Add.j1] at h⟩
 | k + 1 => by
  obtain ⟨ih0, ih1⟩ := lanyardref06_Add.mono_l k
  refine ⟨?_, ?_⟩
  ·intro y0 y1 y2 y3 y4
   unfold lanyardref06_Add.l0
   repeat' first
   | (with_reducible exact ih0 _ _ _ _ _)
   | (with_reducible exact ih1 _ _ _ _ _ _)
   | (with_reducible exact lanyardref06_trim.mono _ _)
   | (with_reducible exact LeO.refl _)
   | (with_reducible exact LeO.none _)
   | (with_reducible refine LeO.ite ?_ ?_)
   | (with_reducible refine LeO.bind ?_ (fun _ => ?_))
   | exact ih0 _ _ _ _ _
   | exact ih1 _ _ _ _ _ _
   | exact lanyardref06_trim.mono _ _
   | exact LeO.none _
   | refine LeO.ite ?_ ?_
   | refine LeO.bind ?_ (fun _ => ?_)
  ·intro y0 y1 y2 y3 y4 y5
   unfold lanyardref06_Add.j1
   repeat' first
   | (with_reducible exact ih0 _ _ _ _ _)
   | (with_reducible exact ih1 _ _ _ _ _ _)
   | (with_reducible exact lanyardref06_trim.mono _ _)
   | (with_reducible exact LeO.refl _)
   | (with_reducible exact LeO.none _)
   | (with_reducible refine LeO.ite ?_ ?_)
   | (with_reducible refine LeO.bind ?_ (fun _ => ?_))
   | exact ih0 _ _ _ _ _
   | exact ih1 _ _ _ _ _ _
   | exact lanyardref06_trim.mono _ _
   | exact LeO.none _
   | refine LeO.ite ?_ ?_
   | refine LeO.bind ?_ (fun _ => ?_)
theorem lanyardref06_Add.mono : ∀ a0 a1 k, LeO (lanyardref06_Add.f k a0 a1) (lanyardref06_Add.f (k + 1) a0 a1) := by
 intro a0 a1 k
 obtain ⟨ih0, ih1⟩ := lanyardref06_Add.mono_l k
 unfold lanyardref06_Add.f
 repeat' first
   | (with_reducible exact ih0 _ _ _ _ _)
   | (with_reducible exact ih1 _ _ _ _ _ _)
   | (with_reducible exact lanyardref06_trim.mono _ _)
   | (with_reducible exact LeO.refl _)
   | (with_reducible exact LeO.none _)
   | (with_reducible refine LeO.ite ?_ ?_)
   | (with_reducible refine LeO.bind ?_ (fun _ => ?_))
   | exact ih0 _ _ _ _ _
   | exact ih1 _ _ _ _ _ _
   | exact lanyardref06_trim.mono _ _
   | exact LeO.none _
   | refine LeO.ite ?_ ?_
   | refine LeO.bind ?_ (fun _ => ?_)
set_option maxHeartbeats 8000000 in
set_option maxRecDepth 100000 in
theorem lanyardref06_Add.calls (k : Nat) (A0 : Option Addr) (c0 : Nat) (l0 : List Int) (A1 : Option Addr) (c1 : Nat) (l1 : List Int) (r : List Int) (w : World) (hr0 : Kd.C (Kd.int .i64) w A0 l0.length l0) (hc0 : l0.length ≤ c0) (hr1 : Kd.C (Kd.int .i64) w A1 l1.length l1) (hc1 : l1.length ≤ c1) (h : lanyardref06_Add.f k l0 l1 = some r) :
  Calls Tryd.prog 28 #[.slice A0 l0.length c0, .slice A1 l1.length c1] w fun e w' => ∃ v0_ : Value, e = .returned (v0_) ∧ Kd.V (Kd.int .i64) 3 w' w.heap.size (fun k_ => (w.heap.size ≤ k_)) v0_ r ∧ Below w.heap.size w w' := by
 have HR0 := Aside0.mk hr0
 have HC0 := Aside0.mk hc0
 clear hr0 hc0
 have HR1 := Aside0.mk hr1
 have HC1 := Aside0.mk hc1
 clear hr1 hc1
 have HB := Aside0.mk (Below.refl w.heap.size w)
 have H : (lanyardref06_Add.l0 k l0 l1 ([] : List Int) 0 0) = some r := h
 clear h
 have H' := Aside0.mk H
 clear H
 go_enter Tryd.func28, Tryd.ntmps28
 go_wp2
 go_loopg [5, 6, 7] k (fun kq v5 v6 v7 w' => ∃ (x5_1 : List Int) (x6_1 : Int) (x7_1 : Int), v6 = .int .i64 x6_1 ∧ v7 = .int .i64 x7_1 ∧ Aside0 (lanyardref06_Add.l0 kq l0 l1 x5_1 x6_1 x7_1 = some r) ∧ Aside0 (kq ≤ k) ∧ Aside0 (Kd.R (Kd.int .i64) 3 w' w.heap.size (fun k_ => (w.heap.size ≤ k_)) v5 x5_1) ∧ Aside0 (Below w.heap.size w w'))
 case atStart => exact ⟨(([] : List Int)), (0), (0), (by first | rfl | (simp; done) | (simp [*]; done)), (by first | rfl | (simp; done) | (simp [*]; done)), H', ⟨Nat.le_refl _⟩, ⟨by first | exact Kd.R_nil _ _ _ _ _ | exact Kd.N_nil _ _ _ _ _ | exact Kd.V_nil _ _ _ _ _ | exact Kd.Q_nil _ _ _ _ _ | exact Kd.S_nil _ _ _ _ _⟩, ⟨Bu HB⟩⟩
 case round =>
  clear H'
  try clear c1
  try clear c2
  try clear p2
  obtain ⟨x5_1, x6_1, x7_1, rfl, rfl, HA, HK1, HO_5, HB⟩ := hrel
  cases gk with
  | zero => exact absurd HA.out (by simp [lanyardref06_Add.l0])
  | succ k1 =>
   have H := HA.out
   clear HA
   simp only [lanyardref06_Add.l0] at H
   have HC3 := Aside0.mk H
   clear H
   go_upto_region 4 with (fail)
   go_cut [21] (fun v21 wc => ∃ (kq : Nat) (x21_2 : Bool), v21 = .bool x21_2 ∧ Aside0 (lanyardref06_Add.j1 kq l0 l1 x5_1 x6_1 x7_1 x21_2 = some r) ∧ Aside0 (kq ≤ k1) ∧ Aside0 (Kd.R (Kd.int .i64) 3 wc w.heap.size (fun k_ => (w.heap.size ≤ k_)) u5 x5_1) ∧ Aside0 (Below w.heap.size w wc))
   case first =>
    have H := HC3.out
    clear HC3
    refine (Classical.em (x7_1 < (l0.length : Int))).elim (fun c4 => ?a30_) (fun c4 => ?b30_)
    case' a30_ =>
     rw [if_pos c4] at H
     have c4b0 : decide (x7_1 < (l0.length : Int)) = true := decide_eq_true c4
     clear c4
     (first | rw [c4b0] | (simp only [i64_w, i32_w]; rw [c4b0]) | skip)
     have H' := Aside0.mk H
     clear H
    case' b30_ =>
     rw [if_neg c4] at H
     have c4b0 : decide (x7_1 < (l0.length : Int)) = false := decide_eq_false c4
     clear c4
     (first | rw [c4b0] | (simp only [i64_w, i32_w]; rw [c4b0]) | skip)
     refine (Classical.em (x7_1 < (l1.length : Int))).elim (fun c5 => ?a31_) (fun c5 => ?b31_)
     case' a31_ =>
      rw [if_pos c5] at H
      have c5b0 : decide (x7_1 < (l1.length : Int)) = true := decide_eq_true c5
      clear c5
      have H' := Aside0.mk H
      clear H
     case' b31_ =>
      rw [if_neg c5] at H
      have c5b0 : decide (x7_1 < (l1.length : Int)) = false := decide_eq_false c5
      clear c5
      have H' := Aside0.mk H
      clear H
      go_wp2
      go_meet
      case rel => exact ⟨_, (decide (x6_1 > 0)), (by first | rfl | (simp; done) | (simp [*]; done)), H', ⟨by have := HK1.out; first | omega | exact Nat.le_refl _⟩, ⟨Ru HO_5⟩, ⟨Bu HB⟩⟩
    case a30_ | b30_ =>
     go_wp2
     go_meet
     case rel => exact ⟨_, (true), (by first | rfl | (simp; done) | (simp [*]; done)), H', ⟨by have := HK1.out; first | omega | exact Nat.le_refl _⟩, ⟨Ru HO_5⟩, ⟨Bu HB⟩⟩
   case rest =>
    clear HC3
    try clear c1
    try clear c2
    try clear p2
    try clear c4
    try clear c4b0
    try clear c5
    try clear c5b0
    try clear p2
    obtain ⟨kq, x21_2, rfl, HA, HJ2, HO_5, HB⟩ := hcut
    cases kq with
    | zero => exact absurd HA.out (by simp [lanyardref06_Add.j1])
    | succ kj2 =>
     have H := HA.out
     clear HA
     simp only [lanyardref06_Add.j1] at H
     by_cases c6 : x21_2 = true
     ·subst c6
      have H1 : ((lanyardref06_at.f l0 x7_1).bind fun t459 => ((lanyardref06_at.f l1 x7_1).bind fun t460 => (if x5_1.length < 17592186044416 then (lanyardref06_Add.l0 kj2 l0 l1 (x5_1 ++ [Int.tmod (wrap64 ((wrap64 (x6_1 + t459)) + t460)) 256]) (wrap64 (Int.tdiv (wrap64 ((wrap64 (x6_1 + t459)) + t460)) 256)) (wrap64 (x7_1 + 1))) else (none)))) = some r := by rw [if_pos rfl] at H; exact H
      clear H
      have H := H1
      clear H1
      replace H := Option.bind_eq_some_iff.mp H
      obtain ⟨t459, A70, H⟩ := H
      replace H : ((lanyardref06_at.f l1 x7_1).bind fun t460 => (if x5_1.length < 17592186044416 then (lanyardref06_Add.l0 kj2 l0 l1 (x5_1 ++ [Int.tmod (wrap64 ((wrap64 (x6_1 + t459)) + t460)) 256]) (wrap64 (Int.tdiv (wrap64 ((wrap64 (x6_1 + t459)) + t460)) 256)) (wrap64 (x7_1 + 1))) else (none))) = some r := H
      have A7 := Aside0.mk A70
      clear A70
      replace H := Option.bind_eq_some_iff.mp H
      obtain ⟨t460, A80, H⟩ := H
      replace H : (if x5_1.length < 17592186044416 then (lanyardref06_Add.l0 kj2 l0 l1 (x5_1 ++ [Int.tmod (wrap64 ((wrap64 (x6_1 + t459)) + t460)) 256]) (wrap64 (Int.tdiv (wrap64 ((wrap64 (x6_1 + t459)) + t460)) 256)) (wrap64 (x7_1 + 1))) else (none)) = some r := H
      have A8 := Aside0.mk A80
      clear A80
      by_cases c9 : x5_1.length < 17592186044416
      ·rw [if_pos c9] at H
       have LMc9 := Aside0.mk c9
       clear c9
       obtain ⟨y461, hy461⟩ : ∃ y_ : List Int, y_ = (x5_1 ++ [Int.tmod (wrap64 ((wrap64 (x6_1 + t459)) + t460)) 256]) := ⟨_, rfl⟩
       replace H : (lanyardref06_Add.l0 kj2 l0 l1 y461 (wrap64 (Int.tdiv (wrap64 ((wrap64 (x6_1 + t459)) + t460)) 256)) (wrap64 (x7_1 + 1))) = some r := by first | (rw [hy461]; with_reducible exact H) | (have H2_ := (Option.bind_some _ _).symm.trans H; rw [hy461]; with_reducible exact H2_) | (have H2_ := (Option.bind_some _ _).symm.trans H; with_reducible exact H2_) | with_reducible exact H | (rw [hy461]; exact H) | exact H
       have Ny461 := Aside0.mk hy461
       clear hy461
       have H' := Aside0.mk H
       clear H
       go_wp2_with (first | ((with_reducible refine gate_callee (f := 43) rfl ?_); refine goesA (some 27) Tryd.func43 #[.slice A0 l0.length c0, .int .i64 x7_1] rfl ?_; (with_reducible refine (lanyardref06_at.calls _ _ l0 x7_1 t459 _ ?side1 ?side2 A7.out).mono ?_); (case side1 => exact Cu (Kd.C_below HR0.out HB.out)); (case side2 => exact HC0.out); rintro e w' ⟨rfl, ⟨nd, rfl⟩⟩; refine ⟨_, rfl, ?_⟩) | ((with_reducible refine gate_callee (f := 43) rfl ?_); refine goesA (some 31) Tryd.func43 #[.slice A1 l1.length c1, .int .i64 x7_1] rfl ?_; (with_reducible refine (lanyardref06_at.calls _ _ l1 x7_1 t460 _ ?side1 ?side2 A8.out).mono ?_); (case side1 => repeat (first | exact (Kd.C_below HR1.out (Bu HB)) | (with_reducible refine Kd.C_alloc ?_ _) | (with_reducible refine Kd.C_drewN ?_ _) | (with_reducible refine Kd.C_drew ?_))); (case side2 => exact HC1.out); rintro e w' ⟨rfl, ⟨nd, rfl⟩⟩; refine ⟨_, rfl, ?_⟩) | ((with_reducible refine gate_builtin (b := .append) (xs := #[.tmp 33, .tmp 36]) rfl ?_); (try (refine gate_guard (by rfl) ?_; dsimp only)); at_builtin; refine Kd.R_append (Kd.int .i64) (w0 := w) w.heap.size rfl (.tmp 33) (.tmp 36) 24 3 (.int .i64 0) 8 rfl Tryd.underlying24 info3 rfl (by decide) (by omega) u5 x5_1 (Int.tmod (wrap64 ((wrap64 (x6_1 + t459)) + t460)) 256) [.int .i64 (Int.tmod (wrap64 ((wrap64 (x6_1 + t459)) + t460)) 256)] (fun k_ => (w.heap.size ≤ k_)) (fun _ => False) rfl rfl ?aP (fun _ hk => hk.elim) ?aF ?aO ?aB ?aS ?aL ?_; (case aP => exact rfl); (case aB => exact (Bu HB)); (case aF => exact (fun k_ hk => (Nat.le_trans (Bz HB) hk))); (case aO => exact (Ru HO_5)); (case aS => exact (Bz HB)); (case aL => have := LMc9.out; omega); intro v462 w10 ho hb hg hat; rw [← Ny461.out] at ho; have n0_ := Aside0.mk (hb); have n1_ := Aside0.mk (ho); clear HB HO_5; revert n0_ n1_; intro HB HO463; clear ho hb hg hat))
       go_roundg kj2
       case measure => have := HK1.out; have := HJ2.out; omega
       case rel => exact ⟨(y461), (wrap64 (Int.tdiv (wrap64 ((wrap64 (x6_1 + t459)) + t460)) 256)), (wrap64 (x7_1 + 1)), (by first | rfl | (simp; done) | (simp [*]; done)), (by first | rfl | (simp; done) | (simp [*]; done)), H', ⟨by have := HK1.out; have := HJ2.out; omega⟩, ⟨Ru HO463⟩, ⟨Bu HB⟩⟩
      ·rw [if_neg c9] at H
       exact absurd H (by simp)
     ·replace c6 := Bool.eq_false_iff.mpr c6
      subst c6
      have H1 : ((lanyardref06_trim.f kj2 x5_1).bind fun t464 => (some t464)) = some r := by rw [if_neg (show ¬ (false = true) by decide)] at H; exact H
      clear H
      have H := H1
      clear H1
      replace H := Option.bind_eq_some_iff.mp H
      obtain ⟨t464, A110, H⟩ := H
      replace H : (some t464) = some r := H
      have A11 := Aside0.mk A110
      clear A110
      obtain rfl := Option.some.inj H
      obtain ⟨Ao12, co12, eo12⟩ := Kd.R_slice HO_5.out
      subst eo12
      go_wp2_with (first | ((with_reducible refine gate_callee (f := 30) rfl ?_); refine goesA (some 41) Tryd.func30 #[.slice Ao12 x5_1.length co12] rfl ?_; (with_reducible refine (lanyardref06_trim.calls kj2 (fun k_ => some k_ = (.slice Ao12 x5_1.length co12 : Value).ownBlock) _ _ x5_1 t464 _ ?side1 A11.out).mono ?_); (case side1 => exact Kd.R_V (Kd.R_tight rfl (HO_5.out))); rintro e w13 ⟨v465, rfl, ho0, hb⟩; refine ⟨_, rfl, ?_⟩; have n0_ := Rb HO_5 hb; have n1_ := Aside0.mk (Kd.V_lower (Kd.V_mono (ok' := fun k_ => (w.heap.size ≤ k_)) ho0 (fun k_ hk_ => Or.elim hk_ (fun hs_ => ((HO_5.out).1 k_ hs_.symm)) (fun hn_ => (Nat.le_trans (Bz HB) hn_)))) (Bz HB)); have n2_ := Bs HB hb; clear HO_5 HB; revert n0_ n1_ n2_; intro HO_5 HO466 HB; (try clear hb); (try clear hb2); (try clear hk); (try clear hi); (try clear ho0)))
      go_ret
      exact ⟨_, rfl_, Vu HO466, Bu HB⟩

end Go.Proofs.YtcofpbndaljppaaDoor.Hp
