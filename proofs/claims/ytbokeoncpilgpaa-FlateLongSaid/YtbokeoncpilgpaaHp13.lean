/- Go functions of this seat as Lean functions, and their contracts: what the Go code computes, for every input. (By hp.py, a program of this repo, over the kit's print.py.) -/
import Derived.Test.YtbokeoncpilgpaaHp0
import Derived.Test.YtbokeoncpilgpaaHp3
import Derived.Test.YtbokeoncpilgpaaHp9
namespace Go.Proofs.Ytbokeoncpilgpaa.Hp
open Go.RowKit Go.Proofs.YtbokeoncpilgpaaW.PrintWords Go.Proofs.YtbokeoncpilgpaaW.PrintLast Go.Proofs.YtbokeoncpilgpaaW.PrintMore
attribute [local go_sem] max2_int min2_int max_two min_two max_three min_three max_four min_four   -- for this text's walks alone
set_option linter.unusedVariables false
set_option linter.unusedSimpArgs false

/-! ### lanyardlaw04_FlateLong: function 8 -/
def lanyardlaw04_FlateLong.l0 : Nat → Int → Int → List Int → Int → Option (Bool)
 | 0, _, _, _, _ => none
 | k + 1, x1, x5, x6, x7 => if x7 < x5 then (if 0 ≤ x7 then (if x7 < (x6.length : Int) then (lanyardlaw04_FlateLong.l0 k x1 x5 (x6.set (x7 : Int).toNat ((x1 + ((x7) % 256)) % 256)) (wrap64 (x7 + 1))) else (none)) else (none)) else ((flate_Stored.f x6).bind fun t321 => ((flate_Inflate.f t321 x5).bind fun bt324 => (if (t321.length : Int) = (wrap64 (x5 + (wrap64 (5 * (mx 1 (wrap64 (Int.tdiv (wrap64 (x5 + 65534)) 65535))))))) then (if bt324.2.2 = 0 then (if bt324.2.1 = (t321.length : Int) then (some ((strOfNums bt324.1).toList == (strOfNums x6).toList)) else (some false)) else (some false)) else (some false))))
def lanyardlaw04_FlateLong.f (k : Nat) (a0 : Int) (a1 : Int) : Option (Bool) := (lanyardlaw04_awake.f).bind fun t316 => (if t316 = true then (if 0 ≤ (Int.tmod (wrap64 ((Int.tmod a0 200000) + 200000)) 200000) then (if (Int.tmod (wrap64 ((Int.tmod a0 200000) + 200000)) 200000 : Int).toNat ≤ 281474976710656 then (lanyardlaw04_FlateLong.l0 k a1 (Int.tmod (wrap64 ((Int.tmod a0 200000) + 200000)) 200000) (List.replicate (Int.tmod (wrap64 ((Int.tmod a0 200000) + 200000)) 200000 : Int).toNat 0) 0) else (none)) else (none)) else (some false))
theorem lanyardlaw04_FlateLong.mono_l : ∀ k, (∀ y0 y1 y2 y3, LeO (lanyardlaw04_FlateLong.l0 k y0 y1 y2 y3) (lanyardlaw04_FlateLong.l0 (k + 1) y0 y1 y2 y3))
 | 0 => fun _ _ _ _ r h => by simp [lanyardlaw04_FlateLong.l0] at h
 | k + 1 => by
  have ih0 := lanyardlaw04_FlateLong.mono_l k
  ·intro y0 y1 y2 y3
   unfold lanyardlaw04_FlateLong.l0
   repeat' first
   | (with_reducible exact ih0 _ _ _ _)
   | (with_reducible exact LeO.refl _)
   | (with_reducible exact LeO.none _)
   | (with_reducible refine LeO.ite ?_ ?_)
   | (with_reducible refine LeO.bind ?_ (fun _ => ?_))
   | exact ih0 _ _ _ _
   | exact LeO.none _
   | refine LeO.ite ?_ ?_
   | refine LeO.bind ?_ (fun _ => ?_)
theorem lanyardlaw04_FlateLong.mono : ∀ a0 a1 k, LeO (lanyardlaw04_FlateLong.f k a0 a1) (lanyardlaw04_FlateLong.f (k + 1) a0 a1) := by
 intro a0 a1 k
 have ih0 := lanyardlaw04_FlateLong.mono_l k
 unfold lanyardlaw04_FlateLong.f
 repeat' first
   | (with_reducible exact ih0 _ _ _ _)
   | (with_reducible exact LeO.refl _)
   | (with_reducible exact LeO.none _)
   | (with_reducible refine LeO.ite ?_ ?_)
   | (with_reducible refine LeO.bind ?_ (fun _ => ?_))
   | exact ih0 _ _ _ _
   | exact LeO.none _
   | refine LeO.ite ?_ ?_
   | refine LeO.bind ?_ (fun _ => ?_)
set_option maxHeartbeats 8000000 in
set_option maxRecDepth 100000 in
theorem lanyardlaw04_FlateLong.calls (k : Nat) (a0 : Int) (a1 : Int) (r : Bool) (w : World) (h : lanyardlaw04_FlateLong.f k a0 a1 = some r) (hr_ : r = true := by rfl) :
  Calls Try.prog 8 #[.int .i64 a0, .int .u8 a1] w fun e w' => e = .returned (.bool r) ∧ Below w.heap.size w w' := by
 have HR_ := Aside0.mk hr_
 clear hr_
 have HB := Aside0.mk (Below.refl w.heap.size w)
 have H : ((lanyardlaw04_awake.f).bind fun t316 => (if t316 = true then (if 0 ≤ (Int.tmod (wrap64 ((Int.tmod a0 200000) + 200000)) 200000) then (if (Int.tmod (wrap64 ((Int.tmod a0 200000) + 200000)) 200000 : Int).toNat ≤ 281474976710656 then (lanyardlaw04_FlateLong.l0 k a1 (Int.tmod (wrap64 ((Int.tmod a0 200000) + 200000)) 200000) (List.replicate (Int.tmod (wrap64 ((Int.tmod a0 200000) + 200000)) 200000 : Int).toNat 0) 0) else (none)) else (none)) else (some false))) = some r := h
 clear h
 replace H := Option.bind_eq_some_iff.mp H
 obtain ⟨t316, A30, H⟩ := H
 replace H : (if t316 = true then (if 0 ≤ (Int.tmod (wrap64 ((Int.tmod a0 200000) + 200000)) 200000) then (if (Int.tmod (wrap64 ((Int.tmod a0 200000) + 200000)) 200000 : Int).toNat ≤ 281474976710656 then (lanyardlaw04_FlateLong.l0 k a1 (Int.tmod (wrap64 ((Int.tmod a0 200000) + 200000)) 200000) (List.replicate (Int.tmod (wrap64 ((Int.tmod a0 200000) + 200000)) 200000 : Int).toNat 0) 0) else (none)) else (none)) else (some false)) = some r := H
 have A3 := Aside0.mk A30
 clear A30
 by_cases c4 : t316 = true
 ·subst c4
  have H1 : (if 0 ≤ (Int.tmod (wrap64 ((Int.tmod a0 200000) + 200000)) 200000) then (if (Int.tmod (wrap64 ((Int.tmod a0 200000) + 200000)) 200000 : Int).toNat ≤ 281474976710656 then (lanyardlaw04_FlateLong.l0 k a1 (Int.tmod (wrap64 ((Int.tmod a0 200000) + 200000)) 200000) (List.replicate (Int.tmod (wrap64 ((Int.tmod a0 200000) + 200000)) 200000 : Int).toNat 0) 0) else (none)) else (none)) = some r := by rw [if_pos rfl] at H; exact H
  clear H
  have H := H1
  clear H1
  obtain ⟨ji5, hji5⟩ : ∃ j_ : Int, (Int.tmod (wrap64 ((Int.tmod a0 200000) + 200000)) 200000) = j_ := ⟨_, rfl⟩
  replace H : (if 0 ≤ (ji5) then (if (ji5 : Int).toNat ≤ 281474976710656 then (lanyardlaw04_FlateLong.l0 k a1 ji5 (List.replicate (ji5 : Int).toNat 0) 0) else (none)) else (none)) = some r := by first | (rw [hji5] at H; exact H) | (simp only [hji5] at H ⊢; exact H)
  (try rw [hji5] at A3)
  by_cases c6 : 0 ≤ (ji5)
  ·rw [if_pos c6] at H
   have c6b0 := eq_true c6
   have c6b1 : decide (0 ≤ (ji5)) = true := decide_eq_true c6
   clear c6
   by_cases c7 : (ji5 : Int).toNat ≤ 281474976710656
   ·rw [if_pos c7] at H
    have c7b0 := eq_true c7
    have c7b1 : decide ((ji5 : Int).toNat ≤ 281474976710656) = true := decide_eq_true c7
    clear c7
    obtain ⟨y317, hy317⟩ : ∃ y_ : List Int, y_ = (List.replicate (ji5 : Int).toNat 0) := ⟨_, rfl⟩
    replace H : (lanyardlaw04_FlateLong.l0 k a1 ji5 y317 0) = some r := by first | (rw [hy317]; with_reducible exact H) | (have H2_ := (Option.bind_some _ _).symm.trans H; rw [hy317]; with_reducible exact H2_) | (have H2_ := (Option.bind_some _ _).symm.trans H; with_reducible exact H2_) | with_reducible exact H | (rw [hy317]; exact H) | exact H
    have Ny317 := Aside0.mk hy317
    clear hy317
    have H' := Aside0.mk H
    clear H
    go_enter Try.func8, Try.ntmps8
    go_wp2_with (first | ((with_reducible refine gate_callee (f := 9) rfl ?_); refine goesA (some 12) Try.func9 #[] rfl ?_; (with_reducible refine (lanyardlaw04_awake.calls  true _ A3.out).mono ?_); rintro e w8 ⟨rfl, hb⟩; refine ⟨_, rfl, ?_⟩; have n0_ := Bs HB hb; clear HB; revert n0_; intro HB; (try clear hb); (try clear hb2); (try clear hk); (try clear hi)) | ((with_reducible refine gate_dst (N := 19) rfl ?_); (try (refine gate_guard (by rfl) ?_; dsimp only)); refine Kd.R_make (Kd.int .u8) _ 5 rfl (N := 19) rfl 22 _ _ rfl ji5 rfl rfl Try.underlying22 (.int .u8 0) 1 info5 rfl (by decide) (by omega) 0 (ok := fun _ => True) (okp := fun _ => True) rfl (fun _ hk => hk) trivial (of_decide_eq_true (by first | (with_reducible assumption) | assumption)) (Nat.le_trans (Nat.mul_le_mul_right _ (of_decide_eq_true (by first | (with_reducible assumption) | assumption) : ji5.toNat ≤ 281474976710656)) (by omega)) (Below.refl _ _) (Nat.le_refl _) ?_; intro v318 w9 ho10 hb hg_ hnew_; clear hg_ hnew_; (first | rw [← Ny317.out] at ho10 | (simp only [Int.reduceToNat] at ho10; rw [← Ny317.out] at ho10)); have n0_ := Aside0.mk (Kd.R_lower ho10 (Bz HB)); have n1_ := Bs HB hb; clear HB; revert n0_ n1_; intro HO319 HB; clear hb ho10))
    go_loopg [7] k (fun kq v7 w' => ∃ (x6_1 : List Int) (x7_1 : Int), v7 = .int .i64 x7_1 ∧ Aside0 (lanyardlaw04_FlateLong.l0 kq a1 ji5 x6_1 x7_1 = some r) ∧ Aside0 (kq ≤ k) ∧ Aside0 (Kd.R (Kd.int .u8) 5 w' w.heap.size (fun _ => True) v318 x6_1) ∧ Aside0 (Below w.heap.size w w'))
    case atStart => exact ⟨(y317), (0), (by first | rfl | (simp; done) | (simp [*]; done)), H', ⟨Nat.le_refl _⟩, ⟨Ru HO319⟩, ⟨Bu HB⟩⟩
    case round =>
     clear H'
     try clear p2
     try clear c4
     try clear c6
     try clear c6b0
     try clear c6b1
     try clear p6
     try clear c7
     try clear c7b0
     try clear c7b1
     try clear c8
     try clear c9
     obtain ⟨x6_1, x7_1, rfl, HA, HK1, HO_6, HB⟩ := hrel
     cases gk with
     | zero => exact absurd HA.out (by simp [lanyardlaw04_FlateLong.l0])
     | succ k1 =>
      have H := HA.out
      clear HA
      simp only [lanyardlaw04_FlateLong.l0] at H
      by_cases c11 : x7_1 < ji5
      ·rw [if_pos c11] at H
       have c11b0 : decide (x7_1 < ji5) = true := decide_eq_true c11
       clear c11
       by_cases c12 : 0 ≤ x7_1
       ·rw [if_pos c12] at H
        have c12b0 : decide (0 ≤ x7_1) = true := decide_eq_true c12
        clear c12
        by_cases c13 : x7_1 < (x6_1.length : Int)
        ·rw [if_pos c13] at H
         have c13b0 : decide (x7_1 < (x6_1.length : Int)) = true := decide_eq_true c13
         clear c13
         obtain ⟨y320, hy320⟩ : ∃ y_ : List Int, y_ = (x6_1.set (x7_1 : Int).toNat ((a1 + ((x7_1) % 256)) % 256)) := ⟨_, rfl⟩
         replace H : (lanyardlaw04_FlateLong.l0 k1 a1 ji5 y320 (wrap64 (x7_1 + 1))) = some r := by first | (rw [hy320]; with_reducible exact H) | (have H2_ := (Option.bind_some _ _).symm.trans H; rw [hy320]; with_reducible exact H2_) | (have H2_ := (Option.bind_some _ _).symm.trans H; with_reducible exact H2_) | with_reducible exact H | (rw [hy320]; exact H) | exact H
         have Ny320 := Aside0.mk hy320
         clear hy320
         have H' := Aside0.mk H
         clear H
         have p14 : 0 ≤ (x7_1 : Int) := of_decide_eq_true (by first | (with_reducible assumption) | assumption)
         have q14 : (x7_1 : Int) < ((x6_1.length : Int) : Int) := of_decide_eq_true (by first | (with_reducible assumption) | assumption)
         obtain ⟨go14, co14, eo14, gb14, gl14, cl14, HG14⟩ := Kd.R_form HO_6.out (by omega)
         (first | cases eo14 | (injection eo14 with ea_ en_ ec_; (first | subst ea_ | (injection ea_ with ea_; subst ea_)); subst ec_; clear en_))
         have GB14 := Aside0.mk gb14
         have GG14 := Aside0.mk HG14
         clear gb14 gl14 HG14
         obtain ⟨hx14_0, hf14_0⟩ := Kd.R_celln 0 HO_6.out (x7_1 : Int) p14 q14
         replace p14 := eq_true p14
         replace q14 := eq_true q14
         have HP15 := Kd.R_putg HO_6.out (x7_1 : Int) ((a1 + ((x7_1) % 256)) % 256)
         go_wp2_with (first | ((with_reducible refine gate_store (t := 5) (p := 31) rfl ?_); refine store_event (t := 5) (p := 31) (v := ?vo_w16) (w1 := (wr.setCell ⟨go14, (x7_1 : Int).toNat, none⟩ (.int .u8 ((a1 + ((x7_1) % 256)) % 256)))) ?hg ?ho ?hn ?hr ?_; (case ho => rfl); (case hg => rfl); (case hn => rfl); (case hr => first | (go_simp; done) | (go_simp; rfl)); intro w16 hw; have hg : wr.grownBy w16 (some go14) := (by rw [hw]; exact HP15.2); have hp_ : Kd.R (Kd.int .u8) 5 w16 w.heap.size (fun _ => True) (.slice (some ⟨go14, 0, none⟩) x6_1.length co14) y320 := (by rw [hw, Ny320.out]; exact HP15.1); clear HP15; have n0_ := Aside0.mk (hp_); have n1_ := Aside0.mk ((by rw [hw]; exact below_set (HB.out) GB14.out : Below w.heap.size w w16)); clear HO_6 HB; revert n0_ n1_; intro HO_6 HB; clear hg hw hp_))
         go_roundg k1
         case measure => have := HK1.out; omega
         case rel => exact ⟨(y320), (wrap64 (x7_1 + 1)), (by first | rfl | (simp; done) | (simp [*]; done)), H', ⟨by have := HK1.out; omega⟩, ⟨Ru HO_6⟩, ⟨Bu HB⟩⟩
        ·rw [if_neg c13] at H
         exact absurd H (by simp)
       ·rw [if_neg c12] at H
        exact absurd H (by simp)
      ·rw [if_neg c11] at H
       have c11b0 : decide (x7_1 < ji5) = false := decide_eq_false c11
       clear c11
       replace H := Option.bind_eq_some_iff.mp H
       obtain ⟨t321, A170, H⟩ := H
       replace H : ((flate_Inflate.f t321 ji5).bind fun bt324 => (if (t321.length : Int) = (wrap64 (ji5 + (wrap64 (5 * (mx 1 (wrap64 (Int.tdiv (wrap64 (ji5 + 65534)) 65535))))))) then (if bt324.2.2 = 0 then (if bt324.2.1 = (t321.length : Int) then (some ((strOfNums bt324.1).toList == (strOfNums x6_1).toList)) else (some false)) else (some false)) else (some false))) = some r := H
       have A17 := Aside0.mk A170
       clear A170
       replace H := Option.bind_eq_some_iff.mp H
       obtain ⟨⟨t324, t325, t326⟩, A180, H⟩ := H
       replace H : (if (t321.length : Int) = (wrap64 (ji5 + (wrap64 (5 * (mx 1 (wrap64 (Int.tdiv (wrap64 (ji5 + 65534)) 65535))))))) then (if t326 = 0 then (if t325 = (t321.length : Int) then (some ((strOfNums t324).toList == (strOfNums x6_1).toList)) else (some false)) else (some false)) else (some false)) = some r := H
       have A18 := Aside0.mk A180
       clear A180
       obtain ⟨ji19, hji19⟩ : ∃ j_ : Int, (mx 1 (wrap64 (Int.tdiv (wrap64 (ji5 + 65534)) 65535))) = j_ := ⟨_, rfl⟩
       replace H : (if (t321.length : Int) = (wrap64 (ji5 + (wrap64 (5 * (ji19))))) then (if t326 = 0 then (if t325 = (t321.length : Int) then (some ((strOfNums t324).toList == (strOfNums x6_1).toList)) else (some false)) else (some false)) else (some false)) = some r := by first | (rw [hji19] at H; exact H) | (simp only [hji19] at H ⊢; exact H)
       (try rw [hji19] at A17)
       (try rw [hji19] at A18)
       have hji19_ : (if 1 < (wrap64 (Int.tdiv (wrap64 (ji5 + 65534)) 65535)) then (wrap64 (Int.tdiv (wrap64 (ji5 + 65534)) 65535)) else 1) = ji19 := hji19
       by_cases c20 : (t321.length : Int) = (wrap64 (ji5 + (wrap64 (5 * (ji19)))))
       ·rw [if_pos c20] at H
        have c20b0 : ((t321.length : Int) == (wrap64 (ji5 + (wrap64 (5 * (ji19)))))) = true := beq_iff_eq.mpr c20
        have c20b1 : ((t321.length : Int) != (wrap64 (ji5 + (wrap64 (5 * (ji19)))))) = false := bne_eq_false_iff_eq.mpr c20
        clear c20
        by_cases c21 : t326 = 0
        ·rw [if_pos c21] at H
         have c21b0 : (t326 == 0) = true := beq_iff_eq.mpr c21
         have c21b1 : (t326 != 0) = false := bne_eq_false_iff_eq.mpr c21
         clear c21
         by_cases c22 : t325 = (t321.length : Int)
         ·rw [if_pos c22] at H
          have c22b0 : (t325 == (t321.length : Int)) = true := beq_iff_eq.mpr c22
          have c22b1 : (t325 != (t321.length : Int)) = false := bne_eq_false_iff_eq.mpr c22
          clear c22
          obtain rfl := Option.some.inj H
          obtain ⟨Ao23, co23, eo23⟩ := Kd.R_slice HO_6.out
          subst eo23
          go_wp2_with (first | ((with_reducible refine gate_callee (f := 11) rfl ?_); refine goesA (some 33) Try.func11 #[.slice Ao23 x6_1.length co23] rfl ?_; (with_reducible refine (flate_Stored.calls _ _ x6_1 t321 _ ?side1 ?side2 A17.out).mono ?_); (case side1 => exact Cu (Kd.R_reads' HO_6.out).2.2); (case side2 => exact (Kd.R_reads' HO_6.out).2.1); rintro e w24 ⟨v322, rfl, ho0, hb⟩; refine ⟨_, rfl, ?_⟩; have n0_ := Re HO_6 (Kd.R_base ho0) hb; have n1_ := Aside0.mk (Kd.R_lower (Kd.R_new' ho0 (Kd.R_lt (Ru HO_6))) (Bz HB)); have n2_ := Bs HB hb; clear HO_6 HB; revert n0_ n1_ n2_; intro HO_6 HO323 HB; (try clear hb); (try clear hb2); (try clear hk); (try clear hi); (try clear ho0); obtain ⟨Ao25, co25, eo25⟩ := Kd.R_slice HO323.out; subst eo25) | ((with_reducible refine gate_callee (f := 14) rfl ?_); refine goesL_ (some 37) rfl rfl Try.func14 (by kernel_rfl) rfl #[.slice Ao25 t321.length co25, .int .i64 ji5] rfl (by (try simp only [List.map_toArray, List.map_cons, List.map_nil]); first | done | (simp only [hji5]; rfl) | rfl | (simp only [List.length_drop, List.length_take]; rfl)) ?_; (with_reducible refine (flate_Inflate.calls _ _ t321 ji5 t324 t325 t326 _ ?side1 ?side2 A18.out).mono ?_); (case side1 => exact Cu (Kd.R_reads' HO323.out).2.2); (case side2 => exact (Kd.R_reads' HO323.out).2.1); rintro e w26 ⟨v327, rfl, ho0, hb⟩; refine ⟨_, rfl, ?_⟩; have n0_ := Re HO_6 (Kd.R_base ho0) hb; have n1_ := Re HO323 (Kd.R_base ho0) hb; have n2_ := Aside0.mk (Kd.R_lower (Kd.R_new' (Kd.R_new' ho0 (Kd.R_lt (Ru HO_6))) (Kd.R_lt (Ru HO323))) (Bz HB)); have n3_ := Bs HB hb; clear HO_6 HO323 HB; revert n0_ n1_ n2_ n3_; intro HO_6 HO323 HO328 HB; (try clear hb); (try clear hb2); (try clear hk); (try clear hi); (try clear ho0); have hcv27 := own_string (P := Try.prog) Try.underlying22 Try.underlying5 Try.underlying9 (Kd.own_of_R HO328.out); have hcv28 := fun n_ : Nat => own_string (P := Try.prog) Try.underlying22 Try.underlying5 Try.underlying9 (Kd.own_of_R (Kd.R_drewN HO328.out n_)); have hcv29 := own_string (P := Try.prog) Try.underlying22 Try.underlying5 Try.underlying9 (Kd.own_of_R HO_6.out); have hcv30 := fun n_ : Nat => own_string (P := Try.prog) Try.underlying22 Try.underlying5 Try.underlying9 (Kd.own_of_R (Kd.R_drewN HO_6.out n_))))
          go_ret
          exact ⟨by first | rfl | (simp [errW_none, errW_some] <;> rfl) | (simp only [← hji5, ← hji19]; first | rfl | (simp [errW_none, errW_some] <;> rfl)) | (simp [*, errW_none, errW_some] <;> rfl), Bu HB⟩
         ·rw [if_neg c22] at H
          have c22b0 : (t325 == (t321.length : Int)) = false := beq_eq_false_iff_ne.mpr c22
          have c22b1 : (t325 != (t321.length : Int)) = true := bne_iff_ne.mpr c22
          exact absurd (Option.some.inj H) (by rw [HR_.out]; decide)
        ·rw [if_neg c21] at H
         have c21b0 : (t326 == 0) = false := beq_eq_false_iff_ne.mpr c21
         have c21b1 : (t326 != 0) = true := bne_iff_ne.mpr c21
         exact absurd (Option.some.inj H) (by rw [HR_.out]; decide)
       ·rw [if_neg c20] at H
        have c20b0 : ((t321.length : Int) == (wrap64 (ji5 + (wrap64 (5 * (ji19)))))) = false := beq_eq_false_iff_ne.mpr c20
        have c20b1 : ((t321.length : Int) != (wrap64 (ji5 + (wrap64 (5 * (ji19)))))) = true := bne_iff_ne.mpr c20
        exact absurd (Option.some.inj H) (by rw [HR_.out]; decide)
   ·rw [if_neg c7] at H
    exact absurd H (by simp)
  ·rw [if_neg c6] at H
   exact absurd H (by simp)
 ·replace c4 := Bool.eq_false_iff.mpr c4
  subst c4
  have H1 : (some false) = some r := by rw [if_neg (show ¬ (false = true) by decide)] at H; exact H
  clear H
  have H := H1
  clear H1
  exact absurd (Option.some.inj H) (by rw [HR_.out]; decide)
/-- THE ONE PURE STATEMENT of lanyardlaw04_FlateLong: yours. -/
def lanyardlaw04_FlateLong.Pure : Prop := ∀ (a0 : Int) (a1 : Int), (Lit.int .i64 a0).wf = true → (Lit.int .u8 a1).wf = true → ∃ k, lanyardlaw04_FlateLong.f k a0 a1 = some true
theorem lanyardlaw04_FlateLong.walk (P : lanyardlaw04_FlateLong.Pure) (a0 : Int) (a1 : Int) (w : World) (w0 : (Lit.int .i64 a0).wf = true) (w1 : (Lit.int .u8 a1).wf = true) :
  Calls Try.prog 8 #[.int .i64 a0, .int .u8 a1] w fun e w' => e = .returned (.bool true) ∧ Below w.heap.size w w' := by
 obtain ⟨k, h⟩ := P a0 a1 w0 w1
 refine (lanyardlaw04_FlateLong.calls k a0 a1 true w h).mono ?_
 rintro e w' ⟨rfl, hd⟩
 exact ⟨rfl, hd⟩

end Go.Proofs.Ytbokeoncpilgpaa.Hp
