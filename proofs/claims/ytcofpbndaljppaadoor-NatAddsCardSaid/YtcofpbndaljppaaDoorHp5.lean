/- Go functions of this seat as Lean functions, and their contracts: what the Go code computes, for every input. (By hp.py, a program of this repo, over the kit's print.py.) -/
import Derived.Test.YtcofpbndaljppaaDoorHp0
import Derived.Test.YtcofpbndaljppaaDoorHp1
import Derived.Test.YtcofpbndaljppaaDoorHp3
import Derived.Test.YtcofpbndaljppaaDoorHp4
namespace Go.Proofs.YtcofpbndaljppaaDoor.Hp
open Go.RowKit Go.Proofs.YtcofpbndaljppaaDoorW.PrintWords Go.Proofs.YtcofpbndaljppaaDoorW.PrintLast Go.Proofs.YtcofpbndaljppaaDoorW.PrintMore
attribute [local go_sem] max2_int min2_int max_two min_two max_three min_three max_four min_four   -- for this text's walks alone
set_option linter.unusedVariables false
set_option linter.unusedSimpArgs false

/-! ### nat_mul: function 36 -/
mutual
def nat_mul.l0 : Nat → List Int → List Int → List Int → Int → Int → Option (List Int)
 | 0, _, _, _, _, _ => none
 | k + 1, x1, x5, x17, x18, x19 => if x19 < x18 then (if 0 ≤ x19 then (if x19 < (x17.length : Int) then (nat_mul.l1 k x1 x5 x19 (rd x17 x19) 0 x17 x18 x19 x1 (x1.length : Int) 0) else (none)) else (none)) else ((nat_num_trim.f k x5).bind fun t232 => (some t232))
def nat_mul.l1 : Nat → List Int → List Int → Int → Int → Int → List Int → Int → Int → List Int → Int → Int → Option (List Int)
 | 0, _, _, _, _, _, _, _, _, _, _, _ => none
 | k + 1, x1, x5, x6, x7, x8, x17, x18, x19, x24, x25, x26 => if x26 < x25 then (if 0 ≤ x26 then (if x26 < (x24.length : Int) then (if 0 ≤ (wrap64 (x6 + x26)) then (if (wrap64 (x6 + x26)) < (x5.length : Int) then (nat_mul.l1 k x1 (x5.set ((wrap64 (x6 + x26)) : Int).toNat ((IntKind.u64.wrap (x8 + (IntKind.u64.wrap ((IntKind.u64.wrap (rd x5 (wrap64 (x6 + x26)))) + (IntKind.u64.wrap ((IntKind.u64.wrap (x7)) * (IntKind.u64.wrap (rd x24 x26)))))))) % 4294967296)) x6 x7 ((IntKind.u64.wrap (x8 + (IntKind.u64.wrap ((IntKind.u64.wrap (rd x5 (wrap64 (x6 + x26)))) + (IntKind.u64.wrap ((IntKind.u64.wrap (x7)) * (IntKind.u64.wrap (rd x24 x26)))))))) / 4294967296) x17 x18 x19 x24 x25 (wrap64 (x26 + 1))) else (none)) else (none)) else (none)) else (none)) else (if 0 ≤ (wrap64 (x6 + (x1.length : Int))) then (if (wrap64 (x6 + (x1.length : Int))) < (x5.length : Int) then (nat_mul.l0 k x1 (x5.set ((wrap64 (x6 + (x1.length : Int))) : Int).toNat ((x8) % 4294967296)) x17 x18 (wrap64 (x19 + 1))) else (none)) else (none))
end
def nat_mul.f (k : Nat) (l0 : List Int) (l1 : List Int) : Option (List Int) := if 0 ≤ (wrap64 ((l0.length : Int) + (l1.length : Int))) then (if (wrap64 ((l0.length : Int) + (l1.length : Int)) : Int).toNat ≤ 70368744177664 then (nat_mul.l0 k l1 (List.replicate (wrap64 ((l0.length : Int) + (l1.length : Int)) : Int).toNat 0) l0 (l0.length : Int) 0) else (none)) else (none)
theorem nat_mul.mono_l : ∀ k, (∀ y0 y1 y2 y3 y4, LeO (nat_mul.l0 k y0 y1 y2 y3 y4) (nat_mul.l0 (k + 1) y0 y1 y2 y3 y4)) ∧ (∀ y0 y1 y2 y3 y4 y5 y6 y7 y8 y9 y10, LeO (nat_mul.l1 k y0 y1 y2 y3 y4 y5 y6 y7 y8 y9 y10) (nat_mul.l1 (k + 1) y0 y1 y2 y3 y4 y5 y6 y7 y8 y9 y10))
 | 0 => ⟨fun _ _ _ _ _ r h => by simp [nat_mul.l0] at h, fun _ _ _ _ _ _ _ _ _ _ _ r h => by simp [nat_mul.l1] at h⟩
 | k + 1 => by
  obtain ⟨ih0, ih1⟩ := nat_mul.mono_l k
  refine ⟨?_, ?_⟩
  ·intro y0 y1 y2 y3 y4
   unfold nat_mul.l0
   repeat' first
   | (with_reducible exact ih0 _ _ _ _ _)
   | (with_reducible exact ih1 _ _ _ _ _ _ _ _ _ _ _)
   | (with_reducible exact nat_num_trim.mono _ _)
   | (with_reducible exact LeO.refl _)
   | (with_reducible exact LeO.none _)
   | (with_reducible refine LeO.ite ?_ ?_)
   | (with_reducible refine LeO.bind ?_ (fun _ => ?_))
   | exact ih0 _ _ _ _ _
   | exact ih1 _ _ _ _ _ _ _ _ _ _ _
   | exact nat_num_trim.mono _ _
   | exact LeO.none _
   | refine LeO.ite ?_ ?_
   | refine LeO.bind ?_ (fun _ => ?_)
  ·intro y0 y1 y2 y3 y4 y5 y6 y7 y8 y9 y10
   unfold nat_mul.l1
   repeat' first
   | (with_reducible exact ih0 _ _ _ _ _)
   | (with_reducible exact ih1 _ _ _ _ _ _ _ _ _ _ _)
   | (with_reducible exact nat_num_trim.mono _ _)
   | (with_reducible exact LeO.refl _)
   | (with_reducible exact LeO.none _)
   | (with_reducible refine LeO.ite ?_ ?_)
   | (with_reducible refine LeO.bind ?_ (fun _ => ?_))
   | exact ih0 _ _ _ _ _
   | exact ih1 _ _ _ _ _ _ _ _ _ _ _
   | exact nat_num_trim.mono _ _
   | exact LeO.none _
   | refine LeO.ite ?_ ?_
   | refine LeO.bind ?_ (fun _ => ?_)
theorem nat_mul.mono : ∀ a0 a1 k, LeO (nat_mul.f k a0 a1) (nat_mul.f (k + 1) a0 a1) := by
 intro a0 a1 k
 obtain ⟨ih0, ih1⟩ := nat_mul.mono_l k
 unfold nat_mul.f
 repeat' first
   | (with_reducible exact ih0 _ _ _ _ _)
   | (with_reducible exact ih1 _ _ _ _ _ _ _ _ _ _ _)
   | (with_reducible exact nat_num_trim.mono _ _)
   | (with_reducible exact LeO.refl _)
   | (with_reducible exact LeO.none _)
   | (with_reducible refine LeO.ite ?_ ?_)
   | (with_reducible refine LeO.bind ?_ (fun _ => ?_))
   | exact ih0 _ _ _ _ _
   | exact ih1 _ _ _ _ _ _ _ _ _ _ _
   | exact nat_num_trim.mono _ _
   | exact LeO.none _
   | refine LeO.ite ?_ ?_
   | refine LeO.bind ?_ (fun _ => ?_)
set_option maxHeartbeats 8000000 in
set_option maxRecDepth 100000 in
theorem nat_mul.calls (k : Nat) (A0 : Option Addr) (c0 : Nat) (l0 : List Int) (A1 : Option Addr) (c1 : Nat) (l1 : List Int) (r : List Int) (w : World) (hr0 : Kd.C (Kd.int .u32) w A0 l0.length l0) (hc0 : l0.length ≤ c0) (hr1 : Kd.C (Kd.int .u32) w A1 l1.length l1) (hc1 : l1.length ≤ c1) (h : nat_mul.f k l0 l1 = some r) :
  Calls Tryd.prog 36 #[.slice A0 l0.length c0, .slice A1 l1.length c1] w fun e w' => ∃ v0_ : Value, e = .returned (v0_) ∧ Kd.V (Kd.int .u32) 55 w' w.heap.size (fun k_ => (w.heap.size ≤ k_)) v0_ r ∧ Below w.heap.size w w' := by
 have HR0 := Aside0.mk hr0
 have HC0 := Aside0.mk hc0
 clear hr0 hc0
 have HR1 := Aside0.mk hr1
 have HC1 := Aside0.mk hc1
 clear hr1 hc1
 have HB := Aside0.mk (Below.refl w.heap.size w)
 have H : (if 0 ≤ (wrap64 ((l0.length : Int) + (l1.length : Int))) then (if (wrap64 ((l0.length : Int) + (l1.length : Int)) : Int).toNat ≤ 70368744177664 then (nat_mul.l0 k l1 (List.replicate (wrap64 ((l0.length : Int) + (l1.length : Int)) : Int).toNat 0) l0 (l0.length : Int) 0) else (none)) else (none)) = some r := h
 clear h
 obtain ⟨ji3, hji3⟩ : ∃ j_ : Int, (wrap64 ((l0.length : Int) + (l1.length : Int))) = j_ := ⟨_, rfl⟩
 replace H : (if 0 ≤ (ji3) then (if (ji3 : Int).toNat ≤ 70368744177664 then (nat_mul.l0 k l1 (List.replicate (ji3 : Int).toNat 0) l0 (l0.length : Int) 0) else (none)) else (none)) = some r := by first | (rw [hji3] at H; exact H) | (simp only [hji3] at H ⊢; exact H)
 have hji3w : (IntKind.i64.wrap ((l0.length : Int) + (l1.length : Int))) = ji3 := (i64_w _).trans hji3
 by_cases c4 : 0 ≤ (ji3)
 ·rw [if_pos c4] at H
  have c4b0 := eq_true c4
  have c4b1 : decide (0 ≤ (ji3)) = true := decide_eq_true c4
  clear c4
  by_cases c5 : (ji3 : Int).toNat ≤ 70368744177664
  ·rw [if_pos c5] at H
   have c5b0 := eq_true c5
   have c5b1 : decide ((ji3 : Int).toNat ≤ 70368744177664) = true := decide_eq_true c5
   clear c5
   obtain ⟨y229, hy229⟩ : ∃ y_ : List Int, y_ = (List.replicate (ji3 : Int).toNat 0) := ⟨_, rfl⟩
   replace H : (nat_mul.l0 k l1 y229 l0 (l0.length : Int) 0) = some r := by first | (rw [hy229]; with_reducible exact H) | (have H2_ := (Option.bind_some _ _).symm.trans H; rw [hy229]; with_reducible exact H2_) | (have H2_ := (Option.bind_some _ _).symm.trans H; with_reducible exact H2_) | with_reducible exact H | (rw [hy229]; exact H) | exact H
   have Ny229 := Aside0.mk hy229
   clear hy229
   have H' := Aside0.mk H
   clear H
   go_enter Tryd.func36, Tryd.ntmps36
   go_wp2_with (first | ((with_reducible refine gate_dst (N := 16) rfl ?_); refine Kd.R_make (Kd.int .u32) _ 55 rfl (N := 16) rfl 47 _ _ rfl ji3 rfl rfl Tryd.underlying47 (.int .u32 0) 4 info55 rfl (by decide) (by omega) 0 (ok := fun _ => True) (okp := fun _ => True) rfl (fun _ hk => hk) trivial (of_decide_eq_true (by first | (with_reducible assumption) | assumption)) (Nat.le_trans (Nat.mul_le_mul_right _ (of_decide_eq_true (by first | (with_reducible assumption) | assumption) : ji3.toNat ≤ 70368744177664)) (by omega)) (Below.refl _ _) (Nat.le_refl _) ?_; intro v230 w6 ho7 hb hg_ hnew_; clear hg_ hnew_; (first | rw [← Ny229.out] at ho7 | (simp only [Int.reduceToNat] at ho7; rw [← Ny229.out] at ho7)); have n0_ := Aside0.mk (Kd.R_lower (Kd.R_newM (M := fun k_ => (w.heap.size ≤ k_)) ho7 (Bz HB) (fun k_ h_ => h_)) (Bz HB)); have n1_ := Bs HB hb; clear HB; revert n0_ n1_; intro HO231 HB; clear hb ho7))
   go_loopg [19] k (fun kq v19 w' => ∃ (x5_1 : List Int) (x19_1 : Int), v19 = .int .i64 x19_1 ∧ Aside0 (nat_mul.l0 kq l1 x5_1 l0 (l0.length : Int) x19_1 = some r) ∧ Aside0 (kq ≤ k) ∧ Aside0 (Kd.R (Kd.int .u32) 55 w' w.heap.size (fun k_ => (w.heap.size ≤ k_)) v230 x5_1) ∧ Aside0 (Below w.heap.size w w'))
   case atStart => exact ⟨(y229), (0), (by first | rfl | (simp; done) | (simp [*]; done)), H', ⟨Nat.le_refl _⟩, ⟨by (with_reducible repeat (first | apply Kd.R_alloc | apply Kd.R_drewN | apply Kd.R_drew)); exact Kd.R_mono HO231.out (fun _ hk => hk.1)⟩, ⟨Bu HB⟩⟩
   case round =>
    clear H'
    try clear c1
    try clear p2
    try clear c3
    try clear c4
    try clear c4b0
    try clear c4b1
    try clear c5
    try clear c5b0
    try clear c5b1
    try clear p6
    obtain ⟨x5_1, x19_1, rfl, HA, HK1, HO_5, HB⟩ := hrel
    cases gk with
    | zero => exact absurd HA.out (by simp [nat_mul.l0])
    | succ k1 =>
     have H := HA.out
     clear HA
     simp only [nat_mul.l0] at H
     by_cases c8 : x19_1 < (l0.length : Int)
     ·rw [if_pos c8] at H
      have c8b0 : decide (x19_1 < (l0.length : Int)) = true := decide_eq_true c8
      clear c8
      by_cases c9 : 0 ≤ x19_1
      ·rw [if_pos c9] at H
       have c9b0 : decide (0 ≤ x19_1) = true := decide_eq_true c9
       clear c9
       by_cases c10 : x19_1 < (l0.length : Int)
       ·rw [if_pos c10] at H
        have c10b0 : decide (x19_1 < (l0.length : Int)) = true := decide_eq_true c10
        clear c10
        have H' := Aside0.mk H
        clear H
        have p235 : 0 ≤ (x19_1 : Int) := of_decide_eq_true (by first | (with_reducible assumption) | assumption)
        have q235 : x19_1 < (l0.length : Int) := of_decide_eq_true (by first | (with_reducible assumption) | assumption)
        obtain ⟨ad235, e235, hx235_0⟩ := Kd.at_int HR0.out x19_1 p235 q235
        cases e235
        replace hx235_0 := (HB.out.cell (World.block_lt_of_cell? w _ hx235_0)).trans hx235_0
        replace p235 := eq_true p235
        replace q235 := eq_true q235
        go_wp2
        go_loopg [8, 26] k1 (fun kq v8 v26 w' => ∃ (x5_2 : List Int) (x8_2 : Int) (x26_2 : Int), v8 = .int .u64 x8_2 ∧ v26 = .int .i64 x26_2 ∧ Aside0 (nat_mul.l1 kq l1 x5_2 x19_1 (rd l0 x19_1) x8_2 l0 (l0.length : Int) x19_1 l1 (l1.length : Int) x26_2 = some r) ∧ Aside0 (kq ≤ k1) ∧ Aside0 (Kd.R (Kd.int .u32) 55 w' w.heap.size (fun k_ => (w.heap.size ≤ k_)) v230 x5_2) ∧ Aside0 (Below w.heap.size w w'))
        case atStart => exact ⟨(x5_1), (0), (0), (by first | rfl | (simp; done) | (simp [*]; done)), (by first | rfl | (simp; done) | (simp [*]; done)), H', ⟨Nat.le_refl _⟩, ⟨Ru HO_5⟩, ⟨Bu HB⟩⟩
        case round =>
         clear H'
         try clear c1
         try clear p2
         try clear q2
         try clear hx2
         try clear c3
         try clear c4
         try clear c4b0
         try clear c4b1
         try clear c5
         try clear c5b0
         try clear c5b1
         try clear p6
         try clear c8
         try clear c8b0
         try clear c9
         try clear c9b0
         try clear c10
         try clear c10b0
         try clear hx235_0
         try clear p2
         try clear p235
         try clear p6
         try clear q235
         obtain ⟨x5_2, x8_2, x26_2, rfl, rfl, HA, HK2, HO_5, HB⟩ := hrel
         cases gk with
         | zero => exact absurd HA.out (by simp [nat_mul.l1])
         | succ k2 =>
          have H := HA.out
          clear HA
          simp only [nat_mul.l1] at H
          by_cases c11 : x26_2 < (l1.length : Int)
          ·rw [if_pos c11] at H
           have c11b0 : decide (x26_2 < (l1.length : Int)) = true := decide_eq_true c11
           clear c11
           by_cases c12 : 0 ≤ x26_2
           ·rw [if_pos c12] at H
            have c12b0 : decide (0 ≤ x26_2) = true := decide_eq_true c12
            clear c12
            by_cases c13 : x26_2 < (l1.length : Int)
            ·rw [if_pos c13] at H
             have c13b0 : decide (x26_2 < (l1.length : Int)) = true := decide_eq_true c13
             clear c13
             obtain ⟨ji14, hji14⟩ : ∃ j_ : Int, (wrap64 (x19_1 + x26_2)) = j_ := ⟨_, rfl⟩
             replace H : (if 0 ≤ (ji14) then (if (ji14) < (x5_2.length : Int) then (nat_mul.l1 k2 l1 (x5_2.set ((ji14) : Int).toNat ((IntKind.u64.wrap (x8_2 + (IntKind.u64.wrap ((IntKind.u64.wrap (rd x5_2 (ji14))) + (IntKind.u64.wrap ((IntKind.u64.wrap ((rd l0 x19_1))) * (IntKind.u64.wrap (rd l1 x26_2)))))))) % 4294967296)) x19_1 (rd l0 x19_1) ((IntKind.u64.wrap (x8_2 + (IntKind.u64.wrap ((IntKind.u64.wrap (rd x5_2 (ji14))) + (IntKind.u64.wrap ((IntKind.u64.wrap ((rd l0 x19_1))) * (IntKind.u64.wrap (rd l1 x26_2)))))))) / 4294967296) l0 (l0.length : Int) x19_1 l1 (l1.length : Int) (wrap64 (x26_2 + 1))) else (none)) else (none)) = some r := by first | (rw [hji14] at H; exact H) | (simp only [hji14] at H ⊢; exact H)
             have hji14w : (IntKind.i64.wrap (x19_1 + x26_2)) = ji14 := (i64_w _).trans hji14
             by_cases c15 : 0 ≤ (ji14)
             ·rw [if_pos c15] at H
              have c15b0 : decide (0 ≤ (ji14)) = true := decide_eq_true c15
              clear c15
              by_cases c16 : (ji14) < (x5_2.length : Int)
              ·rw [if_pos c16] at H
               have c16b0 : decide ((ji14) < (x5_2.length : Int)) = true := decide_eq_true c16
               clear c16
               obtain ⟨y238, hy238⟩ : ∃ y_ : List Int, y_ = (x5_2.set ((ji14) : Int).toNat ((IntKind.u64.wrap (x8_2 + (IntKind.u64.wrap ((IntKind.u64.wrap (rd x5_2 (ji14))) + (IntKind.u64.wrap ((IntKind.u64.wrap ((rd l0 x19_1))) * (IntKind.u64.wrap (rd l1 x26_2)))))))) % 4294967296)) := ⟨_, rfl⟩
               replace H : (nat_mul.l1 k2 l1 y238 x19_1 (rd l0 x19_1) ((IntKind.u64.wrap (x8_2 + (IntKind.u64.wrap ((IntKind.u64.wrap (rd x5_2 (ji14))) + (IntKind.u64.wrap ((IntKind.u64.wrap ((rd l0 x19_1))) * (IntKind.u64.wrap (rd l1 x26_2)))))))) / 4294967296) l0 (l0.length : Int) x19_1 l1 (l1.length : Int) (wrap64 (x26_2 + 1))) = some r := by first | (rw [hy238]; with_reducible exact H) | (have H2_ := (Option.bind_some _ _).symm.trans H; rw [hy238]; with_reducible exact H2_) | (have H2_ := (Option.bind_some _ _).symm.trans H; with_reducible exact H2_) | with_reducible exact H | (rw [hy238]; exact H) | exact H
               have Ny238 := Aside0.mk hy238
               clear hy238
               have H' := Aside0.mk H
               clear H
               have p236 : 0 ≤ (x26_2 : Int) := of_decide_eq_true (by first | (with_reducible assumption) | assumption)
               have q236 : x26_2 < (l1.length : Int) := of_decide_eq_true (by first | (with_reducible assumption) | assumption)
               obtain ⟨ad236, e236, hx236_0⟩ := Kd.at_int HR1.out x26_2 p236 q236
               cases e236
               replace hx236_0 := (HB.out.cell (World.block_lt_of_cell? w _ hx236_0)).trans hx236_0
               replace p236 := eq_true p236
               replace q236 := eq_true q236
               obtain ⟨Ao18, co18, eo18⟩ := Kd.R_slice HO_5.out
               subst eo18
               have p237 : 0 ≤ ((ji14) : Int) := of_decide_eq_true (by first | (with_reducible assumption) | assumption)
               have q237 : (ji14) < (x5_2.length : Int) := of_decide_eq_true (by first | (with_reducible assumption) | assumption)
               obtain ⟨ad237, e237, hx237_0⟩ := Kd.at_int (Kd.R_reads' HO_5.out).2.2 (ji14) p237 q237
               cases e237
               replace p237 := eq_true p237
               replace q237 := eq_true q237
               have p17 : 0 ≤ ((ji14) : Int) := of_decide_eq_true (by first | (with_reducible assumption) | assumption)
               have q17 : ((ji14) : Int) < ((x5_2.length : Int) : Int) := of_decide_eq_true (by first | (with_reducible assumption) | assumption)
               obtain ⟨go17, co17, eo17, gb17, gl17, cl17, HG17⟩ := Kd.R_form HO_5.out (by omega)
               (first | cases eo17 | (injection eo17 with ea_ en_ ec_; (first | subst ea_ | (injection ea_ with ea_; subst ea_)); subst ec_; clear en_))
               have GB17 := Aside0.mk gb17
               have GG17 := Aside0.mk HG17
               clear gb17 gl17 HG17
               (first | simp only [add_plain] at hx237_0 | skip)
               obtain ⟨hx17_0, hf17_0⟩ := Kd.R_celln 0 HO_5.out ((ji14) : Int) p17 q17
               replace p17 := eq_true p17
               replace q17 := eq_true q17
               have HP19 := Kd.R_putg HO_5.out ((ji14) : Int) ((IntKind.u64.wrap (x8_2 + (IntKind.u64.wrap ((IntKind.u64.wrap (rd x5_2 (ji14))) + (IntKind.u64.wrap ((IntKind.u64.wrap ((rd l0 x19_1))) * (IntKind.u64.wrap (rd l1 x26_2)))))))) % 4294967296)
               go_wp2_with (first | ((with_reducible refine gate_store (t := 55) (p := 52) rfl ?_); refine store_event (t := 55) (p := 52) (v := ?vo_w20) (w1 := (wr.setCell ⟨go17, ((ji14) : Int).toNat, none⟩ (.int .u32 ((IntKind.u64.wrap (x8_2 + (IntKind.u64.wrap ((IntKind.u64.wrap (rd x5_2 (ji14))) + (IntKind.u64.wrap ((IntKind.u64.wrap ((rd l0 x19_1))) * (IntKind.u64.wrap (rd l1 x26_2)))))))) % 4294967296)))) ?hg ?ho ?hn ?hr ?_; (case ho => rfl); (case hg => rfl); (case hn => rfl); (case hr => first | (go_simp; done) | (go_simp; rfl)); intro w20 hw; have hg : wr.grownBy w20 (some go17) := (by rw [hw]; exact HP19.2); have hp_ : Kd.R (Kd.int .u32) 55 w20 w.heap.size (fun k_ => (w.heap.size ≤ k_)) (.slice (some ⟨go17, 0, none⟩) x5_2.length co18) y238 := (by rw [hw, Ny238.out]; exact HP19.1); clear HP19; have n0_ := Aside0.mk (hp_); have n1_ := Aside0.mk ((by rw [hw]; exact below_set (HB.out) GB17.out : Below w.heap.size w w20)); clear HO_5 HB; revert n0_ n1_; intro HO_5 HB; clear hg hw hp_))
               go_roundg k2
               case measure => have := HK1.out; have := HK2.out; omega
               case rel => exact ⟨(y238), ((IntKind.u64.wrap (x8_2 + (IntKind.u64.wrap ((IntKind.u64.wrap (rd x5_2 (ji14))) + (IntKind.u64.wrap ((IntKind.u64.wrap ((rd l0 x19_1))) * (IntKind.u64.wrap (rd l1 x26_2)))))))) / 4294967296), (wrap64 (x26_2 + 1)), (by first | rfl | (simp; done) | (simp only [← hji14] <;> (first | rfl | simp)) | (simp [*]; done)), (by first | rfl | (simp; done) | (simp [*]; done)), H', ⟨by have := HK1.out; have := HK2.out; omega⟩, ⟨Ru HO_5⟩, ⟨Bu HB⟩⟩
              ·rw [if_neg c16] at H
               exact absurd H (by simp)
             ·rw [if_neg c15] at H
              exact absurd H (by simp)
            ·rw [if_neg c13] at H
             exact absurd H (by simp)
           ·rw [if_neg c12] at H
            exact absurd H (by simp)
          ·rw [if_neg c11] at H
           have c11b0 : decide (x26_2 < (l1.length : Int)) = false := decide_eq_false c11
           clear c11
           obtain ⟨ji21, hji21⟩ : ∃ j_ : Int, (wrap64 (x19_1 + (l1.length : Int))) = j_ := ⟨_, rfl⟩
           replace H : (if 0 ≤ (ji21) then (if (ji21) < (x5_2.length : Int) then (nat_mul.l0 k2 l1 (x5_2.set ((ji21) : Int).toNat ((x8_2) % 4294967296)) l0 (l0.length : Int) (wrap64 (x19_1 + 1))) else (none)) else (none)) = some r := by first | (rw [hji21] at H; exact H) | (simp only [hji21] at H ⊢; exact H)
           have hji21w : (IntKind.i64.wrap (x19_1 + (l1.length : Int))) = ji21 := (i64_w _).trans hji21
           by_cases c22 : 0 ≤ (ji21)
           ·rw [if_pos c22] at H
            have c22b0 : decide (0 ≤ (ji21)) = true := decide_eq_true c22
            clear c22
            by_cases c23 : (ji21) < (x5_2.length : Int)
            ·rw [if_pos c23] at H
             have c23b0 : decide ((ji21) < (x5_2.length : Int)) = true := decide_eq_true c23
             clear c23
             obtain ⟨y239, hy239⟩ : ∃ y_ : List Int, y_ = (x5_2.set ((ji21) : Int).toNat ((x8_2) % 4294967296)) := ⟨_, rfl⟩
             replace H : (nat_mul.l0 k2 l1 y239 l0 (l0.length : Int) (wrap64 (x19_1 + 1))) = some r := by first | (rw [hy239]; with_reducible exact H) | (have H2_ := (Option.bind_some _ _).symm.trans H; rw [hy239]; with_reducible exact H2_) | (have H2_ := (Option.bind_some _ _).symm.trans H; with_reducible exact H2_) | with_reducible exact H | (rw [hy239]; exact H) | exact H
             have Ny239 := Aside0.mk hy239
             clear hy239
             have H' := Aside0.mk H
             clear H
             have p24 : 0 ≤ ((ji21) : Int) := of_decide_eq_true (by first | (with_reducible assumption) | assumption)
             have q24 : ((ji21) : Int) < ((x5_2.length : Int) : Int) := of_decide_eq_true (by first | (with_reducible assumption) | assumption)
             obtain ⟨go24, co24, eo24, gb24, gl24, cl24, HG24⟩ := Kd.R_form HO_5.out (by omega)
             (first | cases eo24 | (injection eo24 with ea_ en_ ec_; (first | subst ea_ | (injection ea_ with ea_; subst ea_)); subst ec_; clear en_))
             have GB24 := Aside0.mk gb24
             have GG24 := Aside0.mk HG24
             clear gb24 gl24 HG24
             obtain ⟨hx24_0, hf24_0⟩ := Kd.R_celln 0 HO_5.out ((ji21) : Int) p24 q24
             replace p24 := eq_true p24
             replace q24 := eq_true q24
             have HP25 := Kd.R_putg HO_5.out ((ji21) : Int) ((x8_2) % 4294967296)
             go_wp2_with (first | ((with_reducible refine gate_store (t := 55) (p := 63) rfl ?_); refine store_event (t := 55) (p := 63) (v := ?vo_w26) (w1 := (wr.setCell ⟨go24, ((ji21) : Int).toNat, none⟩ (.int .u32 ((x8_2) % 4294967296)))) ?hg ?ho ?hn ?hr ?_; (case ho => rfl); (case hg => rfl); (case hn => rfl); (case hr => first | (go_simp; done) | (go_simp; rfl)); intro w26 hw; have hg : wr.grownBy w26 (some go24) := (by rw [hw]; exact HP25.2); have hp_ : Kd.R (Kd.int .u32) 55 w26 w.heap.size (fun k_ => (w.heap.size ≤ k_)) (.slice (some ⟨go24, 0, none⟩) x5_2.length co24) y239 := (by rw [hw, Ny239.out]; exact HP25.1); clear HP25; have n0_ := Aside0.mk (hp_); have n1_ := Aside0.mk ((by rw [hw]; exact below_set (HB.out) GB24.out : Below w.heap.size w w26)); clear HO_5 HB; revert n0_ n1_; intro HO_5 HB; clear hg hw hp_))
             go_roundg k2
             case measure => have := HK1.out; have := HK2.out; omega
             case rel => exact ⟨(y239), (wrap64 (x19_1 + 1)), (by first | rfl | (simp; done) | (simp [*]; done)), H', ⟨by have := HK1.out; have := HK2.out; omega⟩, ⟨Ru HO_5⟩, ⟨Bu HB⟩⟩
            ·rw [if_neg c23] at H
             exact absurd H (by simp)
           ·rw [if_neg c22] at H
            exact absurd H (by simp)
       ·rw [if_neg c10] at H
        exact absurd H (by simp)
      ·rw [if_neg c9] at H
       exact absurd H (by simp)
     ·rw [if_neg c8] at H
      have c8b0 : decide (x19_1 < (l0.length : Int)) = false := decide_eq_false c8
      clear c8
      replace H := Option.bind_eq_some_iff.mp H
      obtain ⟨t232, A270, H⟩ := H
      replace H : (some t232) = some r := H
      have A27 := Aside0.mk A270
      clear A270
      obtain rfl := Option.some.inj H
      obtain ⟨Ao28, co28, eo28⟩ := Kd.R_slice HO_5.out
      subst eo28
      go_wp2_with (first | ((with_reducible refine gate_callee (f := 44) rfl ?_); refine goesA (some 66) Tryd.func44 #[.slice Ao28 x5_1.length co28] rfl ?_; (with_reducible refine (nat_num_trim.calls k1 (fun k_ => some k_ = (.slice Ao28 x5_1.length co28 : Value).ownBlock) _ _ x5_1 t232 _ ?side1 A27.out).mono ?_); (case side1 => exact Kd.R_V (Kd.R_tight rfl (HO_5.out))); rintro e w29 ⟨v233, rfl, ho0, hb⟩; refine ⟨_, rfl, ?_⟩; have n0_ := Rb HO_5 hb; have n1_ := Aside0.mk (Kd.V_lower (Kd.V_mono (ok' := fun k_ => (w.heap.size ≤ k_)) ho0 (fun k_ hk_ => Or.elim hk_ (fun hs_ => ((HO_5.out).1 k_ hs_.symm)) (fun hn_ => (Nat.le_trans (Bz HB) hn_)))) (Bz HB)); have n2_ := Bs HB hb; clear HO_5 HB; revert n0_ n1_ n2_; intro HO_5 HO234 HB; (try clear hb); (try clear hb2); (try clear hk); (try clear hi); (try clear ho0)))
      go_ret
      exact ⟨_, by first | rfl | (simp [errW_none, errW_some] <;> rfl) | (simp only [← hji3]; first | rfl | (simp [errW_none, errW_some] <;> rfl)) | (simp [*, errW_none, errW_some] <;> rfl), Vu HO234, Bu HB⟩
  ·rw [if_neg c5] at H
   exact absurd H (by simp)
 ·rw [if_neg c4] at H
  exact absurd H (by simp)

/-! ### nat_Exp: function 16 -/
mutual
def nat_Exp.l0 : Nat → List Int → List Int → List Int → List Int → Int → Int → Option (List Int × Int)
 | 0, _, _, _, _, _, _ => none
 | k + 1, x8, x10, x12, x41, x42, x43 => if x43 < x42 then (if 0 ≤ x43 then (if x43 < (x41.length : Int) then (nat_Exp.l1 k x8 x10 x12 (rd x41 x43) 7 x41 x42 x43) else (none)) else (none)) else ((nat_num_bytes.f k x12).bind fun t265 => (some (t265, 0)))
def nat_Exp.l1 : Nat → List Int → List Int → List Int → Int → Int → List Int → Int → Int → Option (List Int × Int)
 | 0, _, _, _, _, _, _, _, _ => none
 | k + 1, x8, x10, x12, x14, x15, x41, x42, x43 => if x15 ≥ 0 then ((nat_mul.f k x12 x12).bind fun t269 => ((nat_div.f k t269 x8).bind fun bt272 => (if 0 ≤ x15 then (if (Go.bits .and .u8 (shr .u8 x14 x15) 1) = 1 then ((nat_mul.f k bt272.2 x10).bind fun t278 => ((nat_div.f k t278 x8).bind fun bt281 => (nat_Exp.l1 k x8 x10 bt281.2 x14 (wrap64 (x15 - 1)) x41 x42 x43))) else (nat_Exp.l1 k x8 x10 bt272.2 x14 (wrap64 (x15 - 1)) x41 x42 x43)) else (none)))) else (nat_Exp.l0 k x8 x10 x12 x41 x42 (wrap64 (x43 + 1)))
end
def nat_Exp.f (k : Nat) (l0 : List Int) (l1 : List Int) (l2 : List Int) : Option (List Int × Int) := (nat_of.f k l2).bind fun t240 => ((nat_long.f (([l0, l1, l2] : List (List Int)))).bind fun t246 => (if t246 = true then (some (([] : List Int), 12)) else (if (t240.length : Int) = 0 then (some (([] : List Int), 2)) else ((nat_of.f k l0).bind fun t247 => ((nat_div.f k t247 t240).bind fun bt250 => ((nat_div.f k (([1] : List Int)) t240).bind fun bt259 => (nat_Exp.l0 k t240 bt250.2 bt259.2 l1 (l1.length : Int) 0)))))))
theorem nat_Exp.mono_l : ∀ k, (∀ y0 y1 y2 y3 y4 y5, LeO (nat_Exp.l0 k y0 y1 y2 y3 y4 y5) (nat_Exp.l0 (k + 1) y0 y1 y2 y3 y4 y5)) ∧ (∀ y0 y1 y2 y3 y4 y5 y6 y7, LeO (nat_Exp.l1 k y0 y1 y2 y3 y4 y5 y6 y7) (nat_Exp.l1 (k + 1) y0 y1 y2 y3 y4 y5 y6 y7))
 | 0 => ⟨fun _ _ _ _ _ _ r h => by simp [nat_Exp.l0] at h, fun _ _ _ _ _ _ _ _ r h => by simp [nat_Exp.l1] at h⟩
 | k + 1 => by
  obtain ⟨ih0, ih1⟩ := nat_Exp.mono_l k
  refine ⟨?_, ?_⟩
  ·intro y0 y1 y2 y3 y4 y5
   unfold nat_Exp.l0
   repeat' first
   | (with_reducible exact ih0 _ _ _ _ _ _)
   | (with_reducible exact ih1 _ _ _ _ _ _ _ _)
   | (with_reducible exact nat_div.mono _ _ _)
   | (with_reducible exact nat_mul.mono _ _ _)
   | (with_reducible exact nat_num_bytes.mono _ _)
   | (with_reducible exact nat_of.mono _ _)
   | (with_reducible exact LeO.refl _)
   | (with_reducible exact LeO.none _)
   | (with_reducible refine LeO.ite ?_ ?_)
   | (with_reducible refine LeO.bind ?_ (fun _ => ?_))
   | exact ih0 _ _ _ _ _ _
   | exact ih1 _ _ _ _ _ _ _ _
   | exact nat_div.mono _ _ _
   | exact nat_mul.mono _ _ _
   | exact nat_num_bytes.mono _ _
   | exact nat_of.mono _ _
   | exact LeO.none _
   | refine LeO.ite ?_ ?_
   | refine LeO.bind ?_ (fun _ => ?_)
  ·intro y0 y1 y2 y3 y4 y5 y6 y7
   unfold nat_Exp.l1
   repeat' first
   | (with_reducible exact ih0 _ _ _ _ _ _)
   | (with_reducible exact ih1 _ _ _ _ _ _ _ _)
   | (with_reducible exact nat_div.mono _ _ _)
   | (with_reducible exact nat_mul.mono _ _ _)
   | (with_reducible exact nat_num_bytes.mono _ _)
   | (with_reducible exact nat_of.mono _ _)
   | (with_reducible exact LeO.refl _)
   | (with_reducible exact LeO.none _)
   | (with_reducible refine LeO.ite ?_ ?_)
   | (with_reducible refine LeO.bind ?_ (fun _ => ?_))
   | exact ih0 _ _ _ _ _ _
   | exact ih1 _ _ _ _ _ _ _ _
   | exact nat_div.mono _ _ _
   | exact nat_mul.mono _ _ _
   | exact nat_num_bytes.mono _ _
   | exact nat_of.mono _ _
   | exact LeO.none _
   | refine LeO.ite ?_ ?_
   | refine LeO.bind ?_ (fun _ => ?_)
theorem nat_Exp.mono : ∀ a0 a1 a2 k, LeO (nat_Exp.f k a0 a1 a2) (nat_Exp.f (k + 1) a0 a1 a2) := by
 intro a0 a1 a2 k
 obtain ⟨ih0, ih1⟩ := nat_Exp.mono_l k
 unfold nat_Exp.f
 repeat' first
   | (with_reducible exact ih0 _ _ _ _ _ _)
   | (with_reducible exact ih1 _ _ _ _ _ _ _ _)
   | (with_reducible exact nat_div.mono _ _ _)
   | (with_reducible exact nat_mul.mono _ _ _)
   | (with_reducible exact nat_num_bytes.mono _ _)
   | (with_reducible exact nat_of.mono _ _)
   | (with_reducible exact LeO.refl _)
   | (with_reducible exact LeO.none _)
   | (with_reducible refine LeO.ite ?_ ?_)
   | (with_reducible refine LeO.bind ?_ (fun _ => ?_))
   | exact ih0 _ _ _ _ _ _
   | exact ih1 _ _ _ _ _ _ _ _
   | exact nat_div.mono _ _ _
   | exact nat_mul.mono _ _ _
   | exact nat_num_bytes.mono _ _
   | exact nat_of.mono _ _
   | exact LeO.none _
   | refine LeO.ite ?_ ?_
   | refine LeO.bind ?_ (fun _ => ?_)
set_option maxHeartbeats 8000000 in
set_option maxRecDepth 100000 in
theorem nat_Exp.callsV (k : Nat) (P0_ : Nat → Prop) (A0 : Option Addr) (c0 : Nat) (l0 : List Int) (P1_ : Nat → Prop) (A1 : Option Addr) (c1 : Nat) (l1 : List Int) (P2_ : Nat → Prop) (A2 : Option Addr) (c2 : Nat) (l2 : List Int) (r1 : List Int) (r2 : Int) (w : World) (hs0 : Kd.V (Kd.int .u8) 5 w w.heap.size (fun k_ => P0_ k_) (.slice A0 l0.length c0) l0) (hs1 : Kd.V (Kd.int .u8) 5 w w.heap.size (fun k_ => P1_ k_) (.slice A1 l1.length c1) l1) (hs2 : Kd.V (Kd.int .u8) 5 w w.heap.size (fun k_ => P2_ k_) (.slice A2 l2.length c2) l2) (h : nat_Exp.f k l0 l1 l2 = some (r1, r2)) :
  Calls Tryd.prog 16 #[.slice A0 l0.length c0, .slice A1 l1.length c1, .slice A2 l2.length c2] w fun e w' => ∃ v0_ : Value, e = .returned (.tuple #[v0_, .int .i64 r2]) ∧ Kd.R (Kd.int .u8) 5 w' w.heap.size (fun k_ => (w.heap.size ≤ k_)) v0_ r1 ∧ Below w.heap.size w w' := by
 have HO0 := Aside0.mk (show Kd.V (Kd.int .u8) 5 w w.heap.size (fun k_ => ((P0_ k_ ∨ P1_ k_ ∨ P2_ k_) ∨ w.heap.size ≤ k_)) (.slice A0 l0.length c0) l0 from Kd.V_mono hs0 (fun k_ hk => .inl (.inl hk)))
 have HO1 := Aside0.mk (show Kd.V (Kd.int .u8) 5 w w.heap.size (fun k_ => ((P0_ k_ ∨ P1_ k_ ∨ P2_ k_) ∨ w.heap.size ≤ k_)) (.slice A1 l1.length c1) l1 from Kd.V_mono hs1 (fun k_ hk => .inl (.inr (.inl hk))))
 have HO2 := Aside0.mk (show Kd.V (Kd.int .u8) 5 w w.heap.size (fun k_ => ((P0_ k_ ∨ P1_ k_ ∨ P2_ k_) ∨ w.heap.size ≤ k_)) (.slice A2 l2.length c2) l2 from Kd.V_mono hs2 (fun k_ hk => .inl (.inr (.inr hk))))
 have HB := Aside0.mk (Below.refl w.heap.size w)
 have H : ((nat_of.f k l2).bind fun t240 => ((nat_long.f (([l0, l1, l2] : List (List Int)))).bind fun t246 => (if t246 = true then (some (([] : List Int), 12)) else (if (t240.length : Int) = 0 then (some (([] : List Int), 2)) else ((nat_of.f k l0).bind fun t247 => ((nat_div.f k t247 t240).bind fun bt250 => ((nat_div.f k (([1] : List Int)) t240).bind fun bt259 => (nat_Exp.l0 k t240 bt250.2 bt259.2 l1 (l1.length : Int) 0)))))))) = some (r1, r2) := h
 clear h
 replace H := Option.bind_eq_some_iff.mp H
 obtain ⟨t240, A40, H⟩ := H
 replace H : ((nat_long.f (([l0, l1, l2] : List (List Int)))).bind fun t246 => (if t246 = true then (some (([] : List Int), 12)) else (if (t240.length : Int) = 0 then (some (([] : List Int), 2)) else ((nat_of.f k l0).bind fun t247 => ((nat_div.f k t247 t240).bind fun bt250 => ((nat_div.f k (([1] : List Int)) t240).bind fun bt259 => (nat_Exp.l0 k t240 bt250.2 bt259.2 l1 (l1.length : Int) 0))))))) = some (r1, r2) := H
 have A4 := Aside0.mk A40
 clear A40
 obtain ⟨y243, hy243⟩ : ∃ y_ : List (List Int), y_ = (([l0, l1, l2] : List (List Int))) := ⟨_, rfl⟩
 replace H : ((nat_long.f y243).bind fun t246 => (if t246 = true then (some (([] : List Int), 12)) else (if (t240.length : Int) = 0 then (some (([] : List Int), 2)) else ((nat_of.f k l0).bind fun t247 => ((nat_div.f k t247 t240).bind fun bt250 => ((nat_div.f k (([1] : List Int)) t240).bind fun bt259 => (nat_Exp.l0 k t240 bt250.2 bt259.2 l1 (l1.length : Int) 0))))))) = some (r1, r2) := by first | (rw [hy243]; with_reducible exact H) | (have H2_ := (Option.bind_some _ _).symm.trans H; rw [hy243]; with_reducible exact H2_) | (have H2_ := (Option.bind_some _ _).symm.trans H; with_reducible exact H2_) | with_reducible exact H | (rw [hy243]; exact H) | exact H
 have Ny243 := Aside0.mk hy243
 clear hy243
 replace H := Option.bind_eq_some_iff.mp H
 obtain ⟨t246, A50, H⟩ := H
 replace H : (if t246 = true then (some (([] : List Int), 12)) else (if (t240.length : Int) = 0 then (some (([] : List Int), 2)) else ((nat_of.f k l0).bind fun t247 => ((nat_div.f k t247 t240).bind fun bt250 => ((nat_div.f k (([1] : List Int)) t240).bind fun bt259 => (nat_Exp.l0 k t240 bt250.2 bt259.2 l1 (l1.length : Int) 0)))))) = some (r1, r2) := H
 have A5 := Aside0.mk A50
 clear A50
 by_cases c6 : t246 = true
 ·subst c6
  have H1 : (some (([] : List Int), 12)) = some (r1, r2) := by rw [if_pos rfl] at H; exact H
  clear H
  have H := H1
  clear H1
  simp only [Option.some.injEq, Prod.mk.injEq] at H
  obtain ⟨rfl, rfl⟩ := H
  go_enter Tryd.func16, Tryd.ntmps16
  go_wp2_with (first | ((with_reducible refine gate_callee (f := 31) rfl ?_); refine goesA (some 17) Tryd.func31 #[.slice A2 l2.length c2] rfl ?_; (with_reducible refine (nat_of.calls k _ _ l2 t240 _ ?side1 ?side2 A4.out).mono ?_); (case side1 => exact Cu (Kd.V_reads' HO2.out).2.2); (case side2 => exact (Kd.V_reads' HO2.out).2.1); rintro e w7 ⟨v241, rfl, ho0, hb⟩; refine ⟨_, rfl, ?_⟩; have n0_ := Vb HO0 hb; have n1_ := Vb HO1 hb; have n2_ := Vb HO2 hb; have n3_ := Aside0.mk (Kd.V_lower (Kd.V_mono (ok' := fun k_ => ((P0_ k_ ∨ P1_ k_ ∨ P2_ k_) ∨ w.heap.size ≤ k_)) ho0 (fun k_ hk_ => (.inr (Nat.le_trans (Bz HB) hk_)))) (Bz HB)); have n4_ := Bs HB hb; clear HO0 HO1 HO2 HB; revert n0_ n1_ n2_ n3_ n4_; intro HO0 HO1 HO2 HO242 HB; (try clear hb); (try clear hb2); (try clear hk); (try clear hi); (try clear ho0)) | ((with_reducible refine gate_dst (N := 22) rfl ?_); refine Kd.N_lit (Kd.slice 5 (Kd.int .u8)) _ 22 ?hg (N' := 22) ?hd (xs := ([l0, l1, l2] : List (List Int))) (inner := [.slice A0 l0.length c0, .slice A1 l1.length c1, .slice A2 l2.length c2]) (ok := (fun k_ => ((P0_ k_ ∨ P1_ k_ ∨ P2_ k_) ∨ w.heap.size ≤ k_))) (okp := (fun k_ => ((P0_ k_ ∨ P1_ k_ ∨ P2_ k_) ∨ w.heap.size ≤ k_))) ?hr ?hp (fun _ hk => hk) ((show ∀ k_, w7.heap.size ≤ k_ → (fun k_ => ((P0_ k_ ∨ P1_ k_ ∨ P2_ k_) ∨ w.heap.size ≤ k_)) k_ from fun k_ hk => (.inr (Nat.le_trans (Bz HB) hk))) _ (Nat.le_refl _)) (Below.refl _ _) (Nat.le_refl _) (by simp) ?_; (case hd => rfl); (case hg => rfl); (case hr => first | (go_simp; done) | (go_simp; rfl)); (case hp => exact (Reps.one (show Kd.FK (Kd.slice 5 (Kd.int .u8)) _ _ l0 [.slice A0 l0.length c0] from (Kd.FK_slice_mk (Kd.V_reads' (Kd.V_mono (ok' := (fun k_ => ((P0_ k_ ∨ P1_ k_ ∨ P2_ k_) ∨ w.heap.size ≤ k_))) (HO0.out) (fun k_ hk => hk))).2.1 (Kd.V_F (Kd.V_mono (ok' := (fun k_ => ((P0_ k_ ∨ P1_ k_ ∨ P2_ k_) ∨ w.heap.size ≤ k_))) (HO0.out) (fun k_ hk => hk))))) (Reps.one (show Kd.FK (Kd.slice 5 (Kd.int .u8)) _ _ l1 [.slice A1 l1.length c1] from (Kd.FK_slice_mk (Kd.V_reads' (Kd.V_mono (ok' := (fun k_ => ((P0_ k_ ∨ P1_ k_ ∨ P2_ k_) ∨ w.heap.size ≤ k_))) (HO1.out) (fun k_ hk => hk))).2.1 (Kd.V_F (Kd.V_mono (ok' := (fun k_ => ((P0_ k_ ∨ P1_ k_ ∨ P2_ k_) ∨ w.heap.size ≤ k_))) (HO1.out) (fun k_ hk => hk))))) (Reps.one (show Kd.FK (Kd.slice 5 (Kd.int .u8)) _ _ l2 [.slice A2 l2.length c2] from (Kd.FK_slice_mk (Kd.V_reads' (Kd.V_mono (ok' := (fun k_ => ((P0_ k_ ∨ P1_ k_ ∨ P2_ k_) ∨ w.heap.size ≤ k_))) (HO2.out) (fun k_ hk => hk))).2.1 (Kd.V_F (Kd.V_mono (ok' := (fun k_ => ((P0_ k_ ∨ P1_ k_ ∨ P2_ k_) ∨ w.heap.size ≤ k_))) (HO2.out) (fun k_ hk => hk))))) (Reps.none _ _))))); intro v244 w8 ho9 hb hg_ hnew_; clear hg_ hnew_; (first | rw [← Ny243.out] at ho9 | (simp only [Int.reduceToNat] at ho9; rw [← Ny243.out] at ho9)); have n0_ := Aside0.mk (Kd.V_elder' (Vu HO0) (Kd.N_base (by first | exact ho9 | exact Kd.S_N ho9)) hb); have n1_ := Aside0.mk (Kd.V_elder' (Vu HO1) (Kd.N_base (by first | exact ho9 | exact Kd.S_N ho9)) hb); have n2_ := Aside0.mk (Kd.V_elder' (Vu HO2) (Kd.N_base (by first | exact ho9 | exact Kd.S_N ho9)) hb); have n3_ := Aside0.mk (Kd.V_elder' (Vu HO242) (Kd.N_base (by first | exact ho9 | exact Kd.S_N ho9)) hb); have n4_ := Aside0.mk (Kd.N_lower ho9 (Bz HB)); have n5_ := Bs HB hb; clear HO0 HO1 HO2 HO242 HB; revert n0_ n1_ n2_ n3_ n4_ n5_; intro HO0 HO1 HO2 HO242 HO245 HB; clear hb ho9; obtain ⟨Ao10, co10, eo10⟩ := Kd.N_slice HO245.out; subst eo10) | ((with_reducible refine gate_callee (f := 32) rfl ?_); refine goesA (some 23) Tryd.func32 #[.slice Ao10 y243.length co10] rfl ?_; (with_reducible refine (nat_long.calls _ _ y243 true _ ?side1 ?side2 A5.out).mono ?_); (case side1 => exact Cu (Kd.N_reads' HO245.out).2.2); (case side2 => exact (Kd.N_reads' HO245.out).2.1); rintro e w' ⟨rfl, ⟨nd, rfl⟩⟩; refine ⟨_, rfl, ?_⟩))
  go_ret2
  exact ⟨_, rfl_, by first | exact Kd.R_nil _ _ _ _ _ | exact Kd.N_nil _ _ _ _ _ | exact Kd.V_nil _ _ _ _ _ | exact Kd.Q_nil _ _ _ _ _ | exact Kd.S_nil _ _ _ _ _, Bu HB⟩
 ·replace c6 := Bool.eq_false_iff.mpr c6
  subst c6
  have H1 : (if (t240.length : Int) = 0 then (some (([] : List Int), 2)) else ((nat_of.f k l0).bind fun t247 => ((nat_div.f k t247 t240).bind fun bt250 => ((nat_div.f k (([1] : List Int)) t240).bind fun bt259 => (nat_Exp.l0 k t240 bt250.2 bt259.2 l1 (l1.length : Int) 0))))) = some (r1, r2) := by rw [if_neg (show ¬ (false = true) by decide)] at H; exact H
  clear H
  have H := H1
  clear H1
  by_cases c11 : (t240.length : Int) = 0
  ·rw [if_pos c11] at H
   have c11b0 : ((t240.length : Int) == 0) = true := beq_iff_eq.mpr c11
   have c11b1 : ((t240.length : Int) != 0) = false := bne_eq_false_iff_eq.mpr c11
   clear c11
   simp only [Option.some.injEq, Prod.mk.injEq] at H
   obtain ⟨rfl, rfl⟩ := H
   go_enter Tryd.func16, Tryd.ntmps16
   go_wp2_with (first | ((with_reducible refine gate_callee (f := 31) rfl ?_); refine goesA (some 17) Tryd.func31 #[.slice A2 l2.length c2] rfl ?_; (with_reducible refine (nat_of.calls k _ _ l2 t240 _ ?side1 ?side2 A4.out).mono ?_); (case side1 => exact Cu (Kd.V_reads' HO2.out).2.2); (case side2 => exact (Kd.V_reads' HO2.out).2.1); rintro e w12 ⟨v241, rfl, ho0, hb⟩; refine ⟨_, rfl, ?_⟩; have n0_ := Vb HO0 hb; have n1_ := Vb HO1 hb; have n2_ := Vb HO2 hb; have n3_ := Aside0.mk (Kd.V_lower (Kd.V_mono (ok' := fun k_ => ((P0_ k_ ∨ P1_ k_ ∨ P2_ k_) ∨ w.heap.size ≤ k_)) ho0 (fun k_ hk_ => (.inr (Nat.le_trans (Bz HB) hk_)))) (Bz HB)); have n4_ := Bs HB hb; clear HO0 HO1 HO2 HB; revert n0_ n1_ n2_ n3_ n4_; intro HO0 HO1 HO2 HO242 HB; (try clear hb); (try clear hb2); (try clear hk); (try clear hi); (try clear ho0)) | ((with_reducible refine gate_dst (N := 22) rfl ?_); refine Kd.N_lit (Kd.slice 5 (Kd.int .u8)) _ 22 ?hg (N' := 22) ?hd (xs := ([l0, l1, l2] : List (List Int))) (inner := [.slice A0 l0.length c0, .slice A1 l1.length c1, .slice A2 l2.length c2]) (ok := (fun k_ => ((P0_ k_ ∨ P1_ k_ ∨ P2_ k_) ∨ w.heap.size ≤ k_))) (okp := (fun k_ => ((P0_ k_ ∨ P1_ k_ ∨ P2_ k_) ∨ w.heap.size ≤ k_))) ?hr ?hp (fun _ hk => hk) ((show ∀ k_, w12.heap.size ≤ k_ → (fun k_ => ((P0_ k_ ∨ P1_ k_ ∨ P2_ k_) ∨ w.heap.size ≤ k_)) k_ from fun k_ hk => (.inr (Nat.le_trans (Bz HB) hk))) _ (Nat.le_refl _)) (Below.refl _ _) (Nat.le_refl _) (by simp) ?_; (case hd => rfl); (case hg => rfl); (case hr => first | (go_simp; done) | (go_simp; rfl)); (case hp => exact (Reps.one (show Kd.FK (Kd.slice 5 (Kd.int .u8)) _ _ l0 [.slice A0 l0.length c0] from (Kd.FK_slice_mk (Kd.V_reads' (Kd.V_mono (ok' := (fun k_ => ((P0_ k_ ∨ P1_ k_ ∨ P2_ k_) ∨ w.heap.size ≤ k_))) (HO0.out) (fun k_ hk => hk))).2.1 (Kd.V_F (Kd.V_mono (ok' := (fun k_ => ((P0_ k_ ∨ P1_ k_ ∨ P2_ k_) ∨ w.heap.size ≤ k_))) (HO0.out) (fun k_ hk => hk))))) (Reps.one (show Kd.FK (Kd.slice 5 (Kd.int .u8)) _ _ l1 [.slice A1 l1.length c1] from (Kd.FK_slice_mk (Kd.V_reads' (Kd.V_mono (ok' := (fun k_ => ((P0_ k_ ∨ P1_ k_ ∨ P2_ k_) ∨ w.heap.size ≤ k_))) (HO1.out) (fun k_ hk => hk))).2.1 (Kd.V_F (Kd.V_mono (ok' := (fun k_ => ((P0_ k_ ∨ P1_ k_ ∨ P2_ k_) ∨ w.heap.size ≤ k_))) (HO1.out) (fun k_ hk => hk))))) (Reps.one (show Kd.FK (Kd.slice 5 (Kd.int .u8)) _ _ l2 [.slice A2 l2.length c2] from (Kd.FK_slice_mk (Kd.V_reads' (Kd.V_mono (ok' := (fun k_ => ((P0_ k_ ∨ P1_ k_ ∨ P2_ k_) ∨ w.heap.size ≤ k_))) (HO2.out) (fun k_ hk => hk))).2.1 (Kd.V_F (Kd.V_mono (ok' := (fun k_ => ((P0_ k_ ∨ P1_ k_ ∨ P2_ k_) ∨ w.heap.size ≤ k_))) (HO2.out) (fun k_ hk => hk))))) (Reps.none _ _))))); intro v244 w13 ho14 hb hg_ hnew_; clear hg_ hnew_; (first | rw [← Ny243.out] at ho14 | (simp only [Int.reduceToNat] at ho14; rw [← Ny243.out] at ho14)); have n0_ := Aside0.mk (Kd.V_elder' (Vu HO0) (Kd.N_base (by first | exact ho14 | exact Kd.S_N ho14)) hb); have n1_ := Aside0.mk (Kd.V_elder' (Vu HO1) (Kd.N_base (by first | exact ho14 | exact Kd.S_N ho14)) hb); have n2_ := Aside0.mk (Kd.V_elder' (Vu HO2) (Kd.N_base (by first | exact ho14 | exact Kd.S_N ho14)) hb); have n3_ := Aside0.mk (Kd.V_elder' (Vu HO242) (Kd.N_base (by first | exact ho14 | exact Kd.S_N ho14)) hb); have n4_ := Aside0.mk (Kd.N_lower ho14 (Bz HB)); have n5_ := Bs HB hb; clear HO0 HO1 HO2 HO242 HB; revert n0_ n1_ n2_ n3_ n4_ n5_; intro HO0 HO1 HO2 HO242 HO245 HB; clear hb ho14; obtain ⟨Ao15, co15, eo15⟩ := Kd.N_slice HO245.out; subst eo15) | ((with_reducible refine gate_callee (f := 32) rfl ?_); refine goesA (some 23) Tryd.func32 #[.slice Ao15 y243.length co15] rfl ?_; (with_reducible refine (nat_long.calls _ _ y243 false _ ?side1 ?side2 A5.out).mono ?_); (case side1 => exact Cu (Kd.N_reads' HO245.out).2.2); (case side2 => exact (Kd.N_reads' HO245.out).2.1); rintro e w' ⟨rfl, ⟨nd, rfl⟩⟩; refine ⟨_, rfl, ?_⟩; obtain ⟨Ao16, co16, eo16⟩ := Kd.V_slice HO242.out; subst eo16))
   go_ret2
   exact ⟨_, rfl_, by first | exact Kd.R_nil _ _ _ _ _ | exact Kd.N_nil _ _ _ _ _ | exact Kd.V_nil _ _ _ _ _ | exact Kd.Q_nil _ _ _ _ _ | exact Kd.S_nil _ _ _ _ _, Bu HB⟩
  ·rw [if_neg c11] at H
   have c11b0 : ((t240.length : Int) == 0) = false := beq_eq_false_iff_ne.mpr c11
   have c11b1 : ((t240.length : Int) != 0) = true := bne_iff_ne.mpr c11
   have c11b2 : ¬ (t240 = []) := fun h_ => c11 (by rw [h_]; rfl)
   replace H := Option.bind_eq_some_iff.mp H
   obtain ⟨t247, A170, H⟩ := H
   replace H : ((nat_div.f k t247 t240).bind fun bt250 => ((nat_div.f k (([1] : List Int)) t240).bind fun bt259 => (nat_Exp.l0 k t240 bt250.2 bt259.2 l1 (l1.length : Int) 0))) = some (r1, r2) := H
   have A17 := Aside0.mk A170
   clear A170
   replace H := Option.bind_eq_some_iff.mp H
   obtain ⟨⟨t250, t253⟩, A180, H⟩ := H
   replace H : ((nat_div.f k (([1] : List Int)) t240).bind fun bt259 => (nat_Exp.l0 k t240 t253 bt259.2 l1 (l1.length : Int) 0)) = some (r1, r2) := H
   have A18 := Aside0.mk A180
   clear A180
   obtain ⟨y256, hy256⟩ : ∃ y_ : List Int, y_ = (([1] : List Int)) := ⟨_, rfl⟩
   replace H : ((nat_div.f k y256 t240).bind fun bt259 => (nat_Exp.l0 k t240 t253 bt259.2 l1 (l1.length : Int) 0)) = some (r1, r2) := by first | (rw [hy256]; with_reducible exact H) | (have H2_ := (Option.bind_some _ _).symm.trans H; rw [hy256]; with_reducible exact H2_) | (have H2_ := (Option.bind_some _ _).symm.trans H; with_reducible exact H2_) | with_reducible exact H | (rw [hy256]; exact H) | exact H
   have Ny256 := Aside0.mk hy256
   clear hy256
   replace H := Option.bind_eq_some_iff.mp H
   obtain ⟨⟨t259, t262⟩, A190, H⟩ := H
   replace H : (nat_Exp.l0 k t240 t253 t262 l1 (l1.length : Int) 0) = some (r1, r2) := H
   have A19 := Aside0.mk A190
   clear A190
   have H' := Aside0.mk H
   clear H
   go_enter Tryd.func16, Tryd.ntmps16
   go_wp2_with (first | ((with_reducible refine gate_callee (f := 31) rfl ?_); refine goesA (some 17) Tryd.func31 #[.slice A2 l2.length c2] rfl ?_; (with_reducible refine (nat_of.calls k _ _ l2 t240 _ ?side1 ?side2 A4.out).mono ?_); (case side1 => exact Cu (Kd.V_reads' HO2.out).2.2); (case side2 => exact (Kd.V_reads' HO2.out).2.1); rintro e w20 ⟨v241, rfl, ho0, hb⟩; refine ⟨_, rfl, ?_⟩; have n0_ := Vb HO0 hb; have n1_ := Vb HO1 hb; have n2_ := Vb HO2 hb; have n3_ := Aside0.mk (Kd.V_lower (Kd.V_mono (ok' := fun k_ => ((P0_ k_ ∨ P1_ k_ ∨ P2_ k_) ∨ w.heap.size ≤ k_)) ho0 (fun k_ hk_ => (.inr (Nat.le_trans (Bz HB) hk_)))) (Bz HB)); have n4_ := Bs HB hb; clear HO0 HO1 HO2 HB; revert n0_ n1_ n2_ n3_ n4_; intro HO0 HO1 HO2 HO242 HB; (try clear hb); (try clear hb2); (try clear hk); (try clear hi); (try clear ho0)) | ((with_reducible refine gate_dst (N := 22) rfl ?_); refine Kd.N_lit (Kd.slice 5 (Kd.int .u8)) _ 22 ?hg (N' := 22) ?hd (xs := ([l0, l1, l2] : List (List Int))) (inner := [.slice A0 l0.length c0, .slice A1 l1.length c1, .slice A2 l2.length c2]) (ok := (fun k_ => ((P0_ k_ ∨ P1_ k_ ∨ P2_ k_) ∨ w.heap.size ≤ k_))) (okp := (fun k_ => ((P0_ k_ ∨ P1_ k_ ∨ P2_ k_) ∨ w.heap.size ≤ k_))) ?hr ?hp (fun _ hk => hk) ((show ∀ k_, w20.heap.size ≤ k_ → (fun k_ => ((P0_ k_ ∨ P1_ k_ ∨ P2_ k_) ∨ w.heap.size ≤ k_)) k_ from fun k_ hk => (.inr (Nat.le_trans (Bz HB) hk))) _ (Nat.le_refl _)) (Below.refl _ _) (Nat.le_refl _) (by simp) ?_; (case hd => rfl); (case hg => rfl); (case hr => first | (go_simp; done) | (go_simp; rfl)); (case hp => exact (Reps.one (show Kd.FK (Kd.slice 5 (Kd.int .u8)) _ _ l0 [.slice A0 l0.length c0] from (Kd.FK_slice_mk (Kd.V_reads' (Kd.V_mono (ok' := (fun k_ => ((P0_ k_ ∨ P1_ k_ ∨ P2_ k_) ∨ w.heap.size ≤ k_))) (HO0.out) (fun k_ hk => hk))).2.1 (Kd.V_F (Kd.V_mono (ok' := (fun k_ => ((P0_ k_ ∨ P1_ k_ ∨ P2_ k_) ∨ w.heap.size ≤ k_))) (HO0.out) (fun k_ hk => hk))))) (Reps.one (show Kd.FK (Kd.slice 5 (Kd.int .u8)) _ _ l1 [.slice A1 l1.length c1] from (Kd.FK_slice_mk (Kd.V_reads' (Kd.V_mono (ok' := (fun k_ => ((P0_ k_ ∨ P1_ k_ ∨ P2_ k_) ∨ w.heap.size ≤ k_))) (HO1.out) (fun k_ hk => hk))).2.1 (Kd.V_F (Kd.V_mono (ok' := (fun k_ => ((P0_ k_ ∨ P1_ k_ ∨ P2_ k_) ∨ w.heap.size ≤ k_))) (HO1.out) (fun k_ hk => hk))))) (Reps.one (show Kd.FK (Kd.slice 5 (Kd.int .u8)) _ _ l2 [.slice A2 l2.length c2] from (Kd.FK_slice_mk (Kd.V_reads' (Kd.V_mono (ok' := (fun k_ => ((P0_ k_ ∨ P1_ k_ ∨ P2_ k_) ∨ w.heap.size ≤ k_))) (HO2.out) (fun k_ hk => hk))).2.1 (Kd.V_F (Kd.V_mono (ok' := (fun k_ => ((P0_ k_ ∨ P1_ k_ ∨ P2_ k_) ∨ w.heap.size ≤ k_))) (HO2.out) (fun k_ hk => hk))))) (Reps.none _ _))))); intro v244 w21 ho22 hb hg_ hnew_; clear hg_ hnew_; (first | rw [← Ny243.out] at ho22 | (simp only [Int.reduceToNat] at ho22; rw [← Ny243.out] at ho22)); have n0_ := Aside0.mk (Kd.V_elder' (Vu HO0) (Kd.N_base (by first | exact ho22 | exact Kd.S_N ho22)) hb); have n1_ := Aside0.mk (Kd.V_elder' (Vu HO1) (Kd.N_base (by first | exact ho22 | exact Kd.S_N ho22)) hb); have n2_ := Aside0.mk (Kd.V_elder' (Vu HO2) (Kd.N_base (by first | exact ho22 | exact Kd.S_N ho22)) hb); have n3_ := Aside0.mk (Kd.V_elder' (Vu HO242) (Kd.N_base (by first | exact ho22 | exact Kd.S_N ho22)) hb); have n4_ := Aside0.mk (Kd.N_lower ho22 (Bz HB)); have n5_ := Bs HB hb; clear HO0 HO1 HO2 HO242 HB; revert n0_ n1_ n2_ n3_ n4_ n5_; intro HO0 HO1 HO2 HO242 HO245 HB; clear hb ho22; obtain ⟨Ao23, co23, eo23⟩ := Kd.N_slice HO245.out; subst eo23) | ((with_reducible refine gate_callee (f := 32) rfl ?_); refine goesA (some 23) Tryd.func32 #[.slice Ao23 y243.length co23] rfl ?_; (with_reducible refine (nat_long.calls _ _ y243 false _ ?side1 ?side2 A5.out).mono ?_); (case side1 => exact Cu (Kd.N_reads' HO245.out).2.2); (case side2 => exact (Kd.N_reads' HO245.out).2.1); rintro e w' ⟨rfl, ⟨nd, rfl⟩⟩; refine ⟨_, rfl, ?_⟩; obtain ⟨Ao24, co24, eo24⟩ := Kd.V_slice HO242.out; subst eo24) | ((with_reducible refine gate_callee (f := 31) rfl ?_); refine goesA (some 30) Tryd.func31 #[.slice A0 l0.length c0] rfl ?_; (with_reducible refine (nat_of.calls k _ _ l0 t247 _ ?side1 ?side2 A17.out).mono ?_); (case side1 => exact Cu (Kd.V_reads' HO0.out).2.2); (case side2 => exact (Kd.V_reads' HO0.out).2.1); rintro e w25 ⟨v248, rfl, ho0, hb⟩; refine ⟨_, rfl, ?_⟩; have n0_ := Vb HO0 hb; have n1_ := Vb HO1 hb; have n2_ := Vb HO2 hb; have n3_ := Vb HO242 hb; have n4_ := Nb HO245 hb; have n5_ := Aside0.mk (Kd.V_lower (Kd.V_mono (ok' := fun k_ => ((P0_ k_ ∨ P1_ k_ ∨ P2_ k_) ∨ w.heap.size ≤ k_) ∧ some k_ ≠ (.slice Ao23 y243.length co23 : Value).ownBlock) ho0 (fun k_ hk_ => ⟨(.inr (Nat.le_trans (Bz HB) hk_)), (Kd.fresh' (Kd.N_lt (Nu HO245)) k_ hk_)⟩)) (Bz HB)); have n6_ := Bs HB hb; clear HO0 HO1 HO2 HO242 HO245 HB; revert n0_ n1_ n2_ n3_ n4_ n5_ n6_; intro HO0 HO1 HO2 HO242 HO245 HO249 HB; (try clear hb); (try clear hb2); (try clear hk); (try clear hi); (try clear ho0); obtain ⟨Ao26, co26, eo26⟩ := Kd.V_slice HO249.out; subst eo26) | ((with_reducible refine gate_callee (f := 33) rfl ?_); refine goesA (some 32) Tryd.func33 #[.slice Ao26 t247.length co26, .slice Ao24 t240.length co24] rfl ?_; (with_reducible refine (nat_div.calls k (fun k_ => (((P0_ k_ ∨ P1_ k_ ∨ P2_ k_) ∨ w.heap.size ≤ k_) ∧ some k_ ≠ (.slice Ao23 y243.length co23 : Value).ownBlock)) _ _ t247 _ _ t240 t250 t253 _ ?side1 ?side2 ?side3 A18.out).mono ?_); (case side1 => exact HO249.out); (case side2 => exact Cu (Kd.V_reads' HO242.out).2.2); (case side3 => exact (Kd.V_reads' HO242.out).2.1); rintro e w27 ⟨v251, v254, rfl, ho0, ho1, hb⟩; refine ⟨_, rfl, ?_⟩; have n0_ := Vb HO0 hb; have n1_ := Vb HO1 hb; have n2_ := Vb HO2 hb; have n3_ := Vb HO242 hb; have n4_ := Nb HO245 hb; have n5_ := Vb HO249 hb; have n6_ := Aside0.mk (Kd.V_lower (Kd.V_mono (ok' := fun k_ => ((P0_ k_ ∨ P1_ k_ ∨ P2_ k_) ∨ w.heap.size ≤ k_) ∧ some k_ ≠ (.slice Ao23 y243.length co23 : Value).ownBlock) ho0 (fun k_ hk_ => ⟨Or.elim hk_ (fun hs_ => hs_.1) (fun hn_ => (.inr (Nat.le_trans (Bz HB) hn_))), Or.elim hk_ (fun hs_ => hs_.2) (fun hn_ => (Kd.fresh' (Kd.N_lt (Nu HO245)) k_ hn_))⟩)) (Bz HB)); have n7_ := Aside0.mk (Kd.V_lower (Kd.V_mono (ok' := fun k_ => ((P0_ k_ ∨ P1_ k_ ∨ P2_ k_) ∨ w.heap.size ≤ k_) ∧ some k_ ≠ (.slice Ao23 y243.length co23 : Value).ownBlock) ho1 (fun k_ hk_ => ⟨Or.elim hk_ (fun hs_ => hs_.1) (fun hn_ => (.inr (Nat.le_trans (Bz HB) hn_))), Or.elim hk_ (fun hs_ => hs_.2) (fun hn_ => (Kd.fresh' (Kd.N_lt (Nu HO245)) k_ hn_))⟩)) (Bz HB)); have n8_ := Bs HB hb; clear HO0 HO1 HO2 HO242 HO245 HO249 HB; revert n0_ n1_ n2_ n3_ n4_ n5_ n6_ n7_ n8_; intro HO0 HO1 HO2 HO242 HO245 HO249 HO252 HO255 HB; (try clear hb); (try clear hb2); (try clear hk); (try clear hi); (try clear ho0); (try clear ho1)) | ((with_reducible refine gate_dst (N := 36) rfl ?_); refine litI .u32 55 36 [1] [.int .u32 1] ?hr ?_; (case hr => first | (go_simp; done) | (go_simp; rfl)); intro v257 w28 ho29 hb; (first | rw [← Ny256.out] at ho29 | (simp only [Int.reduceToNat] at ho29; rw [← Ny256.out] at ho29)); have n0_ := Ve HO0 (Kd.R_base ho29) hb; have n1_ := Ve HO1 (Kd.R_base ho29) hb; have n2_ := Ve HO2 (Kd.R_base ho29) hb; have n3_ := Ve HO242 (Kd.R_base ho29) hb; have n4_ := Ne HO245 (Kd.R_base ho29) hb; have n5_ := Ve HO249 (Kd.R_base ho29) hb; have n6_ := Ve HO252 (Kd.R_base ho29) hb; have n7_ := Ve HO255 (Kd.R_base ho29) hb; have n8_ := Aside0.mk (Kd.R_lower (Kd.R_newM (M := fun k_ => (w.heap.size ≤ k_)) ho29 (Bz HB) (fun k_ h_ => h_)) (Bz HB)); have n9_ := Bs HB hb; clear HO0 HO1 HO2 HO242 HO245 HO249 HO252 HO255 HB; revert n0_ n1_ n2_ n3_ n4_ n5_ n6_ n7_ n8_ n9_; intro HO0 HO1 HO2 HO242 HO245 HO249 HO252 HO255 HO258 HB; clear hb ho29; obtain ⟨Ao30, co30, eo30⟩ := Kd.R_slice HO258.out; subst eo30) | ((with_reducible refine gate_callee (f := 33) rfl ?_); refine goesA (some 38) Tryd.func33 #[.slice Ao30 y256.length co30, .slice Ao24 t240.length co24] rfl ?_; (with_reducible refine (nat_div.calls k (fun k_ => some k_ = (.slice Ao30 y256.length co30 : Value).ownBlock) _ _ y256 _ _ t240 t259 t262 _ ?side1 ?side2 ?side3 A19.out).mono ?_); (case side1 => exact Kd.R_V (Kd.R_tight rfl (Kd.R_apart' (HO258.out) (Kd.N_typed HO245.out) (by decide)))); (case side2 => exact Cu (Kd.V_reads' HO242.out).2.2); (case side3 => exact (Kd.V_reads' HO242.out).2.1); rintro e w31 ⟨v260, v263, rfl, ho0, ho1, hb⟩; refine ⟨_, rfl, ?_⟩; have n0_ := Vb HO0 hb; have n1_ := Vb HO1 hb; have n2_ := Vb HO2 hb; have n3_ := Vb HO242 hb; have n4_ := Nb HO245 hb; have n5_ := Vb HO249 hb; have n6_ := Vb HO252 hb; have n7_ := Vb HO255 hb; have n8_ := Rb HO258 hb; have n9_ := Aside0.mk (Kd.V_lower (Kd.V_mono (ok' := fun k_ => ((P0_ k_ ∨ P1_ k_ ∨ P2_ k_) ∨ w.heap.size ≤ k_) ∧ some k_ ≠ (.slice Ao23 y243.length co23 : Value).ownBlock) ho0 (fun k_ hk_ => ⟨Or.elim hk_ (fun hs_ => (.inr (((Kd.R_apart' (HO258.out) (Kd.N_typed HO245.out) (by decide)).1 k_ hs_.symm).1.1))) (fun hn_ => (.inr (Nat.le_trans (Bz HB) hn_))), Or.elim hk_ (fun hs_ => ((Kd.R_apart' (HO258.out) (Kd.N_typed HO245.out) (by decide)).1 k_ hs_.symm).2) (fun hn_ => (Kd.fresh' (Kd.N_lt (Nu HO245)) k_ hn_))⟩)) (Bz HB)); have n10_ := Aside0.mk (Kd.V_lower (Kd.V_mono (ok' := fun k_ => ((P0_ k_ ∨ P1_ k_ ∨ P2_ k_) ∨ w.heap.size ≤ k_) ∧ some k_ ≠ (.slice Ao23 y243.length co23 : Value).ownBlock) ho1 (fun k_ hk_ => ⟨Or.elim hk_ (fun hs_ => (.inr (((Kd.R_apart' (HO258.out) (Kd.N_typed HO245.out) (by decide)).1 k_ hs_.symm).1.1))) (fun hn_ => (.inr (Nat.le_trans (Bz HB) hn_))), Or.elim hk_ (fun hs_ => ((Kd.R_apart' (HO258.out) (Kd.N_typed HO245.out) (by decide)).1 k_ hs_.symm).2) (fun hn_ => (Kd.fresh' (Kd.N_lt (Nu HO245)) k_ hn_))⟩)) (Bz HB)); have n11_ := Bs HB hb; clear HO0 HO1 HO2 HO242 HO245 HO249 HO252 HO255 HO258 HB; revert n0_ n1_ n2_ n3_ n4_ n5_ n6_ n7_ n8_ n9_ n10_ n11_; intro HO0 HO1 HO2 HO242 HO245 HO249 HO252 HO255 HO258 HO261 HO264 HB; (try clear hb); (try clear hb2); (try clear hk); (try clear hi); (try clear ho0); (try clear ho1)))
   go_loopg [12, 43] k (fun kq v12 v43 w' => ∃ (x12_1 : List Int) (x43_1 : Int), v43 = .int .i64 x43_1 ∧ Aside0 (nat_Exp.l0 kq t240 t253 x12_1 l1 (l1.length : Int) x43_1 = some (r1, r2)) ∧ Aside0 (kq ≤ k) ∧ Aside0 (Kd.V (Kd.int .u32) 55 w' w.heap.size (fun k_ => ((P0_ k_ ∨ P1_ k_ ∨ P2_ k_) ∨ w.heap.size ≤ k_)) (.slice Ao24 t240.length co24) t240) ∧ Aside0 (Kd.V (Kd.int .u32) 55 w' w.heap.size (fun k_ => ((P0_ k_ ∨ P1_ k_ ∨ P2_ k_) ∨ w.heap.size ≤ k_)) v254 t253) ∧ Aside0 (Kd.V (Kd.int .u32) 55 w' w.heap.size (fun k_ => ((P0_ k_ ∨ P1_ k_ ∨ P2_ k_) ∨ w.heap.size ≤ k_)) v12 x12_1) ∧ Aside0 (Kd.V (Kd.int .u8) 5 w' w.heap.size (fun k_ => ((P0_ k_ ∨ P1_ k_ ∨ P2_ k_) ∨ w.heap.size ≤ k_)) (.slice A1 l1.length c1) l1) ∧ Aside0 (Below w.heap.size w w'))
   case atStart => exact ⟨(t262), (0), (by first | rfl | (simp; done) | (simp [*]; done)), H', ⟨Nat.le_refl _⟩, ⟨by (with_reducible repeat (first | apply Kd.V_alloc | apply Kd.V_drewN | apply Kd.V_drew)); exact Kd.V_mono HO242.out (fun _ hk => hk.1.1)⟩, ⟨by (with_reducible repeat (first | apply Kd.V_alloc | apply Kd.V_drewN | apply Kd.V_drew)); exact Kd.V_mono HO255.out (fun _ hk => hk.1.1)⟩, ⟨by (with_reducible repeat (first | apply Kd.V_alloc | apply Kd.V_drewN | apply Kd.V_drew)); exact Kd.V_mono HO264.out (fun _ hk => hk.1)⟩, ⟨by (with_reducible repeat (first | apply Kd.V_alloc | apply Kd.V_drewN | apply Kd.V_drew)); exact Kd.V_mono HO1.out (fun _ hk => hk.1.1)⟩, ⟨Bu HB⟩⟩
   case round =>
    clear H'
    try clear c1
    try clear c2
    try clear p2
    try clear c3
    try clear c6
    try clear c11
    try clear c11b0
    try clear c11b1
    try clear c11b2
    try clear c16
    try clear c31
    obtain ⟨x12_1, x43_1, rfl, HA, HK1, HO_8, HO_10, HO_12, HO_41, HB⟩ := hrel
    cases gk with
    | zero => exact absurd HA.out (by simp [nat_Exp.l0])
    | succ k1 =>
     have H := HA.out
     clear HA
     simp only [nat_Exp.l0] at H
     by_cases c32 : x43_1 < (l1.length : Int)
     ·rw [if_pos c32] at H
      have c32b0 : decide (x43_1 < (l1.length : Int)) = true := decide_eq_true c32
      clear c32
      by_cases c33 : 0 ≤ x43_1
      ·rw [if_pos c33] at H
       have c33b0 : decide (0 ≤ x43_1) = true := decide_eq_true c33
       clear c33
       by_cases c34 : x43_1 < (l1.length : Int)
       ·rw [if_pos c34] at H
        have c34b0 : decide (x43_1 < (l1.length : Int)) = true := decide_eq_true c34
        clear c34
        have H' := Aside0.mk H
        clear H
        have p268 : 0 ≤ (x43_1 : Int) := of_decide_eq_true (by first | (with_reducible assumption) | assumption)
        have q268 : x43_1 < (l1.length : Int) := of_decide_eq_true (by first | (with_reducible assumption) | assumption)
        obtain ⟨ad268, e268, hx268_0⟩ := Kd.at_int (Kd.V_reads' HO_41.out).2.2 x43_1 p268 q268
        cases e268
        replace p268 := eq_true p268
        replace q268 := eq_true q268
        go_wp2
        go_loopg [12, 15] k1 (fun kq v12 v15 w' => ∃ (x12_2 : List Int) (x15_2 : Int), v15 = .int .i64 x15_2 ∧ Aside0 (nat_Exp.l1 kq t240 t253 x12_2 (rd l1 x43_1) x15_2 l1 (l1.length : Int) x43_1 = some (r1, r2)) ∧ Aside0 (kq ≤ k1) ∧ Aside0 (Kd.V (Kd.int .u32) 55 w' w.heap.size (fun k_ => ((P0_ k_ ∨ P1_ k_ ∨ P2_ k_) ∨ w.heap.size ≤ k_)) (.slice Ao24 t240.length co24) t240) ∧ Aside0 (Kd.V (Kd.int .u32) 55 w' w.heap.size (fun k_ => ((P0_ k_ ∨ P1_ k_ ∨ P2_ k_) ∨ w.heap.size ≤ k_)) v254 t253) ∧ Aside0 (Kd.V (Kd.int .u32) 55 w' w.heap.size (fun k_ => ((P0_ k_ ∨ P1_ k_ ∨ P2_ k_) ∨ w.heap.size ≤ k_)) v12 x12_2) ∧ Aside0 (Kd.V (Kd.int .u8) 5 w' w.heap.size (fun k_ => ((P0_ k_ ∨ P1_ k_ ∨ P2_ k_) ∨ w.heap.size ≤ k_)) (.slice (some ad268) l1.length c1) l1) ∧ Aside0 (Below w.heap.size w w'))
        case atStart => exact ⟨(x12_1), (7), (by first | rfl | (simp; done) | (simp [*]; done)), H', ⟨Nat.le_refl _⟩, ⟨Vu HO_8⟩, ⟨Vu HO_10⟩, ⟨Vu HO_12⟩, ⟨Vu HO_41⟩, ⟨Bu HB⟩⟩
        case round =>
         clear H'
         try clear c1
         try clear c2
         try clear p2
         try clear q2
         try clear hx2
         try clear c3
         try clear c6
         try clear c11
         try clear c11b0
         try clear c11b1
         try clear c11b2
         try clear c16
         try clear p26
         try clear q26
         try clear hx26
         try clear c31
         try clear c32
         try clear c32b0
         try clear c33
         try clear c33b0
         try clear c34
         try clear c34b0
         try clear hx268_0
         try clear p2
         try clear p268
         try clear q268
         obtain ⟨x12_2, x15_2, rfl, HA, HK2, HO_8, HO_10, HO_12, HO_41, HB⟩ := hrel
         cases gk with
         | zero => exact absurd HA.out (by simp [nat_Exp.l1])
         | succ k2 =>
          have H := HA.out
          clear HA
          simp only [nat_Exp.l1] at H
          by_cases c35 : x15_2 ≥ 0
          ·rw [if_pos c35] at H
           have c35b0 : decide (0 ≤ x15_2) = true := decide_eq_true c35
           clear c35
           replace H := Option.bind_eq_some_iff.mp H
           obtain ⟨t269, A360, H⟩ := H
           replace H : ((nat_div.f k2 t269 t240).bind fun bt272 => (if 0 ≤ x15_2 then (if (Go.bits .and .u8 (shr .u8 (rd l1 x43_1) x15_2) 1) = 1 then ((nat_mul.f k2 bt272.2 t253).bind fun t278 => ((nat_div.f k2 t278 t240).bind fun bt281 => (nat_Exp.l1 k2 t240 t253 bt281.2 (rd l1 x43_1) (wrap64 (x15_2 - 1)) l1 (l1.length : Int) x43_1))) else (nat_Exp.l1 k2 t240 t253 bt272.2 (rd l1 x43_1) (wrap64 (x15_2 - 1)) l1 (l1.length : Int) x43_1)) else (none))) = some (r1, r2) := H
           have A36 := Aside0.mk A360
           clear A360
           replace H := Option.bind_eq_some_iff.mp H
           obtain ⟨⟨t272, t275⟩, A370, H⟩ := H
           replace H : (if 0 ≤ x15_2 then (if (Go.bits .and .u8 (shr .u8 (rd l1 x43_1) x15_2) 1) = 1 then ((nat_mul.f k2 t275 t253).bind fun t278 => ((nat_div.f k2 t278 t240).bind fun bt281 => (nat_Exp.l1 k2 t240 t253 bt281.2 (rd l1 x43_1) (wrap64 (x15_2 - 1)) l1 (l1.length : Int) x43_1))) else (nat_Exp.l1 k2 t240 t253 t275 (rd l1 x43_1) (wrap64 (x15_2 - 1)) l1 (l1.length : Int) x43_1)) else (none)) = some (r1, r2) := H
           have A37 := Aside0.mk A370
           clear A370
           by_cases c38 : 0 ≤ x15_2
           ·rw [if_pos c38] at H
            have c38b0 := eq_true c38
            have c38b1 : decide (0 ≤ x15_2) = true := decide_eq_true c38
            clear c38
            obtain ⟨ji39, hji39⟩ : ∃ j_ : Int, (shr .u8 (rd l1 x43_1) x15_2) = j_ := ⟨_, rfl⟩
            replace H : (if (Go.bits .and .u8 (ji39) 1) = 1 then ((nat_mul.f k2 t275 t253).bind fun t278 => ((nat_div.f k2 t278 t240).bind fun bt281 => (nat_Exp.l1 k2 t240 t253 bt281.2 (rd l1 x43_1) (wrap64 (x15_2 - 1)) l1 (l1.length : Int) x43_1))) else (nat_Exp.l1 k2 t240 t253 t275 (rd l1 x43_1) (wrap64 (x15_2 - 1)) l1 (l1.length : Int) x43_1)) = some (r1, r2) := by first | (rw [hji39] at H; exact H) | (simp only [hji39] at H ⊢; exact H)
            (try rw [hji39] at A36)
            (try rw [hji39] at A37)
            have hji39_ : ((rd l1 x43_1) / 2 ^ min x15_2.toNat 8) = ji39 := hji39
            have hji39z : x15_2 ≤ 8 → ((rd l1 x43_1) / 2 ^ x15_2.toNat) = ji39 := shr_small hji39
            by_cases c40 : (Go.bits .and .u8 (ji39) 1) = 1
            ·rw [if_pos c40] at H
             have c40b0 : ((Go.bits .and .u8 (ji39) 1) == 1) = true := beq_iff_eq.mpr c40
             have c40b1 : ((Go.bits .and .u8 (ji39) 1) != 1) = false := bne_eq_false_iff_eq.mpr c40
             clear c40
             replace H := Option.bind_eq_some_iff.mp H
             obtain ⟨t278, A410, H⟩ := H
             replace H : ((nat_div.f k2 t278 t240).bind fun bt281 => (nat_Exp.l1 k2 t240 t253 bt281.2 (rd l1 x43_1) (wrap64 (x15_2 - 1)) l1 (l1.length : Int) x43_1)) = some (r1, r2) := H
             have A41 := Aside0.mk A410
             clear A410
             replace H := Option.bind_eq_some_iff.mp H
             obtain ⟨⟨t281, t284⟩, A420, H⟩ := H
             replace H : (nat_Exp.l1 k2 t240 t253 t284 (rd l1 x43_1) (wrap64 (x15_2 - 1)) l1 (l1.length : Int) x43_1) = some (r1, r2) := H
             have A42 := Aside0.mk A420
             clear A420
             have H' := Aside0.mk H
             clear H
             obtain ⟨Ao43, co43, eo43⟩ := Kd.V_slice HO_12.out
             subst eo43
             go_wp2_with (first | ((with_reducible refine gate_callee (f := 36) rfl ?_); refine goesA (some 54) Tryd.func36 #[.slice Ao43 x12_2.length co43, .slice Ao43 x12_2.length co43] rfl ?_; (with_reducible refine (nat_mul.calls k2 _ _ x12_2 _ _ x12_2 t269 _ ?side1 ?side2 ?side3 ?side4 A36.out).mono ?_); (case side1 => exact Cu (Kd.V_reads' HO_12.out).2.2); (case side2 => exact (Kd.V_reads' HO_12.out).2.1); (case side3 => exact Cu (Kd.V_reads' HO_12.out).2.2); (case side4 => exact (Kd.V_reads' HO_12.out).2.1); rintro e w44 ⟨v270, rfl, ho0, hb⟩; refine ⟨_, rfl, ?_⟩; have n0_ := Vb HO_8 hb; have n1_ := Vb HO_10 hb; have n2_ := Vb HO_12 hb; have n3_ := Vb HO_41 hb; have n4_ := Aside0.mk (Kd.V_lower (Kd.V_mono (ok' := fun k_ => ((P0_ k_ ∨ P1_ k_ ∨ P2_ k_) ∨ w.heap.size ≤ k_)) ho0 (fun k_ hk_ => (.inr (Nat.le_trans (Bz HB) hk_)))) (Bz HB)); have n5_ := Bs HB hb; clear HO_8 HO_10 HO_12 HO_41 HB; revert n0_ n1_ n2_ n3_ n4_ n5_; intro HO_8 HO_10 HO_12 HO_41 HO271 HB; (try clear hb); (try clear hb2); (try clear hk); (try clear hi); (try clear ho0); obtain ⟨Ao45, co45, eo45⟩ := Kd.V_slice HO271.out; subst eo45) | ((with_reducible refine gate_callee (f := 33) rfl ?_); refine goesA (some 56) Tryd.func33 #[.slice Ao45 t269.length co45, .slice Ao24 t240.length co24] rfl ?_; (with_reducible refine (nat_div.calls k2 (fun k_ => ((P0_ k_ ∨ P1_ k_ ∨ P2_ k_) ∨ w.heap.size ≤ k_)) _ _ t269 _ _ t240 t272 t275 _ ?side1 ?side2 ?side3 A37.out).mono ?_); (case side1 => exact HO271.out); (case side2 => exact Cu (Kd.V_reads' HO_8.out).2.2); (case side3 => exact (Kd.V_reads' HO_8.out).2.1); rintro e w46 ⟨v273, v276, rfl, ho0, ho1, hb⟩; refine ⟨_, rfl, ?_⟩; have n0_ := Vb HO_8 hb; have n1_ := Vb HO_10 hb; have n2_ := Vb HO_12 hb; have n3_ := Vb HO_41 hb; have n4_ := Vb HO271 hb; have n5_ := Aside0.mk (Kd.V_lower (Kd.V_mono (ok' := fun k_ => ((P0_ k_ ∨ P1_ k_ ∨ P2_ k_) ∨ w.heap.size ≤ k_)) ho0 (fun k_ hk_ => Or.elim hk_ (fun hs_ => hs_) (fun hn_ => (.inr (Nat.le_trans (Bz HB) hn_))))) (Bz HB)); have n6_ := Aside0.mk (Kd.V_lower (Kd.V_mono (ok' := fun k_ => ((P0_ k_ ∨ P1_ k_ ∨ P2_ k_) ∨ w.heap.size ≤ k_)) ho1 (fun k_ hk_ => Or.elim hk_ (fun hs_ => hs_) (fun hn_ => (.inr (Nat.le_trans (Bz HB) hn_))))) (Bz HB)); have n7_ := Bs HB hb; clear HO_8 HO_10 HO_12 HO_41 HO271 HB; revert n0_ n1_ n2_ n3_ n4_ n5_ n6_ n7_; intro HO_8 HO_10 HO_12 HO_41 HO271 HO274 HO277 HB; (try clear hb); (try clear hb2); (try clear hk); (try clear hi); (try clear ho0); (try clear ho1); obtain ⟨Ao47, co47, eo47⟩ := Kd.V_slice HO277.out; subst eo47; obtain ⟨Ao48, co48, eo48⟩ := Kd.V_slice HO_10.out; subst eo48) | ((with_reducible refine gate_callee (f := 36) rfl ?_); refine goesA (some 67) Tryd.func36 #[.slice Ao47 t275.length co47, .slice Ao48 t253.length co48] rfl ?_; (with_reducible refine (nat_mul.calls k2 _ _ t275 _ _ t253 t278 _ ?side1 ?side2 ?side3 ?side4 A41.out).mono ?_); (case side1 => exact Cu (Kd.V_reads' HO277.out).2.2); (case side2 => exact (Kd.V_reads' HO277.out).2.1); (case side3 => exact Cu (Kd.V_reads' HO_10.out).2.2); (case side4 => exact (Kd.V_reads' HO_10.out).2.1); rintro e w49 ⟨v279, rfl, ho0, hb⟩; refine ⟨_, rfl, ?_⟩; have n0_ := Vb HO_8 hb; have n1_ := Vb HO_10 hb; have n2_ := Vb HO_12 hb; have n3_ := Vb HO_41 hb; have n4_ := Vb HO271 hb; have n5_ := Vb HO274 hb; have n6_ := Vb HO277 hb; have n7_ := Aside0.mk (Kd.V_lower (Kd.V_mono (ok' := fun k_ => ((P0_ k_ ∨ P1_ k_ ∨ P2_ k_) ∨ w.heap.size ≤ k_)) ho0 (fun k_ hk_ => (.inr (Nat.le_trans (Bz HB) hk_)))) (Bz HB)); have n8_ := Bs HB hb; clear HO_8 HO_10 HO_12 HO_41 HO271 HO274 HO277 HB; revert n0_ n1_ n2_ n3_ n4_ n5_ n6_ n7_ n8_; intro HO_8 HO_10 HO_12 HO_41 HO271 HO274 HO277 HO280 HB; (try clear hb); (try clear hb2); (try clear hk); (try clear hi); (try clear ho0); obtain ⟨Ao50, co50, eo50⟩ := Kd.V_slice HO280.out; subst eo50) | ((with_reducible refine gate_callee (f := 33) rfl ?_); refine goesA (some 69) Tryd.func33 #[.slice Ao50 t278.length co50, .slice Ao24 t240.length co24] rfl ?_; (with_reducible refine (nat_div.calls k2 (fun k_ => ((P0_ k_ ∨ P1_ k_ ∨ P2_ k_) ∨ w.heap.size ≤ k_)) _ _ t278 _ _ t240 t281 t284 _ ?side1 ?side2 ?side3 A42.out).mono ?_); (case side1 => exact HO280.out); (case side2 => exact Cu (Kd.V_reads' HO_8.out).2.2); (case side3 => exact (Kd.V_reads' HO_8.out).2.1); rintro e w51 ⟨v282, v285, rfl, ho0, ho1, hb⟩; refine ⟨_, rfl, ?_⟩; have n0_ := Vb HO_8 hb; have n1_ := Vb HO_10 hb; have n2_ := Vb HO_12 hb; have n3_ := Vb HO_41 hb; have n4_ := Vb HO271 hb; have n5_ := Vb HO274 hb; have n6_ := Vb HO277 hb; have n7_ := Vb HO280 hb; have n8_ := Aside0.mk (Kd.V_lower (Kd.V_mono (ok' := fun k_ => ((P0_ k_ ∨ P1_ k_ ∨ P2_ k_) ∨ w.heap.size ≤ k_)) ho0 (fun k_ hk_ => Or.elim hk_ (fun hs_ => hs_) (fun hn_ => (.inr (Nat.le_trans (Bz HB) hn_))))) (Bz HB)); have n9_ := Aside0.mk (Kd.V_lower (Kd.V_mono (ok' := fun k_ => ((P0_ k_ ∨ P1_ k_ ∨ P2_ k_) ∨ w.heap.size ≤ k_)) ho1 (fun k_ hk_ => Or.elim hk_ (fun hs_ => hs_) (fun hn_ => (.inr (Nat.le_trans (Bz HB) hn_))))) (Bz HB)); have n10_ := Bs HB hb; clear HO_8 HO_10 HO_12 HO_41 HO271 HO274 HO277 HO280 HB; revert n0_ n1_ n2_ n3_ n4_ n5_ n6_ n7_ n8_ n9_ n10_; intro HO_8 HO_10 HO_12 HO_41 HO271 HO274 HO277 HO280 HO283 HO286 HB; (try clear hb); (try clear hb2); (try clear hk); (try clear hi); (try clear ho0); (try clear ho1)))
             go_roundg k2
             case measure => have := HK1.out; have := HK2.out; omega
             case rel => exact ⟨(t284), (wrap64 (x15_2 - 1)), (by first | rfl | (simp; done) | (simp [*]; done)), H', ⟨by have := HK1.out; have := HK2.out; omega⟩, ⟨Vu HO_8⟩, ⟨Vu HO_10⟩, ⟨Vu HO286⟩, ⟨Vu HO_41⟩, ⟨Bu HB⟩⟩
            ·rw [if_neg c40] at H
             have c40b0 : ((Go.bits .and .u8 (ji39) 1) == 1) = false := beq_eq_false_iff_ne.mpr c40
             have c40b1 : ((Go.bits .and .u8 (ji39) 1) != 1) = true := bne_iff_ne.mpr c40
             have H' := Aside0.mk H
             clear H
             obtain ⟨Ao52, co52, eo52⟩ := Kd.V_slice HO_12.out
             subst eo52
             go_wp2_with (first | ((with_reducible refine gate_callee (f := 36) rfl ?_); refine goesA (some 54) Tryd.func36 #[.slice Ao52 x12_2.length co52, .slice Ao52 x12_2.length co52] rfl ?_; (with_reducible refine (nat_mul.calls k2 _ _ x12_2 _ _ x12_2 t269 _ ?side1 ?side2 ?side3 ?side4 A36.out).mono ?_); (case side1 => exact Cu (Kd.V_reads' HO_12.out).2.2); (case side2 => exact (Kd.V_reads' HO_12.out).2.1); (case side3 => exact Cu (Kd.V_reads' HO_12.out).2.2); (case side4 => exact (Kd.V_reads' HO_12.out).2.1); rintro e w53 ⟨v270, rfl, ho0, hb⟩; refine ⟨_, rfl, ?_⟩; have n0_ := Vb HO_8 hb; have n1_ := Vb HO_10 hb; have n2_ := Vb HO_12 hb; have n3_ := Vb HO_41 hb; have n4_ := Aside0.mk (Kd.V_lower (Kd.V_mono (ok' := fun k_ => ((P0_ k_ ∨ P1_ k_ ∨ P2_ k_) ∨ w.heap.size ≤ k_)) ho0 (fun k_ hk_ => (.inr (Nat.le_trans (Bz HB) hk_)))) (Bz HB)); have n5_ := Bs HB hb; clear HO_8 HO_10 HO_12 HO_41 HB; revert n0_ n1_ n2_ n3_ n4_ n5_; intro HO_8 HO_10 HO_12 HO_41 HO271 HB; (try clear hb); (try clear hb2); (try clear hk); (try clear hi); (try clear ho0); obtain ⟨Ao54, co54, eo54⟩ := Kd.V_slice HO271.out; subst eo54) | ((with_reducible refine gate_callee (f := 33) rfl ?_); refine goesA (some 56) Tryd.func33 #[.slice Ao54 t269.length co54, .slice Ao24 t240.length co24] rfl ?_; (with_reducible refine (nat_div.calls k2 (fun k_ => ((P0_ k_ ∨ P1_ k_ ∨ P2_ k_) ∨ w.heap.size ≤ k_)) _ _ t269 _ _ t240 t272 t275 _ ?side1 ?side2 ?side3 A37.out).mono ?_); (case side1 => exact HO271.out); (case side2 => exact Cu (Kd.V_reads' HO_8.out).2.2); (case side3 => exact (Kd.V_reads' HO_8.out).2.1); rintro e w55 ⟨v273, v276, rfl, ho0, ho1, hb⟩; refine ⟨_, rfl, ?_⟩; have n0_ := Vb HO_8 hb; have n1_ := Vb HO_10 hb; have n2_ := Vb HO_12 hb; have n3_ := Vb HO_41 hb; have n4_ := Vb HO271 hb; have n5_ := Aside0.mk (Kd.V_lower (Kd.V_mono (ok' := fun k_ => ((P0_ k_ ∨ P1_ k_ ∨ P2_ k_) ∨ w.heap.size ≤ k_)) ho0 (fun k_ hk_ => Or.elim hk_ (fun hs_ => hs_) (fun hn_ => (.inr (Nat.le_trans (Bz HB) hn_))))) (Bz HB)); have n6_ := Aside0.mk (Kd.V_lower (Kd.V_mono (ok' := fun k_ => ((P0_ k_ ∨ P1_ k_ ∨ P2_ k_) ∨ w.heap.size ≤ k_)) ho1 (fun k_ hk_ => Or.elim hk_ (fun hs_ => hs_) (fun hn_ => (.inr (Nat.le_trans (Bz HB) hn_))))) (Bz HB)); have n7_ := Bs HB hb; clear HO_8 HO_10 HO_12 HO_41 HO271 HB; revert n0_ n1_ n2_ n3_ n4_ n5_ n6_ n7_; intro HO_8 HO_10 HO_12 HO_41 HO271 HO274 HO277 HB; (try clear hb); (try clear hb2); (try clear hk); (try clear hi); (try clear ho0); (try clear ho1)))
             go_roundg k2
             case measure => have := HK1.out; have := HK2.out; omega
             case rel => exact ⟨(t275), (wrap64 (x15_2 - 1)), (by first | rfl | (simp; done) | (simp [*]; done)), H', ⟨by have := HK1.out; have := HK2.out; omega⟩, ⟨Vu HO_8⟩, ⟨Vu HO_10⟩, ⟨Vu HO277⟩, ⟨Vu HO_41⟩, ⟨Bu HB⟩⟩
           ·rw [if_neg c38] at H
            exact absurd H (by simp)
          ·rw [if_neg c35] at H
           have c35b0 : decide (0 ≤ x15_2) = false := decide_eq_false c35
           clear c35
           have H' := Aside0.mk H
           clear H
           go_wp2
           go_roundg k2
           case measure => have := HK1.out; have := HK2.out; omega
           case rel => exact ⟨(x12_2), (wrap64 (x43_1 + 1)), (by first | rfl | (simp; done) | (simp [*]; done)), H', ⟨by have := HK1.out; have := HK2.out; omega⟩, ⟨Vu HO_8⟩, ⟨Vu HO_10⟩, ⟨Vu HO_12⟩, ⟨Vu HO_41⟩, ⟨Bu HB⟩⟩
       ·rw [if_neg c34] at H
        exact absurd H (by simp)
      ·rw [if_neg c33] at H
       exact absurd H (by simp)
     ·rw [if_neg c32] at H
      have c32b0 : decide (x43_1 < (l1.length : Int)) = false := decide_eq_false c32
      clear c32
      replace H := Option.bind_eq_some_iff.mp H
      obtain ⟨t265, A560, H⟩ := H
      replace H : (some (t265, 0)) = some (r1, r2) := H
      have A56 := Aside0.mk A560
      clear A560
      simp only [Option.some.injEq, Prod.mk.injEq] at H
      obtain ⟨rfl, rfl⟩ := H
      obtain ⟨Ao57, co57, eo57⟩ := Kd.V_slice HO_12.out
      subst eo57
      go_wp2_with (first | ((with_reducible refine gate_callee (f := 34) rfl ?_); refine goesA (some 74) Tryd.func34 #[.slice Ao57 x12_1.length co57] rfl ?_; (with_reducible refine (nat_num_bytes.calls k1 _ _ x12_1 t265 _ ?side1 ?side2 A56.out).mono ?_); (case side1 => exact Cu (Kd.V_reads' HO_12.out).2.2); (case side2 => exact (Kd.V_reads' HO_12.out).2.1); rintro e w58 ⟨v266, rfl, ho0, hb⟩; refine ⟨_, rfl, ?_⟩; have n0_ := Ve HO_8 (Kd.R_base ho0) hb; have n1_ := Ve HO_10 (Kd.R_base ho0) hb; have n2_ := Ve HO_12 (Kd.R_base ho0) hb; have n3_ := Ve HO_41 (Kd.R_base ho0) hb; have n4_ := Aside0.mk (Kd.R_lower (Kd.R_newM (M := fun k_ => (w.heap.size ≤ k_)) ho0 (Bz HB) (fun k_ h_ => h_)) (Bz HB)); have n5_ := Bs HB hb; clear HO_8 HO_10 HO_12 HO_41 HB; revert n0_ n1_ n2_ n3_ n4_ n5_; intro HO_8 HO_10 HO_12 HO_41 HO267 HB; (try clear hb); (try clear hb2); (try clear hk); (try clear hi); (try clear ho0)))
      go_ret2
      exact ⟨_, rfl_, by (with_reducible repeat (first | apply Kd.R_alloc | apply Kd.R_drewN | apply Kd.R_drew)); exact Kd.R_mono HO267.out (fun _ hk => hk.1), Bu HB⟩
theorem nat_Exp.calls (k : Nat) (A0 : Option Addr) (c0 : Nat) (l0 : List Int) (A1 : Option Addr) (c1 : Nat) (l1 : List Int) (A2 : Option Addr) (c2 : Nat) (l2 : List Int) (r1 : List Int) (r2 : Int) (w : World) (hr0 : Kd.C (Kd.int .u8) w A0 l0.length l0) (hc0 : l0.length ≤ c0) (hr1 : Kd.C (Kd.int .u8) w A1 l1.length l1) (hc1 : l1.length ≤ c1) (hr2 : Kd.C (Kd.int .u8) w A2 l2.length l2) (hc2 : l2.length ≤ c2) (h : nat_Exp.f k l0 l1 l2 = some (r1, r2)) :
  Calls Tryd.prog 16 #[.slice A0 l0.length c0, .slice A1 l1.length c1, .slice A2 l2.length c2] w fun e w' => ∃ v0_ : Value, e = .returned (.tuple #[v0_, .int .i64 r2]) ∧ Kd.R (Kd.int .u8) 5 w' w.heap.size (fun _ => True) v0_ r1 ∧ Below w.heap.size w w' := by
 refine (nat_Exp.callsV k (fun k_ => k_ < w.heap.size) A0 c0 l0 (fun k_ => k_ < w.heap.size) A1 c1 l1 (fun k_ => k_ < w.heap.size) A2 c2 l2 r1 r2 w (Kd.V_mk hc0 (Kd.C_F (Kd.heap_int .u8) hr0)) (Kd.V_mk hc1 (Kd.C_F (Kd.heap_int .u8) hr1)) (Kd.V_mk hc2 (Kd.C_F (Kd.heap_int .u8) hr2)) h).mono ?_
 rintro e w' ⟨v0_, he, h0_, hb⟩
 exact ⟨v0_, he, Kd.R_mono h0_ (fun _ _ => trivial), hb⟩

/-! ### nat_gcd: function 37 -/
def nat_gcd.l0 : Nat → List Int → List Int → Option (List Int)
 | 0, _, _ => none
 | k + 1, x0, x1 => if (x1.length : Int) > 0 then ((nat_div.f k x0 x1).bind fun bt287 => (nat_gcd.l0 k x1 bt287.2)) else (some x0)
def nat_gcd.f (k : Nat) (l0 : List Int) (l1 : List Int) : Option (List Int) := nat_gcd.l0 k l0 l1
theorem nat_gcd.mono_l : ∀ k, (∀ y0 y1, LeO (nat_gcd.l0 k y0 y1) (nat_gcd.l0 (k + 1) y0 y1))
 | 0 => fun _ _ r h => by simp [nat_gcd.l0] at h
 | k + 1 => by
  have ih0 := nat_gcd.mono_l k
  ·intro y0 y1
   unfold nat_gcd.l0
   repeat' first
   | (with_reducible exact ih0 _ _)
   | (with_reducible exact nat_div.mono _ _ _)
   | (with_reducible exact LeO.refl _)
   | (with_reducible exact LeO.none _)
   | (with_reducible refine LeO.ite ?_ ?_)
   | (with_reducible refine LeO.bind ?_ (fun _ => ?_))
   | exact ih0 _ _
   | exact nat_div.mono _ _ _
   | exact LeO.none _
   | refine LeO.ite ?_ ?_
   | refine LeO.bind ?_ (fun _ => ?_)
theorem nat_gcd.mono : ∀ a0 a1 k, LeO (nat_gcd.f k a0 a1) (nat_gcd.f (k + 1) a0 a1) := by
 intro a0 a1 k
 have ih0 := nat_gcd.mono_l k
 unfold nat_gcd.f
 repeat' first
   | (with_reducible exact ih0 _ _)
   | (with_reducible exact nat_div.mono _ _ _)
   | (with_reducible exact LeO.refl _)
   | (with_reducible exact LeO.none _)
   | (with_reducible refine LeO.ite ?_ ?_)
   | (with_reducible refine LeO.bind ?_ (fun _ => ?_))
   | exact ih0 _ _
   | exact nat_div.mono _ _ _
   | exact LeO.none _
   | refine LeO.ite ?_ ?_
   | refine LeO.bind ?_ (fun _ => ?_)
set_option maxHeartbeats 8000000 in
set_option maxRecDepth 100000 in
theorem nat_gcd.calls (k : Nat) (P0_ : Nat → Prop) (A0 : Option Addr) (c0 : Nat) (l0 : List Int) (P1_ : Nat → Prop) (A1 : Option Addr) (c1 : Nat) (l1 : List Int) (r : List Int) (w : World) (hs0 : Kd.V (Kd.int .u32) 55 w w.heap.size (fun k_ => P0_ k_) (.slice A0 l0.length c0) l0) (hs1 : Kd.V (Kd.int .u32) 55 w w.heap.size (fun k_ => P1_ k_) (.slice A1 l1.length c1) l1) (h : nat_gcd.f k l0 l1 = some r) :
  Calls Tryd.prog 37 #[.slice A0 l0.length c0, .slice A1 l1.length c1] w fun e w' => ∃ v0_ : Value, e = .returned (v0_) ∧ Kd.V (Kd.int .u32) 55 w' w.heap.size (fun k_ => ((P0_ k_ ∨ P1_ k_) ∨ w.heap.size ≤ k_)) v0_ r ∧ Below w.heap.size w w' := by
 have HO0 := Aside0.mk (show Kd.V (Kd.int .u32) 55 w w.heap.size (fun k_ => ((P0_ k_ ∨ P1_ k_) ∨ w.heap.size ≤ k_)) (.slice A0 l0.length c0) l0 from Kd.V_mono hs0 (fun k_ hk => .inl (.inl hk)))
 have HO1 := Aside0.mk (show Kd.V (Kd.int .u32) 55 w w.heap.size (fun k_ => ((P0_ k_ ∨ P1_ k_) ∨ w.heap.size ≤ k_)) (.slice A1 l1.length c1) l1 from Kd.V_mono hs1 (fun k_ hk => .inl (.inr hk)))
 have HB := Aside0.mk (Below.refl w.heap.size w)
 have H : (nat_gcd.l0 k l0 l1) = some r := h
 clear h
 have H' := Aside0.mk H
 clear H
 go_enter Tryd.func37, Tryd.ntmps37
 go_wp2
 go_loopg [0, 1] k (fun kq v0 v1 w' => ∃ (x0_1 : List Int) (x1_1 : List Int), Aside0 (nat_gcd.l0 kq x0_1 x1_1 = some r) ∧ Aside0 (kq ≤ k) ∧ Aside0 (Kd.V (Kd.int .u32) 55 w' w.heap.size (fun k_ => ((P0_ k_ ∨ P1_ k_) ∨ w.heap.size ≤ k_)) v0 x0_1) ∧ Aside0 (Kd.V (Kd.int .u32) 55 w' w.heap.size (fun k_ => ((P0_ k_ ∨ P1_ k_) ∨ w.heap.size ≤ k_)) v1 x1_1) ∧ Aside0 (Below w.heap.size w w'))
 case atStart => exact ⟨(l0), (l1), H', ⟨Nat.le_refl _⟩, ⟨Vu HO0⟩, ⟨Vu HO1⟩, ⟨Bu HB⟩⟩
 case round =>
  clear H'
  try clear c1
  try clear p2
  obtain ⟨x0_1, x1_1, HA, HK1, HO_0, HO_1, HB⟩ := hrel
  cases gk with
  | zero => exact absurd HA.out (by simp [nat_gcd.l0])
  | succ k1 =>
   have H := HA.out
   clear HA
   simp only [nat_gcd.l0] at H
   by_cases c3 : (x1_1.length : Int) > 0
   ·rw [if_pos c3] at H
    have c3b0 : decide (0 < (x1_1.length : Int)) = true := decide_eq_true c3
    have c3b1 : decide (0 < x1_1.length) = true := decide_eq_true (by omega)
    clear c3
    replace H := Option.bind_eq_some_iff.mp H
    obtain ⟨⟨t287, t290⟩, A40, H⟩ := H
    replace H : (nat_gcd.l0 k1 x1_1 t290) = some r := H
    have A4 := Aside0.mk A40
    clear A40
    have H' := Aside0.mk H
    clear H
    obtain ⟨Ao5, co5, eo5⟩ := Kd.V_slice HO_1.out
    subst eo5
    obtain ⟨Ao6, co6, eo6⟩ := Kd.V_slice HO_0.out
    subst eo6
    go_wp2_with (first | ((with_reducible refine gate_callee (f := 33) rfl ?_); refine goesA (some 13) Tryd.func33 #[.slice Ao6 x0_1.length co6, .slice Ao5 x1_1.length co5] rfl ?_; (with_reducible refine (nat_div.calls k1 (fun k_ => ((P0_ k_ ∨ P1_ k_) ∨ w.heap.size ≤ k_)) _ _ x0_1 _ _ x1_1 t287 t290 _ ?side1 ?side2 ?side3 A4.out).mono ?_); (case side1 => exact HO_0.out); (case side2 => exact Cu (Kd.V_reads' HO_1.out).2.2); (case side3 => exact (Kd.V_reads' HO_1.out).2.1); rintro e w7 ⟨v288, v291, rfl, ho0, ho1, hb⟩; refine ⟨_, rfl, ?_⟩; have n0_ := Vb HO_0 hb; have n1_ := Vb HO_1 hb; have n2_ := Aside0.mk (Kd.V_lower (Kd.V_mono (ok' := fun k_ => ((P0_ k_ ∨ P1_ k_) ∨ w.heap.size ≤ k_)) ho0 (fun k_ hk_ => Or.elim hk_ (fun hs_ => hs_) (fun hn_ => (.inr (Nat.le_trans (Bz HB) hn_))))) (Bz HB)); have n3_ := Aside0.mk (Kd.V_lower (Kd.V_mono (ok' := fun k_ => ((P0_ k_ ∨ P1_ k_) ∨ w.heap.size ≤ k_)) ho1 (fun k_ hk_ => Or.elim hk_ (fun hs_ => hs_) (fun hn_ => (.inr (Nat.le_trans (Bz HB) hn_))))) (Bz HB)); have n4_ := Bs HB hb; clear HO_0 HO_1 HB; revert n0_ n1_ n2_ n3_ n4_; intro HO_0 HO_1 HO289 HO292 HB; (try clear hb); (try clear hb2); (try clear hk); (try clear hi); (try clear ho0); (try clear ho1)))
    go_roundg k1
    case measure => have := HK1.out; omega
    case rel => exact ⟨(x1_1), (t290), H', ⟨by have := HK1.out; omega⟩, ⟨Vu HO_1⟩, ⟨Vu HO292⟩, ⟨Bu HB⟩⟩
   ·rw [if_neg c3] at H
    have c3b0 : decide (0 < (x1_1.length : Int)) = false := decide_eq_false c3
    have c3b1 : decide (0 < x1_1.length) = false := decide_eq_false (by omega)
    clear c3
    obtain rfl := Option.some.inj H
    obtain ⟨Ao8, co8, eo8⟩ := Kd.V_slice HO_1.out
    subst eo8
    go_wp2
    go_ret
    exact ⟨_, rfl_, Vu HO_0, Bu HB⟩

/-! ### nat_num_uint32: function 54 -/
def nat_num_uint32.f (l0 : List Int) : Option (List Int) := if l0.length < 35184372088832 then some l0 else none
theorem nat_num_uint32.len0 {w : World} {n : Nat} {l0 : List Int} (h : Kd.C (Kd.int .u32) w none n l0) : n = 0 := by
  rcases Nat.eq_zero_or_pos n with e | e
  · exact e
  · obtain ⟨ad, c, e, _⟩ := Kd.C_get h 0 0 (by omega) (by omega)
    cases e
set_option maxHeartbeats 8000000 in
set_option maxRecDepth 100000 in
theorem nat_num_uint32.calls (A0 : Option Addr) (c0 : Nat) (l0 : List Int) (r : List Int) (w : World) (hr0 : Kd.C (Kd.int .u32) w A0 l0.length l0) (hc0 : l0.length ≤ c0) (h : nat_num_uint32.f l0 = some r) :
    Calls Tryd.prog 54 #[.slice A0 l0.length c0] w fun e w' => ∃ v0_ : Value, e = .returned (v0_) ∧ Kd.R (Kd.int .u32) 55 w' w.heap.size (fun _ => True) v0_ r ∧ Below w.heap.size w w' := by
  have HR0 := Aside0.mk hr0
  have HC0 := Aside0.mk hc0
  clear hr0 hc0
  have HB := Aside0.mk (Below.refl w.heap.size w)
  have H : (if l0.length < 35184372088832 then some l0 else none) = some r := h
  clear h
  by_cases c5 : l0.length < 35184372088832
  · rw [if_pos c5] at H
    obtain rfl := Option.some.inj H
    have LMc5 := Aside0.mk c5
    clear c5 H
    cases A0 with
    | none =>
      have hl := nat_num_uint32.len0 HR0.out
      obtain rfl : l0 = [] := List.eq_nil_of_length_eq_zero hl
      clear hl
      have hn := fun (w : World) (n c : Nat) => Lib.run_eql_slice_nil (P := Tryd.prog) w 47 55 none n c 0 0 Tryd.underlying47
      go_enter Tryd.func54, Tryd.ntmps54
      go_wp2
      go_ret
      exact ⟨_, rfl, Kd.R_nil _ _ _ _ _, HB.out⟩
    | some ad =>
      have hn := fun (w : World) (n c : Nat) => Lib.run_eql_slice_nil (P := Tryd.prog) w 47 55 (some ad) n c 0 0 Tryd.underlying47
      go_enter Tryd.func54, Tryd.ntmps54
      go_wp2_with (first | ((with_reducible refine gate_dst (N := 5) rfl ?_); refine Kd.R_lit (Kd.int .u32) _ 55 ?hg (N := 5) ?hd (xs := ([] : List Int)) (inner := []) (ok := fun _ => True) (okp := fun _ => True) ?hr ?hp (fun _ hk => hk) trivial (Below.refl _ _) (Nat.le_refl _) (by simp) ?_; (case hd => rfl); (case hg => rfl); (case hr => first | (go_simp; done) | (go_simp; rfl)); (case hp => exact (Reps.none _ _)); intro v165 w6 ho7 hb hg_ hnew_; clear hg_ hnew_; have n0_ := Aside0.mk (Kd.R_lower ho7 (below_size HB.out)); have n1_ := Aside0.mk (below_step HB.out hb); clear HB; have HO166 := n0_; have HB := n1_; clear n0_ n1_; clear hb ho7) | ((with_reducible refine gate_builtin (b := .append) (xs := #[.tmp 5, .tmp 6]) rfl ?_); at_builtin; refine Kd.R_append_rows (Kd.int .u32) (w0 := w) w.heap.size rfl (.tmp 5) (.tmp 6) 47 55 (.int .u32 0) 4 rfl Tryd.underlying47 info55 rfl (by decide) (by omega) v165 ([] : List Int) l0 _ _ _ (fun _ => True) (fun _ => False) rfl rfl ?aO ?aR (fun _ _ h => h) (fun _ h => h.elim) ?aF ?aB ?aS ?aL ?_; (case aR => exact (Kd.C_below HR0.out HB.out)); (case aB => exact HB.out); (case aF => exact (fun _ _ => trivial)); (case aO => exact HO166.out); (case aS => exact (below_size HB.out)); (case aL => have := LMc5.out; simp; omega); intro v171 w9 ho hb hg hat; have n0_ := Aside0.mk (hb); have n1_ := Aside0.mk (ho); clear HB; clear HO166; have HB := n0_; have HO172 := n1_; clear n0_ n1_; clear ho hb hg hat))
      go_ret
      exact ⟨_, rfl, HO172.out, HB.out⟩
  · rw [if_neg c5] at H
    exact absurd H (by simp)

end Go.Proofs.YtcofpbndaljppaaDoor.Hp
