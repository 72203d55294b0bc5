/- Go functions of this seat as Lean functions, and their contracts: what the Go code computes, for every input. (By hp.py, a program of this repo, over the kit's print.py.) -/
import Derived.Test.YtbokeoncpilgpaaHp0
namespace Go.Proofs.Ytbokeoncpilgpaa.Hp
open Go.RowKit Go.Proofs.YtbokeoncpilgpaaW.PrintWords Go.Proofs.YtbokeoncpilgpaaW.PrintLast Go.Proofs.YtbokeoncpilgpaaW.PrintMore
attribute [local go_sem] max2_int min2_int max_two min_two max_three min_three max_four min_four   -- for this text's walks alone
set_option linter.unusedVariables false
set_option linter.unusedSimpArgs false

/-! ### lanyardref04_Bits: function 27 -/
mutual
def lanyardref04_Bits.l0 : Nat → List Int → List Int → Int → Option (List Int)
 | 0, _, _, _ => none
 | k + 1, x0, x3, x4 => if x4 < (x0.length : Int) then (if (Int.tmod x4 8) = 0 then (if x3.length < 140737488355328 then (lanyardref04_Bits.j1 k x0 (x3 ++ [0]) x4) else (none)) else (lanyardref04_Bits.j1 k x0 x3 x4)) else (some x3)
def lanyardref04_Bits.j1 : Nat → List Int → List Int → Int → Option (List Int)
 | 0, _, _, _ => none
 | k + 1, x0, x3, x4 => if 0 ≤ x4 then (if x4 < (x0.length : Int) then (lanyardref04_Bits.l1 k x0 x3 x4 (rd x0 x4) 0) else (none)) else (none)
def lanyardref04_Bits.l1 : Nat → List Int → List Int → Int → Int → Int → Option (List Int)
 | 0, _, _, _, _, _ => none
 | k + 1, x0, x3, x4, x5, x6 => if x6 < (Int.tmod x4 8) then (lanyardref04_Bits.l1 k x0 x3 x4 (wrap64 (x5 * 2)) (wrap64 (x6 + 1))) else (if 0 ≤ (wrap64 ((x3.length : Int) - 1)) then (if (wrap64 ((x3.length : Int) - 1)) < (x3.length : Int) then (lanyardref04_Bits.l0 k x0 (x3.set ((wrap64 ((x3.length : Int) - 1)) : Int).toNat (((rd x3 (wrap64 ((x3.length : Int) - 1))) + ((x5) % 256)) % 256)) (wrap64 (x4 + 1))) else (none)) else (none))
end
def lanyardref04_Bits.f (k : Nat) (l0 : List Int) : Option (List Int) := lanyardref04_Bits.l0 k l0 ([] : List Int) 0
theorem lanyardref04_Bits.mono_l : ∀ k, (∀ y0 y1 y2, LeO (lanyardref04_Bits.l0 k y0 y1 y2) (lanyardref04_Bits.l0 (k + 1) y0 y1 y2)) ∧ (∀ y0 y1 y2, LeO (lanyardref04_Bits.j1 k y0 y1 y2) (lanyardref04_Bits.j1 (k + 1) y0 y1 y2)) ∧ (∀ y0 y1 y2 y3 y4, LeO (lanyardref04_Bits.l1 k y0 y1 y2 y3 y4) (lanyardref04_Bits.l1 (k + 1) y0 y1 y2 y3 y4))
 | 0 => ⟨fun _ _ _ r h => by simp [lanyardref04_Bits.l0] at h, fun _ _ _ r h => by simp [lanyardref04_Bits.j1] at h, fun _ _ _ _ _ r h => by simp [lanyardref04_Bits.l1] at h⟩
 | k + 1 => by
  obtain ⟨ih0, ih1, ih2⟩ := lanyardref04_Bits.mono_l k
  refine ⟨?_, ?_, ?_⟩
  ·intro y0 y1 y2
   unfold lanyardref04_Bits.l0
   repeat' first
   | (with_reducible exact ih0 _ _ _)
   | (with_reducible exact ih1 _ _ _)
   | (with_reducible exact ih2 _ _ _ _ _)
   | (with_reducible exact LeO.refl _)
   | (with_reducible exact LeO.none _)
   | (with_reducible refine LeO.ite ?_ ?_)
   | (with_reducible refine LeO.bind ?_ (fun _ => ?_))
   | exact ih0 _ _ _
   | exact ih1 _ _ _
   | exact ih2 _ _ _ _ _
   | exact LeO.none _
   | refine LeO.ite ?_ ?_
   | refine LeO.bind ?_ (fun _ => ?_)
  ·intro y0 y1 y2
   unfold lanyardref04_Bits.j1
   repeat' first
   | (with_reducible exact ih0 _ _ _)
   | (with_reducible exact ih1 _ _ _)
   | (with_reducible exact ih2 _ _ _ _ _)
   | (with_reducible exact LeO.refl _)
   | (with_reducible exact LeO.none _)
   | (with_reducible refine LeO.ite ?_ ?_)
   | (with_reducible refine LeO.bind ?_ (fun _ => ?_))
   | exact ih0 _ _ _
   | exact ih1 _ _ _
   | exact ih2 _ _ _ _ _
   | exact LeO.none _
   | refine LeO.ite ?_ ?_
   | refine LeO.bind ?_ (fun _ => ?_)
  ·intro y0 y1 y2 y3 y4
   unfold lanyardref04_Bits.l1
   repeat' first
   | (with_reducible exact ih0 _ _ _)
   | (with_reducible exact ih1 _ _ _)
   | (with_reducible exact ih2 _ _ _ _ _)
   | (with_reducible exact LeO.refl _)
   | (with_reducible exact LeO.none _)
   | (with_reducible refine LeO.ite ?_ ?_)
   | (with_reducible refine LeO.bind ?_ (fun _ => ?_))
   | exact ih0 _ _ _
   | exact ih1 _ _ _
   | exact ih2 _ _ _ _ _
   | exact LeO.none _
   | refine LeO.ite ?_ ?_
   | refine LeO.bind ?_ (fun _ => ?_)
theorem lanyardref04_Bits.mono : ∀ a0 k, LeO (lanyardref04_Bits.f k a0) (lanyardref04_Bits.f (k + 1) a0) := by
 intro a0 k
 obtain ⟨ih0, ih1, ih2⟩ := lanyardref04_Bits.mono_l k
 unfold lanyardref04_Bits.f
 repeat' first
   | (with_reducible exact ih0 _ _ _)
   | (with_reducible exact ih1 _ _ _)
   | (with_reducible exact ih2 _ _ _ _ _)
   | (with_reducible exact LeO.refl _)
   | (with_reducible exact LeO.none _)
   | (with_reducible refine LeO.ite ?_ ?_)
   | (with_reducible refine LeO.bind ?_ (fun _ => ?_))
   | exact ih0 _ _ _
   | exact ih1 _ _ _
   | exact ih2 _ _ _ _ _
   | exact LeO.none _
   | refine LeO.ite ?_ ?_
   | refine LeO.bind ?_ (fun _ => ?_)
set_option maxHeartbeats 8000000 in
set_option maxRecDepth 100000 in
theorem lanyardref04_Bits.calls (k : Nat) (A0 : Option Addr) (c0 : Nat) (l0 : List Int) (r : List Int) (w : World) (hr0 : Kd.C (Kd.int .i64) w A0 l0.length l0) (hc0 : l0.length ≤ c0) (h : lanyardref04_Bits.f k l0 = some r) :
  Calls Try.prog 27 #[.slice A0 l0.length c0] w fun e w' => ∃ v0_ : Value, e = .returned (v0_) ∧ Kd.R (Kd.int .u8) 5 w' w.heap.size (fun _ => True) v0_ r ∧ Below w.heap.size w w' := by
 have HR0 := Aside0.mk hr0
 have HC0 := Aside0.mk hc0
 clear hr0 hc0
 have HB := Aside0.mk (Below.refl w.heap.size w)
 have H : (lanyardref04_Bits.l0 k l0 ([] : List Int) 0) = some r := h
 clear h
 have H' := Aside0.mk H
 clear H
 go_enter Try.func27, Try.ntmps27
 go_wp2
 go_loopg [3, 4] k (fun kq v3 v4 w' => ∃ (x3_1 : List Int) (x4_1 : Int), v4 = .int .i64 x4_1 ∧ Aside0 (lanyardref04_Bits.l0 kq l0 x3_1 x4_1 = some r) ∧ Aside0 (kq ≤ k) ∧ Aside0 (Kd.R (Kd.int .u8) 5 w' w.heap.size (fun _ => True) v3 x3_1) ∧ Aside0 (Below w.heap.size w w'))
 case atStart => exact ⟨(([] : List Int)), (0), (by first | rfl | (simp; done) | (simp [*]; done)), H', ⟨Nat.le_refl _⟩, ⟨by first | exact Kd.R_nil _ _ _ _ _ | exact Kd.N_nil _ _ _ _ _ | exact Kd.V_nil _ _ _ _ _ | exact Kd.Q_nil _ _ _ _ _ | exact Kd.S_nil _ _ _ _ _⟩, ⟨Bu HB⟩⟩
 case round =>
  clear H'
  obtain ⟨x3_1, x4_1, rfl, HA, HK1, HO_3, HB⟩ := hrel
  cases gk with
  | zero => exact absurd HA.out (by simp [lanyardref04_Bits.l0])
  | succ k1 =>
   have H := HA.out
   clear HA
   simp only [lanyardref04_Bits.l0] at H
   by_cases c2 : x4_1 < (l0.length : Int)
   ·rw [if_pos c2] at H
    have c2b0 : decide (x4_1 < (l0.length : Int)) = true := decide_eq_true c2
    clear c2
    have HC3 := Aside0.mk H
    clear H
    go_upto_if 15 with (fail)
    go_cut [3] (fun v3 wc => ∃ (kq : Nat) (x3_2 : List Int), Aside0 (lanyardref04_Bits.j1 kq l0 x3_2 x4_1 = some r) ∧ Aside0 (kq ≤ k1) ∧ Aside0 (Kd.R (Kd.int .u8) 5 wc w.heap.size (fun _ => True) v3 x3_2) ∧ Aside0 (Below w.heap.size w wc))
    case first =>
     have H := HC3.out
     clear HC3
     by_cases c4 : (Int.tmod x4_1 8) = 0
     ·rw [if_pos c4] at H
      have c4b0 : ((Int.tmod x4_1 8) == 0) = true := beq_iff_eq.mpr c4
      have c4b1 : ((Int.tmod x4_1 8) != 0) = false := bne_eq_false_iff_eq.mpr c4
      clear c4
      (first | rw [c4b0] | (simp only [i64_w, i32_w]; rw [c4b0]) | skip)
      by_cases c5 : x3_1.length < 140737488355328
      ·rw [if_pos c5] at H
       have LMc5 := Aside0.mk c5
       clear c5
       obtain ⟨y149, hy149⟩ : ∃ y_ : List Int, y_ = (x3_1 ++ [0]) := ⟨_, rfl⟩
       replace H : (lanyardref04_Bits.j1 k1 l0 y149 x4_1) = some r := by first | (rw [hy149]; with_reducible exact H) | (have H2_ := (Option.bind_some _ _).symm.trans H; rw [hy149]; with_reducible exact H2_) | (have H2_ := (Option.bind_some _ _).symm.trans H; with_reducible exact H2_) | with_reducible exact H | (rw [hy149]; exact H) | exact H
       have Ny149 := Aside0.mk hy149
       clear hy149
       have H' := Aside0.mk H
       clear H
       go_wp2_with (first | ((with_reducible refine gate_builtin (b := .append) (xs := #[.tmp 16, .tmp 17]) rfl ?_); at_builtin; refine Kd.R_append (Kd.int .u8) (w0 := w) w.heap.size rfl (.tmp 16) (.tmp 17) 22 5 (.int .u8 0) 1 rfl Try.underlying22 info5 rfl (by decide) (by omega) u3 x3_1 0 [.int .u8 0] (fun _ => True) (fun _ => False) rfl rfl ?aP (fun _ hk => hk.elim) ?aF ?aO ?aB ?aS ?aL ?_; (case aP => exact rfl); (case aB => exact (Bu HB)); (case aF => exact (fun _ _ => trivial)); (case aO => exact (Ru HO_3)); (case aS => exact (Bz HB)); (case aL => have := LMc5.out; omega); intro v150 w6 ho hb hg hat; rw [← Ny149.out] at ho; have n0_ := Aside0.mk (hb); have n1_ := Aside0.mk (ho); clear HB HO_3; revert n0_ n1_; intro HB HO151; clear ho hb hg hat))
       go_meet
       case rel => exact ⟨_, (y149), H', ⟨by have := HK1.out; first | omega | exact Nat.le_refl _⟩, ⟨Ru HO151⟩, ⟨Bu HB⟩⟩
      ·rw [if_neg c5] at H
       exact absurd H (by simp)
     ·rw [if_neg c4] at H
      have c4b0 : ((Int.tmod x4_1 8) == 0) = false := beq_eq_false_iff_ne.mpr c4
      have c4b1 : ((Int.tmod x4_1 8) != 0) = true := bne_iff_ne.mpr c4
      (first | rw [c4b0] | (simp only [i64_w, i32_w]; rw [c4b0]) | skip)
      have H' := Aside0.mk H
      clear H
      go_wp2
      go_meet
      case rel => exact ⟨_, (x3_1), H', ⟨by have := HK1.out; first | omega | exact Nat.le_refl _⟩, ⟨Ru HO_3⟩, ⟨Bu HB⟩⟩
    case rest =>
     clear HC3
     try clear c2
     try clear c2b0
     try clear p2
     try clear c4
     try clear c4b0
     try clear c4b1
     try clear c5
     obtain ⟨kq, x3_2, HA, HJ2, HO_3, HB⟩ := hcut
     cases kq with
     | zero => exact absurd HA.out (by simp [lanyardref04_Bits.j1])
     | succ kj2 =>
      have H := HA.out
      clear HA
      simp only [lanyardref04_Bits.j1] at H
      by_cases c7 : 0 ≤ x4_1
      ·rw [if_pos c7] at H
       have c7b0 : decide (0 ≤ x4_1) = true := decide_eq_true c7
       clear c7
       by_cases c8 : x4_1 < (l0.length : Int)
       ·rw [if_pos c8] at H
        have c8b0 : decide (x4_1 < (l0.length : Int)) = true := decide_eq_true c8
        clear c8
        have H' := Aside0.mk H
        clear H
        have p152 : 0 ≤ (x4_1 : Int) := of_decide_eq_true (by first | (with_reducible assumption) | assumption)
        have q152 : x4_1 < (l0.length : Int) := of_decide_eq_true (by first | (with_reducible assumption) | assumption)
        obtain ⟨ad152, e152, hx152_0⟩ := Kd.at_int HR0.out x4_1 p152 q152
        cases e152
        replace hx152_0 := (HB.out.cell (World.block_lt_of_cell? w _ hx152_0)).trans hx152_0
        replace p152 := eq_true p152
        replace q152 := eq_true q152
        go_wp2
        go_loopg [5, 6] kj2 (fun kq v5 v6 w' => ∃ (x5_3 : Int) (x6_3 : Int), v5 = .int .i64 x5_3 ∧ v6 = .int .i64 x6_3 ∧ Aside0 (lanyardref04_Bits.l1 kq l0 x3_2 x4_1 x5_3 x6_3 = some r) ∧ Aside0 (kq ≤ kj2) ∧ Aside0 (Kd.R (Kd.int .u8) 5 w' w.heap.size (fun _ => True) u3 x3_2) ∧ Aside0 (Below w.heap.size w w'))
        case atStart => exact ⟨(rd l0 x4_1), (0), (by first | rfl | (simp; done) | (simp [*]; done)), (by first | rfl | (simp; done) | (simp [*]; done)), H', ⟨Nat.le_refl _⟩, ⟨Ru HO_3⟩, ⟨Bu HB⟩⟩
        case round =>
         clear H'
         try clear p1
         try clear q1
         try clear hx1
         try clear c2
         try clear c2b0
         try clear p2
         try clear c4
         try clear c4b0
         try clear c4b1
         try clear c5
         try clear c7
         try clear c7b0
         try clear c8
         try clear c8b0
         try clear hx152_0
         try clear p152
         try clear p2
         try clear q152
         obtain ⟨x5_3, x6_3, rfl, rfl, HA, HK3, HO_3, HB⟩ := hrel
         cases gk with
         | zero => exact absurd HA.out (by simp [lanyardref04_Bits.l1])
         | succ k3 =>
          have H := HA.out
          clear HA
          simp only [lanyardref04_Bits.l1] at H
          by_cases c9 : x6_3 < (Int.tmod x4_1 8)
          ·rw [if_pos c9] at H
           have c9b0 : decide (x6_3 < (Int.tmod x4_1 8)) = true := decide_eq_true c9
           clear c9
           have H' := Aside0.mk H
           clear H
           go_wp2
           go_roundg k3
           case measure => have := HK1.out; have := HJ2.out; have := HK3.out; omega
           case rel => exact ⟨(wrap64 (x5_3 * 2)), (wrap64 (x6_3 + 1)), (by first | rfl | (simp; done) | (simp [*]; done)), (by first | rfl | (simp; done) | (simp [*]; done)), H', ⟨by have := HK1.out; have := HJ2.out; have := HK3.out; omega⟩, ⟨Ru HO_3⟩, ⟨Bu HB⟩⟩
          ·rw [if_neg c9] at H
           have c9b0 : decide (x6_3 < (Int.tmod x4_1 8)) = false := decide_eq_false c9
           clear c9
           obtain ⟨ji10, hji10⟩ : ∃ j_ : Int, (wrap64 ((x3_2.length : Int) - 1)) = j_ := ⟨_, rfl⟩
           replace H : (if 0 ≤ (ji10) then (if (ji10) < (x3_2.length : Int) then (lanyardref04_Bits.l0 k3 l0 (x3_2.set ((ji10) : Int).toNat (((rd x3_2 (ji10)) + ((x5_3) % 256)) % 256)) (wrap64 (x4_1 + 1))) else (none)) else (none)) = some r := by first | (rw [hji10] at H; exact H) | (simp only [hji10] at H ⊢; exact H)
           have hji10w : (IntKind.i64.wrap ((x3_2.length : Int) - 1)) = ji10 := (i64_w _).trans hji10
           by_cases c11 : 0 ≤ (ji10)
           ·rw [if_pos c11] at H
            have c11b0 : decide (0 ≤ (ji10)) = true := decide_eq_true c11
            clear c11
            by_cases c12 : (ji10) < (x3_2.length : Int)
            ·rw [if_pos c12] at H
             have c12b0 : decide ((ji10) < (x3_2.length : Int)) = true := decide_eq_true c12
             clear c12
             obtain ⟨y154, hy154⟩ : ∃ y_ : List Int, y_ = (x3_2.set ((ji10) : Int).toNat (((rd x3_2 (ji10)) + ((x5_3) % 256)) % 256)) := ⟨_, rfl⟩
             replace H : (lanyardref04_Bits.l0 k3 l0 y154 (wrap64 (x4_1 + 1))) = some r := by first | (rw [hy154]; with_reducible exact H) | (have H2_ := (Option.bind_some _ _).symm.trans H; rw [hy154]; with_reducible exact H2_) | (have H2_ := (Option.bind_some _ _).symm.trans H; with_reducible exact H2_) | with_reducible exact H | (rw [hy154]; exact H) | exact H
             have Ny154 := Aside0.mk hy154
             clear hy154
             have H' := Aside0.mk H
             clear H
             obtain ⟨Ao14, co14, eo14⟩ := Kd.R_slice HO_3.out
             subst eo14
             have p153 : 0 ≤ ((ji10) : Int) := of_decide_eq_true (by first | (with_reducible assumption) | assumption)
             have q153 : (ji10) < (x3_2.length : Int) := of_decide_eq_true (by first | (with_reducible assumption) | assumption)
             obtain ⟨ad153, e153, hx153_0⟩ := Kd.at_int (Kd.R_reads' HO_3.out).2.2 (ji10) p153 q153
             cases e153
             replace p153 := eq_true p153
             replace q153 := eq_true q153
             have p13 : 0 ≤ ((ji10) : Int) := of_decide_eq_true (by first | (with_reducible assumption) | assumption)
             have q13 : ((ji10) : Int) < ((x3_2.length : Int) : Int) := of_decide_eq_true (by first | (with_reducible assumption) | assumption)
             obtain ⟨go13, co13, eo13, gb13, gl13, cl13, HG13⟩ := Kd.R_form HO_3.out (by omega)
             (first | cases eo13 | (injection eo13 with ea_ en_ ec_; (first | subst ea_ | (injection ea_ with ea_; subst ea_)); subst ec_; clear en_))
             have GB13 := Aside0.mk gb13
             have GG13 := Aside0.mk HG13
             clear gb13 gl13 HG13
             (first | simp only [add_plain] at hx153_0 | skip)
             obtain ⟨hx13_0, hf13_0⟩ := Kd.R_celln 0 HO_3.out ((ji10) : Int) p13 q13
             replace p13 := eq_true p13
             replace q13 := eq_true q13
             have HP15 := Kd.R_putg HO_3.out ((ji10) : Int) (((rd x3_2 (ji10)) + ((x5_3) % 256)) % 256)
             go_wp2_with (first | ((with_reducible refine gate_store (t := 5) (p := 44) rfl ?_); refine store_event (t := 5) (p := 44) (v := ?vo_w16) (w1 := (wr.setCell ⟨go13, ((ji10) : Int).toNat, none⟩ (.int .u8 (((rd x3_2 (ji10)) + ((x5_3) % 256)) % 256)))) ?hg ?ho ?hn ?hr ?_; (case ho => rfl); (case hg => rfl); (case hn => rfl); (case hr => first | (go_simp; done) | (go_simp; rfl)); intro w16 hw; have hg : wr.grownBy w16 (some go13) := (by rw [hw]; exact HP15.2); have hp_ : Kd.R (Kd.int .u8) 5 w16 w.heap.size (fun _ => True) (.slice (some ⟨go13, 0, none⟩) x3_2.length co14) y154 := (by rw [hw, Ny154.out]; exact HP15.1); clear HP15; have n0_ := Aside0.mk (hp_); have n1_ := Aside0.mk ((by rw [hw]; exact below_set (HB.out) GB13.out : Below w.heap.size w w16)); clear HO_3 HB; revert n0_ n1_; intro HO_3 HB; clear hg hw hp_))
             go_roundg k3
             case measure => have := HK1.out; have := HJ2.out; have := HK3.out; omega
             case rel => exact ⟨(y154), (wrap64 (x4_1 + 1)), (by first | rfl | (simp; done) | (simp [*]; done)), H', ⟨by have := HK1.out; have := HJ2.out; have := HK3.out; omega⟩, ⟨Ru HO_3⟩, ⟨Bu HB⟩⟩
            ·rw [if_neg c12] at H
             exact absurd H (by simp)
           ·rw [if_neg c11] at H
            exact absurd H (by simp)
       ·rw [if_neg c8] at H
        exact absurd H (by simp)
      ·rw [if_neg c7] at H
       exact absurd H (by simp)
   ·rw [if_neg c2] at H
    have c2b0 : decide (x4_1 < (l0.length : Int)) = false := decide_eq_false c2
    clear c2
    obtain rfl := Option.some.inj H
    go_wp2
    go_ret
    exact ⟨_, rfl_, Ru HO_3, Bu HB⟩

end Go.Proofs.Ytbokeoncpilgpaa.Hp
