/- Go functions of this seat as Lean functions, and their contracts: what the Go code computes, for every input. (By hp.py, a program of this repo, over the kit's print.py.) -/
import Derived.Test.YtcofpbndaljppaaDoorHp0
import Derived.Test.YtcofpbndaljppaaDoorHp1
import Derived.Test.YtcofpbndaljppaaDoorHp4
import Derived.Test.YtcofpbndaljppaaDoorHp5
import Derived.Test.YtcofpbndaljppaaDoorHp7
import Derived.Test.YtcofpbndaljppaaDoorHp8
import Derived.Test.YtcofpbndaljppaaDoorHp9
namespace Go.Proofs.YtcofpbndaljppaaDoor.Hp
open Go.RowKit Go.Proofs.YtcofpbndaljppaaDoorW.PrintWords Go.Proofs.YtcofpbndaljppaaDoorW.PrintLast Go.Proofs.YtcofpbndaljppaaDoorW.PrintMore
attribute [local go_sem] max2_int min2_int max_two min_two max_three min_three max_four min_four   -- for this text's walks alone
set_option linter.unusedVariables false
set_option linter.unusedSimpArgs false

/-! ### lanyardref06_Exp: function 17 -/
mutual
def lanyardref06_Exp.l0 : Nat → List Int → List Int → List Int → List Int → Int → Option (List Int)
 | 0, _, _, _, _, _ => none
 | k + 1, x1, x2, x8, x10, x11 => if x11 ≥ 0 then (lanyardref06_Exp.l1 k x1 x2 x8 x10 x11 128) else (some x10)
def lanyardref06_Exp.l1 : Nat → List Int → List Int → List Int → List Int → Int → Int → Option (List Int)
 | 0, _, _, _, _, _, _ => none
 | k + 1, x1, x2, x8, x10, x11, x12 => if x12 ≥ 1 then ((lanyardref06_Mul.f k x10 x10).bind fun t569 => ((lanyardref06_Div.f k t569 x2).bind fun bt572 => (if 0 ≤ x11 then (if x11 < (x1.length : Int) then (if x12 = 0 then (none) else (if (Int.tmod (wrap64 (Int.tdiv (rd x1 x11) x12)) 2) = 1 then ((lanyardref06_Mul.f k bt572.2 x8).bind fun t579 => ((lanyardref06_Div.f k t579 x2).bind fun bt582 => (lanyardref06_Exp.l1 k x1 x2 x8 bt582.2 x11 (wrap64 (Int.tdiv x12 2))))) else (lanyardref06_Exp.l1 k x1 x2 x8 bt572.2 x11 (wrap64 (Int.tdiv x12 2))))) else (none)) else (none)))) else (lanyardref06_Exp.l0 k x1 x2 x8 x10 (wrap64 (x11 - 1)))
end
def lanyardref06_Exp.f (k : Nat) (l0 : List Int) (l1 : List Int) (l2 : List Int) : Option (List Int) := (lanyardref06_Div.f k l0 l2).bind fun bt554 => ((lanyardref06_Div.f k (([1] : List Int)) l2).bind fun bt563 => (lanyardref06_Exp.l0 k l1 l2 bt554.2 bt563.2 (wrap64 ((l1.length : Int) - 1))))
theorem lanyardref06_Exp.mono_l : ∀ k, (∀ y0 y1 y2 y3 y4, LeO (lanyardref06_Exp.l0 k y0 y1 y2 y3 y4) (lanyardref06_Exp.l0 (k + 1) y0 y1 y2 y3 y4)) ∧ (∀ y0 y1 y2 y3 y4 y5, LeO (lanyardref06_Exp.l1 k y0 y1 y2 y3 y4 y5) (lanyardref06_Exp.l1 (k + 1) y0 y1 y2 y3 y4 y5))
 | 0 => ⟨fun _ _ _ _ _ r h => by simp [lanyardref06_Exp.l0] at h, fun _ _ _ _ _ _ r h => by simp [lanyardref06_Exp.l1] at h⟩
 | k + 1 => by
  obtain ⟨ih0, ih1⟩ := lanyardref06_Exp.mono_l k
  refine ⟨?_, ?_⟩
  ·intro y0 y1 y2 y3 y4
   unfold lanyardref06_Exp.l0
   repeat' first
   | (with_reducible exact ih0 _ _ _ _ _)
   | (with_reducible exact ih1 _ _ _ _ _ _)
   | (with_reducible exact lanyardref06_Div.mono _ _ _)
   | (with_reducible exact lanyardref06_Mul.mono _ _ _)
   | (with_reducible exact LeO.refl _)
   | (with_reducible exact LeO.none _)
   | (with_reducible refine LeO.ite ?_ ?_)
   | (with_reducible refine LeO.bind ?_ (fun _ => ?_))
   | exact ih0 _ _ _ _ _
   | exact ih1 _ _ _ _ _ _
   | exact lanyardref06_Div.mono _ _ _
   | exact lanyardref06_Mul.mono _ _ _
   | exact LeO.none _
   | refine LeO.ite ?_ ?_
   | refine LeO.bind ?_ (fun _ => ?_)
  ·intro y0 y1 y2 y3 y4 y5
   unfold lanyardref06_Exp.l1
   repeat' first
   | (with_reducible exact ih0 _ _ _ _ _)
   | (with_reducible exact ih1 _ _ _ _ _ _)
   | (with_reducible exact lanyardref06_Div.mono _ _ _)
   | (with_reducible exact lanyardref06_Mul.mono _ _ _)
   | (with_reducible exact LeO.refl _)
   | (with_reducible exact LeO.none _)
   | (with_reducible refine LeO.ite ?_ ?_)
   | (with_reducible refine LeO.bind ?_ (fun _ => ?_))
   | exact ih0 _ _ _ _ _
   | exact ih1 _ _ _ _ _ _
   | exact lanyardref06_Div.mono _ _ _
   | exact lanyardref06_Mul.mono _ _ _
   | exact LeO.none _
   | refine LeO.ite ?_ ?_
   | refine LeO.bind ?_ (fun _ => ?_)
theorem lanyardref06_Exp.mono : ∀ a0 a1 a2 k, LeO (lanyardref06_Exp.f k a0 a1 a2) (lanyardref06_Exp.f (k + 1) a0 a1 a2) := by
 intro a0 a1 a2 k
 obtain ⟨ih0, ih1⟩ := lanyardref06_Exp.mono_l k
 unfold lanyardref06_Exp.f
 repeat' first
   | (with_reducible exact ih0 _ _ _ _ _)
   | (with_reducible exact ih1 _ _ _ _ _ _)
   | (with_reducible exact lanyardref06_Div.mono _ _ _)
   | (with_reducible exact lanyardref06_Mul.mono _ _ _)
   | (with_reducible exact LeO.refl _)
   | (with_reducible exact LeO.none _)
   | (with_reducible refine LeO.ite ?_ ?_)
   | (with_reducible refine LeO.bind ?_ (fun _ => ?_))
   | exact ih0 _ _ _ _ _
   | exact ih1 _ _ _ _ _ _
   | exact lanyardref06_Div.mono _ _ _
   | exact lanyardref06_Mul.mono _ _ _
   | exact LeO.none _
   | refine LeO.ite ?_ ?_
   | refine LeO.bind ?_ (fun _ => ?_)
set_option maxHeartbeats 8000000 in
set_option maxRecDepth 100000 in
theorem lanyardref06_Exp.calls (k : Nat) (A0 : Option Addr) (c0 : Nat) (l0 : List Int) (A1 : Option Addr) (c1 : Nat) (l1 : List Int) (P2_ : Nat → Prop) (A2 : Option Addr) (c2 : Nat) (l2 : List Int) (r : List Int) (w : World) (hr0 : Kd.C (Kd.int .i64) w A0 l0.length l0) (hc0 : l0.length ≤ c0) (hr1 : Kd.C (Kd.int .i64) w A1 l1.length l1) (hc1 : l1.length ≤ c1) (hs2 : Kd.V (Kd.int .i64) 3 w w.heap.size (fun k_ => P2_ k_) (.slice A2 l2.length c2) l2) (h : lanyardref06_Exp.f k l0 l1 l2 = some r) :
  Calls Tryd.prog 17 #[.slice A0 l0.length c0, .slice A1 l1.length c1, .slice A2 l2.length c2] w fun e w' => ∃ v0_ : Value, e = .returned (v0_) ∧ Kd.V (Kd.int .i64) 3 w' w.heap.size (fun k_ => (P2_ k_ ∨ w.heap.size ≤ k_)) v0_ r ∧ Below w.heap.size w w' := by
 have HR0 := Aside0.mk hr0
 have HC0 := Aside0.mk hc0
 clear hr0 hc0
 have HR1 := Aside0.mk hr1
 have HC1 := Aside0.mk hc1
 clear hr1 hc1
 have HO2 := Aside0.mk (show Kd.V (Kd.int .i64) 3 w w.heap.size (fun k_ => (P2_ k_ ∨ w.heap.size ≤ k_)) (.slice A2 l2.length c2) l2 from Kd.V_mono hs2 (fun k_ hk => .inl hk))
 have HB := Aside0.mk (Below.refl w.heap.size w)
 have H : ((lanyardref06_Div.f k l0 l2).bind fun bt554 => ((lanyardref06_Div.f k (([1] : List Int)) l2).bind fun bt563 => (lanyardref06_Exp.l0 k l1 l2 bt554.2 bt563.2 (wrap64 ((l1.length : Int) - 1))))) = some r := h
 clear h
 replace H := Option.bind_eq_some_iff.mp H
 obtain ⟨⟨t554, t557⟩, A40, H⟩ := H
 replace H : ((lanyardref06_Div.f k (([1] : List Int)) l2).bind fun bt563 => (lanyardref06_Exp.l0 k l1 l2 t557 bt563.2 (wrap64 ((l1.length : Int) - 1)))) = some r := H
 have A4 := Aside0.mk A40
 clear A40
 obtain ⟨y560, hy560⟩ : ∃ y_ : List Int, y_ = (([1] : List Int)) := ⟨_, rfl⟩
 replace H : ((lanyardref06_Div.f k y560 l2).bind fun bt563 => (lanyardref06_Exp.l0 k l1 l2 t557 bt563.2 (wrap64 ((l1.length : Int) - 1)))) = some r := by first | (rw [hy560]; with_reducible exact H) | (have H2_ := (Option.bind_some _ _).symm.trans H; rw [hy560]; with_reducible exact H2_) | (have H2_ := (Option.bind_some _ _).symm.trans H; with_reducible exact H2_) | with_reducible exact H | (rw [hy560]; exact H) | exact H
 have Ny560 := Aside0.mk hy560
 clear hy560
 replace H := Option.bind_eq_some_iff.mp H
 obtain ⟨⟨t563, t566⟩, A50, H⟩ := H
 replace H : (lanyardref06_Exp.l0 k l1 l2 t557 t566 (wrap64 ((l1.length : Int) - 1))) = some r := H
 have A5 := Aside0.mk A50
 clear A50
 have H' := Aside0.mk H
 clear H
 go_enter Tryd.func17, Tryd.ntmps17
 go_wp2_with (first | ((with_reducible refine gate_callee (f := 14) rfl ?_); refine goesA (some 16) Tryd.func14 #[.slice A0 l0.length c0, .slice A2 l2.length c2] rfl ?_; (with_reducible refine (lanyardref06_Div.calls k _ _ l0 (fun k_ => (P2_ k_ ∨ w.heap.size ≤ k_)) _ _ l2 t554 t557 _ ?side1 ?side2 ?side3 A4.out).mono ?_); (case side1 => exact Cu HR0.out); (case side2 => exact HC0.out); (case side3 => exact HO2.out); rintro e w6 ⟨v555, v558, rfl, ho0, ho1, hb⟩; refine ⟨_, rfl, ?_⟩; have n0_ := Vb HO2 hb; have n1_ := Aside0.mk (Kd.V_lower (Kd.V_mono (ok' := fun k_ => (P2_ k_ ∨ w.heap.size ≤ k_)) ho0 (fun k_ hk_ => Or.elim hk_ (fun hs_ => hs_) (fun hn_ => (.inr (Nat.le_trans (Bz HB) hn_))))) (Bz HB)); have n2_ := Aside0.mk (Kd.V_lower (Kd.V_mono (ok' := fun k_ => (P2_ k_ ∨ w.heap.size ≤ k_)) ho1 (fun k_ hk_ => Or.elim hk_ (fun hs_ => hs_) (fun hn_ => (.inr (Nat.le_trans (Bz HB) hn_))))) (Bz HB)); have n3_ := Bs HB hb; clear HO2 HB; revert n0_ n1_ n2_ n3_; intro HO2 HO556 HO559 HB; (try clear hb); (try clear hb2); (try clear hk); (try clear hi); (try clear ho0); (try clear ho1)) | ((with_reducible refine gate_dst (N := 20) rfl ?_); refine litI .i64 3 20 [1] [.int .i64 1] ?hr ?_; (case hr => first | (go_simp; done) | (go_simp; rfl)); intro v561 w7 ho8 hb; (first | rw [← Ny560.out] at ho8 | (simp only [Int.reduceToNat] at ho8; rw [← Ny560.out] at ho8)); have n0_ := Ve HO2 (Kd.R_base ho8) hb; have n1_ := Ve HO556 (Kd.R_base ho8) hb; have n2_ := Ve HO559 (Kd.R_base ho8) hb; have n3_ := Aside0.mk (Kd.R_lower (Kd.R_newM (M := fun k_ => (w.heap.size ≤ k_)) ho8 (Bz HB) (fun k_ h_ => h_)) (Bz HB)); have n4_ := Bs HB hb; clear HO2 HO556 HO559 HB; revert n0_ n1_ n2_ n3_ n4_; intro HO2 HO556 HO559 HO562 HB; clear hb ho8; obtain ⟨Ao9, co9, eo9⟩ := Kd.R_slice HO562.out; subst eo9) | ((with_reducible refine gate_callee (f := 14) rfl ?_); refine goesA (some 22) Tryd.func14 #[.slice Ao9 y560.length co9, .slice A2 l2.length c2] rfl ?_; (with_reducible refine (lanyardref06_Div.calls k _ _ y560 (fun k_ => ((P2_ k_ ∨ w.heap.size ≤ k_) ∧ some k_ ≠ (.slice Ao9 y560.length co9 : Value).ownBlock)) _ _ l2 t563 t566 _ ?side1 ?side2 ?side3 A5.out).mono ?_); (case side1 => exact Cu (Kd.R_reads' HO562.out).2.2); (case side2 => exact (Kd.R_reads' HO562.out).2.1); (case side3 => exact HO2.out); rintro e w10 ⟨v564, v567, rfl, ho0, ho1, hb⟩; refine ⟨_, rfl, ?_⟩; have n0_ := Vb HO2 hb; have n1_ := Vb HO556 hb; have n2_ := Vb HO559 hb; have n3_ := Rb HO562 hb; have n4_ := Aside0.mk (Kd.V_lower (Kd.V_mono (ok' := fun k_ => (P2_ k_ ∨ w.heap.size ≤ k_) ∧ some k_ ≠ (.slice Ao9 y560.length co9 : Value).ownBlock) ho0 (fun k_ hk_ => ⟨Or.elim hk_ (fun hs_ => hs_.1) (fun hn_ => (.inr (Nat.le_trans (Bz HB) hn_))), Or.elim hk_ (fun hs_ => hs_.2) (fun hn_ => (Kd.fresh' (Kd.R_lt (Ru HO562)) k_ hn_))⟩)) (Bz HB)); have n5_ := Aside0.mk (Kd.V_lower (Kd.V_mono (ok' := fun k_ => (P2_ k_ ∨ w.heap.size ≤ k_) ∧ some k_ ≠ (.slice Ao9 y560.length co9 : Value).ownBlock) ho1 (fun k_ hk_ => ⟨Or.elim hk_ (fun hs_ => hs_.1) (fun hn_ => (.inr (Nat.le_trans (Bz HB) hn_))), Or.elim hk_ (fun hs_ => hs_.2) (fun hn_ => (Kd.fresh' (Kd.R_lt (Ru HO562)) k_ hn_))⟩)) (Bz HB)); have n6_ := Bs HB hb; clear HO2 HO556 HO559 HO562 HB; revert n0_ n1_ n2_ n3_ n4_ n5_ n6_; intro HO2 HO556 HO559 HO562 HO565 HO568 HB; (try clear hb); (try clear hb2); (try clear hk); (try clear hi); (try clear ho0); (try clear ho1)))
 go_loopg [10, 11] k (fun kq v10 v11 w' => ∃ (x10_1 : List Int) (x11_1 : Int), v11 = .int .i64 x11_1 ∧ Aside0 (lanyardref06_Exp.l0 kq l1 l2 t557 x10_1 x11_1 = some r) ∧ Aside0 (kq ≤ k) ∧ Aside0 (Kd.V (Kd.int .i64) 3 w' w.heap.size (fun k_ => (P2_ k_ ∨ w.heap.size ≤ k_)) (.slice A2 l2.length c2) l2) ∧ Aside0 (Kd.V (Kd.int .i64) 3 w' w.heap.size (fun k_ => (P2_ k_ ∨ w.heap.size ≤ k_)) v558 t557) ∧ Aside0 (Kd.V (Kd.int .i64) 3 w' w.heap.size (fun k_ => (P2_ k_ ∨ w.heap.size ≤ k_)) v10 x10_1) ∧ Aside0 (Below w.heap.size w w'))
 case atStart => exact ⟨(t566), (wrap64 ((l1.length : Int) - 1)), (by first | rfl | (simp; done) | (simp [*]; done)), H', ⟨Nat.le_refl _⟩, ⟨by (with_reducible repeat (first | apply Kd.V_alloc | apply Kd.V_drewN | apply Kd.V_drew)); exact Kd.V_mono HO2.out (fun _ hk => hk.1)⟩, ⟨by (with_reducible repeat (first | apply Kd.V_alloc | apply Kd.V_drewN | apply Kd.V_drew)); exact Kd.V_mono HO559.out (fun _ hk => hk.1)⟩, ⟨by (with_reducible repeat (first | apply Kd.V_alloc | apply Kd.V_drewN | apply Kd.V_drew)); exact Kd.V_mono HO568.out (fun _ hk => hk.1)⟩, ⟨Bu HB⟩⟩
 case round =>
  clear H'
  try clear c1
  try clear c2
  try clear p2
  try clear p6
  obtain ⟨x10_1, x11_1, rfl, HA, HK1, HO_2, HO_8, HO_10, HB⟩ := hrel
  cases gk with
  | zero => exact absurd HA.out (by simp [lanyardref06_Exp.l0])
  | succ k1 =>
   have H := HA.out
   clear HA
   simp only [lanyardref06_Exp.l0] at H
   by_cases c11 : x11_1 ≥ 0
   ·rw [if_pos c11] at H
    have c11b0 : decide (0 ≤ x11_1) = true := decide_eq_true c11
    clear c11
    have H' := Aside0.mk H
    clear H
    go_wp2
    go_loopg [10, 12] k1 (fun kq v10 v12 w' => ∃ (x10_2 : List Int) (x12_2 : Int), v12 = .int .i64 x12_2 ∧ Aside0 (lanyardref06_Exp.l1 kq l1 l2 t557 x10_2 x11_1 x12_2 = some r) ∧ Aside0 (kq ≤ k1) ∧ Aside0 (Kd.V (Kd.int .i64) 3 w' w.heap.size (fun k_ => (P2_ k_ ∨ w.heap.size ≤ k_)) (.slice A2 l2.length c2) l2) ∧ Aside0 (Kd.V (Kd.int .i64) 3 w' w.heap.size (fun k_ => (P2_ k_ ∨ w.heap.size ≤ k_)) v558 t557) ∧ Aside0 (Kd.V (Kd.int .i64) 3 w' w.heap.size (fun k_ => (P2_ k_ ∨ w.heap.size ≤ k_)) v10 x10_2) ∧ Aside0 (Below w.heap.size w w'))
    case atStart => exact ⟨(x10_1), (128), (by first | rfl | (simp; done) | (simp [*]; done)), H', ⟨Nat.le_refl _⟩, ⟨Vu HO_2⟩, ⟨Vu HO_8⟩, ⟨Vu HO_10⟩, ⟨Bu HB⟩⟩
    case round =>
     clear H'
     try clear c1
     try clear c2
     try clear p2
     try clear p6
     try clear c11
     try clear c11b0
     try clear p2
     try clear p6
     obtain ⟨x10_2, x12_2, rfl, HA, HK2, HO_2, HO_8, HO_10, HB⟩ := hrel
     cases gk with
     | zero => exact absurd HA.out (by simp [lanyardref06_Exp.l1])
     | succ k2 =>
      have H := HA.out
      clear HA
      simp only [lanyardref06_Exp.l1] at H
      by_cases c12 : x12_2 ≥ 1
      ·rw [if_pos c12] at H
       have c12b0 : decide (1 ≤ x12_2) = true := decide_eq_true c12
       clear c12
       replace H := Option.bind_eq_some_iff.mp H
       obtain ⟨t569, A130, H⟩ := H
       replace H : ((lanyardref06_Div.f k2 t569 l2).bind fun bt572 => (if 0 ≤ x11_1 then (if x11_1 < (l1.length : Int) then (if x12_2 = 0 then (none) else (if (Int.tmod (wrap64 (Int.tdiv (rd l1 x11_1) x12_2)) 2) = 1 then ((lanyardref06_Mul.f k2 bt572.2 t557).bind fun t579 => ((lanyardref06_Div.f k2 t579 l2).bind fun bt582 => (lanyardref06_Exp.l1 k2 l1 l2 t557 bt582.2 x11_1 (wrap64 (Int.tdiv x12_2 2))))) else (lanyardref06_Exp.l1 k2 l1 l2 t557 bt572.2 x11_1 (wrap64 (Int.tdiv x12_2 2))))) else (none)) else (none))) = some r := H
       have A13 := Aside0.mk A130
       clear A130
       replace H := Option.bind_eq_some_iff.mp H
       obtain ⟨⟨t572, t575⟩, A140, H⟩ := H
       replace H : (if 0 ≤ x11_1 then (if x11_1 < (l1.length : Int) then (if x12_2 = 0 then (none) else (if (Int.tmod (wrap64 (Int.tdiv (rd l1 x11_1) x12_2)) 2) = 1 then ((lanyardref06_Mul.f k2 t575 t557).bind fun t579 => ((lanyardref06_Div.f k2 t579 l2).bind fun bt582 => (lanyardref06_Exp.l1 k2 l1 l2 t557 bt582.2 x11_1 (wrap64 (Int.tdiv x12_2 2))))) else (lanyardref06_Exp.l1 k2 l1 l2 t557 t575 x11_1 (wrap64 (Int.tdiv x12_2 2))))) else (none)) else (none)) = some r := H
       have A14 := Aside0.mk A140
       clear A140
       by_cases c15 : 0 ≤ x11_1
       ·rw [if_pos c15] at H
        have c15b0 : decide (0 ≤ x11_1) = true := decide_eq_true c15
        clear c15
        by_cases c16 : x11_1 < (l1.length : Int)
        ·rw [if_pos c16] at H
         have c16b0 : decide (x11_1 < (l1.length : Int)) = true := decide_eq_true c16
         clear c16
         by_cases c17 : x12_2 = 0
         ·rw [if_pos c17] at H
          exact absurd H (by simp)
         ·rw [if_neg c17] at H
          have c17b0 : (x12_2 == 0) = false := beq_eq_false_iff_ne.mpr c17
          have c17b1 : (x12_2 != 0) = true := bne_iff_ne.mpr c17
          by_cases c18 : (Int.tmod (wrap64 (Int.tdiv (rd l1 x11_1) x12_2)) 2) = 1
          ·rw [if_pos c18] at H
           have c18b0 : ((Int.tmod (wrap64 (Int.tdiv (rd l1 x11_1) x12_2)) 2) == 1) = true := beq_iff_eq.mpr c18
           have c18b1 : ((Int.tmod (wrap64 (Int.tdiv (rd l1 x11_1) x12_2)) 2) != 1) = false := bne_eq_false_iff_eq.mpr c18
           clear c18
           replace H := Option.bind_eq_some_iff.mp H
           obtain ⟨t579, A190, H⟩ := H
           replace H : ((lanyardref06_Div.f k2 t579 l2).bind fun bt582 => (lanyardref06_Exp.l1 k2 l1 l2 t557 bt582.2 x11_1 (wrap64 (Int.tdiv x12_2 2)))) = some r := H
           have A19 := Aside0.mk A190
           clear A190
           replace H := Option.bind_eq_some_iff.mp H
           obtain ⟨⟨t582, t585⟩, A200, H⟩ := H
           replace H : (lanyardref06_Exp.l1 k2 l1 l2 t557 t585 x11_1 (wrap64 (Int.tdiv x12_2 2))) = some r := H
           have A20 := Aside0.mk A200
           clear A200
           have H' := Aside0.mk H
           clear H
           obtain ⟨Ao21, co21, eo21⟩ := Kd.V_slice HO_10.out
           subst eo21
           go_wp2_with (first | ((with_reducible refine gate_callee (f := 22) rfl ?_); refine goesA (some 39) Tryd.func22 #[.slice Ao21 x10_2.length co21, .slice Ao21 x10_2.length co21] rfl ?_; (with_reducible refine (lanyardref06_Mul.calls k2 _ _ x10_2 _ _ x10_2 t569 _ ?side1 ?side2 ?side3 ?side4 A13.out).mono ?_); (case side1 => exact Cu (Kd.V_reads' HO_10.out).2.2); (case side2 => exact (Kd.V_reads' HO_10.out).2.1); (case side3 => exact Cu (Kd.V_reads' HO_10.out).2.2); (case side4 => exact (Kd.V_reads' HO_10.out).2.1); rintro e w22 ⟨v570, rfl, ho0, hb⟩; refine ⟨_, rfl, ?_⟩; have n0_ := Vb HO_2 hb; have n1_ := Vb HO_8 hb; have n2_ := Vb HO_10 hb; have n3_ := Aside0.mk (Kd.V_lower (Kd.V_mono (ok' := fun k_ => (P2_ k_ ∨ w.heap.size ≤ k_)) ho0 (fun k_ hk_ => (.inr (Nat.le_trans (Bz HB) hk_)))) (Bz HB)); have n4_ := Bs HB hb; clear HO_2 HO_8 HO_10 HB; revert n0_ n1_ n2_ n3_ n4_; intro HO_2 HO_8 HO_10 HO571 HB; (try clear hb); (try clear hb2); (try clear hk); (try clear hi); (try clear ho0); obtain ⟨Ao23, co23, eo23⟩ := Kd.V_slice HO571.out; subst eo23) | ((with_reducible refine gate_callee (f := 14) rfl ?_); refine goesA (some 41) Tryd.func14 #[.slice Ao23 t569.length co23, .slice A2 l2.length c2] rfl ?_; (with_reducible refine (lanyardref06_Div.calls k2 _ _ t569 (fun k_ => (P2_ k_ ∨ w.heap.size ≤ k_)) _ _ l2 t572 t575 _ ?side1 ?side2 ?side3 A14.out).mono ?_); (case side1 => exact Cu (Kd.V_reads' HO571.out).2.2); (case side2 => exact (Kd.V_reads' HO571.out).2.1); (case side3 => exact HO_2.out); rintro e w24 ⟨v573, v576, rfl, ho0, ho1, hb⟩; refine ⟨_, rfl, ?_⟩; have n0_ := Vb HO_2 hb; have n1_ := Vb HO_8 hb; have n2_ := Vb HO_10 hb; have n3_ := Vb HO571 hb; have n4_ := Aside0.mk (Kd.V_lower (Kd.V_mono (ok' := fun k_ => (P2_ k_ ∨ w.heap.size ≤ k_)) ho0 (fun k_ hk_ => Or.elim hk_ (fun hs_ => hs_) (fun hn_ => (.inr (Nat.le_trans (Bz HB) hn_))))) (Bz HB)); have n5_ := Aside0.mk (Kd.V_lower (Kd.V_mono (ok' := fun k_ => (P2_ k_ ∨ w.heap.size ≤ k_)) ho1 (fun k_ hk_ => Or.elim hk_ (fun hs_ => hs_) (fun hn_ => (.inr (Nat.le_trans (Bz HB) hn_))))) (Bz HB)); have n6_ := Bs HB hb; clear HO_2 HO_8 HO_10 HO571 HB; revert n0_ n1_ n2_ n3_ n4_ n5_ n6_; intro HO_2 HO_8 HO_10 HO571 HO574 HO577 HB; (try clear hb); (try clear hb2); (try clear hk); (try clear hi); (try clear ho0); (try clear ho1); have p578 : 0 ≤ (x11_1 : Int) := of_decide_eq_true (by first | (with_reducible assumption) | assumption); have q578 : x11_1 < (l1.length : Int) := of_decide_eq_true (by first | (with_reducible assumption) | assumption); obtain ⟨ad578, e578, hx578_0⟩ := Kd.at_int HR1.out x11_1 p578 q578; cases e578; replace hx578_0 := (HB.out.cell (World.block_lt_of_cell? w _ hx578_0)).trans hx578_0; replace p578 := eq_true p578; replace q578 := eq_true q578; obtain ⟨Ao25, co25, eo25⟩ := Kd.V_slice HO577.out; subst eo25; obtain ⟨Ao26, co26, eo26⟩ := Kd.V_slice HO_8.out; subst eo26) | ((with_reducible refine gate_callee (f := 22) rfl ?_); refine goesA (some 55) Tryd.func22 #[.slice Ao25 t575.length co25, .slice Ao26 t557.length co26] rfl ?_; (with_reducible refine (lanyardref06_Mul.calls k2 _ _ t575 _ _ t557 t579 _ ?side1 ?side2 ?side3 ?side4 A19.out).mono ?_); (case side1 => exact Cu (Kd.V_reads' HO577.out).2.2); (case side2 => exact (Kd.V_reads' HO577.out).2.1); (case side3 => exact Cu (Kd.V_reads' HO_8.out).2.2); (case side4 => exact (Kd.V_reads' HO_8.out).2.1); rintro e w27 ⟨v580, rfl, ho0, hb⟩; refine ⟨_, rfl, ?_⟩; have n0_ := Vb HO_2 hb; have n1_ := Vb HO_8 hb; have n2_ := Vb HO_10 hb; have n3_ := Vb HO571 hb; have n4_ := Vb HO574 hb; have n5_ := Vb HO577 hb; have n6_ := Aside0.mk (Kd.V_lower (Kd.V_mono (ok' := fun k_ => (P2_ k_ ∨ w.heap.size ≤ k_)) ho0 (fun k_ hk_ => (.inr (Nat.le_trans (Bz HB) hk_)))) (Bz HB)); have n7_ := Bs HB hb; clear HO_2 HO_8 HO_10 HO571 HO574 HO577 HB; revert n0_ n1_ n2_ n3_ n4_ n5_ n6_ n7_; intro HO_2 HO_8 HO_10 HO571 HO574 HO577 HO581 HB; (try clear hb); (try clear hb2); (try clear hk); (try clear hi); (try clear ho0); obtain ⟨Ao28, co28, eo28⟩ := Kd.V_slice HO581.out; subst eo28) | ((with_reducible refine gate_callee (f := 14) rfl ?_); refine goesA (some 57) Tryd.func14 #[.slice Ao28 t579.length co28, .slice A2 l2.length c2] rfl ?_; (with_reducible refine (lanyardref06_Div.calls k2 _ _ t579 (fun k_ => (P2_ k_ ∨ w.heap.size ≤ k_)) _ _ l2 t582 t585 _ ?side1 ?side2 ?side3 A20.out).mono ?_); (case side1 => exact Cu (Kd.V_reads' HO581.out).2.2); (case side2 => exact (Kd.V_reads' HO581.out).2.1); (case side3 => exact HO_2.out); rintro e w29 ⟨v583, v586, rfl, ho0, ho1, hb⟩; refine ⟨_, rfl, ?_⟩; have n0_ := Vb HO_2 hb; have n1_ := Vb HO_8 hb; have n2_ := Vb HO_10 hb; have n3_ := Vb HO571 hb; have n4_ := Vb HO574 hb; have n5_ := Vb HO577 hb; have n6_ := Vb HO581 hb; have n7_ := Aside0.mk (Kd.V_lower (Kd.V_mono (ok' := fun k_ => (P2_ k_ ∨ w.heap.size ≤ k_)) ho0 (fun k_ hk_ => Or.elim hk_ (fun hs_ => hs_) (fun hn_ => (.inr (Nat.le_trans (Bz HB) hn_))))) (Bz HB)); have n8_ := Aside0.mk (Kd.V_lower (Kd.V_mono (ok' := fun k_ => (P2_ k_ ∨ w.heap.size ≤ k_)) ho1 (fun k_ hk_ => Or.elim hk_ (fun hs_ => hs_) (fun hn_ => (.inr (Nat.le_trans (Bz HB) hn_))))) (Bz HB)); have n9_ := Bs HB hb; clear HO_2 HO_8 HO_10 HO571 HO574 HO577 HO581 HB; revert n0_ n1_ n2_ n3_ n4_ n5_ n6_ n7_ n8_ n9_; intro HO_2 HO_8 HO_10 HO571 HO574 HO577 HO581 HO584 HO587 HB; (try clear hb); (try clear hb2); (try clear hk); (try clear hi); (try clear ho0); (try clear ho1)))
           go_roundg k2
           case measure => have := HK1.out; have := HK2.out; omega
           case rel => exact ⟨(t585), (wrap64 (Int.tdiv x12_2 2)), (by first | rfl | (simp; done) | (simp [*]; done)), H', ⟨by have := HK1.out; have := HK2.out; omega⟩, ⟨Vu HO_2⟩, ⟨Vu HO_8⟩, ⟨Vu HO587⟩, ⟨Bu HB⟩⟩
          ·rw [if_neg c18] at H
           have c18b0 : ((Int.tmod (wrap64 (Int.tdiv (rd l1 x11_1) x12_2)) 2) == 1) = false := beq_eq_false_iff_ne.mpr c18
           have c18b1 : ((Int.tmod (wrap64 (Int.tdiv (rd l1 x11_1) x12_2)) 2) != 1) = true := bne_iff_ne.mpr c18
           have H' := Aside0.mk H
           clear H
           obtain ⟨Ao30, co30, eo30⟩ := Kd.V_slice HO_10.out
           subst eo30
           go_wp2_with (first | ((with_reducible refine gate_callee (f := 22) rfl ?_); refine goesA (some 39) Tryd.func22 #[.slice Ao30 x10_2.length co30, .slice Ao30 x10_2.length co30] rfl ?_; (with_reducible refine (lanyardref06_Mul.calls k2 _ _ x10_2 _ _ x10_2 t569 _ ?side1 ?side2 ?side3 ?side4 A13.out).mono ?_); (case side1 => exact Cu (Kd.V_reads' HO_10.out).2.2); (case side2 => exact (Kd.V_reads' HO_10.out).2.1); (case side3 => exact Cu (Kd.V_reads' HO_10.out).2.2); (case side4 => exact (Kd.V_reads' HO_10.out).2.1); rintro e w31 ⟨v570, rfl, ho0, hb⟩; refine ⟨_, rfl, ?_⟩; have n0_ := Vb HO_2 hb; have n1_ := Vb HO_8 hb; have n2_ := Vb HO_10 hb; have n3_ := Aside0.mk (Kd.V_lower (Kd.V_mono (ok' := fun k_ => (P2_ k_ ∨ w.heap.size ≤ k_)) ho0 (fun k_ hk_ => (.inr (Nat.le_trans (Bz HB) hk_)))) (Bz HB)); have n4_ := Bs HB hb; clear HO_2 HO_8 HO_10 HB; revert n0_ n1_ n2_ n3_ n4_; intro HO_2 HO_8 HO_10 HO571 HB; (try clear hb); (try clear hb2); (try clear hk); (try clear hi); (try clear ho0); obtain ⟨Ao32, co32, eo32⟩ := Kd.V_slice HO571.out; subst eo32) | ((with_reducible refine gate_callee (f := 14) rfl ?_); refine goesA (some 41) Tryd.func14 #[.slice Ao32 t569.length co32, .slice A2 l2.length c2] rfl ?_; (with_reducible refine (lanyardref06_Div.calls k2 _ _ t569 (fun k_ => (P2_ k_ ∨ w.heap.size ≤ k_)) _ _ l2 t572 t575 _ ?side1 ?side2 ?side3 A14.out).mono ?_); (case side1 => exact Cu (Kd.V_reads' HO571.out).2.2); (case side2 => exact (Kd.V_reads' HO571.out).2.1); (case side3 => exact HO_2.out); rintro e w33 ⟨v573, v576, rfl, ho0, ho1, hb⟩; refine ⟨_, rfl, ?_⟩; have n0_ := Vb HO_2 hb; have n1_ := Vb HO_8 hb; have n2_ := Vb HO_10 hb; have n3_ := Vb HO571 hb; have n4_ := Aside0.mk (Kd.V_lower (Kd.V_mono (ok' := fun k_ => (P2_ k_ ∨ w.heap.size ≤ k_)) ho0 (fun k_ hk_ => Or.elim hk_ (fun hs_ => hs_) (fun hn_ => (.inr (Nat.le_trans (Bz HB) hn_))))) (Bz HB)); have n5_ := Aside0.mk (Kd.V_lower (Kd.V_mono (ok' := fun k_ => (P2_ k_ ∨ w.heap.size ≤ k_)) ho1 (fun k_ hk_ => Or.elim hk_ (fun hs_ => hs_) (fun hn_ => (.inr (Nat.le_trans (Bz HB) hn_))))) (Bz HB)); have n6_ := Bs HB hb; clear HO_2 HO_8 HO_10 HO571 HB; revert n0_ n1_ n2_ n3_ n4_ n5_ n6_; intro HO_2 HO_8 HO_10 HO571 HO574 HO577 HB; (try clear hb); (try clear hb2); (try clear hk); (try clear hi); (try clear ho0); (try clear ho1); have p578 : 0 ≤ (x11_1 : Int) := of_decide_eq_true (by first | (with_reducible assumption) | assumption); have q578 : x11_1 < (l1.length : Int) := of_decide_eq_true (by first | (with_reducible assumption) | assumption); obtain ⟨ad578, e578, hx578_0⟩ := Kd.at_int HR1.out x11_1 p578 q578; cases e578; replace hx578_0 := (HB.out.cell (World.block_lt_of_cell? w _ hx578_0)).trans hx578_0; replace p578 := eq_true p578; replace q578 := eq_true q578))
           go_roundg k2
           case measure => have := HK1.out; have := HK2.out; omega
           case rel => exact ⟨(t575), (wrap64 (Int.tdiv x12_2 2)), (by first | rfl | (simp; done) | (simp [*]; done)), H', ⟨by have := HK1.out; have := HK2.out; omega⟩, ⟨Vu HO_2⟩, ⟨Vu HO_8⟩, ⟨Vu HO577⟩, ⟨Bu HB⟩⟩
        ·rw [if_neg c16] at H
         exact absurd H (by simp)
       ·rw [if_neg c15] at H
        exact absurd H (by simp)
      ·rw [if_neg c12] at H
       have c12b0 : decide (1 ≤ x12_2) = false := decide_eq_false c12
       clear c12
       have H' := Aside0.mk H
       clear H
       go_wp2
       go_roundg k2
       case measure => have := HK1.out; have := HK2.out; omega
       case rel => exact ⟨(x10_2), (wrap64 (x11_1 - 1)), (by first | rfl | (simp; done) | (simp [*]; done)), H', ⟨by have := HK1.out; have := HK2.out; omega⟩, ⟨Vu HO_2⟩, ⟨Vu HO_8⟩, ⟨Vu HO_10⟩, ⟨Bu HB⟩⟩
   ·rw [if_neg c11] at H
    have c11b0 : decide (0 ≤ x11_1) = false := decide_eq_false c11
    clear c11
    obtain rfl := Option.some.inj H
    go_wp2
    go_ret
    exact ⟨_, rfl_, Vu HO_10, Bu HB⟩

/-! ### lanyardlaw06_NatPowers: function 4 -/
def lanyardlaw06_NatPowers.j0 : Nat → List Int → List Int → List Int → Bool → Option (Bool)
 | 0, _, _, _, _ => none
 | k + 1, x0, x1, x2, x26 => if x26 = true then ((lanyardlaw06_awake.f k).bind fun t589 => (some t589)) else ((lanyardref06_Of.f k x2).bind fun t590 => ((nat_Exp.f k x0 x1 x2).bind fun bt593 => (if (t590.length : Int) = 0 then (if bt593.2 = 2 then (some ((bt593.1.length : Int) == 0)) else (some false)) else (if bt593.2 = 0 then ((lanyardref06_Of.f k x0).bind fun t597 => ((lanyardref06_Of.f k x1).bind fun t600 => ((lanyardref06_Exp.f k t597 t600 t590).bind fun t603 => ((lanyardlaw06_same.f k bt593.1 t603).bind fun t606 => (some t606))))) else (some false)))))
def lanyardlaw06_NatPowers.f (k : Nat) (l0 : List Int) (l1 : List Int) (l2 : List Int) : Option (Bool) := (lanyardlaw06_awake.f k).bind fun t588 => (if t588 = true then (if (l0.length : Int) > 12 then (lanyardlaw06_NatPowers.j0 k l0 l1 l2 true) else (if (l1.length : Int) > 4 then (lanyardlaw06_NatPowers.j0 k l0 l1 l2 true) else (lanyardlaw06_NatPowers.j0 k l0 l1 l2 (decide ((l2.length : Int) > 12))))) else (lanyardlaw06_NatPowers.j0 k l0 l1 l2 true))
theorem lanyardlaw06_NatPowers.mono_l : ∀ k, (∀ y0 y1 y2 y3, LeO (lanyardlaw06_NatPowers.j0 k y0 y1 y2 y3) (lanyardlaw06_NatPowers.j0 (k + 1) y0 y1 y2 y3))
 | 0 => fun _ _ _ _ r h => by simp [lanyardlaw06_NatPowers.j0] at h
 | k + 1 => by
  have ih0 := lanyardlaw06_NatPowers.mono_l k
  ·intro y0 y1 y2 y3
   unfold lanyardlaw06_NatPowers.j0
   repeat' first
   | (with_reducible exact ih0 _ _ _ _)
   | (with_reducible exact lanyardlaw06_awake.mono _)
   | (with_reducible exact lanyardlaw06_same.mono _ _ _)
   | (with_reducible exact lanyardref06_Exp.mono _ _ _ _)
   | (with_reducible exact lanyardref06_Of.mono _ _)
   | (with_reducible exact nat_Exp.mono _ _ _ _)
   | (with_reducible exact LeO.refl _)
   | (with_reducible exact LeO.none _)
   | (with_reducible refine LeO.ite ?_ ?_)
   | (with_reducible refine LeO.bind ?_ (fun _ => ?_))
   | exact ih0 _ _ _ _
   | exact lanyardlaw06_awake.mono _
   | exact lanyardlaw06_same.mono _ _ _
   | exact lanyardref06_Exp.mono _ _ _ _
   | exact lanyardref06_Of.mono _ _
   | exact nat_Exp.mono _ _ _ _
   | exact LeO.none _
   | refine LeO.ite ?_ ?_
   | refine LeO.bind ?_ (fun _ => ?_)
theorem lanyardlaw06_NatPowers.mono : ∀ a0 a1 a2 k, LeO (lanyardlaw06_NatPowers.f k a0 a1 a2) (lanyardlaw06_NatPowers.f (k + 1) a0 a1 a2) := by
 intro a0 a1 a2 k
 have ih0 := lanyardlaw06_NatPowers.mono_l k
 unfold lanyardlaw06_NatPowers.f
 repeat' first
   | (with_reducible exact ih0 _ _ _ _)
   | (with_reducible exact lanyardlaw06_awake.mono _)
   | (with_reducible exact lanyardlaw06_same.mono _ _ _)
   | (with_reducible exact lanyardref06_Exp.mono _ _ _ _)
   | (with_reducible exact lanyardref06_Of.mono _ _)
   | (with_reducible exact nat_Exp.mono _ _ _ _)
   | (with_reducible exact LeO.refl _)
   | (with_reducible exact LeO.none _)
   | (with_reducible refine LeO.ite ?_ ?_)
   | (with_reducible refine LeO.bind ?_ (fun _ => ?_))
   | exact ih0 _ _ _ _
   | exact lanyardlaw06_awake.mono _
   | exact lanyardlaw06_same.mono _ _ _
   | exact lanyardref06_Exp.mono _ _ _ _
   | exact lanyardref06_Of.mono _ _
   | exact nat_Exp.mono _ _ _ _
   | exact LeO.none _
   | refine LeO.ite ?_ ?_
   | refine LeO.bind ?_ (fun _ => ?_)
set_option maxHeartbeats 8000000 in
set_option maxRecDepth 100000 in
theorem lanyardlaw06_NatPowers.calls (k : Nat) (A0 : Option Addr) (c0 : Nat) (l0 : List Int) (A1 : Option Addr) (c1 : Nat) (l1 : List Int) (A2 : Option Addr) (c2 : Nat) (l2 : List Int) (r : Bool) (w : World) (hr0 : Kd.C (Kd.int .u8) w A0 l0.length l0) (hc0 : l0.length ≤ c0) (hr1 : Kd.C (Kd.int .u8) w A1 l1.length l1) (hc1 : l1.length ≤ c1) (hr2 : Kd.C (Kd.int .u8) w A2 l2.length l2) (hc2 : l2.length ≤ c2) (h : lanyardlaw06_NatPowers.f k l0 l1 l2 = some r) :
  Calls Tryd.prog 4 #[.slice A0 l0.length c0, .slice A1 l1.length c1, .slice A2 l2.length c2] w fun e w' => e = .returned (.bool r) ∧ Below w.heap.size w w' := by
 have HR0 := Aside0.mk hr0
 have HC0 := Aside0.mk hc0
 clear hr0 hc0
 have HR1 := Aside0.mk hr1
 have HC1 := Aside0.mk hc1
 clear hr1 hc1
 have HR2 := Aside0.mk hr2
 have HC2 := Aside0.mk hc2
 clear hr2 hc2
 have HB := Aside0.mk (Below.refl w.heap.size w)
 have H : ((lanyardlaw06_awake.f k).bind fun t588 => (if t588 = true then (if (l0.length : Int) > 12 then (lanyardlaw06_NatPowers.j0 k l0 l1 l2 true) else (if (l1.length : Int) > 4 then (lanyardlaw06_NatPowers.j0 k l0 l1 l2 true) else (lanyardlaw06_NatPowers.j0 k l0 l1 l2 (decide ((l2.length : Int) > 12))))) else (lanyardlaw06_NatPowers.j0 k l0 l1 l2 true))) = some r := h
 clear h
 have HC4 := Aside0.mk H
 clear H
 go_enter Tryd.func4, Tryd.ntmps4
 go_upto_region 1 with (fail)
 go_cut [26] (fun v26 wc => ∃ (kq : Nat) (x26_3 : Bool), v26 = .bool x26_3 ∧ Aside0 (lanyardlaw06_NatPowers.j0 kq l0 l1 l2 x26_3 = some r) ∧ Aside0 (kq ≤ k) ∧ Aside0 (Below w.heap.size w wc))
 case first =>
  have H := HC4.out
  clear HC4
  replace H := Option.bind_eq_some_iff.mp H
  obtain ⟨t588, A50, H⟩ := H
  replace H : (if t588 = true then (if (l0.length : Int) > 12 then (lanyardlaw06_NatPowers.j0 k l0 l1 l2 true) else (if (l1.length : Int) > 4 then (lanyardlaw06_NatPowers.j0 k l0 l1 l2 true) else (lanyardlaw06_NatPowers.j0 k l0 l1 l2 (decide ((l2.length : Int) > 12))))) else (lanyardlaw06_NatPowers.j0 k l0 l1 l2 true)) = some r := H
  have A5 := Aside0.mk A50
  clear A50
  by_cases c6 : t588 = true
  ·subst c6
   have H1 : (if (l0.length : Int) > 12 then (lanyardlaw06_NatPowers.j0 k l0 l1 l2 true) else (if (l1.length : Int) > 4 then (lanyardlaw06_NatPowers.j0 k l0 l1 l2 true) else (lanyardlaw06_NatPowers.j0 k l0 l1 l2 (decide ((l2.length : Int) > 12))))) = some r := by rw [if_pos rfl] at H; exact H
   clear H
   have H := H1
   clear H1
   refine (Classical.em ((l0.length : Int) > 12)).elim (fun c7 => ?a32_) (fun c7 => ?b32_)
   case' a32_ =>
    rw [if_pos c7] at H
    have c7b0 : decide (12 < (l0.length : Int)) = true := decide_eq_true c7
    have c7b1 : decide (12 < l0.length) = true := decide_eq_true (by omega)
    clear c7
    (first | rw [c7b0] | (simp only [i64_w, i32_w]; rw [c7b0]) | skip)
    have H' := Aside0.mk H
    clear H
   case' b32_ =>
    rw [if_neg c7] at H
    have c7b0 : decide (12 < (l0.length : Int)) = false := decide_eq_false c7
    have c7b1 : decide (12 < l0.length) = false := decide_eq_false (by omega)
    clear c7
    (first | rw [c7b0] | (simp only [i64_w, i32_w]; rw [c7b0]) | skip)
    refine (Classical.em ((l1.length : Int) > 4)).elim (fun c9 => ?a33_) (fun c9 => ?b33_)
    case' a33_ =>
     rw [if_pos c9] at H
     have c9b0 : decide (4 < (l1.length : Int)) = true := decide_eq_true c9
     have c9b1 : decide (4 < l1.length) = true := decide_eq_true (by omega)
     clear c9
     have H' := Aside0.mk H
     clear H
    case' b33_ =>
     rw [if_neg c9] at H
     have c9b0 : decide (4 < (l1.length : Int)) = false := decide_eq_false c9
     have c9b1 : decide (4 < l1.length) = false := decide_eq_false (by omega)
     clear c9
     have H' := Aside0.mk H
     clear H
     go_wp2_with (first | ((with_reducible refine gate_callee (f := 11) rfl ?_); refine goesA (some 10) Tryd.func11 #[] rfl ?_; (with_reducible refine (lanyardlaw06_awake.calls k  true _ A5.out).mono ?_); rintro e w11 ⟨rfl, hb⟩; refine ⟨_, rfl, ?_⟩; have n0_ := Bs HB hb; clear HB; revert n0_; intro HB; (try clear hb); (try clear hb2); (try clear hk); (try clear hi)))
     go_meet
     case rel => exact ⟨_, (decide ((l2.length : Int) > 12)), (by first | rfl | (simp; done) | (simp [*]; done)), H', ⟨by first | omega | exact Nat.le_refl _⟩, ⟨Bu HB⟩⟩
   case a32_ | b32_ =>
    go_wp2_with (first | ((with_reducible refine gate_callee (f := 11) rfl ?_); refine goesA (some 10) Tryd.func11 #[] rfl ?_; (with_reducible refine (lanyardlaw06_awake.calls k  true _ A5.out).mono ?_); rintro e wz1 ⟨rfl, hb⟩; refine ⟨_, rfl, ?_⟩; have nz1 := Bs HB hb; clear HB; have HB := nz1; clear nz1; (try clear hb); (try clear hb2); (try clear hk); (try clear hi)))
    go_meet
    case rel => exact ⟨_, (true), (by first | rfl | (simp; done) | (simp [*]; done)), H', ⟨by first | omega | exact Nat.le_refl _⟩, ⟨Bu HB⟩⟩
  ·replace c6 := Bool.eq_false_iff.mpr c6
   subst c6
   have H1 : (lanyardlaw06_NatPowers.j0 k l0 l1 l2 true) = some r := by rw [if_neg (show ¬ (false = true) by decide)] at H; exact H
   clear H
   have H := H1
   clear H1
   have H' := Aside0.mk H
   clear H
   go_wp2_with (first | ((with_reducible refine gate_callee (f := 11) rfl ?_); refine goesA (some 10) Tryd.func11 #[] rfl ?_; (with_reducible refine (lanyardlaw06_awake.calls k  false _ A5.out).mono ?_); rintro e w12 ⟨rfl, hb⟩; refine ⟨_, rfl, ?_⟩; have n0_ := Bs HB hb; clear HB; revert n0_; intro HB; (try clear hb); (try clear hb2); (try clear hk); (try clear hi)))
   go_meet
   case rel => exact ⟨_, (true), (by first | rfl | (simp; done) | (simp [*]; done)), H', ⟨by first | omega | exact Nat.le_refl _⟩, ⟨Bu HB⟩⟩
 case rest =>
  clear HC4
  try clear c1
  try clear c2
  try clear p2
  try clear c4
  try clear c6
  try clear c7
  try clear c7b0
  try clear c7b1
  try clear c9
  try clear c9b0
  try clear c9b1
  try clear c11
  obtain ⟨kq, x26_3, rfl, HA, HJ3, HB⟩ := hcut
  cases kq with
  | zero => exact absurd HA.out (by simp [lanyardlaw06_NatPowers.j0])
  | succ kj3 =>
   have H := HA.out
   clear HA
   simp only [lanyardlaw06_NatPowers.j0] at H
   by_cases c13 : x26_3 = true
   ·subst c13
    have H1 : ((lanyardlaw06_awake.f kj3).bind fun t589 => (some t589)) = some r := by rw [if_pos rfl] at H; exact H
    clear H
    have H := H1
    clear H1
    replace H := Option.bind_eq_some_iff.mp H
    obtain ⟨t589, A140, H⟩ := H
    replace H : (some t589) = some r := H
    have A14 := Aside0.mk A140
    clear A140
    obtain rfl := Option.some.inj H
    go_wp2_with (first | ((with_reducible refine gate_callee (f := 11) rfl ?_); refine goesA (some 27) Tryd.func11 #[] rfl ?_; (with_reducible refine (lanyardlaw06_awake.calls kj3  t589 _ A14.out).mono ?_); rintro e w15 ⟨rfl, hb⟩; refine ⟨_, rfl, ?_⟩; have n0_ := Bs HB hb; clear HB; revert n0_; intro HB; (try clear hb); (try clear hb2); (try clear hk); (try clear hi)))
    go_ret
    exact ⟨rfl_, Bu HB⟩
   ·replace c13 := Bool.eq_false_iff.mpr c13
    subst c13
    have H1 : ((lanyardref06_Of.f kj3 l2).bind fun t590 => ((nat_Exp.f kj3 l0 l1 l2).bind fun bt593 => (if (t590.length : Int) = 0 then (if bt593.2 = 2 then (some ((bt593.1.length : Int) == 0)) else (some false)) else (if bt593.2 = 0 then ((lanyardref06_Of.f kj3 l0).bind fun t597 => ((lanyardref06_Of.f kj3 l1).bind fun t600 => ((lanyardref06_Exp.f kj3 t597 t600 t590).bind fun t603 => ((lanyardlaw06_same.f kj3 bt593.1 t603).bind fun t606 => (some t606))))) else (some false))))) = some r := by rw [if_neg (show ¬ (false = true) by decide)] at H; exact H
    clear H
    have H := H1
    clear H1
    replace H := Option.bind_eq_some_iff.mp H
    obtain ⟨t590, A160, H⟩ := H
    replace H : ((nat_Exp.f kj3 l0 l1 l2).bind fun bt593 => (if (t590.length : Int) = 0 then (if bt593.2 = 2 then (some ((bt593.1.length : Int) == 0)) else (some false)) else (if bt593.2 = 0 then ((lanyardref06_Of.f kj3 l0).bind fun t597 => ((lanyardref06_Of.f kj3 l1).bind fun t600 => ((lanyardref06_Exp.f kj3 t597 t600 t590).bind fun t603 => ((lanyardlaw06_same.f kj3 bt593.1 t603).bind fun t606 => (some t606))))) else (some false)))) = some r := H
    have A16 := Aside0.mk A160
    clear A160
    replace H := Option.bind_eq_some_iff.mp H
    obtain ⟨⟨t593, t594⟩, A170, H⟩ := H
    replace H : (if (t590.length : Int) = 0 then (if t594 = 2 then (some ((t593.length : Int) == 0)) else (some false)) else (if t594 = 0 then ((lanyardref06_Of.f kj3 l0).bind fun t597 => ((lanyardref06_Of.f kj3 l1).bind fun t600 => ((lanyardref06_Exp.f kj3 t597 t600 t590).bind fun t603 => ((lanyardlaw06_same.f kj3 t593 t603).bind fun t606 => (some t606))))) else (some false))) = some r := H
    have A17 := Aside0.mk A170
    clear A170
    by_cases c18 : (t590.length : Int) = 0
    ·rw [if_pos c18] at H
     have c18b0 : ((t590.length : Int) == 0) = true := beq_iff_eq.mpr c18
     have c18b1 : ((t590.length : Int) != 0) = false := bne_eq_false_iff_eq.mpr c18
     clear c18
     by_cases c19 : t594 = 2
     ·rw [if_pos c19] at H
      have c19b0 : (t594 == 2) = true := beq_iff_eq.mpr c19
      have c19b1 : (t594 != 2) = false := bne_eq_false_iff_eq.mpr c19
      clear c19
      obtain rfl := Option.some.inj H
      go_wp2_with (first | ((with_reducible refine gate_callee (f := 12) rfl ?_); refine goesA (some 29) Tryd.func12 #[.slice A2 l2.length c2] rfl ?_; (with_reducible refine (lanyardref06_Of.calls kj3 _ _ l2 t590 _ ?side1 ?side2 A16.out).mono ?_); (case side1 => exact Cu (Kd.C_below HR2.out HB.out)); (case side2 => exact HC2.out); rintro e w20 ⟨v591, rfl, ho0, hb⟩; refine ⟨_, rfl, ?_⟩; have n0_ := Aside0.mk (Kd.V_lower (Kd.V_mono (ok' := fun k_ => True) ho0 (fun k_ hk_ => trivial)) (Bz HB)); have n1_ := Bs HB hb; clear HB; revert n0_ n1_; intro HO592 HB; (try clear hb); (try clear hb2); (try clear hk); (try clear hi); (try clear ho0)) | ((with_reducible refine gate_callee (f := 16) rfl ?_); refine goesA (some 34) Tryd.func16 #[.slice A0 l0.length c0, .slice A1 l1.length c1, .slice A2 l2.length c2] rfl ?_; (with_reducible refine (nat_Exp.calls kj3 _ _ l0 _ _ l1 _ _ l2 t593 t594 _ ?side1 ?side2 ?side3 ?side4 ?side5 ?side6 A17.out).mono ?_); (case side1 => exact Cu (Kd.C_below HR0.out HB.out)); (case side2 => exact HC0.out); (case side3 => exact Cu (Kd.C_below HR1.out HB.out)); (case side4 => exact HC1.out); (case side5 => exact Cu (Kd.C_below HR2.out HB.out)); (case side6 => exact HC2.out); rintro e w21 ⟨v595, rfl, ho0, hb⟩; refine ⟨_, rfl, ?_⟩; have n0_ := Ve HO592 (Kd.R_base ho0) hb; have n1_ := Aside0.mk (Kd.R_lower ho0 (Bz HB)); have n2_ := Bs HB hb; clear HO592 HB; revert n0_ n1_ n2_; intro HO592 HO596 HB; (try clear hb); (try clear hb2); (try clear hk); (try clear hi); (try clear ho0); obtain ⟨Ao22, co22, eo22⟩ := Kd.V_slice HO592.out; subst eo22; obtain ⟨Ao23, co23, eo23⟩ := Kd.R_slice HO596.out; subst eo23))
      go_ret
      exact ⟨rfl_, Bu HB⟩
     ·rw [if_neg c19] at H
      have c19b0 : (t594 == 2) = false := beq_eq_false_iff_ne.mpr c19
      have c19b1 : (t594 != 2) = true := bne_iff_ne.mpr c19
      obtain rfl := Option.some.inj H
      go_wp2_with (first | ((with_reducible refine gate_callee (f := 12) rfl ?_); refine goesA (some 29) Tryd.func12 #[.slice A2 l2.length c2] rfl ?_; (with_reducible refine (lanyardref06_Of.calls kj3 _ _ l2 t590 _ ?side1 ?side2 A16.out).mono ?_); (case side1 => exact Cu (Kd.C_below HR2.out HB.out)); (case side2 => exact HC2.out); rintro e w24 ⟨v591, rfl, ho0, hb⟩; refine ⟨_, rfl, ?_⟩; have n0_ := Aside0.mk (Kd.V_lower (Kd.V_mono (ok' := fun k_ => True) ho0 (fun k_ hk_ => trivial)) (Bz HB)); have n1_ := Bs HB hb; clear HB; revert n0_ n1_; intro HO592 HB; (try clear hb); (try clear hb2); (try clear hk); (try clear hi); (try clear ho0)) | ((with_reducible refine gate_callee (f := 16) rfl ?_); refine goesA (some 34) Tryd.func16 #[.slice A0 l0.length c0, .slice A1 l1.length c1, .slice A2 l2.length c2] rfl ?_; (with_reducible refine (nat_Exp.calls kj3 _ _ l0 _ _ l1 _ _ l2 t593 t594 _ ?side1 ?side2 ?side3 ?side4 ?side5 ?side6 A17.out).mono ?_); (case side1 => exact Cu (Kd.C_below HR0.out HB.out)); (case side2 => exact HC0.out); (case side3 => exact Cu (Kd.C_below HR1.out HB.out)); (case side4 => exact HC1.out); (case side5 => exact Cu (Kd.C_below HR2.out HB.out)); (case side6 => exact HC2.out); rintro e w25 ⟨v595, rfl, ho0, hb⟩; refine ⟨_, rfl, ?_⟩; have n0_ := Ve HO592 (Kd.R_base ho0) hb; have n1_ := Aside0.mk (Kd.R_lower ho0 (Bz HB)); have n2_ := Bs HB hb; clear HO592 HB; revert n0_ n1_ n2_; intro HO592 HO596 HB; (try clear hb); (try clear hb2); (try clear hk); (try clear hi); (try clear ho0); obtain ⟨Ao26, co26, eo26⟩ := Kd.V_slice HO592.out; subst eo26))
      go_ret
      exact ⟨rfl_, Bu HB⟩
    ·rw [if_neg c18] at H
     have c18b0 : ((t590.length : Int) == 0) = false := beq_eq_false_iff_ne.mpr c18
     have c18b1 : ((t590.length : Int) != 0) = true := bne_iff_ne.mpr c18
     have c18b2 : ¬ (t590 = []) := fun h_ => c18 (by rw [h_]; rfl)
     by_cases c27 : t594 = 0
     ·rw [if_pos c27] at H
      have c27b0 : (t594 == 0) = true := beq_iff_eq.mpr c27
      have c27b1 : (t594 != 0) = false := bne_eq_false_iff_eq.mpr c27
      clear c27
      replace H := Option.bind_eq_some_iff.mp H
      obtain ⟨t597, A280, H⟩ := H
      replace H : ((lanyardref06_Of.f kj3 l1).bind fun t600 => ((lanyardref06_Exp.f kj3 t597 t600 t590).bind fun t603 => ((lanyardlaw06_same.f kj3 t593 t603).bind fun t606 => (some t606)))) = some r := H
      have A28 := Aside0.mk A280
      clear A280
      replace H := Option.bind_eq_some_iff.mp H
      obtain ⟨t600, A290, H⟩ := H
      replace H : ((lanyardref06_Exp.f kj3 t597 t600 t590).bind fun t603 => ((lanyardlaw06_same.f kj3 t593 t603).bind fun t606 => (some t606))) = some r := H
      have A29 := Aside0.mk A290
      clear A290
      replace H := Option.bind_eq_some_iff.mp H
      obtain ⟨t603, A300, H⟩ := H
      replace H : ((lanyardlaw06_same.f kj3 t593 t603).bind fun t606 => (some t606)) = some r := H
      have A30 := Aside0.mk A300
      clear A300
      replace H := Option.bind_eq_some_iff.mp H
      obtain ⟨t606, A310, H⟩ := H
      replace H : (some t606) = some r := H
      have A31 := Aside0.mk A310
      clear A310
      obtain rfl := Option.some.inj H
      go_wp2_with (first | ((with_reducible refine gate_callee (f := 12) rfl ?_); refine goesA (some 29) Tryd.func12 #[.slice A2 l2.length c2] rfl ?_; (with_reducible refine (lanyardref06_Of.calls kj3 _ _ l2 t590 _ ?side1 ?side2 A16.out).mono ?_); (case side1 => exact Cu (Kd.C_below HR2.out HB.out)); (case side2 => exact HC2.out); rintro e w32 ⟨v591, rfl, ho0, hb⟩; refine ⟨_, rfl, ?_⟩; have n0_ := Aside0.mk (Kd.V_lower (Kd.V_mono (ok' := fun k_ => True) ho0 (fun k_ hk_ => trivial)) (Bz HB)); have n1_ := Bs HB hb; clear HB; revert n0_ n1_; intro HO592 HB; (try clear hb); (try clear hb2); (try clear hk); (try clear hi); (try clear ho0)) | ((with_reducible refine gate_callee (f := 16) rfl ?_); refine goesA (some 34) Tryd.func16 #[.slice A0 l0.length c0, .slice A1 l1.length c1, .slice A2 l2.length c2] rfl ?_; (with_reducible refine (nat_Exp.calls kj3 _ _ l0 _ _ l1 _ _ l2 t593 t594 _ ?side1 ?side2 ?side3 ?side4 ?side5 ?side6 A17.out).mono ?_); (case side1 => exact Cu (Kd.C_below HR0.out HB.out)); (case side2 => exact HC0.out); (case side3 => exact Cu (Kd.C_below HR1.out HB.out)); (case side4 => exact HC1.out); (case side5 => exact Cu (Kd.C_below HR2.out HB.out)); (case side6 => exact HC2.out); rintro e w33 ⟨v595, rfl, ho0, hb⟩; refine ⟨_, rfl, ?_⟩; have n0_ := Ve HO592 (Kd.R_base ho0) hb; have n1_ := Aside0.mk (Kd.R_lower ho0 (Bz HB)); have n2_ := Bs HB hb; clear HO592 HB; revert n0_ n1_ n2_; intro HO592 HO596 HB; (try clear hb); (try clear hb2); (try clear hk); (try clear hi); (try clear ho0); obtain ⟨Ao34, co34, eo34⟩ := Kd.V_slice HO592.out; subst eo34) | (go_at_call 12; (with_reducible refine (lanyardref06_Of.calls kj3 _ _ l0 t597 _ ?side1 ?side2 A28.out).mono ?_); (case side1 => exact Cu (Kd.C_below HR0.out HB.out)); (case side2 => exact HC0.out); rintro e w35 ⟨v598, rfl, ho0, hb⟩; have n0_ := Vb HO592 hb; have n1_ := Rb HO596 hb; have n2_ := Aside0.mk (Kd.V_lower (Kd.V_mono (ok' := fun k_ => some k_ ≠ (v595 : Value).ownBlock) ho0 (fun k_ hk_ => (Kd.fresh' (Kd.R_lt (Ru HO596)) k_ hk_))) (Bz HB)); have n3_ := Bs HB hb; clear HO592 HO596 HB; revert n0_ n1_ n2_ n3_; intro HO592 HO596 HO599 HB; (try clear hb); (try clear hb2); (try clear hk); (try clear hi); (try clear ho0)) | (go_at_call 12; (with_reducible refine (lanyardref06_Of.calls kj3 _ _ l1 t600 _ ?side1 ?side2 A29.out).mono ?_); (case side1 => exact Cu (Kd.C_below HR1.out HB.out)); (case side2 => exact HC1.out); rintro e w36 ⟨v601, rfl, ho0, hb⟩; have n0_ := Vb HO592 hb; have n1_ := Rb HO596 hb; have n2_ := Vb HO599 hb; have n3_ := Aside0.mk (Kd.V_lower (Kd.V_mono (ok' := fun k_ => some k_ ≠ (v595 : Value).ownBlock) ho0 (fun k_ hk_ => (Kd.fresh' (Kd.R_lt (Ru HO596)) k_ hk_))) (Bz HB)); have n4_ := Bs HB hb; clear HO592 HO596 HO599 HB; revert n0_ n1_ n2_ n3_ n4_; intro HO592 HO596 HO599 HO602 HB; (try clear hb); (try clear hb2); (try clear hk); (try clear hi); (try clear ho0); obtain ⟨Ao37, co37, eo37⟩ := Kd.V_slice HO599.out; subst eo37; obtain ⟨Ao38, co38, eo38⟩ := Kd.V_slice HO602.out; subst eo38) | (go_at_call 17; (with_reducible refine (lanyardref06_Exp.calls kj3 _ _ t597 _ _ t600 (fun k_ => (True ∧ some k_ ≠ (v595 : Value).ownBlock)) _ _ t590 t603 _ ?side1 ?side2 ?side3 ?side4 ?side5 A30.out).mono ?_); (case side1 => exact Cu (Kd.V_reads' HO599.out).2.2); (case side2 => exact (Kd.V_reads' HO599.out).2.1); (case side3 => exact Cu (Kd.V_reads' HO602.out).2.2); (case side4 => exact (Kd.V_reads' HO602.out).2.1); (case side5 => exact HO592.out); rintro e w39 ⟨v604, rfl, ho0, hb⟩; have n0_ := Vb HO592 hb; have n1_ := Rb HO596 hb; have n2_ := Vb HO599 hb; have n3_ := Vb HO602 hb; have n4_ := Aside0.mk (Kd.V_lower (Kd.V_mono (ok' := fun k_ => some k_ ≠ (v595 : Value).ownBlock) ho0 (fun k_ hk_ => Or.elim hk_ (fun hs_ => hs_.2) (fun hn_ => (Kd.fresh' (Kd.R_lt (Ru HO596)) k_ hn_)))) (Bz HB)); have n5_ := Bs HB hb; clear HO592 HO596 HO599 HO602 HB; revert n0_ n1_ n2_ n3_ n4_ n5_; intro HO592 HO596 HO599 HO602 HO605 HB; (try clear hb); (try clear hb2); (try clear hk); (try clear hi); (try clear ho0); obtain ⟨Ao40, co40, eo40⟩ := Kd.R_slice HO596.out; subst eo40; obtain ⟨Ao41, co41, eo41⟩ := Kd.V_slice HO605.out; subst eo41) | (go_at_call 15; (with_reducible refine (lanyardlaw06_same.calls kj3 _ _ t593 _ _ t603 t606 _ ?side1 ?side2 ?side3 ?side4 A31.out).mono ?_); (case side1 => exact Cu (Kd.R_reads' HO596.out).2.2); (case side2 => exact (Kd.R_reads' HO596.out).2.1); (case side3 => exact Cu (Kd.V_reads' HO605.out).2.2); (case side4 => exact (Kd.V_reads' HO605.out).2.1); rintro e w42 ⟨rfl, hb⟩; have n0_ := Vb HO592 hb; have n1_ := Rb HO596 hb; have n2_ := Vb HO599 hb; have n3_ := Vb HO602 hb; have n4_ := Vb HO605 hb; have n5_ := Bs HB hb; clear HO592 HO596 HO599 HO602 HO605 HB; revert n0_ n1_ n2_ n3_ n4_ n5_; intro HO592 HO596 HO599 HO602 HO605 HB; (try clear hb); (try clear hb2); (try clear hk); (try clear hi)))
      go_ret
      exact ⟨rfl_, Bu HB⟩
     ·rw [if_neg c27] at H
      have c27b0 : (t594 == 0) = false := beq_eq_false_iff_ne.mpr c27
      have c27b1 : (t594 != 0) = true := bne_iff_ne.mpr c27
      obtain rfl := Option.some.inj H
      go_wp2_with (first | ((with_reducible refine gate_callee (f := 12) rfl ?_); refine goesA (some 29) Tryd.func12 #[.slice A2 l2.length c2] rfl ?_; (with_reducible refine (lanyardref06_Of.calls kj3 _ _ l2 t590 _ ?side1 ?side2 A16.out).mono ?_); (case side1 => exact Cu (Kd.C_below HR2.out HB.out)); (case side2 => exact HC2.out); rintro e w43 ⟨v591, rfl, ho0, hb⟩; refine ⟨_, rfl, ?_⟩; have n0_ := Aside0.mk (Kd.V_lower (Kd.V_mono (ok' := fun k_ => True) ho0 (fun k_ hk_ => trivial)) (Bz HB)); have n1_ := Bs HB hb; clear HB; revert n0_ n1_; intro HO592 HB; (try clear hb); (try clear hb2); (try clear hk); (try clear hi); (try clear ho0)) | ((with_reducible refine gate_callee (f := 16) rfl ?_); refine goesA (some 34) Tryd.func16 #[.slice A0 l0.length c0, .slice A1 l1.length c1, .slice A2 l2.length c2] rfl ?_; (with_reducible refine (nat_Exp.calls kj3 _ _ l0 _ _ l1 _ _ l2 t593 t594 _ ?side1 ?side2 ?side3 ?side4 ?side5 ?side6 A17.out).mono ?_); (case side1 => exact Cu (Kd.C_below HR0.out HB.out)); (case side2 => exact HC0.out); (case side3 => exact Cu (Kd.C_below HR1.out HB.out)); (case side4 => exact HC1.out); (case side5 => exact Cu (Kd.C_below HR2.out HB.out)); (case side6 => exact HC2.out); rintro e w44 ⟨v595, rfl, ho0, hb⟩; refine ⟨_, rfl, ?_⟩; have n0_ := Ve HO592 (Kd.R_base ho0) hb; have n1_ := Aside0.mk (Kd.R_lower ho0 (Bz HB)); have n2_ := Bs HB hb; clear HO592 HB; revert n0_ n1_ n2_; intro HO592 HO596 HB; (try clear hb); (try clear hb2); (try clear hk); (try clear hi); (try clear ho0); obtain ⟨Ao45, co45, eo45⟩ := Kd.V_slice HO592.out; subst eo45))
      go_ret
      exact ⟨rfl_, Bu HB⟩

/-- THE ONE PURE STATEMENT of lanyardlaw06_NatPowers: yours. -/
def lanyardlaw06_NatPowers.Pure : Prop := ∀ (l0 : List Int) (l1 : List Int) (l2 : List Int), l0.length ≤ maxLen → l0.length * 1 ≤ 140737488351232 → (∀ x ∈ l0, (Lit.int .u8 x).wf = true) → l1.length ≤ maxLen → l1.length * 1 ≤ 140737488351232 → (∀ x ∈ l1, (Lit.int .u8 x).wf = true) → l2.length ≤ maxLen → l2.length * 1 ≤ 140737488351232 → (∀ x ∈ l2, (Lit.int .u8 x).wf = true) → ∃ k, lanyardlaw06_NatPowers.f k l0 l1 l2 = some true
theorem lanyardlaw06_NatPowers.walk (P : lanyardlaw06_NatPowers.Pure) (a0 : Option Addr) (len0 cap0 : Nat) (z0 : List Int) (a1 : Option Addr) (len1 cap1 : Nat) (z1 : List Int) (a2 : Option Addr) (len2 cap2 : Nat) (z2 : List Int) (w : World) (w0 : (a0 = none ∧ len0 = 0 ∧ cap0 = 0 ∧ z0 = []) ∨ ∃ x, a0 = some x ∧ len0 ≤ cap0 ∧ cap0 ≤ maxLen ∧ z0.length = cap0 ∧ (∀ i, i < z0.length → w.cell? (x.add i) = some (.int .u8 (z0.getD i 0))) ∧ ∀ n ∈ z0, (Lit.int .u8 n).wf = true) (y0 : len0 * 1 ≤ 140737488351232) (w1 : (a1 = none ∧ len1 = 0 ∧ cap1 = 0 ∧ z1 = []) ∨ ∃ x, a1 = some x ∧ len1 ≤ cap1 ∧ cap1 ≤ maxLen ∧ z1.length = cap1 ∧ (∀ i, i < z1.length → w.cell? (x.add i) = some (.int .u8 (z1.getD i 0))) ∧ ∀ n ∈ z1, (Lit.int .u8 n).wf = true) (y1 : len1 * 1 ≤ 140737488351232) (w2 : (a2 = none ∧ len2 = 0 ∧ cap2 = 0 ∧ z2 = []) ∨ ∃ x, a2 = some x ∧ len2 ≤ cap2 ∧ cap2 ≤ maxLen ∧ z2.length = cap2 ∧ (∀ i, i < z2.length → w.cell? (x.add i) = some (.int .u8 (z2.getD i 0))) ∧ ∀ n ∈ z2, (Lit.int .u8 n).wf = true) (y2 : len2 * 1 ≤ 140737488351232) :
  Calls Tryd.prog 4 #[.slice a0 len0 cap0, .slice a1 len1 cap1, .slice a2 len2 cap2] w fun e w' => e = .returned (.bool true) ∧ Below w.heap.size w w' := by
 obtain ⟨l0, rfl, hr0, hm0, hw0, hc0⟩ := ReadsInt.ofRowC w0
 obtain ⟨l1, rfl, hr1, hm1, hw1, hc1⟩ := ReadsInt.ofRowC w1
 obtain ⟨l2, rfl, hr2, hm2, hw2, hc2⟩ := ReadsInt.ofRowC w2
 obtain ⟨k, h⟩ := P l0 l1 l2 hm0 y0 hw0 hm1 y1 hw1 hm2 y2 hw2
 refine (lanyardlaw06_NatPowers.calls k _ _ l0 _ _ l1 _ _ l2 true w (Kd.C_of_reads (d := (0 : Int)) (h1 := fun _ => rfl) hr0) hc0 (Kd.C_of_reads (d := (0 : Int)) (h1 := fun _ => rfl) hr1) hc1 (Kd.C_of_reads (d := (0 : Int)) (h1 := fun _ => rfl) hr2) hc2 h).mono ?_
 rintro e w' ⟨rfl, hd⟩
 exact ⟨rfl, hd⟩

/-! ### nat_Gcd: function 18 -/
def nat_Gcd.f (k : Nat) (l0 : List Int) (l1 : List Int) : Option (List Int × Int) := (nat_long.f (([l0, l1] : List (List Int)))).bind fun t610 => (if t610 = true then (some (([] : List Int), 12)) else ((nat_of.f k l0).bind fun t611 => ((nat_of.f k l1).bind fun t614 => ((nat_gcd.f k t611 t614).bind fun t617 => ((nat_num_bytes.f k t617).bind fun t620 => (some (t620, 0)))))))
theorem nat_Gcd.mono : ∀ a0 a1 k, LeO (nat_Gcd.f k a0 a1) (nat_Gcd.f (k + 1) a0 a1) := by
 intro a0 a1 k
 unfold nat_Gcd.f
 repeat' first
   | (with_reducible exact nat_gcd.mono _ _ _)
   | (with_reducible exact nat_num_bytes.mono _ _)
   | (with_reducible exact nat_of.mono _ _)
   | (with_reducible exact LeO.refl _)
   | (with_reducible exact LeO.none _)
   | (with_reducible refine LeO.ite ?_ ?_)
   | (with_reducible refine LeO.bind ?_ (fun _ => ?_))
   | exact nat_gcd.mono _ _ _
   | exact nat_num_bytes.mono _ _
   | exact nat_of.mono _ _
   | exact LeO.none _
   | refine LeO.ite ?_ ?_
   | refine LeO.bind ?_ (fun _ => ?_)
set_option maxHeartbeats 8000000 in
set_option maxRecDepth 100000 in
theorem nat_Gcd.callsV (k : Nat) (P0_ : Nat → Prop) (A0 : Option Addr) (c0 : Nat) (l0 : List Int) (P1_ : Nat → Prop) (A1 : Option Addr) (c1 : Nat) (l1 : List Int) (r1 : List Int) (r2 : Int) (w : World) (hs0 : Kd.V (Kd.int .u8) 5 w w.heap.size (fun k_ => P0_ k_) (.slice A0 l0.length c0) l0) (hs1 : Kd.V (Kd.int .u8) 5 w w.heap.size (fun k_ => P1_ k_) (.slice A1 l1.length c1) l1) (h : nat_Gcd.f k l0 l1 = some (r1, r2)) :
  Calls Tryd.prog 18 #[.slice A0 l0.length c0, .slice A1 l1.length c1] w fun e w' => ∃ v0_ : Value, e = .returned (.tuple #[v0_, .int .i64 r2]) ∧ Kd.R (Kd.int .u8) 5 w' w.heap.size (fun k_ => (w.heap.size ≤ k_)) v0_ r1 ∧ Below w.heap.size w w' := by
 have HO0 := Aside0.mk (show Kd.V (Kd.int .u8) 5 w w.heap.size (fun k_ => ((P0_ k_ ∨ P1_ k_) ∨ w.heap.size ≤ k_)) (.slice A0 l0.length c0) l0 from Kd.V_mono hs0 (fun k_ hk => .inl (.inl hk)))
 have HO1 := Aside0.mk (show Kd.V (Kd.int .u8) 5 w w.heap.size (fun k_ => ((P0_ k_ ∨ P1_ k_) ∨ w.heap.size ≤ k_)) (.slice A1 l1.length c1) l1 from Kd.V_mono hs1 (fun k_ hk => .inl (.inr hk)))
 have HB := Aside0.mk (Below.refl w.heap.size w)
 have H : ((nat_long.f (([l0, l1] : List (List Int)))).bind fun t610 => (if t610 = true then (some (([] : List Int), 12)) else ((nat_of.f k l0).bind fun t611 => ((nat_of.f k l1).bind fun t614 => ((nat_gcd.f k t611 t614).bind fun t617 => ((nat_num_bytes.f k t617).bind fun t620 => (some (t620, 0)))))))) = some (r1, r2) := h
 clear h
 obtain ⟨y607, hy607⟩ : ∃ y_ : List (List Int), y_ = (([l0, l1] : List (List Int))) := ⟨_, rfl⟩
 replace H : ((nat_long.f y607).bind fun t610 => (if t610 = true then (some (([] : List Int), 12)) else ((nat_of.f k l0).bind fun t611 => ((nat_of.f k l1).bind fun t614 => ((nat_gcd.f k t611 t614).bind fun t617 => ((nat_num_bytes.f k t617).bind fun t620 => (some (t620, 0)))))))) = some (r1, r2) := by first | (rw [hy607]; with_reducible exact H) | (have H2_ := (Option.bind_some _ _).symm.trans H; rw [hy607]; with_reducible exact H2_) | (have H2_ := (Option.bind_some _ _).symm.trans H; with_reducible exact H2_) | with_reducible exact H | (rw [hy607]; exact H) | exact H
 have Ny607 := Aside0.mk hy607
 clear hy607
 replace H := Option.bind_eq_some_iff.mp H
 obtain ⟨t610, A30, H⟩ := H
 replace H : (if t610 = true then (some (([] : List Int), 12)) else ((nat_of.f k l0).bind fun t611 => ((nat_of.f k l1).bind fun t614 => ((nat_gcd.f k t611 t614).bind fun t617 => ((nat_num_bytes.f k t617).bind fun t620 => (some (t620, 0))))))) = some (r1, r2) := H
 have A3 := Aside0.mk A30
 clear A30
 by_cases c4 : t610 = true
 ·subst c4
  have H1 : (some (([] : List Int), 12)) = some (r1, r2) := by rw [if_pos rfl] at H; exact H
  clear H
  have H := H1
  clear H1
  simp only [Option.some.injEq, Prod.mk.injEq] at H
  obtain ⟨rfl, rfl⟩ := H
  go_enter Tryd.func18, Tryd.ntmps18
  go_wp2_with (first | ((with_reducible refine gate_dst (N := 8) rfl ?_); refine Kd.N_lit (Kd.slice 5 (Kd.int .u8)) _ 22 ?hg (N' := 8) ?hd (xs := ([l0, l1] : List (List Int))) (inner := [.slice A0 l0.length c0, .slice A1 l1.length c1]) (ok := (fun k_ => ((P0_ k_ ∨ P1_ k_) ∨ w.heap.size ≤ k_))) (okp := (fun k_ => ((P0_ k_ ∨ P1_ k_) ∨ w.heap.size ≤ k_))) ?hr ?hp (fun _ hk => hk) ((show ∀ k_, w.heap.size ≤ k_ → (fun k_ => ((P0_ k_ ∨ P1_ k_) ∨ w.heap.size ≤ k_)) k_ from fun k_ hk => (.inr (Nat.le_trans (Bz HB) hk))) _ (Nat.le_refl _)) (Below.refl _ _) (Nat.le_refl _) (by simp) ?_; (case hd => rfl); (case hg => rfl); (case hr => first | (go_simp; done) | (go_simp; rfl)); (case hp => exact (Reps.one (show Kd.FK (Kd.slice 5 (Kd.int .u8)) _ _ l0 [.slice A0 l0.length c0] from (Kd.FK_slice_mk (Kd.V_reads' (Kd.V_mono (ok' := (fun k_ => ((P0_ k_ ∨ P1_ k_) ∨ w.heap.size ≤ k_))) (HO0.out) (fun k_ hk => hk))).2.1 (Kd.V_F (Kd.V_mono (ok' := (fun k_ => ((P0_ k_ ∨ P1_ k_) ∨ w.heap.size ≤ k_))) (HO0.out) (fun k_ hk => hk))))) (Reps.one (show Kd.FK (Kd.slice 5 (Kd.int .u8)) _ _ l1 [.slice A1 l1.length c1] from (Kd.FK_slice_mk (Kd.V_reads' (Kd.V_mono (ok' := (fun k_ => ((P0_ k_ ∨ P1_ k_) ∨ w.heap.size ≤ k_))) (HO1.out) (fun k_ hk => hk))).2.1 (Kd.V_F (Kd.V_mono (ok' := (fun k_ => ((P0_ k_ ∨ P1_ k_) ∨ w.heap.size ≤ k_))) (HO1.out) (fun k_ hk => hk))))) (Reps.none _ _)))); intro v608 w5 ho6 hb hg_ hnew_; clear hg_ hnew_; (first | rw [← Ny607.out] at ho6 | (simp only [Int.reduceToNat] at ho6; rw [← Ny607.out] at ho6)); have n0_ := Aside0.mk (Kd.V_elder' (Vu HO0) (Kd.N_base (by first | exact ho6 | exact Kd.S_N ho6)) hb); have n1_ := Aside0.mk (Kd.V_elder' (Vu HO1) (Kd.N_base (by first | exact ho6 | exact Kd.S_N ho6)) hb); have n2_ := Aside0.mk (Kd.N_lower ho6 (Bz HB)); have n3_ := Bs HB hb; clear HO0 HO1 HB; revert n0_ n1_ n2_ n3_; intro HO0 HO1 HO609 HB; clear hb ho6; obtain ⟨Ao7, co7, eo7⟩ := Kd.N_slice HO609.out; subst eo7) | ((with_reducible refine gate_callee (f := 32) rfl ?_); refine goesA (some 9) Tryd.func32 #[.slice Ao7 y607.length co7] rfl ?_; (with_reducible refine (nat_long.calls _ _ y607 true _ ?side1 ?side2 A3.out).mono ?_); (case side1 => exact Cu (Kd.N_reads' HO609.out).2.2); (case side2 => exact (Kd.N_reads' HO609.out).2.1); rintro e w' ⟨rfl, ⟨nd, rfl⟩⟩; refine ⟨_, rfl, ?_⟩))
  go_ret2
  exact ⟨_, rfl_, by first | exact Kd.R_nil _ _ _ _ _ | exact Kd.N_nil _ _ _ _ _ | exact Kd.V_nil _ _ _ _ _ | exact Kd.Q_nil _ _ _ _ _ | exact Kd.S_nil _ _ _ _ _, Bu HB⟩
 ·replace c4 := Bool.eq_false_iff.mpr c4
  subst c4
  have H1 : ((nat_of.f k l0).bind fun t611 => ((nat_of.f k l1).bind fun t614 => ((nat_gcd.f k t611 t614).bind fun t617 => ((nat_num_bytes.f k t617).bind fun t620 => (some (t620, 0)))))) = some (r1, r2) := by rw [if_neg (show ¬ (false = true) by decide)] at H; exact H
  clear H
  have H := H1
  clear H1
  replace H := Option.bind_eq_some_iff.mp H
  obtain ⟨t611, A80, H⟩ := H
  replace H : ((nat_of.f k l1).bind fun t614 => ((nat_gcd.f k t611 t614).bind fun t617 => ((nat_num_bytes.f k t617).bind fun t620 => (some (t620, 0))))) = some (r1, r2) := H
  have A8 := Aside0.mk A80
  clear A80
  replace H := Option.bind_eq_some_iff.mp H
  obtain ⟨t614, A90, H⟩ := H
  replace H : ((nat_gcd.f k t611 t614).bind fun t617 => ((nat_num_bytes.f k t617).bind fun t620 => (some (t620, 0)))) = some (r1, r2) := H
  have A9 := Aside0.mk A90
  clear A90
  replace H := Option.bind_eq_some_iff.mp H
  obtain ⟨t617, A100, H⟩ := H
  replace H : ((nat_num_bytes.f k t617).bind fun t620 => (some (t620, 0))) = some (r1, r2) := H
  have A10 := Aside0.mk A100
  clear A100
  replace H := Option.bind_eq_some_iff.mp H
  obtain ⟨t620, A110, H⟩ := H
  replace H : (some (t620, 0)) = some (r1, r2) := H
  have A11 := Aside0.mk A110
  clear A110
  simp only [Option.some.injEq, Prod.mk.injEq] at H
  obtain ⟨rfl, rfl⟩ := H
  go_enter Tryd.func18, Tryd.ntmps18
  go_wp2_with (first | ((with_reducible refine gate_dst (N := 8) rfl ?_); refine Kd.N_lit (Kd.slice 5 (Kd.int .u8)) _ 22 ?hg (N' := 8) ?hd (xs := ([l0, l1] : List (List Int))) (inner := [.slice A0 l0.length c0, .slice A1 l1.length c1]) (ok := (fun k_ => ((P0_ k_ ∨ P1_ k_) ∨ w.heap.size ≤ k_))) (okp := (fun k_ => ((P0_ k_ ∨ P1_ k_) ∨ w.heap.size ≤ k_))) ?hr ?hp (fun _ hk => hk) ((show ∀ k_, w.heap.size ≤ k_ → (fun k_ => ((P0_ k_ ∨ P1_ k_) ∨ w.heap.size ≤ k_)) k_ from fun k_ hk => (.inr (Nat.le_trans (Bz HB) hk))) _ (Nat.le_refl _)) (Below.refl _ _) (Nat.le_refl _) (by simp) ?_; (case hd => rfl); (case hg => rfl); (case hr => first | (go_simp; done) | (go_simp; rfl)); (case hp => exact (Reps.one (show Kd.FK (Kd.slice 5 (Kd.int .u8)) _ _ l0 [.slice A0 l0.length c0] from (Kd.FK_slice_mk (Kd.V_reads' (Kd.V_mono (ok' := (fun k_ => ((P0_ k_ ∨ P1_ k_) ∨ w.heap.size ≤ k_))) (HO0.out) (fun k_ hk => hk))).2.1 (Kd.V_F (Kd.V_mono (ok' := (fun k_ => ((P0_ k_ ∨ P1_ k_) ∨ w.heap.size ≤ k_))) (HO0.out) (fun k_ hk => hk))))) (Reps.one (show Kd.FK (Kd.slice 5 (Kd.int .u8)) _ _ l1 [.slice A1 l1.length c1] from (Kd.FK_slice_mk (Kd.V_reads' (Kd.V_mono (ok' := (fun k_ => ((P0_ k_ ∨ P1_ k_) ∨ w.heap.size ≤ k_))) (HO1.out) (fun k_ hk => hk))).2.1 (Kd.V_F (Kd.V_mono (ok' := (fun k_ => ((P0_ k_ ∨ P1_ k_) ∨ w.heap.size ≤ k_))) (HO1.out) (fun k_ hk => hk))))) (Reps.none _ _)))); intro v608 w12 ho13 hb hg_ hnew_; clear hg_ hnew_; (first | rw [← Ny607.out] at ho13 | (simp only [Int.reduceToNat] at ho13; rw [← Ny607.out] at ho13)); have n0_ := Aside0.mk (Kd.V_elder' (Vu HO0) (Kd.N_base (by first | exact ho13 | exact Kd.S_N ho13)) hb); have n1_ := Aside0.mk (Kd.V_elder' (Vu HO1) (Kd.N_base (by first | exact ho13 | exact Kd.S_N ho13)) hb); have n2_ := Aside0.mk (Kd.N_lower ho13 (Bz HB)); have n3_ := Bs HB hb; clear HO0 HO1 HB; revert n0_ n1_ n2_ n3_; intro HO0 HO1 HO609 HB; clear hb ho13; obtain ⟨Ao14, co14, eo14⟩ := Kd.N_slice HO609.out; subst eo14) | ((with_reducible refine gate_callee (f := 32) rfl ?_); refine goesA (some 9) Tryd.func32 #[.slice Ao14 y607.length co14] rfl ?_; (with_reducible refine (nat_long.calls _ _ y607 false _ ?side1 ?side2 A3.out).mono ?_); (case side1 => exact Cu (Kd.N_reads' HO609.out).2.2); (case side2 => exact (Kd.N_reads' HO609.out).2.1); rintro e w' ⟨rfl, ⟨nd, rfl⟩⟩; refine ⟨_, rfl, ?_⟩) | ((with_reducible refine gate_callee (f := 31) rfl ?_); refine goesA (some 11) Tryd.func31 #[.slice A0 l0.length c0] rfl ?_; (with_reducible refine (nat_of.calls k _ _ l0 t611 _ ?side1 ?side2 A8.out).mono ?_); (case side1 => exact Cu (Kd.V_reads' HO0.out).2.2); (case side2 => exact (Kd.V_reads' HO0.out).2.1); rintro e w15 ⟨v612, rfl, ho0, hb⟩; refine ⟨_, rfl, ?_⟩; have n0_ := Vb HO0 hb; have n1_ := Vb HO1 hb; have n2_ := Nb HO609 hb; have n3_ := Aside0.mk (Kd.V_lower (Kd.V_mono (ok' := fun k_ => ((P0_ k_ ∨ P1_ k_) ∨ w.heap.size ≤ k_) ∧ some k_ ≠ (.slice Ao14 y607.length co14 : Value).ownBlock) ho0 (fun k_ hk_ => ⟨(.inr (Nat.le_trans (Bz HB) hk_)), (Kd.fresh' (Kd.N_lt (Nu HO609)) k_ hk_)⟩)) (Bz HB)); have n4_ := Bs HB hb; clear HO0 HO1 HO609 HB; revert n0_ n1_ n2_ n3_ n4_; intro HO0 HO1 HO609 HO613 HB; (try clear hb); (try clear hb2); (try clear hk); (try clear hi); (try clear ho0)) | ((with_reducible refine gate_callee (f := 31) rfl ?_); refine goesA (some 13) Tryd.func31 #[.slice A1 l1.length c1] rfl ?_; (with_reducible refine (nat_of.calls k _ _ l1 t614 _ ?side1 ?side2 A9.out).mono ?_); (case side1 => exact Cu (Kd.V_reads' HO1.out).2.2); (case side2 => exact (Kd.V_reads' HO1.out).2.1); rintro e w16 ⟨v615, rfl, ho0, hb⟩; refine ⟨_, rfl, ?_⟩; have n0_ := Vb HO0 hb; have n1_ := Vb HO1 hb; have n2_ := Nb HO609 hb; have n3_ := Vb HO613 hb; have n4_ := Aside0.mk (Kd.V_lower (Kd.V_mono (ok' := fun k_ => ((P0_ k_ ∨ P1_ k_) ∨ w.heap.size ≤ k_) ∧ some k_ ≠ (.slice Ao14 y607.length co14 : Value).ownBlock) ho0 (fun k_ hk_ => ⟨(.inr (Nat.le_trans (Bz HB) hk_)), (Kd.fresh' (Kd.N_lt (Nu HO609)) k_ hk_)⟩)) (Bz HB)); have n5_ := Bs HB hb; clear HO0 HO1 HO609 HO613 HB; revert n0_ n1_ n2_ n3_ n4_ n5_; intro HO0 HO1 HO609 HO613 HO616 HB; (try clear hb); (try clear hb2); (try clear hk); (try clear hi); (try clear ho0); obtain ⟨Ao17, co17, eo17⟩ := Kd.V_slice HO613.out; subst eo17; obtain ⟨Ao18, co18, eo18⟩ := Kd.V_slice HO616.out; subst eo18) | ((with_reducible refine gate_callee (f := 37) rfl ?_); refine goesA (some 14) Tryd.func37 #[.slice Ao17 t611.length co17, .slice Ao18 t614.length co18] rfl ?_; (with_reducible refine (nat_gcd.calls k (fun k_ => (((P0_ k_ ∨ P1_ k_) ∨ w.heap.size ≤ k_) ∧ some k_ ≠ (.slice Ao14 y607.length co14 : Value).ownBlock)) _ _ t611 (fun k_ => (((P0_ k_ ∨ P1_ k_) ∨ w.heap.size ≤ k_) ∧ some k_ ≠ (.slice Ao14 y607.length co14 : Value).ownBlock)) _ _ t614 t617 _ ?side1 ?side2 A10.out).mono ?_); (case side1 => exact HO613.out); (case side2 => exact HO616.out); rintro e w19 ⟨v618, rfl, ho0, hb⟩; refine ⟨_, rfl, ?_⟩; have n0_ := Vb HO0 hb; have n1_ := Vb HO1 hb; have n2_ := Nb HO609 hb; have n3_ := Vb HO613 hb; have n4_ := Vb HO616 hb; have n5_ := Aside0.mk (Kd.V_lower (Kd.V_mono (ok' := fun k_ => ((P0_ k_ ∨ P1_ k_) ∨ w.heap.size ≤ k_) ∧ some k_ ≠ (.slice Ao14 y607.length co14 : Value).ownBlock) ho0 (fun k_ hk_ => ⟨Or.elim hk_ (fun hs_ => Or.elim hs_ (fun hs_ => hs_.1) (fun hs_ => hs_.1)) (fun hn_ => (.inr (Nat.le_trans (Bz HB) hn_))), Or.elim hk_ (fun hs_ => Or.elim hs_ (fun hs_ => hs_.2) (fun hs_ => hs_.2)) (fun hn_ => (Kd.fresh' (Kd.N_lt (Nu HO609)) k_ hn_))⟩)) (Bz HB)); have n6_ := Bs HB hb; clear HO0 HO1 HO609 HO613 HO616 HB; revert n0_ n1_ n2_ n3_ n4_ n5_ n6_; intro HO0 HO1 HO609 HO613 HO616 HO619 HB; (try clear hb); (try clear hb2); (try clear hk); (try clear hi); (try clear ho0); obtain ⟨Ao20, co20, eo20⟩ := Kd.V_slice HO619.out; subst eo20) | ((with_reducible refine gate_callee (f := 34) rfl ?_); refine goesA (some 15) Tryd.func34 #[.slice Ao20 t617.length co20] rfl ?_; (with_reducible refine (nat_num_bytes.calls k _ _ t617 t620 _ ?side1 ?side2 A11.out).mono ?_); (case side1 => exact Cu (Kd.V_reads' HO619.out).2.2); (case side2 => exact (Kd.V_reads' HO619.out).2.1); rintro e w21 ⟨v621, rfl, ho0, hb⟩; refine ⟨_, rfl, ?_⟩; have n0_ := Ve HO0 (Kd.R_base ho0) hb; have n1_ := Ve HO1 (Kd.R_base ho0) hb; have n2_ := Ne HO609 (Kd.R_base ho0) hb; have n3_ := Ve HO613 (Kd.R_base ho0) hb; have n4_ := Ve HO616 (Kd.R_base ho0) hb; have n5_ := Ve HO619 (Kd.R_base ho0) hb; have n6_ := Aside0.mk (Kd.R_lower (Kd.R_newM (M := fun k_ => (w.heap.size ≤ k_)) ho0 (Bz HB) (fun k_ h_ => h_)) (Bz HB)); have n7_ := Bs HB hb; clear HO0 HO1 HO609 HO613 HO616 HO619 HB; revert n0_ n1_ n2_ n3_ n4_ n5_ n6_ n7_; intro HO0 HO1 HO609 HO613 HO616 HO619 HO622 HB; (try clear hb); (try clear hb2); (try clear hk); (try clear hi); (try clear ho0)))
  go_ret2
  exact ⟨_, rfl_, by (with_reducible repeat (first | apply Kd.R_alloc | apply Kd.R_drewN | apply Kd.R_drew)); exact Kd.R_mono HO622.out (fun _ hk => hk.1), Bu HB⟩
theorem nat_Gcd.calls (k : Nat) (A0 : Option Addr) (c0 : Nat) (l0 : List Int) (A1 : Option Addr) (c1 : Nat) (l1 : List Int) (r1 : List Int) (r2 : Int) (w : World) (hr0 : Kd.C (Kd.int .u8) w A0 l0.length l0) (hc0 : l0.length ≤ c0) (hr1 : Kd.C (Kd.int .u8) w A1 l1.length l1) (hc1 : l1.length ≤ c1) (h : nat_Gcd.f k l0 l1 = some (r1, r2)) :
  Calls Tryd.prog 18 #[.slice A0 l0.length c0, .slice A1 l1.length c1] w fun e w' => ∃ v0_ : Value, e = .returned (.tuple #[v0_, .int .i64 r2]) ∧ Kd.R (Kd.int .u8) 5 w' w.heap.size (fun _ => True) v0_ r1 ∧ Below w.heap.size w w' := by
 refine (nat_Gcd.callsV k (fun k_ => k_ < w.heap.size) A0 c0 l0 (fun k_ => k_ < w.heap.size) A1 c1 l1 r1 r2 w (Kd.V_mk hc0 (Kd.C_F (Kd.heap_int .u8) hr0)) (Kd.V_mk hc1 (Kd.C_F (Kd.heap_int .u8) hr1)) h).mono ?_
 rintro e w' ⟨v0_, he, h0_, hb⟩
 exact ⟨v0_, he, Kd.R_mono h0_ (fun _ _ => trivial), hb⟩

/-! ### lanyardref06_Gcd: function 19 -/
def lanyardref06_Gcd.l0 : Nat → List Int → List Int → Option (List Int)
 | 0, _, _ => none
 | k + 1, x0, x1 => if (x1.length : Int) > 0 then ((lanyardref06_Div.f k x0 x1).bind fun bt623 => (lanyardref06_Gcd.l0 k x1 bt623.2)) else (some x0)
def lanyardref06_Gcd.f (k : Nat) (l0 : List Int) (l1 : List Int) : Option (List Int) := lanyardref06_Gcd.l0 k l0 l1
theorem lanyardref06_Gcd.mono_l : ∀ k, (∀ y0 y1, LeO (lanyardref06_Gcd.l0 k y0 y1) (lanyardref06_Gcd.l0 (k + 1) y0 y1))
 | 0 => fun _ _ r h => by simp [lanyardref06_Gcd.l0] at h
 | k + 1 => by
  have ih0 := lanyardref06_Gcd.mono_l k
  ·intro y0 y1
   unfold lanyardref06_Gcd.l0
   repeat' first
   | (with_reducible exact ih0 _ _)
   | (with_reducible exact lanyardref06_Div.mono _ _ _)
   | (with_reducible exact LeO.refl _)
   | (with_reducible exact LeO.none _)
   | (with_reducible refine LeO.ite ?_ ?_)
   | (with_reducible refine LeO.bind ?_ (fun _ => ?_))
   | exact ih0 _ _
   | exact lanyardref06_Div.mono _ _ _
   | exact LeO.none _
   | refine LeO.ite ?_ ?_
   | refine LeO.bind ?_ (fun _ => ?_)
theorem lanyardref06_Gcd.mono : ∀ a0 a1 k, LeO (lanyardref06_Gcd.f k a0 a1) (lanyardref06_Gcd.f (k + 1) a0 a1) := by
 intro a0 a1 k
 have ih0 := lanyardref06_Gcd.mono_l k
 unfold lanyardref06_Gcd.f
 repeat' first
   | (with_reducible exact ih0 _ _)
   | (with_reducible exact lanyardref06_Div.mono _ _ _)
   | (with_reducible exact LeO.refl _)
   | (with_reducible exact LeO.none _)
   | (with_reducible refine LeO.ite ?_ ?_)
   | (with_reducible refine LeO.bind ?_ (fun _ => ?_))
   | exact ih0 _ _
   | exact lanyardref06_Div.mono _ _ _
   | exact LeO.none _
   | refine LeO.ite ?_ ?_
   | refine LeO.bind ?_ (fun _ => ?_)
set_option maxHeartbeats 8000000 in
set_option maxRecDepth 100000 in
theorem lanyardref06_Gcd.calls (k : Nat) (P0_ : Nat → Prop) (A0 : Option Addr) (c0 : Nat) (l0 : List Int) (P1_ : Nat → Prop) (A1 : Option Addr) (c1 : Nat) (l1 : List Int) (r : List Int) (w : World) (hs0 : Kd.V (Kd.int .i64) 3 w w.heap.size (fun k_ => P0_ k_) (.slice A0 l0.length c0) l0) (hs1 : Kd.V (Kd.int .i64) 3 w w.heap.size (fun k_ => P1_ k_) (.slice A1 l1.length c1) l1) (h : lanyardref06_Gcd.f k l0 l1 = some r) :
  Calls Tryd.prog 19 #[.slice A0 l0.length c0, .slice A1 l1.length c1] w fun e w' => ∃ v0_ : Value, e = .returned (v0_) ∧ Kd.V (Kd.int .i64) 3 w' w.heap.size (fun k_ => ((P0_ k_ ∨ P1_ k_) ∨ w.heap.size ≤ k_)) v0_ r ∧ Below w.heap.size w w' := by
 have HO0 := Aside0.mk (show Kd.V (Kd.int .i64) 3 w w.heap.size (fun k_ => ((P0_ k_ ∨ P1_ k_) ∨ w.heap.size ≤ k_)) (.slice A0 l0.length c0) l0 from Kd.V_mono hs0 (fun k_ hk => .inl (.inl hk)))
 have HO1 := Aside0.mk (show Kd.V (Kd.int .i64) 3 w w.heap.size (fun k_ => ((P0_ k_ ∨ P1_ k_) ∨ w.heap.size ≤ k_)) (.slice A1 l1.length c1) l1 from Kd.V_mono hs1 (fun k_ hk => .inl (.inr hk)))
 have HB := Aside0.mk (Below.refl w.heap.size w)
 have H : (lanyardref06_Gcd.l0 k l0 l1) = some r := h
 clear h
 have H' := Aside0.mk H
 clear H
 go_enter Tryd.func19, Tryd.ntmps19
 go_wp2
 go_loopg [0, 1] k (fun kq v0 v1 w' => ∃ (x0_1 : List Int) (x1_1 : List Int), Aside0 (lanyardref06_Gcd.l0 kq x0_1 x1_1 = some r) ∧ Aside0 (kq ≤ k) ∧ Aside0 (Kd.V (Kd.int .i64) 3 w' w.heap.size (fun k_ => ((P0_ k_ ∨ P1_ k_) ∨ w.heap.size ≤ k_)) v0 x0_1) ∧ Aside0 (Kd.V (Kd.int .i64) 3 w' w.heap.size (fun k_ => ((P0_ k_ ∨ P1_ k_) ∨ w.heap.size ≤ k_)) v1 x1_1) ∧ Aside0 (Below w.heap.size w w'))
 case atStart => exact ⟨(l0), (l1), H', ⟨Nat.le_refl _⟩, ⟨Vu HO0⟩, ⟨Vu HO1⟩, ⟨Bu HB⟩⟩
 case round =>
  clear H'
  try clear c1
  try clear p2
  obtain ⟨x0_1, x1_1, HA, HK1, HO_0, HO_1, HB⟩ := hrel
  cases gk with
  | zero => exact absurd HA.out (by simp [lanyardref06_Gcd.l0])
  | succ k1 =>
   have H := HA.out
   clear HA
   simp only [lanyardref06_Gcd.l0] at H
   by_cases c3 : (x1_1.length : Int) > 0
   ·rw [if_pos c3] at H
    have c3b0 : decide (0 < (x1_1.length : Int)) = true := decide_eq_true c3
    have c3b1 : decide (0 < x1_1.length) = true := decide_eq_true (by omega)
    clear c3
    replace H := Option.bind_eq_some_iff.mp H
    obtain ⟨⟨t623, t626⟩, A40, H⟩ := H
    replace H : (lanyardref06_Gcd.l0 k1 x1_1 t626) = some r := H
    have A4 := Aside0.mk A40
    clear A40
    have H' := Aside0.mk H
    clear H
    obtain ⟨Ao5, co5, eo5⟩ := Kd.V_slice HO_1.out
    subst eo5
    obtain ⟨Ao6, co6, eo6⟩ := Kd.V_slice HO_0.out
    subst eo6
    go_wp2_with (first | ((with_reducible refine gate_callee (f := 14) rfl ?_); refine goesA (some 13) Tryd.func14 #[.slice Ao6 x0_1.length co6, .slice Ao5 x1_1.length co5] rfl ?_; (with_reducible refine (lanyardref06_Div.calls k1 _ _ x0_1 (fun k_ => ((P0_ k_ ∨ P1_ k_) ∨ w.heap.size ≤ k_)) _ _ x1_1 t623 t626 _ ?side1 ?side2 ?side3 A4.out).mono ?_); (case side1 => exact Cu (Kd.V_reads' HO_0.out).2.2); (case side2 => exact (Kd.V_reads' HO_0.out).2.1); (case side3 => exact HO_1.out); rintro e w7 ⟨v624, v627, rfl, ho0, ho1, hb⟩; refine ⟨_, rfl, ?_⟩; have n0_ := Vb HO_0 hb; have n1_ := Vb HO_1 hb; have n2_ := Aside0.mk (Kd.V_lower (Kd.V_mono (ok' := fun k_ => ((P0_ k_ ∨ P1_ k_) ∨ w.heap.size ≤ k_)) ho0 (fun k_ hk_ => Or.elim hk_ (fun hs_ => hs_) (fun hn_ => (.inr (Nat.le_trans (Bz HB) hn_))))) (Bz HB)); have n3_ := Aside0.mk (Kd.V_lower (Kd.V_mono (ok' := fun k_ => ((P0_ k_ ∨ P1_ k_) ∨ w.heap.size ≤ k_)) ho1 (fun k_ hk_ => Or.elim hk_ (fun hs_ => hs_) (fun hn_ => (.inr (Nat.le_trans (Bz HB) hn_))))) (Bz HB)); have n4_ := Bs HB hb; clear HO_0 HO_1 HB; revert n0_ n1_ n2_ n3_ n4_; intro HO_0 HO_1 HO625 HO628 HB; (try clear hb); (try clear hb2); (try clear hk); (try clear hi); (try clear ho0); (try clear ho1)))
    go_roundg k1
    case measure => have := HK1.out; omega
    case rel => exact ⟨(x1_1), (t626), H', ⟨by have := HK1.out; omega⟩, ⟨Vu HO_1⟩, ⟨Vu HO628⟩, ⟨Bu HB⟩⟩
   ·rw [if_neg c3] at H
    have c3b0 : decide (0 < (x1_1.length : Int)) = false := decide_eq_false c3
    have c3b1 : decide (0 < x1_1.length) = false := decide_eq_false (by omega)
    clear c3
    obtain rfl := Option.some.inj H
    obtain ⟨Ao8, co8, eo8⟩ := Kd.V_slice HO_1.out
    subst eo8
    go_wp2
    go_ret
    exact ⟨_, rfl_, Vu HO_0, Bu HB⟩

end Go.Proofs.YtcofpbndaljppaaDoor.Hp
