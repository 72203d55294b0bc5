/- Go functions of this seat as Lean functions, and their contracts: what the Go code computes, for every input. (By hp.py, a program of this repo, over the kit's print.py.) -/
import Derived.Test.YtcofpbndaljppaaDoorHp0
import Derived.Test.YtcofpbndaljppaaDoorHp1
import Derived.Test.YtcofpbndaljppaaDoorHp4
import Derived.Test.YtcofpbndaljppaaDoorHp5
import Derived.Test.YtcofpbndaljppaaDoorHp7
import Derived.Test.YtcofpbndaljppaaDoorHp8
namespace Go.Proofs.YtcofpbndaljppaaDoor.Hp
open Go.RowKit Go.Proofs.YtcofpbndaljppaaDoorW.PrintWords Go.Proofs.YtcofpbndaljppaaDoorW.PrintLast Go.Proofs.YtcofpbndaljppaaDoorW.PrintMore
attribute [local go_sem] max2_int min2_int max_two min_two max_three min_three max_four min_four   -- for this text's walks alone
set_option linter.unusedVariables false
set_option linter.unusedSimpArgs false

/-! ### lanyardref06_Bytes: function 35 -/
def lanyardref06_Bytes.l0 : Nat → List Int → List Int → Int → Option (List Int)
 | 0, _, _, _ => none
 | k + 1, x0, x3, x4 => if x4 ≥ 0 then (if 0 ≤ x4 then (if x4 < (x0.length : Int) then (if x3.length < 140737488355328 then (lanyardref06_Bytes.l0 k x0 (x3 ++ [(rd x0 x4) % 256]) (wrap64 (x4 - 1))) else (none)) else (none)) else (none)) else (some x3)
def lanyardref06_Bytes.f (k : Nat) (l0 : List Int) : Option (List Int) := lanyardref06_Bytes.l0 k l0 ([] : List Int) (wrap64 ((l0.length : Int) - 1))
theorem lanyardref06_Bytes.mono_l : ∀ k, (∀ y0 y1 y2, LeO (lanyardref06_Bytes.l0 k y0 y1 y2) (lanyardref06_Bytes.l0 (k + 1) y0 y1 y2))
 | 0 => fun _ _ _ r h => by simp [lanyardref06_Bytes.l0] at h
 | k + 1 => by
  have ih0 := lanyardref06_Bytes.mono_l k
  ·intro y0 y1 y2
   unfold lanyardref06_Bytes.l0
   repeat' first
   | (with_reducible exact ih0 _ _ _)
   | (with_reducible exact LeO.refl _)
   | (with_reducible exact LeO.none _)
   | (with_reducible refine LeO.ite ?_ ?_)
   | (with_reducible refine LeO.bind ?_ (fun _ => ?_))
   | exact ih0 _ _ _
   | exact LeO.none _
   | refine LeO.ite ?_ ?_
   | refine LeO.bind ?_ (fun _ => ?_)
theorem lanyardref06_Bytes.mono : ∀ a0 k, LeO (lanyardref06_Bytes.f k a0) (lanyardref06_Bytes.f (k + 1) a0) := by
 intro a0 k
 have ih0 := lanyardref06_Bytes.mono_l k
 unfold lanyardref06_Bytes.f
 repeat' first
   | (with_reducible exact ih0 _ _ _)
   | (with_reducible exact LeO.refl _)
   | (with_reducible exact LeO.none _)
   | (with_reducible refine LeO.ite ?_ ?_)
   | (with_reducible refine LeO.bind ?_ (fun _ => ?_))
   | exact ih0 _ _ _
   | exact LeO.none _
   | refine LeO.ite ?_ ?_
   | refine LeO.bind ?_ (fun _ => ?_)
set_option maxHeartbeats 8000000 in
set_option maxRecDepth 100000 in
theorem lanyardref06_Bytes.calls (k : Nat) (A0 : Option Addr) (c0 : Nat) (l0 : List Int) (r : List Int) (w : World) (hr0 : Kd.C (Kd.int .i64) w A0 l0.length l0) (hc0 : l0.length ≤ c0) (h : lanyardref06_Bytes.f k l0 = some r) :
  Calls Tryd.prog 35 #[.slice A0 l0.length c0] w fun e w' => ∃ v0_ : Value, e = .returned (v0_) ∧ Kd.R (Kd.int .u8) 5 w' w.heap.size (fun _ => True) v0_ r ∧ Below w.heap.size w w' := by
 have HR0 := Aside0.mk hr0
 have HC0 := Aside0.mk hc0
 clear hr0 hc0
 have HB := Aside0.mk (Below.refl w.heap.size w)
 have H : (lanyardref06_Bytes.l0 k l0 ([] : List Int) (wrap64 ((l0.length : Int) - 1))) = some r := h
 clear h
 have H' := Aside0.mk H
 clear H
 go_enter Tryd.func35, Tryd.ntmps35
 go_wp2
 go_loopg [3, 4] k (fun kq v3 v4 w' => ∃ (x3_1 : List Int) (x4_1 : Int), v4 = .int .i64 x4_1 ∧ Aside0 (lanyardref06_Bytes.l0 kq l0 x3_1 x4_1 = some r) ∧ Aside0 (kq ≤ k) ∧ Aside0 (Kd.R (Kd.int .u8) 5 w' w.heap.size (fun _ => True) v3 x3_1) ∧ Aside0 (Below w.heap.size w w'))
 case atStart => exact ⟨(([] : List Int)), (wrap64 ((l0.length : Int) - 1)), (by first | rfl | (simp; done) | (simp [*]; done)), H', ⟨Nat.le_refl _⟩, ⟨by first | exact Kd.R_nil _ _ _ _ _ | exact Kd.N_nil _ _ _ _ _ | exact Kd.V_nil _ _ _ _ _ | exact Kd.Q_nil _ _ _ _ _ | exact Kd.S_nil _ _ _ _ _⟩, ⟨Bu HB⟩⟩
 case round =>
  clear H'
  obtain ⟨x3_1, x4_1, rfl, HA, HK1, HO_3, HB⟩ := hrel
  cases gk with
  | zero => exact absurd HA.out (by simp [lanyardref06_Bytes.l0])
  | succ k1 =>
   have H := HA.out
   clear HA
   simp only [lanyardref06_Bytes.l0] at H
   by_cases c2 : x4_1 ≥ 0
   ·rw [if_pos c2] at H
    have c2b0 : decide (0 ≤ x4_1) = true := decide_eq_true c2
    clear c2
    by_cases c3 : 0 ≤ x4_1
    ·rw [if_pos c3] at H
     have c3b0 : decide (0 ≤ x4_1) = true := decide_eq_true c3
     clear c3
     by_cases c4 : x4_1 < (l0.length : Int)
     ·rw [if_pos c4] at H
      have c4b0 : decide (x4_1 < (l0.length : Int)) = true := decide_eq_true c4
      clear c4
      by_cases c5 : x3_1.length < 140737488355328
      ·rw [if_pos c5] at H
       have LMc5 := Aside0.mk c5
       clear c5
       obtain ⟨y514, hy514⟩ : ∃ y_ : List Int, y_ = (x3_1 ++ [(rd l0 x4_1) % 256]) := ⟨_, rfl⟩
       replace H : (lanyardref06_Bytes.l0 k1 l0 y514 (wrap64 (x4_1 - 1))) = some r := by first | (rw [hy514]; with_reducible exact H) | (have H2_ := (Option.bind_some _ _).symm.trans H; rw [hy514]; with_reducible exact H2_) | (have H2_ := (Option.bind_some _ _).symm.trans H; with_reducible exact H2_) | with_reducible exact H | (rw [hy514]; exact H) | exact H
       have Ny514 := Aside0.mk hy514
       clear hy514
       have H' := Aside0.mk H
       clear H
       have p513 : 0 ≤ (x4_1 : Int) := of_decide_eq_true (by first | (with_reducible assumption) | assumption)
       have q513 : x4_1 < (l0.length : Int) := of_decide_eq_true (by first | (with_reducible assumption) | assumption)
       obtain ⟨ad513, e513, hx513_0⟩ := Kd.at_int HR0.out x4_1 p513 q513
       cases e513
       replace hx513_0 := (HB.out.cell (World.block_lt_of_cell? w _ hx513_0)).trans hx513_0
       replace p513 := eq_true p513
       replace q513 := eq_true q513
       go_wp2_with (first | ((with_reducible refine gate_builtin (b := .append) (xs := #[.tmp 12, .tmp 18]) rfl ?_); at_builtin; refine Kd.R_append (Kd.int .u8) (w0 := w) w.heap.size rfl (.tmp 12) (.tmp 18) 22 5 (.int .u8 0) 1 rfl Tryd.underlying22 info5 rfl (by decide) (by omega) u3 x3_1 ((rd l0 x4_1) % 256) [.int .u8 ((rd l0 x4_1) % 256)] (fun _ => True) (fun _ => False) rfl rfl ?aP (fun _ hk => hk.elim) ?aF ?aO ?aB ?aS ?aL ?_; (case aP => exact rfl); (case aB => exact (Bu HB)); (case aF => exact (fun _ _ => trivial)); (case aO => exact (Ru HO_3)); (case aS => exact (Bz HB)); (case aL => have := LMc5.out; omega); intro v515 w6 ho hb hg hat; rw [← Ny514.out] at ho; have n0_ := Aside0.mk (hb); have n1_ := Aside0.mk (ho); clear HB HO_3; revert n0_ n1_; intro HB HO516; clear ho hb hg hat))
       go_roundg k1
       case measure => have := HK1.out; omega
       case rel => exact ⟨(y514), (wrap64 (x4_1 - 1)), (by first | rfl | (simp; done) | (simp [*]; done)), H', ⟨by have := HK1.out; omega⟩, ⟨Ru HO516⟩, ⟨Bu HB⟩⟩
      ·rw [if_neg c5] at H
       exact absurd H (by simp)
     ·rw [if_neg c4] at H
      exact absurd H (by simp)
    ·rw [if_neg c3] at H
     exact absurd H (by simp)
   ·rw [if_neg c2] at H
    have c2b0 : decide (0 ≤ x4_1) = false := decide_eq_false c2
    clear c2
    obtain rfl := Option.some.inj H
    go_wp2
    go_ret
    exact ⟨_, rfl_, Ru HO_3, Bu HB⟩

/-! ### lanyardlaw06_same: function 15 -/
def lanyardlaw06_same.f (k : Nat) (l0 : List Int) (l1 : List Int) : Option (Bool) := (lanyardref06_Bytes.f k l1).bind fun t517 => (some ((strOfNums l0).toList == (strOfNums t517).toList))
theorem lanyardlaw06_same.mono : ∀ a0 a1 k, LeO (lanyardlaw06_same.f k a0 a1) (lanyardlaw06_same.f (k + 1) a0 a1) := by
 intro a0 a1 k
 unfold lanyardlaw06_same.f
 repeat' first
   | (with_reducible exact lanyardref06_Bytes.mono _ _)
   | (with_reducible exact LeO.refl _)
   | (with_reducible exact LeO.none _)
   | (with_reducible refine LeO.ite ?_ ?_)
   | (with_reducible refine LeO.bind ?_ (fun _ => ?_))
   | exact lanyardref06_Bytes.mono _ _
   | exact LeO.none _
   | refine LeO.ite ?_ ?_
   | refine LeO.bind ?_ (fun _ => ?_)
set_option maxHeartbeats 8000000 in
set_option maxRecDepth 100000 in
theorem lanyardlaw06_same.calls (k : Nat) (A0 : Option Addr) (c0 : Nat) (l0 : List Int) (A1 : Option Addr) (c1 : Nat) (l1 : List Int) (r : Bool) (w : World) (hr0 : Kd.C (Kd.int .u8) w A0 l0.length l0) (hc0 : l0.length ≤ c0) (hr1 : Kd.C (Kd.int .i64) w A1 l1.length l1) (hc1 : l1.length ≤ c1) (h : lanyardlaw06_same.f k l0 l1 = some r) :
  Calls Tryd.prog 15 #[.slice A0 l0.length c0, .slice A1 l1.length c1] w fun e w' => e = .returned (.bool r) ∧ Below w.heap.size w w' := by
 have HR0 := Aside0.mk hr0
 have HC0 := Aside0.mk hc0
 clear hr0 hc0
 have HR1 := Aside0.mk hr1
 have HC1 := Aside0.mk hc1
 clear hr1 hc1
 have HB := Aside0.mk (Below.refl w.heap.size w)
 have H : ((lanyardref06_Bytes.f k l1).bind fun t517 => (some ((strOfNums l0).toList == (strOfNums t517).toList))) = some r := h
 clear h
 replace H := Option.bind_eq_some_iff.mp H
 obtain ⟨t517, A30, H⟩ := H
 replace H : (some ((strOfNums l0).toList == (strOfNums t517).toList)) = some r := H
 have A3 := Aside0.mk A30
 clear A30
 obtain rfl := Option.some.inj H
 go_enter Tryd.func15, Tryd.ntmps15
 try go_wp2
 have n0_ := Aside0.mk (below_drew1 HB.out)
 clear HB
 have HB := n0_
 clear n0_
 refine start_ (n := 7) (S := fun w' => (convert 22 9 (.slice A0 l0.length c0)).run Tryd.prog w' = .ok (.string (strOfNums l0)) w') (ds := []) #[false, false, false, false, false, false, false] (by kernel_rfl) rfl rfl (Kd.C_string (P := Tryd.prog) (A := A0) (c := c0) Tryd.underlying22 Tryd.underlying5 Tryd.underlying9 (Kd.C_below HR0.out HB.out)) (fun hHeld => ?_)
 generalize w.drew = w4 at HB hHeld ⊢
 refine pure_ (i := 0) (N := some 5) (v := ?_) (a' := ?_) #[true, false, false, false, false, false, false] rfl rfl (by kernel_rfl) (fun _ _ _ h => h) (Or.inl ⟨by rfl, ?_⟩) ?_ ?_
 rotate_left
 ·intro w'
  go_simp
  with_reducible rfl
 rotate_left
 ·simp only [Act.put, List.setIfInBounds_toArray, List.set_cons_zero, List.set_cons_succ, i64_w, i32_w]
  rfl
 refine pure_ (i := 2) (N := some 7) (v := ?_) (a' := ?_) #[true, false, true, false, false, false, false] rfl rfl (by kernel_rfl) (fun _ _ _ h => h) (Or.inl ⟨by rfl, ?_⟩) ?_ ?_
 rotate_left
 ·intro w'
  go_simp
  with_reducible rfl
 rotate_left
 ·simp only [Act.put, List.setIfInBounds_toArray, List.set_cons_zero, List.set_cons_succ, i64_w, i32_w]
  rfl
 refine take_ (i := 1) (N := some 6) (v := ?_) (a' := ?_) #[true, true, true, false, false, false, false] rfl rfl (by kernel_rfl) (fun _ _ _ h => h) (Or.inl ⟨by rfl, ?_⟩) hHeld ?_ ?_
 rotate_left
 ·intro w' s0
  go_simp
  with_reducible rfl
 rotate_left
 ·simp only [Act.put, List.setIfInBounds_toArray, List.set_cons_zero, List.set_cons_succ, i64_w, i32_w]
  rfl
 refine one_ (i := 3) (N := some 8) #[true, true, true, true, false, false, false] rfl rfl (by kernel_rfl) (by decide) (fun K hK => ?_)
 refine goes_ Tryd.func35 (by kernel_rfl) rfl #[.slice A1 l1.length c1] (by rfl) rfl rfl (by (try simp only [List.map_toArray, List.map_cons, List.map_nil]); first | done | rfl | (simp only [List.length_drop, List.length_take]; rfl)) ?_
 with_reducible refine (lanyardref06_Bytes.calls k _ _ l1 t517 _ ?side1 ?side2 A3.out).mono ?_
 (case side1 => exact Cu (Kd.C_below HR1.out HB.out))
 (case side2 => exact HC1.out)
 rintro e w5 ⟨v518, rfl, ho0, hb⟩
 refine ⟨_, rfl, ?_⟩
 have n0_ := Aside0.mk (Kd.R_lower ho0 (Bz HB))
 have n1_ := Bs HB hb
 clear HB
 have HO519 := n0_
 have HB := n1_
 clear n0_ n1_
 (try clear hb)
 (try clear hb2)
 (try clear hk)
 (try clear hi)
 (try clear ho0)
 refine hK.out _ _ (Kd.C_string (P := Tryd.prog) (A := A0) (c := c0) Tryd.underlying22 Tryd.underlying5 Tryd.underlying9 (Kd.C_below HR0.out HB.out)) (fun hHeld => ?_)
 clear hK K
 refine norm_ (a' := ?_) ?_ ?_
 rotate_left
 ·show Act.put _ (some 8) _ = _
  simp only [Act.put, List.setIfInBounds_toArray, List.set_cons_zero, List.set_cons_succ, i64_w, i32_w]
  rfl
 refine one_ (i := 4) (N := some 9) #[true, true, true, true, true, false, false] rfl rfl (by kernel_rfl) (by decide) (fun K hK => ?_)
 have hcv6 := own_string (P := Tryd.prog) Tryd.underlying22 Tryd.underlying5 Tryd.underlying9 (Kd.own_of_R HO519.out)
 refine value_ (w1 := ?_) (v := ?_) (by rfl) rfl ?_ ?_
 rotate_left 2
 ·go_simp
  constructor
  ·rfl
  ·rfl
 clear hcv6
 refine hK.out _ _ (Kd.C_string (P := Tryd.prog) (A := A0) (c := c0) Tryd.underlying22 Tryd.underlying5 Tryd.underlying9 (Kd.C_below HR0.out HB.out)) (fun hHeld => ?_)
 clear hK K
 refine norm_ (a' := ?_) ?_ ?_
 rotate_left
 ·show Act.put _ (some 9) _ = _
  simp only [Act.put, List.setIfInBounds_toArray, List.set_cons_zero, List.set_cons_succ, i64_w, i32_w]
  rfl
 refine pure_ (i := 5) (N := some 10) (v := ?_) (a' := ?_) #[true, true, true, true, true, true, false] rfl rfl (by kernel_rfl) (fun _ _ _ h => h) (Or.inl ⟨by rfl, ?_⟩) ?_ ?_
 rotate_left
 ·intro w'
  go_simp
  with_reducible rfl
 rotate_left
 ·simp only [Act.put, List.setIfInBounds_toArray, List.set_cons_zero, List.set_cons_succ, i64_w, i32_w]
  rfl
 refine pure_ (i := 6) (N := some 4) (v := ?_) (a' := ?_) #[true, true, true, true, true, true, true] rfl rfl (by kernel_rfl) (fun _ _ _ h => h) (Or.inl ⟨by rfl, ?_⟩) ?_ ?_
 rotate_left
 ·intro w'
  go_simp
  with_reducible rfl
 rotate_left
 ·simp only [Act.put, List.setIfInBounds_toArray, List.set_cons_zero, List.set_cons_succ, i64_w, i32_w]
  rfl
 refine done_ (by kernel_rfl) ?_
 try go_wp2
 go_ret
 exact ⟨rfl_, Bu HB⟩

/-! ### lanyardref06_Mul: function 22 -/
mutual
def lanyardref06_Mul.l0 : Nat → List Int → List Int → List Int → Int → Option (List Int)
 | 0, _, _, _, _ => none
 | k + 1, x0, x1, x5, x6 => if x6 < (x0.length : Int) then (lanyardref06_Mul.l1 k x0 x1 x5 x6 0 0) else ((lanyardref06_trim.f k x5).bind fun t523 => (some t523))
def lanyardref06_Mul.l1 : Nat → List Int → List Int → List Int → Int → Int → Int → Option (List Int)
 | 0, _, _, _, _, _, _ => none
 | k + 1, x0, x1, x5, x6, x7, x8 => if x8 < (x1.length : Int) then (if 0 ≤ (wrap64 (x6 + x8)) then (if (wrap64 (x6 + x8)) < (x5.length : Int) then (if 0 ≤ x6 then (if x6 < (x0.length : Int) then (if 0 ≤ x8 then (lanyardref06_Mul.l1 k x0 x1 (x5.set ((wrap64 (x6 + x8)) : Int).toNat (Int.tmod (wrap64 ((wrap64 (x7 + (rd x5 (wrap64 (x6 + x8))))) + (wrap64 ((rd x0 x6) * (rd x1 x8))))) 256)) x6 (wrap64 (Int.tdiv (wrap64 ((wrap64 (x7 + (rd x5 (wrap64 (x6 + x8))))) + (wrap64 ((rd x0 x6) * (rd x1 x8))))) 256)) (wrap64 (x8 + 1))) else (none)) else (none)) else (none)) else (none)) else (none)) else (if 0 ≤ (wrap64 (x6 + (x1.length : Int))) then (if (wrap64 (x6 + (x1.length : Int))) < (x5.length : Int) then (lanyardref06_Mul.l0 k x0 x1 (x5.set ((wrap64 (x6 + (x1.length : Int))) : Int).toNat x7) (wrap64 (x6 + 1))) else (none)) else (none))
end
def lanyardref06_Mul.f (k : Nat) (l0 : List Int) (l1 : List Int) : Option (List Int) := if 0 ≤ (wrap64 ((l0.length : Int) + (l1.length : Int))) then (if (wrap64 ((l0.length : Int) + (l1.length : Int)) : Int).toNat ≤ 35184372088832 then (lanyardref06_Mul.l0 k l0 l1 (List.replicate (wrap64 ((l0.length : Int) + (l1.length : Int)) : Int).toNat 0) 0) else (none)) else (none)
theorem lanyardref06_Mul.mono_l : ∀ k, (∀ y0 y1 y2 y3, LeO (lanyardref06_Mul.l0 k y0 y1 y2 y3) (lanyardref06_Mul.l0 (k + 1) y0 y1 y2 y3)) ∧ (∀ y0 y1 y2 y3 y4 y5, LeO (lanyardref06_Mul.l1 k y0 y1 y2 y3 y4 y5) (lanyardref06_Mul.l1 (k + 1) y0 y1 y2 y3 y4 y5))
 | 0 => ⟨fun _ _ _ _ r h => by simp [lanyardref06_Mul.l0] at h, fun _ _ _ _ _ _ r h => by simp [lanyardref06_Mul.l1] at h⟩
 | k + 1 => by
  obtain ⟨ih0, ih1⟩ := lanyardref06_Mul.mono_l k
  refine ⟨?_, ?_⟩
  ·intro y0 y1 y2 y3
   unfold lanyardref06_Mul.l0
   repeat' first
   | (with_reducible exact ih0 _ _ _ _)
   | (with_reducible exact ih1 _ _ _ _ _ _)
   | (with_reducible exact lanyardref06_trim.mono _ _)
   | (with_reducible exact LeO.refl _)
   | (with_reducible exact LeO.none _)
   | (with_reducible refine LeO.ite ?_ ?_)
   | (with_reducible refine LeO.bind ?_ (fun _ => ?_))
   | exact ih0 _ _ _ _
   | exact ih1 _ _ _ _ _ _
   | exact lanyardref06_trim.mono _ _
   | exact LeO.none _
   | refine LeO.ite ?_ ?_
   | refine LeO.bind ?_ (fun _ => ?_)
  ·intro y0 y1 y2 y3 y4 y5
   unfold lanyardref06_Mul.l1
   repeat' first
   | (with_reducible exact ih0 _ _ _ _)
   | (with_reducible exact ih1 _ _ _ _ _ _)
   | (with_reducible exact lanyardref06_trim.mono _ _)
   | (with_reducible exact LeO.refl _)
   | (with_reducible exact LeO.none _)
   | (with_reducible refine LeO.ite ?_ ?_)
   | (with_reducible refine LeO.bind ?_ (fun _ => ?_))
   | exact ih0 _ _ _ _
   | exact ih1 _ _ _ _ _ _
   | exact lanyardref06_trim.mono _ _
   | exact LeO.none _
   | refine LeO.ite ?_ ?_
   | refine LeO.bind ?_ (fun _ => ?_)
theorem lanyardref06_Mul.mono : ∀ a0 a1 k, LeO (lanyardref06_Mul.f k a0 a1) (lanyardref06_Mul.f (k + 1) a0 a1) := by
 intro a0 a1 k
 obtain ⟨ih0, ih1⟩ := lanyardref06_Mul.mono_l k
 unfold lanyardref06_Mul.f
 repeat' first
   | (with_reducible exact ih0 _ _ _ _)
   | (with_reducible exact ih1 _ _ _ _ _ _)
   | (with_reducible exact lanyardref06_trim.mono _ _)
   | (with_reducible exact LeO.refl _)
   | (with_reducible exact LeO.none _)
   | (with_reducible refine LeO.ite ?_ ?_)
   | (with_reducible refine LeO.bind ?_ (fun _ => ?_))
   | exact ih0 _ _ _ _
   | exact ih1 _ _ _ _ _ _
   | exact lanyardref06_trim.mono _ _
   | exact LeO.none _
   | refine LeO.ite ?_ ?_
   | refine LeO.bind ?_ (fun _ => ?_)
set_option maxHeartbeats 8000000 in
set_option maxRecDepth 100000 in
theorem lanyardref06_Mul.calls (k : Nat) (A0 : Option Addr) (c0 : Nat) (l0 : List Int) (A1 : Option Addr) (c1 : Nat) (l1 : List Int) (r : List Int) (w : World) (hr0 : Kd.C (Kd.int .i64) w A0 l0.length l0) (hc0 : l0.length ≤ c0) (hr1 : Kd.C (Kd.int .i64) w A1 l1.length l1) (hc1 : l1.length ≤ c1) (h : lanyardref06_Mul.f k l0 l1 = some r) :
  Calls Tryd.prog 22 #[.slice A0 l0.length c0, .slice A1 l1.length c1] w fun e w' => ∃ v0_ : Value, e = .returned (v0_) ∧ Kd.V (Kd.int .i64) 3 w' w.heap.size (fun k_ => (w.heap.size ≤ k_)) v0_ r ∧ Below w.heap.size w w' := by
 have HR0 := Aside0.mk hr0
 have HC0 := Aside0.mk hc0
 clear hr0 hc0
 have HR1 := Aside0.mk hr1
 have HC1 := Aside0.mk hc1
 clear hr1 hc1
 have HB := Aside0.mk (Below.refl w.heap.size w)
 have H : (if 0 ≤ (wrap64 ((l0.length : Int) + (l1.length : Int))) then (if (wrap64 ((l0.length : Int) + (l1.length : Int)) : Int).toNat ≤ 35184372088832 then (lanyardref06_Mul.l0 k l0 l1 (List.replicate (wrap64 ((l0.length : Int) + (l1.length : Int)) : Int).toNat 0) 0) else (none)) else (none)) = some r := h
 clear h
 obtain ⟨ji3, hji3⟩ : ∃ j_ : Int, (wrap64 ((l0.length : Int) + (l1.length : Int))) = j_ := ⟨_, rfl⟩
 replace H : (if 0 ≤ (ji3) then (if (ji3 : Int).toNat ≤ 35184372088832 then (lanyardref06_Mul.l0 k l0 l1 (List.replicate (ji3 : Int).toNat 0) 0) else (none)) else (none)) = some r := by first | (rw [hji3] at H; exact H) | (simp only [hji3] at H ⊢; exact H)
 have hji3w : (IntKind.i64.wrap ((l0.length : Int) + (l1.length : Int))) = ji3 := (i64_w _).trans hji3
 by_cases c4 : 0 ≤ (ji3)
 ·rw [if_pos c4] at H
  have c4b0 := eq_true c4
  have c4b1 : decide (0 ≤ (ji3)) = true := decide_eq_true c4
  clear c4
  by_cases c5 : (ji3 : Int).toNat ≤ 35184372088832
  ·rw [if_pos c5] at H
   have c5b0 := eq_true c5
   have c5b1 : decide ((ji3 : Int).toNat ≤ 35184372088832) = true := decide_eq_true c5
   clear c5
   obtain ⟨y520, hy520⟩ : ∃ y_ : List Int, y_ = (List.replicate (ji3 : Int).toNat 0) := ⟨_, rfl⟩
   replace H : (lanyardref06_Mul.l0 k l0 l1 y520 0) = some r := by first | (rw [hy520]; with_reducible exact H) | (have H2_ := (Option.bind_some _ _).symm.trans H; rw [hy520]; with_reducible exact H2_) | (have H2_ := (Option.bind_some _ _).symm.trans H; with_reducible exact H2_) | with_reducible exact H | (rw [hy520]; exact H) | exact H
   have Ny520 := Aside0.mk hy520
   clear hy520
   have H' := Aside0.mk H
   clear H
   go_enter Tryd.func22, Tryd.ntmps22
   go_wp2_with (first | ((with_reducible refine gate_dst (N := 14) rfl ?_); refine Kd.R_make (Kd.int .i64) _ 3 rfl (N := 14) rfl 24 _ _ rfl ji3 rfl rfl Tryd.underlying24 (.int .i64 0) 8 info3 rfl (by decide) (by omega) 0 (ok := fun _ => True) (okp := fun _ => True) rfl (fun _ hk => hk) trivial (of_decide_eq_true (by first | (with_reducible assumption) | assumption)) (Nat.le_trans (Nat.mul_le_mul_right _ (of_decide_eq_true (by first | (with_reducible assumption) | assumption) : ji3.toNat ≤ 35184372088832)) (by omega)) (Below.refl _ _) (Nat.le_refl _) ?_; intro v521 w6 ho7 hb hg_ hnew_; clear hg_ hnew_; (first | rw [← Ny520.out] at ho7 | (simp only [Int.reduceToNat] at ho7; rw [← Ny520.out] at ho7)); have n0_ := Aside0.mk (Kd.R_lower (Kd.R_newM (M := fun k_ => (w.heap.size ≤ k_)) ho7 (Bz HB) (fun k_ h_ => h_)) (Bz HB)); have n1_ := Bs HB hb; clear HB; revert n0_ n1_; intro HO522 HB; clear hb ho7))
   repeat (go_quiet (first | ((with_reducible refine gate_dst (N := 14) rfl ?_); refine Kd.R_make (Kd.int .i64) _ 3 rfl (N := 14) rfl 24 _ _ rfl ji3 rfl rfl Tryd.underlying24 (.int .i64 0) 8 info3 rfl (by decide) (by omega) 0 (ok := fun _ => True) (okp := fun _ => True) rfl (fun _ hk => hk) trivial (of_decide_eq_true (by first | (with_reducible assumption) | assumption)) (Nat.le_trans (Nat.mul_le_mul_right _ (of_decide_eq_true (by first | (with_reducible assumption) | assumption) : ji3.toNat ≤ 35184372088832)) (by omega)) (Below.refl _ _) (Nat.le_refl _) ?_; intro v521 w6 ho7 hb hg_ hnew_; clear hg_ hnew_; (first | rw [← Ny520.out] at ho7 | (simp only [Int.reduceToNat] at ho7; rw [← Ny520.out] at ho7)); have n0_ := Aside0.mk (Kd.R_lower (Kd.R_newM (M := fun k_ => (w.heap.size ≤ k_)) ho7 (Bz HB) (fun k_ h_ => h_)) (Bz HB)); have n1_ := Bs HB hb; clear HB; revert n0_ n1_; intro HO522 HB; clear hb ho7)); try go_wp2_with (first | ((with_reducible refine gate_dst (N := 14) rfl ?_); refine Kd.R_make (Kd.int .i64) _ 3 rfl (N := 14) rfl 24 _ _ rfl ji3 rfl rfl Tryd.underlying24 (.int .i64 0) 8 info3 rfl (by decide) (by omega) 0 (ok := fun _ => True) (okp := fun _ => True) rfl (fun _ hk => hk) trivial (of_decide_eq_true (by first | (with_reducible assumption) | assumption)) (Nat.le_trans (Nat.mul_le_mul_right _ (of_decide_eq_true (by first | (with_reducible assumption) | assumption) : ji3.toNat ≤ 35184372088832)) (by omega)) (Below.refl _ _) (Nat.le_refl _) ?_; intro v521 w6 ho7 hb hg_ hnew_; clear hg_ hnew_; (first | rw [← Ny520.out] at ho7 | (simp only [Int.reduceToNat] at ho7; rw [← Ny520.out] at ho7)); have n0_ := Aside0.mk (Kd.R_lower (Kd.R_newM (M := fun k_ => (w.heap.size ≤ k_)) ho7 (Bz HB) (fun k_ h_ => h_)) (Bz HB)); have n1_ := Bs HB hb; clear HB; revert n0_ n1_; intro HO522 HB; clear hb ho7)))
   go_loopg [6] k (fun kq v6 w' => ∃ (x5_1 : List Int) (x6_1 : Int), v6 = .int .i64 x6_1 ∧ Aside0 (lanyardref06_Mul.l0 kq l0 l1 x5_1 x6_1 = some r) ∧ Aside0 (kq ≤ k) ∧ Aside0 (Kd.R (Kd.int .i64) 3 w' w.heap.size (fun k_ => (w.heap.size ≤ k_)) v521 x5_1) ∧ Aside0 (Below w.heap.size w w'))
   case atStart => exact ⟨(y520), (0), (by first | rfl | (simp; done) | (simp [*]; done)), H', ⟨Nat.le_refl _⟩, ⟨by (with_reducible repeat (first | apply Kd.R_alloc | apply Kd.R_drewN | apply Kd.R_drew)); exact Kd.R_mono HO522.out (fun _ hk => hk.1)⟩, ⟨Bu HB⟩⟩
   case round =>
    clear H'
    try clear c1
    try clear c2
    try clear p2
    try clear c4
    try clear c4b0
    try clear c4b1
    try clear c5
    try clear c5b0
    try clear c5b1
    try clear p6
    obtain ⟨x5_1, x6_1, rfl, HA, HK1, HO_5, HB⟩ := hrel
    cases gk with
    | zero => exact absurd HA.out (by simp [lanyardref06_Mul.l0])
    | succ k1 =>
     have H := HA.out
     clear HA
     simp only [lanyardref06_Mul.l0] at H
     by_cases c8 : x6_1 < (l0.length : Int)
     ·rw [if_pos c8] at H
      have c8b0 : decide (x6_1 < (l0.length : Int)) = true := decide_eq_true c8
      clear c8
      have H' := Aside0.mk H
      clear H
      go_wp2
      repeat (go_quiet (fail); try go_wp2)
      go_loopg [7, 8] k1 (fun kq v7 v8 w' => ∃ (x5_2 : List Int) (x7_2 : Int) (x8_2 : Int), v7 = .int .i64 x7_2 ∧ v8 = .int .i64 x8_2 ∧ Aside0 (lanyardref06_Mul.l1 kq l0 l1 x5_2 x6_1 x7_2 x8_2 = some r) ∧ Aside0 (kq ≤ k1) ∧ Aside0 (Kd.R (Kd.int .i64) 3 w' w.heap.size (fun k_ => (w.heap.size ≤ k_)) v521 x5_2) ∧ Aside0 (Below w.heap.size w w'))
      case atStart => exact ⟨(x5_1), (0), (0), (by first | rfl | (simp; done) | (simp [*]; done)), (by first | rfl | (simp; done) | (simp [*]; done)), H', ⟨Nat.le_refl _⟩, ⟨Ru HO_5⟩, ⟨Bu HB⟩⟩
      case round =>
       clear H'
       try clear c1
       try clear c2
       try clear p2
       try clear c4
       try clear c4b0
       try clear c4b1
       try clear c5
       try clear c5b0
       try clear c5b1
       try clear p6
       try clear c8
       try clear c8b0
       try clear p2
       try clear p6
       obtain ⟨x5_2, x7_2, x8_2, rfl, rfl, HA, HK2, HO_5, HB⟩ := hrel
       cases gk with
       | zero => exact absurd HA.out (by simp [lanyardref06_Mul.l1])
       | succ k2 =>
        have H := HA.out
        clear HA
        simp only [lanyardref06_Mul.l1] at H
        by_cases c9 : x8_2 < (l1.length : Int)
        ·rw [if_pos c9] at H
         have c9b0 : decide (x8_2 < (l1.length : Int)) = true := decide_eq_true c9
         clear c9
         obtain ⟨ji10, hji10⟩ : ∃ j_ : Int, (wrap64 (x6_1 + x8_2)) = j_ := ⟨_, rfl⟩
         replace H : (if 0 ≤ (ji10) then (if (ji10) < (x5_2.length : Int) then (if 0 ≤ x6_1 then (if x6_1 < (l0.length : Int) then (if 0 ≤ x8_2 then (lanyardref06_Mul.l1 k2 l0 l1 (x5_2.set ((ji10) : Int).toNat (Int.tmod (wrap64 ((wrap64 (x7_2 + (rd x5_2 (ji10)))) + (wrap64 ((rd l0 x6_1) * (rd l1 x8_2))))) 256)) x6_1 (wrap64 (Int.tdiv (wrap64 ((wrap64 (x7_2 + (rd x5_2 (ji10)))) + (wrap64 ((rd l0 x6_1) * (rd l1 x8_2))))) 256)) (wrap64 (x8_2 + 1))) else (none)) else (none)) else (none)) else (none)) else (none)) = some r := by first | (rw [hji10] at H; exact H) | (simp only [hji10] at H ⊢; exact H)
         have hji10w : (IntKind.i64.wrap (x6_1 + x8_2)) = ji10 := (i64_w _).trans hji10
         by_cases c11 : 0 ≤ (ji10)
         ·rw [if_pos c11] at H
          have c11b0 : decide (0 ≤ (ji10)) = true := decide_eq_true c11
          clear c11
          by_cases c12 : (ji10) < (x5_2.length : Int)
          ·rw [if_pos c12] at H
           have c12b0 : decide ((ji10) < (x5_2.length : Int)) = true := decide_eq_true c12
           clear c12
           by_cases c13 : 0 ≤ x6_1
           ·rw [if_pos c13] at H
            have c13b0 : decide (0 ≤ x6_1) = true := decide_eq_true c13
            clear c13
            by_cases c14 : x6_1 < (l0.length : Int)
            ·rw [if_pos c14] at H
             have c14b0 : decide (x6_1 < (l0.length : Int)) = true := decide_eq_true c14
             clear c14
             by_cases c15 : 0 ≤ x8_2
             ·rw [if_pos c15] at H
              have c15b0 : decide (0 ≤ x8_2) = true := decide_eq_true c15
              clear c15
              obtain ⟨y529, hy529⟩ : ∃ y_ : List Int, y_ = (x5_2.set ((ji10) : Int).toNat (Int.tmod (wrap64 ((wrap64 (x7_2 + (rd x5_2 (ji10)))) + (wrap64 ((rd l0 x6_1) * (rd l1 x8_2))))) 256)) := ⟨_, rfl⟩
              replace H : (lanyardref06_Mul.l1 k2 l0 l1 y529 x6_1 (wrap64 (Int.tdiv (wrap64 ((wrap64 (x7_2 + (rd x5_2 (ji10)))) + (wrap64 ((rd l0 x6_1) * (rd l1 x8_2))))) 256)) (wrap64 (x8_2 + 1))) = some r := by first | (rw [hy529]; with_reducible exact H) | (have H2_ := (Option.bind_some _ _).symm.trans H; rw [hy529]; with_reducible exact H2_) | (have H2_ := (Option.bind_some _ _).symm.trans H; with_reducible exact H2_) | with_reducible exact H | (rw [hy529]; exact H) | exact H
              have Ny529 := Aside0.mk hy529
              clear hy529
              have H' := Aside0.mk H
              clear H
              obtain ⟨Ao17, co17, eo17⟩ := Kd.R_slice HO_5.out
              subst eo17
              have p526 : 0 ≤ ((ji10) : Int) := of_decide_eq_true (by first | (with_reducible assumption) | assumption)
              have q526 : (ji10) < (x5_2.length : Int) := of_decide_eq_true (by first | (with_reducible assumption) | assumption)
              obtain ⟨ad526, e526, hx526_0⟩ := Kd.at_int (Kd.R_reads' HO_5.out).2.2 (ji10) p526 q526
              cases e526
              replace p526 := eq_true p526
              replace q526 := eq_true q526
              have p527 : 0 ≤ (x6_1 : Int) := of_decide_eq_true (by first | (with_reducible assumption) | assumption)
              have q527 : x6_1 < (l0.length : Int) := of_decide_eq_true (by first | (with_reducible assumption) | assumption)
              obtain ⟨ad527, e527, hx527_0⟩ := Kd.at_int HR0.out x6_1 p527 q527
              cases e527
              replace hx527_0 := (HB.out.cell (World.block_lt_of_cell? w _ hx527_0)).trans hx527_0
              replace p527 := eq_true p527
              replace q527 := eq_true q527
              have p528 : 0 ≤ (x8_2 : Int) := of_decide_eq_true (by first | (with_reducible assumption) | assumption)
              have q528 : x8_2 < (l1.length : Int) := of_decide_eq_true (by first | (with_reducible assumption) | assumption)
              obtain ⟨ad528, e528, hx528_0⟩ := Kd.at_int HR1.out x8_2 p528 q528
              cases e528
              replace hx528_0 := (HB.out.cell (World.block_lt_of_cell? w _ hx528_0)).trans hx528_0
              replace p528 := eq_true p528
              replace q528 := eq_true q528
              have p16 : 0 ≤ ((ji10) : Int) := of_decide_eq_true (by first | (with_reducible assumption) | assumption)
              have q16 : ((ji10) : Int) < ((x5_2.length : Int) : Int) := of_decide_eq_true (by first | (with_reducible assumption) | assumption)
              obtain ⟨go16, co16, eo16, gb16, gl16, cl16, HG16⟩ := Kd.R_form HO_5.out (by omega)
              (first | cases eo16 | (injection eo16 with ea_ en_ ec_; (first | subst ea_ | (injection ea_ with ea_; subst ea_)); subst ec_; clear en_))
              have GB16 := Aside0.mk gb16
              have GG16 := Aside0.mk HG16
              clear gb16 gl16 HG16
              (first | simp only [add_plain] at hx526_0 | skip)
              obtain ⟨hx16_0, hf16_0⟩ := Kd.R_celln 0 HO_5.out ((ji10) : Int) p16 q16
              replace p16 := eq_true p16
              replace q16 := eq_true q16
              have HP18 := Kd.R_putg HO_5.out ((ji10) : Int) (Int.tmod (wrap64 ((wrap64 (x7_2 + (rd x5_2 (ji10)))) + (wrap64 ((rd l0 x6_1) * (rd l1 x8_2))))) 256)
              go_wp2_with (first | ((with_reducible refine gate_store (t := 3) (p := 51) rfl ?_); (try (rw [drewN_self wr]; generalize hq_ : World.drewN wr _ = wr; (try (replace hx16_0 := cell_at hq_ hx16_0)); (try (replace hf16_0 := frozen_at' hq_ hf16_0)); have n0_ := Aside0.mk (Kd.R_at hq_ HO_5.out); have n1_ := Aside0.mk (below_at hq_ HB.out); clear hq_ HO_5 HB; have HO_5 := n0_; have HB := n1_; clear n0_ n1_; (try (have HP18 := Kd.R_putg HO_5.out ((ji10) : Int) (Int.tmod (wrap64 ((wrap64 (x7_2 + (rd x5_2 (ji10)))) + (wrap64 ((rd l0 x6_1) * (rd l1 x8_2))))) 256))))); refine store_event (t := 3) (p := 51) (v := ?vo_w19) (w1 := (wr.setCell ⟨go16, ((ji10) : Int).toNat, none⟩ (.int .i64 (Int.tmod (wrap64 ((wrap64 (x7_2 + (rd x5_2 (ji10)))) + (wrap64 ((rd l0 x6_1) * (rd l1 x8_2))))) 256)))) ?hg ?ho ?hn ?hr ?_; (case ho => rfl); (case hg => rfl); (case hn => rfl); (case hr => first | (go_simp; done) | (go_simp; rfl)); intro w19 hw; have hg : wr.grownBy w19 (some go16) := (by rw [hw]; exact HP18.2); have hp_ : Kd.R (Kd.int .i64) 3 w19 w.heap.size (fun k_ => (w.heap.size ≤ k_)) (.slice (some ⟨go16, 0, none⟩) x5_2.length co17) y529 := (by rw [hw, Ny529.out]; exact HP18.1); clear HP18; have n0_ := Aside0.mk (hp_); have n1_ := Aside0.mk ((by rw [hw]; exact below_set (HB.out) GB16.out : Below w.heap.size w w19)); clear HO_5 HB; revert n0_ n1_; intro HO_5 HB; clear hg hw hp_))
              repeat (go_quiet (first | ((with_reducible refine gate_store (t := 3) (p := 51) rfl ?_); (try (rw [drewN_self wr]; generalize hq_ : World.drewN wr _ = wr; (try (replace hx16_0 := cell_at hq_ hx16_0)); (try (replace hf16_0 := frozen_at' hq_ hf16_0)); have n0_ := Aside0.mk (Kd.R_at hq_ HO_5.out); have n1_ := Aside0.mk (below_at hq_ HB.out); clear hq_ HO_5 HB; have HO_5 := n0_; have HB := n1_; clear n0_ n1_; (try (have HP18 := Kd.R_putg HO_5.out ((ji10) : Int) (Int.tmod (wrap64 ((wrap64 (x7_2 + (rd x5_2 (ji10)))) + (wrap64 ((rd l0 x6_1) * (rd l1 x8_2))))) 256))))); refine store_event (t := 3) (p := 51) (v := ?vo_w19) (w1 := (wr.setCell ⟨go16, ((ji10) : Int).toNat, none⟩ (.int .i64 (Int.tmod (wrap64 ((wrap64 (x7_2 + (rd x5_2 (ji10)))) + (wrap64 ((rd l0 x6_1) * (rd l1 x8_2))))) 256)))) ?hg ?ho ?hn ?hr ?_; (case ho => rfl); (case hg => rfl); (case hn => rfl); (case hr => first | (go_simp; done) | (go_simp; rfl)); intro w19 hw; have hg : wr.grownBy w19 (some go16) := (by rw [hw]; exact HP18.2); have hp_ : Kd.R (Kd.int .i64) 3 w19 w.heap.size (fun k_ => (w.heap.size ≤ k_)) (.slice (some ⟨go16, 0, none⟩) x5_2.length co17) y529 := (by rw [hw, Ny529.out]; exact HP18.1); clear HP18; have n0_ := Aside0.mk (hp_); have n1_ := Aside0.mk ((by rw [hw]; exact below_set (HB.out) GB16.out : Below w.heap.size w w19)); clear HO_5 HB; revert n0_ n1_; intro HO_5 HB; clear hg hw hp_)); try go_wp2_with (first | ((with_reducible refine gate_store (t := 3) (p := 51) rfl ?_); (try (rw [drewN_self wr]; generalize hq_ : World.drewN wr _ = wr; (try (replace hx16_0 := cell_at hq_ hx16_0)); (try (replace hf16_0 := frozen_at' hq_ hf16_0)); have n0_ := Aside0.mk (Kd.R_at hq_ HO_5.out); have n1_ := Aside0.mk (below_at hq_ HB.out); clear hq_ HO_5 HB; have HO_5 := n0_; have HB := n1_; clear n0_ n1_; (try (have HP18 := Kd.R_putg HO_5.out ((ji10) : Int) (Int.tmod (wrap64 ((wrap64 (x7_2 + (rd x5_2 (ji10)))) + (wrap64 ((rd l0 x6_1) * (rd l1 x8_2))))) 256))))); refine store_event (t := 3) (p := 51) (v := ?vo_w19) (w1 := (wr.setCell ⟨go16, ((ji10) : Int).toNat, none⟩ (.int .i64 (Int.tmod (wrap64 ((wrap64 (x7_2 + (rd x5_2 (ji10)))) + (wrap64 ((rd l0 x6_1) * (rd l1 x8_2))))) 256)))) ?hg ?ho ?hn ?hr ?_; (case ho => rfl); (case hg => rfl); (case hn => rfl); (case hr => first | (go_simp; done) | (go_simp; rfl)); intro w19 hw; have hg : wr.grownBy w19 (some go16) := (by rw [hw]; exact HP18.2); have hp_ : Kd.R (Kd.int .i64) 3 w19 w.heap.size (fun k_ => (w.heap.size ≤ k_)) (.slice (some ⟨go16, 0, none⟩) x5_2.length co17) y529 := (by rw [hw, Ny529.out]; exact HP18.1); clear HP18; have n0_ := Aside0.mk (hp_); have n1_ := Aside0.mk ((by rw [hw]; exact below_set (HB.out) GB16.out : Below w.heap.size w w19)); clear HO_5 HB; revert n0_ n1_; intro HO_5 HB; clear hg hw hp_)))
              go_roundg k2
              case measure => have := HK1.out; have := HK2.out; omega
              case rel => exact ⟨(y529), (wrap64 (Int.tdiv (wrap64 ((wrap64 (x7_2 + (rd x5_2 (ji10)))) + (wrap64 ((rd l0 x6_1) * (rd l1 x8_2))))) 256)), (wrap64 (x8_2 + 1)), (by first | rfl | (simp; done) | (simp only [← hji10] <;> (first | rfl | simp)) | (simp [*]; done)), (by first | rfl | (simp; done) | (simp [*]; done)), H', ⟨by have := HK1.out; have := HK2.out; omega⟩, ⟨Ru HO_5⟩, ⟨Bu HB⟩⟩
             ·rw [if_neg c15] at H
              exact absurd H (by simp)
            ·rw [if_neg c14] at H
             exact absurd H (by simp)
           ·rw [if_neg c13] at H
            exact absurd H (by simp)
          ·rw [if_neg c12] at H
           exact absurd H (by simp)
         ·rw [if_neg c11] at H
          exact absurd H (by simp)
        ·rw [if_neg c9] at H
         have c9b0 : decide (x8_2 < (l1.length : Int)) = false := decide_eq_false c9
         clear c9
         obtain ⟨ji20, hji20⟩ : ∃ j_ : Int, (wrap64 (x6_1 + (l1.length : Int))) = j_ := ⟨_, rfl⟩
         replace H : (if 0 ≤ (ji20) then (if (ji20) < (x5_2.length : Int) then (lanyardref06_Mul.l0 k2 l0 l1 (x5_2.set ((ji20) : Int).toNat x7_2) (wrap64 (x6_1 + 1))) else (none)) else (none)) = some r := by first | (rw [hji20] at H; exact H) | (simp only [hji20] at H ⊢; exact H)
         have hji20w : (IntKind.i64.wrap (x6_1 + (l1.length : Int))) = ji20 := (i64_w _).trans hji20
         by_cases c21 : 0 ≤ (ji20)
         ·rw [if_pos c21] at H
          have c21b0 : decide (0 ≤ (ji20)) = true := decide_eq_true c21
          clear c21
          by_cases c22 : (ji20) < (x5_2.length : Int)
          ·rw [if_pos c22] at H
           have c22b0 : decide ((ji20) < (x5_2.length : Int)) = true := decide_eq_true c22
           clear c22
           obtain ⟨y530, hy530⟩ : ∃ y_ : List Int, y_ = (x5_2.set ((ji20) : Int).toNat x7_2) := ⟨_, rfl⟩
           replace H : (lanyardref06_Mul.l0 k2 l0 l1 y530 (wrap64 (x6_1 + 1))) = some r := by first | (rw [hy530]; with_reducible exact H) | (have H2_ := (Option.bind_some _ _).symm.trans H; rw [hy530]; with_reducible exact H2_) | (have H2_ := (Option.bind_some _ _).symm.trans H; with_reducible exact H2_) | with_reducible exact H | (rw [hy530]; exact H) | exact H
           have Ny530 := Aside0.mk hy530
           clear hy530
           have H' := Aside0.mk H
           clear H
           have p23 : 0 ≤ ((ji20) : Int) := of_decide_eq_true (by first | (with_reducible assumption) | assumption)
           have q23 : ((ji20) : Int) < ((x5_2.length : Int) : Int) := of_decide_eq_true (by first | (with_reducible assumption) | assumption)
           obtain ⟨go23, co23, eo23, gb23, gl23, cl23, HG23⟩ := Kd.R_form HO_5.out (by omega)
           (first | cases eo23 | (injection eo23 with ea_ en_ ec_; (first | subst ea_ | (injection ea_ with ea_; subst ea_)); subst ec_; clear en_))
           have GB23 := Aside0.mk gb23
           have GG23 := Aside0.mk HG23
           clear gb23 gl23 HG23
           obtain ⟨hx23_0, hf23_0⟩ := Kd.R_celln 0 HO_5.out ((ji20) : Int) p23 q23
           replace p23 := eq_true p23
           replace q23 := eq_true q23
           have HP24 := Kd.R_putg HO_5.out ((ji20) : Int) x7_2
           go_wp2_with (first | ((with_reducible refine gate_store (t := 3) (p := 60) rfl ?_); (try (rw [drewN_self wr]; generalize hq_ : World.drewN wr _ = wr; (try (replace hx23_0 := cell_at hq_ hx23_0)); (try (replace hf23_0 := frozen_at' hq_ hf23_0)); have n0_ := Aside0.mk (Kd.R_at hq_ HO_5.out); have n1_ := Aside0.mk (below_at hq_ HB.out); clear hq_ HO_5 HB; have HO_5 := n0_; have HB := n1_; clear n0_ n1_; (try (have HP24 := Kd.R_putg HO_5.out ((ji20) : Int) x7_2)))); refine store_event (t := 3) (p := 60) (v := ?vo_w25) (w1 := (wr.setCell ⟨go23, ((ji20) : Int).toNat, none⟩ (.int .i64 x7_2))) ?hg ?ho ?hn ?hr ?_; (case ho => rfl); (case hg => rfl); (case hn => rfl); (case hr => first | (go_simp; done) | (go_simp; rfl)); intro w25 hw; have hg : wr.grownBy w25 (some go23) := (by rw [hw]; exact HP24.2); have hp_ : Kd.R (Kd.int .i64) 3 w25 w.heap.size (fun k_ => (w.heap.size ≤ k_)) (.slice (some ⟨go23, 0, none⟩) x5_2.length co23) y530 := (by rw [hw, Ny530.out]; exact HP24.1); clear HP24; have n0_ := Aside0.mk (hp_); have n1_ := Aside0.mk ((by rw [hw]; exact below_set (HB.out) GB23.out : Below w.heap.size w w25)); clear HO_5 HB; revert n0_ n1_; intro HO_5 HB; clear hg hw hp_))
           repeat (go_quiet (first | ((with_reducible refine gate_store (t := 3) (p := 60) rfl ?_); (try (rw [drewN_self wr]; generalize hq_ : World.drewN wr _ = wr; (try (replace hx23_0 := cell_at hq_ hx23_0)); (try (replace hf23_0 := frozen_at' hq_ hf23_0)); have n0_ := Aside0.mk (Kd.R_at hq_ HO_5.out); have n1_ := Aside0.mk (below_at hq_ HB.out); clear hq_ HO_5 HB; have HO_5 := n0_; have HB := n1_; clear n0_ n1_; (try (have HP24 := Kd.R_putg HO_5.out ((ji20) : Int) x7_2)))); refine store_event (t := 3) (p := 60) (v := ?vo_w25) (w1 := (wr.setCell ⟨go23, ((ji20) : Int).toNat, none⟩ (.int .i64 x7_2))) ?hg ?ho ?hn ?hr ?_; (case ho => rfl); (case hg => rfl); (case hn => rfl); (case hr => first | (go_simp; done) | (go_simp; rfl)); intro w25 hw; have hg : wr.grownBy w25 (some go23) := (by rw [hw]; exact HP24.2); have hp_ : Kd.R (Kd.int .i64) 3 w25 w.heap.size (fun k_ => (w.heap.size ≤ k_)) (.slice (some ⟨go23, 0, none⟩) x5_2.length co23) y530 := (by rw [hw, Ny530.out]; exact HP24.1); clear HP24; have n0_ := Aside0.mk (hp_); have n1_ := Aside0.mk ((by rw [hw]; exact below_set (HB.out) GB23.out : Below w.heap.size w w25)); clear HO_5 HB; revert n0_ n1_; intro HO_5 HB; clear hg hw hp_)); try go_wp2_with (first | ((with_reducible refine gate_store (t := 3) (p := 60) rfl ?_); (try (rw [drewN_self wr]; generalize hq_ : World.drewN wr _ = wr; (try (replace hx23_0 := cell_at hq_ hx23_0)); (try (replace hf23_0 := frozen_at' hq_ hf23_0)); have n0_ := Aside0.mk (Kd.R_at hq_ HO_5.out); have n1_ := Aside0.mk (below_at hq_ HB.out); clear hq_ HO_5 HB; have HO_5 := n0_; have HB := n1_; clear n0_ n1_; (try (have HP24 := Kd.R_putg HO_5.out ((ji20) : Int) x7_2)))); refine store_event (t := 3) (p := 60) (v := ?vo_w25) (w1 := (wr.setCell ⟨go23, ((ji20) : Int).toNat, none⟩ (.int .i64 x7_2))) ?hg ?ho ?hn ?hr ?_; (case ho => rfl); (case hg => rfl); (case hn => rfl); (case hr => first | (go_simp; done) | (go_simp; rfl)); intro w25 hw; have hg : wr.grownBy w25 (some go23) := (by rw [hw]; exact HP24.2); have hp_ : Kd.R (Kd.int .i64) 3 w25 w.heap.size (fun k_ => (w.heap.size ≤ k_)) (.slice (some ⟨go23, 0, none⟩) x5_2.length co23) y530 := (by rw [hw, Ny530.out]; exact HP24.1); clear HP24; have n0_ := Aside0.mk (hp_); have n1_ := Aside0.mk ((by rw [hw]; exact below_set (HB.out) GB23.out : Below w.heap.size w w25)); clear HO_5 HB; revert n0_ n1_; intro HO_5 HB; clear hg hw hp_)))
           go_roundg k2
           case measure => have := HK1.out; have := HK2.out; omega
           case rel => exact ⟨(y530), (wrap64 (x6_1 + 1)), (by first | rfl | (simp; done) | (simp [*]; done)), H', ⟨by have := HK1.out; have := HK2.out; omega⟩, ⟨Ru HO_5⟩, ⟨Bu HB⟩⟩
          ·rw [if_neg c22] at H
           exact absurd H (by simp)
         ·rw [if_neg c21] at H
          exact absurd H (by simp)
     ·rw [if_neg c8] at H
      have c8b0 : decide (x6_1 < (l0.length : Int)) = false := decide_eq_false c8
      clear c8
      replace H := Option.bind_eq_some_iff.mp H
      obtain ⟨t523, A260, H⟩ := H
      replace H : (some t523) = some r := H
      have A26 := Aside0.mk A260
      clear A260
      obtain rfl := Option.some.inj H
      obtain ⟨Ao27, co27, eo27⟩ := Kd.R_slice HO_5.out
      subst eo27
      go_wp2_with (first | (go_at_call 30; (with_reducible refine (lanyardref06_trim.calls k1 (fun k_ => some k_ = (.slice Ao27 x5_1.length co27 : Value).ownBlock) _ _ x5_1 t523 _ ?side1 A26.out).mono ?_); (case side1 => exact Kd.R_V (Kd.R_tight rfl (HO_5.out))); rintro e w28 ⟨v524, rfl, ho0, hb⟩; have n0_ := Rb HO_5 hb; have n1_ := Aside0.mk (Kd.V_lower (Kd.V_mono (ok' := fun k_ => (w.heap.size ≤ k_)) ho0 (fun k_ hk_ => Or.elim hk_ (fun hs_ => ((HO_5.out).1 k_ hs_.symm)) (fun hn_ => (Nat.le_trans (Bz HB) hn_)))) (Bz HB)); have n2_ := Bs HB hb; clear HO_5 HB; revert n0_ n1_ n2_; intro HO_5 HO525 HB; (try clear hb); (try clear hb2); (try clear hk); (try clear hi); (try clear ho0)))
      repeat (go_quiet (first | (go_at_call 30; (with_reducible refine (lanyardref06_trim.calls k1 (fun k_ => some k_ = (.slice Ao27 x5_1.length co27 : Value).ownBlock) _ _ x5_1 t523 _ ?side1 A26.out).mono ?_); (case side1 => exact Kd.R_V (Kd.R_tight rfl (HO_5.out))); rintro e w28 ⟨v524, rfl, ho0, hb⟩; have n0_ := Rb HO_5 hb; have n1_ := Aside0.mk (Kd.V_lower (Kd.V_mono (ok' := fun k_ => (w.heap.size ≤ k_)) ho0 (fun k_ hk_ => Or.elim hk_ (fun hs_ => ((HO_5.out).1 k_ hs_.symm)) (fun hn_ => (Nat.le_trans (Bz HB) hn_)))) (Bz HB)); have n2_ := Bs HB hb; clear HO_5 HB; revert n0_ n1_ n2_; intro HO_5 HO525 HB; (try clear hb); (try clear hb2); (try clear hk); (try clear hi); (try clear ho0))); try go_wp2_with (first | (go_at_call 30; (with_reducible refine (lanyardref06_trim.calls k1 (fun k_ => some k_ = (.slice Ao27 x5_1.length co27 : Value).ownBlock) _ _ x5_1 t523 _ ?side1 A26.out).mono ?_); (case side1 => exact Kd.R_V (Kd.R_tight rfl (HO_5.out))); rintro e w28 ⟨v524, rfl, ho0, hb⟩; have n0_ := Rb HO_5 hb; have n1_ := Aside0.mk (Kd.V_lower (Kd.V_mono (ok' := fun k_ => (w.heap.size ≤ k_)) ho0 (fun k_ hk_ => Or.elim hk_ (fun hs_ => ((HO_5.out).1 k_ hs_.symm)) (fun hn_ => (Nat.le_trans (Bz HB) hn_)))) (Bz HB)); have n2_ := Bs HB hb; clear HO_5 HB; revert n0_ n1_ n2_; intro HO_5 HO525 HB; (try clear hb); (try clear hb2); (try clear hk); (try clear hi); (try clear ho0))))
      go_ret
      exact ⟨_, by first | rfl | (simp [errW_none, errW_some] <;> rfl) | (simp only [← hji3]; first | rfl | (simp [errW_none, errW_some] <;> rfl)) | (simp [*, errW_none, errW_some] <;> rfl), Vu HO525, Bu HB⟩
  ·rw [if_neg c5] at H
   exact absurd H (by simp)
 ·rw [if_neg c4] at H
  exact absurd H (by simp)

/-! ### lanyardref06_Exp: function 17 -/
mutual
def lanyardref06_Exp.l0 : Nat → List Int → List Int → List Int → List Int → Int → Option (List Int)
 | 0, _, _, _, _, _ => none
 | k + 1, x1, x2, x8, x10, x11 => if x11 ≥ 0 then (lanyardref06_Exp.l1 k x1 x2 x8 x10 x11 128) else (some x10)
def lanyardref06_Exp.l1 : Nat → List Int → List Int → List Int → List Int → Int → Int → Option (List Int)
 | 0, _, _, _, _, _, _ => none
 | k + 1, x1, x2, x8, x10, x11, x12 => if x12 ≥ 1 then ((lanyardref06_Mul.f k x10 x10).bind fun t546 => ((lanyardref06_Div.f k t546 x2).bind fun bt549 => (if 0 ≤ x11 then (if x11 < (x1.length : Int) then (if x12 = 0 then (none) else (if (Int.tmod (wrap64 (Int.tdiv (rd x1 x11) x12)) 2) = 1 then ((lanyardref06_Mul.f k bt549.2 x8).bind fun t556 => ((lanyardref06_Div.f k t556 x2).bind fun bt559 => (lanyardref06_Exp.l1 k x1 x2 x8 bt559.2 x11 (wrap64 (Int.tdiv x12 2))))) else (lanyardref06_Exp.l1 k x1 x2 x8 bt549.2 x11 (wrap64 (Int.tdiv x12 2))))) else (none)) else (none)))) else (lanyardref06_Exp.l0 k x1 x2 x8 x10 (wrap64 (x11 - 1)))
end
def lanyardref06_Exp.f (k : Nat) (l0 : List Int) (l1 : List Int) (l2 : List Int) : Option (List Int) := (lanyardref06_Div.f k l0 l2).bind fun bt531 => ((lanyardref06_Div.f k (([1] : List Int)) l2).bind fun bt540 => (lanyardref06_Exp.l0 k l1 l2 bt531.2 bt540.2 (wrap64 ((l1.length : Int) - 1))))
theorem lanyardref06_Exp.mono_l : ∀ k, (∀ y0 y1 y2 y3 y4, LeO (lanyardref06_Exp.l0 k y0 y1 y2 y3 y4) (lanyardref06_Exp.l0 (k + 1) y0 y1 y2 y3 y4)) ∧ (∀ y0 y1 y2 y3 y4 y5, LeO (lanyardref06_Exp.l1 k y0 y1 y2 y3 y4 y5) (lanyardref06_Exp.l1 (k + 1) y0 y1 y2 y3 y4 y5))
 | 0 => ⟨fun _ _ _ _ _ r h => by simp [lanyardref06_Exp.l0] at h, fun _ _ _ _ _ _ r h => by simp [lanyardref06_Exp.l1] at h⟩
 | k + 1 => by
  obtain ⟨ih0, ih1⟩ := lanyardref06_Exp.mono_l k
  refine ⟨?_, ?_⟩
  ·intro y0 y1 y2 y3 y4
   unfold lanyardref06_Exp.l0
   repeat' first
   | (with_reducible exact ih0 _ _ _ _ _)
   | (with_reducible exact ih1 _ _ _ _ _ _)
   | (with_reducible exact lanyardref06_Div.mono _ _ _)
   | (with_reducible exact lanyardref06_Mul.mono _ _ _)
   | (with_reducible exact LeO.refl _)
   | (with_reducible exact LeO.none _)
   | (with_reducible refine LeO.ite ?_ ?_)
   | (with_reducible refine LeO.bind ?_ (fun _ => ?_))
   | exact ih0 _ _ _ _ _
   | exact ih1 _ _ _ _ _ _
   | exact lanyardref06_Div.mono _ _ _
   | exact lanyardref06_Mul.mono _ _ _
   | exact LeO.none _
   | refine LeO.ite ?_ ?_
   | refine LeO.bind ?_ (fun _ => ?_)
  ·intro y0 y1 y2 y3 y4 y5
   unfold lanyardref06_Exp.l1
   repeat' first
   | (with_reducible exact ih0 _ _ _ _ _)
   | (with_reducible exact ih1 _ _ _ _ _ _)
   | (with_reducible exact lanyardref06_Div.mono _ _ _)
   | (with_reducible exact lanyardref06_Mul.mono _ _ _)
   | (with_reducible exact LeO.refl _)
   | (with_reducible exact LeO.none _)
   | (with_reducible refine LeO.ite ?_ ?_)
   | (with_reducible refine LeO.bind ?_ (fun _ => ?_))
   | exact ih0 _ _ _ _ _
   | exact ih1 _ _ _ _ _ _
   | exact lanyardref06_Div.mono _ _ _
   | exact lanyardref06_Mul.mono _ _ _
   | exact LeO.none _
   | refine LeO.ite ?_ ?_
   | refine LeO.bind ?_ (fun _ => ?_)
theorem lanyardref06_Exp.mono : ∀ a0 a1 a2 k, LeO (lanyardref06_Exp.f k a0 a1 a2) (lanyardref06_Exp.f (k + 1) a0 a1 a2) := by
 intro a0 a1 a2 k
 obtain ⟨ih0, ih1⟩ := lanyardref06_Exp.mono_l k
 unfold lanyardref06_Exp.f
 repeat' first
   | (with_reducible exact ih0 _ _ _ _ _)
   | (with_reducible exact ih1 _ _ _ _ _ _)
   | (with_reducible exact lanyardref06_Div.mono _ _ _)
   | (with_reducible exact lanyardref06_Mul.mono _ _ _)
   | (with_reducible exact LeO.refl _)
   | (with_reducible exact LeO.none _)
   | (with_reducible refine LeO.ite ?_ ?_)
   | (with_reducible refine LeO.bind ?_ (fun _ => ?_))
   | exact ih0 _ _ _ _ _
   | exact ih1 _ _ _ _ _ _
   | exact lanyardref06_Div.mono _ _ _
   | exact lanyardref06_Mul.mono _ _ _
   | exact LeO.none _
   | refine LeO.ite ?_ ?_
   | refine LeO.bind ?_ (fun _ => ?_)
set_option maxHeartbeats 8000000 in
set_option maxRecDepth 100000 in
theorem lanyardref06_Exp.calls (k : Nat) (A0 : Option Addr) (c0 : Nat) (l0 : List Int) (A1 : Option Addr) (c1 : Nat) (l1 : List Int) (P2_ : Nat → Prop) (A2 : Option Addr) (c2 : Nat) (l2 : List Int) (r : List Int) (w : World) (hr0 : Kd.C (Kd.int .i64) w A0 l0.length l0) (hc0 : l0.length ≤ c0) (hr1 : Kd.C (Kd.int .i64) w A1 l1.length l1) (hc1 : l1.length ≤ c1) (hs2 : Kd.V (Kd.int .i64) 3 w w.heap.size (fun k_ => P2_ k_) (.slice A2 l2.length c2) l2) (h : lanyardref06_Exp.f k l0 l1 l2 = some r) :
  Calls Tryd.prog 17 #[.slice A0 l0.length c0, .slice A1 l1.length c1, .slice A2 l2.length c2] w fun e w' => ∃ v0_ : Value, e = .returned (v0_) ∧ Kd.V (Kd.int .i64) 3 w' w.heap.size (fun k_ => (P2_ k_ ∨ w.heap.size ≤ k_)) v0_ r ∧ Below w.heap.size w w' := by
 have HR0 := Aside0.mk hr0
 have HC0 := Aside0.mk hc0
 clear hr0 hc0
 have HR1 := Aside0.mk hr1
 have HC1 := Aside0.mk hc1
 clear hr1 hc1
 have HO2 := Aside0.mk (show Kd.V (Kd.int .i64) 3 w w.heap.size (fun k_ => (P2_ k_ ∨ w.heap.size ≤ k_)) (.slice A2 l2.length c2) l2 from Kd.V_mono hs2 (fun k_ hk => .inl hk))
 have HB := Aside0.mk (Below.refl w.heap.size w)
 have H : ((lanyardref06_Div.f k l0 l2).bind fun bt531 => ((lanyardref06_Div.f k (([1] : List Int)) l2).bind fun bt540 => (lanyardref06_Exp.l0 k l1 l2 bt531.2 bt540.2 (wrap64 ((l1.length : Int) - 1))))) = some r := h
 clear h
 replace H := Option.bind_eq_some_iff.mp H
 obtain ⟨⟨t531, t534⟩, A40, H⟩ := H
 replace H : ((lanyardref06_Div.f k (([1] : List Int)) l2).bind fun bt540 => (lanyardref06_Exp.l0 k l1 l2 t534 bt540.2 (wrap64 ((l1.length : Int) - 1)))) = some r := H
 have A4 := Aside0.mk A40
 clear A40
 obtain ⟨y537, hy537⟩ : ∃ y_ : List Int, y_ = (([1] : List Int)) := ⟨_, rfl⟩
 replace H : ((lanyardref06_Div.f k y537 l2).bind fun bt540 => (lanyardref06_Exp.l0 k l1 l2 t534 bt540.2 (wrap64 ((l1.length : Int) - 1)))) = some r := by first | (rw [hy537]; with_reducible exact H) | (have H2_ := (Option.bind_some _ _).symm.trans H; rw [hy537]; with_reducible exact H2_) | (have H2_ := (Option.bind_some _ _).symm.trans H; with_reducible exact H2_) | with_reducible exact H | (rw [hy537]; exact H) | exact H
 have Ny537 := Aside0.mk hy537
 clear hy537
 replace H := Option.bind_eq_some_iff.mp H
 obtain ⟨⟨t540, t543⟩, A50, H⟩ := H
 replace H : (lanyardref06_Exp.l0 k l1 l2 t534 t543 (wrap64 ((l1.length : Int) - 1))) = some r := H
 have A5 := Aside0.mk A50
 clear A50
 have H' := Aside0.mk H
 clear H
 go_enter Tryd.func17, Tryd.ntmps17
 go_wp2_with (first | ((with_reducible refine gate_callee (f := 14) rfl ?_); refine goesA (some 16) Tryd.func14 #[.slice A0 l0.length c0, .slice A2 l2.length c2] rfl ?_; (with_reducible refine (lanyardref06_Div.calls k _ _ l0 (fun k_ => (P2_ k_ ∨ w.heap.size ≤ k_)) _ _ l2 t531 t534 _ ?side1 ?side2 ?side3 A4.out).mono ?_); (case side1 => exact Cu HR0.out); (case side2 => exact HC0.out); (case side3 => exact HO2.out); rintro e w6 ⟨v532, v535, rfl, ho0, ho1, hb⟩; refine ⟨_, rfl, ?_⟩; have n0_ := Vb HO2 hb; have n1_ := Aside0.mk (Kd.V_lower (Kd.V_mono (ok' := fun k_ => (P2_ k_ ∨ w.heap.size ≤ k_)) ho0 (fun k_ hk_ => Or.elim hk_ (fun hs_ => hs_) (fun hn_ => (.inr (Nat.le_trans (Bz HB) hn_))))) (Bz HB)); have n2_ := Aside0.mk (Kd.V_lower (Kd.V_mono (ok' := fun k_ => (P2_ k_ ∨ w.heap.size ≤ k_)) ho1 (fun k_ hk_ => Or.elim hk_ (fun hs_ => hs_) (fun hn_ => (.inr (Nat.le_trans (Bz HB) hn_))))) (Bz HB)); have n3_ := Bs HB hb; clear HO2 HB; revert n0_ n1_ n2_ n3_; intro HO2 HO533 HO536 HB; (try clear hb); (try clear hb2); (try clear hk); (try clear hi); (try clear ho0); (try clear ho1)) | ((with_reducible refine gate_dst (N := 20) rfl ?_); refine litI .i64 3 20 [1] [.int .i64 1] ?hr ?_; (case hr => first | (go_simp; done) | (go_simp; rfl)); intro v538 w7 ho8 hb; (first | rw [← Ny537.out] at ho8 | (simp only [Int.reduceToNat] at ho8; rw [← Ny537.out] at ho8)); have n0_ := Ve HO2 (Kd.R_base ho8) hb; have n1_ := Ve HO533 (Kd.R_base ho8) hb; have n2_ := Ve HO536 (Kd.R_base ho8) hb; have n3_ := Aside0.mk (Kd.R_lower (Kd.R_newM (M := fun k_ => (w.heap.size ≤ k_)) ho8 (Bz HB) (fun k_ h_ => h_)) (Bz HB)); have n4_ := Bs HB hb; clear HO2 HO533 HO536 HB; revert n0_ n1_ n2_ n3_ n4_; intro HO2 HO533 HO536 HO539 HB; clear hb ho8; obtain ⟨Ao9, co9, eo9⟩ := Kd.R_slice HO539.out; subst eo9) | ((with_reducible refine gate_callee (f := 14) rfl ?_); refine goesA (some 22) Tryd.func14 #[.slice Ao9 y537.length co9, .slice A2 l2.length c2] rfl ?_; (with_reducible refine (lanyardref06_Div.calls k _ _ y537 (fun k_ => ((P2_ k_ ∨ w.heap.size ≤ k_) ∧ some k_ ≠ (.slice Ao9 y537.length co9 : Value).ownBlock)) _ _ l2 t540 t543 _ ?side1 ?side2 ?side3 A5.out).mono ?_); (case side1 => exact Cu (Kd.R_reads' HO539.out).2.2); (case side2 => exact (Kd.R_reads' HO539.out).2.1); (case side3 => exact HO2.out); rintro e w10 ⟨v541, v544, rfl, ho0, ho1, hb⟩; refine ⟨_, rfl, ?_⟩; have n0_ := Vb HO2 hb; have n1_ := Vb HO533 hb; have n2_ := Vb HO536 hb; have n3_ := Rb HO539 hb; have n4_ := Aside0.mk (Kd.V_lower (Kd.V_mono (ok' := fun k_ => (P2_ k_ ∨ w.heap.size ≤ k_) ∧ some k_ ≠ (.slice Ao9 y537.length co9 : Value).ownBlock) ho0 (fun k_ hk_ => ⟨Or.elim hk_ (fun hs_ => hs_.1) (fun hn_ => (.inr (Nat.le_trans (Bz HB) hn_))), Or.elim hk_ (fun hs_ => hs_.2) (fun hn_ => (Kd.fresh' (Kd.R_lt (Ru HO539)) k_ hn_))⟩)) (Bz HB)); have n5_ := Aside0.mk (Kd.V_lower (Kd.V_mono (ok' := fun k_ => (P2_ k_ ∨ w.heap.size ≤ k_) ∧ some k_ ≠ (.slice Ao9 y537.length co9 : Value).ownBlock) ho1 (fun k_ hk_ => ⟨Or.elim hk_ (fun hs_ => hs_.1) (fun hn_ => (.inr (Nat.le_trans (Bz HB) hn_))), Or.elim hk_ (fun hs_ => hs_.2) (fun hn_ => (Kd.fresh' (Kd.R_lt (Ru HO539)) k_ hn_))⟩)) (Bz HB)); have n6_ := Bs HB hb; clear HO2 HO533 HO536 HO539 HB; revert n0_ n1_ n2_ n3_ n4_ n5_ n6_; intro HO2 HO533 HO536 HO539 HO542 HO545 HB; (try clear hb); (try clear hb2); (try clear hk); (try clear hi); (try clear ho0); (try clear ho1)))
 go_loopg [10, 11] k (fun kq v10 v11 w' => ∃ (x10_1 : List Int) (x11_1 : Int), v11 = .int .i64 x11_1 ∧ Aside0 (lanyardref06_Exp.l0 kq l1 l2 t534 x10_1 x11_1 = some r) ∧ Aside0 (kq ≤ k) ∧ Aside0 (Kd.V (Kd.int .i64) 3 w' w.heap.size (fun k_ => (P2_ k_ ∨ w.heap.size ≤ k_)) (.slice A2 l2.length c2) l2) ∧ Aside0 (Kd.V (Kd.int .i64) 3 w' w.heap.size (fun k_ => (P2_ k_ ∨ w.heap.size ≤ k_)) v535 t534) ∧ Aside0 (Kd.V (Kd.int .i64) 3 w' w.heap.size (fun k_ => (P2_ k_ ∨ w.heap.size ≤ k_)) v10 x10_1) ∧ Aside0 (Below w.heap.size w w'))
 case atStart => exact ⟨(t543), (wrap64 ((l1.length : Int) - 1)), (by first | rfl | (simp; done) | (simp [*]; done)), H', ⟨Nat.le_refl _⟩, ⟨by (with_reducible repeat (first | apply Kd.V_alloc | apply Kd.V_drewN | apply Kd.V_drew)); exact Kd.V_mono HO2.out (fun _ hk => hk.1)⟩, ⟨by (with_reducible repeat (first | apply Kd.V_alloc | apply Kd.V_drewN | apply Kd.V_drew)); exact Kd.V_mono HO536.out (fun _ hk => hk.1)⟩, ⟨by (with_reducible repeat (first | apply Kd.V_alloc | apply Kd.V_drewN | apply Kd.V_drew)); exact Kd.V_mono HO545.out (fun _ hk => hk.1)⟩, ⟨Bu HB⟩⟩
 case round =>
  clear H'
  try clear c1
  try clear c2
  try clear p2
  try clear p6
  obtain ⟨x10_1, x11_1, rfl, HA, HK1, HO_2, HO_8, HO_10, HB⟩ := hrel
  cases gk with
  | zero => exact absurd HA.out (by simp [lanyardref06_Exp.l0])
  | succ k1 =>
   have H := HA.out
   clear HA
   simp only [lanyardref06_Exp.l0] at H
   by_cases c11 : x11_1 ≥ 0
   ·rw [if_pos c11] at H
    have c11b0 : decide (0 ≤ x11_1) = true := decide_eq_true c11
    clear c11
    have H' := Aside0.mk H
    clear H
    go_wp2
    go_loopg [10, 12] k1 (fun kq v10 v12 w' => ∃ (x10_2 : List Int) (x12_2 : Int), v12 = .int .i64 x12_2 ∧ Aside0 (lanyardref06_Exp.l1 kq l1 l2 t534 x10_2 x11_1 x12_2 = some r) ∧ Aside0 (kq ≤ k1) ∧ Aside0 (Kd.V (Kd.int .i64) 3 w' w.heap.size (fun k_ => (P2_ k_ ∨ w.heap.size ≤ k_)) (.slice A2 l2.length c2) l2) ∧ Aside0 (Kd.V (Kd.int .i64) 3 w' w.heap.size (fun k_ => (P2_ k_ ∨ w.heap.size ≤ k_)) v535 t534) ∧ Aside0 (Kd.V (Kd.int .i64) 3 w' w.heap.size (fun k_ => (P2_ k_ ∨ w.heap.size ≤ k_)) v10 x10_2) ∧ Aside0 (Below w.heap.size w w'))
    case atStart => exact ⟨(x10_1), (128), (by first | rfl | (simp; done) | (simp [*]; done)), H', ⟨Nat.le_refl _⟩, ⟨Vu HO_2⟩, ⟨Vu HO_8⟩, ⟨Vu HO_10⟩, ⟨Bu HB⟩⟩
    case round =>
     clear H'
     try clear c1
     try clear c2
     try clear p2
     try clear p6
     try clear c11
     try clear c11b0
     try clear p2
     try clear p6
     obtain ⟨x10_2, x12_2, rfl, HA, HK2, HO_2, HO_8, HO_10, HB⟩ := hrel
     cases gk with
     | zero => exact absurd HA.out (by simp [lanyardref06_Exp.l1])
     | succ k2 =>
      have H := HA.out
      clear HA
      simp only [lanyardref06_Exp.l1] at H
      by_cases c12 : x12_2 ≥ 1
      ·rw [if_pos c12] at H
       have c12b0 : decide (1 ≤ x12_2) = true := decide_eq_true c12
       clear c12
       replace H := Option.bind_eq_some_iff.mp H
       obtain ⟨t546, A130, H⟩ := H
       replace H : ((lanyardref06_Div.f k2 t546 l2).bind fun bt549 => (if 0 ≤ x11_1 then (if x11_1 < (l1.length : Int) then (if x12_2 = 0 then (none) else (if (Int.tmod (wrap64 (Int.tdiv (rd l1 x11_1) x12_2)) 2) = 1 then ((lanyardref06_Mul.f k2 bt549.2 t534).bind fun t556 => ((lanyardref06_Div.f k2 t556 l2).bind fun bt559 => (lanyardref06_Exp.l1 k2 l1 l2 t534 bt559.2 x11_1 (wrap64 (Int.tdiv x12_2 2))))) else (lanyardref06_Exp.l1 k2 l1 l2 t534 bt549.2 x11_1 (wrap64 (Int.tdiv x12_2 2))))) else (none)) else (none))) = some r := H
       have A13 := Aside0.mk A130
       clear A130
       replace H := Option.bind_eq_some_iff.mp H
       obtain ⟨⟨t549, t552⟩, A140, H⟩ := H
       replace H : (if 0 ≤ x11_1 then (if x11_1 < (l1.length : Int) then (if x12_2 = 0 then (none) else (if (Int.tmod (wrap64 (Int.tdiv (rd l1 x11_1) x12_2)) 2) = 1 then ((lanyardref06_Mul.f k2 t552 t534).bind fun t556 => ((lanyardref06_Div.f k2 t556 l2).bind fun bt559 => (lanyardref06_Exp.l1 k2 l1 l2 t534 bt559.2 x11_1 (wrap64 (Int.tdiv x12_2 2))))) else (lanyardref06_Exp.l1 k2 l1 l2 t534 t552 x11_1 (wrap64 (Int.tdiv x12_2 2))))) else (none)) else (none)) = some r := H
       have A14 := Aside0.mk A140
       clear A140
       by_cases c15 : 0 ≤ x11_1
       ·rw [if_pos c15] at H
        have c15b0 : decide (0 ≤ x11_1) = true := decide_eq_true c15
        clear c15
        by_cases c16 : x11_1 < (l1.length : Int)
        ·rw [if_pos c16] at H
         have c16b0 : decide (x11_1 < (l1.length : Int)) = true := decide_eq_true c16
         clear c16
         by_cases c17 : x12_2 = 0
         ·rw [if_pos c17] at H
          exact absurd H (by simp)
         ·rw [if_neg c17] at H
          have c17b0 : (x12_2 == 0) = false := beq_eq_false_iff_ne.mpr c17
          have c17b1 : (x12_2 != 0) = true := bne_iff_ne.mpr c17
          by_cases c18 : (Int.tmod (wrap64 (Int.tdiv (rd l1 x11_1) x12_2)) 2) = 1
          ·rw [if_pos c18] at H
           have c18b0 : ((Int.tmod (wrap64 (Int.tdiv (rd l1 x11_1) x12_2)) 2) == 1) = true := beq_iff_eq.mpr c18
           have c18b1 : ((Int.tmod (wrap64 (Int.tdiv (rd l1 x11_1) x12_2)) 2) != 1) = false := bne_eq_false_iff_eq.mpr c18
           clear c18
           replace H := Option.bind_eq_some_iff.mp H
           obtain ⟨t556, A190, H⟩ := H
           replace H : ((lanyardref06_Div.f k2 t556 l2).bind fun bt559 => (lanyardref06_Exp.l1 k2 l1 l2 t534 bt559.2 x11_1 (wrap64 (Int.tdiv x12_2 2)))) = some r := H
           have A19 := Aside0.mk A190
           clear A190
           replace H := Option.bind_eq_some_iff.mp H
           obtain ⟨⟨t559, t562⟩, A200, H⟩ := H
           replace H : (lanyardref06_Exp.l1 k2 l1 l2 t534 t562 x11_1 (wrap64 (Int.tdiv x12_2 2))) = some r := H
           have A20 := Aside0.mk A200
           clear A200
           have H' := Aside0.mk H
           clear H
           obtain ⟨Ao21, co21, eo21⟩ := Kd.V_slice HO_10.out
           subst eo21
           go_wp2_with (first | ((with_reducible refine gate_callee (f := 22) rfl ?_); refine goesA (some 39) Tryd.func22 #[.slice Ao21 x10_2.length co21, .slice Ao21 x10_2.length co21] rfl ?_; (with_reducible refine (lanyardref06_Mul.calls k2 _ _ x10_2 _ _ x10_2 t546 _ ?side1 ?side2 ?side3 ?side4 A13.out).mono ?_); (case side1 => exact Cu (Kd.V_reads' HO_10.out).2.2); (case side2 => exact (Kd.V_reads' HO_10.out).2.1); (case side3 => exact Cu (Kd.V_reads' HO_10.out).2.2); (case side4 => exact (Kd.V_reads' HO_10.out).2.1); rintro e w22 ⟨v547, rfl, ho0, hb⟩; refine ⟨_, rfl, ?_⟩; have n0_ := Vb HO_2 hb; have n1_ := Vb HO_8 hb; have n2_ := Vb HO_10 hb; have n3_ := Aside0.mk (Kd.V_lower (Kd.V_mono (ok' := fun k_ => (P2_ k_ ∨ w.heap.size ≤ k_)) ho0 (fun k_ hk_ => (.inr (Nat.le_trans (Bz HB) hk_)))) (Bz HB)); have n4_ := Bs HB hb; clear HO_2 HO_8 HO_10 HB; revert n0_ n1_ n2_ n3_ n4_; intro HO_2 HO_8 HO_10 HO548 HB; (try clear hb); (try clear hb2); (try clear hk); (try clear hi); (try clear ho0); obtain ⟨Ao23, co23, eo23⟩ := Kd.V_slice HO548.out; subst eo23) | ((with_reducible refine gate_callee (f := 14) rfl ?_); refine goesA (some 41) Tryd.func14 #[.slice Ao23 t546.length co23, .slice A2 l2.length c2] rfl ?_; (with_reducible refine (lanyardref06_Div.calls k2 _ _ t546 (fun k_ => (P2_ k_ ∨ w.heap.size ≤ k_)) _ _ l2 t549 t552 _ ?side1 ?side2 ?side3 A14.out).mono ?_); (case side1 => exact Cu (Kd.V_reads' HO548.out).2.2); (case side2 => exact (Kd.V_reads' HO548.out).2.1); (case side3 => exact HO_2.out); rintro e w24 ⟨v550, v553, rfl, ho0, ho1, hb⟩; refine ⟨_, rfl, ?_⟩; have n0_ := Vb HO_2 hb; have n1_ := Vb HO_8 hb; have n2_ := Vb HO_10 hb; have n3_ := Vb HO548 hb; have n4_ := Aside0.mk (Kd.V_lower (Kd.V_mono (ok' := fun k_ => (P2_ k_ ∨ w.heap.size ≤ k_)) ho0 (fun k_ hk_ => Or.elim hk_ (fun hs_ => hs_) (fun hn_ => (.inr (Nat.le_trans (Bz HB) hn_))))) (Bz HB)); have n5_ := Aside0.mk (Kd.V_lower (Kd.V_mono (ok' := fun k_ => (P2_ k_ ∨ w.heap.size ≤ k_)) ho1 (fun k_ hk_ => Or.elim hk_ (fun hs_ => hs_) (fun hn_ => (.inr (Nat.le_trans (Bz HB) hn_))))) (Bz HB)); have n6_ := Bs HB hb; clear HO_2 HO_8 HO_10 HO548 HB; revert n0_ n1_ n2_ n3_ n4_ n5_ n6_; intro HO_2 HO_8 HO_10 HO548 HO551 HO554 HB; (try clear hb); (try clear hb2); (try clear hk); (try clear hi); (try clear ho0); (try clear ho1); have p555 : 0 ≤ (x11_1 : Int) := of_decide_eq_true (by first | (with_reducible assumption) | assumption); have q555 : x11_1 < (l1.length : Int) := of_decide_eq_true (by first | (with_reducible assumption) | assumption); obtain ⟨ad555, e555, hx555_0⟩ := Kd.at_int HR1.out x11_1 p555 q555; cases e555; replace hx555_0 := (HB.out.cell (World.block_lt_of_cell? w _ hx555_0)).trans hx555_0; replace p555 := eq_true p555; replace q555 := eq_true q555; obtain ⟨Ao25, co25, eo25⟩ := Kd.V_slice HO554.out; subst eo25; obtain ⟨Ao26, co26, eo26⟩ := Kd.V_slice HO_8.out; subst eo26) | ((with_reducible refine gate_callee (f := 22) rfl ?_); refine goesA (some 55) Tryd.func22 #[.slice Ao25 t552.length co25, .slice Ao26 t534.length co26] rfl ?_; (with_reducible refine (lanyardref06_Mul.calls k2 _ _ t552 _ _ t534 t556 _ ?side1 ?side2 ?side3 ?side4 A19.out).mono ?_); (case side1 => exact Cu (Kd.V_reads' HO554.out).2.2); (case side2 => exact (Kd.V_reads' HO554.out).2.1); (case side3 => exact Cu (Kd.V_reads' HO_8.out).2.2); (case side4 => exact (Kd.V_reads' HO_8.out).2.1); rintro e w27 ⟨v557, rfl, ho0, hb⟩; refine ⟨_, rfl, ?_⟩; have n0_ := Vb HO_2 hb; have n1_ := Vb HO_8 hb; have n2_ := Vb HO_10 hb; have n3_ := Vb HO548 hb; have n4_ := Vb HO551 hb; have n5_ := Vb HO554 hb; have n6_ := Aside0.mk (Kd.V_lower (Kd.V_mono (ok' := fun k_ => (P2_ k_ ∨ w.heap.size ≤ k_)) ho0 (fun k_ hk_ => (.inr (Nat.le_trans (Bz HB) hk_)))) (Bz HB)); have n7_ := Bs HB hb; clear HO_2 HO_8 HO_10 HO548 HO551 HO554 HB; revert n0_ n1_ n2_ n3_ n4_ n5_ n6_ n7_; intro HO_2 HO_8 HO_10 HO548 HO551 HO554 HO558 HB; (try clear hb); (try clear hb2); (try clear hk); (try clear hi); (try clear ho0); obtain ⟨Ao28, co28, eo28⟩ := Kd.V_slice HO558.out; subst eo28) | ((with_reducible refine gate_callee (f := 14) rfl ?_); refine goesA (some 57) Tryd.func14 #[.slice Ao28 t556.length co28, .slice A2 l2.length c2] rfl ?_; (with_reducible refine (lanyardref06_Div.calls k2 _ _ t556 (fun k_ => (P2_ k_ ∨ w.heap.size ≤ k_)) _ _ l2 t559 t562 _ ?side1 ?side2 ?side3 A20.out).mono ?_); (case side1 => exact Cu (Kd.V_reads' HO558.out).2.2); (case side2 => exact (Kd.V_reads' HO558.out).2.1); (case side3 => exact HO_2.out); rintro e w29 ⟨v560, v563, rfl, ho0, ho1, hb⟩; refine ⟨_, rfl, ?_⟩; have n0_ := Vb HO_2 hb; have n1_ := Vb HO_8 hb; have n2_ := Vb HO_10 hb; have n3_ := Vb HO548 hb; have n4_ := Vb HO551 hb; have n5_ := Vb HO554 hb; have n6_ := Vb HO558 hb; have n7_ := Aside0.mk (Kd.V_lower (Kd.V_mono (ok' := fun k_ => (P2_ k_ ∨ w.heap.size ≤ k_)) ho0 (fun k_ hk_ => Or.elim hk_ (fun hs_ => hs_) (fun hn_ => (.inr (Nat.le_trans (Bz HB) hn_))))) (Bz HB)); have n8_ := Aside0.mk (Kd.V_lower (Kd.V_mono (ok' := fun k_ => (P2_ k_ ∨ w.heap.size ≤ k_)) ho1 (fun k_ hk_ => Or.elim hk_ (fun hs_ => hs_) (fun hn_ => (.inr (Nat.le_trans (Bz HB) hn_))))) (Bz HB)); have n9_ := Bs HB hb; clear HO_2 HO_8 HO_10 HO548 HO551 HO554 HO558 HB; revert n0_ n1_ n2_ n3_ n4_ n5_ n6_ n7_ n8_ n9_; intro HO_2 HO_8 HO_10 HO548 HO551 HO554 HO558 HO561 HO564 HB; (try clear hb); (try clear hb2); (try clear hk); (try clear hi); (try clear ho0); (try clear ho1)))
           go_roundg k2
           case measure => have := HK1.out; have := HK2.out; omega
           case rel => exact ⟨(t562), (wrap64 (Int.tdiv x12_2 2)), (by first | rfl | (simp; done) | (simp [*]; done)), H', ⟨by have := HK1.out; have := HK2.out; omega⟩, ⟨Vu HO_2⟩, ⟨Vu HO_8⟩, ⟨Vu HO564⟩, ⟨Bu HB⟩⟩
          ·rw [if_neg c18] at H
           have c18b0 : ((Int.tmod (wrap64 (Int.tdiv (rd l1 x11_1) x12_2)) 2) == 1) = false := beq_eq_false_iff_ne.mpr c18
           have c18b1 : ((Int.tmod (wrap64 (Int.tdiv (rd l1 x11_1) x12_2)) 2) != 1) = true := bne_iff_ne.mpr c18
           have H' := Aside0.mk H
           clear H
           obtain ⟨Ao30, co30, eo30⟩ := Kd.V_slice HO_10.out
           subst eo30
           go_wp2_with (first | ((with_reducible refine gate_callee (f := 22) rfl ?_); refine goesA (some 39) Tryd.func22 #[.slice Ao30 x10_2.length co30, .slice Ao30 x10_2.length co30] rfl ?_; (with_reducible refine (lanyardref06_Mul.calls k2 _ _ x10_2 _ _ x10_2 t546 _ ?side1 ?side2 ?side3 ?side4 A13.out).mono ?_); (case side1 => exact Cu (Kd.V_reads' HO_10.out).2.2); (case side2 => exact (Kd.V_reads' HO_10.out).2.1); (case side3 => exact Cu (Kd.V_reads' HO_10.out).2.2); (case side4 => exact (Kd.V_reads' HO_10.out).2.1); rintro e w31 ⟨v547, rfl, ho0, hb⟩; refine ⟨_, rfl, ?_⟩; have n0_ := Vb HO_2 hb; have n1_ := Vb HO_8 hb; have n2_ := Vb HO_10 hb; have n3_ := Aside0.mk (Kd.V_lower (Kd.V_mono (ok' := fun k_ => (P2_ k_ ∨ w.heap.size ≤ k_)) ho0 (fun k_ hk_ => (.inr (Nat.le_trans (Bz HB) hk_)))) (Bz HB)); have n4_ := Bs HB hb; clear HO_2 HO_8 HO_10 HB; revert n0_ n1_ n2_ n3_ n4_; intro HO_2 HO_8 HO_10 HO548 HB; (try clear hb); (try clear hb2); (try clear hk); (try clear hi); (try clear ho0); obtain ⟨Ao32, co32, eo32⟩ := Kd.V_slice HO548.out; subst eo32) | ((with_reducible refine gate_callee (f := 14) rfl ?_); refine goesA (some 41) Tryd.func14 #[.slice Ao32 t546.length co32, .slice A2 l2.length c2] rfl ?_; (with_reducible refine (lanyardref06_Div.calls k2 _ _ t546 (fun k_ => (P2_ k_ ∨ w.heap.size ≤ k_)) _ _ l2 t549 t552 _ ?side1 ?side2 ?side3 A14.out).mono ?_); (case side1 => exact Cu (Kd.V_reads' HO548.out).2.2); (case side2 => exact (Kd.V_reads' HO548.out).2.1); (case side3 => exact HO_2.out); rintro e w33 ⟨v550, v553, rfl, ho0, ho1, hb⟩; refine ⟨_, rfl, ?_⟩; have n0_ := Vb HO_2 hb; have n1_ := Vb HO_8 hb; have n2_ := Vb HO_10 hb; have n3_ := Vb HO548 hb; have n4_ := Aside0.mk (Kd.V_lower (Kd.V_mono (ok' := fun k_ => (P2_ k_ ∨ w.heap.size ≤ k_)) ho0 (fun k_ hk_ => Or.elim hk_ (fun hs_ => hs_) (fun hn_ => (.inr (Nat.le_trans (Bz HB) hn_))))) (Bz HB)); have n5_ := Aside0.mk (Kd.V_lower (Kd.V_mono (ok' := fun k_ => (P2_ k_ ∨ w.heap.size ≤ k_)) ho1 (fun k_ hk_ => Or.elim hk_ (fun hs_ => hs_) (fun hn_ => (.inr (Nat.le_trans (Bz HB) hn_))))) (Bz HB)); have n6_ := Bs HB hb; clear HO_2 HO_8 HO_10 HO548 HB; revert n0_ n1_ n2_ n3_ n4_ n5_ n6_; intro HO_2 HO_8 HO_10 HO548 HO551 HO554 HB; (try clear hb); (try clear hb2); (try clear hk); (try clear hi); (try clear ho0); (try clear ho1); have p555 : 0 ≤ (x11_1 : Int) := of_decide_eq_true (by first | (with_reducible assumption) | assumption); have q555 : x11_1 < (l1.length : Int) := of_decide_eq_true (by first | (with_reducible assumption) | assumption); obtain ⟨ad555, e555, hx555_0⟩ := Kd.at_int HR1.out x11_1 p555 q555; cases e555; replace hx555_0 := (HB.out.cell (World.block_lt_of_cell? w _ hx555_0)).trans hx555_0; replace p555 := eq_true p555; replace q555 := eq_true q555))
           go_roundg k2
           case measure => have := HK1.out; have := HK2.out; omega
           case rel => exact ⟨(t552), (wrap64 (Int.tdiv x12_2 2)), (by first | rfl | (simp; done) | (simp [*]; done)), H', ⟨by have := HK1.out; have := HK2.out; omega⟩, ⟨Vu HO_2⟩, ⟨Vu HO_8⟩, ⟨Vu HO554⟩, ⟨Bu HB⟩⟩
        ·rw [if_neg c16] at H
         exact absurd H (by simp)
       ·rw [if_neg c15] at H
        exact absurd H (by simp)
      ·rw [if_neg c12] at H
       have c12b0 : decide (1 ≤ x12_2) = false := decide_eq_false c12
       clear c12
       have H' := Aside0.mk H
       clear H
       go_wp2
       go_roundg k2
       case measure => have := HK1.out; have := HK2.out; omega
       case rel => exact ⟨(x10_2), (wrap64 (x11_1 - 1)), (by first | rfl | (simp; done) | (simp [*]; done)), H', ⟨by have := HK1.out; have := HK2.out; omega⟩, ⟨Vu HO_2⟩, ⟨Vu HO_8⟩, ⟨Vu HO_10⟩, ⟨Bu HB⟩⟩
   ·rw [if_neg c11] at H
    have c11b0 : decide (0 ≤ x11_1) = false := decide_eq_false c11
    clear c11
    obtain rfl := Option.some.inj H
    go_wp2
    go_ret
    exact ⟨_, rfl_, Vu HO_10, Bu HB⟩

/-! ### nat_Gcd: function 18 -/
def nat_Gcd.f (k : Nat) (l0 : List Int) (l1 : List Int) : Option (List Int × Int) := (nat_long.f (([l0, l1] : List (List Int)))).bind fun t568 => (if t568 = true then (some (([] : List Int), 12)) else ((nat_of.f k l0).bind fun t569 => ((nat_of.f k l1).bind fun t572 => ((nat_gcd.f k t569 t572).bind fun t575 => ((nat_num_bytes.f k t575).bind fun t578 => (some (t578, 0)))))))
theorem nat_Gcd.mono : ∀ a0 a1 k, LeO (nat_Gcd.f k a0 a1) (nat_Gcd.f (k + 1) a0 a1) := by
 intro a0 a1 k
 unfold nat_Gcd.f
 repeat' first
   | (with_reducible exact nat_gcd.mono _ _ _)
   | (with_reducible exact nat_num_bytes.mono _ _)
   | (with_reducible exact nat_of.mono _ _)
   | (with_reducible exact LeO.refl _)
   | (with_reducible exact LeO.none _)
   | (with_reducible refine LeO.ite ?_ ?_)
   | (with_reducible refine LeO.bind ?_ (fun _ => ?_))
   | exact nat_gcd.mono _ _ _
   | exact nat_num_bytes.mono _ _
   | exact nat_of.mono _ _
   | exact LeO.none _
   | refine LeO.ite ?_ ?_
   | refine LeO.bind ?_ (fun _ => ?_)
set_option maxHeartbeats 8000000 in
set_option maxRecDepth 100000 in
theorem nat_Gcd.callsV (k : Nat) (P0_ : Nat → Prop) (A0 : Option Addr) (c0 : Nat) (l0 : List Int) (P1_ : Nat → Prop) (A1 : Option Addr) (c1 : Nat) (l1 : List Int) (r1 : List Int) (r2 : Int) (w : World) (hs0 : Kd.V (Kd.int .u8) 5 w w.heap.size (fun k_ => P0_ k_) (.slice A0 l0.length c0) l0) (hs1 : Kd.V (Kd.int .u8) 5 w w.heap.size (fun k_ => P1_ k_) (.slice A1 l1.length c1) l1) (h : nat_Gcd.f k l0 l1 = some (r1, r2)) :
  Calls Tryd.prog 18 #[.slice A0 l0.length c0, .slice A1 l1.length c1] w fun e w' => ∃ v0_ : Value, e = .returned (.tuple #[v0_, .int .i64 r2]) ∧ Kd.R (Kd.int .u8) 5 w' w.heap.size (fun k_ => (w.heap.size ≤ k_)) v0_ r1 ∧ Below w.heap.size w w' := by
 have HO0 := Aside0.mk (show Kd.V (Kd.int .u8) 5 w w.heap.size (fun k_ => ((P0_ k_ ∨ P1_ k_) ∨ w.heap.size ≤ k_)) (.slice A0 l0.length c0) l0 from Kd.V_mono hs0 (fun k_ hk => .inl (.inl hk)))
 have HO1 := Aside0.mk (show Kd.V (Kd.int .u8) 5 w w.heap.size (fun k_ => ((P0_ k_ ∨ P1_ k_) ∨ w.heap.size ≤ k_)) (.slice A1 l1.length c1) l1 from Kd.V_mono hs1 (fun k_ hk => .inl (.inr hk)))
 have HB := Aside0.mk (Below.refl w.heap.size w)
 have H : ((nat_long.f (([l0, l1] : List (List Int)))).bind fun t568 => (if t568 = true then (some (([] : List Int), 12)) else ((nat_of.f k l0).bind fun t569 => ((nat_of.f k l1).bind fun t572 => ((nat_gcd.f k t569 t572).bind fun t575 => ((nat_num_bytes.f k t575).bind fun t578 => (some (t578, 0)))))))) = some (r1, r2) := h
 clear h
 obtain ⟨y565, hy565⟩ : ∃ y_ : List (List Int), y_ = (([l0, l1] : List (List Int))) := ⟨_, rfl⟩
 replace H : ((nat_long.f y565).bind fun t568 => (if t568 = true then (some (([] : List Int), 12)) else ((nat_of.f k l0).bind fun t569 => ((nat_of.f k l1).bind fun t572 => ((nat_gcd.f k t569 t572).bind fun t575 => ((nat_num_bytes.f k t575).bind fun t578 => (some (t578, 0)))))))) = some (r1, r2) := by first | (rw [hy565]; with_reducible exact H) | (have H2_ := (Option.bind_some _ _).symm.trans H; rw [hy565]; with_reducible exact H2_) | (have H2_ := (Option.bind_some _ _).symm.trans H; with_reducible exact H2_) | with_reducible exact H | (rw [hy565]; exact H) | exact H
 have Ny565 := Aside0.mk hy565
 clear hy565
 replace H := Option.bind_eq_some_iff.mp H
 obtain ⟨t568, A30, H⟩ := H
 replace H : (if t568 = true then (some (([] : List Int), 12)) else ((nat_of.f k l0).bind fun t569 => ((nat_of.f k l1).bind fun t572 => ((nat_gcd.f k t569 t572).bind fun t575 => ((nat_num_bytes.f k t575).bind fun t578 => (some (t578, 0))))))) = some (r1, r2) := H
 have A3 := Aside0.mk A30
 clear A30
 by_cases c4 : t568 = true
 ·subst c4
  have H1 : (some (([] : List Int), 12)) = some (r1, r2) := by rw [if_pos rfl] at H; exact H
  clear H
  have H := H1
  clear H1
  simp only [Option.some.injEq, Prod.mk.injEq] at H
  obtain ⟨rfl, rfl⟩ := H
  go_enter Tryd.func18, Tryd.ntmps18
  go_wp2_with (first | ((with_reducible refine gate_dst (N := 8) rfl ?_); refine Kd.N_lit (Kd.slice 5 (Kd.int .u8)) _ 22 ?hg (N' := 8) ?hd (xs := ([l0, l1] : List (List Int))) (inner := [.slice A0 l0.length c0, .slice A1 l1.length c1]) (ok := (fun k_ => ((P0_ k_ ∨ P1_ k_) ∨ w.heap.size ≤ k_))) (okp := (fun k_ => ((P0_ k_ ∨ P1_ k_) ∨ w.heap.size ≤ k_))) ?hr ?hp (fun _ hk => hk) ((show ∀ k_, w.heap.size ≤ k_ → (fun k_ => ((P0_ k_ ∨ P1_ k_) ∨ w.heap.size ≤ k_)) k_ from fun k_ hk => (.inr (Nat.le_trans (Bz HB) hk))) _ (Nat.le_refl _)) (Below.refl _ _) (Nat.le_refl _) (by simp) ?_; (case hd => rfl); (case hg => rfl); (case hr => first | (go_simp; done) | (go_simp; rfl)); (case hp => exact (Reps.one (show Kd.FK (Kd.slice 5 (Kd.int .u8)) _ _ l0 [.slice A0 l0.length c0] from (Kd.FK_slice_mk (Kd.V_reads' (Kd.V_mono (ok' := (fun k_ => ((P0_ k_ ∨ P1_ k_) ∨ w.heap.size ≤ k_))) (HO0.out) (fun k_ hk => hk))).2.1 (Kd.V_F (Kd.V_mono (ok' := (fun k_ => ((P0_ k_ ∨ P1_ k_) ∨ w.heap.size ≤ k_))) (HO0.out) (fun k_ hk => hk))))) (Reps.one (show Kd.FK (Kd.slice 5 (Kd.int .u8)) _ _ l1 [.slice A1 l1.length c1] from (Kd.FK_slice_mk (Kd.V_reads' (Kd.V_mono (ok' := (fun k_ => ((P0_ k_ ∨ P1_ k_) ∨ w.heap.size ≤ k_))) (HO1.out) (fun k_ hk => hk))).2.1 (Kd.V_F (Kd.V_mono (ok' := (fun k_ => ((P0_ k_ ∨ P1_ k_) ∨ w.heap.size ≤ k_))) (HO1.out) (fun k_ hk => hk))))) (Reps.none _ _)))); intro v566 w5 ho6 hb hg_ hnew_; clear hg_ hnew_; (first | rw [← Ny565.out] at ho6 | (simp only [Int.reduceToNat] at ho6; rw [← Ny565.out] at ho6)); have n0_ := Aside0.mk (Kd.V_elder' (Vu HO0) (Kd.N_base (by first | exact ho6 | exact Kd.S_N ho6)) hb); have n1_ := Aside0.mk (Kd.V_elder' (Vu HO1) (Kd.N_base (by first | exact ho6 | exact Kd.S_N ho6)) hb); have n2_ := Aside0.mk (Kd.N_lower ho6 (Bz HB)); have n3_ := Bs HB hb; clear HO0 HO1 HB; revert n0_ n1_ n2_ n3_; intro HO0 HO1 HO567 HB; clear hb ho6; obtain ⟨Ao7, co7, eo7⟩ := Kd.N_slice HO567.out; subst eo7) | ((with_reducible refine gate_callee (f := 32) rfl ?_); refine goesA (some 9) Tryd.func32 #[.slice Ao7 y565.length co7] rfl ?_; (with_reducible refine (nat_long.calls _ _ y565 true _ ?side1 ?side2 A3.out).mono ?_); (case side1 => exact Cu (Kd.N_reads' HO567.out).2.2); (case side2 => exact (Kd.N_reads' HO567.out).2.1); rintro e w' ⟨rfl, ⟨nd, rfl⟩⟩; refine ⟨_, rfl, ?_⟩))
  go_ret2
  exact ⟨_, rfl_, by first | exact Kd.R_nil _ _ _ _ _ | exact Kd.N_nil _ _ _ _ _ | exact Kd.V_nil _ _ _ _ _ | exact Kd.Q_nil _ _ _ _ _ | exact Kd.S_nil _ _ _ _ _, Bu HB⟩
 ·replace c4 := Bool.eq_false_iff.mpr c4
  subst c4
  have H1 : ((nat_of.f k l0).bind fun t569 => ((nat_of.f k l1).bind fun t572 => ((nat_gcd.f k t569 t572).bind fun t575 => ((nat_num_bytes.f k t575).bind fun t578 => (some (t578, 0)))))) = some (r1, r2) := by rw [if_neg (show ¬ (false = true) by decide)] at H; exact H
  clear H
  have H := H1
  clear H1
  replace H := Option.bind_eq_some_iff.mp H
  obtain ⟨t569, A80, H⟩ := H
  replace H : ((nat_of.f k l1).bind fun t572 => ((nat_gcd.f k t569 t572).bind fun t575 => ((nat_num_bytes.f k t575).bind fun t578 => (some (t578, 0))))) = some (r1, r2) := H
  have A8 := Aside0.mk A80
  clear A80
  replace H := Option.bind_eq_some_iff.mp H
  obtain ⟨t572, A90, H⟩ := H
  replace H : ((nat_gcd.f k t569 t572).bind fun t575 => ((nat_num_bytes.f k t575).bind fun t578 => (some (t578, 0)))) = some (r1, r2) := H
  have A9 := Aside0.mk A90
  clear A90
  replace H := Option.bind_eq_some_iff.mp H
  obtain ⟨t575, A100, H⟩ := H
  replace H : ((nat_num_bytes.f k t575).bind fun t578 => (some (t578, 0))) = some (r1, r2) := H
  have A10 := Aside0.mk A100
  clear A100
  replace H := Option.bind_eq_some_iff.mp H
  obtain ⟨t578, A110, H⟩ := H
  replace H : (some (t578, 0)) = some (r1, r2) := H
  have A11 := Aside0.mk A110
  clear A110
  simp only [Option.some.injEq, Prod.mk.injEq] at H
  obtain ⟨rfl, rfl⟩ := H
  go_enter Tryd.func18, Tryd.ntmps18
  go_wp2_with (first | ((with_reducible refine gate_dst (N := 8) rfl ?_); refine Kd.N_lit (Kd.slice 5 (Kd.int .u8)) _ 22 ?hg (N' := 8) ?hd (xs := ([l0, l1] : List (List Int))) (inner := [.slice A0 l0.length c0, .slice A1 l1.length c1]) (ok := (fun k_ => ((P0_ k_ ∨ P1_ k_) ∨ w.heap.size ≤ k_))) (okp := (fun k_ => ((P0_ k_ ∨ P1_ k_) ∨ w.heap.size ≤ k_))) ?hr ?hp (fun _ hk => hk) ((show ∀ k_, w.heap.size ≤ k_ → (fun k_ => ((P0_ k_ ∨ P1_ k_) ∨ w.heap.size ≤ k_)) k_ from fun k_ hk => (.inr (Nat.le_trans (Bz HB) hk))) _ (Nat.le_refl _)) (Below.refl _ _) (Nat.le_refl _) (by simp) ?_; (case hd => rfl); (case hg => rfl); (case hr => first | (go_simp; done) | (go_simp; rfl)); (case hp => exact (Reps.one (show Kd.FK (Kd.slice 5 (Kd.int .u8)) _ _ l0 [.slice A0 l0.length c0] from (Kd.FK_slice_mk (Kd.V_reads' (Kd.V_mono (ok' := (fun k_ => ((P0_ k_ ∨ P1_ k_) ∨ w.heap.size ≤ k_))) (HO0.out) (fun k_ hk => hk))).2.1 (Kd.V_F (Kd.V_mono (ok' := (fun k_ => ((P0_ k_ ∨ P1_ k_) ∨ w.heap.size ≤ k_))) (HO0.out) (fun k_ hk => hk))))) (Reps.one (show Kd.FK (Kd.slice 5 (Kd.int .u8)) _ _ l1 [.slice A1 l1.length c1] from (Kd.FK_slice_mk (Kd.V_reads' (Kd.V_mono (ok' := (fun k_ => ((P0_ k_ ∨ P1_ k_) ∨ w.heap.size ≤ k_))) (HO1.out) (fun k_ hk => hk))).2.1 (Kd.V_F (Kd.V_mono (ok' := (fun k_ => ((P0_ k_ ∨ P1_ k_) ∨ w.heap.size ≤ k_))) (HO1.out) (fun k_ hk => hk))))) (Reps.none _ _)))); intro v566 w12 ho13 hb hg_ hnew_; clear hg_ hnew_; (first | rw [← Ny565.out] at ho13 | (simp only [Int.reduceToNat] at ho13; rw [← Ny565.out] at ho13)); have n0_ := Aside0.mk (Kd.V_elder' (Vu HO0) (Kd.N_base (by first | exact ho13 | exact Kd.S_N ho13)) hb); have n1_ := Aside0.mk (Kd.V_elder' (Vu HO1) (Kd.N_base (by first | exact ho13 | exact Kd.S_N ho13)) hb); have n2_ := Aside0.mk (Kd.N_lower ho13 (Bz HB)); have n3_ := Bs HB hb; clear HO0 HO1 HB; revert n0_ n1_ n2_ n3_; intro HO0 HO1 HO567 HB; clear hb ho13; obtain ⟨Ao14, co14, eo14⟩ := Kd.N_slice HO567.out; subst eo14) | ((with_reducible refine gate_callee (f := 32) rfl ?_); refine goesA (some 9) Tryd.func32 #[.slice Ao14 y565.length co14] rfl ?_; (with_reducible refine (nat_long.calls _ _ y565 false _ ?side1 ?side2 A3.out).mono ?_); (case side1 => exact Cu (Kd.N_reads' HO567.out).2.2); (case side2 => exact (Kd.N_reads' HO567.out).2.1); rintro e w' ⟨rfl, ⟨nd, rfl⟩⟩; refine ⟨_, rfl, ?_⟩) | ((with_reducible refine gate_callee (f := 31) rfl ?_); refine goesA (some 11) Tryd.func31 #[.slice A0 l0.length c0] rfl ?_; (with_reducible refine (nat_of.calls k _ _ l0 t569 _ ?side1 ?side2 A8.out).mono ?_); (case side1 => exact Cu (Kd.V_reads' HO0.out).2.2); (case side2 => exact (Kd.V_reads' HO0.out).2.1); rintro e w15 ⟨v570, rfl, ho0, hb⟩; refine ⟨_, rfl, ?_⟩; have n0_ := Vb HO0 hb; have n1_ := Vb HO1 hb; have n2_ := Nb HO567 hb; have n3_ := Aside0.mk (Kd.V_lower (Kd.V_mono (ok' := fun k_ => ((P0_ k_ ∨ P1_ k_) ∨ w.heap.size ≤ k_) ∧ some k_ ≠ (.slice Ao14 y565.length co14 : Value).ownBlock) ho0 (fun k_ hk_ => ⟨(.inr (Nat.le_trans (Bz HB) hk_)), (Kd.fresh' (Kd.N_lt (Nu HO567)) k_ hk_)⟩)) (Bz HB)); have n4_ := Bs HB hb; clear HO0 HO1 HO567 HB; revert n0_ n1_ n2_ n3_ n4_; intro HO0 HO1 HO567 HO571 HB; (try clear hb); (try clear hb2); (try clear hk); (try clear hi); (try clear ho0)) | ((with_reducible refine gate_callee (f := 31) rfl ?_); refine goesA (some 13) Tryd.func31 #[.slice A1 l1.length c1] rfl ?_; (with_reducible refine (nat_of.calls k _ _ l1 t572 _ ?side1 ?side2 A9.out).mono ?_); (case side1 => exact Cu (Kd.V_reads' HO1.out).2.2); (case side2 => exact (Kd.V_reads' HO1.out).2.1); rintro e w16 ⟨v573, rfl, ho0, hb⟩; refine ⟨_, rfl, ?_⟩; have n0_ := Vb HO0 hb; have n1_ := Vb HO1 hb; have n2_ := Nb HO567 hb; have n3_ := Vb HO571 hb; have n4_ := Aside0.mk (Kd.V_lower (Kd.V_mono (ok' := fun k_ => ((P0_ k_ ∨ P1_ k_) ∨ w.heap.size ≤ k_) ∧ some k_ ≠ (.slice Ao14 y565.length co14 : Value).ownBlock) ho0 (fun k_ hk_ => ⟨(.inr (Nat.le_trans (Bz HB) hk_)), (Kd.fresh' (Kd.N_lt (Nu HO567)) k_ hk_)⟩)) (Bz HB)); have n5_ := Bs HB hb; clear HO0 HO1 HO567 HO571 HB; revert n0_ n1_ n2_ n3_ n4_ n5_; intro HO0 HO1 HO567 HO571 HO574 HB; (try clear hb); (try clear hb2); (try clear hk); (try clear hi); (try clear ho0); obtain ⟨Ao17, co17, eo17⟩ := Kd.V_slice HO571.out; subst eo17; obtain ⟨Ao18, co18, eo18⟩ := Kd.V_slice HO574.out; subst eo18) | ((with_reducible refine gate_callee (f := 37) rfl ?_); refine goesA (some 14) Tryd.func37 #[.slice Ao17 t569.length co17, .slice Ao18 t572.length co18] rfl ?_; (with_reducible refine (nat_gcd.calls k (fun k_ => (((P0_ k_ ∨ P1_ k_) ∨ w.heap.size ≤ k_) ∧ some k_ ≠ (.slice Ao14 y565.length co14 : Value).ownBlock)) _ _ t569 (fun k_ => (((P0_ k_ ∨ P1_ k_) ∨ w.heap.size ≤ k_) ∧ some k_ ≠ (.slice Ao14 y565.length co14 : Value).ownBlock)) _ _ t572 t575 _ ?side1 ?side2 A10.out).mono ?_); (case side1 => exact HO571.out); (case side2 => exact HO574.out); rintro e w19 ⟨v576, rfl, ho0, hb⟩; refine ⟨_, rfl, ?_⟩; have n0_ := Vb HO0 hb; have n1_ := Vb HO1 hb; have n2_ := Nb HO567 hb; have n3_ := Vb HO571 hb; have n4_ := Vb HO574 hb; have n5_ := Aside0.mk (Kd.V_lower (Kd.V_mono (ok' := fun k_ => ((P0_ k_ ∨ P1_ k_) ∨ w.heap.size ≤ k_) ∧ some k_ ≠ (.slice Ao14 y565.length co14 : Value).ownBlock) ho0 (fun k_ hk_ => ⟨Or.elim hk_ (fun hs_ => Or.elim hs_ (fun hs_ => hs_.1) (fun hs_ => hs_.1)) (fun hn_ => (.inr (Nat.le_trans (Bz HB) hn_))), Or.elim hk_ (fun hs_ => Or.elim hs_ (fun hs_ => hs_.2) (fun hs_ => hs_.2)) (fun hn_ => (Kd.fresh' (Kd.N_lt (Nu HO567)) k_ hn_))⟩)) (Bz HB)); have n6_ := Bs HB hb; clear HO0 HO1 HO567 HO571 HO574 HB; revert n0_ n1_ n2_ n3_ n4_ n5_ n6_; intro HO0 HO1 HO567 HO571 HO574 HO577 HB; (try clear hb); (try clear hb2); (try clear hk); (try clear hi); (try clear ho0); obtain ⟨Ao20, co20, eo20⟩ := Kd.V_slice HO577.out; subst eo20) | ((with_reducible refine gate_callee (f := 34) rfl ?_); refine goesA (some 15) Tryd.func34 #[.slice Ao20 t575.length co20] rfl ?_; (with_reducible refine (nat_num_bytes.calls k _ _ t575 t578 _ ?side1 ?side2 A11.out).mono ?_); (case side1 => exact Cu (Kd.V_reads' HO577.out).2.2); (case side2 => exact (Kd.V_reads' HO577.out).2.1); rintro e w21 ⟨v579, rfl, ho0, hb⟩; refine ⟨_, rfl, ?_⟩; have n0_ := Ve HO0 (Kd.R_base ho0) hb; have n1_ := Ve HO1 (Kd.R_base ho0) hb; have n2_ := Ne HO567 (Kd.R_base ho0) hb; have n3_ := Ve HO571 (Kd.R_base ho0) hb; have n4_ := Ve HO574 (Kd.R_base ho0) hb; have n5_ := Ve HO577 (Kd.R_base ho0) hb; have n6_ := Aside0.mk (Kd.R_lower (Kd.R_newM (M := fun k_ => (w.heap.size ≤ k_)) ho0 (Bz HB) (fun k_ h_ => h_)) (Bz HB)); have n7_ := Bs HB hb; clear HO0 HO1 HO567 HO571 HO574 HO577 HB; revert n0_ n1_ n2_ n3_ n4_ n5_ n6_ n7_; intro HO0 HO1 HO567 HO571 HO574 HO577 HO580 HB; (try clear hb); (try clear hb2); (try clear hk); (try clear hi); (try clear ho0)))
  go_ret2
  exact ⟨_, rfl_, by (with_reducible repeat (first | apply Kd.R_alloc | apply Kd.R_drewN | apply Kd.R_drew)); exact Kd.R_mono HO580.out (fun _ hk => hk.1), Bu HB⟩
theorem nat_Gcd.calls (k : Nat) (A0 : Option Addr) (c0 : Nat) (l0 : List Int) (A1 : Option Addr) (c1 : Nat) (l1 : List Int) (r1 : List Int) (r2 : Int) (w : World) (hr0 : Kd.C (Kd.int .u8) w A0 l0.length l0) (hc0 : l0.length ≤ c0) (hr1 : Kd.C (Kd.int .u8) w A1 l1.length l1) (hc1 : l1.length ≤ c1) (h : nat_Gcd.f k l0 l1 = some (r1, r2)) :
  Calls Tryd.prog 18 #[.slice A0 l0.length c0, .slice A1 l1.length c1] w fun e w' => ∃ v0_ : Value, e = .returned (.tuple #[v0_, .int .i64 r2]) ∧ Kd.R (Kd.int .u8) 5 w' w.heap.size (fun _ => True) v0_ r1 ∧ Below w.heap.size w w' := by
 refine (nat_Gcd.callsV k (fun k_ => k_ < w.heap.size) A0 c0 l0 (fun k_ => k_ < w.heap.size) A1 c1 l1 r1 r2 w (Kd.V_mk hc0 (Kd.C_F (Kd.heap_int .u8) hr0)) (Kd.V_mk hc1 (Kd.C_F (Kd.heap_int .u8) hr1)) h).mono ?_
 rintro e w' ⟨v0_, he, h0_, hb⟩
 exact ⟨v0_, he, Kd.R_mono h0_ (fun _ _ => trivial), hb⟩

end Go.Proofs.YtcofpbndaljppaaDoor.Hp
