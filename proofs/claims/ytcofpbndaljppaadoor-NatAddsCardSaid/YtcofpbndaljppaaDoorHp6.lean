/- Go functions of this seat as Lean functions, and their contracts: what the Go code computes, for every input. (By hp.py, a program of this repo, over the kit's print.py.) -/
import Derived.Test.YtcofpbndaljppaaDoorHp0
import Derived.Test.YtcofpbndaljppaaDoorHp1
import Derived.Test.YtcofpbndaljppaaDoorHp2
import Derived.Test.YtcofpbndaljppaaDoorHp3
import Derived.Test.YtcofpbndaljppaaDoorHp4
import Derived.Test.YtcofpbndaljppaaDoorHp5
namespace Go.Proofs.YtcofpbndaljppaaDoor.Hp
open Go.RowKit Go.Proofs.YtcofpbndaljppaaDoorW.PrintWords Go.Proofs.YtcofpbndaljppaaDoorW.PrintLast Go.Proofs.YtcofpbndaljppaaDoorW.PrintMore
attribute [local go_sem] max2_int min2_int max_two min_two max_three min_three max_four min_four   -- for this text's walks alone
set_option linter.unusedVariables false
set_option linter.unusedSimpArgs false

/-! ### nat_add: function 39 -/
mutual
def nat_add.l0 : Nat → List Int → List Int → Int → Int → Int → Option (List Int)
 | 0, _, _, _, _, _ => none
 | k + 1, x1, x5, x6, x19, x20 => if x20 < x19 then (if x20 < (x1.length : Int) then (if 0 ≤ x20 then (if x20 < (x5.length : Int) then ((bits_Add32.f (rd x5 x20) (rd x1 x20) x6).bind fun bt298 => (nat_add.l0 k x1 (x5.set (x20 : Int).toNat bt298.1) bt298.2 x19 (wrap64 (x20 + 1)))) else (none)) else (none)) else (if 0 ≤ x20 then (if x20 < (x5.length : Int) then ((bits_Add32.f (rd x5 x20) 0 x6).bind fun bt302 => (nat_add.l0 k x1 (x5.set (x20 : Int).toNat bt302.1) bt302.2 x19 (wrap64 (x20 + 1)))) else (none)) else (none))) else (if x5.length < 35184372088832 then ((nat_num_trim.f k (x5 ++ [x6])).bind fun t308 => (some t308)) else (none))
def nat_add.l100 : Nat → List Int → List Int → Int → Int → Int → Option (List Int)
 | 0, _, _, _, _, _ => none
 | k + 1, x1, x5, x6, x19, x20 => if x20 < x19 then (if x20 < (x1.length : Int) then (if 0 ≤ x20 then (if x20 < (x5.length : Int) then ((bits_Add32.f (rd x5 x20) (rd x1 x20) x6).bind fun bt316 => (nat_add.l100 k x1 (x5.set (x20 : Int).toNat bt316.1) bt316.2 x19 (wrap64 (x20 + 1)))) else (none)) else (none)) else (if 0 ≤ x20 then (if x20 < (x5.length : Int) then ((bits_Add32.f (rd x5 x20) 0 x6).bind fun bt320 => (nat_add.l100 k x1 (x5.set (x20 : Int).toNat bt320.1) bt320.2 x19 (wrap64 (x20 + 1)))) else (none)) else (none))) else (if x5.length < 35184372088832 then ((nat_num_trim.f k (x5 ++ [x6])).bind fun t326 => (some t326)) else (none))
end
def nat_add.f (k : Nat) (l0 : List Int) (l1 : List Int) : Option (List Int) := if (l0.length : Int) < (l1.length : Int) then ((nat_num_uint32.f l1).bind fun t293 => (nat_add.l0 k l0 t293 0 (t293.length : Int) 0)) else ((nat_num_uint32.f l0).bind fun t311 => (nat_add.l100 k l1 t311 0 (t311.length : Int) 0))
theorem nat_add.mono_l : ∀ k, (∀ y0 y1 y2 y3 y4, LeO (nat_add.l0 k y0 y1 y2 y3 y4) (nat_add.l0 (k + 1) y0 y1 y2 y3 y4)) ∧ (∀ y0 y1 y2 y3 y4, LeO (nat_add.l100 k y0 y1 y2 y3 y4) (nat_add.l100 (k + 1) y0 y1 y2 y3 y4))
 | 0 => ⟨fun _ _ _ _ _ r h => by simp [nat_add.l0] at h, fun _ _ _ _ _ r h => by simp [nat_add.l100] at h⟩
 | k + 1 => by
  obtain ⟨ih0, ih1⟩ := nat_add.mono_l k
  refine ⟨?_, ?_⟩
  ·intro y0 y1 y2 y3 y4
   unfold nat_add.l0
   repeat' first
   | (with_reducible exact ih0 _ _ _ _ _)
   | (with_reducible exact ih1 _ _ _ _ _)
   | (with_reducible exact nat_num_trim.mono _ _)
   | (with_reducible exact LeO.refl _)
   | (with_reducible exact LeO.none _)
   | (with_reducible refine LeO.ite ?_ ?_)
   | (with_reducible refine LeO.bind ?_ (fun _ => ?_))
   | exact ih0 _ _ _ _ _
   | exact ih1 _ _ _ _ _
   | exact nat_num_trim.mono _ _
   | exact LeO.none _
   | refine LeO.ite ?_ ?_
   | refine LeO.bind ?_ (fun _ => ?_)
  ·intro y0 y1 y2 y3 y4
   unfold nat_add.l100
   repeat' first
   | (with_reducible exact ih0 _ _ _ _ _)
   | (with_reducible exact ih1 _ _ _ _ _)
   | (with_reducible exact nat_num_trim.mono _ _)
   | (with_reducible exact LeO.refl _)
   | (with_reducible exact LeO.none _)
   | (with_reducible refine LeO.ite ?_ ?_)
   | (with_reducible refine LeO.bind ?_ (fun _ => ?_))
   | exact ih0 _ _ _ _ _
   | exact ih1 _ _ _ _ _
   | exact nat_num_trim.mono _ _
   | exact LeO.none _
   | refine LeO.ite ?_ ?_
   | refine LeO.bind ?_ (fun _ => ?_)
theorem nat_add.mono : ∀ a0 a1 k, LeO (nat_add.f k a0 a1) (nat_add.f (k + 1) a0 a1) := by
 intro a0 a1 k
 obtain ⟨ih0, ih1⟩ := nat_add.mono_l k
 unfold nat_add.f
 repeat' first
   | (with_reducible exact ih0 _ _ _ _ _)
   | (with_reducible exact ih1 _ _ _ _ _)
   | (with_reducible exact nat_num_trim.mono _ _)
   | (with_reducible exact LeO.refl _)
   | (with_reducible exact LeO.none _)
   | (with_reducible refine LeO.ite ?_ ?_)
   | (with_reducible refine LeO.bind ?_ (fun _ => ?_))
   | exact ih0 _ _ _ _ _
   | exact ih1 _ _ _ _ _
   | exact nat_num_trim.mono _ _
   | exact LeO.none _
   | refine LeO.ite ?_ ?_
   | refine LeO.bind ?_ (fun _ => ?_)
set_option maxHeartbeats 8000000 in
set_option maxRecDepth 100000 in
theorem nat_add.calls (k : Nat) (A0 : Option Addr) (c0 : Nat) (l0 : List Int) (A1 : Option Addr) (c1 : Nat) (l1 : List Int) (r : List Int) (w : World) (hr0 : Kd.C (Kd.int .u32) w A0 l0.length l0) (hc0 : l0.length ≤ c0) (hr1 : Kd.C (Kd.int .u32) w A1 l1.length l1) (hc1 : l1.length ≤ c1) (h : nat_add.f k l0 l1 = some r) :
  Calls Tryd.prog 39 #[.slice A0 l0.length c0, .slice A1 l1.length c1] w fun e w' => ∃ v0_ : Value, e = .returned (v0_) ∧ Kd.V (Kd.int .u32) 55 w' w.heap.size (fun k_ => (w.heap.size ≤ k_)) v0_ r ∧ Below w.heap.size w w' := by
 have HR0 := Aside0.mk hr0
 have HC0 := Aside0.mk hc0
 clear hr0 hc0
 have HR1 := Aside0.mk hr1
 have HC1 := Aside0.mk hc1
 clear hr1 hc1
 have HB := Aside0.mk (Below.refl w.heap.size w)
 have H : (if (l0.length : Int) < (l1.length : Int) then ((nat_num_uint32.f l1).bind fun t293 => (nat_add.l0 k l0 t293 0 (t293.length : Int) 0)) else ((nat_num_uint32.f l0).bind fun t311 => (nat_add.l100 k l1 t311 0 (t311.length : Int) 0))) = some r := h
 clear h
 by_cases c3 : (l0.length : Int) < (l1.length : Int)
 ·rw [if_pos c3] at H
  have c3b0 : decide ((l0.length : Int) < (l1.length : Int)) = true := decide_eq_true c3
  have c3b1 : decide (l0.length < l1.length) = true := decide_eq_true (Int.ofNat_lt.mp c3)
  clear c3
  replace H := Option.bind_eq_some_iff.mp H
  obtain ⟨t293, A40, H⟩ := H
  replace H : (nat_add.l0 k l0 t293 0 (t293.length : Int) 0) = some r := H
  have A4 := Aside0.mk A40
  clear A40
  have H' := Aside0.mk H
  clear H
  go_enter Tryd.func39, Tryd.ntmps39
  go_wp2_with (first | ((with_reducible refine gate_callee (f := 54) rfl ?_); refine goesA (some 17) Tryd.func54 #[.slice A1 l1.length c1] rfl ?_; (with_reducible refine (nat_num_uint32.calls _ _ l1 t293 _ ?side1 ?side2 A4.out).mono ?_); (case side1 => exact Cu HR1.out); (case side2 => exact HC1.out); rintro e w5 ⟨v294, rfl, ho0, hb⟩; refine ⟨_, rfl, ?_⟩; have n0_ := Aside0.mk (Kd.R_lower (Kd.R_newM (M := fun k_ => (w.heap.size ≤ k_)) ho0 (Bz HB) (fun k_ h_ => h_)) (Bz HB)); have n1_ := Bs HB hb; clear HB; revert n0_ n1_; intro HO295 HB; (try clear hb); (try clear hb2); (try clear hk); (try clear hi); (try clear ho0); obtain ⟨Ao6, co6, eo6⟩ := Kd.R_slice HO295.out; subst eo6))
  go_loopg [6, 20] k (fun kq v6 v20 w' => ∃ (x5_1 : List Int) (x6_1 : Int) (x20_1 : Int), v6 = .int .u32 x6_1 ∧ v20 = .int .i64 x20_1 ∧ Aside0 (nat_add.l0 kq l0 x5_1 x6_1 (t293.length : Int) x20_1 = some r) ∧ Aside0 (kq ≤ k) ∧ Aside0 (Kd.R (Kd.int .u32) 55 w' w.heap.size (fun k_ => (w.heap.size ≤ k_)) (.slice Ao6 t293.length co6) x5_1) ∧ Aside0 (Below w.heap.size w w'))
  case atStart => exact ⟨(t293), (0), (0), (by first | rfl | (simp; done) | (simp [*]; done)), (by first | rfl | (simp; done) | (simp [*]; done)), H', ⟨Nat.le_refl _⟩, ⟨by (with_reducible repeat (first | apply Kd.R_alloc | apply Kd.R_drewN | apply Kd.R_drew)); exact Kd.R_mono HO295.out (fun _ hk => hk.1)⟩, ⟨Bu HB⟩⟩
  case round =>
   clear H'
   try clear c1
   try clear p2
   try clear c3
   try clear c3b0
   try clear c3b1
   try clear c5
   obtain ⟨x5_1, x6_1, x20_1, rfl, rfl, HA, HK1, HO_5, HB⟩ := hrel
   have hl5_1 := (Kd.R_reads' HO_5.out).1
   rw [hl5_1] at HO_5
   (try simp only [hl5_1])
   cases gk with
   | zero => exact absurd HA.out (by simp [nat_add.l0])
   | succ k1 =>
    have H := HA.out
    clear HA
    simp only [nat_add.l0] at H
    by_cases c7 : x20_1 < (t293.length : Int)
    ·rw [if_pos c7] at H
     have c7b0 : decide (x20_1 < (t293.length : Int)) = true := decide_eq_true c7
     (try (have c7b0zhl5_1 := c7b0; rw [hl5_1] at c7b0zhl5_1))
     clear c7
     by_cases c8 : x20_1 < (l0.length : Int)
     ·rw [if_pos c8] at H
      have c8b0 : decide (x20_1 < (l0.length : Int)) = true := decide_eq_true c8
      clear c8
      by_cases c9 : 0 ≤ x20_1
      ·rw [if_pos c9] at H
       have c9b0 : decide (0 ≤ x20_1) = true := decide_eq_true c9
       clear c9
       by_cases c10 : x20_1 < (x5_1.length : Int)
       ·rw [if_pos c10] at H
        have c10b0 : decide (x20_1 < (x5_1.length : Int)) = true := decide_eq_true c10
        clear c10
        replace H := Option.bind_eq_some_iff.mp H
        obtain ⟨⟨t298, t299⟩, A110, H⟩ := H
        replace H : (nat_add.l0 k1 l0 (x5_1.set (x20_1 : Int).toNat t298) t299 (t293.length : Int) (wrap64 (x20_1 + 1))) = some r := H
        have A11 := Aside0.mk A110
        clear A110
        obtain ⟨y300, hy300⟩ : ∃ y_ : List Int, y_ = (x5_1.set (x20_1 : Int).toNat t298) := ⟨_, rfl⟩
        replace H : (nat_add.l0 k1 l0 y300 t299 (t293.length : Int) (wrap64 (x20_1 + 1))) = some r := by first | (rw [hy300]; with_reducible exact H) | (have H2_ := (Option.bind_some _ _).symm.trans H; rw [hy300]; with_reducible exact H2_) | (have H2_ := (Option.bind_some _ _).symm.trans H; with_reducible exact H2_) | with_reducible exact H | (rw [hy300]; exact H) | exact H
        have Ny300 := Aside0.mk hy300
        clear hy300
        have H' := Aside0.mk H
        clear H
        have p296 : 0 ≤ (x20_1 : Int) := of_decide_eq_true (by first | (with_reducible assumption) | assumption)
        have q296 : x20_1 < (l0.length : Int) := of_decide_eq_true (by first | (with_reducible assumption) | assumption)
        obtain ⟨ad296, e296, hx296_0⟩ := Kd.at_int HR0.out x20_1 p296 q296
        cases e296
        replace hx296_0 := (HB.out.cell (World.block_lt_of_cell? w _ hx296_0)).trans hx296_0
        replace p296 := eq_true p296
        replace q296 := eq_true q296
        have p297 : 0 ≤ (x20_1 : Int) := of_decide_eq_true (by first | (with_reducible assumption) | assumption)
        have q297 : x20_1 < (x5_1.length : Int) := of_decide_eq_true (by first | (with_reducible assumption) | assumption)
        obtain ⟨ad297, e297, hx297_0⟩ := Kd.at_int (Kd.R_reads' HO_5.out).2.2 x20_1 p297 q297
        cases e297
        replace p297 := eq_true p297
        replace q297 := eq_true q297
        go_wp2_with (first | ((with_reducible refine gate_callee (f := 51) rfl ?_); refine goesA (some 40) Tryd.func51 #[.int .u32 (rd x5_1 x20_1), .int .u32 (rd l0 x20_1), .int .u32 x6_1] rfl ?_; (with_reducible refine (bits_Add32.calls (rd x5_1 x20_1) (rd l0 x20_1) x6_1 t298 t299 _ A11.out).mono ?_); rintro e w' ⟨rfl, ⟨nd, rfl⟩⟩; refine ⟨_, rfl, ?_⟩; (try (rw [drewN_self wr]; generalize hq_ : World.drewN wr _ = wr; have n0_ : Aside0 (Kd.R (Kd.int .u32) 55 wr w.heap.size (fun k_ => (w.heap.size ≤ k_)) (.slice (some ad297) x5_1.length co6) x5_1) := ⟨by rw [← hq_]; exact (Ru HO_5)⟩; have n1_ : Aside0 (Below w.heap.size w wr) := ⟨by rw [← hq_]; exact (Bu HB)⟩; clear HO_5 HB hq_; have HO_5 := n0_; have HB := n1_; clear n0_ n1_)); have p12 : 0 ≤ (x20_1 : Int) := of_decide_eq_true (by first | (with_reducible assumption) | assumption); have q12 : (x20_1 : Int) < ((x5_1.length : Int) : Int) := of_decide_eq_true (by first | (with_reducible assumption) | assumption); obtain ⟨go12, co12, eo12, gb12, gl12, cl12, HG12⟩ := Kd.R_form HO_5.out (by omega); (first | cases eo12 | (injection eo12 with ea_ en_ ec_; (first | subst ea_ | (injection ea_ with ea_; subst ea_)); subst ec_; clear en_)); have GB12 := Aside0.mk gb12; have GG12 := Aside0.mk HG12; clear gb12 gl12 HG12; (first | simp only [add_plain] at hx297_0 | skip); obtain ⟨hx12_0, hf12_0⟩ := Kd.R_celln 0 HO_5.out (x20_1 : Int) p12 q12; replace p12 := eq_true p12; replace q12 := eq_true q12; obtain ⟨hy13_, hz13_⟩ := Kd.R_celln 0 HO_5.out (x20_1 : Int) (of_decide_eq_true (by first | (with_reducible assumption) | assumption)) (of_decide_eq_true (by first | (with_reducible assumption) | assumption)); have HP13 := Kd.R_putg HO_5.out (x20_1 : Int) t298) | ((with_reducible refine gate_store (t := 55) (p := 43) rfl ?_); refine store_event (t := 55) (p := 43) (v := ?vo_w14) (w1 := (wr.setCell ⟨go12, (x20_1 : Int).toNat, none⟩ (.int .u32 t298))) ?hg ?ho ?hn ?hr ?_; (case ho => rfl); (case hg => rfl); (case hn => rfl); (case hr => first | (go_simp; done) | (go_simp; rfl)); intro w14 hw; have hg : wr.grownBy w14 (some go12) := (by rw [hw]; exact HP13.2); have hp_ : Kd.R (Kd.int .u32) 55 w14 w.heap.size (fun k_ => (w.heap.size ≤ k_)) (.slice (some ⟨go12, 0, none⟩) x5_1.length co6) y300 := (by rw [hw, Ny300.out]; exact HP13.1); clear HP13; have n0_ := Aside0.mk (hp_); have n1_ := Aside0.mk ((by rw [hw]; exact below_set (HB.out) GB12.out : Below w.heap.size w w14)); clear HO_5 HB; revert n0_ n1_; intro HO_5 HB; clear hg hw hp_))
        (try simp only [← hl5_1])
        go_roundg k1
        case measure => have := HK1.out; omega
        case rel => exact ⟨(y300), (t299), (wrap64 (x20_1 + 1)), (by first | rfl | (simp; done) | (simp [*]; done)), (by first | rfl | (simp; done) | (simp [*]; done)), H', ⟨by have := HK1.out; omega⟩, ⟨by (try simp only [hl5_1]); (with_reducible repeat (first | apply Kd.R_alloc | apply Kd.R_drewN | apply Kd.R_drew)); exact HO_5.out⟩, ⟨Bu HB⟩⟩
       ·rw [if_neg c10] at H
        exact absurd H (by simp)
      ·rw [if_neg c9] at H
       exact absurd H (by simp)
     ·rw [if_neg c8] at H
      have c8b0 : decide (x20_1 < (l0.length : Int)) = false := decide_eq_false c8
      clear c8
      by_cases c15 : 0 ≤ x20_1
      ·rw [if_pos c15] at H
       have c15b0 : decide (0 ≤ x20_1) = true := decide_eq_true c15
       clear c15
       by_cases c16 : x20_1 < (x5_1.length : Int)
       ·rw [if_pos c16] at H
        have c16b0 : decide (x20_1 < (x5_1.length : Int)) = true := decide_eq_true c16
        clear c16
        replace H := Option.bind_eq_some_iff.mp H
        obtain ⟨⟨t302, t303⟩, A170, H⟩ := H
        replace H : (nat_add.l0 k1 l0 (x5_1.set (x20_1 : Int).toNat t302) t303 (t293.length : Int) (wrap64 (x20_1 + 1))) = some r := H
        have A17 := Aside0.mk A170
        clear A170
        obtain ⟨y304, hy304⟩ : ∃ y_ : List Int, y_ = (x5_1.set (x20_1 : Int).toNat t302) := ⟨_, rfl⟩
        replace H : (nat_add.l0 k1 l0 y304 t303 (t293.length : Int) (wrap64 (x20_1 + 1))) = some r := by first | (rw [hy304]; with_reducible exact H) | (have H2_ := (Option.bind_some _ _).symm.trans H; rw [hy304]; with_reducible exact H2_) | (have H2_ := (Option.bind_some _ _).symm.trans H; with_reducible exact H2_) | with_reducible exact H | (rw [hy304]; exact H) | exact H
        have Ny304 := Aside0.mk hy304
        clear hy304
        have H' := Aside0.mk H
        clear H
        have p301 : 0 ≤ (x20_1 : Int) := of_decide_eq_true (by first | (with_reducible assumption) | assumption)
        have q301 : x20_1 < (x5_1.length : Int) := of_decide_eq_true (by first | (with_reducible assumption) | assumption)
        obtain ⟨ad301, e301, hx301_0⟩ := Kd.at_int (Kd.R_reads' HO_5.out).2.2 x20_1 p301 q301
        cases e301
        replace p301 := eq_true p301
        replace q301 := eq_true q301
        go_wp2_with (first | ((with_reducible refine gate_callee (f := 51) rfl ?_); refine goesA (some 40) Tryd.func51 #[.int .u32 (rd x5_1 x20_1), .int .u32 0, .int .u32 x6_1] rfl ?_; (with_reducible refine (bits_Add32.calls (rd x5_1 x20_1) 0 x6_1 t302 t303 _ A17.out).mono ?_); rintro e w' ⟨rfl, ⟨nd, rfl⟩⟩; refine ⟨_, rfl, ?_⟩; (try (rw [drewN_self wr]; generalize hq_ : World.drewN wr _ = wr; (try (replace hx12_0 := cell_at hq_ hx12_0)); (try (replace hf12_0 := frozen_at' hq_ hf12_0)); have n0_ : Aside0 (Kd.R (Kd.int .u32) 55 wr w.heap.size (fun k_ => (w.heap.size ≤ k_)) (.slice (some ad301) x5_1.length co6) x5_1) := ⟨by rw [← hq_]; exact (Ru HO_5)⟩; have n1_ : Aside0 (Below w.heap.size w wr) := ⟨by rw [← hq_]; exact (Bu HB)⟩; clear HO_5 HB hq_; have HO_5 := n0_; have HB := n1_; clear n0_ n1_)); have p18 : 0 ≤ (x20_1 : Int) := of_decide_eq_true (by first | (with_reducible assumption) | assumption); have q18 : (x20_1 : Int) < ((x5_1.length : Int) : Int) := of_decide_eq_true (by first | (with_reducible assumption) | assumption); obtain ⟨go18, co18, eo18, gb18, gl18, cl18, HG18⟩ := Kd.R_form HO_5.out (by omega); (first | cases eo18 | (injection eo18 with ea_ en_ ec_; (first | subst ea_ | (injection ea_ with ea_; subst ea_)); subst ec_; clear en_)); have GB18 := Aside0.mk gb18; have GG18 := Aside0.mk HG18; clear gb18 gl18 HG18; (first | simp only [add_plain] at hx301_0 | skip); obtain ⟨hx18_0, hf18_0⟩ := Kd.R_celln 0 HO_5.out (x20_1 : Int) p18 q18; replace p18 := eq_true p18; replace q18 := eq_true q18; obtain ⟨hy19_, hz19_⟩ := Kd.R_celln 0 HO_5.out (x20_1 : Int) (of_decide_eq_true (by first | (with_reducible assumption) | assumption)) (of_decide_eq_true (by first | (with_reducible assumption) | assumption)); have HP19 := Kd.R_putg HO_5.out (x20_1 : Int) t302) | ((with_reducible refine gate_store (t := 55) (p := 43) rfl ?_); refine store_event (t := 55) (p := 43) (v := ?vo_w20) (w1 := (wr.setCell ⟨go18, (x20_1 : Int).toNat, none⟩ (.int .u32 t302))) ?hg ?ho ?hn ?hr ?_; (case ho => rfl); (case hg => rfl); (case hn => rfl); (case hr => first | (go_simp; done) | (go_simp; rfl)); intro w20 hw; have hg : wr.grownBy w20 (some go18) := (by rw [hw]; exact HP19.2); have hp_ : Kd.R (Kd.int .u32) 55 w20 w.heap.size (fun k_ => (w.heap.size ≤ k_)) (.slice (some ⟨go18, 0, none⟩) x5_1.length co6) y304 := (by rw [hw, Ny304.out]; exact HP19.1); clear HP19; have n0_ := Aside0.mk (hp_); have n1_ := Aside0.mk ((by rw [hw]; exact below_set (HB.out) GB18.out : Below w.heap.size w w20)); clear HO_5 HB; revert n0_ n1_; intro HO_5 HB; clear hg hw hp_))
        (try simp only [← hl5_1])
        go_roundg k1
        case measure => have := HK1.out; omega
        case rel => exact ⟨(y304), (t303), (wrap64 (x20_1 + 1)), (by first | rfl | (simp; done) | (simp [*]; done)), (by first | rfl | (simp; done) | (simp [*]; done)), H', ⟨by have := HK1.out; omega⟩, ⟨by (try simp only [hl5_1]); (with_reducible repeat (first | apply Kd.R_alloc | apply Kd.R_drewN | apply Kd.R_drew)); exact HO_5.out⟩, ⟨Bu HB⟩⟩
       ·rw [if_neg c16] at H
        exact absurd H (by simp)
      ·rw [if_neg c15] at H
       exact absurd H (by simp)
    ·rw [if_neg c7] at H
     have c7b0 : decide (x20_1 < (t293.length : Int)) = false := decide_eq_false c7
     (try (have c7b0zhl5_1 := c7b0; rw [hl5_1] at c7b0zhl5_1))
     clear c7
     by_cases c21 : x5_1.length < 35184372088832
     ·rw [if_pos c21] at H
      have LMc21 := Aside0.mk c21
      clear c21
      obtain ⟨y305, hy305⟩ : ∃ y_ : List Int, y_ = (x5_1 ++ [x6_1]) := ⟨_, rfl⟩
      replace H : ((nat_num_trim.f k1 y305).bind fun t308 => (some t308)) = some r := by first | (rw [hy305]; with_reducible exact H) | (have H2_ := (Option.bind_some _ _).symm.trans H; rw [hy305]; with_reducible exact H2_) | (have H2_ := (Option.bind_some _ _).symm.trans H; with_reducible exact H2_) | with_reducible exact H | (rw [hy305]; exact H) | exact H
      have Ny305 := Aside0.mk hy305
      clear hy305
      replace H := Option.bind_eq_some_iff.mp H
      obtain ⟨t308, A220, H⟩ := H
      replace H : (some t308) = some r := H
      have A22 := Aside0.mk A220
      clear A220
      obtain rfl := Option.some.inj H
      go_wp2_with (first | ((with_reducible refine gate_builtin (b := .append) (xs := #[.tmp 45, .tmp 47]) rfl ?_); at_builtin; refine Kd.R_append (Kd.int .u32) (w0 := w) w.heap.size rfl (.tmp 45) (.tmp 47) 47 55 (.int .u32 0) 4 rfl Tryd.underlying47 info55 rfl (by decide) (by omega) (.slice Ao6 x5_1.length co6) x5_1 x6_1 [.int .u32 x6_1] (fun k_ => (w.heap.size ≤ k_)) (fun _ => False) rfl rfl ?aP (fun _ hk => hk.elim) ?aF ?aO ?aB ?aS ?aL ?_; (case aP => exact rfl); (case aB => exact (Bu HB)); (case aF => exact (fun k_ hk => (Nat.le_trans (Bz HB) hk))); (case aO => exact (Ru HO_5)); (case aS => exact (Bz HB)); (case aL => have := LMc21.out; omega); intro v306 w23 ho hb hg hat; rw [← Ny305.out] at ho; have n0_ := Aside0.mk (hb); have n1_ := Aside0.mk (ho); clear HB HO_5; revert n0_ n1_; intro HB HO307; clear ho hb hg hat; obtain ⟨Ao24, co24, eo24⟩ := Kd.R_slice HO307.out; subst eo24) | ((with_reducible refine gate_callee (f := 44) rfl ?_); refine goesA (some 49) Tryd.func44 #[.slice Ao24 y305.length co24] rfl ?_; (with_reducible refine (nat_num_trim.calls k1 (fun k_ => some k_ = (.slice Ao24 y305.length co24 : Value).ownBlock) _ _ y305 t308 _ ?side1 A22.out).mono ?_); (case side1 => exact Kd.R_V (Kd.R_tight rfl (HO307.out))); rintro e w25 ⟨v309, rfl, ho0, hb⟩; refine ⟨_, rfl, ?_⟩; have n0_ := Rb HO307 hb; have n1_ := Aside0.mk (Kd.V_lower (Kd.V_mono (ok' := fun k_ => (w.heap.size ≤ k_)) ho0 (fun k_ hk_ => Or.elim hk_ (fun hs_ => ((HO307.out).1 k_ hs_.symm)) (fun hn_ => (Nat.le_trans (Bz HB) hn_)))) (Bz HB)); have n2_ := Bs HB hb; clear HO307 HB; revert n0_ n1_ n2_; intro HO307 HO310 HB; (try clear hb); (try clear hb2); (try clear hk); (try clear hi); (try clear ho0)))
      go_ret
      exact ⟨_, rfl_, Vu HO310, Bu HB⟩
     ·rw [if_neg c21] at H
      exact absurd H (by simp)
 ·rw [if_neg c3] at H
  have c3b0 : decide ((l0.length : Int) < (l1.length : Int)) = false := decide_eq_false c3
  have c3b1 : decide (l0.length < l1.length) = false := decide_eq_false (fun h => c3 (Int.ofNat_lt.mpr h))
  clear c3
  replace H := Option.bind_eq_some_iff.mp H
  obtain ⟨t311, A260, H⟩ := H
  replace H : (nat_add.l100 k l1 t311 0 (t311.length : Int) 0) = some r := H
  have A26 := Aside0.mk A260
  clear A260
  have H' := Aside0.mk H
  clear H
  go_enter Tryd.func39, Tryd.ntmps39
  go_wp2_with (first | ((with_reducible refine gate_callee (f := 54) rfl ?_); refine goesA (some 17) Tryd.func54 #[.slice A0 l0.length c0] rfl ?_; (with_reducible refine (nat_num_uint32.calls _ _ l0 t311 _ ?side1 ?side2 A26.out).mono ?_); (case side1 => exact Cu HR0.out); (case side2 => exact HC0.out); rintro e w27 ⟨v312, rfl, ho0, hb⟩; refine ⟨_, rfl, ?_⟩; have n0_ := Aside0.mk (Kd.R_lower (Kd.R_newM (M := fun k_ => (w.heap.size ≤ k_)) ho0 (Bz HB) (fun k_ h_ => h_)) (Bz HB)); have n1_ := Bs HB hb; clear HB; revert n0_ n1_; intro HO313 HB; (try clear hb); (try clear hb2); (try clear hk); (try clear hi); (try clear ho0); obtain ⟨Ao28, co28, eo28⟩ := Kd.R_slice HO313.out; subst eo28))
  go_loopg [6, 20] k (fun kq v6 v20 w' => ∃ (x5_1 : List Int) (x6_1 : Int) (x20_1 : Int), v6 = .int .u32 x6_1 ∧ v20 = .int .i64 x20_1 ∧ Aside0 (nat_add.l100 kq l1 x5_1 x6_1 (t311.length : Int) x20_1 = some r) ∧ Aside0 (kq ≤ k) ∧ Aside0 (Kd.R (Kd.int .u32) 55 w' w.heap.size (fun k_ => (w.heap.size ≤ k_)) (.slice Ao28 t311.length co28) x5_1) ∧ Aside0 (Below w.heap.size w w'))
  case atStart => exact ⟨(t311), (0), (0), (by first | rfl | (simp; done) | (simp [*]; done)), (by first | rfl | (simp; done) | (simp [*]; done)), H', ⟨Nat.le_refl _⟩, ⟨by (with_reducible repeat (first | apply Kd.R_alloc | apply Kd.R_drewN | apply Kd.R_drew)); exact Kd.R_mono HO313.out (fun _ hk => hk.1)⟩, ⟨Bu HB⟩⟩
  case round =>
   clear H'
   try clear c1
   try clear p1
   try clear q1
   try clear hx1
   try clear c2
   try clear p2
   try clear q2
   try clear hx2
   try clear c3
   try clear c3b0
   try clear c3b1
   try clear p3
   try clear q3
   try clear hx3
   try clear c4
   try clear c5
   try clear p6
   try clear c7
   try clear c7b0
   try clear c8
   try clear c8b0
   try clear c9
   try clear c9b0
   try clear c10
   try clear c10b0
   try clear p12
   try clear q12
   try clear hx12
   try clear hf12
   try clear c15
   try clear c15b0
   try clear c16
   try clear c16b0
   try clear p18
   try clear q18
   try clear hx18
   try clear hf18
   try clear c21
   try clear hx12_0
   try clear hx18_0
   try clear hx296_0
   try clear hx297_0
   try clear hx301_0
   try clear p12
   try clear p18
   try clear p2
   try clear p296
   try clear p297
   try clear p301
   try clear q12
   try clear q18
   try clear q296
   try clear q297
   try clear q301
   obtain ⟨x5_1, x6_1, x20_1, rfl, rfl, HA, HK1, HO_5, HB⟩ := hrel
   have hl5_1 := (Kd.R_reads' HO_5.out).1
   rw [hl5_1] at HO_5
   (try simp only [hl5_1])
   cases gk with
   | zero => exact absurd HA.out (by simp [nat_add.l100])
   | succ k1 =>
    have H := HA.out
    clear HA
    simp only [nat_add.l100] at H
    by_cases c29 : x20_1 < (t311.length : Int)
    ·rw [if_pos c29] at H
     have c29b0 : decide (x20_1 < (t311.length : Int)) = true := decide_eq_true c29
     (try (have c29b0zhl5_1 := c29b0; rw [hl5_1] at c29b0zhl5_1))
     clear c29
     by_cases c30 : x20_1 < (l1.length : Int)
     ·rw [if_pos c30] at H
      have c30b0 : decide (x20_1 < (l1.length : Int)) = true := decide_eq_true c30
      clear c30
      by_cases c31 : 0 ≤ x20_1
      ·rw [if_pos c31] at H
       have c31b0 : decide (0 ≤ x20_1) = true := decide_eq_true c31
       clear c31
       by_cases c32 : x20_1 < (x5_1.length : Int)
       ·rw [if_pos c32] at H
        have c32b0 : decide (x20_1 < (x5_1.length : Int)) = true := decide_eq_true c32
        clear c32
        replace H := Option.bind_eq_some_iff.mp H
        obtain ⟨⟨t316, t317⟩, A330, H⟩ := H
        replace H : (nat_add.l100 k1 l1 (x5_1.set (x20_1 : Int).toNat t316) t317 (t311.length : Int) (wrap64 (x20_1 + 1))) = some r := H
        have A33 := Aside0.mk A330
        clear A330
        obtain ⟨y318, hy318⟩ : ∃ y_ : List Int, y_ = (x5_1.set (x20_1 : Int).toNat t316) := ⟨_, rfl⟩
        replace H : (nat_add.l100 k1 l1 y318 t317 (t311.length : Int) (wrap64 (x20_1 + 1))) = some r := by first | (rw [hy318]; with_reducible exact H) | (have H2_ := (Option.bind_some _ _).symm.trans H; rw [hy318]; with_reducible exact H2_) | (have H2_ := (Option.bind_some _ _).symm.trans H; with_reducible exact H2_) | with_reducible exact H | (rw [hy318]; exact H) | exact H
        have Ny318 := Aside0.mk hy318
        clear hy318
        have H' := Aside0.mk H
        clear H
        have p314 : 0 ≤ (x20_1 : Int) := of_decide_eq_true (by first | (with_reducible assumption) | assumption)
        have q314 : x20_1 < (l1.length : Int) := of_decide_eq_true (by first | (with_reducible assumption) | assumption)
        obtain ⟨ad314, e314, hx314_0⟩ := Kd.at_int HR1.out x20_1 p314 q314
        cases e314
        replace hx314_0 := (HB.out.cell (World.block_lt_of_cell? w _ hx314_0)).trans hx314_0
        replace p314 := eq_true p314
        replace q314 := eq_true q314
        have p315 : 0 ≤ (x20_1 : Int) := of_decide_eq_true (by first | (with_reducible assumption) | assumption)
        have q315 : x20_1 < (x5_1.length : Int) := of_decide_eq_true (by first | (with_reducible assumption) | assumption)
        obtain ⟨ad315, e315, hx315_0⟩ := Kd.at_int (Kd.R_reads' HO_5.out).2.2 x20_1 p315 q315
        cases e315
        replace p315 := eq_true p315
        replace q315 := eq_true q315
        go_wp2_with (first | ((with_reducible refine gate_callee (f := 51) rfl ?_); refine goesA (some 40) Tryd.func51 #[.int .u32 (rd x5_1 x20_1), .int .u32 (rd l1 x20_1), .int .u32 x6_1] rfl ?_; (with_reducible refine (bits_Add32.calls (rd x5_1 x20_1) (rd l1 x20_1) x6_1 t316 t317 _ A33.out).mono ?_); rintro e w' ⟨rfl, ⟨nd, rfl⟩⟩; refine ⟨_, rfl, ?_⟩; (try (rw [drewN_self wr]; generalize hq_ : World.drewN wr _ = wr; have n0_ : Aside0 (Kd.R (Kd.int .u32) 55 wr w.heap.size (fun k_ => (w.heap.size ≤ k_)) (.slice (some ad315) x5_1.length co28) x5_1) := ⟨by rw [← hq_]; exact (Ru HO_5)⟩; have n1_ : Aside0 (Below w.heap.size w wr) := ⟨by rw [← hq_]; exact (Bu HB)⟩; clear HO_5 HB hq_; have HO_5 := n0_; have HB := n1_; clear n0_ n1_)); have p34 : 0 ≤ (x20_1 : Int) := of_decide_eq_true (by first | (with_reducible assumption) | assumption); have q34 : (x20_1 : Int) < ((x5_1.length : Int) : Int) := of_decide_eq_true (by first | (with_reducible assumption) | assumption); obtain ⟨go34, co34, eo34, gb34, gl34, cl34, HG34⟩ := Kd.R_form HO_5.out (by omega); (first | cases eo34 | (injection eo34 with ea_ en_ ec_; (first | subst ea_ | (injection ea_ with ea_; subst ea_)); subst ec_; clear en_)); have GB34 := Aside0.mk gb34; have GG34 := Aside0.mk HG34; clear gb34 gl34 HG34; (first | simp only [add_plain] at hx315_0 | skip); obtain ⟨hx34_0, hf34_0⟩ := Kd.R_celln 0 HO_5.out (x20_1 : Int) p34 q34; replace p34 := eq_true p34; replace q34 := eq_true q34; obtain ⟨hy35_, hz35_⟩ := Kd.R_celln 0 HO_5.out (x20_1 : Int) (of_decide_eq_true (by first | (with_reducible assumption) | assumption)) (of_decide_eq_true (by first | (with_reducible assumption) | assumption)); have HP35 := Kd.R_putg HO_5.out (x20_1 : Int) t316) | ((with_reducible refine gate_store (t := 55) (p := 43) rfl ?_); refine store_event (t := 55) (p := 43) (v := ?vo_w36) (w1 := (wr.setCell ⟨go34, (x20_1 : Int).toNat, none⟩ (.int .u32 t316))) ?hg ?ho ?hn ?hr ?_; (case ho => rfl); (case hg => rfl); (case hn => rfl); (case hr => first | (go_simp; done) | (go_simp; rfl)); intro w36 hw; have hg : wr.grownBy w36 (some go34) := (by rw [hw]; exact HP35.2); have hp_ : Kd.R (Kd.int .u32) 55 w36 w.heap.size (fun k_ => (w.heap.size ≤ k_)) (.slice (some ⟨go34, 0, none⟩) x5_1.length co28) y318 := (by rw [hw, Ny318.out]; exact HP35.1); clear HP35; have n0_ := Aside0.mk (hp_); have n1_ := Aside0.mk ((by rw [hw]; exact below_set (HB.out) GB34.out : Below w.heap.size w w36)); clear HO_5 HB; revert n0_ n1_; intro HO_5 HB; clear hg hw hp_))
        (try simp only [← hl5_1])
        go_roundg k1
        case measure => have := HK1.out; omega
        case rel => exact ⟨(y318), (t317), (wrap64 (x20_1 + 1)), (by first | rfl | (simp; done) | (simp [*]; done)), (by first | rfl | (simp; done) | (simp [*]; done)), H', ⟨by have := HK1.out; omega⟩, ⟨by (try simp only [hl5_1]); (with_reducible repeat (first | apply Kd.R_alloc | apply Kd.R_drewN | apply Kd.R_drew)); exact HO_5.out⟩, ⟨Bu HB⟩⟩
       ·rw [if_neg c32] at H
        exact absurd H (by simp)
      ·rw [if_neg c31] at H
       exact absurd H (by simp)
     ·rw [if_neg c30] at H
      have c30b0 : decide (x20_1 < (l1.length : Int)) = false := decide_eq_false c30
      clear c30
      by_cases c37 : 0 ≤ x20_1
      ·rw [if_pos c37] at H
       have c37b0 : decide (0 ≤ x20_1) = true := decide_eq_true c37
       clear c37
       by_cases c38 : x20_1 < (x5_1.length : Int)
       ·rw [if_pos c38] at H
        have c38b0 : decide (x20_1 < (x5_1.length : Int)) = true := decide_eq_true c38
        clear c38
        replace H := Option.bind_eq_some_iff.mp H
        obtain ⟨⟨t320, t321⟩, A390, H⟩ := H
        replace H : (nat_add.l100 k1 l1 (x5_1.set (x20_1 : Int).toNat t320) t321 (t311.length : Int) (wrap64 (x20_1 + 1))) = some r := H
        have A39 := Aside0.mk A390
        clear A390
        obtain ⟨y322, hy322⟩ : ∃ y_ : List Int, y_ = (x5_1.set (x20_1 : Int).toNat t320) := ⟨_, rfl⟩
        replace H : (nat_add.l100 k1 l1 y322 t321 (t311.length : Int) (wrap64 (x20_1 + 1))) = some r := by first | (rw [hy322]; with_reducible exact H) | (have H2_ := (Option.bind_some _ _).symm.trans H; rw [hy322]; with_reducible exact H2_) | (have H2_ := (Option.bind_some _ _).symm.trans H; with_reducible exact H2_) | with_reducible exact H | (rw [hy322]; exact H) | exact H
        have Ny322 := Aside0.mk hy322
        clear hy322
        have H' := Aside0.mk H
        clear H
        have p319 : 0 ≤ (x20_1 : Int) := of_decide_eq_true (by first | (with_reducible assumption) | assumption)
        have q319 : x20_1 < (x5_1.length : Int) := of_decide_eq_true (by first | (with_reducible assumption) | assumption)
        obtain ⟨ad319, e319, hx319_0⟩ := Kd.at_int (Kd.R_reads' HO_5.out).2.2 x20_1 p319 q319
        cases e319
        replace p319 := eq_true p319
        replace q319 := eq_true q319
        go_wp2_with (first | ((with_reducible refine gate_callee (f := 51) rfl ?_); refine goesA (some 40) Tryd.func51 #[.int .u32 (rd x5_1 x20_1), .int .u32 0, .int .u32 x6_1] rfl ?_; (with_reducible refine (bits_Add32.calls (rd x5_1 x20_1) 0 x6_1 t320 t321 _ A39.out).mono ?_); rintro e w' ⟨rfl, ⟨nd, rfl⟩⟩; refine ⟨_, rfl, ?_⟩; (try (rw [drewN_self wr]; generalize hq_ : World.drewN wr _ = wr; (try (replace hx34_0 := cell_at hq_ hx34_0)); (try (replace hf34_0 := frozen_at' hq_ hf34_0)); have n0_ : Aside0 (Kd.R (Kd.int .u32) 55 wr w.heap.size (fun k_ => (w.heap.size ≤ k_)) (.slice (some ad319) x5_1.length co28) x5_1) := ⟨by rw [← hq_]; exact (Ru HO_5)⟩; have n1_ : Aside0 (Below w.heap.size w wr) := ⟨by rw [← hq_]; exact (Bu HB)⟩; clear HO_5 HB hq_; have HO_5 := n0_; have HB := n1_; clear n0_ n1_)); have p40 : 0 ≤ (x20_1 : Int) := of_decide_eq_true (by first | (with_reducible assumption) | assumption); have q40 : (x20_1 : Int) < ((x5_1.length : Int) : Int) := of_decide_eq_true (by first | (with_reducible assumption) | assumption); obtain ⟨go40, co40, eo40, gb40, gl40, cl40, HG40⟩ := Kd.R_form HO_5.out (by omega); (first | cases eo40 | (injection eo40 with ea_ en_ ec_; (first | subst ea_ | (injection ea_ with ea_; subst ea_)); subst ec_; clear en_)); have GB40 := Aside0.mk gb40; have GG40 := Aside0.mk HG40; clear gb40 gl40 HG40; (first | simp only [add_plain] at hx319_0 | skip); obtain ⟨hx40_0, hf40_0⟩ := Kd.R_celln 0 HO_5.out (x20_1 : Int) p40 q40; replace p40 := eq_true p40; replace q40 := eq_true q40; obtain ⟨hy41_, hz41_⟩ := Kd.R_celln 0 HO_5.out (x20_1 : Int) (of_decide_eq_true (by first | (with_reducible assumption) | assumption)) (of_decide_eq_true (by first | (with_reducible assumption) | assumption)); have HP41 := Kd.R_putg HO_5.out (x20_1 : Int) t320) | ((with_reducible refine gate_store (t := 55) (p := 43) rfl ?_); refine store_event (t := 55) (p := 43) (v := ?vo_w42) (w1 := (wr.setCell ⟨go40, (x20_1 : Int).toNat, none⟩ (.int .u32 t320))) ?hg ?ho ?hn ?hr ?_; (case ho => rfl); (case hg => rfl); (case hn => rfl); (case hr => first | (go_simp; done) | (go_simp; rfl)); intro w42 hw; have hg : wr.grownBy w42 (some go40) := (by rw [hw]; exact HP41.2); have hp_ : Kd.R (Kd.int .u32) 55 w42 w.heap.size (fun k_ => (w.heap.size ≤ k_)) (.slice (some ⟨go40, 0, none⟩) x5_1.length co28) y322 := (by rw [hw, Ny322.out]; exact HP41.1); clear HP41; have n0_ := Aside0.mk (hp_); have n1_ := Aside0.mk ((by rw [hw]; exact below_set (HB.out) GB40.out : Below w.heap.size w w42)); clear HO_5 HB; revert n0_ n1_; intro HO_5 HB; clear hg hw hp_))
        (try simp only [← hl5_1])
        go_roundg k1
        case measure => have := HK1.out; omega
        case rel => exact ⟨(y322), (t321), (wrap64 (x20_1 + 1)), (by first | rfl | (simp; done) | (simp [*]; done)), (by first | rfl | (simp; done) | (simp [*]; done)), H', ⟨by have := HK1.out; omega⟩, ⟨by (try simp only [hl5_1]); (with_reducible repeat (first | apply Kd.R_alloc | apply Kd.R_drewN | apply Kd.R_drew)); exact HO_5.out⟩, ⟨Bu HB⟩⟩
       ·rw [if_neg c38] at H
        exact absurd H (by simp)
      ·rw [if_neg c37] at H
       exact absurd H (by simp)
    ·rw [if_neg c29] at H
     have c29b0 : decide (x20_1 < (t311.length : Int)) = false := decide_eq_false c29
     (try (have c29b0zhl5_1 := c29b0; rw [hl5_1] at c29b0zhl5_1))
     clear c29
     by_cases c43 : x5_1.length < 35184372088832
     ·rw [if_pos c43] at H
      have LMc43 := Aside0.mk c43
      clear c43
      obtain ⟨y323, hy323⟩ : ∃ y_ : List Int, y_ = (x5_1 ++ [x6_1]) := ⟨_, rfl⟩
      replace H : ((nat_num_trim.f k1 y323).bind fun t326 => (some t326)) = some r := by first | (rw [hy323]; with_reducible exact H) | (have H2_ := (Option.bind_some _ _).symm.trans H; rw [hy323]; with_reducible exact H2_) | (have H2_ := (Option.bind_some _ _).symm.trans H; with_reducible exact H2_) | with_reducible exact H | (rw [hy323]; exact H) | exact H
      have Ny323 := Aside0.mk hy323
      clear hy323
      replace H := Option.bind_eq_some_iff.mp H
      obtain ⟨t326, A440, H⟩ := H
      replace H : (some t326) = some r := H
      have A44 := Aside0.mk A440
      clear A440
      obtain rfl := Option.some.inj H
      go_wp2_with (first | ((with_reducible refine gate_builtin (b := .append) (xs := #[.tmp 45, .tmp 47]) rfl ?_); at_builtin; refine Kd.R_append (Kd.int .u32) (w0 := w) w.heap.size rfl (.tmp 45) (.tmp 47) 47 55 (.int .u32 0) 4 rfl Tryd.underlying47 info55 rfl (by decide) (by omega) (.slice Ao28 x5_1.length co28) x5_1 x6_1 [.int .u32 x6_1] (fun k_ => (w.heap.size ≤ k_)) (fun _ => False) rfl rfl ?aP (fun _ hk => hk.elim) ?aF ?aO ?aB ?aS ?aL ?_; (case aP => exact rfl); (case aB => exact (Bu HB)); (case aF => exact (fun k_ hk => (Nat.le_trans (Bz HB) hk))); (case aO => exact (Ru HO_5)); (case aS => exact (Bz HB)); (case aL => have := LMc43.out; omega); intro v324 w45 ho hb hg hat; rw [← Ny323.out] at ho; have n0_ := Aside0.mk (hb); have n1_ := Aside0.mk (ho); clear HB HO_5; revert n0_ n1_; intro HB HO325; clear ho hb hg hat; obtain ⟨Ao46, co46, eo46⟩ := Kd.R_slice HO325.out; subst eo46) | ((with_reducible refine gate_callee (f := 44) rfl ?_); refine goesA (some 49) Tryd.func44 #[.slice Ao46 y323.length co46] rfl ?_; (with_reducible refine (nat_num_trim.calls k1 (fun k_ => some k_ = (.slice Ao46 y323.length co46 : Value).ownBlock) _ _ y323 t326 _ ?side1 A44.out).mono ?_); (case side1 => exact Kd.R_V (Kd.R_tight rfl (HO325.out))); rintro e w47 ⟨v327, rfl, ho0, hb⟩; refine ⟨_, rfl, ?_⟩; have n0_ := Rb HO325 hb; have n1_ := Aside0.mk (Kd.V_lower (Kd.V_mono (ok' := fun k_ => (w.heap.size ≤ k_)) ho0 (fun k_ hk_ => Or.elim hk_ (fun hs_ => ((HO325.out).1 k_ hs_.symm)) (fun hn_ => (Nat.le_trans (Bz HB) hn_)))) (Bz HB)); have n2_ := Bs HB hb; clear HO325 HB; revert n0_ n1_ n2_; intro HO325 HO328 HB; (try clear hb); (try clear hb2); (try clear hk); (try clear hi); (try clear ho0)))
      go_ret
      exact ⟨_, rfl_, Vu HO328, Bu HB⟩
     ·rw [if_neg c43] at H
      exact absurd H (by simp)

/-! ### nat_sub: function 40 -/
def nat_sub.l0 : Nat → List Int → List Int → Int → Int → Int → Option (List Int)
 | 0, _, _, _, _, _ => none
 | k + 1, x1, x5, x6, x12, x13 => if x13 < x12 then (if x13 < (x1.length : Int) then (if 0 ≤ x13 then (if x13 < (x5.length : Int) then ((bits_Sub32.f (rd x5 x13) (rd x1 x13) x6).bind fun bt334 => (nat_sub.l0 k x1 (x5.set (x13 : Int).toNat bt334.1) bt334.2 x12 (wrap64 (x13 + 1)))) else (none)) else (none)) else (if 0 ≤ x13 then (if x13 < (x5.length : Int) then ((bits_Sub32.f (rd x5 x13) 0 x6).bind fun bt338 => (nat_sub.l0 k x1 (x5.set (x13 : Int).toNat bt338.1) bt338.2 x12 (wrap64 (x13 + 1)))) else (none)) else (none))) else ((nat_num_trim.f k x5).bind fun t341 => (some t341))
def nat_sub.f (k : Nat) (l0 : List Int) (l1 : List Int) : Option (List Int) := (nat_num_uint32.f l0).bind fun t329 => (nat_sub.l0 k l1 t329 0 (t329.length : Int) 0)
theorem nat_sub.mono_l : ∀ k, (∀ y0 y1 y2 y3 y4, LeO (nat_sub.l0 k y0 y1 y2 y3 y4) (nat_sub.l0 (k + 1) y0 y1 y2 y3 y4))
 | 0 => fun _ _ _ _ _ r h => by simp [nat_sub.l0] at h
 | k + 1 => by
  have ih0 := nat_sub.mono_l k
  ·intro y0 y1 y2 y3 y4
   unfold nat_sub.l0
   repeat' first
   | (with_reducible exact ih0 _ _ _ _ _)
   | (with_reducible exact nat_num_trim.mono _ _)
   | (with_reducible exact LeO.refl _)
   | (with_reducible exact LeO.none _)
   | (with_reducible refine LeO.ite ?_ ?_)
   | (with_reducible refine LeO.bind ?_ (fun _ => ?_))
   | exact ih0 _ _ _ _ _
   | exact nat_num_trim.mono _ _
   | exact LeO.none _
   | refine LeO.ite ?_ ?_
   | refine LeO.bind ?_ (fun _ => ?_)
theorem nat_sub.mono : ∀ a0 a1 k, LeO (nat_sub.f k a0 a1) (nat_sub.f (k + 1) a0 a1) := by
 intro a0 a1 k
 have ih0 := nat_sub.mono_l k
 unfold nat_sub.f
 repeat' first
   | (with_reducible exact ih0 _ _ _ _ _)
   | (with_reducible exact nat_num_trim.mono _ _)
   | (with_reducible exact LeO.refl _)
   | (with_reducible exact LeO.none _)
   | (with_reducible refine LeO.ite ?_ ?_)
   | (with_reducible refine LeO.bind ?_ (fun _ => ?_))
   | exact ih0 _ _ _ _ _
   | exact nat_num_trim.mono _ _
   | exact LeO.none _
   | refine LeO.ite ?_ ?_
   | refine LeO.bind ?_ (fun _ => ?_)
set_option maxHeartbeats 8000000 in
set_option maxRecDepth 100000 in
theorem nat_sub.calls (k : Nat) (A0 : Option Addr) (c0 : Nat) (l0 : List Int) (A1 : Option Addr) (c1 : Nat) (l1 : List Int) (r : List Int) (w : World) (hr0 : Kd.C (Kd.int .u32) w A0 l0.length l0) (hc0 : l0.length ≤ c0) (hr1 : Kd.C (Kd.int .u32) w A1 l1.length l1) (hc1 : l1.length ≤ c1) (h : nat_sub.f k l0 l1 = some r) :
  Calls Tryd.prog 40 #[.slice A0 l0.length c0, .slice A1 l1.length c1] w fun e w' => ∃ v0_ : Value, e = .returned (v0_) ∧ Kd.V (Kd.int .u32) 55 w' w.heap.size (fun k_ => (w.heap.size ≤ k_)) v0_ r ∧ Below w.heap.size w w' := by
 have HR0 := Aside0.mk hr0
 have HC0 := Aside0.mk hc0
 clear hr0 hc0
 have HR1 := Aside0.mk hr1
 have HC1 := Aside0.mk hc1
 clear hr1 hc1
 have HB := Aside0.mk (Below.refl w.heap.size w)
 have H : ((nat_num_uint32.f l0).bind fun t329 => (nat_sub.l0 k l1 t329 0 (t329.length : Int) 0)) = some r := h
 clear h
 replace H := Option.bind_eq_some_iff.mp H
 obtain ⟨t329, A30, H⟩ := H
 replace H : (nat_sub.l0 k l1 t329 0 (t329.length : Int) 0) = some r := H
 have A3 := Aside0.mk A30
 clear A30
 have H' := Aside0.mk H
 clear H
 go_enter Tryd.func40, Tryd.ntmps40
 go_wp2_with (first | ((with_reducible refine gate_callee (f := 54) rfl ?_); refine goesA (some 10) Tryd.func54 #[.slice A0 l0.length c0] rfl ?_; (with_reducible refine (nat_num_uint32.calls _ _ l0 t329 _ ?side1 ?side2 A3.out).mono ?_); (case side1 => exact Cu HR0.out); (case side2 => exact HC0.out); rintro e w4 ⟨v330, rfl, ho0, hb⟩; refine ⟨_, rfl, ?_⟩; have n0_ := Aside0.mk (Kd.R_lower (Kd.R_newM (M := fun k_ => (w.heap.size ≤ k_)) ho0 (Bz HB) (fun k_ h_ => h_)) (Bz HB)); have n1_ := Bs HB hb; clear HB; revert n0_ n1_; intro HO331 HB; (try clear hb); (try clear hb2); (try clear hk); (try clear hi); (try clear ho0); obtain ⟨Ao5, co5, eo5⟩ := Kd.R_slice HO331.out; subst eo5))
 go_loopg [6, 13] k (fun kq v6 v13 w' => ∃ (x5_1 : List Int) (x6_1 : Int) (x13_1 : Int), v6 = .int .u32 x6_1 ∧ v13 = .int .i64 x13_1 ∧ Aside0 (nat_sub.l0 kq l1 x5_1 x6_1 (t329.length : Int) x13_1 = some r) ∧ Aside0 (kq ≤ k) ∧ Aside0 (Kd.R (Kd.int .u32) 55 w' w.heap.size (fun k_ => (w.heap.size ≤ k_)) (.slice Ao5 t329.length co5) x5_1) ∧ Aside0 (Below w.heap.size w w'))
 case atStart => exact ⟨(t329), (0), (0), (by first | rfl | (simp; done) | (simp [*]; done)), (by first | rfl | (simp; done) | (simp [*]; done)), H', ⟨Nat.le_refl _⟩, ⟨by (with_reducible repeat (first | apply Kd.R_alloc | apply Kd.R_drewN | apply Kd.R_drew)); exact Kd.R_mono HO331.out (fun _ hk => hk.1)⟩, ⟨Bu HB⟩⟩
 case round =>
  clear H'
  try clear c1
  try clear p2
  try clear c4
  try clear c5
  obtain ⟨x5_1, x6_1, x13_1, rfl, rfl, HA, HK1, HO_5, HB⟩ := hrel
  have hl5_1 := (Kd.R_reads' HO_5.out).1
  rw [hl5_1] at HO_5
  (try simp only [hl5_1])
  cases gk with
  | zero => exact absurd HA.out (by simp [nat_sub.l0])
  | succ k1 =>
   have H := HA.out
   clear HA
   simp only [nat_sub.l0] at H
   by_cases c6 : x13_1 < (t329.length : Int)
   ·rw [if_pos c6] at H
    have c6b0 : decide (x13_1 < (t329.length : Int)) = true := decide_eq_true c6
    (try (have c6b0zhl5_1 := c6b0; rw [hl5_1] at c6b0zhl5_1))
    clear c6
    by_cases c7 : x13_1 < (l1.length : Int)
    ·rw [if_pos c7] at H
     have c7b0 : decide (x13_1 < (l1.length : Int)) = true := decide_eq_true c7
     clear c7
     by_cases c8 : 0 ≤ x13_1
     ·rw [if_pos c8] at H
      have c8b0 : decide (0 ≤ x13_1) = true := decide_eq_true c8
      clear c8
      by_cases c9 : x13_1 < (x5_1.length : Int)
      ·rw [if_pos c9] at H
       have c9b0 : decide (x13_1 < (x5_1.length : Int)) = true := decide_eq_true c9
       clear c9
       replace H := Option.bind_eq_some_iff.mp H
       obtain ⟨⟨t334, t335⟩, A100, H⟩ := H
       replace H : (nat_sub.l0 k1 l1 (x5_1.set (x13_1 : Int).toNat t334) t335 (t329.length : Int) (wrap64 (x13_1 + 1))) = some r := H
       have A10 := Aside0.mk A100
       clear A100
       obtain ⟨y336, hy336⟩ : ∃ y_ : List Int, y_ = (x5_1.set (x13_1 : Int).toNat t334) := ⟨_, rfl⟩
       replace H : (nat_sub.l0 k1 l1 y336 t335 (t329.length : Int) (wrap64 (x13_1 + 1))) = some r := by first | (rw [hy336]; with_reducible exact H) | (have H2_ := (Option.bind_some _ _).symm.trans H; rw [hy336]; with_reducible exact H2_) | (have H2_ := (Option.bind_some _ _).symm.trans H; with_reducible exact H2_) | with_reducible exact H | (rw [hy336]; exact H) | exact H
       have Ny336 := Aside0.mk hy336
       clear hy336
       have H' := Aside0.mk H
       clear H
       have p332 : 0 ≤ (x13_1 : Int) := of_decide_eq_true (by first | (with_reducible assumption) | assumption)
       have q332 : x13_1 < (l1.length : Int) := of_decide_eq_true (by first | (with_reducible assumption) | assumption)
       obtain ⟨ad332, e332, hx332_0⟩ := Kd.at_int HR1.out x13_1 p332 q332
       cases e332
       replace hx332_0 := (HB.out.cell (World.block_lt_of_cell? w _ hx332_0)).trans hx332_0
       replace p332 := eq_true p332
       replace q332 := eq_true q332
       have p333 : 0 ≤ (x13_1 : Int) := of_decide_eq_true (by first | (with_reducible assumption) | assumption)
       have q333 : x13_1 < (x5_1.length : Int) := of_decide_eq_true (by first | (with_reducible assumption) | assumption)
       obtain ⟨ad333, e333, hx333_0⟩ := Kd.at_int (Kd.R_reads' HO_5.out).2.2 x13_1 p333 q333
       cases e333
       replace p333 := eq_true p333
       replace q333 := eq_true q333
       go_wp2_with (first | ((with_reducible refine gate_callee (f := 55) rfl ?_); refine goesA (some 33) Tryd.func55 #[.int .u32 (rd x5_1 x13_1), .int .u32 (rd l1 x13_1), .int .u32 x6_1] rfl ?_; (with_reducible refine (bits_Sub32.calls (rd x5_1 x13_1) (rd l1 x13_1) x6_1 t334 t335 _ A10.out).mono ?_); rintro e w' ⟨rfl, ⟨nd, rfl⟩⟩; refine ⟨_, rfl, ?_⟩; (try (rw [drewN_self wr]; generalize hq_ : World.drewN wr _ = wr; have n0_ : Aside0 (Kd.R (Kd.int .u32) 55 wr w.heap.size (fun k_ => (w.heap.size ≤ k_)) (.slice (some ad333) x5_1.length co5) x5_1) := ⟨by rw [← hq_]; exact (Ru HO_5)⟩; have n1_ : Aside0 (Below w.heap.size w wr) := ⟨by rw [← hq_]; exact (Bu HB)⟩; clear HO_5 HB hq_; have HO_5 := n0_; have HB := n1_; clear n0_ n1_)); have p11 : 0 ≤ (x13_1 : Int) := of_decide_eq_true (by first | (with_reducible assumption) | assumption); have q11 : (x13_1 : Int) < ((x5_1.length : Int) : Int) := of_decide_eq_true (by first | (with_reducible assumption) | assumption); obtain ⟨go11, co11, eo11, gb11, gl11, cl11, HG11⟩ := Kd.R_form HO_5.out (by omega); (first | cases eo11 | (injection eo11 with ea_ en_ ec_; (first | subst ea_ | (injection ea_ with ea_; subst ea_)); subst ec_; clear en_)); have GB11 := Aside0.mk gb11; have GG11 := Aside0.mk HG11; clear gb11 gl11 HG11; (first | simp only [add_plain] at hx333_0 | skip); obtain ⟨hx11_0, hf11_0⟩ := Kd.R_celln 0 HO_5.out (x13_1 : Int) p11 q11; replace p11 := eq_true p11; replace q11 := eq_true q11; obtain ⟨hy12_, hz12_⟩ := Kd.R_celln 0 HO_5.out (x13_1 : Int) (of_decide_eq_true (by first | (with_reducible assumption) | assumption)) (of_decide_eq_true (by first | (with_reducible assumption) | assumption)); have HP12 := Kd.R_putg HO_5.out (x13_1 : Int) t334) | ((with_reducible refine gate_store (t := 55) (p := 36) rfl ?_); refine store_event (t := 55) (p := 36) (v := ?vo_w13) (w1 := (wr.setCell ⟨go11, (x13_1 : Int).toNat, none⟩ (.int .u32 t334))) ?hg ?ho ?hn ?hr ?_; (case ho => rfl); (case hg => rfl); (case hn => rfl); (case hr => first | (go_simp; done) | (go_simp; rfl)); intro w13 hw; have hg : wr.grownBy w13 (some go11) := (by rw [hw]; exact HP12.2); have hp_ : Kd.R (Kd.int .u32) 55 w13 w.heap.size (fun k_ => (w.heap.size ≤ k_)) (.slice (some ⟨go11, 0, none⟩) x5_1.length co5) y336 := (by rw [hw, Ny336.out]; exact HP12.1); clear HP12; have n0_ := Aside0.mk (hp_); have n1_ := Aside0.mk ((by rw [hw]; exact below_set (HB.out) GB11.out : Below w.heap.size w w13)); clear HO_5 HB; revert n0_ n1_; intro HO_5 HB; clear hg hw hp_))
       (try simp only [← hl5_1])
       go_roundg k1
       case measure => have := HK1.out; omega
       case rel => exact ⟨(y336), (t335), (wrap64 (x13_1 + 1)), (by first | rfl | (simp; done) | (simp [*]; done)), (by first | rfl | (simp; done) | (simp [*]; done)), H', ⟨by have := HK1.out; omega⟩, ⟨by (try simp only [hl5_1]); (with_reducible repeat (first | apply Kd.R_alloc | apply Kd.R_drewN | apply Kd.R_drew)); exact HO_5.out⟩, ⟨Bu HB⟩⟩
      ·rw [if_neg c9] at H
       exact absurd H (by simp)
     ·rw [if_neg c8] at H
      exact absurd H (by simp)
    ·rw [if_neg c7] at H
     have c7b0 : decide (x13_1 < (l1.length : Int)) = false := decide_eq_false c7
     clear c7
     by_cases c14 : 0 ≤ x13_1
     ·rw [if_pos c14] at H
      have c14b0 : decide (0 ≤ x13_1) = true := decide_eq_true c14
      clear c14
      by_cases c15 : x13_1 < (x5_1.length : Int)
      ·rw [if_pos c15] at H
       have c15b0 : decide (x13_1 < (x5_1.length : Int)) = true := decide_eq_true c15
       clear c15
       replace H := Option.bind_eq_some_iff.mp H
       obtain ⟨⟨t338, t339⟩, A160, H⟩ := H
       replace H : (nat_sub.l0 k1 l1 (x5_1.set (x13_1 : Int).toNat t338) t339 (t329.length : Int) (wrap64 (x13_1 + 1))) = some r := H
       have A16 := Aside0.mk A160
       clear A160
       obtain ⟨y340, hy340⟩ : ∃ y_ : List Int, y_ = (x5_1.set (x13_1 : Int).toNat t338) := ⟨_, rfl⟩
       replace H : (nat_sub.l0 k1 l1 y340 t339 (t329.length : Int) (wrap64 (x13_1 + 1))) = some r := by first | (rw [hy340]; with_reducible exact H) | (have H2_ := (Option.bind_some _ _).symm.trans H; rw [hy340]; with_reducible exact H2_) | (have H2_ := (Option.bind_some _ _).symm.trans H; with_reducible exact H2_) | with_reducible exact H | (rw [hy340]; exact H) | exact H
       have Ny340 := Aside0.mk hy340
       clear hy340
       have H' := Aside0.mk H
       clear H
       have p337 : 0 ≤ (x13_1 : Int) := of_decide_eq_true (by first | (with_reducible assumption) | assumption)
       have q337 : x13_1 < (x5_1.length : Int) := of_decide_eq_true (by first | (with_reducible assumption) | assumption)
       obtain ⟨ad337, e337, hx337_0⟩ := Kd.at_int (Kd.R_reads' HO_5.out).2.2 x13_1 p337 q337
       cases e337
       replace p337 := eq_true p337
       replace q337 := eq_true q337
       go_wp2_with (first | ((with_reducible refine gate_callee (f := 55) rfl ?_); refine goesA (some 33) Tryd.func55 #[.int .u32 (rd x5_1 x13_1), .int .u32 0, .int .u32 x6_1] rfl ?_; (with_reducible refine (bits_Sub32.calls (rd x5_1 x13_1) 0 x6_1 t338 t339 _ A16.out).mono ?_); rintro e w' ⟨rfl, ⟨nd, rfl⟩⟩; refine ⟨_, rfl, ?_⟩; (try (rw [drewN_self wr]; generalize hq_ : World.drewN wr _ = wr; (try (replace hx11_0 := cell_at hq_ hx11_0)); (try (replace hf11_0 := frozen_at' hq_ hf11_0)); have n0_ : Aside0 (Kd.R (Kd.int .u32) 55 wr w.heap.size (fun k_ => (w.heap.size ≤ k_)) (.slice (some ad337) x5_1.length co5) x5_1) := ⟨by rw [← hq_]; exact (Ru HO_5)⟩; have n1_ : Aside0 (Below w.heap.size w wr) := ⟨by rw [← hq_]; exact (Bu HB)⟩; clear HO_5 HB hq_; have HO_5 := n0_; have HB := n1_; clear n0_ n1_)); have p17 : 0 ≤ (x13_1 : Int) := of_decide_eq_true (by first | (with_reducible assumption) | assumption); have q17 : (x13_1 : Int) < ((x5_1.length : Int) : Int) := of_decide_eq_true (by first | (with_reducible assumption) | assumption); obtain ⟨go17, co17, eo17, gb17, gl17, cl17, HG17⟩ := Kd.R_form HO_5.out (by omega); (first | cases eo17 | (injection eo17 with ea_ en_ ec_; (first | subst ea_ | (injection ea_ with ea_; subst ea_)); subst ec_; clear en_)); have GB17 := Aside0.mk gb17; have GG17 := Aside0.mk HG17; clear gb17 gl17 HG17; (first | simp only [add_plain] at hx337_0 | skip); obtain ⟨hx17_0, hf17_0⟩ := Kd.R_celln 0 HO_5.out (x13_1 : Int) p17 q17; replace p17 := eq_true p17; replace q17 := eq_true q17; obtain ⟨hy18_, hz18_⟩ := Kd.R_celln 0 HO_5.out (x13_1 : Int) (of_decide_eq_true (by first | (with_reducible assumption) | assumption)) (of_decide_eq_true (by first | (with_reducible assumption) | assumption)); have HP18 := Kd.R_putg HO_5.out (x13_1 : Int) t338) | ((with_reducible refine gate_store (t := 55) (p := 36) rfl ?_); refine store_event (t := 55) (p := 36) (v := ?vo_w19) (w1 := (wr.setCell ⟨go17, (x13_1 : Int).toNat, none⟩ (.int .u32 t338))) ?hg ?ho ?hn ?hr ?_; (case ho => rfl); (case hg => rfl); (case hn => rfl); (case hr => first | (go_simp; done) | (go_simp; rfl)); intro w19 hw; have hg : wr.grownBy w19 (some go17) := (by rw [hw]; exact HP18.2); have hp_ : Kd.R (Kd.int .u32) 55 w19 w.heap.size (fun k_ => (w.heap.size ≤ k_)) (.slice (some ⟨go17, 0, none⟩) x5_1.length co5) y340 := (by rw [hw, Ny340.out]; exact HP18.1); clear HP18; have n0_ := Aside0.mk (hp_); have n1_ := Aside0.mk ((by rw [hw]; exact below_set (HB.out) GB17.out : Below w.heap.size w w19)); clear HO_5 HB; revert n0_ n1_; intro HO_5 HB; clear hg hw hp_))
       (try simp only [← hl5_1])
       go_roundg k1
       case measure => have := HK1.out; omega
       case rel => exact ⟨(y340), (t339), (wrap64 (x13_1 + 1)), (by first | rfl | (simp; done) | (simp [*]; done)), (by first | rfl | (simp; done) | (simp [*]; done)), H', ⟨by have := HK1.out; omega⟩, ⟨by (try simp only [hl5_1]); (with_reducible repeat (first | apply Kd.R_alloc | apply Kd.R_drewN | apply Kd.R_drew)); exact HO_5.out⟩, ⟨Bu HB⟩⟩
      ·rw [if_neg c15] at H
       exact absurd H (by simp)
     ·rw [if_neg c14] at H
      exact absurd H (by simp)
   ·rw [if_neg c6] at H
    have c6b0 : decide (x13_1 < (t329.length : Int)) = false := decide_eq_false c6
    (try (have c6b0zhl5_1 := c6b0; rw [hl5_1] at c6b0zhl5_1))
    clear c6
    replace H := Option.bind_eq_some_iff.mp H
    obtain ⟨t341, A200, H⟩ := H
    replace H : (some t341) = some r := H
    have A20 := Aside0.mk A200
    clear A200
    obtain rfl := Option.some.inj H
    go_wp2_with (first | ((with_reducible refine gate_callee (f := 44) rfl ?_); refine goesA (some 39) Tryd.func44 #[.slice Ao5 x5_1.length co5] rfl ?_; (with_reducible refine (nat_num_trim.calls k1 (fun k_ => some k_ = (.slice Ao5 x5_1.length co5 : Value).ownBlock) _ _ x5_1 t341 _ ?side1 A20.out).mono ?_); (case side1 => exact Kd.R_V (Kd.R_tight rfl (HO_5.out))); rintro e w21 ⟨v342, rfl, ho0, hb⟩; refine ⟨_, rfl, ?_⟩; have n0_ := Rb HO_5 hb; have n1_ := Aside0.mk (Kd.V_lower (Kd.V_mono (ok' := fun k_ => (w.heap.size ≤ k_)) ho0 (fun k_ hk_ => Or.elim hk_ (fun hs_ => ((HO_5.out).1 k_ hs_.symm)) (fun hn_ => (Nat.le_trans (Bz HB) hn_)))) (Bz HB)); have n2_ := Bs HB hb; clear HO_5 HB; revert n0_ n1_ n2_; intro HO_5 HO343 HB; (try clear hb); (try clear hb2); (try clear hk); (try clear hi); (try clear ho0)))
    go_ret
    exact ⟨_, rfl_, Vu HO343, Bu HB⟩

/-! ### nat_Inverse: function 20 -/
def nat_Inverse.l0 : Nat → List Int → List Int → List Int → List Int → List Int → Option (List Int × Int)
 | 0, _, _, _, _, _ => none
 | k + 1, x6, x8, x9, x10, x11 => if (x8.length : Int) > 0 then ((nat_div.f k x9 x8).bind fun bt380 => ((nat_mul.f k bt380.1 x11).bind fun t386 => ((nat_div.f k t386 x6).bind fun bt389 => ((nat_compare.f k x10 bt389.2).bind fun t395 => (if t395 < 0 then ((nat_add.f k x10 x6).bind fun t396 => ((nat_sub.f k t396 bt389.2).bind fun t399 => (nat_Inverse.l0 k x6 bt380.2 x8 x11 t399))) else ((nat_sub.f k x10 bt389.2).bind fun t402 => (nat_Inverse.l0 k x6 bt380.2 x8 x11 t402))))))) else ((nat_num_bytes.f k x10).bind fun t377 => (some (t377, 0)))
def nat_Inverse.f (k : Nat) (l0 : List Int) (l1 : List Int) : Option (List Int × Int) := (nat_of.f k l1).bind fun t344 => ((nat_long.f (([l0, l1] : List (List Int)))).bind fun t350 => (if t350 = true then (some (([] : List Int), 12)) else ((nat_compare.f k t344 (([2] : List Int))).bind fun t354 => (if t354 < 0 then (some (([] : List Int), 2)) else ((nat_of.f k l0).bind fun t355 => ((nat_div.f k t355 t344).bind fun bt358 => ((nat_gcd.f k t344 bt358.2).bind fun t364 => ((nat_compare.f k t364 (([1] : List Int))).bind fun t370 => (if t370 = 0 then (nat_Inverse.l0 k t344 bt358.2 t344 (([] : List Int)) (([1] : List Int))) else (some (([] : List Int), 20)))))))))))
theorem nat_Inverse.mono_l : ∀ k, (∀ y0 y1 y2 y3 y4, LeO (nat_Inverse.l0 k y0 y1 y2 y3 y4) (nat_Inverse.l0 (k + 1) y0 y1 y2 y3 y4))
 | 0 => fun _ _ _ _ _ r h => by simp [nat_Inverse.l0] at h
 | k + 1 => by
  have ih0 := nat_Inverse.mono_l k
  ·intro y0 y1 y2 y3 y4
   unfold nat_Inverse.l0
   repeat' first
   | (with_reducible exact ih0 _ _ _ _ _)
   | (with_reducible exact nat_add.mono _ _ _)
   | (with_reducible exact nat_compare.mono _ _ _)
   | (with_reducible exact nat_div.mono _ _ _)
   | (with_reducible exact nat_gcd.mono _ _ _)
   | (with_reducible exact nat_mul.mono _ _ _)
   | (with_reducible exact nat_num_bytes.mono _ _)
   | (with_reducible exact nat_of.mono _ _)
   | (with_reducible exact nat_sub.mono _ _ _)
   | (with_reducible exact LeO.refl _)
   | (with_reducible exact LeO.none _)
   | (with_reducible refine LeO.ite ?_ ?_)
   | (with_reducible refine LeO.bind ?_ (fun _ => ?_))
   | exact ih0 _ _ _ _ _
   | exact nat_add.mono _ _ _
   | exact nat_compare.mono _ _ _
   | exact nat_div.mono _ _ _
   | exact nat_gcd.mono _ _ _
   | exact nat_mul.mono _ _ _
   | exact nat_num_bytes.mono _ _
   | exact nat_of.mono _ _
   | exact nat_sub.mono _ _ _
   | exact LeO.none _
   | refine LeO.ite ?_ ?_
   | refine LeO.bind ?_ (fun _ => ?_)
theorem nat_Inverse.mono : ∀ a0 a1 k, LeO (nat_Inverse.f k a0 a1) (nat_Inverse.f (k + 1) a0 a1) := by
 intro a0 a1 k
 have ih0 := nat_Inverse.mono_l k
 unfold nat_Inverse.f
 repeat' first
   | (with_reducible exact ih0 _ _ _ _ _)
   | (with_reducible exact nat_add.mono _ _ _)
   | (with_reducible exact nat_compare.mono _ _ _)
   | (with_reducible exact nat_div.mono _ _ _)
   | (with_reducible exact nat_gcd.mono _ _ _)
   | (with_reducible exact nat_mul.mono _ _ _)
   | (with_reducible exact nat_num_bytes.mono _ _)
   | (with_reducible exact nat_of.mono _ _)
   | (with_reducible exact nat_sub.mono _ _ _)
   | (with_reducible exact LeO.refl _)
   | (with_reducible exact LeO.none _)
   | (with_reducible refine LeO.ite ?_ ?_)
   | (with_reducible refine LeO.bind ?_ (fun _ => ?_))
   | exact ih0 _ _ _ _ _
   | exact nat_add.mono _ _ _
   | exact nat_compare.mono _ _ _
   | exact nat_div.mono _ _ _
   | exact nat_gcd.mono _ _ _
   | exact nat_mul.mono _ _ _
   | exact nat_num_bytes.mono _ _
   | exact nat_of.mono _ _
   | exact nat_sub.mono _ _ _
   | exact LeO.none _
   | refine LeO.ite ?_ ?_
   | refine LeO.bind ?_ (fun _ => ?_)
set_option maxHeartbeats 8000000 in
set_option maxRecDepth 100000 in
theorem nat_Inverse.callsV (k : Nat) (P0_ : Nat → Prop) (A0 : Option Addr) (c0 : Nat) (l0 : List Int) (P1_ : Nat → Prop) (A1 : Option Addr) (c1 : Nat) (l1 : List Int) (r1 : List Int) (r2 : Int) (w : World) (hs0 : Kd.V (Kd.int .u8) 5 w w.heap.size (fun k_ => P0_ k_) (.slice A0 l0.length c0) l0) (hs1 : Kd.V (Kd.int .u8) 5 w w.heap.size (fun k_ => P1_ k_) (.slice A1 l1.length c1) l1) (h : nat_Inverse.f k l0 l1 = some (r1, r2)) :
  Calls Tryd.prog 20 #[.slice A0 l0.length c0, .slice A1 l1.length c1] w fun e w' => ∃ v0_ : Value, e = .returned (.tuple #[v0_, .int .i64 r2]) ∧ Kd.R (Kd.int .u8) 5 w' w.heap.size (fun k_ => (w.heap.size ≤ k_)) v0_ r1 ∧ Below w.heap.size w w' := by
 have HO0 := Aside0.mk (show Kd.V (Kd.int .u8) 5 w w.heap.size (fun k_ => ((P0_ k_ ∨ P1_ k_) ∨ w.heap.size ≤ k_)) (.slice A0 l0.length c0) l0 from Kd.V_mono hs0 (fun k_ hk => .inl (.inl hk)))
 have HO1 := Aside0.mk (show Kd.V (Kd.int .u8) 5 w w.heap.size (fun k_ => ((P0_ k_ ∨ P1_ k_) ∨ w.heap.size ≤ k_)) (.slice A1 l1.length c1) l1 from Kd.V_mono hs1 (fun k_ hk => .inl (.inr hk)))
 have HB := Aside0.mk (Below.refl w.heap.size w)
 have H : ((nat_of.f k l1).bind fun t344 => ((nat_long.f (([l0, l1] : List (List Int)))).bind fun t350 => (if t350 = true then (some (([] : List Int), 12)) else ((nat_compare.f k t344 (([2] : List Int))).bind fun t354 => (if t354 < 0 then (some (([] : List Int), 2)) else ((nat_of.f k l0).bind fun t355 => ((nat_div.f k t355 t344).bind fun bt358 => ((nat_gcd.f k t344 bt358.2).bind fun t364 => ((nat_compare.f k t364 (([1] : List Int))).bind fun t370 => (if t370 = 0 then (nat_Inverse.l0 k t344 bt358.2 t344 (([] : List Int)) (([1] : List Int))) else (some (([] : List Int), 20)))))))))))) = some (r1, r2) := h
 clear h
 replace H := Option.bind_eq_some_iff.mp H
 obtain ⟨t344, A30, H⟩ := H
 replace H : ((nat_long.f (([l0, l1] : List (List Int)))).bind fun t350 => (if t350 = true then (some (([] : List Int), 12)) else ((nat_compare.f k t344 (([2] : List Int))).bind fun t354 => (if t354 < 0 then (some (([] : List Int), 2)) else ((nat_of.f k l0).bind fun t355 => ((nat_div.f k t355 t344).bind fun bt358 => ((nat_gcd.f k t344 bt358.2).bind fun t364 => ((nat_compare.f k t364 (([1] : List Int))).bind fun t370 => (if t370 = 0 then (nat_Inverse.l0 k t344 bt358.2 t344 (([] : List Int)) (([1] : List Int))) else (some (([] : List Int), 20))))))))))) = some (r1, r2) := H
 have A3 := Aside0.mk A30
 clear A30
 obtain ⟨y347, hy347⟩ : ∃ y_ : List (List Int), y_ = (([l0, l1] : List (List Int))) := ⟨_, rfl⟩
 replace H : ((nat_long.f y347).bind fun t350 => (if t350 = true then (some (([] : List Int), 12)) else ((nat_compare.f k t344 (([2] : List Int))).bind fun t354 => (if t354 < 0 then (some (([] : List Int), 2)) else ((nat_of.f k l0).bind fun t355 => ((nat_div.f k t355 t344).bind fun bt358 => ((nat_gcd.f k t344 bt358.2).bind fun t364 => ((nat_compare.f k t364 (([1] : List Int))).bind fun t370 => (if t370 = 0 then (nat_Inverse.l0 k t344 bt358.2 t344 (([] : List Int)) (([1] : List Int))) else (some (([] : List Int), 20))))))))))) = some (r1, r2) := by first | (rw [hy347]; with_reducible exact H) | (have H2_ := (Option.bind_some _ _).symm.trans H; rw [hy347]; with_reducible exact H2_) | (have H2_ := (Option.bind_some _ _).symm.trans H; with_reducible exact H2_) | with_reducible exact H | (rw [hy347]; exact H) | exact H
 have Ny347 := Aside0.mk hy347
 clear hy347
 replace H := Option.bind_eq_some_iff.mp H
 obtain ⟨t350, A40, H⟩ := H
 replace H : (if t350 = true then (some (([] : List Int), 12)) else ((nat_compare.f k t344 (([2] : List Int))).bind fun t354 => (if t354 < 0 then (some (([] : List Int), 2)) else ((nat_of.f k l0).bind fun t355 => ((nat_div.f k t355 t344).bind fun bt358 => ((nat_gcd.f k t344 bt358.2).bind fun t364 => ((nat_compare.f k t364 (([1] : List Int))).bind fun t370 => (if t370 = 0 then (nat_Inverse.l0 k t344 bt358.2 t344 (([] : List Int)) (([1] : List Int))) else (some (([] : List Int), 20)))))))))) = some (r1, r2) := H
 have A4 := Aside0.mk A40
 clear A40
 by_cases c5 : t350 = true
 ·subst c5
  have H1 : (some (([] : List Int), 12)) = some (r1, r2) := by rw [if_pos rfl] at H; exact H
  clear H
  have H := H1
  clear H1
  simp only [Option.some.injEq, Prod.mk.injEq] at H
  obtain ⟨rfl, rfl⟩ := H
  go_enter Tryd.func20, Tryd.ntmps20
  go_wp2_with (first | ((with_reducible refine gate_callee (f := 31) rfl ?_); refine goesA (some 18) Tryd.func31 #[.slice A1 l1.length c1] rfl ?_; (with_reducible refine (nat_of.calls k _ _ l1 t344 _ ?side1 ?side2 A3.out).mono ?_); (case side1 => exact Cu (Kd.V_reads' HO1.out).2.2); (case side2 => exact (Kd.V_reads' HO1.out).2.1); rintro e w6 ⟨v345, rfl, ho0, hb⟩; refine ⟨_, rfl, ?_⟩; have n0_ := Vb HO0 hb; have n1_ := Vb HO1 hb; have n2_ := Aside0.mk (Kd.V_lower (Kd.V_mono (ok' := fun k_ => ((P0_ k_ ∨ P1_ k_) ∨ w.heap.size ≤ k_)) ho0 (fun k_ hk_ => (.inr (Nat.le_trans (Bz HB) hk_)))) (Bz HB)); have n3_ := Bs HB hb; clear HO0 HO1 HB; revert n0_ n1_ n2_ n3_; intro HO0 HO1 HO346 HB; (try clear hb); (try clear hb2); (try clear hk); (try clear hi); (try clear ho0)) | ((with_reducible refine gate_dst (N := 22) rfl ?_); refine Kd.N_lit (Kd.slice 5 (Kd.int .u8)) _ 22 ?hg (N' := 22) ?hd (xs := ([l0, l1] : List (List Int))) (inner := [.slice A0 l0.length c0, .slice A1 l1.length c1]) (ok := (fun k_ => ((P0_ k_ ∨ P1_ k_) ∨ w.heap.size ≤ k_))) (okp := (fun k_ => ((P0_ k_ ∨ P1_ k_) ∨ w.heap.size ≤ k_))) ?hr ?hp (fun _ hk => hk) ((show ∀ k_, w6.heap.size ≤ k_ → (fun k_ => ((P0_ k_ ∨ P1_ k_) ∨ w.heap.size ≤ k_)) k_ from fun k_ hk => (.inr (Nat.le_trans (Bz HB) hk))) _ (Nat.le_refl _)) (Below.refl _ _) (Nat.le_refl _) (by simp) ?_; (case hd => rfl); (case hg => rfl); (case hr => first | (go_simp; done) | (go_simp; rfl)); (case hp => exact (Reps.one (show Kd.FK (Kd.slice 5 (Kd.int .u8)) _ _ l0 [.slice A0 l0.length c0] from (Kd.FK_slice_mk (Kd.V_reads' (Kd.V_mono (ok' := (fun k_ => ((P0_ k_ ∨ P1_ k_) ∨ w.heap.size ≤ k_))) (HO0.out) (fun k_ hk => hk))).2.1 (Kd.V_F (Kd.V_mono (ok' := (fun k_ => ((P0_ k_ ∨ P1_ k_) ∨ w.heap.size ≤ k_))) (HO0.out) (fun k_ hk => hk))))) (Reps.one (show Kd.FK (Kd.slice 5 (Kd.int .u8)) _ _ l1 [.slice A1 l1.length c1] from (Kd.FK_slice_mk (Kd.V_reads' (Kd.V_mono (ok' := (fun k_ => ((P0_ k_ ∨ P1_ k_) ∨ w.heap.size ≤ k_))) (HO1.out) (fun k_ hk => hk))).2.1 (Kd.V_F (Kd.V_mono (ok' := (fun k_ => ((P0_ k_ ∨ P1_ k_) ∨ w.heap.size ≤ k_))) (HO1.out) (fun k_ hk => hk))))) (Reps.none _ _)))); intro v348 w7 ho8 hb hg_ hnew_; clear hg_ hnew_; (first | rw [← Ny347.out] at ho8 | (simp only [Int.reduceToNat] at ho8; rw [← Ny347.out] at ho8)); have n0_ := Aside0.mk (Kd.V_elder' (Vu HO0) (Kd.N_base (by first | exact ho8 | exact Kd.S_N ho8)) hb); have n1_ := Aside0.mk (Kd.V_elder' (Vu HO1) (Kd.N_base (by first | exact ho8 | exact Kd.S_N ho8)) hb); have n2_ := Aside0.mk (Kd.V_elder' (Vu HO346) (Kd.N_base (by first | exact ho8 | exact Kd.S_N ho8)) hb); have n3_ := Aside0.mk (Kd.N_lower ho8 (Bz HB)); have n4_ := Bs HB hb; clear HO0 HO1 HO346 HB; revert n0_ n1_ n2_ n3_ n4_; intro HO0 HO1 HO346 HO349 HB; clear hb ho8; obtain ⟨Ao9, co9, eo9⟩ := Kd.N_slice HO349.out; subst eo9) | ((with_reducible refine gate_callee (f := 32) rfl ?_); refine goesA (some 23) Tryd.func32 #[.slice Ao9 y347.length co9] rfl ?_; (with_reducible refine (nat_long.calls _ _ y347 true _ ?side1 ?side2 A4.out).mono ?_); (case side1 => exact Cu (Kd.N_reads' HO349.out).2.2); (case side2 => exact (Kd.N_reads' HO349.out).2.1); rintro e w' ⟨rfl, ⟨nd, rfl⟩⟩; refine ⟨_, rfl, ?_⟩))
  go_ret2
  exact ⟨_, rfl_, by first | exact Kd.R_nil _ _ _ _ _ | exact Kd.N_nil _ _ _ _ _ | exact Kd.V_nil _ _ _ _ _ | exact Kd.Q_nil _ _ _ _ _ | exact Kd.S_nil _ _ _ _ _, Bu HB⟩
 ·replace c5 := Bool.eq_false_iff.mpr c5
  subst c5
  have H1 : ((nat_compare.f k t344 (([2] : List Int))).bind fun t354 => (if t354 < 0 then (some (([] : List Int), 2)) else ((nat_of.f k l0).bind fun t355 => ((nat_div.f k t355 t344).bind fun bt358 => ((nat_gcd.f k t344 bt358.2).bind fun t364 => ((nat_compare.f k t364 (([1] : List Int))).bind fun t370 => (if t370 = 0 then (nat_Inverse.l0 k t344 bt358.2 t344 (([] : List Int)) (([1] : List Int))) else (some (([] : List Int), 20))))))))) = some (r1, r2) := by rw [if_neg (show ¬ (false = true) by decide)] at H; exact H
  clear H
  have H := H1
  clear H1
  obtain ⟨y351, hy351⟩ : ∃ y_ : List Int, y_ = (([2] : List Int)) := ⟨_, rfl⟩
  replace H : ((nat_compare.f k t344 y351).bind fun t354 => (if t354 < 0 then (some (([] : List Int), 2)) else ((nat_of.f k l0).bind fun t355 => ((nat_div.f k t355 t344).bind fun bt358 => ((nat_gcd.f k t344 bt358.2).bind fun t364 => ((nat_compare.f k t364 (([1] : List Int))).bind fun t370 => (if t370 = 0 then (nat_Inverse.l0 k t344 bt358.2 t344 (([] : List Int)) (([1] : List Int))) else (some (([] : List Int), 20))))))))) = some (r1, r2) := by first | (rw [hy351]; with_reducible exact H) | (have H2_ := (Option.bind_some _ _).symm.trans H; rw [hy351]; with_reducible exact H2_) | (have H2_ := (Option.bind_some _ _).symm.trans H; with_reducible exact H2_) | with_reducible exact H | (rw [hy351]; exact H) | exact H
  have Ny351 := Aside0.mk hy351
  clear hy351
  replace H := Option.bind_eq_some_iff.mp H
  obtain ⟨t354, A100, H⟩ := H
  replace H : (if t354 < 0 then (some (([] : List Int), 2)) else ((nat_of.f k l0).bind fun t355 => ((nat_div.f k t355 t344).bind fun bt358 => ((nat_gcd.f k t344 bt358.2).bind fun t364 => ((nat_compare.f k t364 (([1] : List Int))).bind fun t370 => (if t370 = 0 then (nat_Inverse.l0 k t344 bt358.2 t344 (([] : List Int)) (([1] : List Int))) else (some (([] : List Int), 20)))))))) = some (r1, r2) := H
  have A10 := Aside0.mk A100
  clear A100
  by_cases c11 : t354 < 0
  ·rw [if_pos c11] at H
   have c11b0 : decide (t354 < 0) = true := decide_eq_true c11
   clear c11
   simp only [Option.some.injEq, Prod.mk.injEq] at H
   obtain ⟨rfl, rfl⟩ := H
   go_enter Tryd.func20, Tryd.ntmps20
   go_wp2_with (first | ((with_reducible refine gate_callee (f := 31) rfl ?_); refine goesA (some 18) Tryd.func31 #[.slice A1 l1.length c1] rfl ?_; (with_reducible refine (nat_of.calls k _ _ l1 t344 _ ?side1 ?side2 A3.out).mono ?_); (case side1 => exact Cu (Kd.V_reads' HO1.out).2.2); (case side2 => exact (Kd.V_reads' HO1.out).2.1); rintro e w12 ⟨v345, rfl, ho0, hb⟩; refine ⟨_, rfl, ?_⟩; have n0_ := Vb HO0 hb; have n1_ := Vb HO1 hb; have n2_ := Aside0.mk (Kd.V_lower (Kd.V_mono (ok' := fun k_ => ((P0_ k_ ∨ P1_ k_) ∨ w.heap.size ≤ k_)) ho0 (fun k_ hk_ => (.inr (Nat.le_trans (Bz HB) hk_)))) (Bz HB)); have n3_ := Bs HB hb; clear HO0 HO1 HB; revert n0_ n1_ n2_ n3_; intro HO0 HO1 HO346 HB; (try clear hb); (try clear hb2); (try clear hk); (try clear hi); (try clear ho0)) | ((with_reducible refine gate_dst (N := 22) rfl ?_); refine Kd.N_lit (Kd.slice 5 (Kd.int .u8)) _ 22 ?hg (N' := 22) ?hd (xs := ([l0, l1] : List (List Int))) (inner := [.slice A0 l0.length c0, .slice A1 l1.length c1]) (ok := (fun k_ => ((P0_ k_ ∨ P1_ k_) ∨ w.heap.size ≤ k_))) (okp := (fun k_ => ((P0_ k_ ∨ P1_ k_) ∨ w.heap.size ≤ k_))) ?hr ?hp (fun _ hk => hk) ((show ∀ k_, w12.heap.size ≤ k_ → (fun k_ => ((P0_ k_ ∨ P1_ k_) ∨ w.heap.size ≤ k_)) k_ from fun k_ hk => (.inr (Nat.le_trans (Bz HB) hk))) _ (Nat.le_refl _)) (Below.refl _ _) (Nat.le_refl _) (by simp) ?_; (case hd => rfl); (case hg => rfl); (case hr => first | (go_simp; done) | (go_simp; rfl)); (case hp => exact (Reps.one (show Kd.FK (Kd.slice 5 (Kd.int .u8)) _ _ l0 [.slice A0 l0.length c0] from (Kd.FK_slice_mk (Kd.V_reads' (Kd.V_mono (ok' := (fun k_ => ((P0_ k_ ∨ P1_ k_) ∨ w.heap.size ≤ k_))) (HO0.out) (fun k_ hk => hk))).2.1 (Kd.V_F (Kd.V_mono (ok' := (fun k_ => ((P0_ k_ ∨ P1_ k_) ∨ w.heap.size ≤ k_))) (HO0.out) (fun k_ hk => hk))))) (Reps.one (show Kd.FK (Kd.slice 5 (Kd.int .u8)) _ _ l1 [.slice A1 l1.length c1] from (Kd.FK_slice_mk (Kd.V_reads' (Kd.V_mono (ok' := (fun k_ => ((P0_ k_ ∨ P1_ k_) ∨ w.heap.size ≤ k_))) (HO1.out) (fun k_ hk => hk))).2.1 (Kd.V_F (Kd.V_mono (ok' := (fun k_ => ((P0_ k_ ∨ P1_ k_) ∨ w.heap.size ≤ k_))) (HO1.out) (fun k_ hk => hk))))) (Reps.none _ _)))); intro v348 w13 ho14 hb hg_ hnew_; clear hg_ hnew_; (first | rw [← Ny347.out] at ho14 | (simp only [Int.reduceToNat] at ho14; rw [← Ny347.out] at ho14)); have n0_ := Aside0.mk (Kd.V_elder' (Vu HO0) (Kd.N_base (by first | exact ho14 | exact Kd.S_N ho14)) hb); have n1_ := Aside0.mk (Kd.V_elder' (Vu HO1) (Kd.N_base (by first | exact ho14 | exact Kd.S_N ho14)) hb); have n2_ := Aside0.mk (Kd.V_elder' (Vu HO346) (Kd.N_base (by first | exact ho14 | exact Kd.S_N ho14)) hb); have n3_ := Aside0.mk (Kd.N_lower ho14 (Bz HB)); have n4_ := Bs HB hb; clear HO0 HO1 HO346 HB; revert n0_ n1_ n2_ n3_ n4_; intro HO0 HO1 HO346 HO349 HB; clear hb ho14; obtain ⟨Ao15, co15, eo15⟩ := Kd.N_slice HO349.out; subst eo15) | ((with_reducible refine gate_callee (f := 32) rfl ?_); refine goesA (some 23) Tryd.func32 #[.slice Ao15 y347.length co15] rfl ?_; (with_reducible refine (nat_long.calls _ _ y347 false _ ?side1 ?side2 A4.out).mono ?_); (case side1 => exact Cu (Kd.N_reads' HO349.out).2.2); (case side2 => exact (Kd.N_reads' HO349.out).2.1); rintro e w' ⟨rfl, ⟨nd, rfl⟩⟩; refine ⟨_, rfl, ?_⟩) | ((with_reducible refine gate_dst (N := 26) rfl ?_); refine litI .u32 55 26 [2] [.int .u32 2] ?hr ?_; (case hr => first | (go_simp; done) | (go_simp; rfl)); intro v352 w16 ho17 hb; (first | rw [← Ny351.out] at ho17 | (simp only [Int.reduceToNat] at ho17; rw [← Ny351.out] at ho17)); have n0_ := Ve HO0 (Kd.R_base ho17) hb; have n1_ := Ve HO1 (Kd.R_base ho17) hb; have n2_ := Ve HO346 (Kd.R_base ho17) hb; have n3_ := Ne HO349 (Kd.R_base ho17) hb; have n4_ := Aside0.mk (Kd.R_lower (Kd.R_newM (M := fun k_ => (w.heap.size ≤ k_)) ho17 (Bz HB) (fun k_ h_ => h_)) (Bz HB)); have n5_ := Bs HB hb; clear HO0 HO1 HO346 HO349 HB; revert n0_ n1_ n2_ n3_ n4_ n5_; intro HO0 HO1 HO346 HO349 HO353 HB; clear hb ho17; obtain ⟨Ao18, co18, eo18⟩ := Kd.V_slice HO346.out; subst eo18; obtain ⟨Ao19, co19, eo19⟩ := Kd.R_slice HO353.out; subst eo19) | ((with_reducible refine gate_callee (f := 38) rfl ?_); refine goesA (some 27) Tryd.func38 #[.slice Ao18 t344.length co18, .slice Ao19 y351.length co19] rfl ?_; (with_reducible refine (nat_compare.calls k _ _ t344 _ _ y351 t354 _ ?side1 ?side2 ?side3 ?side4 A10.out).mono ?_); (case side1 => exact Cu (Kd.V_reads' HO346.out).2.2); (case side2 => exact (Kd.V_reads' HO346.out).2.1); (case side3 => exact Cu (Kd.R_reads' HO353.out).2.2); (case side4 => exact (Kd.R_reads' HO353.out).2.1); rintro e w' ⟨rfl, ⟨nd, rfl⟩⟩; refine ⟨_, rfl, ?_⟩))
   go_ret2
   exact ⟨_, rfl_, by first | exact Kd.R_nil _ _ _ _ _ | exact Kd.N_nil _ _ _ _ _ | exact Kd.V_nil _ _ _ _ _ | exact Kd.Q_nil _ _ _ _ _ | exact Kd.S_nil _ _ _ _ _, Bu HB⟩
  ·rw [if_neg c11] at H
   have c11b0 : decide (t354 < 0) = false := decide_eq_false c11
   clear c11
   replace H := Option.bind_eq_some_iff.mp H
   obtain ⟨t355, A200, H⟩ := H
   replace H : ((nat_div.f k t355 t344).bind fun bt358 => ((nat_gcd.f k t344 bt358.2).bind fun t364 => ((nat_compare.f k t364 (([1] : List Int))).bind fun t370 => (if t370 = 0 then (nat_Inverse.l0 k t344 bt358.2 t344 (([] : List Int)) (([1] : List Int))) else (some (([] : List Int), 20)))))) = some (r1, r2) := H
   have A20 := Aside0.mk A200
   clear A200
   replace H := Option.bind_eq_some_iff.mp H
   obtain ⟨⟨t358, t361⟩, A210, H⟩ := H
   replace H : ((nat_gcd.f k t344 t361).bind fun t364 => ((nat_compare.f k t364 (([1] : List Int))).bind fun t370 => (if t370 = 0 then (nat_Inverse.l0 k t344 t361 t344 (([] : List Int)) (([1] : List Int))) else (some (([] : List Int), 20))))) = some (r1, r2) := H
   have A21 := Aside0.mk A210
   clear A210
   replace H := Option.bind_eq_some_iff.mp H
   obtain ⟨t364, A220, H⟩ := H
   replace H : ((nat_compare.f k t364 (([1] : List Int))).bind fun t370 => (if t370 = 0 then (nat_Inverse.l0 k t344 t361 t344 (([] : List Int)) (([1] : List Int))) else (some (([] : List Int), 20)))) = some (r1, r2) := H
   have A22 := Aside0.mk A220
   clear A220
   obtain ⟨y367, hy367⟩ : ∃ y_ : List Int, y_ = (([1] : List Int)) := ⟨_, rfl⟩
   replace H : ((nat_compare.f k t364 y367).bind fun t370 => (if t370 = 0 then (nat_Inverse.l0 k t344 t361 t344 (([] : List Int)) (([1] : List Int))) else (some (([] : List Int), 20)))) = some (r1, r2) := by first | (rw [hy367]; with_reducible exact H) | (have H2_ := (Option.bind_some _ _).symm.trans H; rw [hy367]; with_reducible exact H2_) | (have H2_ := (Option.bind_some _ _).symm.trans H; with_reducible exact H2_) | with_reducible exact H | (rw [hy367]; exact H) | exact H
   have Ny367 := Aside0.mk hy367
   clear hy367
   replace H := Option.bind_eq_some_iff.mp H
   obtain ⟨t370, A230, H⟩ := H
   replace H : (if t370 = 0 then (nat_Inverse.l0 k t344 t361 t344 (([] : List Int)) (([1] : List Int))) else (some (([] : List Int), 20))) = some (r1, r2) := H
   have A23 := Aside0.mk A230
   clear A230
   by_cases c24 : t370 = 0
   ·rw [if_pos c24] at H
    have c24b0 : (t370 == 0) = true := beq_iff_eq.mpr c24
    have c24b1 : (t370 != 0) = false := bne_eq_false_iff_eq.mpr c24
    clear c24
    obtain ⟨y371, hy371⟩ : ∃ y_ : List Int, y_ = (([] : List Int)) := ⟨_, rfl⟩
    replace H : (nat_Inverse.l0 k t344 t361 t344 y371 (([1] : List Int))) = some (r1, r2) := by first | (rw [hy371]; with_reducible exact H) | (have H2_ := (Option.bind_some _ _).symm.trans H; rw [hy371]; with_reducible exact H2_) | (have H2_ := (Option.bind_some _ _).symm.trans H; with_reducible exact H2_) | with_reducible exact H | (rw [hy371]; exact H) | exact H
    have Ny371 := Aside0.mk hy371
    clear hy371
    obtain ⟨y374, hy374⟩ : ∃ y_ : List Int, y_ = (([1] : List Int)) := ⟨_, rfl⟩
    replace H : (nat_Inverse.l0 k t344 t361 t344 y371 y374) = some (r1, r2) := by first | (rw [hy374]; with_reducible exact H) | (have H2_ := (Option.bind_some _ _).symm.trans H; rw [hy374]; with_reducible exact H2_) | (have H2_ := (Option.bind_some _ _).symm.trans H; with_reducible exact H2_) | with_reducible exact H | (rw [hy374]; exact H) | exact H
    have Ny374 := Aside0.mk hy374
    clear hy374
    have H' := Aside0.mk H
    clear H
    go_enter Tryd.func20, Tryd.ntmps20
    go_wp2_with (first | ((with_reducible refine gate_callee (f := 31) rfl ?_); refine goesA (some 18) Tryd.func31 #[.slice A1 l1.length c1] rfl ?_; (with_reducible refine (nat_of.calls k _ _ l1 t344 _ ?side1 ?side2 A3.out).mono ?_); (case side1 => exact Cu (Kd.V_reads' HO1.out).2.2); (case side2 => exact (Kd.V_reads' HO1.out).2.1); rintro e w25 ⟨v345, rfl, ho0, hb⟩; refine ⟨_, rfl, ?_⟩; have n0_ := Vb HO0 hb; have n1_ := Vb HO1 hb; have n2_ := Aside0.mk (Kd.V_lower (Kd.V_mono (ok' := fun k_ => ((P0_ k_ ∨ P1_ k_) ∨ w.heap.size ≤ k_)) ho0 (fun k_ hk_ => (.inr (Nat.le_trans (Bz HB) hk_)))) (Bz HB)); have n3_ := Bs HB hb; clear HO0 HO1 HB; revert n0_ n1_ n2_ n3_; intro HO0 HO1 HO346 HB; (try clear hb); (try clear hb2); (try clear hk); (try clear hi); (try clear ho0)) | ((with_reducible refine gate_dst (N := 22) rfl ?_); refine Kd.N_lit (Kd.slice 5 (Kd.int .u8)) _ 22 ?hg (N' := 22) ?hd (xs := ([l0, l1] : List (List Int))) (inner := [.slice A0 l0.length c0, .slice A1 l1.length c1]) (ok := (fun k_ => ((P0_ k_ ∨ P1_ k_) ∨ w.heap.size ≤ k_))) (okp := (fun k_ => ((P0_ k_ ∨ P1_ k_) ∨ w.heap.size ≤ k_))) ?hr ?hp (fun _ hk => hk) ((show ∀ k_, w25.heap.size ≤ k_ → (fun k_ => ((P0_ k_ ∨ P1_ k_) ∨ w.heap.size ≤ k_)) k_ from fun k_ hk => (.inr (Nat.le_trans (Bz HB) hk))) _ (Nat.le_refl _)) (Below.refl _ _) (Nat.le_refl _) (by simp) ?_; (case hd => rfl); (case hg => rfl); (case hr => first | (go_simp; done) | (go_simp; rfl)); (case hp => exact (Reps.one (show Kd.FK (Kd.slice 5 (Kd.int .u8)) _ _ l0 [.slice A0 l0.length c0] from (Kd.FK_slice_mk (Kd.V_reads' (Kd.V_mono (ok' := (fun k_ => ((P0_ k_ ∨ P1_ k_) ∨ w.heap.size ≤ k_))) (HO0.out) (fun k_ hk => hk))).2.1 (Kd.V_F (Kd.V_mono (ok' := (fun k_ => ((P0_ k_ ∨ P1_ k_) ∨ w.heap.size ≤ k_))) (HO0.out) (fun k_ hk => hk))))) (Reps.one (show Kd.FK (Kd.slice 5 (Kd.int .u8)) _ _ l1 [.slice A1 l1.length c1] from (Kd.FK_slice_mk (Kd.V_reads' (Kd.V_mono (ok' := (fun k_ => ((P0_ k_ ∨ P1_ k_) ∨ w.heap.size ≤ k_))) (HO1.out) (fun k_ hk => hk))).2.1 (Kd.V_F (Kd.V_mono (ok' := (fun k_ => ((P0_ k_ ∨ P1_ k_) ∨ w.heap.size ≤ k_))) (HO1.out) (fun k_ hk => hk))))) (Reps.none _ _)))); intro v348 w26 ho27 hb hg_ hnew_; clear hg_ hnew_; (first | rw [← Ny347.out] at ho27 | (simp only [Int.reduceToNat] at ho27; rw [← Ny347.out] at ho27)); have n0_ := Aside0.mk (Kd.V_elder' (Vu HO0) (Kd.N_base (by first | exact ho27 | exact Kd.S_N ho27)) hb); have n1_ := Aside0.mk (Kd.V_elder' (Vu HO1) (Kd.N_base (by first | exact ho27 | exact Kd.S_N ho27)) hb); have n2_ := Aside0.mk (Kd.V_elder' (Vu HO346) (Kd.N_base (by first | exact ho27 | exact Kd.S_N ho27)) hb); have n3_ := Aside0.mk (Kd.N_lower ho27 (Bz HB)); have n4_ := Bs HB hb; clear HO0 HO1 HO346 HB; revert n0_ n1_ n2_ n3_ n4_; intro HO0 HO1 HO346 HO349 HB; clear hb ho27; obtain ⟨Ao28, co28, eo28⟩ := Kd.N_slice HO349.out; subst eo28) | ((with_reducible refine gate_callee (f := 32) rfl ?_); refine goesA (some 23) Tryd.func32 #[.slice Ao28 y347.length co28] rfl ?_; (with_reducible refine (nat_long.calls _ _ y347 false _ ?side1 ?side2 A4.out).mono ?_); (case side1 => exact Cu (Kd.N_reads' HO349.out).2.2); (case side2 => exact (Kd.N_reads' HO349.out).2.1); rintro e w' ⟨rfl, ⟨nd, rfl⟩⟩; refine ⟨_, rfl, ?_⟩) | ((with_reducible refine gate_dst (N := 26) rfl ?_); refine litI .u32 55 26 [2] [.int .u32 2] ?hr ?_; (case hr => first | (go_simp; done) | (go_simp; rfl)); intro v352 w29 ho30 hb; (first | rw [← Ny351.out] at ho30 | (simp only [Int.reduceToNat] at ho30; rw [← Ny351.out] at ho30)); have n0_ := Ve HO0 (Kd.R_base ho30) hb; have n1_ := Ve HO1 (Kd.R_base ho30) hb; have n2_ := Ve HO346 (Kd.R_base ho30) hb; have n3_ := Ne HO349 (Kd.R_base ho30) hb; have n4_ := Aside0.mk (Kd.R_lower (Kd.R_newM (M := fun k_ => (w.heap.size ≤ k_)) ho30 (Bz HB) (fun k_ h_ => h_)) (Bz HB)); have n5_ := Bs HB hb; clear HO0 HO1 HO346 HO349 HB; revert n0_ n1_ n2_ n3_ n4_ n5_; intro HO0 HO1 HO346 HO349 HO353 HB; clear hb ho30; obtain ⟨Ao31, co31, eo31⟩ := Kd.V_slice HO346.out; subst eo31; obtain ⟨Ao32, co32, eo32⟩ := Kd.R_slice HO353.out; subst eo32) | ((with_reducible refine gate_callee (f := 38) rfl ?_); refine goesA (some 27) Tryd.func38 #[.slice Ao31 t344.length co31, .slice Ao32 y351.length co32] rfl ?_; (with_reducible refine (nat_compare.calls k _ _ t344 _ _ y351 t354 _ ?side1 ?side2 ?side3 ?side4 A10.out).mono ?_); (case side1 => exact Cu (Kd.V_reads' HO346.out).2.2); (case side2 => exact (Kd.V_reads' HO346.out).2.1); (case side3 => exact Cu (Kd.R_reads' HO353.out).2.2); (case side4 => exact (Kd.R_reads' HO353.out).2.1); rintro e w' ⟨rfl, ⟨nd, rfl⟩⟩; refine ⟨_, rfl, ?_⟩) | ((with_reducible refine gate_callee (f := 31) rfl ?_); refine goesA (some 31) Tryd.func31 #[.slice A0 l0.length c0] rfl ?_; (with_reducible refine (nat_of.calls k _ _ l0 t355 _ ?side1 ?side2 A20.out).mono ?_); (case side1 => exact Cu (Kd.V_reads' HO0.out).2.2); (case side2 => exact (Kd.V_reads' HO0.out).2.1); rintro e w33 ⟨v356, rfl, ho0, hb⟩; refine ⟨_, rfl, ?_⟩; have n0_ := Vb HO0 hb; have n1_ := Vb HO1 hb; have n2_ := Vb HO346 hb; have n3_ := Nb HO349 hb; have n4_ := Rb HO353 hb; have n5_ := Aside0.mk (Kd.V_lower (Kd.V_mono (ok' := fun k_ => ((P0_ k_ ∨ P1_ k_) ∨ w.heap.size ≤ k_) ∧ some k_ ≠ (.slice Ao28 y347.length co28 : Value).ownBlock ∧ some k_ ≠ (.slice Ao32 y351.length co32 : Value).ownBlock) ho0 (fun k_ hk_ => ⟨(.inr (Nat.le_trans (Bz HB) hk_)), (Kd.fresh' (Kd.N_lt (Nu HO349)) k_ hk_), (Kd.fresh' (Kd.R_lt (Ru HO353)) k_ hk_)⟩)) (Bz HB)); have n6_ := Bs HB hb; clear HO0 HO1 HO346 HO349 HO353 HB; revert n0_ n1_ n2_ n3_ n4_ n5_ n6_; intro HO0 HO1 HO346 HO349 HO353 HO357 HB; (try clear hb); (try clear hb2); (try clear hk); (try clear hi); (try clear ho0); obtain ⟨Ao34, co34, eo34⟩ := Kd.V_slice HO357.out; subst eo34) | ((with_reducible refine gate_callee (f := 33) rfl ?_); refine goesA (some 33) Tryd.func33 #[.slice Ao34 t355.length co34, .slice Ao31 t344.length co31] rfl ?_; (with_reducible refine (nat_div.calls k (fun k_ => (((P0_ k_ ∨ P1_ k_) ∨ w.heap.size ≤ k_) ∧ (some k_ ≠ (.slice Ao28 y347.length co28 : Value).ownBlock ∧ some k_ ≠ (.slice Ao32 y351.length co32 : Value).ownBlock))) _ _ t355 _ _ t344 t358 t361 _ ?side1 ?side2 ?side3 A21.out).mono ?_); (case side1 => exact HO357.out); (case side2 => exact Cu (Kd.V_reads' HO346.out).2.2); (case side3 => exact (Kd.V_reads' HO346.out).2.1); rintro e w35 ⟨v359, v362, rfl, ho0, ho1, hb⟩; refine ⟨_, rfl, ?_⟩; have n0_ := Vb HO0 hb; have n1_ := Vb HO1 hb; have n2_ := Vb HO346 hb; have n3_ := Nb HO349 hb; have n4_ := Rb HO353 hb; have n5_ := Vb HO357 hb; have n6_ := Aside0.mk (Kd.V_lower (Kd.V_mono (ok' := fun k_ => ((P0_ k_ ∨ P1_ k_) ∨ w.heap.size ≤ k_) ∧ some k_ ≠ (.slice Ao28 y347.length co28 : Value).ownBlock ∧ some k_ ≠ (.slice Ao32 y351.length co32 : Value).ownBlock) ho0 (fun k_ hk_ => ⟨Or.elim hk_ (fun hs_ => hs_.1) (fun hn_ => (.inr (Nat.le_trans (Bz HB) hn_))), Or.elim hk_ (fun hs_ => hs_.2.1) (fun hn_ => (Kd.fresh' (Kd.N_lt (Nu HO349)) k_ hn_)), Or.elim hk_ (fun hs_ => hs_.2.2) (fun hn_ => (Kd.fresh' (Kd.R_lt (Ru HO353)) k_ hn_))⟩)) (Bz HB)); have n7_ := Aside0.mk (Kd.V_lower (Kd.V_mono (ok' := fun k_ => ((P0_ k_ ∨ P1_ k_) ∨ w.heap.size ≤ k_) ∧ some k_ ≠ (.slice Ao28 y347.length co28 : Value).ownBlock ∧ some k_ ≠ (.slice Ao32 y351.length co32 : Value).ownBlock) ho1 (fun k_ hk_ => ⟨Or.elim hk_ (fun hs_ => hs_.1) (fun hn_ => (.inr (Nat.le_trans (Bz HB) hn_))), Or.elim hk_ (fun hs_ => hs_.2.1) (fun hn_ => (Kd.fresh' (Kd.N_lt (Nu HO349)) k_ hn_)), Or.elim hk_ (fun hs_ => hs_.2.2) (fun hn_ => (Kd.fresh' (Kd.R_lt (Ru HO353)) k_ hn_))⟩)) (Bz HB)); have n8_ := Bs HB hb; clear HO0 HO1 HO346 HO349 HO353 HO357 HB; revert n0_ n1_ n2_ n3_ n4_ n5_ n6_ n7_ n8_; intro HO0 HO1 HO346 HO349 HO353 HO357 HO360 HO363 HB; (try clear hb); (try clear hb2); (try clear hk); (try clear hi); (try clear ho0); (try clear ho1); obtain ⟨Ao36, co36, eo36⟩ := Kd.V_slice HO363.out; subst eo36) | ((with_reducible refine gate_callee (f := 37) rfl ?_); refine goesA (some 38) Tryd.func37 #[.slice Ao31 t344.length co31, .slice Ao36 t361.length co36] rfl ?_; (with_reducible refine (nat_gcd.calls k (fun k_ => ((((P0_ k_ ∨ P1_ k_) ∨ w.heap.size ≤ k_) ∧ some k_ ≠ (.slice Ao28 y347.length co28 : Value).ownBlock) ∧ some k_ ≠ (.slice Ao32 y351.length co32 : Value).ownBlock)) _ _ t344 (fun k_ => (((P0_ k_ ∨ P1_ k_) ∨ w.heap.size ≤ k_) ∧ (some k_ ≠ (.slice Ao28 y347.length co28 : Value).ownBlock ∧ some k_ ≠ (.slice Ao32 y351.length co32 : Value).ownBlock))) _ _ t361 t364 _ ?side1 ?side2 A22.out).mono ?_); (case side1 => exact HO346.out); (case side2 => exact HO363.out); rintro e w37 ⟨v365, rfl, ho0, hb⟩; refine ⟨_, rfl, ?_⟩; have n0_ := Vb HO0 hb; have n1_ := Vb HO1 hb; have n2_ := Vb HO346 hb; have n3_ := Nb HO349 hb; have n4_ := Rb HO353 hb; have n5_ := Vb HO357 hb; have n6_ := Vb HO360 hb; have n7_ := Vb HO363 hb; have n8_ := Aside0.mk (Kd.V_lower (Kd.V_mono (ok' := fun k_ => ((P0_ k_ ∨ P1_ k_) ∨ w.heap.size ≤ k_) ∧ some k_ ≠ (.slice Ao28 y347.length co28 : Value).ownBlock ∧ some k_ ≠ (.slice Ao32 y351.length co32 : Value).ownBlock) ho0 (fun k_ hk_ => ⟨Or.elim hk_ (fun hs_ => Or.elim hs_ (fun hs_ => hs_.1.1) (fun hs_ => hs_.1)) (fun hn_ => (.inr (Nat.le_trans (Bz HB) hn_))), Or.elim hk_ (fun hs_ => Or.elim hs_ (fun hs_ => hs_.1.2) (fun hs_ => hs_.2.1)) (fun hn_ => (Kd.fresh' (Kd.N_lt (Nu HO349)) k_ hn_)), Or.elim hk_ (fun hs_ => Or.elim hs_ (fun hs_ => hs_.2) (fun hs_ => hs_.2.2)) (fun hn_ => (Kd.fresh' (Kd.R_lt (Ru HO353)) k_ hn_))⟩)) (Bz HB)); have n9_ := Bs HB hb; clear HO0 HO1 HO346 HO349 HO353 HO357 HO360 HO363 HB; revert n0_ n1_ n2_ n3_ n4_ n5_ n6_ n7_ n8_ n9_; intro HO0 HO1 HO346 HO349 HO353 HO357 HO360 HO363 HO366 HB; (try clear hb); (try clear hb2); (try clear hk); (try clear hi); (try clear ho0)) | ((with_reducible refine gate_dst (N := 39) rfl ?_); refine litI .u32 55 39 [1] [.int .u32 1] ?hr ?_; (case hr => first | (go_simp; done) | (go_simp; rfl)); intro v368 w38 ho39 hb; (first | rw [← Ny367.out] at ho39 | (simp only [Int.reduceToNat] at ho39; rw [← Ny367.out] at ho39)); have n0_ := Ve HO0 (Kd.R_base ho39) hb; have n1_ := Ve HO1 (Kd.R_base ho39) hb; have n2_ := Ve HO346 (Kd.R_base ho39) hb; have n3_ := Ne HO349 (Kd.R_base ho39) hb; have n4_ := Re HO353 (Kd.R_base ho39) hb; have n5_ := Ve HO357 (Kd.R_base ho39) hb; have n6_ := Ve HO360 (Kd.R_base ho39) hb; have n7_ := Ve HO363 (Kd.R_base ho39) hb; have n8_ := Ve HO366 (Kd.R_base ho39) hb; have n9_ := Aside0.mk (Kd.R_lower (Kd.R_new' (Kd.R_newM (M := fun k_ => (w.heap.size ≤ k_)) ho39 (Bz HB) (fun k_ h_ => h_)) (Kd.R_lt (Ru HO353))) (Bz HB)); have n10_ := Bs HB hb; clear HO0 HO1 HO346 HO349 HO353 HO357 HO360 HO363 HO366 HB; revert n0_ n1_ n2_ n3_ n4_ n5_ n6_ n7_ n8_ n9_ n10_; intro HO0 HO1 HO346 HO349 HO353 HO357 HO360 HO363 HO366 HO369 HB; clear hb ho39; obtain ⟨Ao40, co40, eo40⟩ := Kd.V_slice HO366.out; subst eo40; obtain ⟨Ao41, co41, eo41⟩ := Kd.R_slice HO369.out; subst eo41) | ((with_reducible refine gate_callee (f := 38) rfl ?_); refine goesA (some 40) Tryd.func38 #[.slice Ao40 t364.length co40, .slice Ao41 y367.length co41] rfl ?_; (with_reducible refine (nat_compare.calls k _ _ t364 _ _ y367 t370 _ ?side1 ?side2 ?side3 ?side4 A23.out).mono ?_); (case side1 => exact Cu (Kd.V_reads' HO366.out).2.2); (case side2 => exact (Kd.V_reads' HO366.out).2.1); (case side3 => exact Cu (Kd.R_reads' HO369.out).2.2); (case side4 => exact (Kd.R_reads' HO369.out).2.1); rintro e w' ⟨rfl, ⟨nd, rfl⟩⟩; refine ⟨_, rfl, ?_⟩) | ((with_reducible refine gate_dst (N := 43) rfl ?_); refine litI .u32 55 43 [] [] ?hr ?_; (case hr => first | (go_simp; done) | (go_simp; rfl)); intro v372 w42 ho43 hb; (first | rw [← Ny371.out] at ho43 | (simp only [Int.reduceToNat] at ho43; rw [← Ny371.out] at ho43)); have n0_ := Ve HO0 (Kd.R_base ho43) hb; have n1_ := Ve HO1 (Kd.R_base ho43) hb; have n2_ := Ve HO346 (Kd.R_base ho43) hb; have n3_ := Ne HO349 (Kd.R_base ho43) hb; have n4_ := Re HO353 (Kd.R_base ho43) hb; have n5_ := Ve HO357 (Kd.R_base ho43) hb; have n6_ := Ve HO360 (Kd.R_base ho43) hb; have n7_ := Ve HO363 (Kd.R_base ho43) hb; have n8_ := Ve HO366 (Kd.R_base ho43) hb; have n9_ := Re HO369 (Kd.R_base ho43) hb; have n10_ := Aside0.mk (Kd.R_lower (Kd.R_new' (Kd.R_new' (Kd.R_newM (M := fun k_ => (w.heap.size ≤ k_)) ho43 (Bz HB) (fun k_ h_ => h_)) (Kd.R_lt (Ru HO353))) (Kd.R_lt (Ru HO369))) (Bz HB)); have n11_ := Bs HB hb; clear HO0 HO1 HO346 HO349 HO353 HO357 HO360 HO363 HO366 HO369 HB; revert n0_ n1_ n2_ n3_ n4_ n5_ n6_ n7_ n8_ n9_ n10_ n11_; intro HO0 HO1 HO346 HO349 HO353 HO357 HO360 HO363 HO366 HO369 HO373 HB; clear hb ho43) | ((with_reducible refine gate_dst (N := 44) rfl ?_); refine litI .u32 55 44 [1] [.int .u32 1] ?hr ?_; (case hr => first | (go_simp; done) | (go_simp; rfl)); intro v375 w44 ho45 hb; (first | rw [← Ny374.out] at ho45 | (simp only [Int.reduceToNat] at ho45; rw [← Ny374.out] at ho45)); have n0_ := Ve HO0 (Kd.R_base ho45) hb; have n1_ := Ve HO1 (Kd.R_base ho45) hb; have n2_ := Ve HO346 (Kd.R_base ho45) hb; have n3_ := Ne HO349 (Kd.R_base ho45) hb; have n4_ := Re HO353 (Kd.R_base ho45) hb; have n5_ := Ve HO357 (Kd.R_base ho45) hb; have n6_ := Ve HO360 (Kd.R_base ho45) hb; have n7_ := Ve HO363 (Kd.R_base ho45) hb; have n8_ := Ve HO366 (Kd.R_base ho45) hb; have n9_ := Re HO369 (Kd.R_base ho45) hb; have n10_ := Re HO373 (Kd.R_base ho45) hb; have n11_ := Aside0.mk (Kd.R_lower (Kd.R_new' (Kd.R_new' (Kd.R_new' (Kd.R_newM (M := fun k_ => (w.heap.size ≤ k_)) ho45 (Bz HB) (fun k_ h_ => h_)) (Kd.R_lt (Ru HO353))) (Kd.R_lt (Ru HO369))) (Kd.R_lt (Ru HO373))) (Bz HB)); have n12_ := Bs HB hb; clear HO0 HO1 HO346 HO349 HO353 HO357 HO360 HO363 HO366 HO369 HO373 HB; revert n0_ n1_ n2_ n3_ n4_ n5_ n6_ n7_ n8_ n9_ n10_ n11_ n12_; intro HO0 HO1 HO346 HO349 HO353 HO357 HO360 HO363 HO366 HO369 HO373 HO376 HB; clear hb ho45))
    go_loopg [8, 9, 10, 11] k (fun kq v8 v9 v10 v11 w' => ∃ (x8_1 : List Int) (x9_1 : List Int) (x10_1 : List Int) (x11_1 : List Int), Aside0 (nat_Inverse.l0 kq t344 x8_1 x9_1 x10_1 x11_1 = some (r1, r2)) ∧ Aside0 (kq ≤ k) ∧ Aside0 (Kd.V (Kd.int .u32) 55 w' w.heap.size (fun k_ => ((P0_ k_ ∨ P1_ k_) ∨ w.heap.size ≤ k_)) (.slice Ao31 t344.length co31) t344) ∧ Aside0 (Kd.V (Kd.int .u32) 55 w' w.heap.size (fun k_ => ((P0_ k_ ∨ P1_ k_) ∨ w.heap.size ≤ k_)) v8 x8_1) ∧ Aside0 (Kd.V (Kd.int .u32) 55 w' w.heap.size (fun k_ => ((P0_ k_ ∨ P1_ k_) ∨ w.heap.size ≤ k_)) v9 x9_1) ∧ Aside0 (Kd.V (Kd.int .u32) 55 w' w.heap.size (fun k_ => ((P0_ k_ ∨ P1_ k_) ∨ w.heap.size ≤ k_)) v10 x10_1) ∧ Aside0 (Kd.V (Kd.int .u32) 55 w' w.heap.size (fun k_ => ((P0_ k_ ∨ P1_ k_) ∨ w.heap.size ≤ k_)) v11 x11_1) ∧ Aside0 (Below w.heap.size w w'))
    case atStart => exact ⟨(t361), (t344), (y371), (y374), H', ⟨Nat.le_refl _⟩, ⟨by (with_reducible repeat (first | apply Kd.V_alloc | apply Kd.V_drewN | apply Kd.V_drew)); exact Kd.V_mono HO346.out (fun _ hk => hk.1.1.1.1.1)⟩, ⟨by (with_reducible repeat (first | apply Kd.V_alloc | apply Kd.V_drewN | apply Kd.V_drew)); exact Kd.V_mono HO363.out (fun _ hk => hk.1.1.1.1)⟩, ⟨by (with_reducible repeat (first | apply Kd.V_alloc | apply Kd.V_drewN | apply Kd.V_drew)); exact Kd.V_mono HO346.out (fun _ hk => hk.1.1.1.1.1)⟩, ⟨Kd.V_mono (Kd.R_V (by (with_reducible repeat (first | apply Kd.R_alloc | apply Kd.R_drewN | apply Kd.R_drew)); exact Kd.R_mono HO373.out (fun _ hk => hk.1.1.1.1))) (fun k_ hk => by first | exact ⟨(.inr (hk.1)), hk.2⟩ | exact (.inr (hk)))⟩, ⟨Kd.V_mono (Kd.R_V (by (with_reducible repeat (first | apply Kd.R_alloc | apply Kd.R_drewN | apply Kd.R_drew)); exact Kd.R_mono HO376.out (fun _ hk => hk.1.1.1.1))) (fun k_ hk => by first | exact ⟨(.inr (hk.1)), hk.2⟩ | exact (.inr (hk)))⟩, ⟨Bu HB⟩⟩
    case round =>
     clear H'
     try clear c1
     try clear c2
     try clear p2
     try clear c3
     try clear c5
     try clear c11
     try clear c11b0
     try clear c20
     try clear c24
     try clear c24b0
     try clear c24b1
     try clear c31
     try clear c32
     try clear c33
     try clear c37
     try clear c38
     obtain ⟨x8_1, x9_1, x10_1, x11_1, HA, HK1, HO_6, HO_8, HO_9, HO_10, HO_11, HB⟩ := hrel
     cases gk with
     | zero => exact absurd HA.out (by simp [nat_Inverse.l0])
     | succ k1 =>
      have H := HA.out
      clear HA
      simp only [nat_Inverse.l0] at H
      by_cases c46 : (x8_1.length : Int) > 0
      ·rw [if_pos c46] at H
       have c46b0 : decide (0 < (x8_1.length : Int)) = true := decide_eq_true c46
       have c46b1 : decide (0 < x8_1.length) = true := decide_eq_true (by omega)
       clear c46
       replace H := Option.bind_eq_some_iff.mp H
       obtain ⟨⟨t380, t383⟩, A470, H⟩ := H
       replace H : ((nat_mul.f k1 t380 x11_1).bind fun t386 => ((nat_div.f k1 t386 t344).bind fun bt389 => ((nat_compare.f k1 x10_1 bt389.2).bind fun t395 => (if t395 < 0 then ((nat_add.f k1 x10_1 t344).bind fun t396 => ((nat_sub.f k1 t396 bt389.2).bind fun t399 => (nat_Inverse.l0 k1 t344 t383 x8_1 x11_1 t399))) else ((nat_sub.f k1 x10_1 bt389.2).bind fun t402 => (nat_Inverse.l0 k1 t344 t383 x8_1 x11_1 t402)))))) = some (r1, r2) := H
       have A47 := Aside0.mk A470
       clear A470
       replace H := Option.bind_eq_some_iff.mp H
       obtain ⟨t386, A480, H⟩ := H
       replace H : ((nat_div.f k1 t386 t344).bind fun bt389 => ((nat_compare.f k1 x10_1 bt389.2).bind fun t395 => (if t395 < 0 then ((nat_add.f k1 x10_1 t344).bind fun t396 => ((nat_sub.f k1 t396 bt389.2).bind fun t399 => (nat_Inverse.l0 k1 t344 t383 x8_1 x11_1 t399))) else ((nat_sub.f k1 x10_1 bt389.2).bind fun t402 => (nat_Inverse.l0 k1 t344 t383 x8_1 x11_1 t402))))) = some (r1, r2) := H
       have A48 := Aside0.mk A480
       clear A480
       replace H := Option.bind_eq_some_iff.mp H
       obtain ⟨⟨t389, t392⟩, A490, H⟩ := H
       replace H : ((nat_compare.f k1 x10_1 t392).bind fun t395 => (if t395 < 0 then ((nat_add.f k1 x10_1 t344).bind fun t396 => ((nat_sub.f k1 t396 t392).bind fun t399 => (nat_Inverse.l0 k1 t344 t383 x8_1 x11_1 t399))) else ((nat_sub.f k1 x10_1 t392).bind fun t402 => (nat_Inverse.l0 k1 t344 t383 x8_1 x11_1 t402)))) = some (r1, r2) := H
       have A49 := Aside0.mk A490
       clear A490
       replace H := Option.bind_eq_some_iff.mp H
       obtain ⟨t395, A500, H⟩ := H
       replace H : (if t395 < 0 then ((nat_add.f k1 x10_1 t344).bind fun t396 => ((nat_sub.f k1 t396 t392).bind fun t399 => (nat_Inverse.l0 k1 t344 t383 x8_1 x11_1 t399))) else ((nat_sub.f k1 x10_1 t392).bind fun t402 => (nat_Inverse.l0 k1 t344 t383 x8_1 x11_1 t402))) = some (r1, r2) := H
       have A50 := Aside0.mk A500
       clear A500
       by_cases c51 : t395 < 0
       ·rw [if_pos c51] at H
        have c51b0 : decide (t395 < 0) = true := decide_eq_true c51
        clear c51
        replace H := Option.bind_eq_some_iff.mp H
        obtain ⟨t396, A520, H⟩ := H
        replace H : ((nat_sub.f k1 t396 t392).bind fun t399 => (nat_Inverse.l0 k1 t344 t383 x8_1 x11_1 t399)) = some (r1, r2) := H
        have A52 := Aside0.mk A520
        clear A520
        replace H := Option.bind_eq_some_iff.mp H
        obtain ⟨t399, A530, H⟩ := H
        replace H : (nat_Inverse.l0 k1 t344 t383 x8_1 x11_1 t399) = some (r1, r2) := H
        have A53 := Aside0.mk A530
        clear A530
        have H' := Aside0.mk H
        clear H
        obtain ⟨Ao54, co54, eo54⟩ := Kd.V_slice HO_8.out
        subst eo54
        obtain ⟨Ao55, co55, eo55⟩ := Kd.V_slice HO_9.out
        subst eo55
        go_wp2_with (first | ((with_reducible refine gate_callee (f := 33) rfl ?_); refine goesA (some 51) Tryd.func33 #[.slice Ao55 x9_1.length co55, .slice Ao54 x8_1.length co54] rfl ?_; (with_reducible refine (nat_div.calls k1 (fun k_ => ((P0_ k_ ∨ P1_ k_) ∨ w.heap.size ≤ k_)) _ _ x9_1 _ _ x8_1 t380 t383 _ ?side1 ?side2 ?side3 A47.out).mono ?_); (case side1 => exact HO_9.out); (case side2 => exact Cu (Kd.V_reads' HO_8.out).2.2); (case side3 => exact (Kd.V_reads' HO_8.out).2.1); rintro e w56 ⟨v381, v384, rfl, ho0, ho1, hb⟩; refine ⟨_, rfl, ?_⟩; have n0_ := Vb HO_6 hb; have n1_ := Vb HO_8 hb; have n2_ := Vb HO_9 hb; have n3_ := Vb HO_10 hb; have n4_ := Vb HO_11 hb; have n5_ := Aside0.mk (Kd.V_lower (Kd.V_mono (ok' := fun k_ => ((P0_ k_ ∨ P1_ k_) ∨ w.heap.size ≤ k_)) ho0 (fun k_ hk_ => Or.elim hk_ (fun hs_ => hs_) (fun hn_ => (.inr (Nat.le_trans (Bz HB) hn_))))) (Bz HB)); have n6_ := Aside0.mk (Kd.V_lower (Kd.V_mono (ok' := fun k_ => ((P0_ k_ ∨ P1_ k_) ∨ w.heap.size ≤ k_)) ho1 (fun k_ hk_ => Or.elim hk_ (fun hs_ => hs_) (fun hn_ => (.inr (Nat.le_trans (Bz HB) hn_))))) (Bz HB)); have n7_ := Bs HB hb; clear HO_6 HO_8 HO_9 HO_10 HO_11 HB; revert n0_ n1_ n2_ n3_ n4_ n5_ n6_ n7_; intro HO_6 HO_8 HO_9 HO_10 HO_11 HO382 HO385 HB; (try clear hb); (try clear hb2); (try clear hk); (try clear hi); (try clear ho0); (try clear ho1); obtain ⟨Ao57, co57, eo57⟩ := Kd.V_slice HO382.out; subst eo57; obtain ⟨Ao58, co58, eo58⟩ := Kd.V_slice HO_11.out; subst eo58) | ((with_reducible refine gate_callee (f := 36) rfl ?_); refine goesA (some 57) Tryd.func36 #[.slice Ao57 t380.length co57, .slice Ao58 x11_1.length co58] rfl ?_; (with_reducible refine (nat_mul.calls k1 _ _ t380 _ _ x11_1 t386 _ ?side1 ?side2 ?side3 ?side4 A48.out).mono ?_); (case side1 => exact Cu (Kd.V_reads' HO382.out).2.2); (case side2 => exact (Kd.V_reads' HO382.out).2.1); (case side3 => exact Cu (Kd.V_reads' HO_11.out).2.2); (case side4 => exact (Kd.V_reads' HO_11.out).2.1); rintro e w59 ⟨v387, rfl, ho0, hb⟩; refine ⟨_, rfl, ?_⟩; have n0_ := Vb HO_6 hb; have n1_ := Vb HO_8 hb; have n2_ := Vb HO_9 hb; have n3_ := Vb HO_10 hb; have n4_ := Vb HO_11 hb; have n5_ := Vb HO382 hb; have n6_ := Vb HO385 hb; have n7_ := Aside0.mk (Kd.V_lower (Kd.V_mono (ok' := fun k_ => ((P0_ k_ ∨ P1_ k_) ∨ w.heap.size ≤ k_)) ho0 (fun k_ hk_ => (.inr (Nat.le_trans (Bz HB) hk_)))) (Bz HB)); have n8_ := Bs HB hb; clear HO_6 HO_8 HO_9 HO_10 HO_11 HO382 HO385 HB; revert n0_ n1_ n2_ n3_ n4_ n5_ n6_ n7_ n8_; intro HO_6 HO_8 HO_9 HO_10 HO_11 HO382 HO385 HO388 HB; (try clear hb); (try clear hb2); (try clear hk); (try clear hi); (try clear ho0); obtain ⟨Ao60, co60, eo60⟩ := Kd.V_slice HO388.out; subst eo60) | ((with_reducible refine gate_callee (f := 33) rfl ?_); refine goesA (some 59) Tryd.func33 #[.slice Ao60 t386.length co60, .slice Ao31 t344.length co31] rfl ?_; (with_reducible refine (nat_div.calls k1 (fun k_ => ((P0_ k_ ∨ P1_ k_) ∨ w.heap.size ≤ k_)) _ _ t386 _ _ t344 t389 t392 _ ?side1 ?side2 ?side3 A49.out).mono ?_); (case side1 => exact HO388.out); (case side2 => exact Cu (Kd.V_reads' HO_6.out).2.2); (case side3 => exact (Kd.V_reads' HO_6.out).2.1); rintro e w61 ⟨v390, v393, rfl, ho0, ho1, hb⟩; refine ⟨_, rfl, ?_⟩; have n0_ := Vb HO_6 hb; have n1_ := Vb HO_8 hb; have n2_ := Vb HO_9 hb; have n3_ := Vb HO_10 hb; have n4_ := Vb HO_11 hb; have n5_ := Vb HO382 hb; have n6_ := Vb HO385 hb; have n7_ := Vb HO388 hb; have n8_ := Aside0.mk (Kd.V_lower (Kd.V_mono (ok' := fun k_ => ((P0_ k_ ∨ P1_ k_) ∨ w.heap.size ≤ k_)) ho0 (fun k_ hk_ => Or.elim hk_ (fun hs_ => hs_) (fun hn_ => (.inr (Nat.le_trans (Bz HB) hn_))))) (Bz HB)); have n9_ := Aside0.mk (Kd.V_lower (Kd.V_mono (ok' := fun k_ => ((P0_ k_ ∨ P1_ k_) ∨ w.heap.size ≤ k_)) ho1 (fun k_ hk_ => Or.elim hk_ (fun hs_ => hs_) (fun hn_ => (.inr (Nat.le_trans (Bz HB) hn_))))) (Bz HB)); have n10_ := Bs HB hb; clear HO_6 HO_8 HO_9 HO_10 HO_11 HO382 HO385 HO388 HB; revert n0_ n1_ n2_ n3_ n4_ n5_ n6_ n7_ n8_ n9_ n10_; intro HO_6 HO_8 HO_9 HO_10 HO_11 HO382 HO385 HO388 HO391 HO394 HB; (try clear hb); (try clear hb2); (try clear hk); (try clear hi); (try clear ho0); (try clear ho1); obtain ⟨Ao62, co62, eo62⟩ := Kd.V_slice HO_10.out; subst eo62; obtain ⟨Ao63, co63, eo63⟩ := Kd.V_slice HO394.out; subst eo63) | ((with_reducible refine gate_callee (f := 38) rfl ?_); refine goesA (some 65) Tryd.func38 #[.slice Ao62 x10_1.length co62, .slice Ao63 t392.length co63] rfl ?_; (with_reducible refine (nat_compare.calls k1 _ _ x10_1 _ _ t392 t395 _ ?side1 ?side2 ?side3 ?side4 A50.out).mono ?_); (case side1 => exact Cu (Kd.V_reads' HO_10.out).2.2); (case side2 => exact (Kd.V_reads' HO_10.out).2.1); (case side3 => exact Cu (Kd.V_reads' HO394.out).2.2); (case side4 => exact (Kd.V_reads' HO394.out).2.1); rintro e w' ⟨rfl, ⟨nd, rfl⟩⟩; refine ⟨_, rfl, ?_⟩) | ((with_reducible refine gate_callee (f := 39) rfl ?_); refine goesA (some 69) Tryd.func39 #[.slice Ao62 x10_1.length co62, .slice Ao31 t344.length co31] rfl ?_; (with_reducible refine (nat_add.calls k1 _ _ x10_1 _ _ t344 t396 _ ?side1 ?side2 ?side3 ?side4 A52.out).mono ?_); (case side1 => exact Cu (Kd.V_reads' HO_10.out).2.2); (case side2 => exact (Kd.V_reads' HO_10.out).2.1); (case side3 => exact Cu (Kd.V_reads' HO_6.out).2.2); (case side4 => exact (Kd.V_reads' HO_6.out).2.1); rintro e w64 ⟨v397, rfl, ho0, hb⟩; refine ⟨_, rfl, ?_⟩; have n0_ := Vb HO_6 hb; have n1_ := Vb HO_8 hb; have n2_ := Vb HO_9 hb; have n3_ := Vb HO_10 hb; have n4_ := Vb HO_11 hb; have n5_ := Vb HO382 hb; have n6_ := Vb HO385 hb; have n7_ := Vb HO388 hb; have n8_ := Vb HO391 hb; have n9_ := Vb HO394 hb; have n10_ := Aside0.mk (Kd.V_lower (Kd.V_mono (ok' := fun k_ => ((P0_ k_ ∨ P1_ k_) ∨ w.heap.size ≤ k_)) ho0 (fun k_ hk_ => (.inr (Nat.le_trans (Bz HB) hk_)))) (Bz HB)); have n11_ := Bs HB hb; clear HO_6 HO_8 HO_9 HO_10 HO_11 HO382 HO385 HO388 HO391 HO394 HB; revert n0_ n1_ n2_ n3_ n4_ n5_ n6_ n7_ n8_ n9_ n10_ n11_; intro HO_6 HO_8 HO_9 HO_10 HO_11 HO382 HO385 HO388 HO391 HO394 HO398 HB; (try clear hb); (try clear hb2); (try clear hk); (try clear hi); (try clear ho0); obtain ⟨Ao65, co65, eo65⟩ := Kd.V_slice HO398.out; subst eo65) | ((with_reducible refine gate_callee (f := 40) rfl ?_); refine goesA (some 75) Tryd.func40 #[.slice Ao65 t396.length co65, .slice Ao63 t392.length co63] rfl ?_; (with_reducible refine (nat_sub.calls k1 _ _ t396 _ _ t392 t399 _ ?side1 ?side2 ?side3 ?side4 A53.out).mono ?_); (case side1 => exact Cu (Kd.V_reads' HO398.out).2.2); (case side2 => exact (Kd.V_reads' HO398.out).2.1); (case side3 => exact Cu (Kd.V_reads' HO394.out).2.2); (case side4 => exact (Kd.V_reads' HO394.out).2.1); rintro e w66 ⟨v400, rfl, ho0, hb⟩; refine ⟨_, rfl, ?_⟩; have n0_ := Vb HO_6 hb; have n1_ := Vb HO_8 hb; have n2_ := Vb HO_9 hb; have n3_ := Vb HO_10 hb; have n4_ := Vb HO_11 hb; have n5_ := Vb HO382 hb; have n6_ := Vb HO385 hb; have n7_ := Vb HO388 hb; have n8_ := Vb HO391 hb; have n9_ := Vb HO394 hb; have n10_ := Vb HO398 hb; have n11_ := Aside0.mk (Kd.V_lower (Kd.V_mono (ok' := fun k_ => ((P0_ k_ ∨ P1_ k_) ∨ w.heap.size ≤ k_)) ho0 (fun k_ hk_ => (.inr (Nat.le_trans (Bz HB) hk_)))) (Bz HB)); have n12_ := Bs HB hb; clear HO_6 HO_8 HO_9 HO_10 HO_11 HO382 HO385 HO388 HO391 HO394 HO398 HB; revert n0_ n1_ n2_ n3_ n4_ n5_ n6_ n7_ n8_ n9_ n10_ n11_ n12_; intro HO_6 HO_8 HO_9 HO_10 HO_11 HO382 HO385 HO388 HO391 HO394 HO398 HO401 HB; (try clear hb); (try clear hb2); (try clear hk); (try clear hi); (try clear ho0)))
        go_roundg k1
        case measure => have := HK1.out; omega
        case rel => exact ⟨(t383), (x8_1), (x11_1), (t399), H', ⟨by have := HK1.out; omega⟩, ⟨Vu HO_6⟩, ⟨Vu HO385⟩, ⟨Vu HO_8⟩, ⟨Vu HO_11⟩, ⟨Vu HO401⟩, ⟨Bu HB⟩⟩
       ·rw [if_neg c51] at H
        have c51b0 : decide (t395 < 0) = false := decide_eq_false c51
        clear c51
        replace H := Option.bind_eq_some_iff.mp H
        obtain ⟨t402, A670, H⟩ := H
        replace H : (nat_Inverse.l0 k1 t344 t383 x8_1 x11_1 t402) = some (r1, r2) := H
        have A67 := Aside0.mk A670
        clear A670
        have H' := Aside0.mk H
        clear H
        obtain ⟨Ao68, co68, eo68⟩ := Kd.V_slice HO_8.out
        subst eo68
        obtain ⟨Ao69, co69, eo69⟩ := Kd.V_slice HO_9.out
        subst eo69
        go_wp2_with (first | ((with_reducible refine gate_callee (f := 33) rfl ?_); refine goesA (some 51) Tryd.func33 #[.slice Ao69 x9_1.length co69, .slice Ao68 x8_1.length co68] rfl ?_; (with_reducible refine (nat_div.calls k1 (fun k_ => ((P0_ k_ ∨ P1_ k_) ∨ w.heap.size ≤ k_)) _ _ x9_1 _ _ x8_1 t380 t383 _ ?side1 ?side2 ?side3 A47.out).mono ?_); (case side1 => exact HO_9.out); (case side2 => exact Cu (Kd.V_reads' HO_8.out).2.2); (case side3 => exact (Kd.V_reads' HO_8.out).2.1); rintro e w70 ⟨v381, v384, rfl, ho0, ho1, hb⟩; refine ⟨_, rfl, ?_⟩; have n0_ := Vb HO_6 hb; have n1_ := Vb HO_8 hb; have n2_ := Vb HO_9 hb; have n3_ := Vb HO_10 hb; have n4_ := Vb HO_11 hb; have n5_ := Aside0.mk (Kd.V_lower (Kd.V_mono (ok' := fun k_ => ((P0_ k_ ∨ P1_ k_) ∨ w.heap.size ≤ k_)) ho0 (fun k_ hk_ => Or.elim hk_ (fun hs_ => hs_) (fun hn_ => (.inr (Nat.le_trans (Bz HB) hn_))))) (Bz HB)); have n6_ := Aside0.mk (Kd.V_lower (Kd.V_mono (ok' := fun k_ => ((P0_ k_ ∨ P1_ k_) ∨ w.heap.size ≤ k_)) ho1 (fun k_ hk_ => Or.elim hk_ (fun hs_ => hs_) (fun hn_ => (.inr (Nat.le_trans (Bz HB) hn_))))) (Bz HB)); have n7_ := Bs HB hb; clear HO_6 HO_8 HO_9 HO_10 HO_11 HB; revert n0_ n1_ n2_ n3_ n4_ n5_ n6_ n7_; intro HO_6 HO_8 HO_9 HO_10 HO_11 HO382 HO385 HB; (try clear hb); (try clear hb2); (try clear hk); (try clear hi); (try clear ho0); (try clear ho1); obtain ⟨Ao71, co71, eo71⟩ := Kd.V_slice HO382.out; subst eo71; obtain ⟨Ao72, co72, eo72⟩ := Kd.V_slice HO_11.out; subst eo72) | ((with_reducible refine gate_callee (f := 36) rfl ?_); refine goesA (some 57) Tryd.func36 #[.slice Ao71 t380.length co71, .slice Ao72 x11_1.length co72] rfl ?_; (with_reducible refine (nat_mul.calls k1 _ _ t380 _ _ x11_1 t386 _ ?side1 ?side2 ?side3 ?side4 A48.out).mono ?_); (case side1 => exact Cu (Kd.V_reads' HO382.out).2.2); (case side2 => exact (Kd.V_reads' HO382.out).2.1); (case side3 => exact Cu (Kd.V_reads' HO_11.out).2.2); (case side4 => exact (Kd.V_reads' HO_11.out).2.1); rintro e w73 ⟨v387, rfl, ho0, hb⟩; refine ⟨_, rfl, ?_⟩; have n0_ := Vb HO_6 hb; have n1_ := Vb HO_8 hb; have n2_ := Vb HO_9 hb; have n3_ := Vb HO_10 hb; have n4_ := Vb HO_11 hb; have n5_ := Vb HO382 hb; have n6_ := Vb HO385 hb; have n7_ := Aside0.mk (Kd.V_lower (Kd.V_mono (ok' := fun k_ => ((P0_ k_ ∨ P1_ k_) ∨ w.heap.size ≤ k_)) ho0 (fun k_ hk_ => (.inr (Nat.le_trans (Bz HB) hk_)))) (Bz HB)); have n8_ := Bs HB hb; clear HO_6 HO_8 HO_9 HO_10 HO_11 HO382 HO385 HB; revert n0_ n1_ n2_ n3_ n4_ n5_ n6_ n7_ n8_; intro HO_6 HO_8 HO_9 HO_10 HO_11 HO382 HO385 HO388 HB; (try clear hb); (try clear hb2); (try clear hk); (try clear hi); (try clear ho0); obtain ⟨Ao74, co74, eo74⟩ := Kd.V_slice HO388.out; subst eo74) | ((with_reducible refine gate_callee (f := 33) rfl ?_); refine goesA (some 59) Tryd.func33 #[.slice Ao74 t386.length co74, .slice Ao31 t344.length co31] rfl ?_; (with_reducible refine (nat_div.calls k1 (fun k_ => ((P0_ k_ ∨ P1_ k_) ∨ w.heap.size ≤ k_)) _ _ t386 _ _ t344 t389 t392 _ ?side1 ?side2 ?side3 A49.out).mono ?_); (case side1 => exact HO388.out); (case side2 => exact Cu (Kd.V_reads' HO_6.out).2.2); (case side3 => exact (Kd.V_reads' HO_6.out).2.1); rintro e w75 ⟨v390, v393, rfl, ho0, ho1, hb⟩; refine ⟨_, rfl, ?_⟩; have n0_ := Vb HO_6 hb; have n1_ := Vb HO_8 hb; have n2_ := Vb HO_9 hb; have n3_ := Vb HO_10 hb; have n4_ := Vb HO_11 hb; have n5_ := Vb HO382 hb; have n6_ := Vb HO385 hb; have n7_ := Vb HO388 hb; have n8_ := Aside0.mk (Kd.V_lower (Kd.V_mono (ok' := fun k_ => ((P0_ k_ ∨ P1_ k_) ∨ w.heap.size ≤ k_)) ho0 (fun k_ hk_ => Or.elim hk_ (fun hs_ => hs_) (fun hn_ => (.inr (Nat.le_trans (Bz HB) hn_))))) (Bz HB)); have n9_ := Aside0.mk (Kd.V_lower (Kd.V_mono (ok' := fun k_ => ((P0_ k_ ∨ P1_ k_) ∨ w.heap.size ≤ k_)) ho1 (fun k_ hk_ => Or.elim hk_ (fun hs_ => hs_) (fun hn_ => (.inr (Nat.le_trans (Bz HB) hn_))))) (Bz HB)); have n10_ := Bs HB hb; clear HO_6 HO_8 HO_9 HO_10 HO_11 HO382 HO385 HO388 HB; revert n0_ n1_ n2_ n3_ n4_ n5_ n6_ n7_ n8_ n9_ n10_; intro HO_6 HO_8 HO_9 HO_10 HO_11 HO382 HO385 HO388 HO391 HO394 HB; (try clear hb); (try clear hb2); (try clear hk); (try clear hi); (try clear ho0); (try clear ho1); obtain ⟨Ao76, co76, eo76⟩ := Kd.V_slice HO_10.out; subst eo76; obtain ⟨Ao77, co77, eo77⟩ := Kd.V_slice HO394.out; subst eo77) | ((with_reducible refine gate_callee (f := 38) rfl ?_); refine goesA (some 65) Tryd.func38 #[.slice Ao76 x10_1.length co76, .slice Ao77 t392.length co77] rfl ?_; (with_reducible refine (nat_compare.calls k1 _ _ x10_1 _ _ t392 t395 _ ?side1 ?side2 ?side3 ?side4 A50.out).mono ?_); (case side1 => exact Cu (Kd.V_reads' HO_10.out).2.2); (case side2 => exact (Kd.V_reads' HO_10.out).2.1); (case side3 => exact Cu (Kd.V_reads' HO394.out).2.2); (case side4 => exact (Kd.V_reads' HO394.out).2.1); rintro e w' ⟨rfl, ⟨nd, rfl⟩⟩; refine ⟨_, rfl, ?_⟩) | ((with_reducible refine gate_callee (f := 40) rfl ?_); refine goesA (some 75) Tryd.func40 #[.slice Ao76 x10_1.length co76, .slice Ao77 t392.length co77] rfl ?_; (with_reducible refine (nat_sub.calls k1 _ _ x10_1 _ _ t392 t402 _ ?side1 ?side2 ?side3 ?side4 A67.out).mono ?_); (case side1 => exact Cu (Kd.V_reads' HO_10.out).2.2); (case side2 => exact (Kd.V_reads' HO_10.out).2.1); (case side3 => exact Cu (Kd.V_reads' HO394.out).2.2); (case side4 => exact (Kd.V_reads' HO394.out).2.1); rintro e w78 ⟨v403, rfl, ho0, hb⟩; refine ⟨_, rfl, ?_⟩; have n0_ := Vb HO_6 hb; have n1_ := Vb HO_8 hb; have n2_ := Vb HO_9 hb; have n3_ := Vb HO_10 hb; have n4_ := Vb HO_11 hb; have n5_ := Vb HO382 hb; have n6_ := Vb HO385 hb; have n7_ := Vb HO388 hb; have n8_ := Vb HO391 hb; have n9_ := Vb HO394 hb; have n10_ := Aside0.mk (Kd.V_lower (Kd.V_mono (ok' := fun k_ => ((P0_ k_ ∨ P1_ k_) ∨ w.heap.size ≤ k_)) ho0 (fun k_ hk_ => (.inr (Nat.le_trans (Bz HB) hk_)))) (Bz HB)); have n11_ := Bs HB hb; clear HO_6 HO_8 HO_9 HO_10 HO_11 HO382 HO385 HO388 HO391 HO394 HB; revert n0_ n1_ n2_ n3_ n4_ n5_ n6_ n7_ n8_ n9_ n10_ n11_; intro HO_6 HO_8 HO_9 HO_10 HO_11 HO382 HO385 HO388 HO391 HO394 HO404 HB; (try clear hb); (try clear hb2); (try clear hk); (try clear hi); (try clear ho0)))
        go_roundg k1
        case measure => have := HK1.out; omega
        case rel => exact ⟨(t383), (x8_1), (x11_1), (t402), H', ⟨by have := HK1.out; omega⟩, ⟨Vu HO_6⟩, ⟨Vu HO385⟩, ⟨Vu HO_8⟩, ⟨Vu HO_11⟩, ⟨Vu HO404⟩, ⟨Bu HB⟩⟩
      ·rw [if_neg c46] at H
       have c46b0 : decide (0 < (x8_1.length : Int)) = false := decide_eq_false c46
       have c46b1 : decide (0 < x8_1.length) = false := decide_eq_false (by omega)
       clear c46
       replace H := Option.bind_eq_some_iff.mp H
       obtain ⟨t377, A790, H⟩ := H
       replace H : (some (t377, 0)) = some (r1, r2) := H
       have A79 := Aside0.mk A790
       clear A790
       simp only [Option.some.injEq, Prod.mk.injEq] at H
       obtain ⟨rfl, rfl⟩ := H
       obtain ⟨Ao80, co80, eo80⟩ := Kd.V_slice HO_8.out
       subst eo80
       obtain ⟨Ao81, co81, eo81⟩ := Kd.V_slice HO_10.out
       subst eo81
       go_wp2_with (first | ((with_reducible refine gate_callee (f := 34) rfl ?_); refine goesA (some 77) Tryd.func34 #[.slice Ao81 x10_1.length co81] rfl ?_; (with_reducible refine (nat_num_bytes.calls k1 _ _ x10_1 t377 _ ?side1 ?side2 A79.out).mono ?_); (case side1 => exact Cu (Kd.V_reads' HO_10.out).2.2); (case side2 => exact (Kd.V_reads' HO_10.out).2.1); rintro e w82 ⟨v378, rfl, ho0, hb⟩; refine ⟨_, rfl, ?_⟩; have n0_ := Ve HO_6 (Kd.R_base ho0) hb; have n1_ := Ve HO_8 (Kd.R_base ho0) hb; have n2_ := Ve HO_9 (Kd.R_base ho0) hb; have n3_ := Ve HO_10 (Kd.R_base ho0) hb; have n4_ := Ve HO_11 (Kd.R_base ho0) hb; have n5_ := Aside0.mk (Kd.R_lower (Kd.R_newM (M := fun k_ => (w.heap.size ≤ k_)) ho0 (Bz HB) (fun k_ h_ => h_)) (Bz HB)); have n6_ := Bs HB hb; clear HO_6 HO_8 HO_9 HO_10 HO_11 HB; revert n0_ n1_ n2_ n3_ n4_ n5_ n6_; intro HO_6 HO_8 HO_9 HO_10 HO_11 HO379 HB; (try clear hb); (try clear hb2); (try clear hk); (try clear hi); (try clear ho0)))
       go_ret2
       exact ⟨_, rfl_, by (with_reducible repeat (first | apply Kd.R_alloc | apply Kd.R_drewN | apply Kd.R_drew)); exact Kd.R_mono HO379.out (fun _ hk => hk.1), Bu HB⟩
   ·rw [if_neg c24] at H
    have c24b0 : (t370 == 0) = false := beq_eq_false_iff_ne.mpr c24
    have c24b1 : (t370 != 0) = true := bne_iff_ne.mpr c24
    simp only [Option.some.injEq, Prod.mk.injEq] at H
    obtain ⟨rfl, rfl⟩ := H
    go_enter Tryd.func20, Tryd.ntmps20
    go_wp2_with (first | ((with_reducible refine gate_callee (f := 31) rfl ?_); refine goesA (some 18) Tryd.func31 #[.slice A1 l1.length c1] rfl ?_; (with_reducible refine (nat_of.calls k _ _ l1 t344 _ ?side1 ?side2 A3.out).mono ?_); (case side1 => exact Cu (Kd.V_reads' HO1.out).2.2); (case side2 => exact (Kd.V_reads' HO1.out).2.1); rintro e w83 ⟨v345, rfl, ho0, hb⟩; refine ⟨_, rfl, ?_⟩; have n0_ := Vb HO0 hb; have n1_ := Vb HO1 hb; have n2_ := Aside0.mk (Kd.V_lower (Kd.V_mono (ok' := fun k_ => ((P0_ k_ ∨ P1_ k_) ∨ w.heap.size ≤ k_)) ho0 (fun k_ hk_ => (.inr (Nat.le_trans (Bz HB) hk_)))) (Bz HB)); have n3_ := Bs HB hb; clear HO0 HO1 HB; revert n0_ n1_ n2_ n3_; intro HO0 HO1 HO346 HB; (try clear hb); (try clear hb2); (try clear hk); (try clear hi); (try clear ho0)) | ((with_reducible refine gate_dst (N := 22) rfl ?_); refine Kd.N_lit (Kd.slice 5 (Kd.int .u8)) _ 22 ?hg (N' := 22) ?hd (xs := ([l0, l1] : List (List Int))) (inner := [.slice A0 l0.length c0, .slice A1 l1.length c1]) (ok := (fun k_ => ((P0_ k_ ∨ P1_ k_) ∨ w.heap.size ≤ k_))) (okp := (fun k_ => ((P0_ k_ ∨ P1_ k_) ∨ w.heap.size ≤ k_))) ?hr ?hp (fun _ hk => hk) ((show ∀ k_, w83.heap.size ≤ k_ → (fun k_ => ((P0_ k_ ∨ P1_ k_) ∨ w.heap.size ≤ k_)) k_ from fun k_ hk => (.inr (Nat.le_trans (Bz HB) hk))) _ (Nat.le_refl _)) (Below.refl _ _) (Nat.le_refl _) (by simp) ?_; (case hd => rfl); (case hg => rfl); (case hr => first | (go_simp; done) | (go_simp; rfl)); (case hp => exact (Reps.one (show Kd.FK (Kd.slice 5 (Kd.int .u8)) _ _ l0 [.slice A0 l0.length c0] from (Kd.FK_slice_mk (Kd.V_reads' (Kd.V_mono (ok' := (fun k_ => ((P0_ k_ ∨ P1_ k_) ∨ w.heap.size ≤ k_))) (HO0.out) (fun k_ hk => hk))).2.1 (Kd.V_F (Kd.V_mono (ok' := (fun k_ => ((P0_ k_ ∨ P1_ k_) ∨ w.heap.size ≤ k_))) (HO0.out) (fun k_ hk => hk))))) (Reps.one (show Kd.FK (Kd.slice 5 (Kd.int .u8)) _ _ l1 [.slice A1 l1.length c1] from (Kd.FK_slice_mk (Kd.V_reads' (Kd.V_mono (ok' := (fun k_ => ((P0_ k_ ∨ P1_ k_) ∨ w.heap.size ≤ k_))) (HO1.out) (fun k_ hk => hk))).2.1 (Kd.V_F (Kd.V_mono (ok' := (fun k_ => ((P0_ k_ ∨ P1_ k_) ∨ w.heap.size ≤ k_))) (HO1.out) (fun k_ hk => hk))))) (Reps.none _ _)))); intro v348 w84 ho85 hb hg_ hnew_; clear hg_ hnew_; (first | rw [← Ny347.out] at ho85 | (simp only [Int.reduceToNat] at ho85; rw [← Ny347.out] at ho85)); have n0_ := Aside0.mk (Kd.V_elder' (Vu HO0) (Kd.N_base (by first | exact ho85 | exact Kd.S_N ho85)) hb); have n1_ := Aside0.mk (Kd.V_elder' (Vu HO1) (Kd.N_base (by first | exact ho85 | exact Kd.S_N ho85)) hb); have n2_ := Aside0.mk (Kd.V_elder' (Vu HO346) (Kd.N_base (by first | exact ho85 | exact Kd.S_N ho85)) hb); have n3_ := Aside0.mk (Kd.N_lower ho85 (Bz HB)); have n4_ := Bs HB hb; clear HO0 HO1 HO346 HB; revert n0_ n1_ n2_ n3_ n4_; intro HO0 HO1 HO346 HO349 HB; clear hb ho85; obtain ⟨Ao86, co86, eo86⟩ := Kd.N_slice HO349.out; subst eo86) | ((with_reducible refine gate_callee (f := 32) rfl ?_); refine goesA (some 23) Tryd.func32 #[.slice Ao86 y347.length co86] rfl ?_; (with_reducible refine (nat_long.calls _ _ y347 false _ ?side1 ?side2 A4.out).mono ?_); (case side1 => exact Cu (Kd.N_reads' HO349.out).2.2); (case side2 => exact (Kd.N_reads' HO349.out).2.1); rintro e w' ⟨rfl, ⟨nd, rfl⟩⟩; refine ⟨_, rfl, ?_⟩) | ((with_reducible refine gate_dst (N := 26) rfl ?_); refine litI .u32 55 26 [2] [.int .u32 2] ?hr ?_; (case hr => first | (go_simp; done) | (go_simp; rfl)); intro v352 w87 ho88 hb; (first | rw [← Ny351.out] at ho88 | (simp only [Int.reduceToNat] at ho88; rw [← Ny351.out] at ho88)); have n0_ := Ve HO0 (Kd.R_base ho88) hb; have n1_ := Ve HO1 (Kd.R_base ho88) hb; have n2_ := Ve HO346 (Kd.R_base ho88) hb; have n3_ := Ne HO349 (Kd.R_base ho88) hb; have n4_ := Aside0.mk (Kd.R_lower (Kd.R_newM (M := fun k_ => (w.heap.size ≤ k_)) ho88 (Bz HB) (fun k_ h_ => h_)) (Bz HB)); have n5_ := Bs HB hb; clear HO0 HO1 HO346 HO349 HB; revert n0_ n1_ n2_ n3_ n4_ n5_; intro HO0 HO1 HO346 HO349 HO353 HB; clear hb ho88; obtain ⟨Ao89, co89, eo89⟩ := Kd.V_slice HO346.out; subst eo89; obtain ⟨Ao90, co90, eo90⟩ := Kd.R_slice HO353.out; subst eo90) | ((with_reducible refine gate_callee (f := 38) rfl ?_); refine goesA (some 27) Tryd.func38 #[.slice Ao89 t344.length co89, .slice Ao90 y351.length co90] rfl ?_; (with_reducible refine (nat_compare.calls k _ _ t344 _ _ y351 t354 _ ?side1 ?side2 ?side3 ?side4 A10.out).mono ?_); (case side1 => exact Cu (Kd.V_reads' HO346.out).2.2); (case side2 => exact (Kd.V_reads' HO346.out).2.1); (case side3 => exact Cu (Kd.R_reads' HO353.out).2.2); (case side4 => exact (Kd.R_reads' HO353.out).2.1); rintro e w' ⟨rfl, ⟨nd, rfl⟩⟩; refine ⟨_, rfl, ?_⟩) | ((with_reducible refine gate_callee (f := 31) rfl ?_); refine goesA (some 31) Tryd.func31 #[.slice A0 l0.length c0] rfl ?_; (with_reducible refine (nat_of.calls k _ _ l0 t355 _ ?side1 ?side2 A20.out).mono ?_); (case side1 => exact Cu (Kd.V_reads' HO0.out).2.2); (case side2 => exact (Kd.V_reads' HO0.out).2.1); rintro e w91 ⟨v356, rfl, ho0, hb⟩; refine ⟨_, rfl, ?_⟩; have n0_ := Vb HO0 hb; have n1_ := Vb HO1 hb; have n2_ := Vb HO346 hb; have n3_ := Nb HO349 hb; have n4_ := Rb HO353 hb; have n5_ := Aside0.mk (Kd.V_lower (Kd.V_mono (ok' := fun k_ => ((P0_ k_ ∨ P1_ k_) ∨ w.heap.size ≤ k_) ∧ some k_ ≠ (.slice Ao86 y347.length co86 : Value).ownBlock ∧ some k_ ≠ (.slice Ao90 y351.length co90 : Value).ownBlock) ho0 (fun k_ hk_ => ⟨(.inr (Nat.le_trans (Bz HB) hk_)), (Kd.fresh' (Kd.N_lt (Nu HO349)) k_ hk_), (Kd.fresh' (Kd.R_lt (Ru HO353)) k_ hk_)⟩)) (Bz HB)); have n6_ := Bs HB hb; clear HO0 HO1 HO346 HO349 HO353 HB; revert n0_ n1_ n2_ n3_ n4_ n5_ n6_; intro HO0 HO1 HO346 HO349 HO353 HO357 HB; (try clear hb); (try clear hb2); (try clear hk); (try clear hi); (try clear ho0); obtain ⟨Ao92, co92, eo92⟩ := Kd.V_slice HO357.out; subst eo92) | ((with_reducible refine gate_callee (f := 33) rfl ?_); refine goesA (some 33) Tryd.func33 #[.slice Ao92 t355.length co92, .slice Ao89 t344.length co89] rfl ?_; (with_reducible refine (nat_div.calls k (fun k_ => (((P0_ k_ ∨ P1_ k_) ∨ w.heap.size ≤ k_) ∧ (some k_ ≠ (.slice Ao86 y347.length co86 : Value).ownBlock ∧ some k_ ≠ (.slice Ao90 y351.length co90 : Value).ownBlock))) _ _ t355 _ _ t344 t358 t361 _ ?side1 ?side2 ?side3 A21.out).mono ?_); (case side1 => exact HO357.out); (case side2 => exact Cu (Kd.V_reads' HO346.out).2.2); (case side3 => exact (Kd.V_reads' HO346.out).2.1); rintro e w93 ⟨v359, v362, rfl, ho0, ho1, hb⟩; refine ⟨_, rfl, ?_⟩; have n0_ := Vb HO0 hb; have n1_ := Vb HO1 hb; have n2_ := Vb HO346 hb; have n3_ := Nb HO349 hb; have n4_ := Rb HO353 hb; have n5_ := Vb HO357 hb; have n6_ := Aside0.mk (Kd.V_lower (Kd.V_mono (ok' := fun k_ => ((P0_ k_ ∨ P1_ k_) ∨ w.heap.size ≤ k_) ∧ some k_ ≠ (.slice Ao86 y347.length co86 : Value).ownBlock ∧ some k_ ≠ (.slice Ao90 y351.length co90 : Value).ownBlock) ho0 (fun k_ hk_ => ⟨Or.elim hk_ (fun hs_ => hs_.1) (fun hn_ => (.inr (Nat.le_trans (Bz HB) hn_))), Or.elim hk_ (fun hs_ => hs_.2.1) (fun hn_ => (Kd.fresh' (Kd.N_lt (Nu HO349)) k_ hn_)), Or.elim hk_ (fun hs_ => hs_.2.2) (fun hn_ => (Kd.fresh' (Kd.R_lt (Ru HO353)) k_ hn_))⟩)) (Bz HB)); have n7_ := Aside0.mk (Kd.V_lower (Kd.V_mono (ok' := fun k_ => ((P0_ k_ ∨ P1_ k_) ∨ w.heap.size ≤ k_) ∧ some k_ ≠ (.slice Ao86 y347.length co86 : Value).ownBlock ∧ some k_ ≠ (.slice Ao90 y351.length co90 : Value).ownBlock) ho1 (fun k_ hk_ => ⟨Or.elim hk_ (fun hs_ => hs_.1) (fun hn_ => (.inr (Nat.le_trans (Bz HB) hn_))), Or.elim hk_ (fun hs_ => hs_.2.1) (fun hn_ => (Kd.fresh' (Kd.N_lt (Nu HO349)) k_ hn_)), Or.elim hk_ (fun hs_ => hs_.2.2) (fun hn_ => (Kd.fresh' (Kd.R_lt (Ru HO353)) k_ hn_))⟩)) (Bz HB)); have n8_ := Bs HB hb; clear HO0 HO1 HO346 HO349 HO353 HO357 HB; revert n0_ n1_ n2_ n3_ n4_ n5_ n6_ n7_ n8_; intro HO0 HO1 HO346 HO349 HO353 HO357 HO360 HO363 HB; (try clear hb); (try clear hb2); (try clear hk); (try clear hi); (try clear ho0); (try clear ho1); obtain ⟨Ao94, co94, eo94⟩ := Kd.V_slice HO363.out; subst eo94) | ((with_reducible refine gate_callee (f := 37) rfl ?_); refine goesA (some 38) Tryd.func37 #[.slice Ao89 t344.length co89, .slice Ao94 t361.length co94] rfl ?_; (with_reducible refine (nat_gcd.calls k (fun k_ => ((((P0_ k_ ∨ P1_ k_) ∨ w.heap.size ≤ k_) ∧ some k_ ≠ (.slice Ao86 y347.length co86 : Value).ownBlock) ∧ some k_ ≠ (.slice Ao90 y351.length co90 : Value).ownBlock)) _ _ t344 (fun k_ => (((P0_ k_ ∨ P1_ k_) ∨ w.heap.size ≤ k_) ∧ (some k_ ≠ (.slice Ao86 y347.length co86 : Value).ownBlock ∧ some k_ ≠ (.slice Ao90 y351.length co90 : Value).ownBlock))) _ _ t361 t364 _ ?side1 ?side2 A22.out).mono ?_); (case side1 => exact HO346.out); (case side2 => exact HO363.out); rintro e w95 ⟨v365, rfl, ho0, hb⟩; refine ⟨_, rfl, ?_⟩; have n0_ := Vb HO0 hb; have n1_ := Vb HO1 hb; have n2_ := Vb HO346 hb; have n3_ := Nb HO349 hb; have n4_ := Rb HO353 hb; have n5_ := Vb HO357 hb; have n6_ := Vb HO360 hb; have n7_ := Vb HO363 hb; have n8_ := Aside0.mk (Kd.V_lower (Kd.V_mono (ok' := fun k_ => ((P0_ k_ ∨ P1_ k_) ∨ w.heap.size ≤ k_) ∧ some k_ ≠ (.slice Ao86 y347.length co86 : Value).ownBlock ∧ some k_ ≠ (.slice Ao90 y351.length co90 : Value).ownBlock) ho0 (fun k_ hk_ => ⟨Or.elim hk_ (fun hs_ => Or.elim hs_ (fun hs_ => hs_.1.1) (fun hs_ => hs_.1)) (fun hn_ => (.inr (Nat.le_trans (Bz HB) hn_))), Or.elim hk_ (fun hs_ => Or.elim hs_ (fun hs_ => hs_.1.2) (fun hs_ => hs_.2.1)) (fun hn_ => (Kd.fresh' (Kd.N_lt (Nu HO349)) k_ hn_)), Or.elim hk_ (fun hs_ => Or.elim hs_ (fun hs_ => hs_.2) (fun hs_ => hs_.2.2)) (fun hn_ => (Kd.fresh' (Kd.R_lt (Ru HO353)) k_ hn_))⟩)) (Bz HB)); have n9_ := Bs HB hb; clear HO0 HO1 HO346 HO349 HO353 HO357 HO360 HO363 HB; revert n0_ n1_ n2_ n3_ n4_ n5_ n6_ n7_ n8_ n9_; intro HO0 HO1 HO346 HO349 HO353 HO357 HO360 HO363 HO366 HB; (try clear hb); (try clear hb2); (try clear hk); (try clear hi); (try clear ho0)) | ((with_reducible refine gate_dst (N := 39) rfl ?_); refine litI .u32 55 39 [1] [.int .u32 1] ?hr ?_; (case hr => first | (go_simp; done) | (go_simp; rfl)); intro v368 w96 ho97 hb; (first | rw [← Ny367.out] at ho97 | (simp only [Int.reduceToNat] at ho97; rw [← Ny367.out] at ho97)); have n0_ := Ve HO0 (Kd.R_base ho97) hb; have n1_ := Ve HO1 (Kd.R_base ho97) hb; have n2_ := Ve HO346 (Kd.R_base ho97) hb; have n3_ := Ne HO349 (Kd.R_base ho97) hb; have n4_ := Re HO353 (Kd.R_base ho97) hb; have n5_ := Ve HO357 (Kd.R_base ho97) hb; have n6_ := Ve HO360 (Kd.R_base ho97) hb; have n7_ := Ve HO363 (Kd.R_base ho97) hb; have n8_ := Ve HO366 (Kd.R_base ho97) hb; have n9_ := Aside0.mk (Kd.R_lower (Kd.R_new' (Kd.R_newM (M := fun k_ => (w.heap.size ≤ k_)) ho97 (Bz HB) (fun k_ h_ => h_)) (Kd.R_lt (Ru HO353))) (Bz HB)); have n10_ := Bs HB hb; clear HO0 HO1 HO346 HO349 HO353 HO357 HO360 HO363 HO366 HB; revert n0_ n1_ n2_ n3_ n4_ n5_ n6_ n7_ n8_ n9_ n10_; intro HO0 HO1 HO346 HO349 HO353 HO357 HO360 HO363 HO366 HO369 HB; clear hb ho97; obtain ⟨Ao98, co98, eo98⟩ := Kd.V_slice HO366.out; subst eo98; obtain ⟨Ao99, co99, eo99⟩ := Kd.R_slice HO369.out; subst eo99) | ((with_reducible refine gate_callee (f := 38) rfl ?_); refine goesA (some 40) Tryd.func38 #[.slice Ao98 t364.length co98, .slice Ao99 y367.length co99] rfl ?_; (with_reducible refine (nat_compare.calls k _ _ t364 _ _ y367 t370 _ ?side1 ?side2 ?side3 ?side4 A23.out).mono ?_); (case side1 => exact Cu (Kd.V_reads' HO366.out).2.2); (case side2 => exact (Kd.V_reads' HO366.out).2.1); (case side3 => exact Cu (Kd.R_reads' HO369.out).2.2); (case side4 => exact (Kd.R_reads' HO369.out).2.1); rintro e w' ⟨rfl, ⟨nd, rfl⟩⟩; refine ⟨_, rfl, ?_⟩))
    go_ret2
    exact ⟨_, rfl_, by first | exact Kd.R_nil _ _ _ _ _ | exact Kd.N_nil _ _ _ _ _ | exact Kd.V_nil _ _ _ _ _ | exact Kd.Q_nil _ _ _ _ _ | exact Kd.S_nil _ _ _ _ _, Bu HB⟩
theorem nat_Inverse.calls (k : Nat) (A0 : Option Addr) (c0 : Nat) (l0 : List Int) (A1 : Option Addr) (c1 : Nat) (l1 : List Int) (r1 : List Int) (r2 : Int) (w : World) (hr0 : Kd.C (Kd.int .u8) w A0 l0.length l0) (hc0 : l0.length ≤ c0) (hr1 : Kd.C (Kd.int .u8) w A1 l1.length l1) (hc1 : l1.length ≤ c1) (h : nat_Inverse.f k l0 l1 = some (r1, r2)) :
  Calls Tryd.prog 20 #[.slice A0 l0.length c0, .slice A1 l1.length c1] w fun e w' => ∃ v0_ : Value, e = .returned (.tuple #[v0_, .int .i64 r2]) ∧ Kd.R (Kd.int .u8) 5 w' w.heap.size (fun _ => True) v0_ r1 ∧ Below w.heap.size w w' := by
 refine (nat_Inverse.callsV k (fun k_ => k_ < w.heap.size) A0 c0 l0 (fun k_ => k_ < w.heap.size) A1 c1 l1 r1 r2 w (Kd.V_mk hc0 (Kd.C_F (Kd.heap_int .u8) hr0)) (Kd.V_mk hc1 (Kd.C_F (Kd.heap_int .u8) hr1)) h).mono ?_
 rintro e w' ⟨v0_, he, h0_, hb⟩
 exact ⟨v0_, he, Kd.R_mono h0_ (fun _ _ => trivial), hb⟩

end Go.Proofs.YtcofpbndaljppaaDoor.Hp
