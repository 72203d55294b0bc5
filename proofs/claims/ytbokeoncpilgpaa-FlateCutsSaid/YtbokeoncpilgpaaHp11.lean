/- Go functions of this seat as Lean functions, and their contracts: what the Go code computes, for every input. (By hp.py, a program of this repo, over the kit's print.py.) -/
import Derived.Test.YtbokeoncpilgpaaHp0
import Derived.Test.YtbokeoncpilgpaaHp3
import Derived.Test.YtbokeoncpilgpaaHp9
namespace Go.Proofs.Ytbokeoncpilgpaa.Hp
open Go.RowKit Go.Proofs.YtbokeoncpilgpaaW.PrintWords Go.Proofs.YtbokeoncpilgpaaW.PrintLast Go.Proofs.YtbokeoncpilgpaaW.PrintMore
attribute [local go_sem] max2_int min2_int max_two min_two max_three min_three max_four min_four   -- for this text's walks alone
set_option linter.unusedVariables false
set_option linter.unusedSimpArgs false

/-! ### lanyardlaw04_FlateCuts: function 6 -/
mutual
def lanyardlaw04_FlateCuts.j0 : Nat → List Int → Int → Bool → Option (Bool)
 | 0, _, _, _ => none
 | k + 1, x0, x1, x26 => if x26 = true then ((lanyardlaw04_awake.f).bind fun t258 => (some t258)) else ((flate_Deflate.f x0).bind fun bt259 => ((flate_Stored.f x0).bind fun t263 => (lanyardlaw04_FlateCuts.l0 k x0 x1 (([bt259.1, t263] : List (List Int))) 0)))
def lanyardlaw04_FlateCuts.l0 : Nat → List Int → Int → List (List Int) → Int → Option (Bool)
 | 0, _, _, _, _ => none
 | k + 1, x0, x1, x8, x9 => if x9 < 2 then (if 0 ≤ x9 then (if x9 < (x8.length : Int) then (if ((rd_L2 x8 x9).length : Int) = 0 then (none) else (if 0 ≤ (Int.tmod (wrap64 ((Int.tmod x1 ((rd_L2 x8 x9).length : Int)) + ((rd_L2 x8 x9).length : Int))) ((rd_L2 x8 x9).length : Int)) then (if (Int.tmod (wrap64 ((Int.tmod x1 ((rd_L2 x8 x9).length : Int)) + ((rd_L2 x8 x9).length : Int))) ((rd_L2 x8 x9).length : Int)) ≤ ((rd_L2 x8 x9).length : Int) then ((flate_Inflate.f ((rd_L2 x8 x9).take ((Int.tmod (wrap64 ((Int.tmod x1 ((rd_L2 x8 x9).length : Int)) + ((rd_L2 x8 x9).length : Int))) ((rd_L2 x8 x9).length : Int)) : Int).toNat) 1048576).bind fun bt278 => (if bt278.2.2 = 11 then (if bt278.2.1 = 0 then (lanyardlaw04_FlateCuts.j2 k x0 x1 x8 x9 ((bt278.1.length : Int) != 0)) else (lanyardlaw04_FlateCuts.j2 k x0 x1 x8 x9 true)) else (lanyardlaw04_FlateCuts.j2 k x0 x1 x8 x9 true))) else (none)) else (none))) else (none)) else (none)) else (some true)
def lanyardlaw04_FlateCuts.j2 : Nat → List Int → Int → List (List Int) → Int → Bool → Option (Bool)
 | 0, _, _, _, _, _ => none
 | k + 1, x0, x1, x8, x9, x82 => if x82 = true then (some false) else (if 0 ≤ x9 then (if x9 < (x8.length : Int) then ((flate_Inflate.f (rd_L2 x8 x9) (x0.length : Int)).bind fun bt284 => (if bt284.2.2 = 0 then ((flate_Inflate.f (rd_L2 x8 x9) (wrap64 ((x0.length : Int) - 1))).bind fun bt290 => (if (x0.length : Int) > 0 then (if bt290.2.2 = 12 then (lanyardlaw04_FlateCuts.l0 k x0 x1 x8 (wrap64 (x9 + 1))) else (some false)) else (lanyardlaw04_FlateCuts.l0 k x0 x1 x8 (wrap64 (x9 + 1))))) else (some false))) else (none)) else (none))
end
def lanyardlaw04_FlateCuts.f (k : Nat) (l0 : List Int) (a1 : Int) : Option (Bool) := (lanyardlaw04_awake.f).bind fun t257 => (if t257 = true then (lanyardlaw04_FlateCuts.j0 k l0 a1 (decide ((l0.length : Int) > 600))) else (lanyardlaw04_FlateCuts.j0 k l0 a1 true))
theorem lanyardlaw04_FlateCuts.mono_l : ∀ k, (∀ y0 y1 y2, LeO (lanyardlaw04_FlateCuts.j0 k y0 y1 y2) (lanyardlaw04_FlateCuts.j0 (k + 1) y0 y1 y2)) ∧ (∀ y0 y1 y2 y3, LeO (lanyardlaw04_FlateCuts.l0 k y0 y1 y2 y3) (lanyardlaw04_FlateCuts.l0 (k + 1) y0 y1 y2 y3)) ∧ (∀ y0 y1 y2 y3 y4, LeO (lanyardlaw04_FlateCuts.j2 k y0 y1 y2 y3 y4) (lanyardlaw04_FlateCuts.j2 (k + 1) y0 y1 y2 y3 y4))
 | 0 => ⟨fun _ _ _ r h => by simp [lanyardlaw04_FlateCuts.j0] at h, fun _ _ _ _ r h => by simp [lanyardlaw04_FlateCuts.l0] at h, fun _ _ _ _ _ r h => by simp [lanyardlaw04_FlateCuts.j2] at h⟩
 | k + 1 => by
  obtain ⟨ih0, ih1, ih2⟩ := lanyardlaw04_FlateCuts.mono_l k
  refine ⟨?_, ?_, ?_⟩
  ·intro y0 y1 y2
   unfold lanyardlaw04_FlateCuts.j0
   repeat' first
   | (with_reducible exact ih0 _ _ _)
   | (with_reducible exact ih1 _ _ _ _)
   | (with_reducible exact ih2 _ _ _ _ _)
   | (with_reducible exact LeO.refl _)
   | (with_reducible exact LeO.none _)
   | (with_reducible refine LeO.ite ?_ ?_)
   | (with_reducible refine LeO.bind ?_ (fun _ => ?_))
   | exact ih0 _ _ _
   | exact ih1 _ _ _ _
   | exact ih2 _ _ _ _ _
   | exact LeO.none _
   | refine LeO.ite ?_ ?_
   | refine LeO.bind ?_ (fun _ => ?_)
  ·intro y0 y1 y2 y3
   unfold lanyardlaw04_FlateCuts.l0
   repeat' first
   | (with_reducible exact ih0 _ _ _)
   | (with_reducible exact ih1 _ _ _ _)
   | (with_reducible exact ih2 _ _ _ _ _)
   | (with_reducible exact LeO.refl _)
   | (with_reducible exact LeO.none _)
   | (with_reducible refine LeO.ite ?_ ?_)
   | (with_reducible refine LeO.bind ?_ (fun _ => ?_))
   | exact ih0 _ _ _
   | exact ih1 _ _ _ _
   | exact ih2 _ _ _ _ _
   | exact LeO.none _
   | refine LeO.ite ?_ ?_
   | refine LeO.bind ?_ (fun _ => ?_)
  ·intro y0 y1 y2 y3 y4
   unfold lanyardlaw04_FlateCuts.j2
   repeat' first
   | (with_reducible exact ih0 _ _ _)
   | (with_reducible exact ih1 _ _ _ _)
   | (with_reducible exact ih2 _ _ _ _ _)
   | (with_reducible exact LeO.refl _)
   | (with_reducible exact LeO.none _)
   | (with_reducible refine LeO.ite ?_ ?_)
   | (with_reducible refine LeO.bind ?_ (fun _ => ?_))
   | exact ih0 _ _ _
   | exact ih1 _ _ _ _
   | exact ih2 _ _ _ _ _
   | exact LeO.none _
   | refine LeO.ite ?_ ?_
   | refine LeO.bind ?_ (fun _ => ?_)
theorem lanyardlaw04_FlateCuts.mono : ∀ a0 a1 k, LeO (lanyardlaw04_FlateCuts.f k a0 a1) (lanyardlaw04_FlateCuts.f (k + 1) a0 a1) := by
 intro a0 a1 k
 obtain ⟨ih0, ih1, ih2⟩ := lanyardlaw04_FlateCuts.mono_l k
 unfold lanyardlaw04_FlateCuts.f
 repeat' first
   | (with_reducible exact ih0 _ _ _)
   | (with_reducible exact ih1 _ _ _ _)
   | (with_reducible exact ih2 _ _ _ _ _)
   | (with_reducible exact LeO.refl _)
   | (with_reducible exact LeO.none _)
   | (with_reducible refine LeO.ite ?_ ?_)
   | (with_reducible refine LeO.bind ?_ (fun _ => ?_))
   | exact ih0 _ _ _
   | exact ih1 _ _ _ _
   | exact ih2 _ _ _ _ _
   | exact LeO.none _
   | refine LeO.ite ?_ ?_
   | refine LeO.bind ?_ (fun _ => ?_)
set_option maxHeartbeats 8000000 in
set_option maxRecDepth 100000 in
theorem lanyardlaw04_FlateCuts.calls (k : Nat) (A0 : Option Addr) (c0 : Nat) (l0 : List Int) (a1 : Int) (r : Bool) (w : World) (hr0 : Kd.C (Kd.int .u8) w A0 l0.length l0) (hc0 : l0.length ≤ c0) (h : lanyardlaw04_FlateCuts.f k l0 a1 = some r) (hr_ : r = true := by rfl) :
  Calls Try.prog 6 #[.slice A0 l0.length c0, .int .i64 a1] w fun e w' => e = .returned (.bool r) ∧ Below w.heap.size w w' := by
 have HR_ := Aside0.mk hr_
 clear hr_
 have HR0 := Aside0.mk hr0
 have HC0 := Aside0.mk hc0
 clear hr0 hc0
 have HB := Aside0.mk (Below.refl w.heap.size w)
 have H : ((lanyardlaw04_awake.f).bind fun t257 => (if t257 = true then (lanyardlaw04_FlateCuts.j0 k l0 a1 (decide ((l0.length : Int) > 600))) else (lanyardlaw04_FlateCuts.j0 k l0 a1 true))) = some r := h
 clear h
 have HC3 := Aside0.mk H
 clear H
 go_enter Try.func6, Try.ntmps6
 go_upto_region 1 with (fail)
 repeat (go_quiet (fail); go_upto_region 1 with (fail))
 go_cut [26] (fun v26 wc => ∃ (kq : Nat) (x26_2 : Bool), v26 = .bool x26_2 ∧ Aside0 (lanyardlaw04_FlateCuts.j0 kq l0 a1 x26_2 = some r) ∧ Aside0 (kq ≤ k) ∧ Aside0 (Below w.heap.size w wc))
 case first =>
  have H := HC3.out
  clear HC3
  replace H := Option.bind_eq_some_iff.mp H
  obtain ⟨t257, A40, H⟩ := H
  replace H : (if t257 = true then (lanyardlaw04_FlateCuts.j0 k l0 a1 (decide ((l0.length : Int) > 600))) else (lanyardlaw04_FlateCuts.j0 k l0 a1 true)) = some r := H
  have A4 := Aside0.mk A40
  clear A40
  by_cases c5 : t257 = true
  ·subst c5
   have H1 : (lanyardlaw04_FlateCuts.j0 k l0 a1 (decide ((l0.length : Int) > 600))) = some r := by rw [if_pos rfl] at H; exact H
   clear H
   have H := H1
   clear H1
   have H' := Aside0.mk H
   clear H
   go_wp2_with (first | (go_at_call 9; (with_reducible refine (lanyardlaw04_awake.calls  true _ A4.out).mono ?_); rintro e w6 ⟨rfl, hb⟩; have n0_ := Bs HB hb; clear HB; revert n0_; intro HB; (try clear hb); (try clear hb2); (try clear hk); (try clear hi)))
   repeat (go_quiet (first | (go_at_call 9; (with_reducible refine (lanyardlaw04_awake.calls  true _ A4.out).mono ?_); rintro e w6 ⟨rfl, hb⟩; have n0_ := Bs HB hb; clear HB; revert n0_; intro HB; (try clear hb); (try clear hb2); (try clear hk); (try clear hi))); try go_wp2_with (first | (go_at_call 9; (with_reducible refine (lanyardlaw04_awake.calls  true _ A4.out).mono ?_); rintro e w6 ⟨rfl, hb⟩; have n0_ := Bs HB hb; clear HB; revert n0_; intro HB; (try clear hb); (try clear hb2); (try clear hk); (try clear hi))))
   go_meet
   case rel => exact ⟨_, (decide ((l0.length : Int) > 600)), (by first | rfl | (simp; done) | (simp [*]; done)), H', ⟨by first | omega | exact Nat.le_refl _⟩, ⟨Bu HB⟩⟩
  ·replace c5 := Bool.eq_false_iff.mpr c5
   subst c5
   have H1 : (lanyardlaw04_FlateCuts.j0 k l0 a1 true) = some r := by rw [if_neg (show ¬ (false = true) by decide)] at H; exact H
   clear H
   have H := H1
   clear H1
   have H' := Aside0.mk H
   clear H
   go_wp2_with (first | (go_at_call 9; (with_reducible refine (lanyardlaw04_awake.calls  false _ A4.out).mono ?_); rintro e w7 ⟨rfl, hb⟩; have n0_ := Bs HB hb; clear HB; revert n0_; intro HB; (try clear hb); (try clear hb2); (try clear hk); (try clear hi)))
   repeat (go_quiet (first | (go_at_call 9; (with_reducible refine (lanyardlaw04_awake.calls  false _ A4.out).mono ?_); rintro e w7 ⟨rfl, hb⟩; have n0_ := Bs HB hb; clear HB; revert n0_; intro HB; (try clear hb); (try clear hb2); (try clear hk); (try clear hi))); try go_wp2_with (first | (go_at_call 9; (with_reducible refine (lanyardlaw04_awake.calls  false _ A4.out).mono ?_); rintro e w7 ⟨rfl, hb⟩; have n0_ := Bs HB hb; clear HB; revert n0_; intro HB; (try clear hb); (try clear hb2); (try clear hk); (try clear hi))))
   go_meet
   case rel => exact ⟨_, (true), (by first | rfl | (simp; done) | (simp [*]; done)), H', ⟨by first | omega | exact Nat.le_refl _⟩, ⟨Bu HB⟩⟩
 case rest =>
  clear HC3
  try clear p2
  try clear c5
  try clear c6
  obtain ⟨kq, x26_2, rfl, HA, HJ2, HB⟩ := hcut
  cases kq with
  | zero => exact absurd HA.out (by simp [lanyardlaw04_FlateCuts.j0])
  | succ kj2 =>
   have H := HA.out
   clear HA
   simp only [lanyardlaw04_FlateCuts.j0] at H
   by_cases c8 : x26_2 = true
   ·subst c8
    have H1 : ((lanyardlaw04_awake.f).bind fun t258 => (some t258)) = some r := by rw [if_pos rfl] at H; exact H
    clear H
    have H := H1
    clear H1
    replace H := Option.bind_eq_some_iff.mp H
    obtain ⟨t258, A90, H⟩ := H
    replace H : (some t258) = some r := H
    have A9 := Aside0.mk A90
    clear A90
    obtain rfl := Option.some.inj H
    go_wp2_with (first | (go_at_call 9; (with_reducible refine (lanyardlaw04_awake.calls  t258 _ A9.out).mono ?_); rintro e w10 ⟨rfl, hb⟩; have n0_ := Bs HB hb; clear HB; revert n0_; intro HB; (try clear hb); (try clear hb2); (try clear hk); (try clear hi)))
    repeat (go_quiet (first | (go_at_call 9; (with_reducible refine (lanyardlaw04_awake.calls  t258 _ A9.out).mono ?_); rintro e w10 ⟨rfl, hb⟩; have n0_ := Bs HB hb; clear HB; revert n0_; intro HB; (try clear hb); (try clear hb2); (try clear hk); (try clear hi))); try go_wp2_with (first | (go_at_call 9; (with_reducible refine (lanyardlaw04_awake.calls  t258 _ A9.out).mono ?_); rintro e w10 ⟨rfl, hb⟩; have n0_ := Bs HB hb; clear HB; revert n0_; intro HB; (try clear hb); (try clear hb2); (try clear hk); (try clear hi))))
    go_ret
    exact ⟨rfl_, Bu HB⟩
   ·replace c8 := Bool.eq_false_iff.mpr c8
    subst c8
    have H1 : ((flate_Deflate.f l0).bind fun bt259 => ((flate_Stored.f l0).bind fun t263 => (lanyardlaw04_FlateCuts.l0 kj2 l0 a1 (([bt259.1, t263] : List (List Int))) 0))) = some r := by rw [if_neg (show ¬ (false = true) by decide)] at H; exact H
    clear H
    have H := H1
    clear H1
    replace H := Option.bind_eq_some_iff.mp H
    obtain ⟨⟨t259, t260⟩, A110, H⟩ := H
    replace H : ((flate_Stored.f l0).bind fun t263 => (lanyardlaw04_FlateCuts.l0 kj2 l0 a1 (([t259, t263] : List (List Int))) 0)) = some r := H
    have A11 := Aside0.mk A110
    clear A110
    replace H := Option.bind_eq_some_iff.mp H
    obtain ⟨t263, A120, H⟩ := H
    replace H : (lanyardlaw04_FlateCuts.l0 kj2 l0 a1 (([t259, t263] : List (List Int))) 0) = some r := H
    have A12 := Aside0.mk A120
    clear A120
    obtain ⟨y266, hy266⟩ : ∃ y_ : List (List Int), y_ = (([t259, t263] : List (List Int))) := ⟨_, rfl⟩
    replace H : (lanyardlaw04_FlateCuts.l0 kj2 l0 a1 y266 0) = some r := by first | (rw [hy266]; with_reducible exact H) | (have H2_ := (Option.bind_some _ _).symm.trans H; rw [hy266]; with_reducible exact H2_) | (have H2_ := (Option.bind_some _ _).symm.trans H; with_reducible exact H2_) | with_reducible exact H | (rw [hy266]; exact H) | exact H
    have Ny266 := Aside0.mk hy266
    clear hy266
    have H' := Aside0.mk H
    clear H
    go_wp2_with (first | (go_at_call 10; (with_reducible refine (flate_Deflate.calls _ _ l0 t259 t260 _ ?side1 ?side2 A11.out).mono ?_); (case side1 => exact Cu (Kd.C_below HR0.out HB.out)); (case side2 => exact HC0.out); rintro e w13 ⟨v261, rfl, ho0, hb⟩; have n0_ := Aside0.mk (Kd.R_lower ho0 (Bz HB)); have n1_ := Bs HB hb; clear HB; revert n0_ n1_; intro HO262 HB; (try clear hb); (try clear hb2); (try clear hk); (try clear hi); (try clear ho0)) | (go_at_call 11; (with_reducible refine (flate_Stored.calls _ _ l0 t263 _ ?side1 ?side2 A12.out).mono ?_); (case side1 => exact Cu (Kd.C_below HR0.out HB.out)); (case side2 => exact HC0.out); rintro e w14 ⟨v264, rfl, ho0, hb⟩; have n0_ := Re HO262 (Kd.R_base ho0) hb; have n1_ := Aside0.mk (Kd.R_lower (Kd.R_new' ho0 (Kd.R_lt (Ru HO262))) (Bz HB)); have n2_ := Bs HB hb; clear HO262 HB; revert n0_ n1_ n2_; intro HO262 HO265 HB; (try clear hb); (try clear hb2); (try clear hk); (try clear hi); (try clear ho0); obtain ⟨Ao15, co15, eo15⟩ := Kd.R_slice HO262.out; subst eo15; obtain ⟨Ao16, co16, eo16⟩ := Kd.R_slice HO265.out; subst eo16) | ((with_reducible refine gate_dst (N := 37) rfl ?_); (try (refine gate_guard (by rfl) ?_; dsimp only)); refine Kd.N_lit (Kd.slice 5 (Kd.int .u8)) _ 22 ?hg (N' := 37) ?hd (xs := ([t259, t263] : List (List Int))) (inner := [.slice Ao15 t259.length co15, .slice Ao16 t263.length co16]) (ok := (fun _ => True)) (okp := (fun _ => True)) ?hr ?hp (fun _ hk => hk) ((show ∀ k_, w14.heap.size ≤ k_ → (fun _ => True) k_ from fun k_ hk => trivial) _ (Nat.le_refl _)) (Below.refl _ _) (Nat.le_refl _) (by simp) ?_; (case hd => rfl); (case hg => rfl); (case hr => first | (go_simp; done) | (go_simp; rfl)); (case hp => exact (Reps.one (show Kd.FK (Kd.slice 5 (Kd.int .u8)) _ _ t259 [.slice Ao15 t259.length co15] from (Kd.FK_slice_mk (Kd.R_reads' (Kd.R_mono (ok' := (fun _ => True)) (HO262.out) (fun k_ hk => trivial))).2.1 (Kd.R_F (Kd.R_mono (ok' := (fun _ => True)) (HO262.out) (fun k_ hk => trivial))))) (Reps.one (show Kd.FK (Kd.slice 5 (Kd.int .u8)) _ _ t263 [.slice Ao16 t263.length co16] from (Kd.FK_slice_mk (Kd.R_reads' (Kd.R_mono (ok' := (fun _ => True)) (HO265.out) (fun k_ hk => trivial))).2.1 (Kd.R_F (Kd.R_mono (ok' := (fun _ => True)) (HO265.out) (fun k_ hk => trivial))))) (Reps.none _ _)))); intro v267 w17 ho18 hb hg_ hnew_; clear hg_ hnew_; (first | rw [← Ny266.out] at ho18 | (simp only [Int.reduceToNat] at ho18; rw [← Ny266.out] at ho18)); have n0_ := Aside0.mk (Kd.N_lower ho18 (Bz HB)); have n1_ := Bs HB hb; clear HB HO262 HO265; revert n0_ n1_; intro HO268 HB; clear hb ho18))
    repeat (go_quiet (first | (go_at_call 10; (with_reducible refine (flate_Deflate.calls _ _ l0 t259 t260 _ ?side1 ?side2 A11.out).mono ?_); (case side1 => exact Cu (Kd.C_below HR0.out HB.out)); (case side2 => exact HC0.out); rintro e w13 ⟨v261, rfl, ho0, hb⟩; have n0_ := Aside0.mk (Kd.R_lower ho0 (Bz HB)); have n1_ := Bs HB hb; clear HB; revert n0_ n1_; intro HO262 HB; (try clear hb); (try clear hb2); (try clear hk); (try clear hi); (try clear ho0)) | (go_at_call 11; (with_reducible refine (flate_Stored.calls _ _ l0 t263 _ ?side1 ?side2 A12.out).mono ?_); (case side1 => exact Cu (Kd.C_below HR0.out HB.out)); (case side2 => exact HC0.out); rintro e w14 ⟨v264, rfl, ho0, hb⟩; have n0_ := Re HO262 (Kd.R_base ho0) hb; have n1_ := Aside0.mk (Kd.R_lower (Kd.R_new' ho0 (Kd.R_lt (Ru HO262))) (Bz HB)); have n2_ := Bs HB hb; clear HO262 HB; revert n0_ n1_ n2_; intro HO262 HO265 HB; (try clear hb); (try clear hb2); (try clear hk); (try clear hi); (try clear ho0); obtain ⟨Ao15, co15, eo15⟩ := Kd.R_slice HO262.out; subst eo15; obtain ⟨Ao16, co16, eo16⟩ := Kd.R_slice HO265.out; subst eo16) | ((with_reducible refine gate_dst (N := 37) rfl ?_); (try (refine gate_guard (by rfl) ?_; dsimp only)); refine Kd.N_lit (Kd.slice 5 (Kd.int .u8)) _ 22 ?hg (N' := 37) ?hd (xs := ([t259, t263] : List (List Int))) (inner := [.slice Ao15 t259.length co15, .slice Ao16 t263.length co16]) (ok := (fun _ => True)) (okp := (fun _ => True)) ?hr ?hp (fun _ hk => hk) ((show ∀ k_, w14.heap.size ≤ k_ → (fun _ => True) k_ from fun k_ hk => trivial) _ (Nat.le_refl _)) (Below.refl _ _) (Nat.le_refl _) (by simp) ?_; (case hd => rfl); (case hg => rfl); (case hr => first | (go_simp; done) | (go_simp; rfl)); (case hp => exact (Reps.one (show Kd.FK (Kd.slice 5 (Kd.int .u8)) _ _ t259 [.slice Ao15 t259.length co15] from (Kd.FK_slice_mk (Kd.R_reads' (Kd.R_mono (ok' := (fun _ => True)) (HO262.out) (fun k_ hk => trivial))).2.1 (Kd.R_F (Kd.R_mono (ok' := (fun _ => True)) (HO262.out) (fun k_ hk => trivial))))) (Reps.one (show Kd.FK (Kd.slice 5 (Kd.int .u8)) _ _ t263 [.slice Ao16 t263.length co16] from (Kd.FK_slice_mk (Kd.R_reads' (Kd.R_mono (ok' := (fun _ => True)) (HO265.out) (fun k_ hk => trivial))).2.1 (Kd.R_F (Kd.R_mono (ok' := (fun _ => True)) (HO265.out) (fun k_ hk => trivial))))) (Reps.none _ _)))); intro v267 w17 ho18 hb hg_ hnew_; clear hg_ hnew_; (first | rw [← Ny266.out] at ho18 | (simp only [Int.reduceToNat] at ho18; rw [← Ny266.out] at ho18)); have n0_ := Aside0.mk (Kd.N_lower ho18 (Bz HB)); have n1_ := Bs HB hb; clear HB HO262 HO265; revert n0_ n1_; intro HO268 HB; clear hb ho18)); try go_wp2_with (first | (go_at_call 10; (with_reducible refine (flate_Deflate.calls _ _ l0 t259 t260 _ ?side1 ?side2 A11.out).mono ?_); (case side1 => exact Cu (Kd.C_below HR0.out HB.out)); (case side2 => exact HC0.out); rintro e w13 ⟨v261, rfl, ho0, hb⟩; have n0_ := Aside0.mk (Kd.R_lower ho0 (Bz HB)); have n1_ := Bs HB hb; clear HB; revert n0_ n1_; intro HO262 HB; (try clear hb); (try clear hb2); (try clear hk); (try clear hi); (try clear ho0)) | (go_at_call 11; (with_reducible refine (flate_Stored.calls _ _ l0 t263 _ ?side1 ?side2 A12.out).mono ?_); (case side1 => exact Cu (Kd.C_below HR0.out HB.out)); (case side2 => exact HC0.out); rintro e w14 ⟨v264, rfl, ho0, hb⟩; have n0_ := Re HO262 (Kd.R_base ho0) hb; have n1_ := Aside0.mk (Kd.R_lower (Kd.R_new' ho0 (Kd.R_lt (Ru HO262))) (Bz HB)); have n2_ := Bs HB hb; clear HO262 HB; revert n0_ n1_ n2_; intro HO262 HO265 HB; (try clear hb); (try clear hb2); (try clear hk); (try clear hi); (try clear ho0); obtain ⟨Ao15, co15, eo15⟩ := Kd.R_slice HO262.out; subst eo15; obtain ⟨Ao16, co16, eo16⟩ := Kd.R_slice HO265.out; subst eo16) | ((with_reducible refine gate_dst (N := 37) rfl ?_); (try (refine gate_guard (by rfl) ?_; dsimp only)); refine Kd.N_lit (Kd.slice 5 (Kd.int .u8)) _ 22 ?hg (N' := 37) ?hd (xs := ([t259, t263] : List (List Int))) (inner := [.slice Ao15 t259.length co15, .slice Ao16 t263.length co16]) (ok := (fun _ => True)) (okp := (fun _ => True)) ?hr ?hp (fun _ hk => hk) ((show ∀ k_, w14.heap.size ≤ k_ → (fun _ => True) k_ from fun k_ hk => trivial) _ (Nat.le_refl _)) (Below.refl _ _) (Nat.le_refl _) (by simp) ?_; (case hd => rfl); (case hg => rfl); (case hr => first | (go_simp; done) | (go_simp; rfl)); (case hp => exact (Reps.one (show Kd.FK (Kd.slice 5 (Kd.int .u8)) _ _ t259 [.slice Ao15 t259.length co15] from (Kd.FK_slice_mk (Kd.R_reads' (Kd.R_mono (ok' := (fun _ => True)) (HO262.out) (fun k_ hk => trivial))).2.1 (Kd.R_F (Kd.R_mono (ok' := (fun _ => True)) (HO262.out) (fun k_ hk => trivial))))) (Reps.one (show Kd.FK (Kd.slice 5 (Kd.int .u8)) _ _ t263 [.slice Ao16 t263.length co16] from (Kd.FK_slice_mk (Kd.R_reads' (Kd.R_mono (ok' := (fun _ => True)) (HO265.out) (fun k_ hk => trivial))).2.1 (Kd.R_F (Kd.R_mono (ok' := (fun _ => True)) (HO265.out) (fun k_ hk => trivial))))) (Reps.none _ _)))); intro v267 w17 ho18 hb hg_ hnew_; clear hg_ hnew_; (first | rw [← Ny266.out] at ho18 | (simp only [Int.reduceToNat] at ho18; rw [← Ny266.out] at ho18)); have n0_ := Aside0.mk (Kd.N_lower ho18 (Bz HB)); have n1_ := Bs HB hb; clear HB HO262 HO265; revert n0_ n1_; intro HO268 HB; clear hb ho18)))
    go_loopg [9] kj2 (fun kq v9 w' => ∃ (x9_2 : Int), v9 = .int .i64 x9_2 ∧ Aside0 (lanyardlaw04_FlateCuts.l0 kq l0 a1 y266 x9_2 = some r) ∧ Aside0 (kq ≤ kj2) ∧ Aside0 (Kd.N (Kd.slice 5 (Kd.int .u8)) 22 w' w.heap.size (fun _ => True) v267 y266) ∧ Aside0 (Below w.heap.size w w'))
    case atStart => exact ⟨(0), (by first | rfl | (simp; done) | (simp [*]; done)), H', ⟨Nat.le_refl _⟩, ⟨Nu HO268⟩, ⟨Bu HB⟩⟩
    case round =>
     clear H'
     try clear p2
     try clear c5
     try clear c6
     try clear c8
     try clear p2
     obtain ⟨x9_2, rfl, HA, HK2, HO_8, HB⟩ := hrel
     cases gk with
     | zero => exact absurd HA.out (by simp [lanyardlaw04_FlateCuts.l0])
     | succ k2 =>
      have H := HA.out
      clear HA
      simp only [lanyardlaw04_FlateCuts.l0] at H
      by_cases c19 : x9_2 < 2
      ·rw [if_pos c19] at H
       have c19b0 : decide (x9_2 < 2) = true := decide_eq_true c19
       clear c19
       by_cases c20 : 0 ≤ x9_2
       ·rw [if_pos c20] at H
        have c20b0 : decide (0 ≤ x9_2) = true := decide_eq_true c20
        clear c20
        by_cases c21 : x9_2 < (y266.length : Int)
        ·rw [if_pos c21] at H
         have c21b0 : decide (x9_2 < (y266.length : Int)) = true := decide_eq_true c21
         clear c21
         by_cases c22 : ((rd_L2 y266 x9_2).length : Int) = 0
         ·rw [if_pos c22] at H
          exact absurd H (by simp)
         ·rw [if_neg c22] at H
          have c22b0 : (((rd_L2 y266 x9_2).length : Int) == 0) = false := beq_eq_false_iff_ne.mpr c22
          have c22b1 : (((rd_L2 y266 x9_2).length : Int) != 0) = true := bne_iff_ne.mpr c22
          have c22b2 : ¬ ((rd_L2 y266 x9_2) = []) := fun h_ => c22 (by rw [h_]; rfl)
          obtain ⟨ji23, hji23⟩ : ∃ j_ : Int, (Int.tmod (wrap64 ((Int.tmod a1 ((rd_L2 y266 x9_2).length : Int)) + ((rd_L2 y266 x9_2).length : Int))) ((rd_L2 y266 x9_2).length : Int)) = j_ := ⟨_, rfl⟩
          replace H : (if 0 ≤ (ji23) then (if (ji23) ≤ ((rd_L2 y266 x9_2).length : Int) then ((flate_Inflate.f ((rd_L2 y266 x9_2).take ((ji23) : Int).toNat) 1048576).bind fun bt278 => (if bt278.2.2 = 11 then (if bt278.2.1 = 0 then (lanyardlaw04_FlateCuts.j2 k2 l0 a1 y266 x9_2 ((bt278.1.length : Int) != 0)) else (lanyardlaw04_FlateCuts.j2 k2 l0 a1 y266 x9_2 true)) else (lanyardlaw04_FlateCuts.j2 k2 l0 a1 y266 x9_2 true))) else (none)) else (none)) = some r := by first | (rw [hji23] at H; exact H) | (simp only [hji23] at H ⊢; exact H)
          by_cases c24 : 0 ≤ (ji23)
          ·rw [if_pos c24] at H
           have c24b0 := eq_true c24
           have c24b1 : decide (0 ≤ (ji23)) = true := decide_eq_true c24
           clear c24
           by_cases c25 : (ji23) ≤ ((rd_L2 y266 x9_2).length : Int)
           ·rw [if_pos c25] at H
            have c25b0 := eq_true c25
            have c25b1 : decide ((ji23) ≤ ((rd_L2 y266 x9_2).length : Int)) = true := decide_eq_true c25
            clear c25
            obtain ⟨y273, hy273⟩ : ∃ y_ : List Int, y_ = ((rd_L2 y266 x9_2).take ((ji23) : Int).toNat) := ⟨_, rfl⟩
            replace H : ((flate_Inflate.f y273 1048576).bind fun bt278 => (if bt278.2.2 = 11 then (if bt278.2.1 = 0 then (lanyardlaw04_FlateCuts.j2 k2 l0 a1 y266 x9_2 ((bt278.1.length : Int) != 0)) else (lanyardlaw04_FlateCuts.j2 k2 l0 a1 y266 x9_2 true)) else (lanyardlaw04_FlateCuts.j2 k2 l0 a1 y266 x9_2 true))) = some r := by first | (rw [hy273]; with_reducible exact H) | (have H2_ := (Option.bind_some _ _).symm.trans H; rw [hy273]; with_reducible exact H2_) | (have H2_ := (Option.bind_some _ _).symm.trans H; with_reducible exact H2_) | with_reducible exact H | (rw [hy273]; exact H) | exact H
            have Ny273 := Aside0.mk hy273
            clear hy273
            replace H := Option.bind_eq_some_iff.mp H
            obtain ⟨⟨t278, t279, t280⟩, A260, H⟩ := H
            replace H : (if t280 = 11 then (if t279 = 0 then (lanyardlaw04_FlateCuts.j2 k2 l0 a1 y266 x9_2 ((t278.length : Int) != 0)) else (lanyardlaw04_FlateCuts.j2 k2 l0 a1 y266 x9_2 true)) else (lanyardlaw04_FlateCuts.j2 k2 l0 a1 y266 x9_2 true)) = some r := H
            have A26 := Aside0.mk A260
            clear A260
            have HC27 := Aside0.mk H
            clear H
            obtain ⟨Ao28, co28, eo28⟩ := Kd.N_slice HO_8.out
            subst eo28
            have p269 : 0 ≤ (x9_2 : Int) := of_decide_eq_true (by first | (with_reducible assumption) | assumption)
            have q269 : x9_2 < (y266.length : Int) := of_decide_eq_true (by first | (with_reducible assumption) | assumption)
            obtain ⟨ad269, A269_0, c269_0, e269, hx269_0, hl269_0, hi269_0⟩ := at_L2 (Kd.N_reads' HO_8.out).2.2 x9_2 p269 q269
            cases e269
            obtain ⟨ce269, hce269, hMe269, hcc269⟩ := Kd.N_get HO_8.out [] x9_2 p269 (by first | exact q269 | exact of_decide_eq_true (by first | (with_reducible assumption) | assumption) | (have e_ := (Kd.N_reads' HO_8.out).1; omega))
            obtain ⟨ua269_0, uc269_0, rfl, ul269_0, ge269_0⟩ := Kd.FK_slice_open hMe269
            have hv269_0 := hcc269 0 _ rfl
            rw [Nat.add_zero, show ((Kd.slice 5 (Kd.int .u8))).sz = 1 from rfl, Nat.mul_one] at hv269_0
            replace hv269_0 := Option.some.inj (hv269_0.symm.trans hx269_0)
            injection hv269_0 with hva_ hvn_ hvc_
            rw [hva_] at ge269_0
            rw [hvc_] at ul269_0
            have HL269_0 := Aside0.mk (show Kd.V (Kd.int .u8) 5 _ w.heap.size _ _ (rd_L2 y266 x9_2) from Kd.V_mk ul269_0 ge269_0)
            clear hva_ hvn_ hvc_ ge269_0 ul269_0
            clear hcc269 hce269
            have HR269_0 := Aside0.mk hi269_0
            have HC269_0 := Aside0.mk hl269_0
            clear hi269_0 hl269_0
            replace p269 := eq_true p269
            replace q269 := eq_true q269
            have p270 : 0 ≤ (x9_2 : Int) := of_decide_eq_true (by first | (with_reducible assumption) | assumption)
            have q270 : x9_2 < (y266.length : Int) := of_decide_eq_true (by first | (with_reducible assumption) | assumption)
            obtain ⟨ad270, A270_0, c270_0, e270, hx270_0, hl270_0, hi270_0⟩ := at_L2 (Kd.N_reads' HO_8.out).2.2 x9_2 p270 q270
            obtain rfl : ad269 = ad270 := (by injection e270)
            obtain ⟨ce270, hce270, hMe270, hcc270⟩ := Kd.N_get HO_8.out [] x9_2 p270 (by first | exact q270 | exact of_decide_eq_true (by first | (with_reducible assumption) | assumption) | (have e_ := (Kd.N_reads' HO_8.out).1; omega))
            obtain ⟨ua270_0, uc270_0, rfl, ul270_0, ge270_0⟩ := Kd.FK_slice_open hMe270
            have hv270_0 := hcc270 0 _ rfl
            rw [Nat.add_zero, show ((Kd.slice 5 (Kd.int .u8))).sz = 1 from rfl, Nat.mul_one] at hv270_0
            replace hv270_0 := Option.some.inj (hv270_0.symm.trans hx270_0)
            injection hv270_0 with hva_ hvn_ hvc_
            rw [hva_] at ge270_0
            rw [hvc_] at ul270_0
            have HL270_0 := Aside0.mk (show Kd.V (Kd.int .u8) 5 _ w.heap.size _ _ (rd_L2 y266 x9_2) from Kd.V_mk ul270_0 ge270_0)
            clear hva_ hvn_ hvc_ ge270_0 ul270_0
            clear hcc270 hce270
            have HR270_0 := Aside0.mk hi270_0
            have HC270_0 := Aside0.mk hl270_0
            clear hi270_0 hl270_0
            replace p270 := eq_true p270
            replace q270 := eq_true q270
            have ea_ := Option.some.inj (hx269_0.symm.trans hx270_0)
            injection ea_ with ea_ en_ ec_
            subst ea_
            subst ec_
            clear en_
            have p271 : 0 ≤ (x9_2 : Int) := of_decide_eq_true (by first | (with_reducible assumption) | assumption)
            have q271 : x9_2 < (y266.length : Int) := of_decide_eq_true (by first | (with_reducible assumption) | assumption)
            obtain ⟨ad271, A271_0, c271_0, e271, hx271_0, hl271_0, hi271_0⟩ := at_L2 (Kd.N_reads' HO_8.out).2.2 x9_2 p271 q271
            obtain rfl : ad269 = ad271 := (by injection e271)
            obtain ⟨ce271, hce271, hMe271, hcc271⟩ := Kd.N_get HO_8.out [] x9_2 p271 (by first | exact q271 | exact of_decide_eq_true (by first | (with_reducible assumption) | assumption) | (have e_ := (Kd.N_reads' HO_8.out).1; omega))
            obtain ⟨ua271_0, uc271_0, rfl, ul271_0, ge271_0⟩ := Kd.FK_slice_open hMe271
            have hv271_0 := hcc271 0 _ rfl
            rw [Nat.add_zero, show ((Kd.slice 5 (Kd.int .u8))).sz = 1 from rfl, Nat.mul_one] at hv271_0
            replace hv271_0 := Option.some.inj (hv271_0.symm.trans hx271_0)
            injection hv271_0 with hva_ hvn_ hvc_
            rw [hva_] at ge271_0
            rw [hvc_] at ul271_0
            have HL271_0 := Aside0.mk (show Kd.V (Kd.int .u8) 5 _ w.heap.size _ _ (rd_L2 y266 x9_2) from Kd.V_mk ul271_0 ge271_0)
            clear hva_ hvn_ hvc_ ge271_0 ul271_0
            clear hcc271 hce271
            have HR271_0 := Aside0.mk hi271_0
            have HC271_0 := Aside0.mk hl271_0
            clear hi271_0 hl271_0
            replace p271 := eq_true p271
            replace q271 := eq_true q271
            have ea_ := Option.some.inj (hx269_0.symm.trans hx271_0)
            injection ea_ with ea_ en_ ec_
            subst ea_
            subst ec_
            clear en_
            have p272 : 0 ≤ (x9_2 : Int) := of_decide_eq_true (by first | (with_reducible assumption) | assumption)
            have q272 : x9_2 < (y266.length : Int) := of_decide_eq_true (by first | (with_reducible assumption) | assumption)
            obtain ⟨ad272, A272_0, c272_0, e272, hx272_0, hl272_0, hi272_0⟩ := at_L2 (Kd.N_reads' HO_8.out).2.2 x9_2 p272 q272
            obtain rfl : ad269 = ad272 := (by injection e272)
            obtain ⟨ce272, hce272, hMe272, hcc272⟩ := Kd.N_get HO_8.out [] x9_2 p272 (by first | exact q272 | exact of_decide_eq_true (by first | (with_reducible assumption) | assumption) | (have e_ := (Kd.N_reads' HO_8.out).1; omega))
            obtain ⟨ua272_0, uc272_0, rfl, ul272_0, ge272_0⟩ := Kd.FK_slice_open hMe272
            have hv272_0 := hcc272 0 _ rfl
            rw [Nat.add_zero, show ((Kd.slice 5 (Kd.int .u8))).sz = 1 from rfl, Nat.mul_one] at hv272_0
            replace hv272_0 := Option.some.inj (hv272_0.symm.trans hx272_0)
            injection hv272_0 with hva_ hvn_ hvc_
            rw [hva_] at ge272_0
            rw [hvc_] at ul272_0
            have HL272_0 := Aside0.mk (show Kd.V (Kd.int .u8) 5 _ w.heap.size _ _ (rd_L2 y266 x9_2) from Kd.V_mk ul272_0 ge272_0)
            clear hva_ hvn_ hvc_ ge272_0 ul272_0
            clear hcc272 hce272
            have HR272_0 := Aside0.mk hi272_0
            have HC272_0 := Aside0.mk hl272_0
            clear hi272_0 hl272_0
            replace p272 := eq_true p272
            replace q272 := eq_true q272
            have ea_ := Option.some.inj (hx269_0.symm.trans hx272_0)
            injection ea_ with ea_ en_ ec_
            subst ea_
            subst ec_
            clear en_
            have q29 : ((ji23) : Int) ≤ (((rd_L2 y266 x9_2).length : Int) : Int) := of_decide_eq_true (by first | (with_reducible assumption) | assumption)
            obtain ⟨i029, hi029, _, hsz29, _⟩ := info_parts info5
            have hroom29 : (rd_L2 y266 x9_2).length ≤ c269_0 := HC272_0.out
            have hC29 : Kd.F (Kd.int .u8) _ _ A269_0 (rd_L2 y266 x9_2).length (rd_L2 y266 x9_2) := (Kd.V_at (base := w.heap.size) HL272_0.out).2.2
            have hcut29 := cut_to (P := Try.prog) 22 5 .i64 Try.underlying22 hi029 A269_0 (rd_L2 y266 x9_2).length c269_0 (ji23) (of_decide_eq_true (by first | (with_reducible assumption) | assumption)) q29 hroom29
            have hr29 := Kd.F_take (m := ((ji23) : Int).toNat) hC29 (by omega)
            have hy29 : y273.length = ((ji23) : Int).toNat := (by rw [Ny273.out, List.length_take]; omega)
            rw [← Ny273.out] at hr29
            rw [← hy29] at hcut29
            have HO277 := Aside0.mk (show Kd.V (Kd.int .u8) 5 _ w.heap.size _ (.slice A269_0 y273.length c269_0) y273 from Kd.V_mk (by omega) hr29)
            have HC277 := Aside0.mk (show y273.length ≤ c269_0 from by omega)
            clear hr29 hC29 hroom29 hi029 hsz29
            have KY29 := Aside0.mk hy29
            clear hy29
            replace q29 := eq_true q29
            go_upto_region 11 with (first | (go_at_call 14; (with_reducible refine (flate_Inflate.calls _ _ y273 1048576 t278 t279 t280 _ ?side1 ?side2 A26.out).mono ?_); (case side1 => exact Cu (Kd.V_reads' HO277.out).2.2); (case side2 => exact (Kd.V_reads' HO277.out).2.1); rintro e w30 ⟨v281, rfl, ho0, hb⟩; have n0_ := Ne HO_8 (Kd.R_base ho0) hb; have n1_ := Ve HL269_0 (Kd.R_base ho0) hb; have n2_ := Ve HL270_0 (Kd.R_base ho0) hb; have n3_ := Ve HL271_0 (Kd.R_base ho0) hb; have n4_ := Ve HL272_0 (Kd.R_base ho0) hb; have n5_ := Ve HO277 (Kd.R_base ho0) hb; have n6_ := Aside0.mk (Kd.R_lower ho0 (Bz HB)); have n7_ := Aside0.mk (Kd.C_below (by repeat (first | (with_reducible exact HR269_0.out) | (with_reducible refine Kd.C_alloc ?_ _) | (with_reducible refine Kd.C_drewN ?_ _) | (with_reducible refine Kd.C_drew ?_) | exact HR269_0.out)) hb); have n8_ := Aside0.mk (Kd.C_below (by repeat (first | (with_reducible exact HR270_0.out) | (with_reducible refine Kd.C_alloc ?_ _) | (with_reducible refine Kd.C_drewN ?_ _) | (with_reducible refine Kd.C_drew ?_) | exact HR270_0.out)) hb); have n9_ := Aside0.mk (Kd.C_below (by repeat (first | (with_reducible exact HR271_0.out) | (with_reducible refine Kd.C_alloc ?_ _) | (with_reducible refine Kd.C_drewN ?_ _) | (with_reducible refine Kd.C_drew ?_) | exact HR271_0.out)) hb); have n10_ := Aside0.mk (Kd.C_below (by repeat (first | (with_reducible exact HR272_0.out) | (with_reducible refine Kd.C_alloc ?_ _) | (with_reducible refine Kd.C_drewN ?_ _) | (with_reducible refine Kd.C_drew ?_) | exact HR272_0.out)) hb); have n11_ := Bs HB hb; clear HO_8 HL269_0 HL270_0 HL271_0 HL272_0 HO277 HR269_0 HR270_0 HR271_0 HR272_0 HB; revert n0_ n1_ n2_ n3_ n4_ n5_ n6_ n7_ n8_ n9_ n10_ n11_; intro HO_8 HL269_0 HL270_0 HL271_0 HL272_0 HO277 HO282 HR269_0 HR270_0 HR271_0 HR272_0 HB; (try clear hb); (try clear hb2); (try clear hk); (try clear hi); (try clear ho0)))
            repeat (go_quiet (first | (go_at_call 14; (with_reducible refine (flate_Inflate.calls _ _ y273 1048576 t278 t279 t280 _ ?side1 ?side2 A26.out).mono ?_); (case side1 => exact Cu (Kd.V_reads' HO277.out).2.2); (case side2 => exact (Kd.V_reads' HO277.out).2.1); rintro e w30 ⟨v281, rfl, ho0, hb⟩; have n0_ := Ne HO_8 (Kd.R_base ho0) hb; have n1_ := Ve HL269_0 (Kd.R_base ho0) hb; have n2_ := Ve HL270_0 (Kd.R_base ho0) hb; have n3_ := Ve HL271_0 (Kd.R_base ho0) hb; have n4_ := Ve HL272_0 (Kd.R_base ho0) hb; have n5_ := Ve HO277 (Kd.R_base ho0) hb; have n6_ := Aside0.mk (Kd.R_lower ho0 (Bz HB)); have n7_ := Aside0.mk (Kd.C_below (by repeat (first | (with_reducible exact HR269_0.out) | (with_reducible refine Kd.C_alloc ?_ _) | (with_reducible refine Kd.C_drewN ?_ _) | (with_reducible refine Kd.C_drew ?_) | exact HR269_0.out)) hb); have n8_ := Aside0.mk (Kd.C_below (by repeat (first | (with_reducible exact HR270_0.out) | (with_reducible refine Kd.C_alloc ?_ _) | (with_reducible refine Kd.C_drewN ?_ _) | (with_reducible refine Kd.C_drew ?_) | exact HR270_0.out)) hb); have n9_ := Aside0.mk (Kd.C_below (by repeat (first | (with_reducible exact HR271_0.out) | (with_reducible refine Kd.C_alloc ?_ _) | (with_reducible refine Kd.C_drewN ?_ _) | (with_reducible refine Kd.C_drew ?_) | exact HR271_0.out)) hb); have n10_ := Aside0.mk (Kd.C_below (by repeat (first | (with_reducible exact HR272_0.out) | (with_reducible refine Kd.C_alloc ?_ _) | (with_reducible refine Kd.C_drewN ?_ _) | (with_reducible refine Kd.C_drew ?_) | exact HR272_0.out)) hb); have n11_ := Bs HB hb; clear HO_8 HL269_0 HL270_0 HL271_0 HL272_0 HO277 HR269_0 HR270_0 HR271_0 HR272_0 HB; revert n0_ n1_ n2_ n3_ n4_ n5_ n6_ n7_ n8_ n9_ n10_ n11_; intro HO_8 HL269_0 HL270_0 HL271_0 HL272_0 HO277 HO282 HR269_0 HR270_0 HR271_0 HR272_0 HB; (try clear hb); (try clear hb2); (try clear hk); (try clear hi); (try clear ho0))); go_upto_region 11 with (first | (go_at_call 14; (with_reducible refine (flate_Inflate.calls _ _ y273 1048576 t278 t279 t280 _ ?side1 ?side2 A26.out).mono ?_); (case side1 => exact Cu (Kd.V_reads' HO277.out).2.2); (case side2 => exact (Kd.V_reads' HO277.out).2.1); rintro e w30 ⟨v281, rfl, ho0, hb⟩; have n0_ := Ne HO_8 (Kd.R_base ho0) hb; have n1_ := Ve HL269_0 (Kd.R_base ho0) hb; have n2_ := Ve HL270_0 (Kd.R_base ho0) hb; have n3_ := Ve HL271_0 (Kd.R_base ho0) hb; have n4_ := Ve HL272_0 (Kd.R_base ho0) hb; have n5_ := Ve HO277 (Kd.R_base ho0) hb; have n6_ := Aside0.mk (Kd.R_lower ho0 (Bz HB)); have n7_ := Aside0.mk (Kd.C_below (by repeat (first | (with_reducible exact HR269_0.out) | (with_reducible refine Kd.C_alloc ?_ _) | (with_reducible refine Kd.C_drewN ?_ _) | (with_reducible refine Kd.C_drew ?_) | exact HR269_0.out)) hb); have n8_ := Aside0.mk (Kd.C_below (by repeat (first | (with_reducible exact HR270_0.out) | (with_reducible refine Kd.C_alloc ?_ _) | (with_reducible refine Kd.C_drewN ?_ _) | (with_reducible refine Kd.C_drew ?_) | exact HR270_0.out)) hb); have n9_ := Aside0.mk (Kd.C_below (by repeat (first | (with_reducible exact HR271_0.out) | (with_reducible refine Kd.C_alloc ?_ _) | (with_reducible refine Kd.C_drewN ?_ _) | (with_reducible refine Kd.C_drew ?_) | exact HR271_0.out)) hb); have n10_ := Aside0.mk (Kd.C_below (by repeat (first | (with_reducible exact HR272_0.out) | (with_reducible refine Kd.C_alloc ?_ _) | (with_reducible refine Kd.C_drewN ?_ _) | (with_reducible refine Kd.C_drew ?_) | exact HR272_0.out)) hb); have n11_ := Bs HB hb; clear HO_8 HL269_0 HL270_0 HL271_0 HL272_0 HO277 HR269_0 HR270_0 HR271_0 HR272_0 HB; revert n0_ n1_ n2_ n3_ n4_ n5_ n6_ n7_ n8_ n9_ n10_ n11_; intro HO_8 HL269_0 HL270_0 HL271_0 HL272_0 HO277 HO282 HR269_0 HR270_0 HR271_0 HR272_0 HB; (try clear hb); (try clear hb2); (try clear hk); (try clear hi); (try clear ho0))))
            (try simp only [Act.put, List.setIfInBounds_toArray, List.set_cons_zero, List.set_cons_succ])
            go_cut [82] (fun v82 wc => ∃ (kq : Nat) (x82_26 : Bool), v82 = .bool x82_26 ∧ Aside0 (lanyardlaw04_FlateCuts.j2 kq l0 a1 y266 x9_2 x82_26 = some r) ∧ Aside0 (kq ≤ k2) ∧ Aside0 (Kd.N (Kd.slice 5 (Kd.int .u8)) 22 wc w.heap.size (fun _ => True) (.slice (some ad269) y266.length co28) y266) ∧ Aside0 (Kd.C (Kd.int .u8) wc A269_0 (rd_L2 y266 x9_2).length (rd_L2 y266 x9_2)) ∧ Aside0 (Kd.C (Kd.int .u8) wc A269_0 (rd_L2 y266 x9_2).length (rd_L2 y266 x9_2)) ∧ Aside0 (Kd.C (Kd.int .u8) wc A269_0 (rd_L2 y266 x9_2).length (rd_L2 y266 x9_2)) ∧ Aside0 (Kd.C (Kd.int .u8) wc A269_0 (rd_L2 y266 x9_2).length (rd_L2 y266 x9_2)) ∧ Aside0 (Below w.heap.size w wc))
            case first =>
             have H := HC27.out
             clear HC27
             refine (Classical.em (t280 = 11)).elim (fun c31 => ?a23_) (fun c31 => ?b23_)
             case' a23_ =>
              rw [if_pos c31] at H
              have c31b0 : (t280 == 11) = true := beq_iff_eq.mpr c31
              have c31b1 : (t280 != 11) = false := bne_eq_false_iff_eq.mpr c31
              clear c31
              (first | rw [c31b0] | (simp only [i64_w, i32_w]; rw [c31b0]) | skip)
              refine (Classical.em (t279 = 0)).elim (fun c32 => ?a24_) (fun c32 => ?b24_)
              case' a24_ =>
               rw [if_pos c32] at H
               have c32b0 : (t279 == 0) = true := beq_iff_eq.mpr c32
               have c32b1 : (t279 != 0) = false := bne_eq_false_iff_eq.mpr c32
               clear c32
               have H' := Aside0.mk H
               clear H
               obtain ⟨Ao33, co33, eo33⟩ := Kd.R_slice HO282.out
               subst eo33
               go_wp2
               repeat (go_quiet (fail); try go_wp2)
               go_meet
               case rel => exact ⟨_, (((t278.length : Int) != 0)), (by first | rfl | (simp; done) | (simp [*]; done)), H', ⟨by have := HJ2.out; have := HK2.out; first | omega | exact Nat.le_refl _⟩, ⟨by (with_reducible repeat (first | apply Kd.N_alloc | apply Kd.N_drewN | apply Kd.N_drew)); exact Kd.N_mono HO_8.out (fun _ hk => trivial)⟩, ⟨by repeat (first | (with_reducible exact HR269_0.out) | (with_reducible refine Kd.C_alloc ?_ _) | (with_reducible refine Kd.C_drewN ?_ _) | (with_reducible refine Kd.C_drew ?_) | exact HR269_0.out)⟩, ⟨by repeat (first | (with_reducible exact HR270_0.out) | (with_reducible refine Kd.C_alloc ?_ _) | (with_reducible refine Kd.C_drewN ?_ _) | (with_reducible refine Kd.C_drew ?_) | exact HR270_0.out)⟩, ⟨by repeat (first | (with_reducible exact HR271_0.out) | (with_reducible refine Kd.C_alloc ?_ _) | (with_reducible refine Kd.C_drewN ?_ _) | (with_reducible refine Kd.C_drew ?_) | exact HR271_0.out)⟩, ⟨by repeat (first | (with_reducible exact HR272_0.out) | (with_reducible refine Kd.C_alloc ?_ _) | (with_reducible refine Kd.C_drewN ?_ _) | (with_reducible refine Kd.C_drew ?_) | exact HR272_0.out)⟩, ⟨Bu HB⟩⟩
              case' b24_ =>
               rw [if_neg c32] at H
               have c32b0 : (t279 == 0) = false := beq_eq_false_iff_ne.mpr c32
               have c32b1 : (t279 != 0) = true := bne_iff_ne.mpr c32
               have H' := Aside0.mk H
               clear H
             case' b23_ =>
              rw [if_neg c31] at H
              have c31b0 : (t280 == 11) = false := beq_eq_false_iff_ne.mpr c31
              have c31b1 : (t280 != 11) = true := bne_iff_ne.mpr c31
              (first | rw [c31b0] | (simp only [i64_w, i32_w]; rw [c31b0]) | skip)
              have H' := Aside0.mk H
              clear H
             case a23_ | b23_ =>
              go_wp2
              repeat (go_quiet (fail); try go_wp2)
              go_meet
              case rel => exact ⟨_, (true), (by first | rfl | (simp; done) | (simp [*]; done)), H', ⟨by have := HJ2.out; have := HK2.out; first | omega | exact Nat.le_refl _⟩, ⟨by (with_reducible repeat (first | apply Kd.N_alloc | apply Kd.N_drewN | apply Kd.N_drew)); exact Kd.N_mono HO_8.out (fun _ hk => trivial)⟩, ⟨by repeat (first | (with_reducible exact HR269_0.out) | (with_reducible refine Kd.C_alloc ?_ _) | (with_reducible refine Kd.C_drewN ?_ _) | (with_reducible refine Kd.C_drew ?_) | exact HR269_0.out)⟩, ⟨by repeat (first | (with_reducible exact HR270_0.out) | (with_reducible refine Kd.C_alloc ?_ _) | (with_reducible refine Kd.C_drewN ?_ _) | (with_reducible refine Kd.C_drew ?_) | exact HR270_0.out)⟩, ⟨by repeat (first | (with_reducible exact HR271_0.out) | (with_reducible refine Kd.C_alloc ?_ _) | (with_reducible refine Kd.C_drewN ?_ _) | (with_reducible refine Kd.C_drew ?_) | exact HR271_0.out)⟩, ⟨by repeat (first | (with_reducible exact HR272_0.out) | (with_reducible refine Kd.C_alloc ?_ _) | (with_reducible refine Kd.C_drewN ?_ _) | (with_reducible refine Kd.C_drew ?_) | exact HR272_0.out)⟩, ⟨Bu HB⟩⟩
            case rest =>
             clear HC27
             try clear c1
             try clear c2
             try clear p2
             try clear q2
             try clear hx2
             try clear c3
             try clear c5
             try clear c6
             try clear p6
             try clear c8
             try clear c19
             try clear c19b0
             try clear c20
             try clear c20b0
             try clear c21
             try clear c21b0
             try clear c22
             try clear c22b0
             try clear c22b1
             try clear c22b2
             try clear c24
             try clear c24b0
             try clear c24b1
             try clear c25
             try clear c25b0
             try clear c25b1
             try clear c26
             try clear p26
             try clear q26
             try clear hx26
             try clear c27
             try clear p27
             try clear q27
             try clear hx27
             try clear q29
             try clear c31
             try clear c31b0
             try clear c31b1
             try clear c32
             try clear c32b0
             try clear c32b1
             try clear hx269_0
             try clear hx270_0
             try clear hx271_0
             try clear hx272_0
             try clear p2
             try clear p269
             try clear p270
             try clear p271
             try clear p272
             try clear q269
             try clear q270
             try clear q271
             try clear q272
             try clear q29
             obtain ⟨kq, x82_26, rfl, HA, HJ26, HO_8, HR269_0, HR270_0, HR271_0, HR272_0, HB⟩ := hcut
             cases kq with
             | zero => exact absurd HA.out (by simp [lanyardlaw04_FlateCuts.j2])
             | succ kj26 =>
              have H := HA.out
              clear HA
              simp only [lanyardlaw04_FlateCuts.j2] at H
              refine (Classical.em (x82_26 = true)).elim (fun c34 => ?a25_) (fun c34 => ?b25_)
              case' a25_ =>
               subst c34
               have H1 : (some false) = some r := by rw [if_pos rfl] at H; exact H
               clear H
               have H := H1
               clear H1
               exact absurd (Option.some.inj H) (by rw [HR_.out]; decide)
              case' b25_ =>
               replace c34 := Bool.eq_false_iff.mpr c34
               subst c34
               have H1 : (if 0 ≤ x9_2 then (if x9_2 < (y266.length : Int) then ((flate_Inflate.f (rd_L2 y266 x9_2) (l0.length : Int)).bind fun bt284 => (if bt284.2.2 = 0 then ((flate_Inflate.f (rd_L2 y266 x9_2) (wrap64 ((l0.length : Int) - 1))).bind fun bt290 => (if (l0.length : Int) > 0 then (if bt290.2.2 = 12 then (lanyardlaw04_FlateCuts.l0 kj26 l0 a1 y266 (wrap64 (x9_2 + 1))) else (some false)) else (lanyardlaw04_FlateCuts.l0 kj26 l0 a1 y266 (wrap64 (x9_2 + 1))))) else (some false))) else (none)) else (none)) = some r := by rw [if_neg (show ¬ (false = true) by decide)] at H; exact H
               clear H
               have H := H1
               clear H1
               refine (Classical.em (0 ≤ x9_2)).elim (fun c35 => ?a26_) (fun c35 => ?b26_)
               case' a26_ =>
                rw [if_pos c35] at H
                have c35b0 : decide (0 ≤ x9_2) = true := decide_eq_true c35
                clear c35
                refine (Classical.em (x9_2 < (y266.length : Int))).elim (fun c36 => ?a27_) (fun c36 => ?b27_)
                case' a27_ =>
                 rw [if_pos c36] at H
                 have c36b0 : decide (x9_2 < (y266.length : Int)) = true := decide_eq_true c36
                 clear c36
                 replace H := Option.bind_eq_some_iff.mp H
                 obtain ⟨⟨t284, t285, t286⟩, A370, H⟩ := H
                 replace H : (if t286 = 0 then ((flate_Inflate.f (rd_L2 y266 x9_2) (wrap64 ((l0.length : Int) - 1))).bind fun bt290 => (if (l0.length : Int) > 0 then (if bt290.2.2 = 12 then (lanyardlaw04_FlateCuts.l0 kj26 l0 a1 y266 (wrap64 (x9_2 + 1))) else (some false)) else (lanyardlaw04_FlateCuts.l0 kj26 l0 a1 y266 (wrap64 (x9_2 + 1))))) else (some false)) = some r := H
                 have A37 := Aside0.mk A370
                 clear A370
                 refine (Classical.em (t286 = 0)).elim (fun c38 => ?a28_) (fun c38 => ?b28_)
                 case' a28_ =>
                  rw [if_pos c38] at H
                  have c38b0 : (t286 == 0) = true := beq_iff_eq.mpr c38
                  have c38b1 : (t286 != 0) = false := bne_eq_false_iff_eq.mpr c38
                  clear c38
                  replace H := Option.bind_eq_some_iff.mp H
                  obtain ⟨⟨t290, t291, t292⟩, A390, H⟩ := H
                  replace H : (if (l0.length : Int) > 0 then (if t292 = 12 then (lanyardlaw04_FlateCuts.l0 kj26 l0 a1 y266 (wrap64 (x9_2 + 1))) else (some false)) else (lanyardlaw04_FlateCuts.l0 kj26 l0 a1 y266 (wrap64 (x9_2 + 1)))) = some r := H
                  have A39 := Aside0.mk A390
                  clear A390
                  refine (Classical.em ((l0.length : Int) > 0)).elim (fun c40 => ?a29_) (fun c40 => ?b29_)
                  case' a29_ =>
                   rw [if_pos c40] at H
                   have c40b0 : decide (0 < (l0.length : Int)) = true := decide_eq_true c40
                   have c40b1 : decide (0 < l0.length) = true := decide_eq_true (by omega)
                   clear c40
                   refine (Classical.em (t292 = 12)).elim (fun c41 => ?a30_) (fun c41 => ?b30_)
                   case' a30_ =>
                    rw [if_pos c41] at H
                    have c41b0 : (t292 == 12) = true := beq_iff_eq.mpr c41
                    have c41b1 : (t292 != 12) = false := bne_eq_false_iff_eq.mpr c41
                    clear c41
                    have H' := Aside0.mk H
                    clear H
                    have p283 : 0 ≤ (x9_2 : Int) := of_decide_eq_true (by first | (with_reducible assumption) | assumption)
                    have q283 : x9_2 < (y266.length : Int) := of_decide_eq_true (by first | (with_reducible assumption) | assumption)
                    obtain ⟨ad283, A283_0, c283_0, e283, hx283_0, hl283_0, hi283_0⟩ := at_L2 (Kd.N_reads' HO_8.out).2.2 x9_2 p283 q283
                    obtain rfl : ad269 = ad283 := (by injection e283)
                    obtain ⟨ce283, hce283, hMe283, hcc283⟩ := Kd.N_get HO_8.out [] x9_2 p283 (by first | exact q283 | exact of_decide_eq_true (by first | (with_reducible assumption) | assumption) | (have e_ := (Kd.N_reads' HO_8.out).1; omega))
                    obtain ⟨ua283_0, uc283_0, rfl, ul283_0, ge283_0⟩ := Kd.FK_slice_open hMe283
                    have hv283_0 := hcc283 0 _ rfl
                    rw [Nat.add_zero, show ((Kd.slice 5 (Kd.int .u8))).sz = 1 from rfl, Nat.mul_one] at hv283_0
                    replace hv283_0 := Option.some.inj (hv283_0.symm.trans hx283_0)
                    injection hv283_0 with hva_ hvn_ hvc_
                    rw [hva_] at ge283_0
                    rw [hvc_] at ul283_0
                    have HL283_0 := Aside0.mk (show Kd.V (Kd.int .u8) 5 _ w.heap.size _ _ (rd_L2 y266 x9_2) from Kd.V_mk ul283_0 ge283_0)
                    clear hva_ hvn_ hvc_ ge283_0 ul283_0
                    clear hcc283 hce283
                    have HR283_0 := Aside0.mk hi283_0
                    have HC283_0 := Aside0.mk hl283_0
                    clear hi283_0 hl283_0
                    replace p283 := eq_true p283
                    replace q283 := eq_true q283
                   case' b30_ =>
                    rw [if_neg c41] at H
                    have c41b0 : (t292 == 12) = false := beq_eq_false_iff_ne.mpr c41
                    have c41b1 : (t292 != 12) = true := bne_iff_ne.mpr c41
                    exact absurd (Option.some.inj H) (by rw [HR_.out]; decide)
                  case' b29_ =>
                   rw [if_neg c40] at H
                   have c40b0 : decide (0 < (l0.length : Int)) = false := decide_eq_false c40
                   have c40b1 : decide (0 < l0.length) = false := decide_eq_false (by omega)
                   clear c40
                   have H' := Aside0.mk H
                   clear H
                   have p283 : 0 ≤ (x9_2 : Int) := of_decide_eq_true (by first | (with_reducible assumption) | assumption)
                   have q283 : x9_2 < (y266.length : Int) := of_decide_eq_true (by first | (with_reducible assumption) | assumption)
                   obtain ⟨ad283, A283_0, c283_0, e283, hx283_0, hl283_0, hi283_0⟩ := at_L2 (Kd.N_reads' HO_8.out).2.2 x9_2 p283 q283
                   obtain rfl : ad269 = ad283 := (by injection e283)
                   obtain ⟨ce283, hce283, hMe283, hcc283⟩ := Kd.N_get HO_8.out [] x9_2 p283 (by first | exact q283 | exact of_decide_eq_true (by first | (with_reducible assumption) | assumption) | (have e_ := (Kd.N_reads' HO_8.out).1; omega))
                   obtain ⟨ua283_0, uc283_0, rfl, ul283_0, ge283_0⟩ := Kd.FK_slice_open hMe283
                   have hv283_0 := hcc283 0 _ rfl
                   rw [Nat.add_zero, show ((Kd.slice 5 (Kd.int .u8))).sz = 1 from rfl, Nat.mul_one] at hv283_0
                   replace hv283_0 := Option.some.inj (hv283_0.symm.trans hx283_0)
                   injection hv283_0 with hva_ hvn_ hvc_
                   rw [hva_] at ge283_0
                   rw [hvc_] at ul283_0
                   have HL283_0 := Aside0.mk (show Kd.V (Kd.int .u8) 5 _ w.heap.size _ _ (rd_L2 y266 x9_2) from Kd.V_mk ul283_0 ge283_0)
                   clear hva_ hvn_ hvc_ ge283_0 ul283_0
                   clear hcc283 hce283
                   have HR283_0 := Aside0.mk hi283_0
                   have HC283_0 := Aside0.mk hl283_0
                   clear hi283_0 hl283_0
                   replace p283 := eq_true p283
                   replace q283 := eq_true q283
                 case' b28_ =>
                  rw [if_neg c38] at H
                  have c38b0 : (t286 == 0) = false := beq_eq_false_iff_ne.mpr c38
                  have c38b1 : (t286 != 0) = true := bne_iff_ne.mpr c38
                  exact absurd (Option.some.inj H) (by rw [HR_.out]; decide)
                case' b27_ =>
                 rw [if_neg c36] at H
                 exact absurd H (by simp)
               case' b26_ =>
                rw [if_neg c35] at H
                exact absurd H (by simp)
              case a29_ | b29_ =>
               go_wp2_with (first | (go_at_call 14; (with_reducible refine (flate_Inflate.calls _ _ (rd_L2 y266 x9_2) (l0.length : Int) t284 t285 t286 _ ?side1 ?side2 A37.out).mono ?_); (case side1 => repeat (first | exact (by repeat (first | (with_reducible exact HR283_0.out) | (with_reducible refine Kd.C_alloc ?_ _) | (with_reducible refine Kd.C_drewN ?_ _) | (with_reducible refine Kd.C_drew ?_) | exact HR283_0.out)) | (with_reducible refine Kd.C_alloc ?_ _) | (with_reducible refine Kd.C_drewN ?_ _) | (with_reducible refine Kd.C_drew ?_))); (case side2 => exact HC283_0.out); rintro e wz1 ⟨vz1, rfl, ho0, hb⟩; have n0_ := Ne HO_8 (Kd.R_base ho0) hb; have n1_ := Ve HL283_0 (Kd.R_base ho0) hb; have n2_ := Aside0.mk (Kd.R_lower ho0 (Bz HB)); have n3_ := Aside0.mk (Kd.C_below (by repeat (first | (with_reducible exact HR269_0.out) | (with_reducible refine Kd.C_alloc ?_ _) | (with_reducible refine Kd.C_drewN ?_ _) | (with_reducible refine Kd.C_drew ?_) | exact HR269_0.out)) hb); have n4_ := Aside0.mk (Kd.C_below (by repeat (first | (with_reducible exact HR270_0.out) | (with_reducible refine Kd.C_alloc ?_ _) | (with_reducible refine Kd.C_drewN ?_ _) | (with_reducible refine Kd.C_drew ?_) | exact HR270_0.out)) hb); have n5_ := Aside0.mk (Kd.C_below (by repeat (first | (with_reducible exact HR271_0.out) | (with_reducible refine Kd.C_alloc ?_ _) | (with_reducible refine Kd.C_drewN ?_ _) | (with_reducible refine Kd.C_drew ?_) | exact HR271_0.out)) hb); have n6_ := Aside0.mk (Kd.C_below (by repeat (first | (with_reducible exact HR272_0.out) | (with_reducible refine Kd.C_alloc ?_ _) | (with_reducible refine Kd.C_drewN ?_ _) | (with_reducible refine Kd.C_drew ?_) | exact HR272_0.out)) hb); have n7_ := Aside0.mk (Kd.C_below (by repeat (first | (with_reducible exact HR283_0.out) | (with_reducible refine Kd.C_alloc ?_ _) | (with_reducible refine Kd.C_drewN ?_ _) | (with_reducible refine Kd.C_drew ?_) | exact HR283_0.out)) hb); have n8_ := Bs HB hb; clear HO_8 HL283_0 HR269_0 HR270_0 HR271_0 HR272_0 HR283_0 HB; revert n0_ n1_ n2_ n3_ n4_ n5_ n6_ n7_ n8_; intro HO_8 HL283_0 HOz1 HR269_0 HR270_0 HR271_0 HR272_0 HR283_0 HB; (try clear hb); (try clear hb2); (try clear hk); (try clear hi); (try clear ho0); have pz1 : 0 ≤ (x9_2 : Int) := of_decide_eq_true (by first | (with_reducible assumption) | assumption); have qz1 : x9_2 < (y266.length : Int) := of_decide_eq_true (by first | (with_reducible assumption) | assumption); obtain ⟨adz1, Az1, cz1, ez1, hxz1, hlz1, hiz1⟩ := at_L2 (Kd.N_reads' HO_8.out).2.2 x9_2 pz1 qz1; obtain rfl : ad269 = adz1 := (by injection ez1); obtain ⟨cez1, hcez1, hMez1, hccz1⟩ := Kd.N_get HO_8.out [] x9_2 pz1 (by first | exact qz1 | exact of_decide_eq_true (by first | (with_reducible assumption) | assumption) | (have e_ := (Kd.N_reads' HO_8.out).1; omega)); obtain ⟨uaz1, ucz1, rfl, ulz1, gez1⟩ := Kd.FK_slice_open hMez1; have hvz1 := hccz1 0 _ rfl; rw [Nat.add_zero, show ((Kd.slice 5 (Kd.int .u8))).sz = 1 from rfl, Nat.mul_one] at hvz1; replace hvz1 := Option.some.inj (hvz1.symm.trans hxz1); injection hvz1 with hva_ hvn_ hvc_; rw [hva_] at gez1; rw [hvc_] at ulz1; have HLz1 := Aside0.mk (show Kd.V (Kd.int .u8) 5 _ w.heap.size _ _ (rd_L2 y266 x9_2) from Kd.V_mk ulz1 gez1); clear hva_ hvn_ hvc_ gez1 ulz1; clear hccz1 hcez1; have HRz1 := Aside0.mk hiz1; have HCz1 := Aside0.mk hlz1; clear hiz1 hlz1; replace pz1 := eq_true pz1; replace qz1 := eq_true qz1) | (go_at_call 14; (with_reducible refine (flate_Inflate.calls _ _ (rd_L2 y266 x9_2) (wrap64 ((l0.length : Int) - 1)) t290 t291 t292 _ ?side1 ?side2 A39.out).mono ?_); (case side1 => repeat (first | exact (by repeat (first | (with_reducible exact HRz1.out) | (with_reducible refine Kd.C_alloc ?_ _) | (with_reducible refine Kd.C_drewN ?_ _) | (with_reducible refine Kd.C_drew ?_) | exact HRz1.out)) | (with_reducible refine Kd.C_alloc ?_ _) | (with_reducible refine Kd.C_drewN ?_ _) | (with_reducible refine Kd.C_drew ?_))); (case side2 => exact HCz1.out); rintro e wz2 ⟨vz2, rfl, ho0, hb⟩; have n0_ := Ne HO_8 (Kd.R_base ho0) hb; have n1_ := Ve HL283_0 (Kd.R_base ho0) hb; have n2_ := Re HOz1 (Kd.R_base ho0) hb; have n3_ := Ve HLz1 (Kd.R_base ho0) hb; have n4_ := Aside0.mk (Kd.R_lower (Kd.R_new' ho0 (Kd.R_lt (Ru HOz1))) (Bz HB)); have n5_ := Aside0.mk (Kd.C_below (by repeat (first | (with_reducible exact HR269_0.out) | (with_reducible refine Kd.C_alloc ?_ _) | (with_reducible refine Kd.C_drewN ?_ _) | (with_reducible refine Kd.C_drew ?_) | exact HR269_0.out)) hb); have n6_ := Aside0.mk (Kd.C_below (by repeat (first | (with_reducible exact HR270_0.out) | (with_reducible refine Kd.C_alloc ?_ _) | (with_reducible refine Kd.C_drewN ?_ _) | (with_reducible refine Kd.C_drew ?_) | exact HR270_0.out)) hb); have n7_ := Aside0.mk (Kd.C_below (by repeat (first | (with_reducible exact HR271_0.out) | (with_reducible refine Kd.C_alloc ?_ _) | (with_reducible refine Kd.C_drewN ?_ _) | (with_reducible refine Kd.C_drew ?_) | exact HR271_0.out)) hb); have n8_ := Aside0.mk (Kd.C_below (by repeat (first | (with_reducible exact HR272_0.out) | (with_reducible refine Kd.C_alloc ?_ _) | (with_reducible refine Kd.C_drewN ?_ _) | (with_reducible refine Kd.C_drew ?_) | exact HR272_0.out)) hb); have n9_ := Aside0.mk (Kd.C_below (by repeat (first | (with_reducible exact HR283_0.out) | (with_reducible refine Kd.C_alloc ?_ _) | (with_reducible refine Kd.C_drewN ?_ _) | (with_reducible refine Kd.C_drew ?_) | exact HR283_0.out)) hb); have n10_ := Aside0.mk (Kd.C_below (by repeat (first | (with_reducible exact HRz1.out) | (with_reducible refine Kd.C_alloc ?_ _) | (with_reducible refine Kd.C_drewN ?_ _) | (with_reducible refine Kd.C_drew ?_) | exact HRz1.out)) hb); have n11_ := Bs HB hb; clear HO_8 HL283_0 HOz1 HLz1 HR269_0 HR270_0 HR271_0 HR272_0 HR283_0 HRz1 HB; revert n0_ n1_ n2_ n3_ n4_ n5_ n6_ n7_ n8_ n9_ n10_ n11_; intro HO_8 HL283_0 HOz1 HLz1 HOz2 HR269_0 HR270_0 HR271_0 HR272_0 HR283_0 HRz1 HB; (try clear hb); (try clear hb2); (try clear hk); (try clear hi); (try clear ho0)))
               repeat (go_quiet (first | (go_at_call 14; (with_reducible refine (flate_Inflate.calls _ _ (rd_L2 y266 x9_2) (l0.length : Int) t284 t285 t286 _ ?side1 ?side2 A37.out).mono ?_); (case side1 => repeat (first | exact (by repeat (first | (with_reducible exact HR283_0.out) | (with_reducible refine Kd.C_alloc ?_ _) | (with_reducible refine Kd.C_drewN ?_ _) | (with_reducible refine Kd.C_drew ?_) | exact HR283_0.out)) | (with_reducible refine Kd.C_alloc ?_ _) | (with_reducible refine Kd.C_drewN ?_ _) | (with_reducible refine Kd.C_drew ?_))); (case side2 => exact HC283_0.out); rintro e wz1 ⟨vz1, rfl, ho0, hb⟩; have n0_ := Ne HO_8 (Kd.R_base ho0) hb; have n1_ := Ve HL283_0 (Kd.R_base ho0) hb; have n2_ := Aside0.mk (Kd.R_lower ho0 (Bz HB)); have n3_ := Aside0.mk (Kd.C_below (by repeat (first | (with_reducible exact HR269_0.out) | (with_reducible refine Kd.C_alloc ?_ _) | (with_reducible refine Kd.C_drewN ?_ _) | (with_reducible refine Kd.C_drew ?_) | exact HR269_0.out)) hb); have n4_ := Aside0.mk (Kd.C_below (by repeat (first | (with_reducible exact HR270_0.out) | (with_reducible refine Kd.C_alloc ?_ _) | (with_reducible refine Kd.C_drewN ?_ _) | (with_reducible refine Kd.C_drew ?_) | exact HR270_0.out)) hb); have n5_ := Aside0.mk (Kd.C_below (by repeat (first | (with_reducible exact HR271_0.out) | (with_reducible refine Kd.C_alloc ?_ _) | (with_reducible refine Kd.C_drewN ?_ _) | (with_reducible refine Kd.C_drew ?_) | exact HR271_0.out)) hb); have n6_ := Aside0.mk (Kd.C_below (by repeat (first | (with_reducible exact HR272_0.out) | (with_reducible refine Kd.C_alloc ?_ _) | (with_reducible refine Kd.C_drewN ?_ _) | (with_reducible refine Kd.C_drew ?_) | exact HR272_0.out)) hb); have n7_ := Aside0.mk (Kd.C_below (by repeat (first | (with_reducible exact HR283_0.out) | (with_reducible refine Kd.C_alloc ?_ _) | (with_reducible refine Kd.C_drewN ?_ _) | (with_reducible refine Kd.C_drew ?_) | exact HR283_0.out)) hb); have n8_ := Bs HB hb; clear HO_8 HL283_0 HR269_0 HR270_0 HR271_0 HR272_0 HR283_0 HB; revert n0_ n1_ n2_ n3_ n4_ n5_ n6_ n7_ n8_; intro HO_8 HL283_0 HOz1 HR269_0 HR270_0 HR271_0 HR272_0 HR283_0 HB; (try clear hb); (try clear hb2); (try clear hk); (try clear hi); (try clear ho0); have pz1 : 0 ≤ (x9_2 : Int) := of_decide_eq_true (by first | (with_reducible assumption) | assumption); have qz1 : x9_2 < (y266.length : Int) := of_decide_eq_true (by first | (with_reducible assumption) | assumption); obtain ⟨adz1, Az1, cz1, ez1, hxz1, hlz1, hiz1⟩ := at_L2 (Kd.N_reads' HO_8.out).2.2 x9_2 pz1 qz1; obtain rfl : ad269 = adz1 := (by injection ez1); obtain ⟨cez1, hcez1, hMez1, hccz1⟩ := Kd.N_get HO_8.out [] x9_2 pz1 (by first | exact qz1 | exact of_decide_eq_true (by first | (with_reducible assumption) | assumption) | (have e_ := (Kd.N_reads' HO_8.out).1; omega)); obtain ⟨uaz1, ucz1, rfl, ulz1, gez1⟩ := Kd.FK_slice_open hMez1; have hvz1 := hccz1 0 _ rfl; rw [Nat.add_zero, show ((Kd.slice 5 (Kd.int .u8))).sz = 1 from rfl, Nat.mul_one] at hvz1; replace hvz1 := Option.some.inj (hvz1.symm.trans hxz1); injection hvz1 with hva_ hvn_ hvc_; rw [hva_] at gez1; rw [hvc_] at ulz1; have HLz1 := Aside0.mk (show Kd.V (Kd.int .u8) 5 _ w.heap.size _ _ (rd_L2 y266 x9_2) from Kd.V_mk ulz1 gez1); clear hva_ hvn_ hvc_ gez1 ulz1; clear hccz1 hcez1; have HRz1 := Aside0.mk hiz1; have HCz1 := Aside0.mk hlz1; clear hiz1 hlz1; replace pz1 := eq_true pz1; replace qz1 := eq_true qz1) | (go_at_call 14; (with_reducible refine (flate_Inflate.calls _ _ (rd_L2 y266 x9_2) (wrap64 ((l0.length : Int) - 1)) t290 t291 t292 _ ?side1 ?side2 A39.out).mono ?_); (case side1 => repeat (first | exact (by repeat (first | (with_reducible exact HRz1.out) | (with_reducible refine Kd.C_alloc ?_ _) | (with_reducible refine Kd.C_drewN ?_ _) | (with_reducible refine Kd.C_drew ?_) | exact HRz1.out)) | (with_reducible refine Kd.C_alloc ?_ _) | (with_reducible refine Kd.C_drewN ?_ _) | (with_reducible refine Kd.C_drew ?_))); (case side2 => exact HCz1.out); rintro e wz2 ⟨vz2, rfl, ho0, hb⟩; have n0_ := Ne HO_8 (Kd.R_base ho0) hb; have n1_ := Ve HL283_0 (Kd.R_base ho0) hb; have n2_ := Re HOz1 (Kd.R_base ho0) hb; have n3_ := Ve HLz1 (Kd.R_base ho0) hb; have n4_ := Aside0.mk (Kd.R_lower (Kd.R_new' ho0 (Kd.R_lt (Ru HOz1))) (Bz HB)); have n5_ := Aside0.mk (Kd.C_below (by repeat (first | (with_reducible exact HR269_0.out) | (with_reducible refine Kd.C_alloc ?_ _) | (with_reducible refine Kd.C_drewN ?_ _) | (with_reducible refine Kd.C_drew ?_) | exact HR269_0.out)) hb); have n6_ := Aside0.mk (Kd.C_below (by repeat (first | (with_reducible exact HR270_0.out) | (with_reducible refine Kd.C_alloc ?_ _) | (with_reducible refine Kd.C_drewN ?_ _) | (with_reducible refine Kd.C_drew ?_) | exact HR270_0.out)) hb); have n7_ := Aside0.mk (Kd.C_below (by repeat (first | (with_reducible exact HR271_0.out) | (with_reducible refine Kd.C_alloc ?_ _) | (with_reducible refine Kd.C_drewN ?_ _) | (with_reducible refine Kd.C_drew ?_) | exact HR271_0.out)) hb); have n8_ := Aside0.mk (Kd.C_below (by repeat (first | (with_reducible exact HR272_0.out) | (with_reducible refine Kd.C_alloc ?_ _) | (with_reducible refine Kd.C_drewN ?_ _) | (with_reducible refine Kd.C_drew ?_) | exact HR272_0.out)) hb); have n9_ := Aside0.mk (Kd.C_below (by repeat (first | (with_reducible exact HR283_0.out) | (with_reducible refine Kd.C_alloc ?_ _) | (with_reducible refine Kd.C_drewN ?_ _) | (with_reducible refine Kd.C_drew ?_) | exact HR283_0.out)) hb); have n10_ := Aside0.mk (Kd.C_below (by repeat (first | (with_reducible exact HRz1.out) | (with_reducible refine Kd.C_alloc ?_ _) | (with_reducible refine Kd.C_drewN ?_ _) | (with_reducible refine Kd.C_drew ?_) | exact HRz1.out)) hb); have n11_ := Bs HB hb; clear HO_8 HL283_0 HOz1 HLz1 HR269_0 HR270_0 HR271_0 HR272_0 HR283_0 HRz1 HB; revert n0_ n1_ n2_ n3_ n4_ n5_ n6_ n7_ n8_ n9_ n10_ n11_; intro HO_8 HL283_0 HOz1 HLz1 HOz2 HR269_0 HR270_0 HR271_0 HR272_0 HR283_0 HRz1 HB; (try clear hb); (try clear hb2); (try clear hk); (try clear hi); (try clear ho0))); try go_wp2_with (first | (go_at_call 14; (with_reducible refine (flate_Inflate.calls _ _ (rd_L2 y266 x9_2) (l0.length : Int) t284 t285 t286 _ ?side1 ?side2 A37.out).mono ?_); (case side1 => repeat (first | exact (by repeat (first | (with_reducible exact HR283_0.out) | (with_reducible refine Kd.C_alloc ?_ _) | (with_reducible refine Kd.C_drewN ?_ _) | (with_reducible refine Kd.C_drew ?_) | exact HR283_0.out)) | (with_reducible refine Kd.C_alloc ?_ _) | (with_reducible refine Kd.C_drewN ?_ _) | (with_reducible refine Kd.C_drew ?_))); (case side2 => exact HC283_0.out); rintro e wz1 ⟨vz1, rfl, ho0, hb⟩; have n0_ := Ne HO_8 (Kd.R_base ho0) hb; have n1_ := Ve HL283_0 (Kd.R_base ho0) hb; have n2_ := Aside0.mk (Kd.R_lower ho0 (Bz HB)); have n3_ := Aside0.mk (Kd.C_below (by repeat (first | (with_reducible exact HR269_0.out) | (with_reducible refine Kd.C_alloc ?_ _) | (with_reducible refine Kd.C_drewN ?_ _) | (with_reducible refine Kd.C_drew ?_) | exact HR269_0.out)) hb); have n4_ := Aside0.mk (Kd.C_below (by repeat (first | (with_reducible exact HR270_0.out) | (with_reducible refine Kd.C_alloc ?_ _) | (with_reducible refine Kd.C_drewN ?_ _) | (with_reducible refine Kd.C_drew ?_) | exact HR270_0.out)) hb); have n5_ := Aside0.mk (Kd.C_below (by repeat (first | (with_reducible exact HR271_0.out) | (with_reducible refine Kd.C_alloc ?_ _) | (with_reducible refine Kd.C_drewN ?_ _) | (with_reducible refine Kd.C_drew ?_) | exact HR271_0.out)) hb); have n6_ := Aside0.mk (Kd.C_below (by repeat (first | (with_reducible exact HR272_0.out) | (with_reducible refine Kd.C_alloc ?_ _) | (with_reducible refine Kd.C_drewN ?_ _) | (with_reducible refine Kd.C_drew ?_) | exact HR272_0.out)) hb); have n7_ := Aside0.mk (Kd.C_below (by repeat (first | (with_reducible exact HR283_0.out) | (with_reducible refine Kd.C_alloc ?_ _) | (with_reducible refine Kd.C_drewN ?_ _) | (with_reducible refine Kd.C_drew ?_) | exact HR283_0.out)) hb); have n8_ := Bs HB hb; clear HO_8 HL283_0 HR269_0 HR270_0 HR271_0 HR272_0 HR283_0 HB; revert n0_ n1_ n2_ n3_ n4_ n5_ n6_ n7_ n8_; intro HO_8 HL283_0 HOz1 HR269_0 HR270_0 HR271_0 HR272_0 HR283_0 HB; (try clear hb); (try clear hb2); (try clear hk); (try clear hi); (try clear ho0); have pz1 : 0 ≤ (x9_2 : Int) := of_decide_eq_true (by first | (with_reducible assumption) | assumption); have qz1 : x9_2 < (y266.length : Int) := of_decide_eq_true (by first | (with_reducible assumption) | assumption); obtain ⟨adz1, Az1, cz1, ez1, hxz1, hlz1, hiz1⟩ := at_L2 (Kd.N_reads' HO_8.out).2.2 x9_2 pz1 qz1; obtain rfl : ad269 = adz1 := (by injection ez1); obtain ⟨cez1, hcez1, hMez1, hccz1⟩ := Kd.N_get HO_8.out [] x9_2 pz1 (by first | exact qz1 | exact of_decide_eq_true (by first | (with_reducible assumption) | assumption) | (have e_ := (Kd.N_reads' HO_8.out).1; omega)); obtain ⟨uaz1, ucz1, rfl, ulz1, gez1⟩ := Kd.FK_slice_open hMez1; have hvz1 := hccz1 0 _ rfl; rw [Nat.add_zero, show ((Kd.slice 5 (Kd.int .u8))).sz = 1 from rfl, Nat.mul_one] at hvz1; replace hvz1 := Option.some.inj (hvz1.symm.trans hxz1); injection hvz1 with hva_ hvn_ hvc_; rw [hva_] at gez1; rw [hvc_] at ulz1; have HLz1 := Aside0.mk (show Kd.V (Kd.int .u8) 5 _ w.heap.size _ _ (rd_L2 y266 x9_2) from Kd.V_mk ulz1 gez1); clear hva_ hvn_ hvc_ gez1 ulz1; clear hccz1 hcez1; have HRz1 := Aside0.mk hiz1; have HCz1 := Aside0.mk hlz1; clear hiz1 hlz1; replace pz1 := eq_true pz1; replace qz1 := eq_true qz1) | (go_at_call 14; (with_reducible refine (flate_Inflate.calls _ _ (rd_L2 y266 x9_2) (wrap64 ((l0.length : Int) - 1)) t290 t291 t292 _ ?side1 ?side2 A39.out).mono ?_); (case side1 => repeat (first | exact (by repeat (first | (with_reducible exact HRz1.out) | (with_reducible refine Kd.C_alloc ?_ _) | (with_reducible refine Kd.C_drewN ?_ _) | (with_reducible refine Kd.C_drew ?_) | exact HRz1.out)) | (with_reducible refine Kd.C_alloc ?_ _) | (with_reducible refine Kd.C_drewN ?_ _) | (with_reducible refine Kd.C_drew ?_))); (case side2 => exact HCz1.out); rintro e wz2 ⟨vz2, rfl, ho0, hb⟩; have n0_ := Ne HO_8 (Kd.R_base ho0) hb; have n1_ := Ve HL283_0 (Kd.R_base ho0) hb; have n2_ := Re HOz1 (Kd.R_base ho0) hb; have n3_ := Ve HLz1 (Kd.R_base ho0) hb; have n4_ := Aside0.mk (Kd.R_lower (Kd.R_new' ho0 (Kd.R_lt (Ru HOz1))) (Bz HB)); have n5_ := Aside0.mk (Kd.C_below (by repeat (first | (with_reducible exact HR269_0.out) | (with_reducible refine Kd.C_alloc ?_ _) | (with_reducible refine Kd.C_drewN ?_ _) | (with_reducible refine Kd.C_drew ?_) | exact HR269_0.out)) hb); have n6_ := Aside0.mk (Kd.C_below (by repeat (first | (with_reducible exact HR270_0.out) | (with_reducible refine Kd.C_alloc ?_ _) | (with_reducible refine Kd.C_drewN ?_ _) | (with_reducible refine Kd.C_drew ?_) | exact HR270_0.out)) hb); have n7_ := Aside0.mk (Kd.C_below (by repeat (first | (with_reducible exact HR271_0.out) | (with_reducible refine Kd.C_alloc ?_ _) | (with_reducible refine Kd.C_drewN ?_ _) | (with_reducible refine Kd.C_drew ?_) | exact HR271_0.out)) hb); have n8_ := Aside0.mk (Kd.C_below (by repeat (first | (with_reducible exact HR272_0.out) | (with_reducible refine Kd.C_alloc ?_ _) | (with_reducible refine Kd.C_drewN ?_ _) | (with_reducible refine Kd.C_drew ?_) | exact HR272_0.out)) hb); have n9_ := Aside0.mk (Kd.C_below (by repeat (first | (with_reducible exact HR283_0.out) | (with_reducible refine Kd.C_alloc ?_ _) | (with_reducible refine Kd.C_drewN ?_ _) | (with_reducible refine Kd.C_drew ?_) | exact HR283_0.out)) hb); have n10_ := Aside0.mk (Kd.C_below (by repeat (first | (with_reducible exact HRz1.out) | (with_reducible refine Kd.C_alloc ?_ _) | (with_reducible refine Kd.C_drewN ?_ _) | (with_reducible refine Kd.C_drew ?_) | exact HRz1.out)) hb); have n11_ := Bs HB hb; clear HO_8 HL283_0 HOz1 HLz1 HR269_0 HR270_0 HR271_0 HR272_0 HR283_0 HRz1 HB; revert n0_ n1_ n2_ n3_ n4_ n5_ n6_ n7_ n8_ n9_ n10_ n11_; intro HO_8 HL283_0 HOz1 HLz1 HOz2 HR269_0 HR270_0 HR271_0 HR272_0 HR283_0 HRz1 HB; (try clear hb); (try clear hb2); (try clear hk); (try clear hi); (try clear ho0))))
               go_roundg kj26
               case measure => have := HJ2.out; have := HK2.out; have := HJ26.out; omega
               case rel => exact ⟨(wrap64 (x9_2 + 1)), (by first | rfl | (simp; done) | (simp [*]; done)), H', ⟨by have := HJ2.out; have := HK2.out; have := HJ26.out; omega⟩, ⟨by (with_reducible repeat (first | apply Kd.N_alloc | apply Kd.N_drewN | apply Kd.N_drew)); exact Kd.N_mono HO_8.out (fun _ hk => trivial)⟩, ⟨Bu HB⟩⟩
           ·rw [if_neg c25] at H
            exact absurd H (by simp)
          ·rw [if_neg c24] at H
           exact absurd H (by simp)
        ·rw [if_neg c21] at H
         exact absurd H (by simp)
       ·rw [if_neg c20] at H
        exact absurd H (by simp)
      ·rw [if_neg c19] at H
       have c19b0 : decide (x9_2 < 2) = false := decide_eq_false c19
       clear c19
       obtain rfl := Option.some.inj H
       go_wp2
       repeat (go_quiet (fail); try go_wp2)
       go_ret
       exact ⟨rfl_, Bu HB⟩

/-- THE ONE PURE STATEMENT of lanyardlaw04_FlateCuts: yours. -/
def lanyardlaw04_FlateCuts.Pure : Prop := ∀ (l0 : List Int) (a1 : Int), l0.length ≤ maxLen → l0.length * 1 ≤ 140737488351232 → (∀ x ∈ l0, (Lit.int .u8 x).wf = true) → (Lit.int .i64 a1).wf = true → ∃ k, lanyardlaw04_FlateCuts.f k l0 a1 = some true
theorem lanyardlaw04_FlateCuts.walk (P : lanyardlaw04_FlateCuts.Pure) (a0 : Option Addr) (len0 cap0 : Nat) (z0 : List Int) (a1 : Int) (w : World) (w0 : (a0 = none ∧ len0 = 0 ∧ cap0 = 0 ∧ z0 = []) ∨ ∃ x, a0 = some x ∧ len0 ≤ cap0 ∧ cap0 ≤ maxLen ∧ z0.length = cap0 ∧ (∀ i, i < z0.length → w.cell? (x.add i) = some (.int .u8 (z0.getD i 0))) ∧ ∀ n ∈ z0, (Lit.int .u8 n).wf = true) (y0 : len0 * 1 ≤ 140737488351232) (w1 : (Lit.int .i64 a1).wf = true) :
  Calls Try.prog 6 #[.slice a0 len0 cap0, .int .i64 a1] w fun e w' => e = .returned (.bool true) ∧ Below w.heap.size w w' := by
 obtain ⟨l0, rfl, hr0, hm0, hw0, hc0⟩ := ReadsInt.ofRowC w0
 obtain ⟨k, h⟩ := P l0 a1 hm0 y0 hw0 w1
 refine (lanyardlaw04_FlateCuts.calls k _ _ l0 a1 true w (Kd.C_of_reads (d := (0 : Int)) (h1 := fun _ => rfl) hr0) hc0 h).mono ?_
 rintro e w' ⟨rfl, hd⟩
 exact ⟨rfl, hd⟩

end Go.Proofs.Ytbokeoncpilgpaa.Hp
