/- Go functions of this seat as Lean functions, and their contracts: what the Go code computes, for every input. (By hp.py, a program of this repo, over the kit's print.py.) -/
import Derived.Test.YthakidcnlkbbgaaDoorHp0
import Derived.Test.YthakidcnlkbbgaaDoorHp1
import Derived.Test.YthakidcnlkbbgaaDoorHp2
import Derived.Test.YthakidcnlkbbgaaDoorHp4
namespace Go.Proofs.YthakidcnlkbbgaaDoor.Hp
open Go.RowKit Go.Proofs.YthakidcnlkbbgaaDoorW.PrintWords Go.Proofs.YthakidcnlkbbgaaDoorW.PrintLast Go.Proofs.YthakidcnlkbbgaaDoorW.PrintMore
attribute [local go_sem] max2_int min2_int max_two min_two max_three min_three max_four min_four   -- for this text's walks alone
set_option linter.unusedVariables false
set_option linter.unusedSimpArgs false

/-! ### lanyardlaw01_CharsBad: function 3 -/
def lanyardlaw01_CharsBad.j0 : Nat → List Int → Bool → Option (Bool)
 | 0, _, _ => none
 | k + 1, x0, x9 => if x9 = true then ((lanyardlaw01_awake.f k).bind fun t219 => (some t219)) else ((some (([] : List Int) : List Int)).bind fun y220 => (if y220.length + x0.length < 140737488355328 then ((chars_Bad.f k (y220 ++ x0)).bind fun t226 => ((lanyardref01_Bad.f k x0).bind fun t227 => (some (t226 == t227)))) else (none)))
def lanyardlaw01_CharsBad.f (k : Nat) (l0 : List Int) : Option (Bool) := (lanyardlaw01_awake.f k).bind fun t218 => (if t218 = true then (lanyardlaw01_CharsBad.j0 k l0 (decide ((l0.length : Int) > 5000))) else (lanyardlaw01_CharsBad.j0 k l0 true))
theorem lanyardlaw01_CharsBad.mono_l : ∀ k, (∀ y0 y1, LeO (lanyardlaw01_CharsBad.j0 k y0 y1) (lanyardlaw01_CharsBad.j0 (k + 1) y0 y1))
 | 0 => fun _ _ r h => by simp [lanyardlaw01_CharsBad.j0] at h
 | k + 1 => by
  have ih0 := lanyardlaw01_CharsBad.mono_l k
  ·intro y0 y1
   unfold lanyardlaw01_CharsBad.j0
   repeat' first
   | (with_reducible exact ih0 _ _)
   | (with_reducible exact chars_Bad.mono _ _)
   | (with_reducible exact lanyardlaw01_awake.mono _)
   | (with_reducible exact lanyardref01_Bad.mono _ _)
   | (with_reducible exact LeO.refl _)
   | (with_reducible exact LeO.none _)
   | (with_reducible refine LeO.ite ?_ ?_)
   | (with_reducible refine LeO.bind ?_ (fun _ => ?_))
   | exact ih0 _ _
   | exact chars_Bad.mono _ _
   | exact lanyardlaw01_awake.mono _
   | exact lanyardref01_Bad.mono _ _
   | exact LeO.none _
   | refine LeO.ite ?_ ?_
   | refine LeO.bind ?_ (fun _ => ?_)
theorem lanyardlaw01_CharsBad.mono : ∀ a0 k, LeO (lanyardlaw01_CharsBad.f k a0) (lanyardlaw01_CharsBad.f (k + 1) a0) := by
 intro a0 k
 have ih0 := lanyardlaw01_CharsBad.mono_l k
 unfold lanyardlaw01_CharsBad.f
 repeat' first
   | (with_reducible exact ih0 _ _)
   | (with_reducible exact chars_Bad.mono _ _)
   | (with_reducible exact lanyardlaw01_awake.mono _)
   | (with_reducible exact lanyardref01_Bad.mono _ _)
   | (with_reducible exact LeO.refl _)
   | (with_reducible exact LeO.none _)
   | (with_reducible refine LeO.ite ?_ ?_)
   | (with_reducible refine LeO.bind ?_ (fun _ => ?_))
   | exact ih0 _ _
   | exact chars_Bad.mono _ _
   | exact lanyardlaw01_awake.mono _
   | exact lanyardref01_Bad.mono _ _
   | exact LeO.none _
   | refine LeO.ite ?_ ?_
   | refine LeO.bind ?_ (fun _ => ?_)
set_option maxHeartbeats 8000000 in
set_option maxRecDepth 100000 in
theorem lanyardlaw01_CharsBad.calls (k : Nat) (A0 : Option Addr) (c0 : Nat) (l0 : List Int) (r : Bool) (w : World) (hr0 : Kd.C (Kd.int .u8) w A0 l0.length l0) (hc0 : l0.length ≤ c0) (hU : Uni w) (h : lanyardlaw01_CharsBad.f k l0 = some r) :
  Calls Tryd.prog 3 #[.slice A0 l0.length c0] w fun e w' => e = .returned (.bool r) ∧ Below w.heap.size w w' := by
 have HU := Aside0.mk hU
 clear hU
 have HR0 := Aside0.mk hr0
 have HC0 := Aside0.mk hc0
 clear hr0 hc0
 have HB := Aside0.mk (Below.refl w.heap.size w)
 have H : ((lanyardlaw01_awake.f k).bind fun t218 => (if t218 = true then (lanyardlaw01_CharsBad.j0 k l0 (decide ((l0.length : Int) > 5000))) else (lanyardlaw01_CharsBad.j0 k l0 true))) = some r := h
 clear h
 have HC2 := Aside0.mk H
 clear H
 go_enter Tryd.func3, Tryd.ntmps3
 go_upto_region 1 with (fail)
 go_cut [9] (fun v9 wc => ∃ (kq : Nat) (x9_1 : Bool), v9 = .bool x9_1 ∧ Aside0 (lanyardlaw01_CharsBad.j0 kq l0 x9_1 = some r) ∧ Aside0 (kq ≤ k) ∧ Aside0 (Below w.heap.size w wc))
 case first =>
  have H := HC2.out
  clear HC2
  replace H := Option.bind_eq_some_iff.mp H
  obtain ⟨t218, A30, H⟩ := H
  replace H : (if t218 = true then (lanyardlaw01_CharsBad.j0 k l0 (decide ((l0.length : Int) > 5000))) else (lanyardlaw01_CharsBad.j0 k l0 true)) = some r := H
  have A3 := Aside0.mk A30
  clear A30
  by_cases c4 : t218 = true
  ·subst c4
   have H1 : (lanyardlaw01_CharsBad.j0 k l0 (decide ((l0.length : Int) > 5000))) = some r := by rw [if_pos rfl] at H; exact H
   clear H
   have H := H1
   clear H1
   have H' := Aside0.mk H
   clear H
   go_wp2_with (first | ((with_reducible refine gate_callee (f := 8) rfl ?_); refine goesA (some 3) Tryd.func8 #[] rfl ?_; (with_reducible refine (lanyardlaw01_awake.calls k  true _ ?sideU A3.out).mono ?_); (case sideU => first | exact HU.out | exact Uni.up HU (Bu HB) | exact Uni.below HU.out (by assumption)); rintro e w5 ⟨rfl, hb⟩; refine ⟨_, rfl, ?_⟩; have n0_ := Bs HB hb; clear HB; revert n0_; intro HB; (try clear hb); (try clear hb2); (try clear hk); (try clear hi)))
   go_meet
   case rel => exact ⟨_, (decide ((l0.length : Int) > 5000)), (by first | rfl | (simp; done) | (simp [*]; done)), H', ⟨by first | omega | exact Nat.le_refl _⟩, ⟨Bu HB⟩⟩
  ·replace c4 := Bool.eq_false_iff.mpr c4
   subst c4
   have H1 : (lanyardlaw01_CharsBad.j0 k l0 true) = some r := by rw [if_neg (show ¬ (false = true) by decide)] at H; exact H
   clear H
   have H := H1
   clear H1
   have H' := Aside0.mk H
   clear H
   go_wp2_with (first | ((with_reducible refine gate_callee (f := 8) rfl ?_); refine goesA (some 3) Tryd.func8 #[] rfl ?_; (with_reducible refine (lanyardlaw01_awake.calls k  false _ ?sideU A3.out).mono ?_); (case sideU => first | exact HU.out | exact Uni.up HU (Bu HB) | exact Uni.below HU.out (by assumption)); rintro e w6 ⟨rfl, hb⟩; refine ⟨_, rfl, ?_⟩; have n0_ := Bs HB hb; clear HB; revert n0_; intro HB; (try clear hb); (try clear hb2); (try clear hk); (try clear hi)))
   go_meet
   case rel => exact ⟨_, (true), (by first | rfl | (simp; done) | (simp [*]; done)), H', ⟨by first | omega | exact Nat.le_refl _⟩, ⟨Bu HB⟩⟩
 case rest =>
  clear HC2
  try clear p2
  try clear c3
  try clear c4
  obtain ⟨kq, x9_1, rfl, HA, HJ1, HB⟩ := hcut
  cases kq with
  | zero => exact absurd HA.out (by simp [lanyardlaw01_CharsBad.j0])
  | succ kj1 =>
   have H := HA.out
   clear HA
   simp only [lanyardlaw01_CharsBad.j0] at H
   by_cases c7 : x9_1 = true
   ·subst c7
    have H1 : ((lanyardlaw01_awake.f kj1).bind fun t219 => (some t219)) = some r := by rw [if_pos rfl] at H; exact H
    clear H
    have H := H1
    clear H1
    replace H := Option.bind_eq_some_iff.mp H
    obtain ⟨t219, A80, H⟩ := H
    replace H : (some t219) = some r := H
    have A8 := Aside0.mk A80
    clear A80
    obtain rfl := Option.some.inj H
    go_wp2_with (first | ((with_reducible refine gate_callee (f := 8) rfl ?_); refine goesA (some 10) Tryd.func8 #[] rfl ?_; (with_reducible refine (lanyardlaw01_awake.calls kj1  t219 _ ?sideU A8.out).mono ?_); (case sideU => first | exact HU.out | exact Uni.up HU (Bu HB) | exact Uni.below HU.out (by assumption)); rintro e w9 ⟨rfl, hb⟩; refine ⟨_, rfl, ?_⟩; have n0_ := Bs HB hb; clear HB; revert n0_; intro HB; (try clear hb); (try clear hb2); (try clear hk); (try clear hi)))
    go_ret
    exact ⟨rfl_, Bu HB⟩
   ·replace c7 := Bool.eq_false_iff.mpr c7
    subst c7
    have H1 : ((some (([] : List Int) : List Int)).bind fun y220 => (if y220.length + l0.length < 140737488355328 then ((chars_Bad.f kj1 (y220 ++ l0)).bind fun t226 => ((lanyardref01_Bad.f kj1 l0).bind fun t227 => (some (t226 == t227)))) else (none))) = some r := by rw [if_neg (show ¬ (false = true) by decide)] at H; exact H
    clear H
    have H := H1
    clear H1
    obtain ⟨y220, hy220⟩ : ∃ y_ : List Int, y_ = (([] : List Int)) := ⟨_, rfl⟩
    replace H : (if y220.length + l0.length < 140737488355328 then ((chars_Bad.f kj1 (y220 ++ l0)).bind fun t226 => ((lanyardref01_Bad.f kj1 l0).bind fun t227 => (some (t226 == t227)))) else (none)) = some r := by first | (rw [hy220]; with_reducible exact H) | (have H2_ := (Option.bind_some _ _).symm.trans H; rw [hy220]; with_reducible exact H2_) | (have H2_ := (Option.bind_some _ _).symm.trans H; with_reducible exact H2_) | with_reducible exact H | (rw [hy220]; exact H) | exact H
    have Ny220 := Aside0.mk hy220
    clear hy220
    by_cases c10 : y220.length + l0.length < 140737488355328
    ·rw [if_pos c10] at H
     have LMc10 := Aside0.mk c10
     clear c10
     obtain ⟨y223, hy223⟩ : ∃ y_ : List Int, y_ = (y220 ++ l0) := ⟨_, rfl⟩
     replace H : ((chars_Bad.f kj1 y223).bind fun t226 => ((lanyardref01_Bad.f kj1 l0).bind fun t227 => (some (t226 == t227)))) = some r := by first | (rw [hy223]; with_reducible exact H) | (have H2_ := (Option.bind_some _ _).symm.trans H; rw [hy223]; with_reducible exact H2_) | (have H2_ := (Option.bind_some _ _).symm.trans H; with_reducible exact H2_) | with_reducible exact H | (rw [hy223]; exact H) | exact H
     have Ny223 := Aside0.mk hy223
     clear hy223
     replace H := Option.bind_eq_some_iff.mp H
     obtain ⟨t226, A110, H⟩ := H
     replace H : ((lanyardref01_Bad.f kj1 l0).bind fun t227 => (some (t226 == t227))) = some r := H
     have A11 := Aside0.mk A110
     clear A110
     replace H := Option.bind_eq_some_iff.mp H
     obtain ⟨t227, A120, H⟩ := H
     replace H : (some (t226 == t227)) = some r := H
     have A12 := Aside0.mk A120
     clear A120
     obtain rfl := Option.some.inj H
     go_wp2_with (first | ((with_reducible refine gate_dst (N := 11) rfl ?_); (try (refine gate_guard (by rfl) ?_; dsimp only)); refine litI .u8 5 11 [] [] ?hr ?_; (case hr => first | (go_simp; done) | (go_simp; rfl)); intro v221 w13 ho14 hb; (first | rw [← Ny220.out] at ho14 | (simp only [Int.reduceToNat] at ho14; rw [← Ny220.out] at ho14)); have n0_ := Aside0.mk (Kd.R_lower ho14 (Bz HB)); have n1_ := Bs HB hb; clear HB; revert n0_ n1_; intro HO222 HB; clear hb ho14) | ((with_reducible refine gate_builtin (b := .append) (xs := #[.tmp 11, .tmp 12]) rfl ?_); (try (refine gate_guard (by rfl) ?_; dsimp only)); at_builtin; refine Kd.R_append_rows (Kd.int .u8) (w0 := w) w.heap.size rfl (.tmp 11) (.tmp 12) 22 5 (.int .u8 0) 1 rfl Tryd.underlying22 info5 rfl (by decide) (by omega) v221 y220 l0 _ _ _ (fun _ => True) (fun _ => False) rfl rfl ?aO ?aR (fun _ _ h => h) (fun _ h => h.elim) ?aF ?aB ?aS ?aL ?_; (case aR => repeat (first | exact (Kd.C_below HR0.out HB.out) | (with_reducible refine Kd.C_alloc ?_ _) | (with_reducible refine Kd.C_drewN ?_ _) | (with_reducible refine Kd.C_drew ?_))); (case aB => exact (Bu HB)); (case aF => exact (fun _ _ => trivial)); (case aO => exact (Ru HO222)); (case aS => exact (Bz HB)); (case aL => have := LMc10.out; omega); intro v224 w15 ho hb hg hat; rw [← Ny223.out] at ho; have n0_ := Aside0.mk (hb); have n1_ := Aside0.mk (ho); clear HB HO222; revert n0_ n1_; intro HB HO225; clear ho hb hg hat; obtain ⟨Ao16, co16, eo16⟩ := Kd.R_slice HO225.out; subst eo16) | ((with_reducible refine gate_callee (f := 9) rfl ?_); refine goesA (some 14) Tryd.func9 #[.slice Ao16 y223.length co16] rfl ?_; (with_reducible refine (chars_Bad.calls kj1 _ _ y223 t226 _ ?side1 ?side2 ?sideU A11.out).mono ?_); (case sideU => first | exact HU.out | exact Uni.up HU (Bu HB) | exact Uni.below HU.out (by assumption)); (case side1 => exact Cu (Kd.R_reads' HO225.out).2.2); (case side2 => exact (Kd.R_reads' HO225.out).2.1); rintro e w17 ⟨rfl, hb⟩; refine ⟨_, rfl, ?_⟩; have n0_ := Rb HO225 hb; have n1_ := Bs HB hb; clear HO225 HB; revert n0_ n1_; intro HO225 HB; (try clear hb); (try clear hb2); (try clear hk); (try clear hi)) | ((with_reducible refine gate_callee (f := 10) rfl ?_); refine goesA (some 16) Tryd.func10 #[.slice A0 l0.length c0] rfl ?_; (with_reducible refine (lanyardref01_Bad.calls kj1 _ _ l0 t227 _ ?side1 ?side2 A12.out).mono ?_); (case side1 => exact Cu (Kd.C_below HR0.out HB.out)); (case side2 => exact HC0.out); rintro e w' ⟨rfl, ⟨nd, rfl⟩⟩; refine ⟨_, rfl, ?_⟩))
     go_ret
     exact ⟨rfl_, Bu HB⟩
    ·rw [if_neg c10] at H
     exact absurd H (by simp)

/-- THE ONE PURE STATEMENT of lanyardlaw01_CharsBad: yours. -/
def lanyardlaw01_CharsBad.Pure : Prop := ∀ (l0 : List Int), l0.length ≤ maxLen → l0.length * 1 ≤ 140737488351232 → (∀ x ∈ l0, (Lit.int .u8 x).wf = true) → ∃ k, lanyardlaw01_CharsBad.f k l0 = some true
theorem lanyardlaw01_CharsBad.walk (P : lanyardlaw01_CharsBad.Pure) (a0 : Option Addr) (len0 cap0 : Nat) (z0 : List Int) (w : World) (w0 : (a0 = none ∧ len0 = 0 ∧ cap0 = 0 ∧ z0 = []) ∨ ∃ x, a0 = some x ∧ len0 ≤ cap0 ∧ cap0 ≤ maxLen ∧ z0.length = cap0 ∧ (∀ i, i < z0.length → w.cell? (x.add i) = some (.int .u8 (z0.getD i 0))) ∧ ∀ n ∈ z0, (Lit.int .u8 n).wf = true) (y0 : len0 * 1 ≤ 140737488351232) (hU : Uni w) :
  Calls Tryd.prog 3 #[.slice a0 len0 cap0] w fun e w' => e = .returned (.bool true) ∧ Below w.heap.size w w' := by
 obtain ⟨l0, rfl, hr0, hm0, hw0, hc0⟩ := ReadsInt.ofRowC w0
 obtain ⟨k, h⟩ := P l0 hm0 y0 hw0
 refine (lanyardlaw01_CharsBad.calls k _ _ l0 true w (Kd.C_of_reads (d := (0 : Int)) (h1 := fun _ => rfl) hr0) hc0 hU h).mono ?_
 rintro e w' ⟨rfl, hd⟩
 exact ⟨rfl, hd⟩

end Go.Proofs.YthakidcnlkbbgaaDoor.Hp
