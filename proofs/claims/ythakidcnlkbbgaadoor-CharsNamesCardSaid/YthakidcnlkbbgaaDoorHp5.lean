/- Go functions of this seat as Lean functions, and their contracts: what the Go code computes, for every input. (By hp.py, a program of this repo, over the kit's print.py.) -/
import Derived.Test.YthakidcnlkbbgaaDoorHp0
import Derived.Test.YthakidcnlkbbgaaDoorHp3
import Derived.Test.YthakidcnlkbbgaaDoorHp4
namespace Go.Proofs.YthakidcnlkbbgaaDoor.Hp
open Go.RowKit Go.Proofs.YthakidcnlkbbgaaDoorW.PrintWords Go.Proofs.YthakidcnlkbbgaaDoorW.PrintLast Go.Proofs.YthakidcnlkbbgaaDoorW.PrintMore
attribute [local go_sem] max2_int min2_int max_two min_two max_three min_three max_four min_four   -- for this text's walks alone
set_option linter.unusedVariables false
set_option linter.unusedSimpArgs false

/-! ### lanyardref01_Name: function 11 -/
mutual
def lanyardref01_Name.j0 : Nat → List Int → Bool → Option (Bool)
 | 0, _, _ => none
 | k + 1, x3, x17 => if x17 = true then (some false) else (lanyardref01_Name.l0 k x3 0)
def lanyardref01_Name.l0 : Nat → List Int → Int → Option (Bool)
 | 0, _, _ => none
 | k + 1, x3, x4 => if x4 < (x3.length : Int) then (if 0 ≤ x4 then (if x4 ≤ (x3.length : Int) then ((lanyardref01_One.f k (x3.drop (x4 : Int).toNat)).bind fun bt169 => (if bt169.2 = 0 then (lanyardref01_Name.j2 k x3 x4 bt169.1 bt169.2 true) else ((lanyardref01_Char.f bt169.1).bind fun t171 => (lanyardref01_Name.j2 k x3 x4 bt169.1 bt169.2 (!t171))))) else (none)) else (none)) else (some true)
def lanyardref01_Name.j2 : Nat → List Int → Int → Int → Int → Bool → Option (Bool)
 | 0, _, _, _, _, _ => none
 | k + 1, x3, x4, x5, x6, x35 => if x35 = true then (some false) else (if x5 ≥ 48 then (if x5 ≤ 57 then ((lanyardref01_first.f k x5).bind fun t172 => (if t172 = true then (lanyardref01_Name.l0 k x3 (wrap64 (x4 + x6))) else (if x4 = 0 then (some false) else (lanyardref01_Name.l0 k x3 (wrap64 (x4 + x6)))))) else (if x5 = 45 then ((lanyardref01_first.f k x5).bind fun t173 => (if t173 = true then (lanyardref01_Name.l0 k x3 (wrap64 (x4 + x6))) else (if x4 = 0 then (some false) else (lanyardref01_Name.l0 k x3 (wrap64 (x4 + x6)))))) else (if x5 = 46 then ((lanyardref01_first.f k x5).bind fun t174 => (if t174 = true then (lanyardref01_Name.l0 k x3 (wrap64 (x4 + x6))) else (if x4 = 0 then (some false) else (lanyardref01_Name.l0 k x3 (wrap64 (x4 + x6)))))) else (if x5 = 183 then ((lanyardref01_first.f k x5).bind fun t175 => (if t175 = true then (lanyardref01_Name.l0 k x3 (wrap64 (x4 + x6))) else (if x4 = 0 then (some false) else (lanyardref01_Name.l0 k x3 (wrap64 (x4 + x6)))))) else (if x5 ≥ 768 then (if x5 ≤ 879 then ((lanyardref01_first.f k x5).bind fun t176 => (if t176 = true then (lanyardref01_Name.l0 k x3 (wrap64 (x4 + x6))) else (if x4 = 0 then (some false) else (lanyardref01_Name.l0 k x3 (wrap64 (x4 + x6)))))) else (if x5 = 8255 then ((lanyardref01_first.f k x5).bind fun t177 => (if t177 = true then (lanyardref01_Name.l0 k x3 (wrap64 (x4 + x6))) else (if x4 = 0 then (some false) else (lanyardref01_Name.l0 k x3 (wrap64 (x4 + x6)))))) else ((lanyardref01_first.f k x5).bind fun t178 => (if t178 = true then (lanyardref01_Name.l0 k x3 (wrap64 (x4 + x6))) else (if x4 = 0 then (some false) else (if x5 = 8256 then (lanyardref01_Name.l0 k x3 (wrap64 (x4 + x6))) else (some false))))))) else (if x5 = 8255 then ((lanyardref01_first.f k x5).bind fun t179 => (if t179 = true then (lanyardref01_Name.l0 k x3 (wrap64 (x4 + x6))) else (if x4 = 0 then (some false) else (lanyardref01_Name.l0 k x3 (wrap64 (x4 + x6)))))) else ((lanyardref01_first.f k x5).bind fun t180 => (if t180 = true then (lanyardref01_Name.l0 k x3 (wrap64 (x4 + x6))) else (if x4 = 0 then (some false) else (if x5 = 8256 then (lanyardref01_Name.l0 k x3 (wrap64 (x4 + x6))) else (some false))))))))))) else (if x5 = 45 then ((lanyardref01_first.f k x5).bind fun t181 => (if t181 = true then (lanyardref01_Name.l0 k x3 (wrap64 (x4 + x6))) else (if x4 = 0 then (some false) else (lanyardref01_Name.l0 k x3 (wrap64 (x4 + x6)))))) else (if x5 = 46 then ((lanyardref01_first.f k x5).bind fun t182 => (if t182 = true then (lanyardref01_Name.l0 k x3 (wrap64 (x4 + x6))) else (if x4 = 0 then (some false) else (lanyardref01_Name.l0 k x3 (wrap64 (x4 + x6)))))) else (if x5 = 183 then ((lanyardref01_first.f k x5).bind fun t183 => (if t183 = true then (lanyardref01_Name.l0 k x3 (wrap64 (x4 + x6))) else (if x4 = 0 then (some false) else (lanyardref01_Name.l0 k x3 (wrap64 (x4 + x6)))))) else (if x5 ≥ 768 then (if x5 ≤ 879 then ((lanyardref01_first.f k x5).bind fun t184 => (if t184 = true then (lanyardref01_Name.l0 k x3 (wrap64 (x4 + x6))) else (if x4 = 0 then (some false) else (lanyardref01_Name.l0 k x3 (wrap64 (x4 + x6)))))) else (if x5 = 8255 then ((lanyardref01_first.f k x5).bind fun t185 => (if t185 = true then (lanyardref01_Name.l0 k x3 (wrap64 (x4 + x6))) else (if x4 = 0 then (some false) else (lanyardref01_Name.l0 k x3 (wrap64 (x4 + x6)))))) else ((lanyardref01_first.f k x5).bind fun t186 => (if t186 = true then (lanyardref01_Name.l0 k x3 (wrap64 (x4 + x6))) else (if x4 = 0 then (some false) else (if x5 = 8256 then (lanyardref01_Name.l0 k x3 (wrap64 (x4 + x6))) else (some false))))))) else (if x5 = 8255 then ((lanyardref01_first.f k x5).bind fun t187 => (if t187 = true then (lanyardref01_Name.l0 k x3 (wrap64 (x4 + x6))) else (if x4 = 0 then (some false) else (lanyardref01_Name.l0 k x3 (wrap64 (x4 + x6)))))) else ((lanyardref01_first.f k x5).bind fun t188 => (if t188 = true then (lanyardref01_Name.l0 k x3 (wrap64 (x4 + x6))) else (if x4 = 0 then (some false) else (if x5 = 8256 then (lanyardref01_Name.l0 k x3 (wrap64 (x4 + x6))) else (some false)))))))))))
end
def lanyardref01_Name.fc (k : Nat) (a0 : ByteArray) (l1 : List Int) : Option (Bool) := if (l1.length : Int) = 0 then (lanyardref01_Name.j0 k l1 true) else (lanyardref01_Name.j0 k l1 (decide ((l1.length : Int) > 256)))
theorem lanyardref01_Name.mono_l : ∀ k, (∀ y0 y1, LeO (lanyardref01_Name.j0 k y0 y1) (lanyardref01_Name.j0 (k + 1) y0 y1)) ∧ (∀ y0 y1, LeO (lanyardref01_Name.l0 k y0 y1) (lanyardref01_Name.l0 (k + 1) y0 y1)) ∧ (∀ y0 y1 y2 y3 y4, LeO (lanyardref01_Name.j2 k y0 y1 y2 y3 y4) (lanyardref01_Name.j2 (k + 1) y0 y1 y2 y3 y4))
 | 0 => ⟨fun _ _ r h => by simp [lanyardref01_Name.j0] at h, fun _ _ r h => by simp [lanyardref01_Name.l0] at h, fun _ _ _ _ _ r h => by simp [lanyardref01_Name.j2] at h⟩
 | k + 1 => by
  obtain ⟨ih0, ih1, ih2⟩ := lanyardref01_Name.mono_l k
  refine ⟨?_, ?_, ?_⟩
  ·intro y0 y1
   unfold lanyardref01_Name.j0
   repeat' first
   | (with_reducible exact ih0 _ _)
   | (with_reducible exact ih1 _ _)
   | (with_reducible exact ih2 _ _ _ _ _)
   | (with_reducible exact lanyardref01_One.mono _ _)
   | (with_reducible exact lanyardref01_first.mono _ _)
   | (with_reducible exact LeO.refl _)
   | (with_reducible exact LeO.none _)
   | (with_reducible refine LeO.ite ?_ ?_)
   | (with_reducible refine LeO.bind ?_ (fun _ => ?_))
   | exact ih0 _ _
   | exact ih1 _ _
   | exact ih2 _ _ _ _ _
   | exact lanyardref01_One.mono _ _
   | exact lanyardref01_first.mono _ _
   | exact LeO.none _
   | refine LeO.ite ?_ ?_
   | refine LeO.bind ?_ (fun _ => ?_)
  ·intro y0 y1
   unfold lanyardref01_Name.l0
   repeat' first
   | (with_reducible exact ih0 _ _)
   | (with_reducible exact ih1 _ _)
   | (with_reducible exact ih2 _ _ _ _ _)
   | (with_reducible exact lanyardref01_One.mono _ _)
   | (with_reducible exact lanyardref01_first.mono _ _)
   | (with_reducible exact LeO.refl _)
   | (with_reducible exact LeO.none _)
   | (with_reducible refine LeO.ite ?_ ?_)
   | (with_reducible refine LeO.bind ?_ (fun _ => ?_))
   | exact ih0 _ _
   | exact ih1 _ _
   | exact ih2 _ _ _ _ _
   | exact lanyardref01_One.mono _ _
   | exact lanyardref01_first.mono _ _
   | exact LeO.none _
   | refine LeO.ite ?_ ?_
   | refine LeO.bind ?_ (fun _ => ?_)
  ·intro y0 y1 y2 y3 y4
   unfold lanyardref01_Name.j2
   repeat' first
   | (with_reducible exact ih0 _ _)
   | (with_reducible exact ih1 _ _)
   | (with_reducible exact ih2 _ _ _ _ _)
   | (with_reducible exact lanyardref01_One.mono _ _)
   | (with_reducible exact lanyardref01_first.mono _ _)
   | (with_reducible exact LeO.refl _)
   | (with_reducible exact LeO.none _)
   | (with_reducible refine LeO.ite ?_ ?_)
   | (with_reducible refine LeO.bind ?_ (fun _ => ?_))
   | exact ih0 _ _
   | exact ih1 _ _
   | exact ih2 _ _ _ _ _
   | exact lanyardref01_One.mono _ _
   | exact lanyardref01_first.mono _ _
   | exact LeO.none _
   | refine LeO.ite ?_ ?_
   | refine LeO.bind ?_ (fun _ => ?_)
theorem lanyardref01_Name.monoc : ∀ a0 a1 k, LeO (lanyardref01_Name.fc k a0 a1) (lanyardref01_Name.fc (k + 1) a0 a1) := by
 intro a0 a1 k
 obtain ⟨ih0, ih1, ih2⟩ := lanyardref01_Name.mono_l k
 unfold lanyardref01_Name.fc
 repeat' first
   | (with_reducible exact ih0 _ _)
   | (with_reducible exact ih1 _ _)
   | (with_reducible exact ih2 _ _ _ _ _)
   | (with_reducible exact lanyardref01_One.mono _ _)
   | (with_reducible exact lanyardref01_first.mono _ _)
   | (with_reducible exact LeO.refl _)
   | (with_reducible exact LeO.none _)
   | (with_reducible refine LeO.ite ?_ ?_)
   | (with_reducible refine LeO.bind ?_ (fun _ => ?_))
   | exact ih0 _ _
   | exact ih1 _ _
   | exact ih2 _ _ _ _ _
   | exact lanyardref01_One.mono _ _
   | exact lanyardref01_first.mono _ _
   | exact LeO.none _
   | refine LeO.ite ?_ ?_
   | refine LeO.bind ?_ (fun _ => ?_)
set_option maxHeartbeats 8000000 in
set_option maxRecDepth 100000 in
theorem lanyardref01_Name.callsc (k : Nat) (a0 : ByteArray) (A1 : Option Addr) (c1 : Nat) (l1 : List Int) (r : Bool) (w : World) (hr1 : Kd.C (Kd.int .u8) w A1 l1.length l1) (hc1 : l1.length ≤ c1) (w0_ : World) (hcv_ : (convert 9 22 (.string a0)).run Tryd.prog w0_ = .ok (.slice A1 l1.length c1) w) (h : lanyardref01_Name.fc k a0 l1 = some r) :
 Calls Tryd.prog 11 #[.string a0] w0_ fun e w' => e = .returned (.bool r) ∧ Below w.heap.size w w' := by
 have HR1 := Aside0.mk hr1
 have HC1 := Aside0.mk hc1
 clear hr1 hc1
 have HB := Aside0.mk (Below.refl w.heap.size w)
 have H : (if (l1.length : Int) = 0 then (lanyardref01_Name.j0 k l1 true) else (lanyardref01_Name.j0 k l1 (decide ((l1.length : Int) > 256)))) = some r := h
 clear h
 have HC3 := Aside0.mk H
 clear H
 go_enter Tryd.func11, Tryd.ntmps11
 go_upto_region 2 with (fail)
 go_cut [17] (fun v17 wc => ∃ (kq : Nat) (x17_2 : Bool), v17 = .bool x17_2 ∧ Aside0 (lanyardref01_Name.j0 kq l1 x17_2 = some r) ∧ Aside0 (kq ≤ k) ∧ Aside0 (Below w.heap.size w wc))
 case first =>
  have H := HC3.out
  clear HC3
  by_cases c4 : (l1.length : Int) = 0
  ·rw [if_pos c4] at H
   have c4b0 : ((l1.length : Int) == 0) = true := beq_iff_eq.mpr c4
   have c4b1 : ((l1.length : Int) != 0) = false := bne_eq_false_iff_eq.mpr c4
   clear c4
   (first | rw [c4b0] | (simp only [i64_w, i32_w]; rw [c4b0]) | skip)
   have H' := Aside0.mk H
   clear H
   go_wp2
   go_meet
   case rel => exact ⟨_, (true), (by first | rfl | (simp; done) | (simp [*]; done)), H', ⟨by first | omega | exact Nat.le_refl _⟩, ⟨Bu HB⟩⟩
  ·rw [if_neg c4] at H
   have c4b0 : ((l1.length : Int) == 0) = false := beq_eq_false_iff_ne.mpr c4
   have c4b1 : ((l1.length : Int) != 0) = true := bne_iff_ne.mpr c4
   have c4b2 : ¬ (l1 = []) := fun h_ => c4 (by rw [h_]; rfl)
   (first | rw [c4b0] | (simp only [i64_w, i32_w]; rw [c4b0]) | skip)
   have H' := Aside0.mk H
   clear H
   go_wp2
   go_meet
   case rel => exact ⟨_, (decide ((l1.length : Int) > 256)), (by first | rfl | (simp; done) | (simp [*]; done)), H', ⟨by first | omega | exact Nat.le_refl _⟩, ⟨Bu HB⟩⟩
 case rest =>
  clear HC3
  try clear c1
  try clear p2
  try clear c4
  try clear c4b0
  try clear c4b1
  try clear c4b2
  obtain ⟨kq, x17_2, rfl, HA, HJ2, HB⟩ := hcut
  cases kq with
  | zero => exact absurd HA.out (by simp [lanyardref01_Name.j0])
  | succ kj2 =>
   have H := HA.out
   clear HA
   simp only [lanyardref01_Name.j0] at H
   by_cases c5 : x17_2 = true
   ·subst c5
    have H1 : (some false) = some r := by rw [if_pos rfl] at H; exact H
    clear H
    have H := H1
    clear H1
    obtain rfl := Option.some.inj H
    go_wp2
    go_ret
    exact ⟨rfl_, Bu HB⟩
   ·replace c5 := Bool.eq_false_iff.mpr c5
    subst c5
    have H1 : (lanyardref01_Name.l0 kj2 l1 0) = some r := by rw [if_neg (show ¬ (false = true) by decide)] at H; exact H
    clear H
    have H := H1
    clear H1
    have H' := Aside0.mk H
    clear H
    go_wp2
    go_loopg [4] kj2 (fun kq v4 w' => ∃ (x4_2 : Int), v4 = .int .i64 x4_2 ∧ Aside0 (lanyardref01_Name.l0 kq l1 x4_2 = some r) ∧ Aside0 (kq ≤ kj2) ∧ Aside0 (Below w.heap.size w w'))
    case atStart => exact ⟨(0), (by first | rfl | (simp; done) | (simp [*]; done)), H', ⟨Nat.le_refl _⟩, ⟨Bu HB⟩⟩
    case round =>
     clear H'
     try clear c1
     try clear p2
     try clear c4
     try clear c4b0
     try clear c4b1
     try clear c4b2
     try clear c5
     try clear p2
     obtain ⟨x4_2, rfl, HA, HK2, HB⟩ := hrel
     cases gk with
     | zero => exact absurd HA.out (by simp [lanyardref01_Name.l0])
     | succ k2 =>
      have H := HA.out
      clear HA
      simp only [lanyardref01_Name.l0] at H
      by_cases c6 : x4_2 < (l1.length : Int)
      ·rw [if_pos c6] at H
       have c6b0 : decide (x4_2 < (l1.length : Int)) = true := decide_eq_true c6
       clear c6
       by_cases c7 : 0 ≤ x4_2
       ·rw [if_pos c7] at H
        have c7b0 := eq_true c7
        have c7b1 : decide (0 ≤ x4_2) = true := decide_eq_true c7
        clear c7
        by_cases c8 : x4_2 ≤ (l1.length : Int)
        ·rw [if_pos c8] at H
         have c8b0 := eq_true c8
         have c8b1 : decide (x4_2 ≤ (l1.length : Int)) = true := decide_eq_true c8
         clear c8
         replace H := Option.bind_eq_some_iff.mp H
         obtain ⟨⟨t169, t170⟩, A90, H⟩ := H
         replace H : (if t170 = 0 then (lanyardref01_Name.j2 k2 l1 x4_2 t169 t170 true) else ((lanyardref01_Char.f t169).bind fun t171 => (lanyardref01_Name.j2 k2 l1 x4_2 t169 t170 (!t171)))) = some r := H
         have A9 := Aside0.mk A90
         clear A90
         have HC10 := Aside0.mk H
         clear H
         obtain ⟨i011, hi011, _, hsz11, _⟩ := info_parts info5
         obtain ⟨A11, hcut11, hA11, hC11⟩ := print_drop_of (P := Tryd.prog) (Value.int .u8) 0 22 5 .i64 Tryd.underlying22 hi011 hsz11 A1 c1 l1 x4_2 (of_decide_eq_true (by first | (with_reducible assumption) | assumption)) (of_decide_eq_true (by first | (with_reducible assumption) | assumption)) HC1.out
         have HR168 := Aside0.mk (Kd.C_of_reads (h1 := fun _ => rfl) (hA11 _ (Kd.reads_of_C HR1.out)))
         have HC168 := Aside0.mk hC11
         clear hA11 hC11 hi011 hsz11
         go_upto_region 7 with (first | ((with_reducible refine gate_callee (f := 24) rfl ?_); refine goesL_ (some 26) rfl rfl Tryd.func24 (by kernel_rfl) rfl #[.slice A11 (l1.drop (x4_2 : Int).toNat).length (c1 - x4_2.toNat)] rfl (by (try simp only [List.map_toArray, List.map_cons, List.map_nil]); first | done | (rw [show (l1.drop (x4_2 : Int).toNat).length = (l1.length - x4_2.toNat) from List.length_drop] <;> rfl) | rfl | (simp only [List.length_drop, List.length_take]; rfl)) ?_; (with_reducible refine (lanyardref01_One.calls k2 _ _ (l1.drop (x4_2 : Int).toNat) t169 t170 _ ?side1 ?side2 A9.out).mono ?_); (case side1 => exact Cu (Kd.C_below HR168.out HB.out)); (case side2 => exact HC168.out); rintro e w' ⟨rfl, ⟨nd, rfl⟩⟩; refine ⟨_, rfl, ?_⟩))
         (try simp only [Act.put, List.setIfInBounds_toArray, List.set_cons_zero, List.set_cons_succ])
         go_cut [35] (fun v35 wc => ∃ (kq : Nat) (x35_9 : Bool), v35 = .bool x35_9 ∧ Aside0 (lanyardref01_Name.j2 kq l1 x4_2 t169 t170 x35_9 = some r) ∧ Aside0 (kq ≤ k2) ∧ Aside0 (Below w.heap.size w wc))
         case first =>
          have H := HC10.out
          clear HC10
          by_cases c12 : t170 = 0
          ·rw [if_pos c12] at H
           have c12b0 : (t170 == 0) = true := beq_iff_eq.mpr c12
           have c12b1 : (t170 != 0) = false := bne_eq_false_iff_eq.mpr c12
           clear c12
           (first | rw [c12b0] | (simp only [i64_w, i32_w]; rw [c12b0]) | skip)
           have H' := Aside0.mk H
           clear H
           go_wp2
           go_meet
           case rel => exact ⟨_, (true), (by first | rfl | (simp; done) | (simp [*]; done)), H', ⟨by have := HJ2.out; have := HK2.out; first | omega | exact Nat.le_refl _⟩, ⟨Bu HB⟩⟩
          ·rw [if_neg c12] at H
           have c12b0 : (t170 == 0) = false := beq_eq_false_iff_ne.mpr c12
           have c12b1 : (t170 != 0) = true := bne_iff_ne.mpr c12
           (first | rw [c12b0] | (simp only [i64_w, i32_w]; rw [c12b0]) | skip)
           replace H := Option.bind_eq_some_iff.mp H
           obtain ⟨t171, A130, H⟩ := H
           replace H : (lanyardref01_Name.j2 k2 l1 x4_2 t169 t170 (!t171)) = some r := H
           have A13 := Aside0.mk A130
           clear A130
           have H' := Aside0.mk H
           clear H
           go_wp2_with (first | (go_at_call 25; (with_reducible refine (lanyardref01_Char.calls t169 t171 _ A13.out).mono ?_); rintro e w' ⟨rfl, ⟨nd, rfl⟩⟩))
           go_meet
           case rel => exact ⟨_, (!t171), (by first | rfl | (simp; done) | (simp [*]; done)), H', ⟨by have := HJ2.out; have := HK2.out; first | omega | exact Nat.le_refl _⟩, ⟨Bu HB⟩⟩
         case rest =>
          clear HC10
          try clear c1
          try clear c2
          try clear p2
          try clear c4
          try clear c4b0
          try clear c4b1
          try clear c4b2
          try clear c5
          try clear c6
          try clear c6b0
          try clear c7
          try clear c7b0
          try clear c7b1
          try clear c8
          try clear c8b0
          try clear c8b1
          try clear c11
          try clear c12
          try clear c12b0
          try clear c12b1
          try clear p2
          obtain ⟨kq, x35_9, rfl, HA, HJ9, HB⟩ := hcut
          cases kq with
          | zero => exact absurd HA.out (by simp [lanyardref01_Name.j2])
          | succ kj9 =>
           have H := HA.out
           clear HA
           simp only [lanyardref01_Name.j2] at H
           by_cases c14 : x35_9 = true
           ·subst c14
            have H1 : (some false) = some r := by rw [if_pos rfl] at H; exact H
            clear H
            have H := H1
            clear H1
            obtain rfl := Option.some.inj H
            go_wp2
            go_ret
            exact ⟨rfl_, Bu HB⟩
           ·replace c14 := Bool.eq_false_iff.mpr c14
            subst c14
            have H1 : (if t169 ≥ 48 then (if t169 ≤ 57 then ((lanyardref01_first.f kj9 t169).bind fun t172 => (if t172 = true then (lanyardref01_Name.l0 kj9 l1 (wrap64 (x4_2 + t170))) else (if x4_2 = 0 then (some false) else (lanyardref01_Name.l0 kj9 l1 (wrap64 (x4_2 + t170)))))) else (if t169 = 45 then ((lanyardref01_first.f kj9 t169).bind fun t173 => (if t173 = true then (lanyardref01_Name.l0 kj9 l1 (wrap64 (x4_2 + t170))) else (if x4_2 = 0 then (some false) else (lanyardref01_Name.l0 kj9 l1 (wrap64 (x4_2 + t170)))))) else (if t169 = 46 then ((lanyardref01_first.f kj9 t169).bind fun t174 => (if t174 = true then (lanyardref01_Name.l0 kj9 l1 (wrap64 (x4_2 + t170))) else (if x4_2 = 0 then (some false) else (lanyardref01_Name.l0 kj9 l1 (wrap64 (x4_2 + t170)))))) else (if t169 = 183 then ((lanyardref01_first.f kj9 t169).bind fun t175 => (if t175 = true then (lanyardref01_Name.l0 kj9 l1 (wrap64 (x4_2 + t170))) else (if x4_2 = 0 then (some false) else (lanyardref01_Name.l0 kj9 l1 (wrap64 (x4_2 + t170)))))) else (if t169 ≥ 768 then (if t169 ≤ 879 then ((lanyardref01_first.f kj9 t169).bind fun t176 => (if t176 = true then (lanyardref01_Name.l0 kj9 l1 (wrap64 (x4_2 + t170))) else (if x4_2 = 0 then (some false) else (lanyardref01_Name.l0 kj9 l1 (wrap64 (x4_2 + t170)))))) else (if t169 = 8255 then ((lanyardref01_first.f kj9 t169).bind fun t177 => (if t177 = true then (lanyardref01_Name.l0 kj9 l1 (wrap64 (x4_2 + t170))) else (if x4_2 = 0 then (some false) else (lanyardref01_Name.l0 kj9 l1 (wrap64 (x4_2 + t170)))))) else ((lanyardref01_first.f kj9 t169).bind fun t178 => (if t178 = true then (lanyardref01_Name.l0 kj9 l1 (wrap64 (x4_2 + t170))) else (if x4_2 = 0 then (some false) else (if t169 = 8256 then (lanyardref01_Name.l0 kj9 l1 (wrap64 (x4_2 + t170))) else (some false))))))) else (if t169 = 8255 then ((lanyardref01_first.f kj9 t169).bind fun t179 => (if t179 = true then (lanyardref01_Name.l0 kj9 l1 (wrap64 (x4_2 + t170))) else (if x4_2 = 0 then (some false) else (lanyardref01_Name.l0 kj9 l1 (wrap64 (x4_2 + t170)))))) else ((lanyardref01_first.f kj9 t169).bind fun t180 => (if t180 = true then (lanyardref01_Name.l0 kj9 l1 (wrap64 (x4_2 + t170))) else (if x4_2 = 0 then (some false) else (if t169 = 8256 then (lanyardref01_Name.l0 kj9 l1 (wrap64 (x4_2 + t170))) else (some false))))))))))) else (if t169 = 45 then ((lanyardref01_first.f kj9 t169).bind fun t181 => (if t181 = true then (lanyardref01_Name.l0 kj9 l1 (wrap64 (x4_2 + t170))) else (if x4_2 = 0 then (some false) else (lanyardref01_Name.l0 kj9 l1 (wrap64 (x4_2 + t170)))))) else (if t169 = 46 then ((lanyardref01_first.f kj9 t169).bind fun t182 => (if t182 = true then (lanyardref01_Name.l0 kj9 l1 (wrap64 (x4_2 + t170))) else (if x4_2 = 0 then (some false) else (lanyardref01_Name.l0 kj9 l1 (wrap64 (x4_2 + t170)))))) else (if t169 = 183 then ((lanyardref01_first.f kj9 t169).bind fun t183 => (if t183 = true then (lanyardref01_Name.l0 kj9 l1 (wrap64 (x4_2 + t170))) else (if x4_2 = 0 then (some false) else (lanyardref01_Name.l0 kj9 l1 (wrap64 (x4_2 + t170)))))) else (if t169 ≥ 768 then (if t169 ≤ 879 then ((lanyardref01_first.f kj9 t169).bind fun t184 => (if t184 = true then (lanyardref01_Name.l0 kj9 l1 (wrap64 (x4_2 + t170))) else (if x4_2 = 0 then (some false) else (lanyardref01_Name.l0 kj9 l1 (wrap64 (x4_2 + t170)))))) else (if t169 = 8255 then ((lanyardref01_first.f kj9 t169).bind fun t185 => (if t185 = true then (lanyardref01_Name.l0 kj9 l1 (wrap64 (x4_2 + t170))) else (if x4_2 = 0 then (some false) else (lanyardref01_Name.l0 kj9 l1 (wrap64 (x4_2 + t170)))))) else ((lanyardref01_first.f kj9 t169).bind fun t186 => (if t186 = true then (lanyardref01_Name.l0 kj9 l1 (wrap64 (x4_2 + t170))) else (if x4_2 = 0 then (some false) else (if t169 = 8256 then (lanyardref01_Name.l0 kj9 l1 (wrap64 (x4_2 + t170))) else (some false))))))) else (if t169 = 8255 then ((lanyardref01_first.f kj9 t169).bind fun t187 => (if t187 = true then (lanyardref01_Name.l0 kj9 l1 (wrap64 (x4_2 + t170))) else (if x4_2 = 0 then (some false) else (lanyardref01_Name.l0 kj9 l1 (wrap64 (x4_2 + t170)))))) else ((lanyardref01_first.f kj9 t169).bind fun t188 => (if t188 = true then (lanyardref01_Name.l0 kj9 l1 (wrap64 (x4_2 + t170))) else (if x4_2 = 0 then (some false) else (if t169 = 8256 then (lanyardref01_Name.l0 kj9 l1 (wrap64 (x4_2 + t170))) else (some false))))))))))) = some r := by rw [if_neg (show ¬ (false = true) by decide)] at H; exact H
            clear H
            have H := H1
            clear H1
            by_cases c15 : t169 ≥ 48
            ·rw [if_pos c15] at H
             have c15b0 : decide (48 ≤ t169) = true := decide_eq_true c15
             clear c15
             by_cases c16 : t169 ≤ 57
             ·rw [if_pos c16] at H
              have c16b0 : decide (t169 ≤ 57) = true := decide_eq_true c16
              clear c16
              replace H := Option.bind_eq_some_iff.mp H
              obtain ⟨t172, A170, H⟩ := H
              replace H : (if t172 = true then (lanyardref01_Name.l0 kj9 l1 (wrap64 (x4_2 + t170))) else (if x4_2 = 0 then (some false) else (lanyardref01_Name.l0 kj9 l1 (wrap64 (x4_2 + t170))))) = some r := H
              have A17 := Aside0.mk A170
              clear A170
              by_cases c18 : t172 = true
              ·subst c18
               have H1 : (lanyardref01_Name.l0 kj9 l1 (wrap64 (x4_2 + t170))) = some r := by rw [if_pos rfl] at H; exact H
               clear H
               have H := H1
               clear H1
               have H' := Aside0.mk H
               clear H
               go_wp2_with (first | ((with_reducible refine gate_callee (f := 26) rfl ?_); refine goesA (some 71) Tryd.func26 #[.int .i64 t169] rfl ?_; (with_reducible refine (lanyardref01_first.calls kj9 t169 true _ A17.out).mono ?_); rintro e w19 ⟨rfl, hb⟩; refine ⟨_, rfl, ?_⟩; have n0_ := Bs HB hb; clear HB; revert n0_; intro HB; (try clear hb); (try clear hb2); (try clear hk); (try clear hi)))
               go_roundg kj9
               case measure => have := HJ2.out; have := HK2.out; have := HJ9.out; omega
               case rel => exact ⟨(wrap64 (x4_2 + t170)), (by first | rfl | (simp; done) | (simp [*]; done)), H', ⟨by have := HJ2.out; have := HK2.out; have := HJ9.out; omega⟩, ⟨Bu HB⟩⟩
              ·replace c18 := Bool.eq_false_iff.mpr c18
               subst c18
               have H1 : (if x4_2 = 0 then (some false) else (lanyardref01_Name.l0 kj9 l1 (wrap64 (x4_2 + t170)))) = some r := by rw [if_neg (show ¬ (false = true) by decide)] at H; exact H
               clear H
               have H := H1
               clear H1
               by_cases c20 : x4_2 = 0
               ·rw [if_pos c20] at H
                have c20b0 : (x4_2 == 0) = true := beq_iff_eq.mpr c20
                have c20b1 : (x4_2 != 0) = false := bne_eq_false_iff_eq.mpr c20
                clear c20
                obtain rfl := Option.some.inj H
                go_wp2_with (first | ((with_reducible refine gate_callee (f := 26) rfl ?_); refine goesA (some 71) Tryd.func26 #[.int .i64 t169] rfl ?_; (with_reducible refine (lanyardref01_first.calls kj9 t169 false _ A17.out).mono ?_); rintro e w21 ⟨rfl, hb⟩; refine ⟨_, rfl, ?_⟩; have n0_ := Bs HB hb; clear HB; revert n0_; intro HB; (try clear hb); (try clear hb2); (try clear hk); (try clear hi)))
                go_ret
                exact ⟨rfl_, Bu HB⟩
               ·rw [if_neg c20] at H
                have c20b0 : (x4_2 == 0) = false := beq_eq_false_iff_ne.mpr c20
                have c20b1 : (x4_2 != 0) = true := bne_iff_ne.mpr c20
                have H' := Aside0.mk H
                clear H
                go_wp2_with (first | ((with_reducible refine gate_callee (f := 26) rfl ?_); refine goesA (some 71) Tryd.func26 #[.int .i64 t169] rfl ?_; (with_reducible refine (lanyardref01_first.calls kj9 t169 false _ A17.out).mono ?_); rintro e w22 ⟨rfl, hb⟩; refine ⟨_, rfl, ?_⟩; have n0_ := Bs HB hb; clear HB; revert n0_; intro HB; (try clear hb); (try clear hb2); (try clear hk); (try clear hi)))
                go_roundg kj9
                case measure => have := HJ2.out; have := HK2.out; have := HJ9.out; omega
                case rel => exact ⟨(wrap64 (x4_2 + t170)), (by first | rfl | (simp; done) | (simp [*]; done)), H', ⟨by have := HJ2.out; have := HK2.out; have := HJ9.out; omega⟩, ⟨Bu HB⟩⟩
             ·rw [if_neg c16] at H
              have c16b0 : decide (t169 ≤ 57) = false := decide_eq_false c16
              clear c16
              by_cases c23 : t169 = 45
              ·rw [if_pos c23] at H
               have c23b0 : (t169 == 45) = true := beq_iff_eq.mpr c23
               have c23b1 : (t169 != 45) = false := bne_eq_false_iff_eq.mpr c23
               clear c23
               replace H := Option.bind_eq_some_iff.mp H
               obtain ⟨t173, A240, H⟩ := H
               replace H : (if t173 = true then (lanyardref01_Name.l0 kj9 l1 (wrap64 (x4_2 + t170))) else (if x4_2 = 0 then (some false) else (lanyardref01_Name.l0 kj9 l1 (wrap64 (x4_2 + t170))))) = some r := H
               have A24 := Aside0.mk A240
               clear A240
               by_cases c25 : t173 = true
               ·subst c25
                have H1 : (lanyardref01_Name.l0 kj9 l1 (wrap64 (x4_2 + t170))) = some r := by rw [if_pos rfl] at H; exact H
                clear H
                have H := H1
                clear H1
                have H' := Aside0.mk H
                clear H
                go_wp2_with (first | ((with_reducible refine gate_callee (f := 26) rfl ?_); refine goesA (some 71) Tryd.func26 #[.int .i64 t169] rfl ?_; (with_reducible refine (lanyardref01_first.calls kj9 t169 true _ A24.out).mono ?_); rintro e w26 ⟨rfl, hb⟩; refine ⟨_, rfl, ?_⟩; have n0_ := Bs HB hb; clear HB; revert n0_; intro HB; (try clear hb); (try clear hb2); (try clear hk); (try clear hi)))
                go_roundg kj9
                case measure => have := HJ2.out; have := HK2.out; have := HJ9.out; omega
                case rel => exact ⟨(wrap64 (x4_2 + t170)), (by first | rfl | (simp; done) | (simp [*]; done)), H', ⟨by have := HJ2.out; have := HK2.out; have := HJ9.out; omega⟩, ⟨Bu HB⟩⟩
               ·replace c25 := Bool.eq_false_iff.mpr c25
                subst c25
                have H1 : (if x4_2 = 0 then (some false) else (lanyardref01_Name.l0 kj9 l1 (wrap64 (x4_2 + t170)))) = some r := by rw [if_neg (show ¬ (false = true) by decide)] at H; exact H
                clear H
                have H := H1
                clear H1
                by_cases c27 : x4_2 = 0
                ·rw [if_pos c27] at H
                 have c27b0 : (x4_2 == 0) = true := beq_iff_eq.mpr c27
                 have c27b1 : (x4_2 != 0) = false := bne_eq_false_iff_eq.mpr c27
                 clear c27
                 obtain rfl := Option.some.inj H
                 go_wp2_with (first | ((with_reducible refine gate_callee (f := 26) rfl ?_); refine goesA (some 71) Tryd.func26 #[.int .i64 t169] rfl ?_; (with_reducible refine (lanyardref01_first.calls kj9 t169 false _ A24.out).mono ?_); rintro e w28 ⟨rfl, hb⟩; refine ⟨_, rfl, ?_⟩; have n0_ := Bs HB hb; clear HB; revert n0_; intro HB; (try clear hb); (try clear hb2); (try clear hk); (try clear hi)))
                 go_ret
                 exact ⟨rfl_, Bu HB⟩
                ·rw [if_neg c27] at H
                 have c27b0 : (x4_2 == 0) = false := beq_eq_false_iff_ne.mpr c27
                 have c27b1 : (x4_2 != 0) = true := bne_iff_ne.mpr c27
                 have H' := Aside0.mk H
                 clear H
                 go_wp2_with (first | ((with_reducible refine gate_callee (f := 26) rfl ?_); refine goesA (some 71) Tryd.func26 #[.int .i64 t169] rfl ?_; (with_reducible refine (lanyardref01_first.calls kj9 t169 false _ A24.out).mono ?_); rintro e w29 ⟨rfl, hb⟩; refine ⟨_, rfl, ?_⟩; have n0_ := Bs HB hb; clear HB; revert n0_; intro HB; (try clear hb); (try clear hb2); (try clear hk); (try clear hi)))
                 go_roundg kj9
                 case measure => have := HJ2.out; have := HK2.out; have := HJ9.out; omega
                 case rel => exact ⟨(wrap64 (x4_2 + t170)), (by first | rfl | (simp; done) | (simp [*]; done)), H', ⟨by have := HJ2.out; have := HK2.out; have := HJ9.out; omega⟩, ⟨Bu HB⟩⟩
              ·rw [if_neg c23] at H
               have c23b0 : (t169 == 45) = false := beq_eq_false_iff_ne.mpr c23
               have c23b1 : (t169 != 45) = true := bne_iff_ne.mpr c23
               by_cases c30 : t169 = 46
               ·rw [if_pos c30] at H
                have c30b0 : (t169 == 46) = true := beq_iff_eq.mpr c30
                have c30b1 : (t169 != 46) = false := bne_eq_false_iff_eq.mpr c30
                clear c30
                replace H := Option.bind_eq_some_iff.mp H
                obtain ⟨t174, A310, H⟩ := H
                replace H : (if t174 = true then (lanyardref01_Name.l0 kj9 l1 (wrap64 (x4_2 + t170))) else (if x4_2 = 0 then (some false) else (lanyardref01_Name.l0 kj9 l1 (wrap64 (x4_2 + t170))))) = some r := H
                have A31 := Aside0.mk A310
                clear A310
                by_cases c32 : t174 = true
                ·subst c32
                 have H1 : (lanyardref01_Name.l0 kj9 l1 (wrap64 (x4_2 + t170))) = some r := by rw [if_pos rfl] at H; exact H
                 clear H
                 have H := H1
                 clear H1
                 have H' := Aside0.mk H
                 clear H
                 go_wp2_with (first | ((with_reducible refine gate_callee (f := 26) rfl ?_); refine goesA (some 71) Tryd.func26 #[.int .i64 t169] rfl ?_; (with_reducible refine (lanyardref01_first.calls kj9 t169 true _ A31.out).mono ?_); rintro e w33 ⟨rfl, hb⟩; refine ⟨_, rfl, ?_⟩; have n0_ := Bs HB hb; clear HB; revert n0_; intro HB; (try clear hb); (try clear hb2); (try clear hk); (try clear hi)))
                 go_roundg kj9
                 case measure => have := HJ2.out; have := HK2.out; have := HJ9.out; omega
                 case rel => exact ⟨(wrap64 (x4_2 + t170)), (by first | rfl | (simp; done) | (simp [*]; done)), H', ⟨by have := HJ2.out; have := HK2.out; have := HJ9.out; omega⟩, ⟨Bu HB⟩⟩
                ·replace c32 := Bool.eq_false_iff.mpr c32
                 subst c32
                 have H1 : (if x4_2 = 0 then (some false) else (lanyardref01_Name.l0 kj9 l1 (wrap64 (x4_2 + t170)))) = some r := by rw [if_neg (show ¬ (false = true) by decide)] at H; exact H
                 clear H
                 have H := H1
                 clear H1
                 by_cases c34 : x4_2 = 0
                 ·rw [if_pos c34] at H
                  have c34b0 : (x4_2 == 0) = true := beq_iff_eq.mpr c34
                  have c34b1 : (x4_2 != 0) = false := bne_eq_false_iff_eq.mpr c34
                  clear c34
                  obtain rfl := Option.some.inj H
                  go_wp2_with (first | ((with_reducible refine gate_callee (f := 26) rfl ?_); refine goesA (some 71) Tryd.func26 #[.int .i64 t169] rfl ?_; (with_reducible refine (lanyardref01_first.calls kj9 t169 false _ A31.out).mono ?_); rintro e w35 ⟨rfl, hb⟩; refine ⟨_, rfl, ?_⟩; have n0_ := Bs HB hb; clear HB; revert n0_; intro HB; (try clear hb); (try clear hb2); (try clear hk); (try clear hi)))
                  go_ret
                  exact ⟨rfl_, Bu HB⟩
                 ·rw [if_neg c34] at H
                  have c34b0 : (x4_2 == 0) = false := beq_eq_false_iff_ne.mpr c34
                  have c34b1 : (x4_2 != 0) = true := bne_iff_ne.mpr c34
                  have H' := Aside0.mk H
                  clear H
                  go_wp2_with (first | ((with_reducible refine gate_callee (f := 26) rfl ?_); refine goesA (some 71) Tryd.func26 #[.int .i64 t169] rfl ?_; (with_reducible refine (lanyardref01_first.calls kj9 t169 false _ A31.out).mono ?_); rintro e w36 ⟨rfl, hb⟩; refine ⟨_, rfl, ?_⟩; have n0_ := Bs HB hb; clear HB; revert n0_; intro HB; (try clear hb); (try clear hb2); (try clear hk); (try clear hi)))
                  go_roundg kj9
                  case measure => have := HJ2.out; have := HK2.out; have := HJ9.out; omega
                  case rel => exact ⟨(wrap64 (x4_2 + t170)), (by first | rfl | (simp; done) | (simp [*]; done)), H', ⟨by have := HJ2.out; have := HK2.out; have := HJ9.out; omega⟩, ⟨Bu HB⟩⟩
               ·rw [if_neg c30] at H
                have c30b0 : (t169 == 46) = false := beq_eq_false_iff_ne.mpr c30
                have c30b1 : (t169 != 46) = true := bne_iff_ne.mpr c30
                by_cases c37 : t169 = 183
                ·rw [if_pos c37] at H
                 have c37b0 : (t169 == 183) = true := beq_iff_eq.mpr c37
                 have c37b1 : (t169 != 183) = false := bne_eq_false_iff_eq.mpr c37
                 clear c37
                 replace H := Option.bind_eq_some_iff.mp H
                 obtain ⟨t175, A380, H⟩ := H
                 replace H : (if t175 = true then (lanyardref01_Name.l0 kj9 l1 (wrap64 (x4_2 + t170))) else (if x4_2 = 0 then (some false) else (lanyardref01_Name.l0 kj9 l1 (wrap64 (x4_2 + t170))))) = some r := H
                 have A38 := Aside0.mk A380
                 clear A380
                 by_cases c39 : t175 = true
                 ·subst c39
                  have H1 : (lanyardref01_Name.l0 kj9 l1 (wrap64 (x4_2 + t170))) = some r := by rw [if_pos rfl] at H; exact H
                  clear H
                  have H := H1
                  clear H1
                  have H' := Aside0.mk H
                  clear H
                  go_wp2_with (first | ((with_reducible refine gate_callee (f := 26) rfl ?_); refine goesA (some 71) Tryd.func26 #[.int .i64 t169] rfl ?_; (with_reducible refine (lanyardref01_first.calls kj9 t169 true _ A38.out).mono ?_); rintro e w40 ⟨rfl, hb⟩; refine ⟨_, rfl, ?_⟩; have n0_ := Bs HB hb; clear HB; revert n0_; intro HB; (try clear hb); (try clear hb2); (try clear hk); (try clear hi)))
                  go_roundg kj9
                  case measure => have := HJ2.out; have := HK2.out; have := HJ9.out; omega
                  case rel => exact ⟨(wrap64 (x4_2 + t170)), (by first | rfl | (simp; done) | (simp [*]; done)), H', ⟨by have := HJ2.out; have := HK2.out; have := HJ9.out; omega⟩, ⟨Bu HB⟩⟩
                 ·replace c39 := Bool.eq_false_iff.mpr c39
                  subst c39
                  have H1 : (if x4_2 = 0 then (some false) else (lanyardref01_Name.l0 kj9 l1 (wrap64 (x4_2 + t170)))) = some r := by rw [if_neg (show ¬ (false = true) by decide)] at H; exact H
                  clear H
                  have H := H1
                  clear H1
                  by_cases c41 : x4_2 = 0
                  ·rw [if_pos c41] at H
                   have c41b0 : (x4_2 == 0) = true := beq_iff_eq.mpr c41
                   have c41b1 : (x4_2 != 0) = false := bne_eq_false_iff_eq.mpr c41
                   clear c41
                   obtain rfl := Option.some.inj H
                   go_wp2_with (first | ((with_reducible refine gate_callee (f := 26) rfl ?_); refine goesA (some 71) Tryd.func26 #[.int .i64 t169] rfl ?_; (with_reducible refine (lanyardref01_first.calls kj9 t169 false _ A38.out).mono ?_); rintro e w42 ⟨rfl, hb⟩; refine ⟨_, rfl, ?_⟩; have n0_ := Bs HB hb; clear HB; revert n0_; intro HB; (try clear hb); (try clear hb2); (try clear hk); (try clear hi)))
                   go_ret
                   exact ⟨rfl_, Bu HB⟩
                  ·rw [if_neg c41] at H
                   have c41b0 : (x4_2 == 0) = false := beq_eq_false_iff_ne.mpr c41
                   have c41b1 : (x4_2 != 0) = true := bne_iff_ne.mpr c41
                   have H' := Aside0.mk H
                   clear H
                   go_wp2_with (first | ((with_reducible refine gate_callee (f := 26) rfl ?_); refine goesA (some 71) Tryd.func26 #[.int .i64 t169] rfl ?_; (with_reducible refine (lanyardref01_first.calls kj9 t169 false _ A38.out).mono ?_); rintro e w43 ⟨rfl, hb⟩; refine ⟨_, rfl, ?_⟩; have n0_ := Bs HB hb; clear HB; revert n0_; intro HB; (try clear hb); (try clear hb2); (try clear hk); (try clear hi)))
                   go_roundg kj9
                   case measure => have := HJ2.out; have := HK2.out; have := HJ9.out; omega
                   case rel => exact ⟨(wrap64 (x4_2 + t170)), (by first | rfl | (simp; done) | (simp [*]; done)), H', ⟨by have := HJ2.out; have := HK2.out; have := HJ9.out; omega⟩, ⟨Bu HB⟩⟩
                ·rw [if_neg c37] at H
                 have c37b0 : (t169 == 183) = false := beq_eq_false_iff_ne.mpr c37
                 have c37b1 : (t169 != 183) = true := bne_iff_ne.mpr c37
                 by_cases c44 : t169 ≥ 768
                 ·rw [if_pos c44] at H
                  have c44b0 : decide (768 ≤ t169) = true := decide_eq_true c44
                  clear c44
                  by_cases c45 : t169 ≤ 879
                  ·rw [if_pos c45] at H
                   have c45b0 : decide (t169 ≤ 879) = true := decide_eq_true c45
                   clear c45
                   replace H := Option.bind_eq_some_iff.mp H
                   obtain ⟨t176, A460, H⟩ := H
                   replace H : (if t176 = true then (lanyardref01_Name.l0 kj9 l1 (wrap64 (x4_2 + t170))) else (if x4_2 = 0 then (some false) else (lanyardref01_Name.l0 kj9 l1 (wrap64 (x4_2 + t170))))) = some r := H
                   have A46 := Aside0.mk A460
                   clear A460
                   by_cases c47 : t176 = true
                   ·subst c47
                    have H1 : (lanyardref01_Name.l0 kj9 l1 (wrap64 (x4_2 + t170))) = some r := by rw [if_pos rfl] at H; exact H
                    clear H
                    have H := H1
                    clear H1
                    have H' := Aside0.mk H
                    clear H
                    go_wp2_with (first | ((with_reducible refine gate_callee (f := 26) rfl ?_); refine goesA (some 71) Tryd.func26 #[.int .i64 t169] rfl ?_; (with_reducible refine (lanyardref01_first.calls kj9 t169 true _ A46.out).mono ?_); rintro e w48 ⟨rfl, hb⟩; refine ⟨_, rfl, ?_⟩; have n0_ := Bs HB hb; clear HB; revert n0_; intro HB; (try clear hb); (try clear hb2); (try clear hk); (try clear hi)))
                    go_roundg kj9
                    case measure => have := HJ2.out; have := HK2.out; have := HJ9.out; omega
                    case rel => exact ⟨(wrap64 (x4_2 + t170)), (by first | rfl | (simp; done) | (simp [*]; done)), H', ⟨by have := HJ2.out; have := HK2.out; have := HJ9.out; omega⟩, ⟨Bu HB⟩⟩
                   ·replace c47 := Bool.eq_false_iff.mpr c47
                    subst c47
                    have H1 : (if x4_2 = 0 then (some false) else (lanyardref01_Name.l0 kj9 l1 (wrap64 (x4_2 + t170)))) = some r := by rw [if_neg (show ¬ (false = true) by decide)] at H; exact H
                    clear H
                    have H := H1
                    clear H1
                    by_cases c49 : x4_2 = 0
                    ·rw [if_pos c49] at H
                     have c49b0 : (x4_2 == 0) = true := beq_iff_eq.mpr c49
                     have c49b1 : (x4_2 != 0) = false := bne_eq_false_iff_eq.mpr c49
                     clear c49
                     obtain rfl := Option.some.inj H
                     go_wp2_with (first | ((with_reducible refine gate_callee (f := 26) rfl ?_); refine goesA (some 71) Tryd.func26 #[.int .i64 t169] rfl ?_; (with_reducible refine (lanyardref01_first.calls kj9 t169 false _ A46.out).mono ?_); rintro e w50 ⟨rfl, hb⟩; refine ⟨_, rfl, ?_⟩; have n0_ := Bs HB hb; clear HB; revert n0_; intro HB; (try clear hb); (try clear hb2); (try clear hk); (try clear hi)))
                     go_ret
                     exact ⟨rfl_, Bu HB⟩
                    ·rw [if_neg c49] at H
                     have c49b0 : (x4_2 == 0) = false := beq_eq_false_iff_ne.mpr c49
                     have c49b1 : (x4_2 != 0) = true := bne_iff_ne.mpr c49
                     have H' := Aside0.mk H
                     clear H
                     go_wp2_with (first | ((with_reducible refine gate_callee (f := 26) rfl ?_); refine goesA (some 71) Tryd.func26 #[.int .i64 t169] rfl ?_; (with_reducible refine (lanyardref01_first.calls kj9 t169 false _ A46.out).mono ?_); rintro e w51 ⟨rfl, hb⟩; refine ⟨_, rfl, ?_⟩; have n0_ := Bs HB hb; clear HB; revert n0_; intro HB; (try clear hb); (try clear hb2); (try clear hk); (try clear hi)))
                     go_roundg kj9
                     case measure => have := HJ2.out; have := HK2.out; have := HJ9.out; omega
                     case rel => exact ⟨(wrap64 (x4_2 + t170)), (by first | rfl | (simp; done) | (simp [*]; done)), H', ⟨by have := HJ2.out; have := HK2.out; have := HJ9.out; omega⟩, ⟨Bu HB⟩⟩
                  ·rw [if_neg c45] at H
                   have c45b0 : decide (t169 ≤ 879) = false := decide_eq_false c45
                   clear c45
                   by_cases c52 : t169 = 8255
                   ·rw [if_pos c52] at H
                    have c52b0 : (t169 == 8255) = true := beq_iff_eq.mpr c52
                    have c52b1 : (t169 != 8255) = false := bne_eq_false_iff_eq.mpr c52
                    clear c52
                    replace H := Option.bind_eq_some_iff.mp H
                    obtain ⟨t177, A530, H⟩ := H
                    replace H : (if t177 = true then (lanyardref01_Name.l0 kj9 l1 (wrap64 (x4_2 + t170))) else (if x4_2 = 0 then (some false) else (lanyardref01_Name.l0 kj9 l1 (wrap64 (x4_2 + t170))))) = some r := H
                    have A53 := Aside0.mk A530
                    clear A530
                    by_cases c54 : t177 = true
                    ·subst c54
                     have H1 : (lanyardref01_Name.l0 kj9 l1 (wrap64 (x4_2 + t170))) = some r := by rw [if_pos rfl] at H; exact H
                     clear H
                     have H := H1
                     clear H1
                     have H' := Aside0.mk H
                     clear H
                     go_wp2_with (first | ((with_reducible refine gate_callee (f := 26) rfl ?_); refine goesA (some 71) Tryd.func26 #[.int .i64 t169] rfl ?_; (with_reducible refine (lanyardref01_first.calls kj9 t169 true _ A53.out).mono ?_); rintro e w55 ⟨rfl, hb⟩; refine ⟨_, rfl, ?_⟩; have n0_ := Bs HB hb; clear HB; revert n0_; intro HB; (try clear hb); (try clear hb2); (try clear hk); (try clear hi)))
                     go_roundg kj9
                     case measure => have := HJ2.out; have := HK2.out; have := HJ9.out; omega
                     case rel => exact ⟨(wrap64 (x4_2 + t170)), (by first | rfl | (simp; done) | (simp [*]; done)), H', ⟨by have := HJ2.out; have := HK2.out; have := HJ9.out; omega⟩, ⟨Bu HB⟩⟩
                    ·replace c54 := Bool.eq_false_iff.mpr c54
                     subst c54
                     have H1 : (if x4_2 = 0 then (some false) else (lanyardref01_Name.l0 kj9 l1 (wrap64 (x4_2 + t170)))) = some r := by rw [if_neg (show ¬ (false = true) by decide)] at H; exact H
                     clear H
                     have H := H1
                     clear H1
                     by_cases c56 : x4_2 = 0
                     ·rw [if_pos c56] at H
                      have c56b0 : (x4_2 == 0) = true := beq_iff_eq.mpr c56
                      have c56b1 : (x4_2 != 0) = false := bne_eq_false_iff_eq.mpr c56
                      clear c56
                      obtain rfl := Option.some.inj H
                      go_wp2_with (first | ((with_reducible refine gate_callee (f := 26) rfl ?_); refine goesA (some 71) Tryd.func26 #[.int .i64 t169] rfl ?_; (with_reducible refine (lanyardref01_first.calls kj9 t169 false _ A53.out).mono ?_); rintro e w57 ⟨rfl, hb⟩; refine ⟨_, rfl, ?_⟩; have n0_ := Bs HB hb; clear HB; revert n0_; intro HB; (try clear hb); (try clear hb2); (try clear hk); (try clear hi)))
                      go_ret
                      exact ⟨rfl_, Bu HB⟩
                     ·rw [if_neg c56] at H
                      have c56b0 : (x4_2 == 0) = false := beq_eq_false_iff_ne.mpr c56
                      have c56b1 : (x4_2 != 0) = true := bne_iff_ne.mpr c56
                      have H' := Aside0.mk H
                      clear H
                      go_wp2_with (first | ((with_reducible refine gate_callee (f := 26) rfl ?_); refine goesA (some 71) Tryd.func26 #[.int .i64 t169] rfl ?_; (with_reducible refine (lanyardref01_first.calls kj9 t169 false _ A53.out).mono ?_); rintro e w58 ⟨rfl, hb⟩; refine ⟨_, rfl, ?_⟩; have n0_ := Bs HB hb; clear HB; revert n0_; intro HB; (try clear hb); (try clear hb2); (try clear hk); (try clear hi)))
                      go_roundg kj9
                      case measure => have := HJ2.out; have := HK2.out; have := HJ9.out; omega
                      case rel => exact ⟨(wrap64 (x4_2 + t170)), (by first | rfl | (simp; done) | (simp [*]; done)), H', ⟨by have := HJ2.out; have := HK2.out; have := HJ9.out; omega⟩, ⟨Bu HB⟩⟩
                   ·rw [if_neg c52] at H
                    have c52b0 : (t169 == 8255) = false := beq_eq_false_iff_ne.mpr c52
                    have c52b1 : (t169 != 8255) = true := bne_iff_ne.mpr c52
                    replace H := Option.bind_eq_some_iff.mp H
                    obtain ⟨t178, A590, H⟩ := H
                    replace H : (if t178 = true then (lanyardref01_Name.l0 kj9 l1 (wrap64 (x4_2 + t170))) else (if x4_2 = 0 then (some false) else (if t169 = 8256 then (lanyardref01_Name.l0 kj9 l1 (wrap64 (x4_2 + t170))) else (some false)))) = some r := H
                    have A59 := Aside0.mk A590
                    clear A590
                    refine (Classical.em (t178 = true)).elim (fun c60 => ?a25_) (fun c60 => ?b25_)
                    case' a25_ =>
                     subst c60
                     have H1 : (lanyardref01_Name.l0 kj9 l1 (wrap64 (x4_2 + t170))) = some r := by rw [if_pos rfl] at H; exact H
                     clear H
                     have H := H1
                     clear H1
                     have H' := Aside0.mk H
                     clear H
                     go_wp2_with (first | ((with_reducible refine gate_callee (f := 26) rfl ?_); refine goesA (some 71) Tryd.func26 #[.int .i64 t169] rfl ?_; (with_reducible refine (lanyardref01_first.calls kj9 t169 true _ A59.out).mono ?_); rintro e w61 ⟨rfl, hb⟩; refine ⟨_, rfl, ?_⟩; have n0_ := Bs HB hb; clear HB; revert n0_; intro HB; (try clear hb); (try clear hb2); (try clear hk); (try clear hi)))
                     go_roundg kj9
                     case measure => have := HJ2.out; have := HK2.out; have := HJ9.out; omega
                     case rel => exact ⟨(wrap64 (x4_2 + t170)), (by first | rfl | (simp; done) | (simp [*]; done)), H', ⟨by have := HJ2.out; have := HK2.out; have := HJ9.out; omega⟩, ⟨Bu HB⟩⟩
                    case' b25_ =>
                     replace c60 := Bool.eq_false_iff.mpr c60
                     subst c60
                     have H1 : (if x4_2 = 0 then (some false) else (if t169 = 8256 then (lanyardref01_Name.l0 kj9 l1 (wrap64 (x4_2 + t170))) else (some false))) = some r := by rw [if_neg (show ¬ (false = true) by decide)] at H; exact H
                     clear H
                     have H := H1
                     clear H1
                     refine (Classical.em (x4_2 = 0)).elim (fun c62 => ?a26_) (fun c62 => ?b26_)
                     case' a26_ =>
                      rw [if_pos c62] at H
                      have c62b0 : (x4_2 == 0) = true := beq_iff_eq.mpr c62
                      have c62b1 : (x4_2 != 0) = false := bne_eq_false_iff_eq.mpr c62
                      clear c62
                      obtain rfl := Option.some.inj H
                     case' b26_ =>
                      rw [if_neg c62] at H
                      have c62b0 : (x4_2 == 0) = false := beq_eq_false_iff_ne.mpr c62
                      have c62b1 : (x4_2 != 0) = true := bne_iff_ne.mpr c62
                      refine (Classical.em (t169 = 8256)).elim (fun c64 => ?a27_) (fun c64 => ?b27_)
                      case' a27_ =>
                       rw [if_pos c64] at H
                       have c64b0 : (t169 == 8256) = true := beq_iff_eq.mpr c64
                       have c64b1 : (t169 != 8256) = false := bne_eq_false_iff_eq.mpr c64
                       clear c64
                       have H' := Aside0.mk H
                       clear H
                       go_wp2_with (first | ((with_reducible refine gate_callee (f := 26) rfl ?_); refine goesA (some 71) Tryd.func26 #[.int .i64 t169] rfl ?_; (with_reducible refine (lanyardref01_first.calls kj9 t169 false _ A59.out).mono ?_); rintro e w65 ⟨rfl, hb⟩; refine ⟨_, rfl, ?_⟩; have n0_ := Bs HB hb; clear HB; revert n0_; intro HB; (try clear hb); (try clear hb2); (try clear hk); (try clear hi)))
                       go_roundg kj9
                       case measure => have := HJ2.out; have := HK2.out; have := HJ9.out; omega
                       case rel => exact ⟨(wrap64 (x4_2 + t170)), (by first | rfl | (simp; done) | (simp [*]; done)), H', ⟨by have := HJ2.out; have := HK2.out; have := HJ9.out; omega⟩, ⟨Bu HB⟩⟩
                      case' b27_ =>
                       rw [if_neg c64] at H
                       have c64b0 : (t169 == 8256) = false := beq_eq_false_iff_ne.mpr c64
                       have c64b1 : (t169 != 8256) = true := bne_iff_ne.mpr c64
                       obtain rfl := Option.some.inj H
                    case a26_ | b26_ =>
                     go_wp2_with (first | ((with_reducible refine gate_callee (f := 26) rfl ?_); refine goesA (some 71) Tryd.func26 #[.int .i64 t169] rfl ?_; (with_reducible refine (lanyardref01_first.calls kj9 t169 false _ A59.out).mono ?_); rintro e wz1 ⟨rfl, hb⟩; refine ⟨_, rfl, ?_⟩; have n0_ := Bs HB hb; clear HB; revert n0_; intro HB; (try clear hb); (try clear hb2); (try clear hk); (try clear hi)))
                     go_ret
                     exact ⟨rfl_, Bu HB⟩
                 ·rw [if_neg c44] at H
                  have c44b0 : decide (768 ≤ t169) = false := decide_eq_false c44
                  clear c44
                  by_cases c67 : t169 = 8255
                  ·rw [if_pos c67] at H
                   have c67b0 : (t169 == 8255) = true := beq_iff_eq.mpr c67
                   have c67b1 : (t169 != 8255) = false := bne_eq_false_iff_eq.mpr c67
                   clear c67
                   replace H := Option.bind_eq_some_iff.mp H
                   obtain ⟨t179, A680, H⟩ := H
                   replace H : (if t179 = true then (lanyardref01_Name.l0 kj9 l1 (wrap64 (x4_2 + t170))) else (if x4_2 = 0 then (some false) else (lanyardref01_Name.l0 kj9 l1 (wrap64 (x4_2 + t170))))) = some r := H
                   have A68 := Aside0.mk A680
                   clear A680
                   by_cases c69 : t179 = true
                   ·subst c69
                    have H1 : (lanyardref01_Name.l0 kj9 l1 (wrap64 (x4_2 + t170))) = some r := by rw [if_pos rfl] at H; exact H
                    clear H
                    have H := H1
                    clear H1
                    have H' := Aside0.mk H
                    clear H
                    go_wp2_with (first | ((with_reducible refine gate_callee (f := 26) rfl ?_); refine goesA (some 71) Tryd.func26 #[.int .i64 t169] rfl ?_; (with_reducible refine (lanyardref01_first.calls kj9 t169 true _ A68.out).mono ?_); rintro e w70 ⟨rfl, hb⟩; refine ⟨_, rfl, ?_⟩; have n0_ := Bs HB hb; clear HB; revert n0_; intro HB; (try clear hb); (try clear hb2); (try clear hk); (try clear hi)))
                    go_roundg kj9
                    case measure => have := HJ2.out; have := HK2.out; have := HJ9.out; omega
                    case rel => exact ⟨(wrap64 (x4_2 + t170)), (by first | rfl | (simp; done) | (simp [*]; done)), H', ⟨by have := HJ2.out; have := HK2.out; have := HJ9.out; omega⟩, ⟨Bu HB⟩⟩
                   ·replace c69 := Bool.eq_false_iff.mpr c69
                    subst c69
                    have H1 : (if x4_2 = 0 then (some false) else (lanyardref01_Name.l0 kj9 l1 (wrap64 (x4_2 + t170)))) = some r := by rw [if_neg (show ¬ (false = true) by decide)] at H; exact H
                    clear H
                    have H := H1
                    clear H1
                    by_cases c71 : x4_2 = 0
                    ·rw [if_pos c71] at H
                     have c71b0 : (x4_2 == 0) = true := beq_iff_eq.mpr c71
                     have c71b1 : (x4_2 != 0) = false := bne_eq_false_iff_eq.mpr c71
                     clear c71
                     obtain rfl := Option.some.inj H
                     go_wp2_with (first | ((with_reducible refine gate_callee (f := 26) rfl ?_); refine goesA (some 71) Tryd.func26 #[.int .i64 t169] rfl ?_; (with_reducible refine (lanyardref01_first.calls kj9 t169 false _ A68.out).mono ?_); rintro e w72 ⟨rfl, hb⟩; refine ⟨_, rfl, ?_⟩; have n0_ := Bs HB hb; clear HB; revert n0_; intro HB; (try clear hb); (try clear hb2); (try clear hk); (try clear hi)))
                     go_ret
                     exact ⟨rfl_, Bu HB⟩
                    ·rw [if_neg c71] at H
                     have c71b0 : (x4_2 == 0) = false := beq_eq_false_iff_ne.mpr c71
                     have c71b1 : (x4_2 != 0) = true := bne_iff_ne.mpr c71
                     have H' := Aside0.mk H
                     clear H
                     go_wp2_with (first | ((with_reducible refine gate_callee (f := 26) rfl ?_); refine goesA (some 71) Tryd.func26 #[.int .i64 t169] rfl ?_; (with_reducible refine (lanyardref01_first.calls kj9 t169 false _ A68.out).mono ?_); rintro e w73 ⟨rfl, hb⟩; refine ⟨_, rfl, ?_⟩; have n0_ := Bs HB hb; clear HB; revert n0_; intro HB; (try clear hb); (try clear hb2); (try clear hk); (try clear hi)))
                     go_roundg kj9
                     case measure => have := HJ2.out; have := HK2.out; have := HJ9.out; omega
                     case rel => exact ⟨(wrap64 (x4_2 + t170)), (by first | rfl | (simp; done) | (simp [*]; done)), H', ⟨by have := HJ2.out; have := HK2.out; have := HJ9.out; omega⟩, ⟨Bu HB⟩⟩
                  ·rw [if_neg c67] at H
                   have c67b0 : (t169 == 8255) = false := beq_eq_false_iff_ne.mpr c67
                   have c67b1 : (t169 != 8255) = true := bne_iff_ne.mpr c67
                   replace H := Option.bind_eq_some_iff.mp H
                   obtain ⟨t180, A740, H⟩ := H
                   replace H : (if t180 = true then (lanyardref01_Name.l0 kj9 l1 (wrap64 (x4_2 + t170))) else (if x4_2 = 0 then (some false) else (if t169 = 8256 then (lanyardref01_Name.l0 kj9 l1 (wrap64 (x4_2 + t170))) else (some false)))) = some r := H
                   have A74 := Aside0.mk A740
                   clear A740
                   refine (Classical.em (t180 = true)).elim (fun c75 => ?a28_) (fun c75 => ?b28_)
                   case' a28_ =>
                    subst c75
                    have H1 : (lanyardref01_Name.l0 kj9 l1 (wrap64 (x4_2 + t170))) = some r := by rw [if_pos rfl] at H; exact H
                    clear H
                    have H := H1
                    clear H1
                    have H' := Aside0.mk H
                    clear H
                    go_wp2_with (first | ((with_reducible refine gate_callee (f := 26) rfl ?_); refine goesA (some 71) Tryd.func26 #[.int .i64 t169] rfl ?_; (with_reducible refine (lanyardref01_first.calls kj9 t169 true _ A74.out).mono ?_); rintro e w76 ⟨rfl, hb⟩; refine ⟨_, rfl, ?_⟩; have n0_ := Bs HB hb; clear HB; revert n0_; intro HB; (try clear hb); (try clear hb2); (try clear hk); (try clear hi)))
                    go_roundg kj9
                    case measure => have := HJ2.out; have := HK2.out; have := HJ9.out; omega
                    case rel => exact ⟨(wrap64 (x4_2 + t170)), (by first | rfl | (simp; done) | (simp [*]; done)), H', ⟨by have := HJ2.out; have := HK2.out; have := HJ9.out; omega⟩, ⟨Bu HB⟩⟩
                   case' b28_ =>
                    replace c75 := Bool.eq_false_iff.mpr c75
                    subst c75
                    have H1 : (if x4_2 = 0 then (some false) else (if t169 = 8256 then (lanyardref01_Name.l0 kj9 l1 (wrap64 (x4_2 + t170))) else (some false))) = some r := by rw [if_neg (show ¬ (false = true) by decide)] at H; exact H
                    clear H
                    have H := H1
                    clear H1
                    refine (Classical.em (x4_2 = 0)).elim (fun c77 => ?a29_) (fun c77 => ?b29_)
                    case' a29_ =>
                     rw [if_pos c77] at H
                     have c77b0 : (x4_2 == 0) = true := beq_iff_eq.mpr c77
                     have c77b1 : (x4_2 != 0) = false := bne_eq_false_iff_eq.mpr c77
                     clear c77
                     obtain rfl := Option.some.inj H
                    case' b29_ =>
                     rw [if_neg c77] at H
                     have c77b0 : (x4_2 == 0) = false := beq_eq_false_iff_ne.mpr c77
                     have c77b1 : (x4_2 != 0) = true := bne_iff_ne.mpr c77
                     refine (Classical.em (t169 = 8256)).elim (fun c79 => ?a30_) (fun c79 => ?b30_)
                     case' a30_ =>
                      rw [if_pos c79] at H
                      have c79b0 : (t169 == 8256) = true := beq_iff_eq.mpr c79
                      have c79b1 : (t169 != 8256) = false := bne_eq_false_iff_eq.mpr c79
                      clear c79
                      have H' := Aside0.mk H
                      clear H
                      go_wp2_with (first | ((with_reducible refine gate_callee (f := 26) rfl ?_); refine goesA (some 71) Tryd.func26 #[.int .i64 t169] rfl ?_; (with_reducible refine (lanyardref01_first.calls kj9 t169 false _ A74.out).mono ?_); rintro e w80 ⟨rfl, hb⟩; refine ⟨_, rfl, ?_⟩; have n0_ := Bs HB hb; clear HB; revert n0_; intro HB; (try clear hb); (try clear hb2); (try clear hk); (try clear hi)))
                      go_roundg kj9
                      case measure => have := HJ2.out; have := HK2.out; have := HJ9.out; omega
                      case rel => exact ⟨(wrap64 (x4_2 + t170)), (by first | rfl | (simp; done) | (simp [*]; done)), H', ⟨by have := HJ2.out; have := HK2.out; have := HJ9.out; omega⟩, ⟨Bu HB⟩⟩
                     case' b30_ =>
                      rw [if_neg c79] at H
                      have c79b0 : (t169 == 8256) = false := beq_eq_false_iff_ne.mpr c79
                      have c79b1 : (t169 != 8256) = true := bne_iff_ne.mpr c79
                      obtain rfl := Option.some.inj H
                   case a29_ | b29_ =>
                    go_wp2_with (first | ((with_reducible refine gate_callee (f := 26) rfl ?_); refine goesA (some 71) Tryd.func26 #[.int .i64 t169] rfl ?_; (with_reducible refine (lanyardref01_first.calls kj9 t169 false _ A74.out).mono ?_); rintro e wz1 ⟨rfl, hb⟩; refine ⟨_, rfl, ?_⟩; have n0_ := Bs HB hb; clear HB; revert n0_; intro HB; (try clear hb); (try clear hb2); (try clear hk); (try clear hi)))
                    go_ret
                    exact ⟨rfl_, Bu HB⟩
            ·rw [if_neg c15] at H
             have c15b0 : decide (48 ≤ t169) = false := decide_eq_false c15
             clear c15
             by_cases c82 : t169 = 45
             ·rw [if_pos c82] at H
              have c82b0 : (t169 == 45) = true := beq_iff_eq.mpr c82
              have c82b1 : (t169 != 45) = false := bne_eq_false_iff_eq.mpr c82
              clear c82
              replace H := Option.bind_eq_some_iff.mp H
              obtain ⟨t181, A830, H⟩ := H
              replace H : (if t181 = true then (lanyardref01_Name.l0 kj9 l1 (wrap64 (x4_2 + t170))) else (if x4_2 = 0 then (some false) else (lanyardref01_Name.l0 kj9 l1 (wrap64 (x4_2 + t170))))) = some r := H
              have A83 := Aside0.mk A830
              clear A830
              by_cases c84 : t181 = true
              ·subst c84
               have H1 : (lanyardref01_Name.l0 kj9 l1 (wrap64 (x4_2 + t170))) = some r := by rw [if_pos rfl] at H; exact H
               clear H
               have H := H1
               clear H1
               have H' := Aside0.mk H
               clear H
               go_wp2_with (first | ((with_reducible refine gate_callee (f := 26) rfl ?_); refine goesA (some 71) Tryd.func26 #[.int .i64 t169] rfl ?_; (with_reducible refine (lanyardref01_first.calls kj9 t169 true _ A83.out).mono ?_); rintro e w85 ⟨rfl, hb⟩; refine ⟨_, rfl, ?_⟩; have n0_ := Bs HB hb; clear HB; revert n0_; intro HB; (try clear hb); (try clear hb2); (try clear hk); (try clear hi)))
               go_roundg kj9
               case measure => have := HJ2.out; have := HK2.out; have := HJ9.out; omega
               case rel => exact ⟨(wrap64 (x4_2 + t170)), (by first | rfl | (simp; done) | (simp [*]; done)), H', ⟨by have := HJ2.out; have := HK2.out; have := HJ9.out; omega⟩, ⟨Bu HB⟩⟩
              ·replace c84 := Bool.eq_false_iff.mpr c84
               subst c84
               have H1 : (if x4_2 = 0 then (some false) else (lanyardref01_Name.l0 kj9 l1 (wrap64 (x4_2 + t170)))) = some r := by rw [if_neg (show ¬ (false = true) by decide)] at H; exact H
               clear H
               have H := H1
               clear H1
               by_cases c86 : x4_2 = 0
               ·rw [if_pos c86] at H
                have c86b0 : (x4_2 == 0) = true := beq_iff_eq.mpr c86
                have c86b1 : (x4_2 != 0) = false := bne_eq_false_iff_eq.mpr c86
                clear c86
                obtain rfl := Option.some.inj H
                go_wp2_with (first | ((with_reducible refine gate_callee (f := 26) rfl ?_); refine goesA (some 71) Tryd.func26 #[.int .i64 t169] rfl ?_; (with_reducible refine (lanyardref01_first.calls kj9 t169 false _ A83.out).mono ?_); rintro e w87 ⟨rfl, hb⟩; refine ⟨_, rfl, ?_⟩; have n0_ := Bs HB hb; clear HB; revert n0_; intro HB; (try clear hb); (try clear hb2); (try clear hk); (try clear hi)))
                go_ret
                exact ⟨rfl_, Bu HB⟩
               ·rw [if_neg c86] at H
                have c86b0 : (x4_2 == 0) = false := beq_eq_false_iff_ne.mpr c86
                have c86b1 : (x4_2 != 0) = true := bne_iff_ne.mpr c86
                have H' := Aside0.mk H
                clear H
                go_wp2_with (first | ((with_reducible refine gate_callee (f := 26) rfl ?_); refine goesA (some 71) Tryd.func26 #[.int .i64 t169] rfl ?_; (with_reducible refine (lanyardref01_first.calls kj9 t169 false _ A83.out).mono ?_); rintro e w88 ⟨rfl, hb⟩; refine ⟨_, rfl, ?_⟩; have n0_ := Bs HB hb; clear HB; revert n0_; intro HB; (try clear hb); (try clear hb2); (try clear hk); (try clear hi)))
                go_roundg kj9
                case measure => have := HJ2.out; have := HK2.out; have := HJ9.out; omega
                case rel => exact ⟨(wrap64 (x4_2 + t170)), (by first | rfl | (simp; done) | (simp [*]; done)), H', ⟨by have := HJ2.out; have := HK2.out; have := HJ9.out; omega⟩, ⟨Bu HB⟩⟩
             ·rw [if_neg c82] at H
              have c82b0 : (t169 == 45) = false := beq_eq_false_iff_ne.mpr c82
              have c82b1 : (t169 != 45) = true := bne_iff_ne.mpr c82
              by_cases c89 : t169 = 46
              ·rw [if_pos c89] at H
               have c89b0 : (t169 == 46) = true := beq_iff_eq.mpr c89
               have c89b1 : (t169 != 46) = false := bne_eq_false_iff_eq.mpr c89
               clear c89
               replace H := Option.bind_eq_some_iff.mp H
               obtain ⟨t182, A900, H⟩ := H
               replace H : (if t182 = true then (lanyardref01_Name.l0 kj9 l1 (wrap64 (x4_2 + t170))) else (if x4_2 = 0 then (some false) else (lanyardref01_Name.l0 kj9 l1 (wrap64 (x4_2 + t170))))) = some r := H
               have A90 := Aside0.mk A900
               clear A900
               by_cases c91 : t182 = true
               ·subst c91
                have H1 : (lanyardref01_Name.l0 kj9 l1 (wrap64 (x4_2 + t170))) = some r := by rw [if_pos rfl] at H; exact H
                clear H
                have H := H1
                clear H1
                have H' := Aside0.mk H
                clear H
                go_wp2_with (first | ((with_reducible refine gate_callee (f := 26) rfl ?_); refine goesA (some 71) Tryd.func26 #[.int .i64 t169] rfl ?_; (with_reducible refine (lanyardref01_first.calls kj9 t169 true _ A90.out).mono ?_); rintro e w92 ⟨rfl, hb⟩; refine ⟨_, rfl, ?_⟩; have n0_ := Bs HB hb; clear HB; revert n0_; intro HB; (try clear hb); (try clear hb2); (try clear hk); (try clear hi)))
                go_roundg kj9
                case measure => have := HJ2.out; have := HK2.out; have := HJ9.out; omega
                case rel => exact ⟨(wrap64 (x4_2 + t170)), (by first | rfl | (simp; done) | (simp [*]; done)), H', ⟨by have := HJ2.out; have := HK2.out; have := HJ9.out; omega⟩, ⟨Bu HB⟩⟩
               ·replace c91 := Bool.eq_false_iff.mpr c91
                subst c91
                have H1 : (if x4_2 = 0 then (some false) else (lanyardref01_Name.l0 kj9 l1 (wrap64 (x4_2 + t170)))) = some r := by rw [if_neg (show ¬ (false = true) by decide)] at H; exact H
                clear H
                have H := H1
                clear H1
                by_cases c93 : x4_2 = 0
                ·rw [if_pos c93] at H
                 have c93b0 : (x4_2 == 0) = true := beq_iff_eq.mpr c93
                 have c93b1 : (x4_2 != 0) = false := bne_eq_false_iff_eq.mpr c93
                 clear c93
                 obtain rfl := Option.some.inj H
                 go_wp2_with (first | ((with_reducible refine gate_callee (f := 26) rfl ?_); refine goesA (some 71) Tryd.func26 #[.int .i64 t169] rfl ?_; (with_reducible refine (lanyardref01_first.calls kj9 t169 false _ A90.out).mono ?_); rintro e w94 ⟨rfl, hb⟩; refine ⟨_, rfl, ?_⟩; have n0_ := Bs HB hb; clear HB; revert n0_; intro HB; (try clear hb); (try clear hb2); (try clear hk); (try clear hi)))
                 go_ret
                 exact ⟨rfl_, Bu HB⟩
                ·rw [if_neg c93] at H
                 have c93b0 : (x4_2 == 0) = false := beq_eq_false_iff_ne.mpr c93
                 have c93b1 : (x4_2 != 0) = true := bne_iff_ne.mpr c93
                 have H' := Aside0.mk H
                 clear H
                 go_wp2_with (first | ((with_reducible refine gate_callee (f := 26) rfl ?_); refine goesA (some 71) Tryd.func26 #[.int .i64 t169] rfl ?_; (with_reducible refine (lanyardref01_first.calls kj9 t169 false _ A90.out).mono ?_); rintro e w95 ⟨rfl, hb⟩; refine ⟨_, rfl, ?_⟩; have n0_ := Bs HB hb; clear HB; revert n0_; intro HB; (try clear hb); (try clear hb2); (try clear hk); (try clear hi)))
                 go_roundg kj9
                 case measure => have := HJ2.out; have := HK2.out; have := HJ9.out; omega
                 case rel => exact ⟨(wrap64 (x4_2 + t170)), (by first | rfl | (simp; done) | (simp [*]; done)), H', ⟨by have := HJ2.out; have := HK2.out; have := HJ9.out; omega⟩, ⟨Bu HB⟩⟩
              ·rw [if_neg c89] at H
               have c89b0 : (t169 == 46) = false := beq_eq_false_iff_ne.mpr c89
               have c89b1 : (t169 != 46) = true := bne_iff_ne.mpr c89
               by_cases c96 : t169 = 183
               ·rw [if_pos c96] at H
                have c96b0 : (t169 == 183) = true := beq_iff_eq.mpr c96
                have c96b1 : (t169 != 183) = false := bne_eq_false_iff_eq.mpr c96
                clear c96
                replace H := Option.bind_eq_some_iff.mp H
                obtain ⟨t183, A970, H⟩ := H
                replace H : (if t183 = true then (lanyardref01_Name.l0 kj9 l1 (wrap64 (x4_2 + t170))) else (if x4_2 = 0 then (some false) else (lanyardref01_Name.l0 kj9 l1 (wrap64 (x4_2 + t170))))) = some r := H
                have A97 := Aside0.mk A970
                clear A970
                by_cases c98 : t183 = true
                ·subst c98
                 have H1 : (lanyardref01_Name.l0 kj9 l1 (wrap64 (x4_2 + t170))) = some r := by rw [if_pos rfl] at H; exact H
                 clear H
                 have H := H1
                 clear H1
                 have H' := Aside0.mk H
                 clear H
                 go_wp2_with (first | ((with_reducible refine gate_callee (f := 26) rfl ?_); refine goesA (some 71) Tryd.func26 #[.int .i64 t169] rfl ?_; (with_reducible refine (lanyardref01_first.calls kj9 t169 true _ A97.out).mono ?_); rintro e w99 ⟨rfl, hb⟩; refine ⟨_, rfl, ?_⟩; have n0_ := Bs HB hb; clear HB; revert n0_; intro HB; (try clear hb); (try clear hb2); (try clear hk); (try clear hi)))
                 go_roundg kj9
                 case measure => have := HJ2.out; have := HK2.out; have := HJ9.out; omega
                 case rel => exact ⟨(wrap64 (x4_2 + t170)), (by first | rfl | (simp; done) | (simp [*]; done)), H', ⟨by have := HJ2.out; have := HK2.out; have := HJ9.out; omega⟩, ⟨Bu HB⟩⟩
                ·replace c98 := Bool.eq_false_iff.mpr c98
                 subst c98
                 have H1 : (if x4_2 = 0 then (some false) else (lanyardref01_Name.l0 kj9 l1 (wrap64 (x4_2 + t170)))) = some r := by rw [if_neg (show ¬ (false = true) by decide)] at H; exact H
                 clear H
                 have H := H1
                 clear H1
                 by_cases c100 : x4_2 = 0
                 ·rw [if_pos c100] at H
                  have c100b0 : (x4_2 == 0) = true := beq_iff_eq.mpr c100
                  have c100b1 : (x4_2 != 0) = false := bne_eq_false_iff_eq.mpr c100
                  clear c100
                  obtain rfl := Option.some.inj H
                  go_wp2_with (first | ((with_reducible refine gate_callee (f := 26) rfl ?_); refine goesA (some 71) Tryd.func26 #[.int .i64 t169] rfl ?_; (with_reducible refine (lanyardref01_first.calls kj9 t169 false _ A97.out).mono ?_); rintro e w101 ⟨rfl, hb⟩; refine ⟨_, rfl, ?_⟩; have n0_ := Bs HB hb; clear HB; revert n0_; intro HB; (try clear hb); (try clear hb2); (try clear hk); (try clear hi)))
                  go_ret
                  exact ⟨rfl_, Bu HB⟩
                 ·rw [if_neg c100] at H
                  have c100b0 : (x4_2 == 0) = false := beq_eq_false_iff_ne.mpr c100
                  have c100b1 : (x4_2 != 0) = true := bne_iff_ne.mpr c100
                  have H' := Aside0.mk H
                  clear H
                  go_wp2_with (first | ((with_reducible refine gate_callee (f := 26) rfl ?_); refine goesA (some 71) Tryd.func26 #[.int .i64 t169] rfl ?_; (with_reducible refine (lanyardref01_first.calls kj9 t169 false _ A97.out).mono ?_); rintro e w102 ⟨rfl, hb⟩; refine ⟨_, rfl, ?_⟩; have n0_ := Bs HB hb; clear HB; revert n0_; intro HB; (try clear hb); (try clear hb2); (try clear hk); (try clear hi)))
                  go_roundg kj9
                  case measure => have := HJ2.out; have := HK2.out; have := HJ9.out; omega
                  case rel => exact ⟨(wrap64 (x4_2 + t170)), (by first | rfl | (simp; done) | (simp [*]; done)), H', ⟨by have := HJ2.out; have := HK2.out; have := HJ9.out; omega⟩, ⟨Bu HB⟩⟩
               ·rw [if_neg c96] at H
                have c96b0 : (t169 == 183) = false := beq_eq_false_iff_ne.mpr c96
                have c96b1 : (t169 != 183) = true := bne_iff_ne.mpr c96
                by_cases c103 : t169 ≥ 768
                ·rw [if_pos c103] at H
                 have c103b0 : decide (768 ≤ t169) = true := decide_eq_true c103
                 clear c103
                 by_cases c104 : t169 ≤ 879
                 ·rw [if_pos c104] at H
                  have c104b0 : decide (t169 ≤ 879) = true := decide_eq_true c104
                  clear c104
                  replace H := Option.bind_eq_some_iff.mp H
                  obtain ⟨t184, A1050, H⟩ := H
                  replace H : (if t184 = true then (lanyardref01_Name.l0 kj9 l1 (wrap64 (x4_2 + t170))) else (if x4_2 = 0 then (some false) else (lanyardref01_Name.l0 kj9 l1 (wrap64 (x4_2 + t170))))) = some r := H
                  have A105 := Aside0.mk A1050
                  clear A1050
                  by_cases c106 : t184 = true
                  ·subst c106
                   have H1 : (lanyardref01_Name.l0 kj9 l1 (wrap64 (x4_2 + t170))) = some r := by rw [if_pos rfl] at H; exact H
                   clear H
                   have H := H1
                   clear H1
                   have H' := Aside0.mk H
                   clear H
                   go_wp2_with (first | ((with_reducible refine gate_callee (f := 26) rfl ?_); refine goesA (some 71) Tryd.func26 #[.int .i64 t169] rfl ?_; (with_reducible refine (lanyardref01_first.calls kj9 t169 true _ A105.out).mono ?_); rintro e w107 ⟨rfl, hb⟩; refine ⟨_, rfl, ?_⟩; have n0_ := Bs HB hb; clear HB; revert n0_; intro HB; (try clear hb); (try clear hb2); (try clear hk); (try clear hi)))
                   go_roundg kj9
                   case measure => have := HJ2.out; have := HK2.out; have := HJ9.out; omega
                   case rel => exact ⟨(wrap64 (x4_2 + t170)), (by first | rfl | (simp; done) | (simp [*]; done)), H', ⟨by have := HJ2.out; have := HK2.out; have := HJ9.out; omega⟩, ⟨Bu HB⟩⟩
                  ·replace c106 := Bool.eq_false_iff.mpr c106
                   subst c106
                   have H1 : (if x4_2 = 0 then (some false) else (lanyardref01_Name.l0 kj9 l1 (wrap64 (x4_2 + t170)))) = some r := by rw [if_neg (show ¬ (false = true) by decide)] at H; exact H
                   clear H
                   have H := H1
                   clear H1
                   by_cases c108 : x4_2 = 0
                   ·rw [if_pos c108] at H
                    have c108b0 : (x4_2 == 0) = true := beq_iff_eq.mpr c108
                    have c108b1 : (x4_2 != 0) = false := bne_eq_false_iff_eq.mpr c108
                    clear c108
                    obtain rfl := Option.some.inj H
                    go_wp2_with (first | ((with_reducible refine gate_callee (f := 26) rfl ?_); refine goesA (some 71) Tryd.func26 #[.int .i64 t169] rfl ?_; (with_reducible refine (lanyardref01_first.calls kj9 t169 false _ A105.out).mono ?_); rintro e w109 ⟨rfl, hb⟩; refine ⟨_, rfl, ?_⟩; have n0_ := Bs HB hb; clear HB; revert n0_; intro HB; (try clear hb); (try clear hb2); (try clear hk); (try clear hi)))
                    go_ret
                    exact ⟨rfl_, Bu HB⟩
                   ·rw [if_neg c108] at H
                    have c108b0 : (x4_2 == 0) = false := beq_eq_false_iff_ne.mpr c108
                    have c108b1 : (x4_2 != 0) = true := bne_iff_ne.mpr c108
                    have H' := Aside0.mk H
                    clear H
                    go_wp2_with (first | ((with_reducible refine gate_callee (f := 26) rfl ?_); refine goesA (some 71) Tryd.func26 #[.int .i64 t169] rfl ?_; (with_reducible refine (lanyardref01_first.calls kj9 t169 false _ A105.out).mono ?_); rintro e w110 ⟨rfl, hb⟩; refine ⟨_, rfl, ?_⟩; have n0_ := Bs HB hb; clear HB; revert n0_; intro HB; (try clear hb); (try clear hb2); (try clear hk); (try clear hi)))
                    go_roundg kj9
                    case measure => have := HJ2.out; have := HK2.out; have := HJ9.out; omega
                    case rel => exact ⟨(wrap64 (x4_2 + t170)), (by first | rfl | (simp; done) | (simp [*]; done)), H', ⟨by have := HJ2.out; have := HK2.out; have := HJ9.out; omega⟩, ⟨Bu HB⟩⟩
                 ·rw [if_neg c104] at H
                  have c104b0 : decide (t169 ≤ 879) = false := decide_eq_false c104
                  clear c104
                  by_cases c111 : t169 = 8255
                  ·rw [if_pos c111] at H
                   have c111b0 : (t169 == 8255) = true := beq_iff_eq.mpr c111
                   have c111b1 : (t169 != 8255) = false := bne_eq_false_iff_eq.mpr c111
                   clear c111
                   replace H := Option.bind_eq_some_iff.mp H
                   obtain ⟨t185, A1120, H⟩ := H
                   replace H : (if t185 = true then (lanyardref01_Name.l0 kj9 l1 (wrap64 (x4_2 + t170))) else (if x4_2 = 0 then (some false) else (lanyardref01_Name.l0 kj9 l1 (wrap64 (x4_2 + t170))))) = some r := H
                   have A112 := Aside0.mk A1120
                   clear A1120
                   by_cases c113 : t185 = true
                   ·subst c113
                    have H1 : (lanyardref01_Name.l0 kj9 l1 (wrap64 (x4_2 + t170))) = some r := by rw [if_pos rfl] at H; exact H
                    clear H
                    have H := H1
                    clear H1
                    have H' := Aside0.mk H
                    clear H
                    go_wp2_with (first | ((with_reducible refine gate_callee (f := 26) rfl ?_); refine goesA (some 71) Tryd.func26 #[.int .i64 t169] rfl ?_; (with_reducible refine (lanyardref01_first.calls kj9 t169 true _ A112.out).mono ?_); rintro e w114 ⟨rfl, hb⟩; refine ⟨_, rfl, ?_⟩; have n0_ := Bs HB hb; clear HB; revert n0_; intro HB; (try clear hb); (try clear hb2); (try clear hk); (try clear hi)))
                    go_roundg kj9
                    case measure => have := HJ2.out; have := HK2.out; have := HJ9.out; omega
                    case rel => exact ⟨(wrap64 (x4_2 + t170)), (by first | rfl | (simp; done) | (simp [*]; done)), H', ⟨by have := HJ2.out; have := HK2.out; have := HJ9.out; omega⟩, ⟨Bu HB⟩⟩
                   ·replace c113 := Bool.eq_false_iff.mpr c113
                    subst c113
                    have H1 : (if x4_2 = 0 then (some false) else (lanyardref01_Name.l0 kj9 l1 (wrap64 (x4_2 + t170)))) = some r := by rw [if_neg (show ¬ (false = true) by decide)] at H; exact H
                    clear H
                    have H := H1
                    clear H1
                    by_cases c115 : x4_2 = 0
                    ·rw [if_pos c115] at H
                     have c115b0 : (x4_2 == 0) = true := beq_iff_eq.mpr c115
                     have c115b1 : (x4_2 != 0) = false := bne_eq_false_iff_eq.mpr c115
                     clear c115
                     obtain rfl := Option.some.inj H
                     go_wp2_with (first | ((with_reducible refine gate_callee (f := 26) rfl ?_); refine goesA (some 71) Tryd.func26 #[.int .i64 t169] rfl ?_; (with_reducible refine (lanyardref01_first.calls kj9 t169 false _ A112.out).mono ?_); rintro e w116 ⟨rfl, hb⟩; refine ⟨_, rfl, ?_⟩; have n0_ := Bs HB hb; clear HB; revert n0_; intro HB; (try clear hb); (try clear hb2); (try clear hk); (try clear hi)))
                     go_ret
                     exact ⟨rfl_, Bu HB⟩
                    ·rw [if_neg c115] at H
                     have c115b0 : (x4_2 == 0) = false := beq_eq_false_iff_ne.mpr c115
                     have c115b1 : (x4_2 != 0) = true := bne_iff_ne.mpr c115
                     have H' := Aside0.mk H
                     clear H
                     go_wp2_with (first | ((with_reducible refine gate_callee (f := 26) rfl ?_); refine goesA (some 71) Tryd.func26 #[.int .i64 t169] rfl ?_; (with_reducible refine (lanyardref01_first.calls kj9 t169 false _ A112.out).mono ?_); rintro e w117 ⟨rfl, hb⟩; refine ⟨_, rfl, ?_⟩; have n0_ := Bs HB hb; clear HB; revert n0_; intro HB; (try clear hb); (try clear hb2); (try clear hk); (try clear hi)))
                     go_roundg kj9
                     case measure => have := HJ2.out; have := HK2.out; have := HJ9.out; omega
                     case rel => exact ⟨(wrap64 (x4_2 + t170)), (by first | rfl | (simp; done) | (simp [*]; done)), H', ⟨by have := HJ2.out; have := HK2.out; have := HJ9.out; omega⟩, ⟨Bu HB⟩⟩
                  ·rw [if_neg c111] at H
                   have c111b0 : (t169 == 8255) = false := beq_eq_false_iff_ne.mpr c111
                   have c111b1 : (t169 != 8255) = true := bne_iff_ne.mpr c111
                   replace H := Option.bind_eq_some_iff.mp H
                   obtain ⟨t186, A1180, H⟩ := H
                   replace H : (if t186 = true then (lanyardref01_Name.l0 kj9 l1 (wrap64 (x4_2 + t170))) else (if x4_2 = 0 then (some false) else (if t169 = 8256 then (lanyardref01_Name.l0 kj9 l1 (wrap64 (x4_2 + t170))) else (some false)))) = some r := H
                   have A118 := Aside0.mk A1180
                   clear A1180
                   refine (Classical.em (t186 = true)).elim (fun c119 => ?a31_) (fun c119 => ?b31_)
                   case' a31_ =>
                    subst c119
                    have H1 : (lanyardref01_Name.l0 kj9 l1 (wrap64 (x4_2 + t170))) = some r := by rw [if_pos rfl] at H; exact H
                    clear H
                    have H := H1
                    clear H1
                    have H' := Aside0.mk H
                    clear H
                    go_wp2_with (first | ((with_reducible refine gate_callee (f := 26) rfl ?_); refine goesA (some 71) Tryd.func26 #[.int .i64 t169] rfl ?_; (with_reducible refine (lanyardref01_first.calls kj9 t169 true _ A118.out).mono ?_); rintro e w120 ⟨rfl, hb⟩; refine ⟨_, rfl, ?_⟩; have n0_ := Bs HB hb; clear HB; revert n0_; intro HB; (try clear hb); (try clear hb2); (try clear hk); (try clear hi)))
                    go_roundg kj9
                    case measure => have := HJ2.out; have := HK2.out; have := HJ9.out; omega
                    case rel => exact ⟨(wrap64 (x4_2 + t170)), (by first | rfl | (simp; done) | (simp [*]; done)), H', ⟨by have := HJ2.out; have := HK2.out; have := HJ9.out; omega⟩, ⟨Bu HB⟩⟩
                   case' b31_ =>
                    replace c119 := Bool.eq_false_iff.mpr c119
                    subst c119
                    have H1 : (if x4_2 = 0 then (some false) else (if t169 = 8256 then (lanyardref01_Name.l0 kj9 l1 (wrap64 (x4_2 + t170))) else (some false))) = some r := by rw [if_neg (show ¬ (false = true) by decide)] at H; exact H
                    clear H
                    have H := H1
                    clear H1
                    refine (Classical.em (x4_2 = 0)).elim (fun c121 => ?a32_) (fun c121 => ?b32_)
                    case' a32_ =>
                     rw [if_pos c121] at H
                     have c121b0 : (x4_2 == 0) = true := beq_iff_eq.mpr c121
                     have c121b1 : (x4_2 != 0) = false := bne_eq_false_iff_eq.mpr c121
                     clear c121
                     obtain rfl := Option.some.inj H
                    case' b32_ =>
                     rw [if_neg c121] at H
                     have c121b0 : (x4_2 == 0) = false := beq_eq_false_iff_ne.mpr c121
                     have c121b1 : (x4_2 != 0) = true := bne_iff_ne.mpr c121
                     refine (Classical.em (t169 = 8256)).elim (fun c123 => ?a33_) (fun c123 => ?b33_)
                     case' a33_ =>
                      rw [if_pos c123] at H
                      have c123b0 : (t169 == 8256) = true := beq_iff_eq.mpr c123
                      have c123b1 : (t169 != 8256) = false := bne_eq_false_iff_eq.mpr c123
                      clear c123
                      have H' := Aside0.mk H
                      clear H
                      go_wp2_with (first | ((with_reducible refine gate_callee (f := 26) rfl ?_); refine goesA (some 71) Tryd.func26 #[.int .i64 t169] rfl ?_; (with_reducible refine (lanyardref01_first.calls kj9 t169 false _ A118.out).mono ?_); rintro e w124 ⟨rfl, hb⟩; refine ⟨_, rfl, ?_⟩; have n0_ := Bs HB hb; clear HB; revert n0_; intro HB; (try clear hb); (try clear hb2); (try clear hk); (try clear hi)))
                      go_roundg kj9
                      case measure => have := HJ2.out; have := HK2.out; have := HJ9.out; omega
                      case rel => exact ⟨(wrap64 (x4_2 + t170)), (by first | rfl | (simp; done) | (simp [*]; done)), H', ⟨by have := HJ2.out; have := HK2.out; have := HJ9.out; omega⟩, ⟨Bu HB⟩⟩
                     case' b33_ =>
                      rw [if_neg c123] at H
                      have c123b0 : (t169 == 8256) = false := beq_eq_false_iff_ne.mpr c123
                      have c123b1 : (t169 != 8256) = true := bne_iff_ne.mpr c123
                      obtain rfl := Option.some.inj H
                   case a32_ | b32_ =>
                    go_wp2_with (first | ((with_reducible refine gate_callee (f := 26) rfl ?_); refine goesA (some 71) Tryd.func26 #[.int .i64 t169] rfl ?_; (with_reducible refine (lanyardref01_first.calls kj9 t169 false _ A118.out).mono ?_); rintro e wz1 ⟨rfl, hb⟩; refine ⟨_, rfl, ?_⟩; have n0_ := Bs HB hb; clear HB; revert n0_; intro HB; (try clear hb); (try clear hb2); (try clear hk); (try clear hi)))
                    go_ret
                    exact ⟨rfl_, Bu HB⟩
                ·rw [if_neg c103] at H
                 have c103b0 : decide (768 ≤ t169) = false := decide_eq_false c103
                 clear c103
                 by_cases c126 : t169 = 8255
                 ·rw [if_pos c126] at H
                  have c126b0 : (t169 == 8255) = true := beq_iff_eq.mpr c126
                  have c126b1 : (t169 != 8255) = false := bne_eq_false_iff_eq.mpr c126
                  clear c126
                  replace H := Option.bind_eq_some_iff.mp H
                  obtain ⟨t187, A1270, H⟩ := H
                  replace H : (if t187 = true then (lanyardref01_Name.l0 kj9 l1 (wrap64 (x4_2 + t170))) else (if x4_2 = 0 then (some false) else (lanyardref01_Name.l0 kj9 l1 (wrap64 (x4_2 + t170))))) = some r := H
                  have A127 := Aside0.mk A1270
                  clear A1270
                  by_cases c128 : t187 = true
                  ·subst c128
                   have H1 : (lanyardref01_Name.l0 kj9 l1 (wrap64 (x4_2 + t170))) = some r := by rw [if_pos rfl] at H; exact H
                   clear H
                   have H := H1
                   clear H1
                   have H' := Aside0.mk H
                   clear H
                   go_wp2_with (first | ((with_reducible refine gate_callee (f := 26) rfl ?_); refine goesA (some 71) Tryd.func26 #[.int .i64 t169] rfl ?_; (with_reducible refine (lanyardref01_first.calls kj9 t169 true _ A127.out).mono ?_); rintro e w129 ⟨rfl, hb⟩; refine ⟨_, rfl, ?_⟩; have n0_ := Bs HB hb; clear HB; revert n0_; intro HB; (try clear hb); (try clear hb2); (try clear hk); (try clear hi)))
                   go_roundg kj9
                   case measure => have := HJ2.out; have := HK2.out; have := HJ9.out; omega
                   case rel => exact ⟨(wrap64 (x4_2 + t170)), (by first | rfl | (simp; done) | (simp [*]; done)), H', ⟨by have := HJ2.out; have := HK2.out; have := HJ9.out; omega⟩, ⟨Bu HB⟩⟩
                  ·replace c128 := Bool.eq_false_iff.mpr c128
                   subst c128
                   have H1 : (if x4_2 = 0 then (some false) else (lanyardref01_Name.l0 kj9 l1 (wrap64 (x4_2 + t170)))) = some r := by rw [if_neg (show ¬ (false = true) by decide)] at H; exact H
                   clear H
                   have H := H1
                   clear H1
                   by_cases c130 : x4_2 = 0
                   ·rw [if_pos c130] at H
                    have c130b0 : (x4_2 == 0) = true := beq_iff_eq.mpr c130
                    have c130b1 : (x4_2 != 0) = false := bne_eq_false_iff_eq.mpr c130
                    clear c130
                    obtain rfl := Option.some.inj H
                    go_wp2_with (first | ((with_reducible refine gate_callee (f := 26) rfl ?_); refine goesA (some 71) Tryd.func26 #[.int .i64 t169] rfl ?_; (with_reducible refine (lanyardref01_first.calls kj9 t169 false _ A127.out).mono ?_); rintro e w131 ⟨rfl, hb⟩; refine ⟨_, rfl, ?_⟩; have n0_ := Bs HB hb; clear HB; revert n0_; intro HB; (try clear hb); (try clear hb2); (try clear hk); (try clear hi)))
                    go_ret
                    exact ⟨rfl_, Bu HB⟩
                   ·rw [if_neg c130] at H
                    have c130b0 : (x4_2 == 0) = false := beq_eq_false_iff_ne.mpr c130
                    have c130b1 : (x4_2 != 0) = true := bne_iff_ne.mpr c130
                    have H' := Aside0.mk H
                    clear H
                    go_wp2_with (first | ((with_reducible refine gate_callee (f := 26) rfl ?_); refine goesA (some 71) Tryd.func26 #[.int .i64 t169] rfl ?_; (with_reducible refine (lanyardref01_first.calls kj9 t169 false _ A127.out).mono ?_); rintro e w132 ⟨rfl, hb⟩; refine ⟨_, rfl, ?_⟩; have n0_ := Bs HB hb; clear HB; revert n0_; intro HB; (try clear hb); (try clear hb2); (try clear hk); (try clear hi)))
                    go_roundg kj9
                    case measure => have := HJ2.out; have := HK2.out; have := HJ9.out; omega
                    case rel => exact ⟨(wrap64 (x4_2 + t170)), (by first | rfl | (simp; done) | (simp [*]; done)), H', ⟨by have := HJ2.out; have := HK2.out; have := HJ9.out; omega⟩, ⟨Bu HB⟩⟩
                 ·rw [if_neg c126] at H
                  have c126b0 : (t169 == 8255) = false := beq_eq_false_iff_ne.mpr c126
                  have c126b1 : (t169 != 8255) = true := bne_iff_ne.mpr c126
                  replace H := Option.bind_eq_some_iff.mp H
                  obtain ⟨t188, A1330, H⟩ := H
                  replace H : (if t188 = true then (lanyardref01_Name.l0 kj9 l1 (wrap64 (x4_2 + t170))) else (if x4_2 = 0 then (some false) else (if t169 = 8256 then (lanyardref01_Name.l0 kj9 l1 (wrap64 (x4_2 + t170))) else (some false)))) = some r := H
                  have A133 := Aside0.mk A1330
                  clear A1330
                  refine (Classical.em (t188 = true)).elim (fun c134 => ?a34_) (fun c134 => ?b34_)
                  case' a34_ =>
                   subst c134
                   have H1 : (lanyardref01_Name.l0 kj9 l1 (wrap64 (x4_2 + t170))) = some r := by rw [if_pos rfl] at H; exact H
                   clear H
                   have H := H1
                   clear H1
                   have H' := Aside0.mk H
                   clear H
                   go_wp2_with (first | ((with_reducible refine gate_callee (f := 26) rfl ?_); refine goesA (some 71) Tryd.func26 #[.int .i64 t169] rfl ?_; (with_reducible refine (lanyardref01_first.calls kj9 t169 true _ A133.out).mono ?_); rintro e w135 ⟨rfl, hb⟩; refine ⟨_, rfl, ?_⟩; have n0_ := Bs HB hb; clear HB; revert n0_; intro HB; (try clear hb); (try clear hb2); (try clear hk); (try clear hi)))
                   go_roundg kj9
                   case measure => have := HJ2.out; have := HK2.out; have := HJ9.out; omega
                   case rel => exact ⟨(wrap64 (x4_2 + t170)), (by first | rfl | (simp; done) | (simp [*]; done)), H', ⟨by have := HJ2.out; have := HK2.out; have := HJ9.out; omega⟩, ⟨Bu HB⟩⟩
                  case' b34_ =>
                   replace c134 := Bool.eq_false_iff.mpr c134
                   subst c134
                   have H1 : (if x4_2 = 0 then (some false) else (if t169 = 8256 then (lanyardref01_Name.l0 kj9 l1 (wrap64 (x4_2 + t170))) else (some false))) = some r := by rw [if_neg (show ¬ (false = true) by decide)] at H; exact H
                   clear H
                   have H := H1
                   clear H1
                   refine (Classical.em (x4_2 = 0)).elim (fun c136 => ?a35_) (fun c136 => ?b35_)
                   case' a35_ =>
                    rw [if_pos c136] at H
                    have c136b0 : (x4_2 == 0) = true := beq_iff_eq.mpr c136
                    have c136b1 : (x4_2 != 0) = false := bne_eq_false_iff_eq.mpr c136
                    clear c136
                    obtain rfl := Option.some.inj H
                   case' b35_ =>
                    rw [if_neg c136] at H
                    have c136b0 : (x4_2 == 0) = false := beq_eq_false_iff_ne.mpr c136
                    have c136b1 : (x4_2 != 0) = true := bne_iff_ne.mpr c136
                    refine (Classical.em (t169 = 8256)).elim (fun c138 => ?a36_) (fun c138 => ?b36_)
                    case' a36_ =>
                     rw [if_pos c138] at H
                     have c138b0 : (t169 == 8256) = true := beq_iff_eq.mpr c138
                     have c138b1 : (t169 != 8256) = false := bne_eq_false_iff_eq.mpr c138
                     clear c138
                     have H' := Aside0.mk H
                     clear H
                     go_wp2_with (first | ((with_reducible refine gate_callee (f := 26) rfl ?_); refine goesA (some 71) Tryd.func26 #[.int .i64 t169] rfl ?_; (with_reducible refine (lanyardref01_first.calls kj9 t169 false _ A133.out).mono ?_); rintro e w139 ⟨rfl, hb⟩; refine ⟨_, rfl, ?_⟩; have n0_ := Bs HB hb; clear HB; revert n0_; intro HB; (try clear hb); (try clear hb2); (try clear hk); (try clear hi)))
                     go_roundg kj9
                     case measure => have := HJ2.out; have := HK2.out; have := HJ9.out; omega
                     case rel => exact ⟨(wrap64 (x4_2 + t170)), (by first | rfl | (simp; done) | (simp [*]; done)), H', ⟨by have := HJ2.out; have := HK2.out; have := HJ9.out; omega⟩, ⟨Bu HB⟩⟩
                    case' b36_ =>
                     rw [if_neg c138] at H
                     have c138b0 : (t169 == 8256) = false := beq_eq_false_iff_ne.mpr c138
                     have c138b1 : (t169 != 8256) = true := bne_iff_ne.mpr c138
                     obtain rfl := Option.some.inj H
                  case a35_ | b35_ =>
                   go_wp2_with (first | ((with_reducible refine gate_callee (f := 26) rfl ?_); refine goesA (some 71) Tryd.func26 #[.int .i64 t169] rfl ?_; (with_reducible refine (lanyardref01_first.calls kj9 t169 false _ A133.out).mono ?_); rintro e wz1 ⟨rfl, hb⟩; refine ⟨_, rfl, ?_⟩; have n0_ := Bs HB hb; clear HB; revert n0_; intro HB; (try clear hb); (try clear hb2); (try clear hk); (try clear hi)))
                   go_ret
                   exact ⟨rfl_, Bu HB⟩
        ·rw [if_neg c8] at H
         exact absurd H (by simp)
       ·rw [if_neg c7] at H
        exact absurd H (by simp)
      ·rw [if_neg c6] at H
       have c6b0 : decide (x4_2 < (l1.length : Int)) = false := decide_eq_false c6
       clear c6
       obtain rfl := Option.some.inj H
       go_wp2
       go_ret
       exact ⟨rfl_, Bu HB⟩
def lanyardref01_Name.f (k : Nat) (a0 : ByteArray) : Option (Bool) := if a0.size ≤ 140737488355328 then lanyardref01_Name.fc k a0 (bints a0) else none
theorem lanyardref01_Name.mono : ∀ a0 k, LeO (lanyardref01_Name.f k a0) (lanyardref01_Name.f (k + 1) a0) := fun a0 k => LeO.ite (lanyardref01_Name.monoc a0 (bints a0) k) (LeO.none _)
theorem lanyardref01_Name.calls (k : Nat) (a0 : ByteArray) (r : Bool) (w : World) (h : lanyardref01_Name.f k a0 = some r) :
 Calls Tryd.prog 11 #[.string a0] w fun e w' => e = .returned (.bool r) ∧ Below w.heap.size w w' := by
 unfold lanyardref01_Name.f at h
 split at h
 rotate_left
 ·exact absurd h (by simp)
 rename_i hs0_
 refine (lanyardref01_Name.callsc k a0 (some ⟨w.heap.size, 0, none⟩) (grownCap w a0.size 0 5) (bints a0) r (Lib.bytesWorld w 5 a0) (bints_row w 5 a0 hs0_) (by rw [bints_len]; exact grownCap_ge _ _ _ _) w (by rw [bints_len]; exact Lib.run_convert_string_bytes w 9 22 5 a0 Tryd.underlying9 Tryd.underlying22 Tryd.underlying5) h).mono ?_
 rintro e w' ⟨he_, hB_⟩
 have hb0_ := bytes_below (Below.refl _ w) (Nat.le_refl _) 5 a0
 exact ⟨he_, hb0_.trans (hB_.mono hb0_.size)⟩

end Go.Proofs.YthakidcnlkbbgaaDoor.Hp
