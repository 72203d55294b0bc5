/- Go functions of this seat as Lean functions, and their contracts: what the Go code computes, for every input. (By hp.py, a program of this repo, over the kit's print.py.) -/
import Derived.Test.YtbokeoncpilgpaaHp0
import Derived.Test.YtbokeoncpilgpaaHp4
import Derived.Test.YtbokeoncpilgpaaHp5
namespace Go.Proofs.Ytbokeoncpilgpaa.Hp
open Go.RowKit Go.Proofs.YtbokeoncpilgpaaW.PrintWords Go.Proofs.YtbokeoncpilgpaaW.PrintLast Go.Proofs.YtbokeoncpilgpaaW.PrintMore
attribute [local go_sem] max2_int min2_int max_two min_two max_three min_three max_four min_four   -- for this text's walks alone
set_option linter.unusedVariables false
set_option linter.unusedSimpArgs false

/-! ### lanyardref04_Deflate: function 12 -/
mutual
def lanyardref04_Deflate.l0 : Nat → List Int → List (S52) → List (S52) → List Int → Int → Option (List Int)
 | 0, _, _, _, _, _ => none
 | k + 1, x0, x5, x6, x7, x8 => if x8 < (x0.length : Int) then (lanyardref04_Deflate.l1 k x0 x5 x6 x7 x8 0 0 1) else (if 256 < (x5.length : Int) then ((lanyardref04_word.f k x7 ((rd_T52 x5 256).f0) ((rd_T52 x5 256).f1)).bind fun t171 => ((lanyardref04_Bits.f k t171).bind fun t174 => (some t174))) else (none))
def lanyardref04_Deflate.l1 : Nat → List Int → List (S52) → List (S52) → List Int → Int → Int → Int → Int → Option (List Int)
 | 0, _, _, _, _, _, _, _, _ => none
 | k + 1, x0, x5, x6, x7, x8, x9, x10, x11 => if x11 ≤ 512 then (lanyardref04_Deflate.j2 k x0 x5 x6 x7 x8 x9 x10 x11 (decide (x11 ≤ x8))) else (lanyardref04_Deflate.j2 k x0 x5 x6 x7 x8 x9 x10 x11 false)
def lanyardref04_Deflate.j2 : Nat → List Int → List (S52) → List (S52) → List Int → Int → Int → Int → Int → Bool → Option (List Int)
 | 0, _, _, _, _, _, _, _, _, _ => none
 | k + 1, x0, x5, x6, x7, x8, x9, x10, x11, x41 => if x41 = true then (lanyardref04_Deflate.l2 k x0 x5 x6 x7 x8 x9 x10 x11 0) else (if x9 < 3 then (if 0 ≤ x8 then (if x8 < (x0.length : Int) then (if 0 ≤ (rd x0 x8) then (if (rd x0 x8) < (x5.length : Int) then ((lanyardref04_word.f k x7 ((rd_T52 x5 (rd x0 x8)).f0) ((rd_T52 x5 (rd x0 x8)).f1)).bind fun t181 => (lanyardref04_Deflate.l0 k x0 x5 x6 t181 (wrap64 (x8 + 1)))) else (none)) else (none)) else (none)) else (none)) else (lanyardref04_Deflate.l3 k x0 x5 x6 x7 x8 x9 x10 257))
def lanyardref04_Deflate.l2 : Nat → List Int → List (S52) → List (S52) → List Int → Int → Int → Int → Int → Int → Option (List Int)
 | 0, _, _, _, _, _, _, _, _, _ => none
 | k + 1, x0, x5, x6, x7, x8, x9, x10, x11, x12 => if x12 < 258 then (if (wrap64 (x8 + x12)) < (x0.length : Int) then (if 0 ≤ (wrap64 (x8 + x12)) then (if 0 ≤ (wrap64 ((wrap64 (x8 + x12)) - x11)) then (if (wrap64 ((wrap64 (x8 + x12)) - x11)) < (x0.length : Int) then (if (rd x0 (wrap64 (x8 + x12))) = (rd x0 (wrap64 ((wrap64 (x8 + x12)) - x11))) then (lanyardref04_Deflate.l2 k x0 x5 x6 x7 x8 x9 x10 x11 (wrap64 (x12 + 1))) else (if x12 > x9 then (lanyardref04_Deflate.l1 k x0 x5 x6 x7 x8 x12 x11 (wrap64 (x11 + 1))) else (lanyardref04_Deflate.l1 k x0 x5 x6 x7 x8 x9 x10 (wrap64 (x11 + 1))))) else (none)) else (none)) else (none)) else (if x12 > x9 then (lanyardref04_Deflate.l1 k x0 x5 x6 x7 x8 x12 x11 (wrap64 (x11 + 1))) else (lanyardref04_Deflate.l1 k x0 x5 x6 x7 x8 x9 x10 (wrap64 (x11 + 1))))) else (if x12 > x9 then (lanyardref04_Deflate.l1 k x0 x5 x6 x7 x8 x12 x11 (wrap64 (x11 + 1))) else (lanyardref04_Deflate.l1 k x0 x5 x6 x7 x8 x9 x10 (wrap64 (x11 + 1))))
def lanyardref04_Deflate.j5 : Nat → List Int → List (S52) → List (S52) → List Int → Int → Int → Int → Int → Option (List Int)
 | 0, _, _, _, _, _, _, _, _ => none
 | k + 1, x0, x5, x6, x7, x8, x9, x10, x13 => (lanyardref04_least.f x13).bind fun bt186 => (if 0 ≤ x13 then (if x13 < (x5.length : Int) then ((lanyardref04_word.f k x7 ((rd_T52 x5 x13).f0) ((rd_T52 x5 x13).f1)).bind fun t189 => ((lanyardref04_num.f k t189 (wrap64 (x9 - bt186.1)) bt186.2).bind fun t192 => (lanyardref04_Deflate.l4 k x0 x5 x6 t192 x8 x9 x10 0))) else (none)) else (none))
def lanyardref04_Deflate.l4 : Nat → List Int → List (S52) → List (S52) → List Int → Int → Int → Int → Int → Option (List Int)
 | 0, _, _, _, _, _, _, _, _ => none
 | k + 1, x0, x5, x6, x7, x8, x9, x10, x18 => if x18 < 29 then ((lanyardref04_far.f (wrap64 (x18 + 1))).bind fun bt195 => (if bt195.1 > x10 then ((lanyardref04_far.f x18).bind fun bt197 => (if 0 ≤ x18 then (if x18 < (x6.length : Int) then ((lanyardref04_word.f k x7 ((rd_T52 x6 x18).f0) ((rd_T52 x6 x18).f1)).bind fun t200 => ((lanyardref04_num.f k t200 (wrap64 (x10 - bt197.1)) bt197.2).bind fun t203 => (lanyardref04_Deflate.l0 k x0 x5 x6 t203 (wrap64 (x8 + x9))))) else (none)) else (none))) else (lanyardref04_Deflate.l4 k x0 x5 x6 x7 x8 x9 x10 (wrap64 (x18 + 1))))) else ((lanyardref04_far.f x18).bind fun bt206 => (if 0 ≤ x18 then (if x18 < (x6.length : Int) then ((lanyardref04_word.f k x7 ((rd_T52 x6 x18).f0) ((rd_T52 x6 x18).f1)).bind fun t209 => ((lanyardref04_num.f k t209 (wrap64 (x10 - bt206.1)) bt206.2).bind fun t212 => (lanyardref04_Deflate.l0 k x0 x5 x6 t212 (wrap64 (x8 + x9))))) else (none)) else (none)))
def lanyardref04_Deflate.l3 : Nat → List Int → List (S52) → List (S52) → List Int → Int → Int → Int → Int → Option (List Int)
 | 0, _, _, _, _, _, _, _, _ => none
 | k + 1, x0, x5, x6, x7, x8, x9, x10, x13 => if x13 < 285 then ((lanyardref04_least.f (wrap64 (x13 + 1))).bind fun bt184 => (if bt184.1 > x9 then (lanyardref04_Deflate.j5 k x0 x5 x6 x7 x8 x9 x10 x13) else (lanyardref04_Deflate.l3 k x0 x5 x6 x7 x8 x9 x10 (wrap64 (x13 + 1))))) else (lanyardref04_Deflate.j5 k x0 x5 x6 x7 x8 x9 x10 x13)
end
def lanyardref04_Deflate.f (k : Nat) (l0 : List Int) : Option (List Int) := (lanyardref04_fixed.f k).bind fun bt155 => ((lanyardref04_Codes.f k bt155.1).bind fun t161 => ((lanyardref04_Codes.f k bt155.2).bind fun t164 => (lanyardref04_Deflate.l0 k l0 t161 t164 (([1, 1, 0] : List Int)) 0)))
theorem lanyardref04_Deflate.mono_l : ∀ k, (∀ y0 y1 y2 y3 y4, LeO (lanyardref04_Deflate.l0 k y0 y1 y2 y3 y4) (lanyardref04_Deflate.l0 (k + 1) y0 y1 y2 y3 y4)) ∧ (∀ y0 y1 y2 y3 y4 y5 y6 y7, LeO (lanyardref04_Deflate.l1 k y0 y1 y2 y3 y4 y5 y6 y7) (lanyardref04_Deflate.l1 (k + 1) y0 y1 y2 y3 y4 y5 y6 y7)) ∧ (∀ y0 y1 y2 y3 y4 y5 y6 y7 y8, LeO (lanyardref04_Deflate.j2 k y0 y1 y2 y3 y4 y5 y6 y7 y8) (lanyardref04_Deflate.j2 (k + 1) y0 y1 y2 y3 y4 y5 y6 y7 y8)) ∧ (∀ y0 y1 y2 y3 y4 y5 y6 y7 y8, LeO (lanyardref04_Deflate.l2 k y0 y1 y2 y3 y4 y5 y6 y7 y8) (lanyardref04_Deflate.l2 (k + 1) y0 y1 y2 y3 y4 y5 y6 y7 y8)) ∧ (∀ y0 y1 y2 y3 y4 y5 y6 y7, LeO (lanyardref04_Deflate.j5 k y0 y1 y2 y3 y4 y5 y6 y7) (lanyardref04_Deflate.j5 (k + 1) y0 y1 y2 y3 y4 y5 y6 y7)) ∧ (∀ y0 y1 y2 y3 y4 y5 y6 y7, LeO (lanyardref04_Deflate.l4 k y0 y1 y2 y3 y4 y5 y6 y7) (lanyardref04_Deflate.l4 (k + 1) y0 y1 y2 y3 y4 y5 y6 y7)) ∧ (∀ y0 y1 y2 y3 y4 y5 y6 y7, LeO (lanyardref04_Deflate.l3 k y0 y1 y2 y3 y4 y5 y6 y7) (lanyardref04_Deflate.l3 (k + 1) y0 y1 y2 y3 y4 y5 y6 y7))
 | 0 => ⟨fun _ _ _ _ _ r h => by simp [lanyardref04_Deflate.l0] at h, fun _ _ _ _ _ _ _ _ r h => by simp [lanyardref04_Deflate.l1] at h, fun _ _ _ _ _ _ _ _ _ r h => by simp [lanyardref04_Deflate.j2] at h, fun _ _ _ _ _ _ _ _ _ r h => by simp [lanyardref04_Deflate.l2] at h, fun _ _ _ _ _ _ _ _ r h => by simp [lanyardref04_Deflate.j5] at h, fun _ _ _ _ _ _ _ _ r h => by simp [lanyardref04_Deflate.l4] at h, fun _ _ _ _ _ _ _ _ r h => by simp [lanyardref04_Deflate.l3] at h⟩
 | k + 1 => by
  obtain ⟨ih0, ih1, ih2, ih3, ih4, ih5, ih6⟩ := lanyardref04_Deflate.mono_l k
  refine ⟨?_, ?_, ?_, ?_, ?_, ?_, ?_⟩
  ·intro y0 y1 y2 y3 y4
   unfold lanyardref04_Deflate.l0
   repeat' first
   | (with_reducible exact ih0 _ _ _ _ _)
   | (with_reducible exact ih1 _ _ _ _ _ _ _ _)
   | (with_reducible exact ih2 _ _ _ _ _ _ _ _ _)
   | (with_reducible exact ih3 _ _ _ _ _ _ _ _ _)
   | (with_reducible exact ih4 _ _ _ _ _ _ _ _)
   | (with_reducible exact ih5 _ _ _ _ _ _ _ _)
   | (with_reducible exact ih6 _ _ _ _ _ _ _ _)
   | (with_reducible exact lanyardref04_Bits.mono _ _)
   | (with_reducible exact lanyardref04_Codes.mono _ _)
   | (with_reducible exact lanyardref04_fixed.mono _)
   | (with_reducible exact lanyardref04_num.mono _ _ _ _)
   | (with_reducible exact lanyardref04_word.mono _ _ _ _)
   | (with_reducible exact LeO.refl _)
   | (with_reducible exact LeO.none _)
   | (with_reducible refine LeO.ite ?_ ?_)
   | (with_reducible refine LeO.bind ?_ (fun _ => ?_))
   | exact ih0 _ _ _ _ _
   | exact ih1 _ _ _ _ _ _ _ _
   | exact ih2 _ _ _ _ _ _ _ _ _
   | exact ih3 _ _ _ _ _ _ _ _ _
   | exact ih4 _ _ _ _ _ _ _ _
   | exact ih5 _ _ _ _ _ _ _ _
   | exact ih6 _ _ _ _ _ _ _ _
   | exact lanyardref04_Bits.mono _ _
   | exact lanyardref04_Codes.mono _ _
   | exact lanyardref04_fixed.mono _
   | exact lanyardref04_num.mono _ _ _ _
   | exact lanyardref04_word.mono _ _ _ _
   | exact LeO.none _
   | refine LeO.ite ?_ ?_
   | refine LeO.bind ?_ (fun _ => ?_)
  ·intro y0 y1 y2 y3 y4 y5 y6 y7
   unfold lanyardref04_Deflate.l1
   repeat' first
   | (with_reducible exact ih0 _ _ _ _ _)
   | (with_reducible exact ih1 _ _ _ _ _ _ _ _)
   | (with_reducible exact ih2 _ _ _ _ _ _ _ _ _)
   | (with_reducible exact ih3 _ _ _ _ _ _ _ _ _)
   | (with_reducible exact ih4 _ _ _ _ _ _ _ _)
   | (with_reducible exact ih5 _ _ _ _ _ _ _ _)
   | (with_reducible exact ih6 _ _ _ _ _ _ _ _)
   | (with_reducible exact lanyardref04_Bits.mono _ _)
   | (with_reducible exact lanyardref04_Codes.mono _ _)
   | (with_reducible exact lanyardref04_fixed.mono _)
   | (with_reducible exact lanyardref04_num.mono _ _ _ _)
   | (with_reducible exact lanyardref04_word.mono _ _ _ _)
   | (with_reducible exact LeO.refl _)
   | (with_reducible exact LeO.none _)
   | (with_reducible refine LeO.ite ?_ ?_)
   | (with_reducible refine LeO.bind ?_ (fun _ => ?_))
   | exact ih0 _ _ _ _ _
   | exact ih1 _ _ _ _ _ _ _ _
   | exact ih2 _ _ _ _ _ _ _ _ _
   | exact ih3 _ _ _ _ _ _ _ _ _
   | exact ih4 _ _ _ _ _ _ _ _
   | exact ih5 _ _ _ _ _ _ _ _
   | exact ih6 _ _ _ _ _ _ _ _
   | exact lanyardref04_Bits.mono _ _
   | exact lanyardref04_Codes.mono _ _
   | exact lanyardref04_fixed.mono _
   | exact lanyardref04_num.mono _ _ _ _
   | exact lanyardref04_word.mono _ _ _ _
   | exact LeO.none _
   | refine LeO.ite ?_ ?_
   | refine LeO.bind ?_ (fun _ => ?_)
  ·intro y0 y1 y2 y3 y4 y5 y6 y7 y8
   unfold lanyardref04_Deflate.j2
   repeat' first
   | (with_reducible exact ih0 _ _ _ _ _)
   | (with_reducible exact ih1 _ _ _ _ _ _ _ _)
   | (with_reducible exact ih2 _ _ _ _ _ _ _ _ _)
   | (with_reducible exact ih3 _ _ _ _ _ _ _ _ _)
   | (with_reducible exact ih4 _ _ _ _ _ _ _ _)
   | (with_reducible exact ih5 _ _ _ _ _ _ _ _)
   | (with_reducible exact ih6 _ _ _ _ _ _ _ _)
   | (with_reducible exact lanyardref04_Bits.mono _ _)
   | (with_reducible exact lanyardref04_Codes.mono _ _)
   | (with_reducible exact lanyardref04_fixed.mono _)
   | (with_reducible exact lanyardref04_num.mono _ _ _ _)
   | (with_reducible exact lanyardref04_word.mono _ _ _ _)
   | (with_reducible exact LeO.refl _)
   | (with_reducible exact LeO.none _)
   | (with_reducible refine LeO.ite ?_ ?_)
   | (with_reducible refine LeO.bind ?_ (fun _ => ?_))
   | exact ih0 _ _ _ _ _
   | exact ih1 _ _ _ _ _ _ _ _
   | exact ih2 _ _ _ _ _ _ _ _ _
   | exact ih3 _ _ _ _ _ _ _ _ _
   | exact ih4 _ _ _ _ _ _ _ _
   | exact ih5 _ _ _ _ _ _ _ _
   | exact ih6 _ _ _ _ _ _ _ _
   | exact lanyardref04_Bits.mono _ _
   | exact lanyardref04_Codes.mono _ _
   | exact lanyardref04_fixed.mono _
   | exact lanyardref04_num.mono _ _ _ _
   | exact lanyardref04_word.mono _ _ _ _
   | exact LeO.none _
   | refine LeO.ite ?_ ?_
   | refine LeO.bind ?_ (fun _ => ?_)
  ·intro y0 y1 y2 y3 y4 y5 y6 y7 y8
   unfold lanyardref04_Deflate.l2
   repeat' first
   | (with_reducible exact ih0 _ _ _ _ _)
   | (with_reducible exact ih1 _ _ _ _ _ _ _ _)
   | (with_reducible exact ih2 _ _ _ _ _ _ _ _ _)
   | (with_reducible exact ih3 _ _ _ _ _ _ _ _ _)
   | (with_reducible exact ih4 _ _ _ _ _ _ _ _)
   | (with_reducible exact ih5 _ _ _ _ _ _ _ _)
   | (with_reducible exact ih6 _ _ _ _ _ _ _ _)
   | (with_reducible exact lanyardref04_Bits.mono _ _)
   | (with_reducible exact lanyardref04_Codes.mono _ _)
   | (with_reducible exact lanyardref04_fixed.mono _)
   | (with_reducible exact lanyardref04_num.mono _ _ _ _)
   | (with_reducible exact lanyardref04_word.mono _ _ _ _)
   | (with_reducible exact LeO.refl _)
   | (with_reducible exact LeO.none _)
   | (with_reducible refine LeO.ite ?_ ?_)
   | (with_reducible refine LeO.bind ?_ (fun _ => ?_))
   | exact ih0 _ _ _ _ _
   | exact ih1 _ _ _ _ _ _ _ _
   | exact ih2 _ _ _ _ _ _ _ _ _
   | exact ih3 _ _ _ _ _ _ _ _ _
   | exact ih4 _ _ _ _ _ _ _ _
   | exact ih5 _ _ _ _ _ _ _ _
   | exact ih6 _ _ _ _ _ _ _ _
   | exact lanyardref04_Bits.mono _ _
   | exact lanyardref04_Codes.mono _ _
   | exact lanyardref04_fixed.mono _
   | exact lanyardref04_num.mono _ _ _ _
   | exact lanyardref04_word.mono _ _ _ _
   | exact LeO.none _
   | refine LeO.ite ?_ ?_
   | refine LeO.bind ?_ (fun _ => ?_)
  ·intro y0 y1 y2 y3 y4 y5 y6 y7
   unfold lanyardref04_Deflate.j5
   repeat' first
   | (with_reducible exact ih0 _ _ _ _ _)
   | (with_reducible exact ih1 _ _ _ _ _ _ _ _)
   | (with_reducible exact ih2 _ _ _ _ _ _ _ _ _)
   | (with_reducible exact ih3 _ _ _ _ _ _ _ _ _)
   | (with_reducible exact ih4 _ _ _ _ _ _ _ _)
   | (with_reducible exact ih5 _ _ _ _ _ _ _ _)
   | (with_reducible exact ih6 _ _ _ _ _ _ _ _)
   | (with_reducible exact lanyardref04_Bits.mono _ _)
   | (with_reducible exact lanyardref04_Codes.mono _ _)
   | (with_reducible exact lanyardref04_fixed.mono _)
   | (with_reducible exact lanyardref04_num.mono _ _ _ _)
   | (with_reducible exact lanyardref04_word.mono _ _ _ _)
   | (with_reducible exact LeO.refl _)
   | (with_reducible exact LeO.none _)
   | (with_reducible refine LeO.ite ?_ ?_)
   | (with_reducible refine LeO.bind ?_ (fun _ => ?_))
   | exact ih0 _ _ _ _ _
   | exact ih1 _ _ _ _ _ _ _ _
   | exact ih2 _ _ _ _ _ _ _ _ _
   | exact ih3 _ _ _ _ _ _ _ _ _
   | exact ih4 _ _ _ _ _ _ _ _
   | exact ih5 _ _ _ _ _ _ _ _
   | exact ih6 _ _ _ _ _ _ _ _
   | exact lanyardref04_Bits.mono _ _
   | exact lanyardref04_Codes.mono _ _
   | exact lanyardref04_fixed.mono _
   | exact lanyardref04_num.mono _ _ _ _
   | exact lanyardref04_word.mono _ _ _ _
   | exact LeO.none _
   | refine LeO.ite ?_ ?_
   | refine LeO.bind ?_ (fun _ => ?_)
  ·intro y0 y1 y2 y3 y4 y5 y6 y7
   unfold lanyardref04_Deflate.l4
   repeat' first
   | (with_reducible exact ih0 _ _ _ _ _)
   | (with_reducible exact ih1 _ _ _ _ _ _ _ _)
   | (with_reducible exact ih2 _ _ _ _ _ _ _ _ _)
   | (with_reducible exact ih3 _ _ _ _ _ _ _ _ _)
   | (with_reducible exact ih4 _ _ _ _ _ _ _ _)
   | (with_reducible exact ih5 _ _ _ _ _ _ _ _)
   | (with_reducible exact ih6 _ _ _ _ _ _ _ _)
   | (with_reducible exact lanyardref04_Bits.mono _ _)
   | (with_reducible exact lanyardref04_Codes.mono _ _)
   | (with_reducible exact lanyardref04_fixed.mono _)
   | (with_reducible exact lanyardref04_num.mono _ _ _ _)
   | (with_reducible exact lanyardref04_word.mono _ _ _ _)
   | (with_reducible exact LeO.refl _)
   | (with_reducible exact LeO.none _)
   | (with_reducible refine LeO.ite ?_ ?_)
   | (with_reducible refine LeO.bind ?_ (fun _ => ?_))
   | exact ih0 _ _ _ _ _
   | exact ih1 _ _ _ _ _ _ _ _
   | exact ih2 _ _ _ _ _ _ _ _ _
   | exact ih3 _ _ _ _ _ _ _ _ _
   | exact ih4 _ _ _ _ _ _ _ _
   | exact ih5 _ _ _ _ _ _ _ _
   | exact ih6 _ _ _ _ _ _ _ _
   | exact lanyardref04_Bits.mono _ _
   | exact lanyardref04_Codes.mono _ _
   | exact lanyardref04_fixed.mono _
   | exact lanyardref04_num.mono _ _ _ _
   | exact lanyardref04_word.mono _ _ _ _
   | exact LeO.none _
   | refine LeO.ite ?_ ?_
   | refine LeO.bind ?_ (fun _ => ?_)
  ·intro y0 y1 y2 y3 y4 y5 y6 y7
   unfold lanyardref04_Deflate.l3
   repeat' first
   | (with_reducible exact ih0 _ _ _ _ _)
   | (with_reducible exact ih1 _ _ _ _ _ _ _ _)
   | (with_reducible exact ih2 _ _ _ _ _ _ _ _ _)
   | (with_reducible exact ih3 _ _ _ _ _ _ _ _ _)
   | (with_reducible exact ih4 _ _ _ _ _ _ _ _)
   | (with_reducible exact ih5 _ _ _ _ _ _ _ _)
   | (with_reducible exact ih6 _ _ _ _ _ _ _ _)
   | (with_reducible exact lanyardref04_Bits.mono _ _)
   | (with_reducible exact lanyardref04_Codes.mono _ _)
   | (with_reducible exact lanyardref04_fixed.mono _)
   | (with_reducible exact lanyardref04_num.mono _ _ _ _)
   | (with_reducible exact lanyardref04_word.mono _ _ _ _)
   | (with_reducible exact LeO.refl _)
   | (with_reducible exact LeO.none _)
   | (with_reducible refine LeO.ite ?_ ?_)
   | (with_reducible refine LeO.bind ?_ (fun _ => ?_))
   | exact ih0 _ _ _ _ _
   | exact ih1 _ _ _ _ _ _ _ _
   | exact ih2 _ _ _ _ _ _ _ _ _
   | exact ih3 _ _ _ _ _ _ _ _ _
   | exact ih4 _ _ _ _ _ _ _ _
   | exact ih5 _ _ _ _ _ _ _ _
   | exact ih6 _ _ _ _ _ _ _ _
   | exact lanyardref04_Bits.mono _ _
   | exact lanyardref04_Codes.mono _ _
   | exact lanyardref04_fixed.mono _
   | exact lanyardref04_num.mono _ _ _ _
   | exact lanyardref04_word.mono _ _ _ _
   | exact LeO.none _
   | refine LeO.ite ?_ ?_
   | refine LeO.bind ?_ (fun _ => ?_)
theorem lanyardref04_Deflate.mono : ∀ a0 k, LeO (lanyardref04_Deflate.f k a0) (lanyardref04_Deflate.f (k + 1) a0) := by
 intro a0 k
 obtain ⟨ih0, ih1, ih2, ih3, ih4, ih5, ih6⟩ := lanyardref04_Deflate.mono_l k
 unfold lanyardref04_Deflate.f
 repeat' first
   | (with_reducible exact ih0 _ _ _ _ _)
   | (with_reducible exact ih1 _ _ _ _ _ _ _ _)
   | (with_reducible exact ih2 _ _ _ _ _ _ _ _ _)
   | (with_reducible exact ih3 _ _ _ _ _ _ _ _ _)
   | (with_reducible exact ih4 _ _ _ _ _ _ _ _)
   | (with_reducible exact ih5 _ _ _ _ _ _ _ _)
   | (with_reducible exact ih6 _ _ _ _ _ _ _ _)
   | (with_reducible exact lanyardref04_Bits.mono _ _)
   | (with_reducible exact lanyardref04_Codes.mono _ _)
   | (with_reducible exact lanyardref04_fixed.mono _)
   | (with_reducible exact lanyardref04_num.mono _ _ _ _)
   | (with_reducible exact lanyardref04_word.mono _ _ _ _)
   | (with_reducible exact LeO.refl _)
   | (with_reducible exact LeO.none _)
   | (with_reducible refine LeO.ite ?_ ?_)
   | (with_reducible refine LeO.bind ?_ (fun _ => ?_))
   | exact ih0 _ _ _ _ _
   | exact ih1 _ _ _ _ _ _ _ _
   | exact ih2 _ _ _ _ _ _ _ _ _
   | exact ih3 _ _ _ _ _ _ _ _ _
   | exact ih4 _ _ _ _ _ _ _ _
   | exact ih5 _ _ _ _ _ _ _ _
   | exact ih6 _ _ _ _ _ _ _ _
   | exact lanyardref04_Bits.mono _ _
   | exact lanyardref04_Codes.mono _ _
   | exact lanyardref04_fixed.mono _
   | exact lanyardref04_num.mono _ _ _ _
   | exact lanyardref04_word.mono _ _ _ _
   | exact LeO.none _
   | refine LeO.ite ?_ ?_
   | refine LeO.bind ?_ (fun _ => ?_)
set_option maxHeartbeats 8000000 in
set_option maxRecDepth 100000 in
theorem lanyardref04_Deflate.calls (k : Nat) (A0 : Option Addr) (c0 : Nat) (l0 : List Int) (r : List Int) (w : World) (hr0 : Kd.C (Kd.int .u8) w A0 l0.length l0) (hc0 : l0.length ≤ c0) (h : lanyardref04_Deflate.f k l0 = some r) :
  Calls Try.prog 12 #[.slice A0 l0.length c0] w fun e w' => ∃ v0_ : Value, e = .returned (v0_) ∧ Kd.R (Kd.int .u8) 5 w' w.heap.size (fun _ => True) v0_ r ∧ Below w.heap.size w w' := by
 have hu52 := Try.underlying52
 have HR0 := Aside0.mk hr0
 have HC0 := Aside0.mk hc0
 clear hr0 hc0
 have HB := Aside0.mk (Below.refl w.heap.size w)
 have H : ((lanyardref04_fixed.f k).bind fun bt155 => ((lanyardref04_Codes.f k bt155.1).bind fun t161 => ((lanyardref04_Codes.f k bt155.2).bind fun t164 => (lanyardref04_Deflate.l0 k l0 t161 t164 (([1, 1, 0] : List Int)) 0)))) = some r := h
 clear h
 replace H := Option.bind_eq_some_iff.mp H
 obtain ⟨⟨t155, t156⟩, A20, H⟩ := H
 replace H : ((lanyardref04_Codes.f k t155).bind fun t161 => ((lanyardref04_Codes.f k t156).bind fun t164 => (lanyardref04_Deflate.l0 k l0 t161 t164 (([1, 1, 0] : List Int)) 0))) = some r := H
 have A2 := Aside0.mk A20
 clear A20
 replace H := Option.bind_eq_some_iff.mp H
 obtain ⟨t161, A30, H⟩ := H
 replace H : ((lanyardref04_Codes.f k t156).bind fun t164 => (lanyardref04_Deflate.l0 k l0 t161 t164 (([1, 1, 0] : List Int)) 0)) = some r := H
 have A3 := Aside0.mk A30
 clear A30
 replace H := Option.bind_eq_some_iff.mp H
 obtain ⟨t164, A40, H⟩ := H
 replace H : (lanyardref04_Deflate.l0 k l0 t161 t164 (([1, 1, 0] : List Int)) 0) = some r := H
 have A4 := Aside0.mk A40
 clear A40
 obtain ⟨y167, hy167⟩ : ∃ y_ : List Int, y_ = (([1, 1, 0] : List Int)) := ⟨_, rfl⟩
 replace H : (lanyardref04_Deflate.l0 k l0 t161 t164 y167 0) = some r := by first | (rw [hy167]; with_reducible exact H) | (have H2_ := (Option.bind_some _ _).symm.trans H; rw [hy167]; with_reducible exact H2_) | (have H2_ := (Option.bind_some _ _).symm.trans H; with_reducible exact H2_) | with_reducible exact H | (rw [hy167]; exact H) | exact H
 have Ny167 := Aside0.mk hy167
 clear hy167
 have H' := Aside0.mk H
 clear H
 go_enter Try.func12, Try.ntmps12
 go_wp2_with (first | (go_at_call 21; (with_reducible refine (lanyardref04_fixed.calls k  t155 t156 _ A2.out).mono ?_); rintro e w5 ⟨v157, v159, rfl, ho0, ho1, hb⟩; have n0_ := Aside0.mk (Kd.R_lower ho0 (Bz HB)); have n1_ := Aside0.mk (Kd.R_lower ho1 (Bz HB)); have n2_ := Bs HB hb; clear HB; revert n0_ n1_ n2_; intro HO158 HO160 HB; (try clear hb); (try clear hb2); (try clear hk); (try clear hi); (try clear ho0); (try clear ho1); obtain ⟨Ao6, co6, eo6⟩ := Kd.R_slice HO158.out; subst eo6) | (go_at_call 22; (with_reducible refine (lanyardref04_Codes.calls k _ _ t155 t161 _ ?side1 ?side2 A3.out).mono ?_); (case side1 => exact Cu (Kd.R_reads' HO158.out).2.2); (case side2 => exact (Kd.R_reads' HO158.out).2.1); rintro e w7 ⟨v162, rfl, ho0, hb⟩; have n0_ := Rb HO158 hb; have n1_ := Rb HO160 hb; have n2_ := Aside0.mk (Kd.R_lower ho0 (Bz HB)); have n3_ := Bs HB hb; clear HO158 HO160 HB; revert n0_ n1_ n2_ n3_; intro HO158 HO160 HO163 HB; (try clear hb); (try clear hb2); (try clear hk); (try clear hi); (try clear ho0); obtain ⟨Ao8, co8, eo8⟩ := Kd.R_slice HO160.out; subst eo8) | (go_at_call 22; (with_reducible refine (lanyardref04_Codes.calls k _ _ t156 t164 _ ?side1 ?side2 A4.out).mono ?_); (case side1 => exact Cu (Kd.R_reads' HO160.out).2.2); (case side2 => exact (Kd.R_reads' HO160.out).2.1); rintro e w9 ⟨v165, rfl, ho0, hb⟩; have n0_ := Rb HO158 hb; have n1_ := Rb HO160 hb; have n2_ := Re HO163 (Kd.R_base ho0) hb; have n3_ := Aside0.mk (Kd.R_lower (Kd.R_new' ho0 (Kd.R_lt (Ru HO163))) (Bz HB)); have n4_ := Bs HB hb; clear HO158 HO160 HO163 HB; revert n0_ n1_ n2_ n3_ n4_; intro HO158 HO160 HO163 HO166 HB; (try clear hb); (try clear hb2); (try clear hk); (try clear hi); (try clear ho0)) | ((with_reducible refine gate_dst (N := 30) rfl ?_); (try (refine gate_guard (by rfl) ?_; dsimp only)); refine litI .i64 3 30 [1, 1, 0] [.int .i64 1, .int .i64 1, .int .i64 0] ?hr ?_; (case hr => first | (go_simp; done) | (go_simp; rfl)); intro v168 w10 ho11 hb; (first | rw [← Ny167.out] at ho11 | (simp only [Int.reduceToNat] at ho11; rw [← Ny167.out] at ho11)); have n0_ := Re HO158 (Kd.R_base ho11) hb; have n1_ := Re HO160 (Kd.R_base ho11) hb; have n2_ := Rb HO163 hb; have n3_ := Rb HO166 hb; have n4_ := Aside0.mk (Kd.R_lower (Kd.R_new' (Kd.R_new' ho11 (Kd.R_lt (Ru HO158))) (Kd.R_lt (Ru HO160))) (Bz HB)); have n5_ := Bs HB hb; clear HO158 HO160 HO163 HO166 HB; revert n0_ n1_ n2_ n3_ n4_ n5_; intro HO158 HO160 HO163 HO166 HO169 HB; clear hb ho11))
 repeat (go_quiet (first | (go_at_call 21; (with_reducible refine (lanyardref04_fixed.calls k  t155 t156 _ A2.out).mono ?_); rintro e w5 ⟨v157, v159, rfl, ho0, ho1, hb⟩; have n0_ := Aside0.mk (Kd.R_lower ho0 (Bz HB)); have n1_ := Aside0.mk (Kd.R_lower ho1 (Bz HB)); have n2_ := Bs HB hb; clear HB; revert n0_ n1_ n2_; intro HO158 HO160 HB; (try clear hb); (try clear hb2); (try clear hk); (try clear hi); (try clear ho0); (try clear ho1); obtain ⟨Ao6, co6, eo6⟩ := Kd.R_slice HO158.out; subst eo6) | (go_at_call 22; (with_reducible refine (lanyardref04_Codes.calls k _ _ t155 t161 _ ?side1 ?side2 A3.out).mono ?_); (case side1 => exact Cu (Kd.R_reads' HO158.out).2.2); (case side2 => exact (Kd.R_reads' HO158.out).2.1); rintro e w7 ⟨v162, rfl, ho0, hb⟩; have n0_ := Rb HO158 hb; have n1_ := Rb HO160 hb; have n2_ := Aside0.mk (Kd.R_lower ho0 (Bz HB)); have n3_ := Bs HB hb; clear HO158 HO160 HB; revert n0_ n1_ n2_ n3_; intro HO158 HO160 HO163 HB; (try clear hb); (try clear hb2); (try clear hk); (try clear hi); (try clear ho0); obtain ⟨Ao8, co8, eo8⟩ := Kd.R_slice HO160.out; subst eo8) | (go_at_call 22; (with_reducible refine (lanyardref04_Codes.calls k _ _ t156 t164 _ ?side1 ?side2 A4.out).mono ?_); (case side1 => exact Cu (Kd.R_reads' HO160.out).2.2); (case side2 => exact (Kd.R_reads' HO160.out).2.1); rintro e w9 ⟨v165, rfl, ho0, hb⟩; have n0_ := Rb HO158 hb; have n1_ := Rb HO160 hb; have n2_ := Re HO163 (Kd.R_base ho0) hb; have n3_ := Aside0.mk (Kd.R_lower (Kd.R_new' ho0 (Kd.R_lt (Ru HO163))) (Bz HB)); have n4_ := Bs HB hb; clear HO158 HO160 HO163 HB; revert n0_ n1_ n2_ n3_ n4_; intro HO158 HO160 HO163 HO166 HB; (try clear hb); (try clear hb2); (try clear hk); (try clear hi); (try clear ho0)) | ((with_reducible refine gate_dst (N := 30) rfl ?_); (try (refine gate_guard (by rfl) ?_; dsimp only)); refine litI .i64 3 30 [1, 1, 0] [.int .i64 1, .int .i64 1, .int .i64 0] ?hr ?_; (case hr => first | (go_simp; done) | (go_simp; rfl)); intro v168 w10 ho11 hb; (first | rw [← Ny167.out] at ho11 | (simp only [Int.reduceToNat] at ho11; rw [← Ny167.out] at ho11)); have n0_ := Re HO158 (Kd.R_base ho11) hb; have n1_ := Re HO160 (Kd.R_base ho11) hb; have n2_ := Rb HO163 hb; have n3_ := Rb HO166 hb; have n4_ := Aside0.mk (Kd.R_lower (Kd.R_new' (Kd.R_new' ho11 (Kd.R_lt (Ru HO158))) (Kd.R_lt (Ru HO160))) (Bz HB)); have n5_ := Bs HB hb; clear HO158 HO160 HO163 HO166 HB; revert n0_ n1_ n2_ n3_ n4_ n5_; intro HO158 HO160 HO163 HO166 HO169 HB; clear hb ho11)); try go_wp2_with (first | (go_at_call 21; (with_reducible refine (lanyardref04_fixed.calls k  t155 t156 _ A2.out).mono ?_); rintro e w5 ⟨v157, v159, rfl, ho0, ho1, hb⟩; have n0_ := Aside0.mk (Kd.R_lower ho0 (Bz HB)); have n1_ := Aside0.mk (Kd.R_lower ho1 (Bz HB)); have n2_ := Bs HB hb; clear HB; revert n0_ n1_ n2_; intro HO158 HO160 HB; (try clear hb); (try clear hb2); (try clear hk); (try clear hi); (try clear ho0); (try clear ho1); obtain ⟨Ao6, co6, eo6⟩ := Kd.R_slice HO158.out; subst eo6) | (go_at_call 22; (with_reducible refine (lanyardref04_Codes.calls k _ _ t155 t161 _ ?side1 ?side2 A3.out).mono ?_); (case side1 => exact Cu (Kd.R_reads' HO158.out).2.2); (case side2 => exact (Kd.R_reads' HO158.out).2.1); rintro e w7 ⟨v162, rfl, ho0, hb⟩; have n0_ := Rb HO158 hb; have n1_ := Rb HO160 hb; have n2_ := Aside0.mk (Kd.R_lower ho0 (Bz HB)); have n3_ := Bs HB hb; clear HO158 HO160 HB; revert n0_ n1_ n2_ n3_; intro HO158 HO160 HO163 HB; (try clear hb); (try clear hb2); (try clear hk); (try clear hi); (try clear ho0); obtain ⟨Ao8, co8, eo8⟩ := Kd.R_slice HO160.out; subst eo8) | (go_at_call 22; (with_reducible refine (lanyardref04_Codes.calls k _ _ t156 t164 _ ?side1 ?side2 A4.out).mono ?_); (case side1 => exact Cu (Kd.R_reads' HO160.out).2.2); (case side2 => exact (Kd.R_reads' HO160.out).2.1); rintro e w9 ⟨v165, rfl, ho0, hb⟩; have n0_ := Rb HO158 hb; have n1_ := Rb HO160 hb; have n2_ := Re HO163 (Kd.R_base ho0) hb; have n3_ := Aside0.mk (Kd.R_lower (Kd.R_new' ho0 (Kd.R_lt (Ru HO163))) (Bz HB)); have n4_ := Bs HB hb; clear HO158 HO160 HO163 HB; revert n0_ n1_ n2_ n3_ n4_; intro HO158 HO160 HO163 HO166 HB; (try clear hb); (try clear hb2); (try clear hk); (try clear hi); (try clear ho0)) | ((with_reducible refine gate_dst (N := 30) rfl ?_); (try (refine gate_guard (by rfl) ?_; dsimp only)); refine litI .i64 3 30 [1, 1, 0] [.int .i64 1, .int .i64 1, .int .i64 0] ?hr ?_; (case hr => first | (go_simp; done) | (go_simp; rfl)); intro v168 w10 ho11 hb; (first | rw [← Ny167.out] at ho11 | (simp only [Int.reduceToNat] at ho11; rw [← Ny167.out] at ho11)); have n0_ := Re HO158 (Kd.R_base ho11) hb; have n1_ := Re HO160 (Kd.R_base ho11) hb; have n2_ := Rb HO163 hb; have n3_ := Rb HO166 hb; have n4_ := Aside0.mk (Kd.R_lower (Kd.R_new' (Kd.R_new' ho11 (Kd.R_lt (Ru HO158))) (Kd.R_lt (Ru HO160))) (Bz HB)); have n5_ := Bs HB hb; clear HO158 HO160 HO163 HO166 HB; revert n0_ n1_ n2_ n3_ n4_ n5_; intro HO158 HO160 HO163 HO166 HO169 HB; clear hb ho11)))
 go_loopg [7, 8] k (fun kq v7 v8 w' => ∃ (x7_1 : List Int) (x8_1 : Int), v8 = .int .i64 x8_1 ∧ Aside0 (lanyardref04_Deflate.l0 kq l0 t161 t164 x7_1 x8_1 = some r) ∧ Aside0 (kq ≤ k) ∧ Aside0 (Kd.R k52 52 w' w.heap.size (fun k_ => some k_ ≠ (v165 : Value).ownBlock) v162 t161) ∧ Aside0 (Kd.R k52 52 w' w.heap.size (fun k_ => some k_ ≠ (v162 : Value).ownBlock) v165 t164) ∧ Aside0 (Kd.R (Kd.int .i64) 3 w' w.heap.size (fun _ => True) v7 x7_1) ∧ Aside0 (Below w.heap.size w w'))
 case atStart => exact ⟨(y167), (0), (by first | rfl | (simp; done) | (simp [*]; done)), H', ⟨Nat.le_refl _⟩, ⟨by (with_reducible repeat (first | apply Kd.R_alloc | apply Kd.R_drewN | apply Kd.R_drew)); exact Kd.R_mono HO163.out (fun _ hk => hk.2)⟩, ⟨by (with_reducible repeat (first | apply Kd.R_alloc | apply Kd.R_drewN | apply Kd.R_drew)); exact Kd.R_mono HO166.out (fun _ hk => hk.2)⟩, ⟨by (with_reducible repeat (first | apply Kd.R_alloc | apply Kd.R_drewN | apply Kd.R_drew)); exact Kd.R_mono HO169.out (fun _ hk => trivial)⟩, ⟨Bu HB⟩⟩
 case round =>
  clear H'
  try clear c1
  try clear p2
  obtain ⟨x7_1, x8_1, rfl, HA, HK1, HO_5, HO_6, HO_7, HB⟩ := hrel
  cases gk with
  | zero => exact absurd HA.out (by simp [lanyardref04_Deflate.l0])
  | succ k1 =>
   have H := HA.out
   clear HA
   simp only [lanyardref04_Deflate.l0] at H
   by_cases c12 : x8_1 < (l0.length : Int)
   ·rw [if_pos c12] at H
    have c12b0 : decide (x8_1 < (l0.length : Int)) = true := decide_eq_true c12
    clear c12
    have H' := Aside0.mk H
    clear H
    go_wp2
    repeat (go_quiet (fail); try go_wp2)
    go_loopg [9, 10, 11] k1 (fun kq v9 v10 v11 w' => ∃ (x9_2 : Int) (x10_2 : Int) (x11_2 : Int), v9 = .int .i64 x9_2 ∧ v10 = .int .i64 x10_2 ∧ v11 = .int .i64 x11_2 ∧ Aside0 (lanyardref04_Deflate.l1 kq l0 t161 t164 x7_1 x8_1 x9_2 x10_2 x11_2 = some r) ∧ Aside0 (kq ≤ k1) ∧ Aside0 (Kd.R k52 52 w' w.heap.size (fun k_ => some k_ ≠ (v165 : Value).ownBlock) v162 t161) ∧ Aside0 (Kd.R k52 52 w' w.heap.size (fun k_ => some k_ ≠ (v162 : Value).ownBlock) v165 t164) ∧ Aside0 (Kd.R (Kd.int .i64) 3 w' w.heap.size (fun _ => True) u7 x7_1) ∧ Aside0 (Below w.heap.size w w'))
    case atStart => exact ⟨(0), (0), (1), (by first | rfl | (simp; done) | (simp [*]; done)), (by first | rfl | (simp; done) | (simp [*]; done)), (by first | rfl | (simp; done) | (simp [*]; done)), H', ⟨Nat.le_refl _⟩, ⟨Ru HO_5⟩, ⟨Ru HO_6⟩, ⟨Ru HO_7⟩, ⟨Bu HB⟩⟩
    case round =>
     clear H'
     try clear c1
     try clear p2
     try clear c12
     try clear c12b0
     try clear p2
     obtain ⟨x9_2, x10_2, x11_2, rfl, rfl, rfl, HA, HK2, HO_5, HO_6, HO_7, HB⟩ := hrel
     cases gk with
     | zero => exact absurd HA.out (by simp [lanyardref04_Deflate.l1])
     | succ k2 =>
      have H := HA.out
      clear HA
      simp only [lanyardref04_Deflate.l1] at H
      have HC13 := Aside0.mk H
      clear H
      go_upto_region 10 with (fail)
      repeat (go_quiet (fail); go_upto_region 10 with (fail))
      go_cut [41] (fun v41 wc => ∃ (kq : Nat) (x41_12 : Bool), v41 = .bool x41_12 ∧ Aside0 (lanyardref04_Deflate.j2 kq l0 t161 t164 x7_1 x8_1 x9_2 x10_2 x11_2 x41_12 = some r) ∧ Aside0 (kq ≤ k2) ∧ Aside0 (Kd.R k52 52 wc w.heap.size (fun k_ => some k_ ≠ (v165 : Value).ownBlock) v162 t161) ∧ Aside0 (Kd.R k52 52 wc w.heap.size (fun k_ => some k_ ≠ (v162 : Value).ownBlock) v165 t164) ∧ Aside0 (Kd.R (Kd.int .i64) 3 wc w.heap.size (fun _ => True) u7 x7_1) ∧ Aside0 (Below w.heap.size w wc))
      case first =>
       have H := HC13.out
       clear HC13
       by_cases c14 : x11_2 ≤ 512
       ·rw [if_pos c14] at H
        have c14b0 : decide (x11_2 ≤ 512) = true := decide_eq_true c14
        clear c14
        (first | rw [c14b0] | (simp only [i64_w, i32_w]; rw [c14b0]) | skip)
        have H' := Aside0.mk H
        clear H
        go_wp2
        repeat (go_quiet (fail); try go_wp2)
        go_meet
        case rel => exact ⟨_, (decide (x11_2 ≤ x8_1)), (by first | rfl | (simp; done) | (simp [*]; done)), H', ⟨by have := HK1.out; have := HK2.out; first | omega | exact Nat.le_refl _⟩, ⟨Ru HO_5⟩, ⟨Ru HO_6⟩, ⟨Ru HO_7⟩, ⟨Bu HB⟩⟩
       ·rw [if_neg c14] at H
        have c14b0 : decide (x11_2 ≤ 512) = false := decide_eq_false c14
        clear c14
        (first | rw [c14b0] | (simp only [i64_w, i32_w]; rw [c14b0]) | skip)
        have H' := Aside0.mk H
        clear H
        go_wp2
        repeat (go_quiet (fail); try go_wp2)
        go_meet
        case rel => exact ⟨_, (false), (by first | rfl | (simp; done) | (simp [*]; done)), H', ⟨by have := HK1.out; have := HK2.out; first | omega | exact Nat.le_refl _⟩, ⟨Ru HO_5⟩, ⟨Ru HO_6⟩, ⟨Ru HO_7⟩, ⟨Bu HB⟩⟩
      case rest =>
       clear HC13
       try clear c1
       try clear p2
       try clear c12
       try clear c12b0
       try clear c14
       try clear c14b0
       try clear p2
       obtain ⟨kq, x41_12, rfl, HA, HJ12, HO_5, HO_6, HO_7, HB⟩ := hcut
       cases kq with
       | zero => exact absurd HA.out (by simp [lanyardref04_Deflate.j2])
       | succ kj12 =>
        have H := HA.out
        clear HA
        simp only [lanyardref04_Deflate.j2] at H
        by_cases c15 : x41_12 = true
        ·subst c15
         have H1 : (lanyardref04_Deflate.l2 kj12 l0 t161 t164 x7_1 x8_1 x9_2 x10_2 x11_2 0) = some r := by rw [if_pos rfl] at H; exact H
         clear H
         have H := H1
         clear H1
         have H' := Aside0.mk H
         clear H
         go_wp2
         repeat (go_quiet (fail); try go_wp2)
         go_loopg [12] kj12 (fun kq v12 w' => ∃ (x12_4 : Int), v12 = .int .i64 x12_4 ∧ Aside0 (lanyardref04_Deflate.l2 kq l0 t161 t164 x7_1 x8_1 x9_2 x10_2 x11_2 x12_4 = some r) ∧ Aside0 (kq ≤ kj12) ∧ Aside0 (Kd.R k52 52 w' w.heap.size (fun k_ => some k_ ≠ (v165 : Value).ownBlock) v162 t161) ∧ Aside0 (Kd.R k52 52 w' w.heap.size (fun k_ => some k_ ≠ (v162 : Value).ownBlock) v165 t164) ∧ Aside0 (Kd.R (Kd.int .i64) 3 w' w.heap.size (fun _ => True) u7 x7_1) ∧ Aside0 (Below w.heap.size w w'))
         case atStart => exact ⟨(0), (by first | rfl | (simp; done) | (simp [*]; done)), H', ⟨Nat.le_refl _⟩, ⟨Ru HO_5⟩, ⟨Ru HO_6⟩, ⟨Ru HO_7⟩, ⟨Bu HB⟩⟩
         case round =>
          clear H'
          try clear c1
          try clear p2
          try clear c12
          try clear c12b0
          try clear c14
          try clear c14b0
          try clear c15
          try clear p2
          obtain ⟨x12_4, rfl, HA, HK4, HO_5, HO_6, HO_7, HB⟩ := hrel
          cases gk with
          | zero => exact absurd HA.out (by simp [lanyardref04_Deflate.l2])
          | succ k4 =>
           have H := HA.out
           clear HA
           simp only [lanyardref04_Deflate.l2] at H
           refine (Classical.em (x12_4 < 258)).elim (fun c16 => ?a12_) (fun c16 => ?b12_)
           case' a12_ =>
            rw [if_pos c16] at H
            have c16b0 : decide (x12_4 < 258) = true := decide_eq_true c16
            clear c16
            refine (Classical.em ((wrap64 (x8_1 + x12_4)) < (l0.length : Int))).elim (fun c17 => ?a13_) (fun c17 => ?b13_)
            case' a13_ =>
             rw [if_pos c17] at H
             have c17b0 : decide ((wrap64 (x8_1 + x12_4)) < (l0.length : Int)) = true := decide_eq_true c17
             clear c17
             obtain ⟨ji18, hji18⟩ : ∃ j_ : Int, (wrap64 (x8_1 + x12_4)) = j_ := ⟨_, rfl⟩
             replace H : (if 0 ≤ (ji18) then (if 0 ≤ (wrap64 ((ji18) - x11_2)) then (if (wrap64 ((ji18) - x11_2)) < (l0.length : Int) then (if (rd l0 (ji18)) = (rd l0 (wrap64 ((ji18) - x11_2))) then (lanyardref04_Deflate.l2 k4 l0 t161 t164 x7_1 x8_1 x9_2 x10_2 x11_2 (wrap64 (x12_4 + 1))) else (if x12_4 > x9_2 then (lanyardref04_Deflate.l1 k4 l0 t161 t164 x7_1 x8_1 x12_4 x11_2 (wrap64 (x11_2 + 1))) else (lanyardref04_Deflate.l1 k4 l0 t161 t164 x7_1 x8_1 x9_2 x10_2 (wrap64 (x11_2 + 1))))) else (none)) else (none)) else (none)) = some r := by first | (rw [hji18] at H; exact H) | (simp only [hji18] at H ⊢; exact H)
             (try rw [hji18] at c17b0)
             have hji18w : (IntKind.i64.wrap (x8_1 + x12_4)) = ji18 := (i64_w _).trans hji18
             refine (Classical.em (0 ≤ (ji18))).elim (fun c19 => ?a14_) (fun c19 => ?b14_)
             case' a14_ =>
              rw [if_pos c19] at H
              have c19b0 : decide (0 ≤ (ji18)) = true := decide_eq_true c19
              clear c19
              obtain ⟨ji20, hji20⟩ : ∃ j_ : Int, (wrap64 ((ji18) - x11_2)) = j_ := ⟨_, rfl⟩
              replace H : (if 0 ≤ (ji20) then (if (ji20) < (l0.length : Int) then (if (rd l0 (ji18)) = (rd l0 (ji20)) then (lanyardref04_Deflate.l2 k4 l0 t161 t164 x7_1 x8_1 x9_2 x10_2 x11_2 (wrap64 (x12_4 + 1))) else (if x12_4 > x9_2 then (lanyardref04_Deflate.l1 k4 l0 t161 t164 x7_1 x8_1 x12_4 x11_2 (wrap64 (x11_2 + 1))) else (lanyardref04_Deflate.l1 k4 l0 t161 t164 x7_1 x8_1 x9_2 x10_2 (wrap64 (x11_2 + 1))))) else (none)) else (none)) = some r := by first | (rw [hji20] at H; exact H) | (simp only [hji20] at H ⊢; exact H)
              have hji20w : (IntKind.i64.wrap ((ji18) - x11_2)) = ji20 := (i64_w _).trans hji20
              refine (Classical.em (0 ≤ (ji20))).elim (fun c21 => ?a15_) (fun c21 => ?b15_)
              case' a15_ =>
               rw [if_pos c21] at H
               have c21b0 : decide (0 ≤ (ji20)) = true := decide_eq_true c21
               clear c21
               refine (Classical.em ((ji20) < (l0.length : Int))).elim (fun c22 => ?a16_) (fun c22 => ?b16_)
               case' a16_ =>
                rw [if_pos c22] at H
                have c22b0 : decide ((ji20) < (l0.length : Int)) = true := decide_eq_true c22
                clear c22
                refine (Classical.em ((rd l0 (ji18)) = (rd l0 (ji20)))).elim (fun c23 => ?a17_) (fun c23 => ?b17_)
                case' a17_ =>
                 rw [if_pos c23] at H
                 have c23b0 : ((rd l0 (ji18)) == (rd l0 (ji20))) = true := beq_iff_eq.mpr c23
                 have c23b1 : ((rd l0 (ji18)) != (rd l0 (ji20))) = false := bne_eq_false_iff_eq.mpr c23
                 clear c23
                 have H' := Aside0.mk H
                 clear H
                 have p177 : 0 ≤ ((ji18) : Int) := of_decide_eq_true (by first | (with_reducible assumption) | assumption)
                 have q177 : (ji18) < (l0.length : Int) := of_decide_eq_true (by first | (with_reducible assumption) | assumption)
                 obtain ⟨ad177, e177, hx177_0⟩ := Kd.at_int HR0.out (ji18) p177 q177
                 cases e177
                 replace hx177_0 := (HB.out.cell (World.block_lt_of_cell? w _ hx177_0)).trans hx177_0
                 replace p177 := eq_true p177
                 replace q177 := eq_true q177
                 have p178 : 0 ≤ ((ji20) : Int) := of_decide_eq_true (by first | (with_reducible assumption) | assumption)
                 have q178 : (ji20) < (l0.length : Int) := of_decide_eq_true (by first | (with_reducible assumption) | assumption)
                 obtain ⟨ad178, e178, hx178_0⟩ := Kd.at_int HR0.out (ji20) p178 q178
                 obtain rfl : ad177 = ad178 := (by injection e178)
                 replace hx178_0 := (HB.out.cell (World.block_lt_of_cell? w _ hx178_0)).trans hx178_0
                 replace p178 := eq_true p178
                 replace q178 := eq_true q178
                 go_wp2
                 repeat (go_quiet (fail); try go_wp2)
                 go_roundg k4
                 case measure => have := HK1.out; have := HK2.out; have := HJ12.out; have := HK4.out; omega
                 case rel => exact ⟨(wrap64 (x12_4 + 1)), (by first | rfl | (simp; done) | (simp [*]; done)), H', ⟨by have := HK1.out; have := HK2.out; have := HJ12.out; have := HK4.out; omega⟩, ⟨Ru HO_5⟩, ⟨Ru HO_6⟩, ⟨Ru HO_7⟩, ⟨Bu HB⟩⟩
                case' b17_ =>
                 rw [if_neg c23] at H
                 have c23b0 : ((rd l0 (ji18)) == (rd l0 (ji20))) = false := beq_eq_false_iff_ne.mpr c23
                 have c23b1 : ((rd l0 (ji18)) != (rd l0 (ji20))) = true := bne_iff_ne.mpr c23
                 refine (Classical.em (x12_4 > x9_2)).elim (fun c24 => ?a18_) (fun c24 => ?b18_)
                 case' a18_ =>
                  rw [if_pos c24] at H
                  have c24b0 : decide (x9_2 < x12_4) = true := decide_eq_true c24
                  clear c24
                  have H' := Aside0.mk H
                  clear H
                  have p177 : 0 ≤ ((ji18) : Int) := of_decide_eq_true (by first | (with_reducible assumption) | assumption)
                  have q177 : (ji18) < (l0.length : Int) := of_decide_eq_true (by first | (with_reducible assumption) | assumption)
                  obtain ⟨ad177, e177, hx177_0⟩ := Kd.at_int HR0.out (ji18) p177 q177
                  cases e177
                  replace hx177_0 := (HB.out.cell (World.block_lt_of_cell? w _ hx177_0)).trans hx177_0
                  replace p177 := eq_true p177
                  replace q177 := eq_true q177
                  have p178 : 0 ≤ ((ji20) : Int) := of_decide_eq_true (by first | (with_reducible assumption) | assumption)
                  have q178 : (ji20) < (l0.length : Int) := of_decide_eq_true (by first | (with_reducible assumption) | assumption)
                  obtain ⟨ad178, e178, hx178_0⟩ := Kd.at_int HR0.out (ji20) p178 q178
                  obtain rfl : ad177 = ad178 := (by injection e178)
                  replace hx178_0 := (HB.out.cell (World.block_lt_of_cell? w _ hx178_0)).trans hx178_0
                  replace p178 := eq_true p178
                  replace q178 := eq_true q178
                 case' b18_ =>
                  rw [if_neg c24] at H
                  have c24b0 : decide (x9_2 < x12_4) = false := decide_eq_false c24
                  clear c24
                  have H' := Aside0.mk H
                  clear H
                  have p177 : 0 ≤ ((ji18) : Int) := of_decide_eq_true (by first | (with_reducible assumption) | assumption)
                  have q177 : (ji18) < (l0.length : Int) := of_decide_eq_true (by first | (with_reducible assumption) | assumption)
                  obtain ⟨ad177, e177, hx177_0⟩ := Kd.at_int HR0.out (ji18) p177 q177
                  cases e177
                  replace hx177_0 := (HB.out.cell (World.block_lt_of_cell? w _ hx177_0)).trans hx177_0
                  replace p177 := eq_true p177
                  replace q177 := eq_true q177
                  have p178 : 0 ≤ ((ji20) : Int) := of_decide_eq_true (by first | (with_reducible assumption) | assumption)
                  have q178 : (ji20) < (l0.length : Int) := of_decide_eq_true (by first | (with_reducible assumption) | assumption)
                  obtain ⟨ad178, e178, hx178_0⟩ := Kd.at_int HR0.out (ji20) p178 q178
                  obtain rfl : ad177 = ad178 := (by injection e178)
                  replace hx178_0 := (HB.out.cell (World.block_lt_of_cell? w _ hx178_0)).trans hx178_0
                  replace p178 := eq_true p178
                  replace q178 := eq_true q178
               case' b16_ =>
                rw [if_neg c22] at H
                exact absurd H (by simp)
              case' b15_ =>
               rw [if_neg c21] at H
               exact absurd H (by simp)
             case' b14_ =>
              rw [if_neg c19] at H
              exact absurd H (by simp)
            case' b13_ =>
             rw [if_neg c17] at H
             have c17b0 : decide ((wrap64 (x8_1 + x12_4)) < (l0.length : Int)) = false := decide_eq_false c17
             clear c17
             refine (Classical.em (x12_4 > x9_2)).elim (fun c25 => ?a19_) (fun c25 => ?b19_)
             case' a19_ =>
              rw [if_pos c25] at H
              have c25b0 : decide (x9_2 < x12_4) = true := decide_eq_true c25
              clear c25
              have H' := Aside0.mk H
              clear H
             case' b19_ =>
              rw [if_neg c25] at H
              have c25b0 : decide (x9_2 < x12_4) = false := decide_eq_false c25
              clear c25
              have H' := Aside0.mk H
              clear H
           case' b12_ =>
            rw [if_neg c16] at H
            have c16b0 : decide (x12_4 < 258) = false := decide_eq_false c16
            clear c16
            refine (Classical.em (x12_4 > x9_2)).elim (fun c26 => ?a20_) (fun c26 => ?b20_)
            case' a20_ =>
             rw [if_pos c26] at H
             have c26b0 : decide (x9_2 < x12_4) = true := decide_eq_true c26
             clear c26
             have H' := Aside0.mk H
             clear H
            case' b20_ =>
             rw [if_neg c26] at H
             have c26b0 : decide (x9_2 < x12_4) = false := decide_eq_false c26
             clear c26
             have H' := Aside0.mk H
             clear H
           case a18_ | a19_ | a20_ =>
            go_wp2
            repeat (go_quiet (fail); try go_wp2)
            go_roundg k4
            case measure => have := HK1.out; have := HK2.out; have := HJ12.out; have := HK4.out; omega
            case rel => exact ⟨(x12_4), (x11_2), (wrap64 (x11_2 + 1)), (by first | rfl | (simp; done) | (simp [*]; done)), (by first | rfl | (simp; done) | (simp [*]; done)), (by first | rfl | (simp; done) | (simp [*]; done)), H', ⟨by have := HK1.out; have := HK2.out; have := HJ12.out; have := HK4.out; omega⟩, ⟨Ru HO_5⟩, ⟨Ru HO_6⟩, ⟨Ru HO_7⟩, ⟨Bu HB⟩⟩
           case b18_ | b19_ | b20_ =>
            go_wp2
            repeat (go_quiet (fail); try go_wp2)
            go_roundg k4
            case measure => have := HK1.out; have := HK2.out; have := HJ12.out; have := HK4.out; omega
            case rel => exact ⟨(x9_2), (x10_2), (wrap64 (x11_2 + 1)), (by first | rfl | (simp; done) | (simp [*]; done)), (by first | rfl | (simp; done) | (simp [*]; done)), (by first | rfl | (simp; done) | (simp [*]; done)), H', ⟨by have := HK1.out; have := HK2.out; have := HJ12.out; have := HK4.out; omega⟩, ⟨Ru HO_5⟩, ⟨Ru HO_6⟩, ⟨Ru HO_7⟩, ⟨Bu HB⟩⟩
        ·replace c15 := Bool.eq_false_iff.mpr c15
         subst c15
         have H1 : (if x9_2 < 3 then (if 0 ≤ x8_1 then (if x8_1 < (l0.length : Int) then (if 0 ≤ (rd l0 x8_1) then (if (rd l0 x8_1) < (t161.length : Int) then ((lanyardref04_word.f kj12 x7_1 ((rd_T52 t161 (rd l0 x8_1)).f0) ((rd_T52 t161 (rd l0 x8_1)).f1)).bind fun t181 => (lanyardref04_Deflate.l0 kj12 l0 t161 t164 t181 (wrap64 (x8_1 + 1)))) else (none)) else (none)) else (none)) else (none)) else (lanyardref04_Deflate.l3 kj12 l0 t161 t164 x7_1 x8_1 x9_2 x10_2 257)) = some r := by rw [if_neg (show ¬ (false = true) by decide)] at H; exact H
         clear H
         have H := H1
         clear H1
         by_cases c27 : x9_2 < 3
         ·rw [if_pos c27] at H
          have c27b0 : decide (x9_2 < 3) = true := decide_eq_true c27
          clear c27
          by_cases c28 : 0 ≤ x8_1
          ·rw [if_pos c28] at H
           have c28b0 : decide (0 ≤ x8_1) = true := decide_eq_true c28
           clear c28
           by_cases c29 : x8_1 < (l0.length : Int)
           ·rw [if_pos c29] at H
            have c29b0 : decide (x8_1 < (l0.length : Int)) = true := decide_eq_true c29
            clear c29
            by_cases c30 : 0 ≤ (rd l0 x8_1)
            ·rw [if_pos c30] at H
             have c30b0 : decide (0 ≤ (rd l0 x8_1)) = true := decide_eq_true c30
             clear c30
             by_cases c31 : (rd l0 x8_1) < (t161.length : Int)
             ·rw [if_pos c31] at H
              have c31b0 : decide ((rd l0 x8_1) < (t161.length : Int)) = true := decide_eq_true c31
              clear c31
              replace H := Option.bind_eq_some_iff.mp H
              obtain ⟨t181, A320, H⟩ := H
              replace H : (lanyardref04_Deflate.l0 kj12 l0 t161 t164 t181 (wrap64 (x8_1 + 1))) = some r := H
              have A32 := Aside0.mk A320
              clear A320
              have H' := Aside0.mk H
              clear H
              have p179 : 0 ≤ (x8_1 : Int) := of_decide_eq_true (by first | (with_reducible assumption) | assumption)
              have q179 : x8_1 < (l0.length : Int) := of_decide_eq_true (by first | (with_reducible assumption) | assumption)
              obtain ⟨ad179, e179, hx179_0⟩ := Kd.at_int HR0.out x8_1 p179 q179
              cases e179
              replace hx179_0 := (HB.out.cell (World.block_lt_of_cell? w _ hx179_0)).trans hx179_0
              replace p179 := eq_true p179
              replace q179 := eq_true q179
              obtain ⟨Ao33, co33, eo33⟩ := Kd.R_slice HO_5.out
              subst eo33
              have p180 : 0 ≤ ((rd l0 x8_1) : Int) := of_decide_eq_true (by first | (with_reducible assumption) | assumption)
              have q180 : (rd l0 x8_1) < (t161.length : Int) := of_decide_eq_true (by first | (with_reducible assumption) | assumption)
              obtain ⟨ad180, e180, hx180_0, hx180_1⟩ := at_T52 (Kd.R_reads' HO_5.out).2.2 (rd l0 x8_1) p180 q180
              cases e180
              replace p180 := eq_true p180
              replace q180 := eq_true q180
              obtain ⟨Ao34, co34, eo34⟩ := Kd.R_slice HO_7.out
              subst eo34
              go_wp2_with (first | (go_at_call 23; (with_reducible refine (lanyardref04_word.calls kj12 (fun k_ => some k_ = (.slice Ao34 x7_1.length co34 : Value).ownBlock) (.slice Ao34 x7_1.length co34) x7_1 ((rd_T52 t161 (rd l0 x8_1)).f0) ((rd_T52 t161 (rd l0 x8_1)).f1) t181 w _ ?side1 ?side2 A32.out).mono ?_); (case side1 => repeat (first | (with_reducible first | exact HB.out | apply below_alloc | apply pw_below_drewN | apply below_drew1) | exact HB.out)); (case side2 => exact Kd.R_tight rfl HO_7.out); rintro e w35 ⟨v182, rfl, ho0, hb, hkp⟩; have n0_ := Aside0.mk (Kd.R_mono (ok' := fun k_ => some k_ ≠ (v165 : Value).ownBlock) (Kd.R_keptB ((Kd.R_apart' HO_5.out (Kd.R_typed HO_7.out) (by decide))) hkp (fun k_ hk_ hs_ => (hk_.2) hs_)) (fun k_ hk_ => hk_.1.1)); have n1_ := Aside0.mk (Kd.R_mono (ok' := fun k_ => some k_ ≠ (.slice (some ad180) t161.length co33 : Value).ownBlock) (Kd.R_keptB ((Kd.R_apart' HO_6.out (Kd.R_typed HO_7.out) (by decide))) hkp (fun k_ hk_ hs_ => (hk_.2) hs_)) (fun k_ hk_ => hk_.1.1)); have n2_ := Aside0.mk (Kd.R_mono (ok' := fun k_ => True) ho0 (fun k_ hk_ => trivial)); have n3_ := Aside0.mk (hb); clear HO_5 HO_6 HB HO_7; revert n0_ n1_ n2_ n3_; intro HO_5 HO_6 HO183 HB; (try clear hb); (try clear hkp); (try clear ho0)))
              repeat (go_quiet (first | (go_at_call 23; (with_reducible refine (lanyardref04_word.calls kj12 (fun k_ => some k_ = (.slice Ao34 x7_1.length co34 : Value).ownBlock) (.slice Ao34 x7_1.length co34) x7_1 ((rd_T52 t161 (rd l0 x8_1)).f0) ((rd_T52 t161 (rd l0 x8_1)).f1) t181 w _ ?side1 ?side2 A32.out).mono ?_); (case side1 => repeat (first | (with_reducible first | exact HB.out | apply below_alloc | apply pw_below_drewN | apply below_drew1) | exact HB.out)); (case side2 => exact Kd.R_tight rfl HO_7.out); rintro e w35 ⟨v182, rfl, ho0, hb, hkp⟩; have n0_ := Aside0.mk (Kd.R_mono (ok' := fun k_ => some k_ ≠ (v165 : Value).ownBlock) (Kd.R_keptB ((Kd.R_apart' HO_5.out (Kd.R_typed HO_7.out) (by decide))) hkp (fun k_ hk_ hs_ => (hk_.2) hs_)) (fun k_ hk_ => hk_.1.1)); have n1_ := Aside0.mk (Kd.R_mono (ok' := fun k_ => some k_ ≠ (.slice (some ad180) t161.length co33 : Value).ownBlock) (Kd.R_keptB ((Kd.R_apart' HO_6.out (Kd.R_typed HO_7.out) (by decide))) hkp (fun k_ hk_ hs_ => (hk_.2) hs_)) (fun k_ hk_ => hk_.1.1)); have n2_ := Aside0.mk (Kd.R_mono (ok' := fun k_ => True) ho0 (fun k_ hk_ => trivial)); have n3_ := Aside0.mk (hb); clear HO_5 HO_6 HB HO_7; revert n0_ n1_ n2_ n3_; intro HO_5 HO_6 HO183 HB; (try clear hb); (try clear hkp); (try clear ho0))); try go_wp2_with (first | (go_at_call 23; (with_reducible refine (lanyardref04_word.calls kj12 (fun k_ => some k_ = (.slice Ao34 x7_1.length co34 : Value).ownBlock) (.slice Ao34 x7_1.length co34) x7_1 ((rd_T52 t161 (rd l0 x8_1)).f0) ((rd_T52 t161 (rd l0 x8_1)).f1) t181 w _ ?side1 ?side2 A32.out).mono ?_); (case side1 => repeat (first | (with_reducible first | exact HB.out | apply below_alloc | apply pw_below_drewN | apply below_drew1) | exact HB.out)); (case side2 => exact Kd.R_tight rfl HO_7.out); rintro e w35 ⟨v182, rfl, ho0, hb, hkp⟩; have n0_ := Aside0.mk (Kd.R_mono (ok' := fun k_ => some k_ ≠ (v165 : Value).ownBlock) (Kd.R_keptB ((Kd.R_apart' HO_5.out (Kd.R_typed HO_7.out) (by decide))) hkp (fun k_ hk_ hs_ => (hk_.2) hs_)) (fun k_ hk_ => hk_.1.1)); have n1_ := Aside0.mk (Kd.R_mono (ok' := fun k_ => some k_ ≠ (.slice (some ad180) t161.length co33 : Value).ownBlock) (Kd.R_keptB ((Kd.R_apart' HO_6.out (Kd.R_typed HO_7.out) (by decide))) hkp (fun k_ hk_ hs_ => (hk_.2) hs_)) (fun k_ hk_ => hk_.1.1)); have n2_ := Aside0.mk (Kd.R_mono (ok' := fun k_ => True) ho0 (fun k_ hk_ => trivial)); have n3_ := Aside0.mk (hb); clear HO_5 HO_6 HB HO_7; revert n0_ n1_ n2_ n3_; intro HO_5 HO_6 HO183 HB; (try clear hb); (try clear hkp); (try clear ho0))))
              go_roundg kj12
              case measure => have := HK1.out; have := HK2.out; have := HJ12.out; omega
              case rel => exact ⟨(t181), (wrap64 (x8_1 + 1)), (by first | rfl | (simp; done) | (simp [*]; done)), H', ⟨by have := HK1.out; have := HK2.out; have := HJ12.out; omega⟩, ⟨Ru HO_5⟩, ⟨Ru HO_6⟩, ⟨Ru HO183⟩, ⟨Bu HB⟩⟩
             ·rw [if_neg c31] at H
              exact absurd H (by simp)
            ·rw [if_neg c30] at H
             exact absurd H (by simp)
           ·rw [if_neg c29] at H
            exact absurd H (by simp)
          ·rw [if_neg c28] at H
           exact absurd H (by simp)
         ·rw [if_neg c27] at H
          have c27b0 : decide (x9_2 < 3) = false := decide_eq_false c27
          clear c27
          have HC36 := Aside0.mk H
          clear H
          go_upto_block 6 with (fail)
          repeat (go_quiet (fail); go_upto_block 6 with (fail))
          go_cut [13] (fun v13 wc => ∃ (kq : Nat) (x13_35 : Int), v13 = .int .i64 x13_35 ∧ Aside0 (lanyardref04_Deflate.j5 kq l0 t161 t164 x7_1 x8_1 x9_2 x10_2 x13_35 = some r) ∧ Aside0 (kq ≤ kj12) ∧ Aside0 (Kd.R k52 52 wc w.heap.size (fun k_ => some k_ ≠ (v165 : Value).ownBlock) v162 t161) ∧ Aside0 (Kd.R k52 52 wc w.heap.size (fun k_ => some k_ ≠ (v162 : Value).ownBlock) v165 t164) ∧ Aside0 (Kd.R (Kd.int .i64) 3 wc w.heap.size (fun _ => True) u7 x7_1) ∧ Aside0 (Below w.heap.size w wc))
          case first =>
           have H := HC36.out
           clear HC36
           have H' := Aside0.mk H
           clear H
           go_wp2
           repeat (go_quiet (fail); try go_wp2)
           go_loopg [13] kj12 (fun kq v13 w' => ∃ (x13_4 : Int), v13 = .int .i64 x13_4 ∧ Aside0 (lanyardref04_Deflate.l3 kq l0 t161 t164 x7_1 x8_1 x9_2 x10_2 x13_4 = some r) ∧ Aside0 (kq ≤ kj12) ∧ Aside0 (Kd.R k52 52 w' w.heap.size (fun k_ => some k_ ≠ (v165 : Value).ownBlock) v162 t161) ∧ Aside0 (Kd.R k52 52 w' w.heap.size (fun k_ => some k_ ≠ (v162 : Value).ownBlock) v165 t164) ∧ Aside0 (Kd.R (Kd.int .i64) 3 w' w.heap.size (fun _ => True) u7 x7_1) ∧ Aside0 (Below w.heap.size w w'))
           case atStart => exact ⟨(257), (by first | rfl | (simp; done) | (simp [*]; done)), H', ⟨Nat.le_refl _⟩, ⟨Ru HO_5⟩, ⟨Ru HO_6⟩, ⟨Ru HO_7⟩, ⟨Bu HB⟩⟩
           case round =>
            clear H'
            try clear c1
            try clear p1
            try clear q1
            try clear hx1
            try clear c2
            try clear p2
            try clear c3
            try clear p6
            try clear c12
            try clear c12b0
            try clear c14
            try clear c14b0
            try clear c15
            try clear c16
            try clear c16b0
            try clear c17
            try clear c17b0
            try clear p17
            try clear q17
            try clear hx17
            try clear p18
            try clear q18
            try clear hx18
            try clear c19
            try clear c19b0
            try clear c21
            try clear c21b0
            try clear c22
            try clear c22b0
            try clear c23
            try clear c23b0
            try clear c23b1
            try clear c24
            try clear c24b0
            try clear c25
            try clear c25b0
            try clear c26
            try clear c26b0
            try clear c27
            try clear c27b0
            try clear c28
            try clear c28b0
            try clear c29
            try clear c29b0
            try clear c30
            try clear c30b0
            try clear c31
            try clear c31b0
            try clear hx177_0
            try clear hx178_0
            try clear hx179_0
            try clear hx180_0
            try clear hx180_1
            try clear p177
            try clear p178
            try clear p179
            try clear p180
            try clear p2
            try clear q177
            try clear q178
            try clear q179
            try clear q180
            obtain ⟨x13_4, rfl, HA, HK4, HO_5, HO_6, HO_7, HB⟩ := hrel
            cases gk with
            | zero => exact absurd HA.out (by simp [lanyardref04_Deflate.l3])
            | succ k4 =>
             have H := HA.out
             clear HA
             simp only [lanyardref04_Deflate.l3] at H
             by_cases c37 : x13_4 < 285
             ·rw [if_pos c37] at H
              have c37b0 : decide (x13_4 < 285) = true := decide_eq_true c37
              clear c37
              (first | rw [c37b0] | (simp only [i64_w, i32_w]; rw [c37b0]) | skip)
              replace H := Option.bind_eq_some_iff.mp H
              obtain ⟨⟨t184, t185⟩, A380, H⟩ := H
              replace H : (if t184 > x9_2 then (lanyardref04_Deflate.j5 k4 l0 t161 t164 x7_1 x8_1 x9_2 x10_2 x13_4) else (lanyardref04_Deflate.l3 k4 l0 t161 t164 x7_1 x8_1 x9_2 x10_2 (wrap64 (x13_4 + 1)))) = some r := H
              have A38 := Aside0.mk A380
              clear A380
              by_cases c39 : t184 > x9_2
              ·rw [if_pos c39] at H
               have c39b0 : decide (x9_2 < t184) = true := decide_eq_true c39
               clear c39
               have H' := Aside0.mk H
               clear H
               go_wp2_with (first | (go_at_call 24; (with_reducible refine (lanyardref04_least.calls (wrap64 (x13_4 + 1)) t184 t185 _ A38.out).mono ?_); rintro e w40 ⟨rfl, hb⟩; have n0_ := Rb HO_5 hb; have n1_ := Rb HO_6 hb; have n2_ := Rb HO_7 hb; have n3_ := Bs HB hb; clear HO_5 HO_6 HO_7 HB; revert n0_ n1_ n2_ n3_; intro HO_5 HO_6 HO_7 HB; (try clear hb); (try clear hb2); (try clear hk); (try clear hi)))
               repeat (go_quiet (first | (go_at_call 24; (with_reducible refine (lanyardref04_least.calls (wrap64 (x13_4 + 1)) t184 t185 _ A38.out).mono ?_); rintro e w40 ⟨rfl, hb⟩; have n0_ := Rb HO_5 hb; have n1_ := Rb HO_6 hb; have n2_ := Rb HO_7 hb; have n3_ := Bs HB hb; clear HO_5 HO_6 HO_7 HB; revert n0_ n1_ n2_ n3_; intro HO_5 HO_6 HO_7 HB; (try clear hb); (try clear hb2); (try clear hk); (try clear hi))); try go_wp2_with (first | (go_at_call 24; (with_reducible refine (lanyardref04_least.calls (wrap64 (x13_4 + 1)) t184 t185 _ A38.out).mono ?_); rintro e w40 ⟨rfl, hb⟩; have n0_ := Rb HO_5 hb; have n1_ := Rb HO_6 hb; have n2_ := Rb HO_7 hb; have n3_ := Bs HB hb; clear HO_5 HO_6 HO_7 HB; revert n0_ n1_ n2_ n3_; intro HO_5 HO_6 HO_7 HB; (try clear hb); (try clear hb2); (try clear hk); (try clear hi))))
               go_meet
               case rel => exact ⟨_, (x13_4), (by first | rfl | (simp; done) | (simp [*]; done)), H', ⟨by have := HK1.out; have := HK2.out; have := HJ12.out; have := HK4.out; first | omega | exact Nat.le_refl _⟩, ⟨Ru HO_5⟩, ⟨Ru HO_6⟩, ⟨Ru HO_7⟩, ⟨Bu HB⟩⟩
              ·rw [if_neg c39] at H
               have c39b0 : decide (x9_2 < t184) = false := decide_eq_false c39
               clear c39
               have H' := Aside0.mk H
               clear H
               go_wp2_with (first | (go_at_call 24; (with_reducible refine (lanyardref04_least.calls (wrap64 (x13_4 + 1)) t184 t185 _ A38.out).mono ?_); rintro e w41 ⟨rfl, hb⟩; have n0_ := Rb HO_5 hb; have n1_ := Rb HO_6 hb; have n2_ := Rb HO_7 hb; have n3_ := Bs HB hb; clear HO_5 HO_6 HO_7 HB; revert n0_ n1_ n2_ n3_; intro HO_5 HO_6 HO_7 HB; (try clear hb); (try clear hb2); (try clear hk); (try clear hi)))
               repeat (go_quiet (first | (go_at_call 24; (with_reducible refine (lanyardref04_least.calls (wrap64 (x13_4 + 1)) t184 t185 _ A38.out).mono ?_); rintro e w41 ⟨rfl, hb⟩; have n0_ := Rb HO_5 hb; have n1_ := Rb HO_6 hb; have n2_ := Rb HO_7 hb; have n3_ := Bs HB hb; clear HO_5 HO_6 HO_7 HB; revert n0_ n1_ n2_ n3_; intro HO_5 HO_6 HO_7 HB; (try clear hb); (try clear hb2); (try clear hk); (try clear hi))); try go_wp2_with (first | (go_at_call 24; (with_reducible refine (lanyardref04_least.calls (wrap64 (x13_4 + 1)) t184 t185 _ A38.out).mono ?_); rintro e w41 ⟨rfl, hb⟩; have n0_ := Rb HO_5 hb; have n1_ := Rb HO_6 hb; have n2_ := Rb HO_7 hb; have n3_ := Bs HB hb; clear HO_5 HO_6 HO_7 HB; revert n0_ n1_ n2_ n3_; intro HO_5 HO_6 HO_7 HB; (try clear hb); (try clear hb2); (try clear hk); (try clear hi))))
               go_roundg k4
               case measure => have := HK1.out; have := HK2.out; have := HJ12.out; have := HK4.out; omega
               case rel => exact ⟨(wrap64 (x13_4 + 1)), (by first | rfl | (simp; done) | (simp [*]; done)), H', ⟨by have := HK1.out; have := HK2.out; have := HJ12.out; have := HK4.out; omega⟩, ⟨Ru HO_5⟩, ⟨Ru HO_6⟩, ⟨Ru HO_7⟩, ⟨Bu HB⟩⟩
             ·rw [if_neg c37] at H
              have c37b0 : decide (x13_4 < 285) = false := decide_eq_false c37
              clear c37
              (first | rw [c37b0] | (simp only [i64_w, i32_w]; rw [c37b0]) | skip)
              have H' := Aside0.mk H
              clear H
              go_wp2
              repeat (go_quiet (fail); try go_wp2)
              go_meet
              case rel => exact ⟨_, (x13_4), (by first | rfl | (simp; done) | (simp [*]; done)), H', ⟨by have := HK1.out; have := HK2.out; have := HJ12.out; have := HK4.out; first | omega | exact Nat.le_refl _⟩, ⟨Ru HO_5⟩, ⟨Ru HO_6⟩, ⟨Ru HO_7⟩, ⟨Bu HB⟩⟩
          case rest =>
           clear HC36
           try clear c1
           try clear p1
           try clear q1
           try clear hx1
           try clear c2
           try clear p2
           try clear c3
           try clear p6
           try clear c12
           try clear c12b0
           try clear c14
           try clear c14b0
           try clear c15
           try clear c16
           try clear c16b0
           try clear c17
           try clear c17b0
           try clear p17
           try clear q17
           try clear hx17
           try clear p18
           try clear q18
           try clear hx18
           try clear c19
           try clear c19b0
           try clear c21
           try clear c21b0
           try clear c22
           try clear c22b0
           try clear c23
           try clear c23b0
           try clear c23b1
           try clear c24
           try clear c24b0
           try clear c25
           try clear c25b0
           try clear c26
           try clear c26b0
           try clear c27
           try clear c27b0
           try clear c28
           try clear c28b0
           try clear c29
           try clear c29b0
           try clear c30
           try clear c30b0
           try clear c31
           try clear c31b0
           try clear c37
           try clear c37b0
           try clear c39
           try clear c39b0
           try clear hx177_0
           try clear hx178_0
           try clear hx179_0
           try clear hx180_0
           try clear hx180_1
           try clear p1
           try clear p17
           try clear p177
           try clear p178
           try clear p179
           try clear p18
           try clear p180
           try clear p2
           try clear p6
           try clear q1
           try clear q17
           try clear q177
           try clear q178
           try clear q179
           try clear q18
           try clear q180
           obtain ⟨kq, x13_35, rfl, HA, HJ35, HO_5, HO_6, HO_7, HB⟩ := hcut
           cases kq with
           | zero => exact absurd HA.out (by simp [lanyardref04_Deflate.j5])
           | succ kj35 =>
            have H := HA.out
            clear HA
            simp only [lanyardref04_Deflate.j5] at H
            replace H := Option.bind_eq_some_iff.mp H
            obtain ⟨⟨t186, t187⟩, A420, H⟩ := H
            replace H : (if 0 ≤ x13_35 then (if x13_35 < (t161.length : Int) then ((lanyardref04_word.f kj35 x7_1 ((rd_T52 t161 x13_35).f0) ((rd_T52 t161 x13_35).f1)).bind fun t189 => ((lanyardref04_num.f kj35 t189 (wrap64 (x9_2 - t186)) t187).bind fun t192 => (lanyardref04_Deflate.l4 kj35 l0 t161 t164 t192 x8_1 x9_2 x10_2 0))) else (none)) else (none)) = some r := H
            have A42 := Aside0.mk A420
            clear A420
            by_cases c43 : 0 ≤ x13_35
            ·rw [if_pos c43] at H
             have c43b0 : decide (0 ≤ x13_35) = true := decide_eq_true c43
             clear c43
             by_cases c44 : x13_35 < (t161.length : Int)
             ·rw [if_pos c44] at H
              have c44b0 : decide (x13_35 < (t161.length : Int)) = true := decide_eq_true c44
              clear c44
              replace H := Option.bind_eq_some_iff.mp H
              obtain ⟨t189, A450, H⟩ := H
              replace H : ((lanyardref04_num.f kj35 t189 (wrap64 (x9_2 - t186)) t187).bind fun t192 => (lanyardref04_Deflate.l4 kj35 l0 t161 t164 t192 x8_1 x9_2 x10_2 0)) = some r := H
              have A45 := Aside0.mk A450
              clear A450
              replace H := Option.bind_eq_some_iff.mp H
              obtain ⟨t192, A460, H⟩ := H
              replace H : (lanyardref04_Deflate.l4 kj35 l0 t161 t164 t192 x8_1 x9_2 x10_2 0) = some r := H
              have A46 := Aside0.mk A460
              clear A460
              have H' := Aside0.mk H
              clear H
              go_wp2_with (first | (go_at_call 24; (with_reducible refine (lanyardref04_least.calls x13_35 t186 t187 _ A42.out).mono ?_); rintro e w47 ⟨rfl, hb⟩; have n0_ := Rb HO_5 hb; have n1_ := Rb HO_6 hb; have n2_ := Rb HO_7 hb; have n3_ := Bs HB hb; clear HO_5 HO_6 HO_7 HB; revert n0_ n1_ n2_ n3_; intro HO_5 HO_6 HO_7 HB; (try clear hb); (try clear hb2); (try clear hk); (try clear hi); obtain ⟨Ao48, co48, eo48⟩ := Kd.R_slice HO_5.out; subst eo48; have p188 : 0 ≤ (x13_35 : Int) := of_decide_eq_true (by first | (with_reducible assumption) | assumption); have q188 : x13_35 < (t161.length : Int) := of_decide_eq_true (by first | (with_reducible assumption) | assumption); obtain ⟨ad188, e188, hx188_0, hx188_1⟩ := at_T52 (Kd.R_reads' HO_5.out).2.2 x13_35 p188 q188; cases e188; replace p188 := eq_true p188; replace q188 := eq_true q188; obtain ⟨Ao49, co49, eo49⟩ := Kd.R_slice HO_7.out; subst eo49) | (go_at_call 23; (with_reducible refine (lanyardref04_word.calls kj35 (fun k_ => some k_ = (.slice Ao49 x7_1.length co49 : Value).ownBlock) (.slice Ao49 x7_1.length co49) x7_1 ((rd_T52 t161 x13_35).f0) ((rd_T52 t161 x13_35).f1) t189 w _ ?side1 ?side2 A45.out).mono ?_); (case side1 => repeat (first | (with_reducible first | exact HB.out | apply below_alloc | apply pw_below_drewN | apply below_drew1) | exact HB.out)); (case side2 => exact Kd.R_tight rfl HO_7.out); rintro e w50 ⟨v190, rfl, ho0, hb, hkp⟩; have n0_ := Aside0.mk (Kd.R_mono (ok' := fun k_ => some k_ ≠ (v165 : Value).ownBlock) (Kd.R_keptB ((Kd.R_apart' HO_5.out (Kd.R_typed HO_7.out) (by decide))) hkp (fun k_ hk_ hs_ => (hk_.2) hs_)) (fun k_ hk_ => hk_.1.1)); have n1_ := Aside0.mk (Kd.R_mono (ok' := fun k_ => some k_ ≠ (.slice (some ad188) t161.length co48 : Value).ownBlock) (Kd.R_keptB ((Kd.R_apart' HO_6.out (Kd.R_typed HO_7.out) (by decide))) hkp (fun k_ hk_ hs_ => (hk_.2) hs_)) (fun k_ hk_ => hk_.1.1)); have n2_ := Aside0.mk (Kd.R_mono (ok' := fun k_ => True) ho0 (fun k_ hk_ => trivial)); have n3_ := Aside0.mk (hb); clear HO_5 HO_6 HB HO_7; revert n0_ n1_ n2_ n3_; intro HO_5 HO_6 HO191 HB; (try clear hb); (try clear hkp); (try clear ho0); obtain ⟨Ao51, co51, eo51⟩ := Kd.R_slice HO191.out; subst eo51) | (go_at_call 25; (with_reducible refine (lanyardref04_num.calls kj35 (fun k_ => some k_ = (.slice Ao51 t189.length co51 : Value).ownBlock) (.slice Ao51 t189.length co51) t189 (wrap64 (x9_2 - t186)) t187 t192 w _ ?side1 ?side2 A46.out).mono ?_); (case side1 => repeat (first | (with_reducible first | exact HB.out | apply below_alloc | apply pw_below_drewN | apply below_drew1) | exact HB.out)); (case side2 => exact Kd.R_tight rfl HO191.out); rintro e w52 ⟨v193, rfl, ho0, hb, hkp⟩; have n0_ := Aside0.mk (Kd.R_mono (ok' := fun k_ => some k_ ≠ (v165 : Value).ownBlock) (Kd.R_keptB ((Kd.R_apart' HO_5.out (Kd.R_typed HO191.out) (by decide))) hkp (fun k_ hk_ hs_ => (hk_.2) hs_)) (fun k_ hk_ => hk_.1.1)); have n1_ := Aside0.mk (Kd.R_mono (ok' := fun k_ => some k_ ≠ (.slice (some ad188) t161.length co48 : Value).ownBlock) (Kd.R_keptB ((Kd.R_apart' HO_6.out (Kd.R_typed HO191.out) (by decide))) hkp (fun k_ hk_ hs_ => (hk_.2) hs_)) (fun k_ hk_ => hk_.1.1)); have n2_ := Aside0.mk (Kd.R_mono (ok' := fun k_ => True) ho0 (fun k_ hk_ => trivial)); have n3_ := Aside0.mk (hb); clear HO_5 HO_6 HB HO191; revert n0_ n1_ n2_ n3_; intro HO_5 HO_6 HO194 HB; (try clear hb); (try clear hkp); (try clear ho0)))
              repeat (go_quiet (first | (go_at_call 24; (with_reducible refine (lanyardref04_least.calls x13_35 t186 t187 _ A42.out).mono ?_); rintro e w47 ⟨rfl, hb⟩; have n0_ := Rb HO_5 hb; have n1_ := Rb HO_6 hb; have n2_ := Rb HO_7 hb; have n3_ := Bs HB hb; clear HO_5 HO_6 HO_7 HB; revert n0_ n1_ n2_ n3_; intro HO_5 HO_6 HO_7 HB; (try clear hb); (try clear hb2); (try clear hk); (try clear hi); obtain ⟨Ao48, co48, eo48⟩ := Kd.R_slice HO_5.out; subst eo48; have p188 : 0 ≤ (x13_35 : Int) := of_decide_eq_true (by first | (with_reducible assumption) | assumption); have q188 : x13_35 < (t161.length : Int) := of_decide_eq_true (by first | (with_reducible assumption) | assumption); obtain ⟨ad188, e188, hx188_0, hx188_1⟩ := at_T52 (Kd.R_reads' HO_5.out).2.2 x13_35 p188 q188; cases e188; replace p188 := eq_true p188; replace q188 := eq_true q188; obtain ⟨Ao49, co49, eo49⟩ := Kd.R_slice HO_7.out; subst eo49) | (go_at_call 23; (with_reducible refine (lanyardref04_word.calls kj35 (fun k_ => some k_ = (.slice Ao49 x7_1.length co49 : Value).ownBlock) (.slice Ao49 x7_1.length co49) x7_1 ((rd_T52 t161 x13_35).f0) ((rd_T52 t161 x13_35).f1) t189 w _ ?side1 ?side2 A45.out).mono ?_); (case side1 => repeat (first | (with_reducible first | exact HB.out | apply below_alloc | apply pw_below_drewN | apply below_drew1) | exact HB.out)); (case side2 => exact Kd.R_tight rfl HO_7.out); rintro e w50 ⟨v190, rfl, ho0, hb, hkp⟩; have n0_ := Aside0.mk (Kd.R_mono (ok' := fun k_ => some k_ ≠ (v165 : Value).ownBlock) (Kd.R_keptB ((Kd.R_apart' HO_5.out (Kd.R_typed HO_7.out) (by decide))) hkp (fun k_ hk_ hs_ => (hk_.2) hs_)) (fun k_ hk_ => hk_.1.1)); have n1_ := Aside0.mk (Kd.R_mono (ok' := fun k_ => some k_ ≠ (.slice (some ad188) t161.length co48 : Value).ownBlock) (Kd.R_keptB ((Kd.R_apart' HO_6.out (Kd.R_typed HO_7.out) (by decide))) hkp (fun k_ hk_ hs_ => (hk_.2) hs_)) (fun k_ hk_ => hk_.1.1)); have n2_ := Aside0.mk (Kd.R_mono (ok' := fun k_ => True) ho0 (fun k_ hk_ => trivial)); have n3_ := Aside0.mk (hb); clear HO_5 HO_6 HB HO_7; revert n0_ n1_ n2_ n3_; intro HO_5 HO_6 HO191 HB; (try clear hb); (try clear hkp); (try clear ho0); obtain ⟨Ao51, co51, eo51⟩ := Kd.R_slice HO191.out; subst eo51) | (go_at_call 25; (with_reducible refine (lanyardref04_num.calls kj35 (fun k_ => some k_ = (.slice Ao51 t189.length co51 : Value).ownBlock) (.slice Ao51 t189.length co51) t189 (wrap64 (x9_2 - t186)) t187 t192 w _ ?side1 ?side2 A46.out).mono ?_); (case side1 => repeat (first | (with_reducible first | exact HB.out | apply below_alloc | apply pw_below_drewN | apply below_drew1) | exact HB.out)); (case side2 => exact Kd.R_tight rfl HO191.out); rintro e w52 ⟨v193, rfl, ho0, hb, hkp⟩; have n0_ := Aside0.mk (Kd.R_mono (ok' := fun k_ => some k_ ≠ (v165 : Value).ownBlock) (Kd.R_keptB ((Kd.R_apart' HO_5.out (Kd.R_typed HO191.out) (by decide))) hkp (fun k_ hk_ hs_ => (hk_.2) hs_)) (fun k_ hk_ => hk_.1.1)); have n1_ := Aside0.mk (Kd.R_mono (ok' := fun k_ => some k_ ≠ (.slice (some ad188) t161.length co48 : Value).ownBlock) (Kd.R_keptB ((Kd.R_apart' HO_6.out (Kd.R_typed HO191.out) (by decide))) hkp (fun k_ hk_ hs_ => (hk_.2) hs_)) (fun k_ hk_ => hk_.1.1)); have n2_ := Aside0.mk (Kd.R_mono (ok' := fun k_ => True) ho0 (fun k_ hk_ => trivial)); have n3_ := Aside0.mk (hb); clear HO_5 HO_6 HB HO191; revert n0_ n1_ n2_ n3_; intro HO_5 HO_6 HO194 HB; (try clear hb); (try clear hkp); (try clear ho0))); try go_wp2_with (first | (go_at_call 24; (with_reducible refine (lanyardref04_least.calls x13_35 t186 t187 _ A42.out).mono ?_); rintro e w47 ⟨rfl, hb⟩; have n0_ := Rb HO_5 hb; have n1_ := Rb HO_6 hb; have n2_ := Rb HO_7 hb; have n3_ := Bs HB hb; clear HO_5 HO_6 HO_7 HB; revert n0_ n1_ n2_ n3_; intro HO_5 HO_6 HO_7 HB; (try clear hb); (try clear hb2); (try clear hk); (try clear hi); obtain ⟨Ao48, co48, eo48⟩ := Kd.R_slice HO_5.out; subst eo48; have p188 : 0 ≤ (x13_35 : Int) := of_decide_eq_true (by first | (with_reducible assumption) | assumption); have q188 : x13_35 < (t161.length : Int) := of_decide_eq_true (by first | (with_reducible assumption) | assumption); obtain ⟨ad188, e188, hx188_0, hx188_1⟩ := at_T52 (Kd.R_reads' HO_5.out).2.2 x13_35 p188 q188; cases e188; replace p188 := eq_true p188; replace q188 := eq_true q188; obtain ⟨Ao49, co49, eo49⟩ := Kd.R_slice HO_7.out; subst eo49) | (go_at_call 23; (with_reducible refine (lanyardref04_word.calls kj35 (fun k_ => some k_ = (.slice Ao49 x7_1.length co49 : Value).ownBlock) (.slice Ao49 x7_1.length co49) x7_1 ((rd_T52 t161 x13_35).f0) ((rd_T52 t161 x13_35).f1) t189 w _ ?side1 ?side2 A45.out).mono ?_); (case side1 => repeat (first | (with_reducible first | exact HB.out | apply below_alloc | apply pw_below_drewN | apply below_drew1) | exact HB.out)); (case side2 => exact Kd.R_tight rfl HO_7.out); rintro e w50 ⟨v190, rfl, ho0, hb, hkp⟩; have n0_ := Aside0.mk (Kd.R_mono (ok' := fun k_ => some k_ ≠ (v165 : Value).ownBlock) (Kd.R_keptB ((Kd.R_apart' HO_5.out (Kd.R_typed HO_7.out) (by decide))) hkp (fun k_ hk_ hs_ => (hk_.2) hs_)) (fun k_ hk_ => hk_.1.1)); have n1_ := Aside0.mk (Kd.R_mono (ok' := fun k_ => some k_ ≠ (.slice (some ad188) t161.length co48 : Value).ownBlock) (Kd.R_keptB ((Kd.R_apart' HO_6.out (Kd.R_typed HO_7.out) (by decide))) hkp (fun k_ hk_ hs_ => (hk_.2) hs_)) (fun k_ hk_ => hk_.1.1)); have n2_ := Aside0.mk (Kd.R_mono (ok' := fun k_ => True) ho0 (fun k_ hk_ => trivial)); have n3_ := Aside0.mk (hb); clear HO_5 HO_6 HB HO_7; revert n0_ n1_ n2_ n3_; intro HO_5 HO_6 HO191 HB; (try clear hb); (try clear hkp); (try clear ho0); obtain ⟨Ao51, co51, eo51⟩ := Kd.R_slice HO191.out; subst eo51) | (go_at_call 25; (with_reducible refine (lanyardref04_num.calls kj35 (fun k_ => some k_ = (.slice Ao51 t189.length co51 : Value).ownBlock) (.slice Ao51 t189.length co51) t189 (wrap64 (x9_2 - t186)) t187 t192 w _ ?side1 ?side2 A46.out).mono ?_); (case side1 => repeat (first | (with_reducible first | exact HB.out | apply below_alloc | apply pw_below_drewN | apply below_drew1) | exact HB.out)); (case side2 => exact Kd.R_tight rfl HO191.out); rintro e w52 ⟨v193, rfl, ho0, hb, hkp⟩; have n0_ := Aside0.mk (Kd.R_mono (ok' := fun k_ => some k_ ≠ (v165 : Value).ownBlock) (Kd.R_keptB ((Kd.R_apart' HO_5.out (Kd.R_typed HO191.out) (by decide))) hkp (fun k_ hk_ hs_ => (hk_.2) hs_)) (fun k_ hk_ => hk_.1.1)); have n1_ := Aside0.mk (Kd.R_mono (ok' := fun k_ => some k_ ≠ (.slice (some ad188) t161.length co48 : Value).ownBlock) (Kd.R_keptB ((Kd.R_apart' HO_6.out (Kd.R_typed HO191.out) (by decide))) hkp (fun k_ hk_ hs_ => (hk_.2) hs_)) (fun k_ hk_ => hk_.1.1)); have n2_ := Aside0.mk (Kd.R_mono (ok' := fun k_ => True) ho0 (fun k_ hk_ => trivial)); have n3_ := Aside0.mk (hb); clear HO_5 HO_6 HB HO191; revert n0_ n1_ n2_ n3_; intro HO_5 HO_6 HO194 HB; (try clear hb); (try clear hkp); (try clear ho0))))
              go_loopg [18] kj35 (fun kq v18 w' => ∃ (x18_5 : Int), v18 = .int .i64 x18_5 ∧ Aside0 (lanyardref04_Deflate.l4 kq l0 t161 t164 t192 x8_1 x9_2 x10_2 x18_5 = some r) ∧ Aside0 (kq ≤ kj35) ∧ Aside0 (Kd.R k52 52 w' w.heap.size (fun k_ => some k_ ≠ (v165 : Value).ownBlock) (.slice (some ad188) t161.length co48) t161) ∧ Aside0 (Kd.R k52 52 w' w.heap.size (fun k_ => some k_ ≠ ((.slice (some ad188) t161.length co48) : Value).ownBlock) v165 t164) ∧ Aside0 (Kd.R (Kd.int .i64) 3 w' w.heap.size (fun _ => True) v193 t192) ∧ Aside0 (Below w.heap.size w w'))
              case atStart => exact ⟨(0), (by first | rfl | (simp; done) | (simp [*]; done)), H', ⟨Nat.le_refl _⟩, ⟨Ru HO_5⟩, ⟨Ru HO_6⟩, ⟨Ru HO194⟩, ⟨Bu HB⟩⟩
              case round =>
               clear H'
               try clear c1
               try clear p1
               try clear q1
               try clear hx1
               try clear c2
               try clear p2
               try clear c3
               try clear c4
               try clear p6
               try clear c12
               try clear c12b0
               try clear c14
               try clear c14b0
               try clear c15
               try clear c16
               try clear c16b0
               try clear c17
               try clear c17b0
               try clear p17
               try clear q17
               try clear hx17
               try clear p18
               try clear q18
               try clear hx18
               try clear c19
               try clear c19b0
               try clear c21
               try clear c21b0
               try clear c22
               try clear c22b0
               try clear c23
               try clear c23b0
               try clear c23b1
               try clear c24
               try clear c24b0
               try clear c25
               try clear c25b0
               try clear c26
               try clear c26b0
               try clear c27
               try clear c27b0
               try clear c28
               try clear c28b0
               try clear c29
               try clear c29b0
               try clear c30
               try clear c30b0
               try clear c31
               try clear c31b0
               try clear c37
               try clear c37b0
               try clear c39
               try clear c39b0
               try clear c43
               try clear c43b0
               try clear c44
               try clear c44b0
               try clear hx177_0
               try clear hx178_0
               try clear hx179_0
               try clear hx180_0
               try clear hx180_1
               try clear hx188_0
               try clear hx188_1
               try clear p1
               try clear p17
               try clear p177
               try clear p178
               try clear p179
               try clear p18
               try clear p180
               try clear p188
               try clear p2
               try clear p6
               try clear q1
               try clear q17
               try clear q177
               try clear q178
               try clear q179
               try clear q18
               try clear q180
               try clear q188
               obtain ⟨x18_5, rfl, HA, HK5, HO_5, HO_6, HO_7, HB⟩ := hrel
               cases gk with
               | zero => exact absurd HA.out (by simp [lanyardref04_Deflate.l4])
               | succ k5 =>
                have H := HA.out
                clear HA
                simp only [lanyardref04_Deflate.l4] at H
                by_cases c53 : x18_5 < 29
                ·rw [if_pos c53] at H
                 have c53b0 : decide (x18_5 < 29) = true := decide_eq_true c53
                 clear c53
                 replace H := Option.bind_eq_some_iff.mp H
                 obtain ⟨⟨t195, t196⟩, A540, H⟩ := H
                 replace H : (if t195 > x10_2 then ((lanyardref04_far.f x18_5).bind fun bt197 => (if 0 ≤ x18_5 then (if x18_5 < (t164.length : Int) then ((lanyardref04_word.f k5 t192 ((rd_T52 t164 x18_5).f0) ((rd_T52 t164 x18_5).f1)).bind fun t200 => ((lanyardref04_num.f k5 t200 (wrap64 (x10_2 - bt197.1)) bt197.2).bind fun t203 => (lanyardref04_Deflate.l0 k5 l0 t161 t164 t203 (wrap64 (x8_1 + x9_2))))) else (none)) else (none))) else (lanyardref04_Deflate.l4 k5 l0 t161 t164 t192 x8_1 x9_2 x10_2 (wrap64 (x18_5 + 1)))) = some r := H
                 have A54 := Aside0.mk A540
                 clear A540
                 by_cases c55 : t195 > x10_2
                 ·rw [if_pos c55] at H
                  have c55b0 : decide (x10_2 < t195) = true := decide_eq_true c55
                  clear c55
                  replace H := Option.bind_eq_some_iff.mp H
                  obtain ⟨⟨t197, t198⟩, A560, H⟩ := H
                  replace H : (if 0 ≤ x18_5 then (if x18_5 < (t164.length : Int) then ((lanyardref04_word.f k5 t192 ((rd_T52 t164 x18_5).f0) ((rd_T52 t164 x18_5).f1)).bind fun t200 => ((lanyardref04_num.f k5 t200 (wrap64 (x10_2 - t197)) t198).bind fun t203 => (lanyardref04_Deflate.l0 k5 l0 t161 t164 t203 (wrap64 (x8_1 + x9_2))))) else (none)) else (none)) = some r := H
                  have A56 := Aside0.mk A560
                  clear A560
                  by_cases c57 : 0 ≤ x18_5
                  ·rw [if_pos c57] at H
                   have c57b0 : decide (0 ≤ x18_5) = true := decide_eq_true c57
                   clear c57
                   by_cases c58 : x18_5 < (t164.length : Int)
                   ·rw [if_pos c58] at H
                    have c58b0 : decide (x18_5 < (t164.length : Int)) = true := decide_eq_true c58
                    clear c58
                    replace H := Option.bind_eq_some_iff.mp H
                    obtain ⟨t200, A590, H⟩ := H
                    replace H : ((lanyardref04_num.f k5 t200 (wrap64 (x10_2 - t197)) t198).bind fun t203 => (lanyardref04_Deflate.l0 k5 l0 t161 t164 t203 (wrap64 (x8_1 + x9_2)))) = some r := H
                    have A59 := Aside0.mk A590
                    clear A590
                    replace H := Option.bind_eq_some_iff.mp H
                    obtain ⟨t203, A600, H⟩ := H
                    replace H : (lanyardref04_Deflate.l0 k5 l0 t161 t164 t203 (wrap64 (x8_1 + x9_2))) = some r := H
                    have A60 := Aside0.mk A600
                    clear A600
                    have H' := Aside0.mk H
                    clear H
                    go_wp2_with (first | (go_at_call 26; (with_reducible refine (lanyardref04_far.calls (wrap64 (x18_5 + 1)) t195 t196 _ A54.out).mono ?_); rintro e w61 ⟨rfl, hb⟩; have n0_ := Rb HO_5 hb; have n1_ := Rb HO_6 hb; have n2_ := Rb HO_7 hb; have n3_ := Bs HB hb; clear HO_5 HO_6 HO_7 HB; revert n0_ n1_ n2_ n3_; intro HO_5 HO_6 HO_7 HB; (try clear hb); (try clear hb2); (try clear hk); (try clear hi)) | (go_at_call 26; (with_reducible refine (lanyardref04_far.calls x18_5 t197 t198 _ A56.out).mono ?_); rintro e w62 ⟨rfl, hb⟩; have n0_ := Rb HO_5 hb; have n1_ := Rb HO_6 hb; have n2_ := Rb HO_7 hb; have n3_ := Bs HB hb; clear HO_5 HO_6 HO_7 HB; revert n0_ n1_ n2_ n3_; intro HO_5 HO_6 HO_7 HB; (try clear hb); (try clear hb2); (try clear hk); (try clear hi); obtain ⟨Ao63, co63, eo63⟩ := Kd.R_slice HO_6.out; subst eo63; have p199 : 0 ≤ (x18_5 : Int) := of_decide_eq_true (by first | (with_reducible assumption) | assumption); have q199 : x18_5 < (t164.length : Int) := of_decide_eq_true (by first | (with_reducible assumption) | assumption); obtain ⟨ad199, e199, hx199_0, hx199_1⟩ := at_T52 (Kd.R_reads' HO_6.out).2.2 x18_5 p199 q199; cases e199; replace p199 := eq_true p199; replace q199 := eq_true q199; obtain ⟨Ao64, co64, eo64⟩ := Kd.R_slice HO_7.out; subst eo64) | (go_at_call 23; (with_reducible refine (lanyardref04_word.calls k5 (fun k_ => some k_ = (.slice Ao64 t192.length co64 : Value).ownBlock) (.slice Ao64 t192.length co64) t192 ((rd_T52 t164 x18_5).f0) ((rd_T52 t164 x18_5).f1) t200 w _ ?side1 ?side2 A59.out).mono ?_); (case side1 => repeat (first | (with_reducible first | exact HB.out | apply below_alloc | apply pw_below_drewN | apply below_drew1) | exact HB.out)); (case side2 => exact Kd.R_tight rfl HO_7.out); rintro e w65 ⟨v201, rfl, ho0, hb, hkp⟩; have n0_ := Aside0.mk (Kd.R_mono (ok' := fun k_ => some k_ ≠ (.slice (some ad199) t164.length co63 : Value).ownBlock) (Kd.R_keptB ((Kd.R_apart' HO_5.out (Kd.R_typed HO_7.out) (by decide))) hkp (fun k_ hk_ hs_ => (hk_.2) hs_)) (fun k_ hk_ => hk_.1.1)); have n1_ := Aside0.mk (Kd.R_mono (ok' := fun k_ => some k_ ≠ (.slice (some ad188) t161.length co48 : Value).ownBlock) (Kd.R_keptB ((Kd.R_apart' HO_6.out (Kd.R_typed HO_7.out) (by decide))) hkp (fun k_ hk_ hs_ => (hk_.2) hs_)) (fun k_ hk_ => hk_.1.1)); have n2_ := Aside0.mk (Kd.R_mono (ok' := fun k_ => True) ho0 (fun k_ hk_ => trivial)); have n3_ := Aside0.mk (hb); clear HO_5 HO_6 HB HO_7; revert n0_ n1_ n2_ n3_; intro HO_5 HO_6 HO202 HB; (try clear hb); (try clear hkp); (try clear ho0); obtain ⟨Ao66, co66, eo66⟩ := Kd.R_slice HO202.out; subst eo66) | (go_at_call 25; (with_reducible refine (lanyardref04_num.calls k5 (fun k_ => some k_ = (.slice Ao66 t200.length co66 : Value).ownBlock) (.slice Ao66 t200.length co66) t200 (wrap64 (x10_2 - t197)) t198 t203 w _ ?side1 ?side2 A60.out).mono ?_); (case side1 => repeat (first | (with_reducible first | exact HB.out | apply below_alloc | apply pw_below_drewN | apply below_drew1) | exact HB.out)); (case side2 => exact Kd.R_tight rfl HO202.out); rintro e w67 ⟨v204, rfl, ho0, hb, hkp⟩; have n0_ := Aside0.mk (Kd.R_mono (ok' := fun k_ => some k_ ≠ (.slice (some ad199) t164.length co63 : Value).ownBlock) (Kd.R_keptB ((Kd.R_apart' HO_5.out (Kd.R_typed HO202.out) (by decide))) hkp (fun k_ hk_ hs_ => (hk_.2) hs_)) (fun k_ hk_ => hk_.1.1)); have n1_ := Aside0.mk (Kd.R_mono (ok' := fun k_ => some k_ ≠ (.slice (some ad188) t161.length co48 : Value).ownBlock) (Kd.R_keptB ((Kd.R_apart' HO_6.out (Kd.R_typed HO202.out) (by decide))) hkp (fun k_ hk_ hs_ => (hk_.2) hs_)) (fun k_ hk_ => hk_.1.1)); have n2_ := Aside0.mk (Kd.R_mono (ok' := fun k_ => True) ho0 (fun k_ hk_ => trivial)); have n3_ := Aside0.mk (hb); clear HO_5 HO_6 HB HO202; revert n0_ n1_ n2_ n3_; intro HO_5 HO_6 HO205 HB; (try clear hb); (try clear hkp); (try clear ho0)))
                    repeat (go_quiet (first | (go_at_call 26; (with_reducible refine (lanyardref04_far.calls (wrap64 (x18_5 + 1)) t195 t196 _ A54.out).mono ?_); rintro e w61 ⟨rfl, hb⟩; have n0_ := Rb HO_5 hb; have n1_ := Rb HO_6 hb; have n2_ := Rb HO_7 hb; have n3_ := Bs HB hb; clear HO_5 HO_6 HO_7 HB; revert n0_ n1_ n2_ n3_; intro HO_5 HO_6 HO_7 HB; (try clear hb); (try clear hb2); (try clear hk); (try clear hi)) | (go_at_call 26; (with_reducible refine (lanyardref04_far.calls x18_5 t197 t198 _ A56.out).mono ?_); rintro e w62 ⟨rfl, hb⟩; have n0_ := Rb HO_5 hb; have n1_ := Rb HO_6 hb; have n2_ := Rb HO_7 hb; have n3_ := Bs HB hb; clear HO_5 HO_6 HO_7 HB; revert n0_ n1_ n2_ n3_; intro HO_5 HO_6 HO_7 HB; (try clear hb); (try clear hb2); (try clear hk); (try clear hi); obtain ⟨Ao63, co63, eo63⟩ := Kd.R_slice HO_6.out; subst eo63; have p199 : 0 ≤ (x18_5 : Int) := of_decide_eq_true (by first | (with_reducible assumption) | assumption); have q199 : x18_5 < (t164.length : Int) := of_decide_eq_true (by first | (with_reducible assumption) | assumption); obtain ⟨ad199, e199, hx199_0, hx199_1⟩ := at_T52 (Kd.R_reads' HO_6.out).2.2 x18_5 p199 q199; cases e199; replace p199 := eq_true p199; replace q199 := eq_true q199; obtain ⟨Ao64, co64, eo64⟩ := Kd.R_slice HO_7.out; subst eo64) | (go_at_call 23; (with_reducible refine (lanyardref04_word.calls k5 (fun k_ => some k_ = (.slice Ao64 t192.length co64 : Value).ownBlock) (.slice Ao64 t192.length co64) t192 ((rd_T52 t164 x18_5).f0) ((rd_T52 t164 x18_5).f1) t200 w _ ?side1 ?side2 A59.out).mono ?_); (case side1 => repeat (first | (with_reducible first | exact HB.out | apply below_alloc | apply pw_below_drewN | apply below_drew1) | exact HB.out)); (case side2 => exact Kd.R_tight rfl HO_7.out); rintro e w65 ⟨v201, rfl, ho0, hb, hkp⟩; have n0_ := Aside0.mk (Kd.R_mono (ok' := fun k_ => some k_ ≠ (.slice (some ad199) t164.length co63 : Value).ownBlock) (Kd.R_keptB ((Kd.R_apart' HO_5.out (Kd.R_typed HO_7.out) (by decide))) hkp (fun k_ hk_ hs_ => (hk_.2) hs_)) (fun k_ hk_ => hk_.1.1)); have n1_ := Aside0.mk (Kd.R_mono (ok' := fun k_ => some k_ ≠ (.slice (some ad188) t161.length co48 : Value).ownBlock) (Kd.R_keptB ((Kd.R_apart' HO_6.out (Kd.R_typed HO_7.out) (by decide))) hkp (fun k_ hk_ hs_ => (hk_.2) hs_)) (fun k_ hk_ => hk_.1.1)); have n2_ := Aside0.mk (Kd.R_mono (ok' := fun k_ => True) ho0 (fun k_ hk_ => trivial)); have n3_ := Aside0.mk (hb); clear HO_5 HO_6 HB HO_7; revert n0_ n1_ n2_ n3_; intro HO_5 HO_6 HO202 HB; (try clear hb); (try clear hkp); (try clear ho0); obtain ⟨Ao66, co66, eo66⟩ := Kd.R_slice HO202.out; subst eo66) | (go_at_call 25; (with_reducible refine (lanyardref04_num.calls k5 (fun k_ => some k_ = (.slice Ao66 t200.length co66 : Value).ownBlock) (.slice Ao66 t200.length co66) t200 (wrap64 (x10_2 - t197)) t198 t203 w _ ?side1 ?side2 A60.out).mono ?_); (case side1 => repeat (first | (with_reducible first | exact HB.out | apply below_alloc | apply pw_below_drewN | apply below_drew1) | exact HB.out)); (case side2 => exact Kd.R_tight rfl HO202.out); rintro e w67 ⟨v204, rfl, ho0, hb, hkp⟩; have n0_ := Aside0.mk (Kd.R_mono (ok' := fun k_ => some k_ ≠ (.slice (some ad199) t164.length co63 : Value).ownBlock) (Kd.R_keptB ((Kd.R_apart' HO_5.out (Kd.R_typed HO202.out) (by decide))) hkp (fun k_ hk_ hs_ => (hk_.2) hs_)) (fun k_ hk_ => hk_.1.1)); have n1_ := Aside0.mk (Kd.R_mono (ok' := fun k_ => some k_ ≠ (.slice (some ad188) t161.length co48 : Value).ownBlock) (Kd.R_keptB ((Kd.R_apart' HO_6.out (Kd.R_typed HO202.out) (by decide))) hkp (fun k_ hk_ hs_ => (hk_.2) hs_)) (fun k_ hk_ => hk_.1.1)); have n2_ := Aside0.mk (Kd.R_mono (ok' := fun k_ => True) ho0 (fun k_ hk_ => trivial)); have n3_ := Aside0.mk (hb); clear HO_5 HO_6 HB HO202; revert n0_ n1_ n2_ n3_; intro HO_5 HO_6 HO205 HB; (try clear hb); (try clear hkp); (try clear ho0))); try go_wp2_with (first | (go_at_call 26; (with_reducible refine (lanyardref04_far.calls (wrap64 (x18_5 + 1)) t195 t196 _ A54.out).mono ?_); rintro e w61 ⟨rfl, hb⟩; have n0_ := Rb HO_5 hb; have n1_ := Rb HO_6 hb; have n2_ := Rb HO_7 hb; have n3_ := Bs HB hb; clear HO_5 HO_6 HO_7 HB; revert n0_ n1_ n2_ n3_; intro HO_5 HO_6 HO_7 HB; (try clear hb); (try clear hb2); (try clear hk); (try clear hi)) | (go_at_call 26; (with_reducible refine (lanyardref04_far.calls x18_5 t197 t198 _ A56.out).mono ?_); rintro e w62 ⟨rfl, hb⟩; have n0_ := Rb HO_5 hb; have n1_ := Rb HO_6 hb; have n2_ := Rb HO_7 hb; have n3_ := Bs HB hb; clear HO_5 HO_6 HO_7 HB; revert n0_ n1_ n2_ n3_; intro HO_5 HO_6 HO_7 HB; (try clear hb); (try clear hb2); (try clear hk); (try clear hi); obtain ⟨Ao63, co63, eo63⟩ := Kd.R_slice HO_6.out; subst eo63; have p199 : 0 ≤ (x18_5 : Int) := of_decide_eq_true (by first | (with_reducible assumption) | assumption); have q199 : x18_5 < (t164.length : Int) := of_decide_eq_true (by first | (with_reducible assumption) | assumption); obtain ⟨ad199, e199, hx199_0, hx199_1⟩ := at_T52 (Kd.R_reads' HO_6.out).2.2 x18_5 p199 q199; cases e199; replace p199 := eq_true p199; replace q199 := eq_true q199; obtain ⟨Ao64, co64, eo64⟩ := Kd.R_slice HO_7.out; subst eo64) | (go_at_call 23; (with_reducible refine (lanyardref04_word.calls k5 (fun k_ => some k_ = (.slice Ao64 t192.length co64 : Value).ownBlock) (.slice Ao64 t192.length co64) t192 ((rd_T52 t164 x18_5).f0) ((rd_T52 t164 x18_5).f1) t200 w _ ?side1 ?side2 A59.out).mono ?_); (case side1 => repeat (first | (with_reducible first | exact HB.out | apply below_alloc | apply pw_below_drewN | apply below_drew1) | exact HB.out)); (case side2 => exact Kd.R_tight rfl HO_7.out); rintro e w65 ⟨v201, rfl, ho0, hb, hkp⟩; have n0_ := Aside0.mk (Kd.R_mono (ok' := fun k_ => some k_ ≠ (.slice (some ad199) t164.length co63 : Value).ownBlock) (Kd.R_keptB ((Kd.R_apart' HO_5.out (Kd.R_typed HO_7.out) (by decide))) hkp (fun k_ hk_ hs_ => (hk_.2) hs_)) (fun k_ hk_ => hk_.1.1)); have n1_ := Aside0.mk (Kd.R_mono (ok' := fun k_ => some k_ ≠ (.slice (some ad188) t161.length co48 : Value).ownBlock) (Kd.R_keptB ((Kd.R_apart' HO_6.out (Kd.R_typed HO_7.out) (by decide))) hkp (fun k_ hk_ hs_ => (hk_.2) hs_)) (fun k_ hk_ => hk_.1.1)); have n2_ := Aside0.mk (Kd.R_mono (ok' := fun k_ => True) ho0 (fun k_ hk_ => trivial)); have n3_ := Aside0.mk (hb); clear HO_5 HO_6 HB HO_7; revert n0_ n1_ n2_ n3_; intro HO_5 HO_6 HO202 HB; (try clear hb); (try clear hkp); (try clear ho0); obtain ⟨Ao66, co66, eo66⟩ := Kd.R_slice HO202.out; subst eo66) | (go_at_call 25; (with_reducible refine (lanyardref04_num.calls k5 (fun k_ => some k_ = (.slice Ao66 t200.length co66 : Value).ownBlock) (.slice Ao66 t200.length co66) t200 (wrap64 (x10_2 - t197)) t198 t203 w _ ?side1 ?side2 A60.out).mono ?_); (case side1 => repeat (first | (with_reducible first | exact HB.out | apply below_alloc | apply pw_below_drewN | apply below_drew1) | exact HB.out)); (case side2 => exact Kd.R_tight rfl HO202.out); rintro e w67 ⟨v204, rfl, ho0, hb, hkp⟩; have n0_ := Aside0.mk (Kd.R_mono (ok' := fun k_ => some k_ ≠ (.slice (some ad199) t164.length co63 : Value).ownBlock) (Kd.R_keptB ((Kd.R_apart' HO_5.out (Kd.R_typed HO202.out) (by decide))) hkp (fun k_ hk_ hs_ => (hk_.2) hs_)) (fun k_ hk_ => hk_.1.1)); have n1_ := Aside0.mk (Kd.R_mono (ok' := fun k_ => some k_ ≠ (.slice (some ad188) t161.length co48 : Value).ownBlock) (Kd.R_keptB ((Kd.R_apart' HO_6.out (Kd.R_typed HO202.out) (by decide))) hkp (fun k_ hk_ hs_ => (hk_.2) hs_)) (fun k_ hk_ => hk_.1.1)); have n2_ := Aside0.mk (Kd.R_mono (ok' := fun k_ => True) ho0 (fun k_ hk_ => trivial)); have n3_ := Aside0.mk (hb); clear HO_5 HO_6 HB HO202; revert n0_ n1_ n2_ n3_; intro HO_5 HO_6 HO205 HB; (try clear hb); (try clear hkp); (try clear ho0))))
                    go_roundg k5
                    case measure => have := HK1.out; have := HK2.out; have := HJ12.out; have := HJ35.out; have := HK5.out; omega
                    case rel => exact ⟨(t203), (wrap64 (x8_1 + x9_2)), (by first | rfl | (simp; done) | (simp [*]; done)), H', ⟨by have := HK1.out; have := HK2.out; have := HJ12.out; have := HJ35.out; have := HK5.out; omega⟩, ⟨Ru HO_5⟩, ⟨Ru HO_6⟩, ⟨Ru HO205⟩, ⟨Bu HB⟩⟩
                   ·rw [if_neg c58] at H
                    exact absurd H (by simp)
                  ·rw [if_neg c57] at H
                   exact absurd H (by simp)
                 ·rw [if_neg c55] at H
                  have c55b0 : decide (x10_2 < t195) = false := decide_eq_false c55
                  clear c55
                  have H' := Aside0.mk H
                  clear H
                  go_wp2_with (first | (go_at_call 26; (with_reducible refine (lanyardref04_far.calls (wrap64 (x18_5 + 1)) t195 t196 _ A54.out).mono ?_); rintro e w68 ⟨rfl, hb⟩; have n0_ := Rb HO_5 hb; have n1_ := Rb HO_6 hb; have n2_ := Rb HO_7 hb; have n3_ := Bs HB hb; clear HO_5 HO_6 HO_7 HB; revert n0_ n1_ n2_ n3_; intro HO_5 HO_6 HO_7 HB; (try clear hb); (try clear hb2); (try clear hk); (try clear hi)))
                  repeat (go_quiet (first | (go_at_call 26; (with_reducible refine (lanyardref04_far.calls (wrap64 (x18_5 + 1)) t195 t196 _ A54.out).mono ?_); rintro e w68 ⟨rfl, hb⟩; have n0_ := Rb HO_5 hb; have n1_ := Rb HO_6 hb; have n2_ := Rb HO_7 hb; have n3_ := Bs HB hb; clear HO_5 HO_6 HO_7 HB; revert n0_ n1_ n2_ n3_; intro HO_5 HO_6 HO_7 HB; (try clear hb); (try clear hb2); (try clear hk); (try clear hi))); try go_wp2_with (first | (go_at_call 26; (with_reducible refine (lanyardref04_far.calls (wrap64 (x18_5 + 1)) t195 t196 _ A54.out).mono ?_); rintro e w68 ⟨rfl, hb⟩; have n0_ := Rb HO_5 hb; have n1_ := Rb HO_6 hb; have n2_ := Rb HO_7 hb; have n3_ := Bs HB hb; clear HO_5 HO_6 HO_7 HB; revert n0_ n1_ n2_ n3_; intro HO_5 HO_6 HO_7 HB; (try clear hb); (try clear hb2); (try clear hk); (try clear hi))))
                  go_roundg k5
                  case measure => have := HK1.out; have := HK2.out; have := HJ12.out; have := HJ35.out; have := HK5.out; omega
                  case rel => exact ⟨(wrap64 (x18_5 + 1)), (by first | rfl | (simp; done) | (simp [*]; done)), H', ⟨by have := HK1.out; have := HK2.out; have := HJ12.out; have := HJ35.out; have := HK5.out; omega⟩, ⟨Ru HO_5⟩, ⟨Ru HO_6⟩, ⟨Ru HO_7⟩, ⟨Bu HB⟩⟩
                ·rw [if_neg c53] at H
                 have c53b0 : decide (x18_5 < 29) = false := decide_eq_false c53
                 clear c53
                 replace H := Option.bind_eq_some_iff.mp H
                 obtain ⟨⟨t206, t207⟩, A690, H⟩ := H
                 replace H : (if 0 ≤ x18_5 then (if x18_5 < (t164.length : Int) then ((lanyardref04_word.f k5 t192 ((rd_T52 t164 x18_5).f0) ((rd_T52 t164 x18_5).f1)).bind fun t209 => ((lanyardref04_num.f k5 t209 (wrap64 (x10_2 - t206)) t207).bind fun t212 => (lanyardref04_Deflate.l0 k5 l0 t161 t164 t212 (wrap64 (x8_1 + x9_2))))) else (none)) else (none)) = some r := H
                 have A69 := Aside0.mk A690
                 clear A690
                 by_cases c70 : 0 ≤ x18_5
                 ·rw [if_pos c70] at H
                  have c70b0 : decide (0 ≤ x18_5) = true := decide_eq_true c70
                  clear c70
                  by_cases c71 : x18_5 < (t164.length : Int)
                  ·rw [if_pos c71] at H
                   have c71b0 : decide (x18_5 < (t164.length : Int)) = true := decide_eq_true c71
                   clear c71
                   replace H := Option.bind_eq_some_iff.mp H
                   obtain ⟨t209, A720, H⟩ := H
                   replace H : ((lanyardref04_num.f k5 t209 (wrap64 (x10_2 - t206)) t207).bind fun t212 => (lanyardref04_Deflate.l0 k5 l0 t161 t164 t212 (wrap64 (x8_1 + x9_2)))) = some r := H
                   have A72 := Aside0.mk A720
                   clear A720
                   replace H := Option.bind_eq_some_iff.mp H
                   obtain ⟨t212, A730, H⟩ := H
                   replace H : (lanyardref04_Deflate.l0 k5 l0 t161 t164 t212 (wrap64 (x8_1 + x9_2))) = some r := H
                   have A73 := Aside0.mk A730
                   clear A730
                   have H' := Aside0.mk H
                   clear H
                   go_wp2_with (first | (go_at_call 26; (with_reducible refine (lanyardref04_far.calls x18_5 t206 t207 _ A69.out).mono ?_); rintro e w74 ⟨rfl, hb⟩; have n0_ := Rb HO_5 hb; have n1_ := Rb HO_6 hb; have n2_ := Rb HO_7 hb; have n3_ := Bs HB hb; clear HO_5 HO_6 HO_7 HB; revert n0_ n1_ n2_ n3_; intro HO_5 HO_6 HO_7 HB; (try clear hb); (try clear hb2); (try clear hk); (try clear hi); obtain ⟨Ao75, co75, eo75⟩ := Kd.R_slice HO_6.out; subst eo75; have p208 : 0 ≤ (x18_5 : Int) := of_decide_eq_true (by first | (with_reducible assumption) | assumption); have q208 : x18_5 < (t164.length : Int) := of_decide_eq_true (by first | (with_reducible assumption) | assumption); obtain ⟨ad208, e208, hx208_0, hx208_1⟩ := at_T52 (Kd.R_reads' HO_6.out).2.2 x18_5 p208 q208; cases e208; replace p208 := eq_true p208; replace q208 := eq_true q208; obtain ⟨Ao76, co76, eo76⟩ := Kd.R_slice HO_7.out; subst eo76) | (go_at_call 23; (with_reducible refine (lanyardref04_word.calls k5 (fun k_ => some k_ = (.slice Ao76 t192.length co76 : Value).ownBlock) (.slice Ao76 t192.length co76) t192 ((rd_T52 t164 x18_5).f0) ((rd_T52 t164 x18_5).f1) t209 w _ ?side1 ?side2 A72.out).mono ?_); (case side1 => repeat (first | (with_reducible first | exact HB.out | apply below_alloc | apply pw_below_drewN | apply below_drew1) | exact HB.out)); (case side2 => exact Kd.R_tight rfl HO_7.out); rintro e w77 ⟨v210, rfl, ho0, hb, hkp⟩; have n0_ := Aside0.mk (Kd.R_mono (ok' := fun k_ => some k_ ≠ (.slice (some ad208) t164.length co75 : Value).ownBlock) (Kd.R_keptB ((Kd.R_apart' HO_5.out (Kd.R_typed HO_7.out) (by decide))) hkp (fun k_ hk_ hs_ => (hk_.2) hs_)) (fun k_ hk_ => hk_.1.1)); have n1_ := Aside0.mk (Kd.R_mono (ok' := fun k_ => some k_ ≠ (.slice (some ad188) t161.length co48 : Value).ownBlock) (Kd.R_keptB ((Kd.R_apart' HO_6.out (Kd.R_typed HO_7.out) (by decide))) hkp (fun k_ hk_ hs_ => (hk_.2) hs_)) (fun k_ hk_ => hk_.1.1)); have n2_ := Aside0.mk (Kd.R_mono (ok' := fun k_ => True) ho0 (fun k_ hk_ => trivial)); have n3_ := Aside0.mk (hb); clear HO_5 HO_6 HB HO_7; revert n0_ n1_ n2_ n3_; intro HO_5 HO_6 HO211 HB; (try clear hb); (try clear hkp); (try clear ho0); obtain ⟨Ao78, co78, eo78⟩ := Kd.R_slice HO211.out; subst eo78) | (go_at_call 25; (with_reducible refine (lanyardref04_num.calls k5 (fun k_ => some k_ = (.slice Ao78 t209.length co78 : Value).ownBlock) (.slice Ao78 t209.length co78) t209 (wrap64 (x10_2 - t206)) t207 t212 w _ ?side1 ?side2 A73.out).mono ?_); (case side1 => repeat (first | (with_reducible first | exact HB.out | apply below_alloc | apply pw_below_drewN | apply below_drew1) | exact HB.out)); (case side2 => exact Kd.R_tight rfl HO211.out); rintro e w79 ⟨v213, rfl, ho0, hb, hkp⟩; have n0_ := Aside0.mk (Kd.R_mono (ok' := fun k_ => some k_ ≠ (.slice (some ad208) t164.length co75 : Value).ownBlock) (Kd.R_keptB ((Kd.R_apart' HO_5.out (Kd.R_typed HO211.out) (by decide))) hkp (fun k_ hk_ hs_ => (hk_.2) hs_)) (fun k_ hk_ => hk_.1.1)); have n1_ := Aside0.mk (Kd.R_mono (ok' := fun k_ => some k_ ≠ (.slice (some ad188) t161.length co48 : Value).ownBlock) (Kd.R_keptB ((Kd.R_apart' HO_6.out (Kd.R_typed HO211.out) (by decide))) hkp (fun k_ hk_ hs_ => (hk_.2) hs_)) (fun k_ hk_ => hk_.1.1)); have n2_ := Aside0.mk (Kd.R_mono (ok' := fun k_ => True) ho0 (fun k_ hk_ => trivial)); have n3_ := Aside0.mk (hb); clear HO_5 HO_6 HB HO211; revert n0_ n1_ n2_ n3_; intro HO_5 HO_6 HO214 HB; (try clear hb); (try clear hkp); (try clear ho0)))
                   repeat (go_quiet (first | (go_at_call 26; (with_reducible refine (lanyardref04_far.calls x18_5 t206 t207 _ A69.out).mono ?_); rintro e w74 ⟨rfl, hb⟩; have n0_ := Rb HO_5 hb; have n1_ := Rb HO_6 hb; have n2_ := Rb HO_7 hb; have n3_ := Bs HB hb; clear HO_5 HO_6 HO_7 HB; revert n0_ n1_ n2_ n3_; intro HO_5 HO_6 HO_7 HB; (try clear hb); (try clear hb2); (try clear hk); (try clear hi); obtain ⟨Ao75, co75, eo75⟩ := Kd.R_slice HO_6.out; subst eo75; have p208 : 0 ≤ (x18_5 : Int) := of_decide_eq_true (by first | (with_reducible assumption) | assumption); have q208 : x18_5 < (t164.length : Int) := of_decide_eq_true (by first | (with_reducible assumption) | assumption); obtain ⟨ad208, e208, hx208_0, hx208_1⟩ := at_T52 (Kd.R_reads' HO_6.out).2.2 x18_5 p208 q208; cases e208; replace p208 := eq_true p208; replace q208 := eq_true q208; obtain ⟨Ao76, co76, eo76⟩ := Kd.R_slice HO_7.out; subst eo76) | (go_at_call 23; (with_reducible refine (lanyardref04_word.calls k5 (fun k_ => some k_ = (.slice Ao76 t192.length co76 : Value).ownBlock) (.slice Ao76 t192.length co76) t192 ((rd_T52 t164 x18_5).f0) ((rd_T52 t164 x18_5).f1) t209 w _ ?side1 ?side2 A72.out).mono ?_); (case side1 => repeat (first | (with_reducible first | exact HB.out | apply below_alloc | apply pw_below_drewN | apply below_drew1) | exact HB.out)); (case side2 => exact Kd.R_tight rfl HO_7.out); rintro e w77 ⟨v210, rfl, ho0, hb, hkp⟩; have n0_ := Aside0.mk (Kd.R_mono (ok' := fun k_ => some k_ ≠ (.slice (some ad208) t164.length co75 : Value).ownBlock) (Kd.R_keptB ((Kd.R_apart' HO_5.out (Kd.R_typed HO_7.out) (by decide))) hkp (fun k_ hk_ hs_ => (hk_.2) hs_)) (fun k_ hk_ => hk_.1.1)); have n1_ := Aside0.mk (Kd.R_mono (ok' := fun k_ => some k_ ≠ (.slice (some ad188) t161.length co48 : Value).ownBlock) (Kd.R_keptB ((Kd.R_apart' HO_6.out (Kd.R_typed HO_7.out) (by decide))) hkp (fun k_ hk_ hs_ => (hk_.2) hs_)) (fun k_ hk_ => hk_.1.1)); have n2_ := Aside0.mk (Kd.R_mono (ok' := fun k_ => True) ho0 (fun k_ hk_ => trivial)); have n3_ := Aside0.mk (hb); clear HO_5 HO_6 HB HO_7; revert n0_ n1_ n2_ n3_; intro HO_5 HO_6 HO211 HB; (try clear hb); (try clear hkp); (try clear ho0); obtain ⟨Ao78, co78, eo78⟩ := Kd.R_slice HO211.out; subst eo78) | (go_at_call 25; (with_reducible refine (lanyardref04_num.calls k5 (fun k_ => some k_ = (.slice Ao78 t209.length co78 : Value).ownBlock) (.slice Ao78 t209.length co78) t209 (wrap64 (x10_2 - t206)) t207 t212 w _ ?side1 ?side2 A73.out).mono ?_); (case side1 => repeat (first | (with_reducible first | exact HB.out | apply below_alloc | apply pw_below_drewN | apply below_drew1) | exact HB.out)); (case side2 => exact Kd.R_tight rfl HO211.out); rintro e w79 ⟨v213, rfl, ho0, hb, hkp⟩; have n0_ := Aside0.mk (Kd.R_mono (ok' := fun k_ => some k_ ≠ (.slice (some ad208) t164.length co75 : Value).ownBlock) (Kd.R_keptB ((Kd.R_apart' HO_5.out (Kd.R_typed HO211.out) (by decide))) hkp (fun k_ hk_ hs_ => (hk_.2) hs_)) (fun k_ hk_ => hk_.1.1)); have n1_ := Aside0.mk (Kd.R_mono (ok' := fun k_ => some k_ ≠ (.slice (some ad188) t161.length co48 : Value).ownBlock) (Kd.R_keptB ((Kd.R_apart' HO_6.out (Kd.R_typed HO211.out) (by decide))) hkp (fun k_ hk_ hs_ => (hk_.2) hs_)) (fun k_ hk_ => hk_.1.1)); have n2_ := Aside0.mk (Kd.R_mono (ok' := fun k_ => True) ho0 (fun k_ hk_ => trivial)); have n3_ := Aside0.mk (hb); clear HO_5 HO_6 HB HO211; revert n0_ n1_ n2_ n3_; intro HO_5 HO_6 HO214 HB; (try clear hb); (try clear hkp); (try clear ho0))); try go_wp2_with (first | (go_at_call 26; (with_reducible refine (lanyardref04_far.calls x18_5 t206 t207 _ A69.out).mono ?_); rintro e w74 ⟨rfl, hb⟩; have n0_ := Rb HO_5 hb; have n1_ := Rb HO_6 hb; have n2_ := Rb HO_7 hb; have n3_ := Bs HB hb; clear HO_5 HO_6 HO_7 HB; revert n0_ n1_ n2_ n3_; intro HO_5 HO_6 HO_7 HB; (try clear hb); (try clear hb2); (try clear hk); (try clear hi); obtain ⟨Ao75, co75, eo75⟩ := Kd.R_slice HO_6.out; subst eo75; have p208 : 0 ≤ (x18_5 : Int) := of_decide_eq_true (by first | (with_reducible assumption) | assumption); have q208 : x18_5 < (t164.length : Int) := of_decide_eq_true (by first | (with_reducible assumption) | assumption); obtain ⟨ad208, e208, hx208_0, hx208_1⟩ := at_T52 (Kd.R_reads' HO_6.out).2.2 x18_5 p208 q208; cases e208; replace p208 := eq_true p208; replace q208 := eq_true q208; obtain ⟨Ao76, co76, eo76⟩ := Kd.R_slice HO_7.out; subst eo76) | (go_at_call 23; (with_reducible refine (lanyardref04_word.calls k5 (fun k_ => some k_ = (.slice Ao76 t192.length co76 : Value).ownBlock) (.slice Ao76 t192.length co76) t192 ((rd_T52 t164 x18_5).f0) ((rd_T52 t164 x18_5).f1) t209 w _ ?side1 ?side2 A72.out).mono ?_); (case side1 => repeat (first | (with_reducible first | exact HB.out | apply below_alloc | apply pw_below_drewN | apply below_drew1) | exact HB.out)); (case side2 => exact Kd.R_tight rfl HO_7.out); rintro e w77 ⟨v210, rfl, ho0, hb, hkp⟩; have n0_ := Aside0.mk (Kd.R_mono (ok' := fun k_ => some k_ ≠ (.slice (some ad208) t164.length co75 : Value).ownBlock) (Kd.R_keptB ((Kd.R_apart' HO_5.out (Kd.R_typed HO_7.out) (by decide))) hkp (fun k_ hk_ hs_ => (hk_.2) hs_)) (fun k_ hk_ => hk_.1.1)); have n1_ := Aside0.mk (Kd.R_mono (ok' := fun k_ => some k_ ≠ (.slice (some ad188) t161.length co48 : Value).ownBlock) (Kd.R_keptB ((Kd.R_apart' HO_6.out (Kd.R_typed HO_7.out) (by decide))) hkp (fun k_ hk_ hs_ => (hk_.2) hs_)) (fun k_ hk_ => hk_.1.1)); have n2_ := Aside0.mk (Kd.R_mono (ok' := fun k_ => True) ho0 (fun k_ hk_ => trivial)); have n3_ := Aside0.mk (hb); clear HO_5 HO_6 HB HO_7; revert n0_ n1_ n2_ n3_; intro HO_5 HO_6 HO211 HB; (try clear hb); (try clear hkp); (try clear ho0); obtain ⟨Ao78, co78, eo78⟩ := Kd.R_slice HO211.out; subst eo78) | (go_at_call 25; (with_reducible refine (lanyardref04_num.calls k5 (fun k_ => some k_ = (.slice Ao78 t209.length co78 : Value).ownBlock) (.slice Ao78 t209.length co78) t209 (wrap64 (x10_2 - t206)) t207 t212 w _ ?side1 ?side2 A73.out).mono ?_); (case side1 => repeat (first | (with_reducible first | exact HB.out | apply below_alloc | apply pw_below_drewN | apply below_drew1) | exact HB.out)); (case side2 => exact Kd.R_tight rfl HO211.out); rintro e w79 ⟨v213, rfl, ho0, hb, hkp⟩; have n0_ := Aside0.mk (Kd.R_mono (ok' := fun k_ => some k_ ≠ (.slice (some ad208) t164.length co75 : Value).ownBlock) (Kd.R_keptB ((Kd.R_apart' HO_5.out (Kd.R_typed HO211.out) (by decide))) hkp (fun k_ hk_ hs_ => (hk_.2) hs_)) (fun k_ hk_ => hk_.1.1)); have n1_ := Aside0.mk (Kd.R_mono (ok' := fun k_ => some k_ ≠ (.slice (some ad188) t161.length co48 : Value).ownBlock) (Kd.R_keptB ((Kd.R_apart' HO_6.out (Kd.R_typed HO211.out) (by decide))) hkp (fun k_ hk_ hs_ => (hk_.2) hs_)) (fun k_ hk_ => hk_.1.1)); have n2_ := Aside0.mk (Kd.R_mono (ok' := fun k_ => True) ho0 (fun k_ hk_ => trivial)); have n3_ := Aside0.mk (hb); clear HO_5 HO_6 HB HO211; revert n0_ n1_ n2_ n3_; intro HO_5 HO_6 HO214 HB; (try clear hb); (try clear hkp); (try clear ho0))))
                   go_roundg k5
                   case measure => have := HK1.out; have := HK2.out; have := HJ12.out; have := HJ35.out; have := HK5.out; omega
                   case rel => exact ⟨(t212), (wrap64 (x8_1 + x9_2)), (by first | rfl | (simp; done) | (simp [*]; done)), H', ⟨by have := HK1.out; have := HK2.out; have := HJ12.out; have := HJ35.out; have := HK5.out; omega⟩, ⟨Ru HO_5⟩, ⟨Ru HO_6⟩, ⟨Ru HO214⟩, ⟨Bu HB⟩⟩
                  ·rw [if_neg c71] at H
                   exact absurd H (by simp)
                 ·rw [if_neg c70] at H
                  exact absurd H (by simp)
             ·rw [if_neg c44] at H
              exact absurd H (by simp)
            ·rw [if_neg c43] at H
             exact absurd H (by simp)
   ·rw [if_neg c12] at H
    have c12b0 : decide (x8_1 < (l0.length : Int)) = false := decide_eq_false c12
    clear c12
    by_cases c80 : 256 < (t161.length : Int)
    ·rw [if_pos c80] at H
     have c80b0 : decide (256 < (t161.length : Int)) = true := decide_eq_true c80
     have c80b1 : decide (256 < t161.length) = true := decide_eq_true (by omega)
     clear c80
     replace H := Option.bind_eq_some_iff.mp H
     obtain ⟨t171, A810, H⟩ := H
     replace H : ((lanyardref04_Bits.f k1 t171).bind fun t174 => (some t174)) = some r := H
     have A81 := Aside0.mk A810
     clear A810
     replace H := Option.bind_eq_some_iff.mp H
     obtain ⟨t174, A820, H⟩ := H
     replace H : (some t174) = some r := H
     have A82 := Aside0.mk A820
     clear A820
     obtain rfl := Option.some.inj H
     obtain ⟨Ao83, co83, eo83⟩ := Kd.R_slice HO_5.out
     subst eo83
     have p170 : 0 ≤ (256 : Int) := (by omega)
     have q170 : 256 < (t161.length : Int) := of_decide_eq_true (by first | (with_reducible assumption) | assumption)
     obtain ⟨ad170, e170, hx170_0, hx170_1⟩ := at_T52 (Kd.R_reads' HO_5.out).2.2 256 p170 q170
     cases e170
     (try simp only [show (256 : Int).toNat = 256 from rfl, Nat.reduceMul, Nat.reduceEqDiff, Go.Addr.add, ↓reduceIte] at hx170_0)
     (try simp only [show (256 : Int).toNat = 256 from rfl, Nat.reduceMul, Nat.reduceEqDiff, Go.Addr.add, ↓reduceIte] at hx170_1)
     have qi170 : (256 < t161.length) = True := eq_true (by omega)
     (try rw [show ((256 : Int)).toNat = 256 from rfl] at hx170_0)
     (try rw [show 256 * 2 = 512 from rfl] at hx170_0)
     (try rw [show ((256 : Int)).toNat = 256 from rfl] at hx170_1)
     (try rw [show 256 * 2 = 512 from rfl] at hx170_1)
     replace p170 := eq_true p170
     replace q170 := eq_true q170
     obtain ⟨Ao84, co84, eo84⟩ := Kd.R_slice HO_7.out
     subst eo84
     go_wp2_with (first | (go_at_call 23; (with_reducible refine (lanyardref04_word.calls k1 (fun k_ => some k_ = (.slice Ao84 x7_1.length co84 : Value).ownBlock) (.slice Ao84 x7_1.length co84) x7_1 ((rd_T52 t161 256).f0) ((rd_T52 t161 256).f1) t171 w _ ?side1 ?side2 A81.out).mono ?_); (case side1 => repeat (first | (with_reducible first | exact HB.out | apply below_alloc | apply pw_below_drewN | apply below_drew1) | exact HB.out)); (case side2 => exact Kd.R_tight rfl HO_7.out); rintro e w85 ⟨v172, rfl, ho0, hb, hkp⟩; have n0_ := Aside0.mk (Kd.R_mono (ok' := fun k_ => some k_ ≠ (v165 : Value).ownBlock) (Kd.R_keptB ((Kd.R_apart' HO_5.out (Kd.R_typed HO_7.out) (by decide))) hkp (fun k_ hk_ hs_ => (hk_.2) hs_)) (fun k_ hk_ => hk_.1.1)); have n1_ := Aside0.mk (Kd.R_mono (ok' := fun k_ => some k_ ≠ (.slice (some ad170) t161.length co83 : Value).ownBlock) (Kd.R_keptB ((Kd.R_apart' HO_6.out (Kd.R_typed HO_7.out) (by decide))) hkp (fun k_ hk_ hs_ => (hk_.2) hs_)) (fun k_ hk_ => hk_.1.1)); have n2_ := Aside0.mk (Kd.R_mono (ok' := fun k_ => True) ho0 (fun k_ hk_ => trivial)); have n3_ := Aside0.mk (hb); clear HO_5 HO_6 HB HO_7; revert n0_ n1_ n2_ n3_; intro HO_5 HO_6 HO173 HB; (try clear hb); (try clear hkp); (try clear ho0); obtain ⟨Ao86, co86, eo86⟩ := Kd.R_slice HO173.out; subst eo86) | (go_at_call 27; (with_reducible refine (lanyardref04_Bits.calls k1 _ _ t171 t174 _ ?side1 ?side2 A82.out).mono ?_); (case side1 => exact Cu (Kd.R_reads' HO173.out).2.2); (case side2 => exact (Kd.R_reads' HO173.out).2.1); rintro e w87 ⟨v175, rfl, ho0, hb⟩; have n0_ := Rb HO_5 hb; have n1_ := Rb HO_6 hb; have n2_ := Rb HO173 hb; have n3_ := Aside0.mk (Kd.R_lower ho0 (Bz HB)); have n4_ := Bs HB hb; clear HO_5 HO_6 HO173 HB; revert n0_ n1_ n2_ n3_ n4_; intro HO_5 HO_6 HO173 HO176 HB; (try clear hb); (try clear hb2); (try clear hk); (try clear hi); (try clear ho0)))
     repeat (go_quiet (first | (go_at_call 23; (with_reducible refine (lanyardref04_word.calls k1 (fun k_ => some k_ = (.slice Ao84 x7_1.length co84 : Value).ownBlock) (.slice Ao84 x7_1.length co84) x7_1 ((rd_T52 t161 256).f0) ((rd_T52 t161 256).f1) t171 w _ ?side1 ?side2 A81.out).mono ?_); (case side1 => repeat (first | (with_reducible first | exact HB.out | apply below_alloc | apply pw_below_drewN | apply below_drew1) | exact HB.out)); (case side2 => exact Kd.R_tight rfl HO_7.out); rintro e w85 ⟨v172, rfl, ho0, hb, hkp⟩; have n0_ := Aside0.mk (Kd.R_mono (ok' := fun k_ => some k_ ≠ (v165 : Value).ownBlock) (Kd.R_keptB ((Kd.R_apart' HO_5.out (Kd.R_typed HO_7.out) (by decide))) hkp (fun k_ hk_ hs_ => (hk_.2) hs_)) (fun k_ hk_ => hk_.1.1)); have n1_ := Aside0.mk (Kd.R_mono (ok' := fun k_ => some k_ ≠ (.slice (some ad170) t161.length co83 : Value).ownBlock) (Kd.R_keptB ((Kd.R_apart' HO_6.out (Kd.R_typed HO_7.out) (by decide))) hkp (fun k_ hk_ hs_ => (hk_.2) hs_)) (fun k_ hk_ => hk_.1.1)); have n2_ := Aside0.mk (Kd.R_mono (ok' := fun k_ => True) ho0 (fun k_ hk_ => trivial)); have n3_ := Aside0.mk (hb); clear HO_5 HO_6 HB HO_7; revert n0_ n1_ n2_ n3_; intro HO_5 HO_6 HO173 HB; (try clear hb); (try clear hkp); (try clear ho0); obtain ⟨Ao86, co86, eo86⟩ := Kd.R_slice HO173.out; subst eo86) | (go_at_call 27; (with_reducible refine (lanyardref04_Bits.calls k1 _ _ t171 t174 _ ?side1 ?side2 A82.out).mono ?_); (case side1 => exact Cu (Kd.R_reads' HO173.out).2.2); (case side2 => exact (Kd.R_reads' HO173.out).2.1); rintro e w87 ⟨v175, rfl, ho0, hb⟩; have n0_ := Rb HO_5 hb; have n1_ := Rb HO_6 hb; have n2_ := Rb HO173 hb; have n3_ := Aside0.mk (Kd.R_lower ho0 (Bz HB)); have n4_ := Bs HB hb; clear HO_5 HO_6 HO173 HB; revert n0_ n1_ n2_ n3_ n4_; intro HO_5 HO_6 HO173 HO176 HB; (try clear hb); (try clear hb2); (try clear hk); (try clear hi); (try clear ho0))); try go_wp2_with (first | (go_at_call 23; (with_reducible refine (lanyardref04_word.calls k1 (fun k_ => some k_ = (.slice Ao84 x7_1.length co84 : Value).ownBlock) (.slice Ao84 x7_1.length co84) x7_1 ((rd_T52 t161 256).f0) ((rd_T52 t161 256).f1) t171 w _ ?side1 ?side2 A81.out).mono ?_); (case side1 => repeat (first | (with_reducible first | exact HB.out | apply below_alloc | apply pw_below_drewN | apply below_drew1) | exact HB.out)); (case side2 => exact Kd.R_tight rfl HO_7.out); rintro e w85 ⟨v172, rfl, ho0, hb, hkp⟩; have n0_ := Aside0.mk (Kd.R_mono (ok' := fun k_ => some k_ ≠ (v165 : Value).ownBlock) (Kd.R_keptB ((Kd.R_apart' HO_5.out (Kd.R_typed HO_7.out) (by decide))) hkp (fun k_ hk_ hs_ => (hk_.2) hs_)) (fun k_ hk_ => hk_.1.1)); have n1_ := Aside0.mk (Kd.R_mono (ok' := fun k_ => some k_ ≠ (.slice (some ad170) t161.length co83 : Value).ownBlock) (Kd.R_keptB ((Kd.R_apart' HO_6.out (Kd.R_typed HO_7.out) (by decide))) hkp (fun k_ hk_ hs_ => (hk_.2) hs_)) (fun k_ hk_ => hk_.1.1)); have n2_ := Aside0.mk (Kd.R_mono (ok' := fun k_ => True) ho0 (fun k_ hk_ => trivial)); have n3_ := Aside0.mk (hb); clear HO_5 HO_6 HB HO_7; revert n0_ n1_ n2_ n3_; intro HO_5 HO_6 HO173 HB; (try clear hb); (try clear hkp); (try clear ho0); obtain ⟨Ao86, co86, eo86⟩ := Kd.R_slice HO173.out; subst eo86) | (go_at_call 27; (with_reducible refine (lanyardref04_Bits.calls k1 _ _ t171 t174 _ ?side1 ?side2 A82.out).mono ?_); (case side1 => exact Cu (Kd.R_reads' HO173.out).2.2); (case side2 => exact (Kd.R_reads' HO173.out).2.1); rintro e w87 ⟨v175, rfl, ho0, hb⟩; have n0_ := Rb HO_5 hb; have n1_ := Rb HO_6 hb; have n2_ := Rb HO173 hb; have n3_ := Aside0.mk (Kd.R_lower ho0 (Bz HB)); have n4_ := Bs HB hb; clear HO_5 HO_6 HO173 HB; revert n0_ n1_ n2_ n3_ n4_; intro HO_5 HO_6 HO173 HO176 HB; (try clear hb); (try clear hb2); (try clear hk); (try clear hi); (try clear ho0))))
     go_ret
     exact ⟨_, rfl_, Ru HO176, Bu HB⟩
    ·rw [if_neg c80] at H
     exact absurd H (by simp)

end Go.Proofs.Ytbokeoncpilgpaa.Hp
