/- Go functions of this seat as Lean functions, and their contracts: what the Go code computes, for every input. (By hp.py, a program of this repo, over the kit's print.py.) -/
import Derived.Test.YtcikjghmelbkaaaDoorHp0
import Derived.Test.YtcikjghmelbkaaaDoorHp2
namespace Go.Proofs.YtcikjghmelbkaaaDoor.Hp
open Go.RowKit Go.Proofs.YtcikjghmelbkaaaDoorW.PrintWords Go.Proofs.YtcikjghmelbkaaaDoorW.PrintLast Go.Proofs.YtcikjghmelbkaaaDoorW.PrintMore
attribute [local go_sem] max2_int min2_int max_two min_two max_three min_three max_four min_four   -- for this text's walks alone
set_option linter.unusedVariables false
set_option linter.unusedSimpArgs false

/-! ### moment_Print: function 9 -/
def moment_Print.f (k : Nat) (a0 : Int) : Option (ByteArray × Int) := (moment_Date.f k a0).bind fun bt113 => (if bt113.2.2.2 = 0 then ((moment_split.f a0).bind fun bt118 => ((moment_digits.f k bt113.1 4).bind fun t120 => (if t120.size + 1 ≤ 9223372036854775807 then ((moment_digits.f k bt113.2.1 2).bind fun t121 => (if (t120 ++ (⟨#[45]⟩ : ByteArray)).size + t121.size ≤ 9223372036854775807 then (if ((t120 ++ (⟨#[45]⟩ : ByteArray)) ++ t121).size + 1 ≤ 9223372036854775807 then ((moment_digits.f k bt113.2.2.1 2).bind fun t122 => (if (((t120 ++ (⟨#[45]⟩ : ByteArray)) ++ t121) ++ (⟨#[45]⟩ : ByteArray)).size + t122.size ≤ 9223372036854775807 then (if ((((t120 ++ (⟨#[45]⟩ : ByteArray)) ++ t121) ++ (⟨#[45]⟩ : ByteArray)) ++ t122).size + 1 ≤ 9223372036854775807 then ((moment_digits.f k (wrap64 (Int.tdiv bt118.2 3600000)) 2).bind fun t123 => (if (((((t120 ++ (⟨#[45]⟩ : ByteArray)) ++ t121) ++ (⟨#[45]⟩ : ByteArray)) ++ t122) ++ (⟨#[84]⟩ : ByteArray)).size + t123.size ≤ 9223372036854775807 then (if ((((((t120 ++ (⟨#[45]⟩ : ByteArray)) ++ t121) ++ (⟨#[45]⟩ : ByteArray)) ++ t122) ++ (⟨#[84]⟩ : ByteArray)) ++ t123).size + 1 ≤ 9223372036854775807 then ((moment_digits.f k (Int.tmod (wrap64 (Int.tdiv bt118.2 60000)) 60) 2).bind fun t124 => (if (((((((t120 ++ (⟨#[45]⟩ : ByteArray)) ++ t121) ++ (⟨#[45]⟩ : ByteArray)) ++ t122) ++ (⟨#[84]⟩ : ByteArray)) ++ t123) ++ (⟨#[58]⟩ : ByteArray)).size + t124.size ≤ 9223372036854775807 then (if ((((((((t120 ++ (⟨#[45]⟩ : ByteArray)) ++ t121) ++ (⟨#[45]⟩ : ByteArray)) ++ t122) ++ (⟨#[84]⟩ : ByteArray)) ++ t123) ++ (⟨#[58]⟩ : ByteArray)) ++ t124).size + 1 ≤ 9223372036854775807 then ((moment_digits.f k (Int.tmod (wrap64 (Int.tdiv bt118.2 1000)) 60) 2).bind fun t125 => (if (((((((((t120 ++ (⟨#[45]⟩ : ByteArray)) ++ t121) ++ (⟨#[45]⟩ : ByteArray)) ++ t122) ++ (⟨#[84]⟩ : ByteArray)) ++ t123) ++ (⟨#[58]⟩ : ByteArray)) ++ t124) ++ (⟨#[58]⟩ : ByteArray)).size + t125.size ≤ 9223372036854775807 then (if (Int.tmod bt118.2 1000) > 0 then ((moment_digits.f k (Int.tmod bt118.2 1000) 3).bind fun t126 => (if 1 + t126.size ≤ 9223372036854775807 then (if ((((((((((t120 ++ (⟨#[45]⟩ : ByteArray)) ++ t121) ++ (⟨#[45]⟩ : ByteArray)) ++ t122) ++ (⟨#[84]⟩ : ByteArray)) ++ t123) ++ (⟨#[58]⟩ : ByteArray)) ++ t124) ++ (⟨#[58]⟩ : ByteArray)) ++ t125).size + ((⟨#[46]⟩ : ByteArray) ++ t126).size ≤ 9223372036854775807 then (if (((((((((((t120 ++ (⟨#[45]⟩ : ByteArray)) ++ t121) ++ (⟨#[45]⟩ : ByteArray)) ++ t122) ++ (⟨#[84]⟩ : ByteArray)) ++ t123) ++ (⟨#[58]⟩ : ByteArray)) ++ t124) ++ (⟨#[58]⟩ : ByteArray)) ++ t125) ++ ((⟨#[46]⟩ : ByteArray) ++ t126)).size + 1 ≤ 9223372036854775807 then (some ((((((((((((t120 ++ (⟨#[45]⟩ : ByteArray)) ++ t121) ++ (⟨#[45]⟩ : ByteArray)) ++ t122) ++ (⟨#[84]⟩ : ByteArray)) ++ t123) ++ (⟨#[58]⟩ : ByteArray)) ++ t124) ++ (⟨#[58]⟩ : ByteArray)) ++ t125) ++ ((⟨#[46]⟩ : ByteArray) ++ t126)) ++ (⟨#[90]⟩ : ByteArray), 0)) else (none)) else (none)) else (none))) else (if ((((((((((t120 ++ (⟨#[45]⟩ : ByteArray)) ++ t121) ++ (⟨#[45]⟩ : ByteArray)) ++ t122) ++ (⟨#[84]⟩ : ByteArray)) ++ t123) ++ (⟨#[58]⟩ : ByteArray)) ++ t124) ++ (⟨#[58]⟩ : ByteArray)) ++ t125).size + 1 ≤ 9223372036854775807 then (some (((((((((((t120 ++ (⟨#[45]⟩ : ByteArray)) ++ t121) ++ (⟨#[45]⟩ : ByteArray)) ++ t122) ++ (⟨#[84]⟩ : ByteArray)) ++ t123) ++ (⟨#[58]⟩ : ByteArray)) ++ t124) ++ (⟨#[58]⟩ : ByteArray)) ++ t125) ++ (⟨#[90]⟩ : ByteArray), 0)) else (none))) else (none))) else (none)) else (none))) else (none)) else (none))) else (none)) else (none))) else (none)) else (none))) else (none)))) else (some ((⟨#[]⟩ : ByteArray), bt113.2.2.2)))
theorem moment_Print.mono : ∀ a0 k, LeO (moment_Print.f k a0) (moment_Print.f (k + 1) a0) := by
 intro a0 k
 unfold moment_Print.f
 repeat' first
   | (with_reducible exact moment_Date.mono _ _)
   | (with_reducible exact moment_digits.mono _ _ _)
   | (with_reducible exact LeO.refl _)
   | (with_reducible exact LeO.none _)
   | (with_reducible refine LeO.ite ?_ ?_)
   | (with_reducible refine LeO.bind ?_ (fun _ => ?_))
   | exact moment_Date.mono _ _
   | exact moment_digits.mono _ _ _
   | exact LeO.none _
   | refine LeO.ite ?_ ?_
   | refine LeO.bind ?_ (fun _ => ?_)
def moment_Print.T5 : Bool × List (List Nat × List Nat) := (true, [([], []), ([0], [0]), ([1], [1]), ([2], [2]), ([], []), ([4], [4]), ([5, 2], [5]), ([3, 6], [3, 6]), ([7], [7]), ([], []), ([9], [9]), ([10, 6], [10]), ([8, 11], [8, 11]), ([12], [12]), ([], []), ([14], [14]), ([15, 11], [15]), ([13, 16], [13, 16]), ([17], [17]), ([], []), ([19], [19]), ([20], [20]), ([21, 16], [21]), ([18, 22], [18, 22]), ([23], [23]), ([], []), ([25], [25]), ([26], [26]), ([27, 22], [27]), ([24, 28], [24, 28]), ([29, 28, 0, 1, 2, 3, 4, 5, 6, 7, 8, 9, 10, 11, 12, 13, 14, 15, 16, 17, 18, 19, 20, 21, 22, 23, 24, 25, 26, 27, 28, 29], [29])])
def moment_Print.B5 : List Nat := [0, 1, 3, 7, 0, 16, 55, 127, 255, 0, 512, 1655, 4095, 8191, 0, 16384, 52855, 131071, 262143, 0, 524288, 1572864, 3788407, 8388607, 16777215, 0, 33554432, 100663296, 242863735, 536870911, 1073741823]
theorem moment_Print.tab5 : rtab .any (opsOf Tryd.f9 5) = moment_Print.T5 := by kernel_rfl
theorem moment_Print.bits5 : waitsOk moment_Print.T5.2 moment_Print.B5 = true := by kernel_rfl
set_option maxHeartbeats 8000000 in
set_option maxRecDepth 100000 in
theorem moment_Print.calls (k : Nat) (a0 : Int) (r1 : ByteArray) (r2 : Int) (w : World) (h : moment_Print.f k a0 = some (r1, r2)) :
  Calls Tryd.prog 9 #[.int .i64 a0] w fun e w' => e = .returned (.tuple #[.string r1, .int .i64 r2]) ∧ Below w.heap.size w w' := by
 have hu26 := Tryd.underlying26
 have HB := Aside0.mk (Below.refl w.heap.size w)
 have H : ((moment_Date.f k a0).bind fun bt113 => (if bt113.2.2.2 = 0 then ((moment_split.f a0).bind fun bt118 => ((moment_digits.f k bt113.1 4).bind fun t120 => (if t120.size + 1 ≤ 9223372036854775807 then ((moment_digits.f k bt113.2.1 2).bind fun t121 => (if (t120 ++ (⟨#[45]⟩ : ByteArray)).size + t121.size ≤ 9223372036854775807 then (if ((t120 ++ (⟨#[45]⟩ : ByteArray)) ++ t121).size + 1 ≤ 9223372036854775807 then ((moment_digits.f k bt113.2.2.1 2).bind fun t122 => (if (((t120 ++ (⟨#[45]⟩ : ByteArray)) ++ t121) ++ (⟨#[45]⟩ : ByteArray)).size + t122.size ≤ 9223372036854775807 then (if ((((t120 ++ (⟨#[45]⟩ : ByteArray)) ++ t121) ++ (⟨#[45]⟩ : ByteArray)) ++ t122).size + 1 ≤ 9223372036854775807 then ((moment_digits.f k (wrap64 (Int.tdiv bt118.2 3600000)) 2).bind fun t123 => (if (((((t120 ++ (⟨#[45]⟩ : ByteArray)) ++ t121) ++ (⟨#[45]⟩ : ByteArray)) ++ t122) ++ (⟨#[84]⟩ : ByteArray)).size + t123.size ≤ 9223372036854775807 then (if ((((((t120 ++ (⟨#[45]⟩ : ByteArray)) ++ t121) ++ (⟨#[45]⟩ : ByteArray)) ++ t122) ++ (⟨#[84]⟩ : ByteArray)) ++ t123).size + 1 ≤ 9223372036854775807 then ((moment_digits.f k (Int.tmod (wrap64 (Int.tdiv bt118.2 60000)) 60) 2).bind fun t124 => (if (((((((t120 ++ (⟨#[45]⟩ : ByteArray)) ++ t121) ++ (⟨#[45]⟩ : ByteArray)) ++ t122) ++ (⟨#[84]⟩ : ByteArray)) ++ t123) ++ (⟨#[58]⟩ : ByteArray)).size + t124.size ≤ 9223372036854775807 then (if ((((((((t120 ++ (⟨#[45]⟩ : ByteArray)) ++ t121) ++ (⟨#[45]⟩ : ByteArray)) ++ t122) ++ (⟨#[84]⟩ : ByteArray)) ++ t123) ++ (⟨#[58]⟩ : ByteArray)) ++ t124).size + 1 ≤ 9223372036854775807 then ((moment_digits.f k (Int.tmod (wrap64 (Int.tdiv bt118.2 1000)) 60) 2).bind fun t125 => (if (((((((((t120 ++ (⟨#[45]⟩ : ByteArray)) ++ t121) ++ (⟨#[45]⟩ : ByteArray)) ++ t122) ++ (⟨#[84]⟩ : ByteArray)) ++ t123) ++ (⟨#[58]⟩ : ByteArray)) ++ t124) ++ (⟨#[58]⟩ : ByteArray)).size + t125.size ≤ 9223372036854775807 then (if (Int.tmod bt118.2 1000) > 0 then ((moment_digits.f k (Int.tmod bt118.2 1000) 3).bind fun t126 => (if 1 + t126.size ≤ 9223372036854775807 then (if ((((((((((t120 ++ (⟨#[45]⟩ : ByteArray)) ++ t121) ++ (⟨#[45]⟩ : ByteArray)) ++ t122) ++ (⟨#[84]⟩ : ByteArray)) ++ t123) ++ (⟨#[58]⟩ : ByteArray)) ++ t124) ++ (⟨#[58]⟩ : ByteArray)) ++ t125).size + ((⟨#[46]⟩ : ByteArray) ++ t126).size ≤ 9223372036854775807 then (if (((((((((((t120 ++ (⟨#[45]⟩ : ByteArray)) ++ t121) ++ (⟨#[45]⟩ : ByteArray)) ++ t122) ++ (⟨#[84]⟩ : ByteArray)) ++ t123) ++ (⟨#[58]⟩ : ByteArray)) ++ t124) ++ (⟨#[58]⟩ : ByteArray)) ++ t125) ++ ((⟨#[46]⟩ : ByteArray) ++ t126)).size + 1 ≤ 9223372036854775807 then (some ((((((((((((t120 ++ (⟨#[45]⟩ : ByteArray)) ++ t121) ++ (⟨#[45]⟩ : ByteArray)) ++ t122) ++ (⟨#[84]⟩ : ByteArray)) ++ t123) ++ (⟨#[58]⟩ : ByteArray)) ++ t124) ++ (⟨#[58]⟩ : ByteArray)) ++ t125) ++ ((⟨#[46]⟩ : ByteArray) ++ t126)) ++ (⟨#[90]⟩ : ByteArray), 0)) else (none)) else (none)) else (none))) else (if ((((((((((t120 ++ (⟨#[45]⟩ : ByteArray)) ++ t121) ++ (⟨#[45]⟩ : ByteArray)) ++ t122) ++ (⟨#[84]⟩ : ByteArray)) ++ t123) ++ (⟨#[58]⟩ : ByteArray)) ++ t124) ++ (⟨#[58]⟩ : ByteArray)) ++ t125).size + 1 ≤ 9223372036854775807 then (some (((((((((((t120 ++ (⟨#[45]⟩ : ByteArray)) ++ t121) ++ (⟨#[45]⟩ : ByteArray)) ++ t122) ++ (⟨#[84]⟩ : ByteArray)) ++ t123) ++ (⟨#[58]⟩ : ByteArray)) ++ t124) ++ (⟨#[58]⟩ : ByteArray)) ++ t125) ++ (⟨#[90]⟩ : ByteArray), 0)) else (none))) else (none))) else (none)) else (none))) else (none)) else (none))) else (none)) else (none))) else (none)) else (none))) else (none)))) else (some ((⟨#[]⟩ : ByteArray), bt113.2.2.2)))) = some (r1, r2) := h
 clear h
 replace H := Option.bind_eq_some_iff.mp H
 obtain ⟨⟨t113, t114, t115, t116⟩, A20, H⟩ := H
 replace H : (if t116 = 0 then ((moment_split.f a0).bind fun bt118 => ((moment_digits.f k t113 4).bind fun t120 => (if t120.size + 1 ≤ 9223372036854775807 then ((moment_digits.f k t114 2).bind fun t121 => (if (t120 ++ (⟨#[45]⟩ : ByteArray)).size + t121.size ≤ 9223372036854775807 then (if ((t120 ++ (⟨#[45]⟩ : ByteArray)) ++ t121).size + 1 ≤ 9223372036854775807 then ((moment_digits.f k t115 2).bind fun t122 => (if (((t120 ++ (⟨#[45]⟩ : ByteArray)) ++ t121) ++ (⟨#[45]⟩ : ByteArray)).size + t122.size ≤ 9223372036854775807 then (if ((((t120 ++ (⟨#[45]⟩ : ByteArray)) ++ t121) ++ (⟨#[45]⟩ : ByteArray)) ++ t122).size + 1 ≤ 9223372036854775807 then ((moment_digits.f k (wrap64 (Int.tdiv bt118.2 3600000)) 2).bind fun t123 => (if (((((t120 ++ (⟨#[45]⟩ : ByteArray)) ++ t121) ++ (⟨#[45]⟩ : ByteArray)) ++ t122) ++ (⟨#[84]⟩ : ByteArray)).size + t123.size ≤ 9223372036854775807 then (if ((((((t120 ++ (⟨#[45]⟩ : ByteArray)) ++ t121) ++ (⟨#[45]⟩ : ByteArray)) ++ t122) ++ (⟨#[84]⟩ : ByteArray)) ++ t123).size + 1 ≤ 9223372036854775807 then ((moment_digits.f k (Int.tmod (wrap64 (Int.tdiv bt118.2 60000)) 60) 2).bind fun t124 => (if (((((((t120 ++ (⟨#[45]⟩ : ByteArray)) ++ t121) ++ (⟨#[45]⟩ : ByteArray)) ++ t122) ++ (⟨#[84]⟩ : ByteArray)) ++ t123) ++ (⟨#[58]⟩ : ByteArray)).size + t124.size ≤ 9223372036854775807 then (if ((((((((t120 ++ (⟨#[45]⟩ : ByteArray)) ++ t121) ++ (⟨#[45]⟩ : ByteArray)) ++ t122) ++ (⟨#[84]⟩ : ByteArray)) ++ t123) ++ (⟨#[58]⟩ : ByteArray)) ++ t124).size + 1 ≤ 9223372036854775807 then ((moment_digits.f k (Int.tmod (wrap64 (Int.tdiv bt118.2 1000)) 60) 2).bind fun t125 => (if (((((((((t120 ++ (⟨#[45]⟩ : ByteArray)) ++ t121) ++ (⟨#[45]⟩ : ByteArray)) ++ t122) ++ (⟨#[84]⟩ : ByteArray)) ++ t123) ++ (⟨#[58]⟩ : ByteArray)) ++ t124) ++ (⟨#[58]⟩ : ByteArray)).size + t125.size ≤ 9223372036854775807 then (if (Int.tmod bt118.2 1000) > 0 then ((moment_digits.f k (Int.tmod bt118.2 1000) 3).bind fun t126 => (if 1 + t126.size ≤ 9223372036854775807 then (if ((((((((((t120 ++ (⟨#[45]⟩ : ByteArray)) ++ t121) ++ (⟨#[45]⟩ : ByteArray)) ++ t122) ++ (⟨#[84]⟩ : ByteArray)) ++ t123) ++ (⟨#[58]⟩ : ByteArray)) ++ t124) ++ (⟨#[58]⟩ : ByteArray)) ++ t125).size + ((⟨#[46]⟩ : ByteArray) ++ t126).size ≤ 9223372036854775807 then (if (((((((((((t120 ++ (⟨#[45]⟩ : ByteArray)) ++ t121) ++ (⟨#[45]⟩ : ByteArray)) ++ t122) ++ (⟨#[84]⟩ : ByteArray)) ++ t123) ++ (⟨#[58]⟩ : ByteArray)) ++ t124) ++ (⟨#[58]⟩ : ByteArray)) ++ t125) ++ ((⟨#[46]⟩ : ByteArray) ++ t126)).size + 1 ≤ 9223372036854775807 then (some ((((((((((((t120 ++ (⟨#[45]⟩ : ByteArray)) ++ t121) ++ (⟨#[45]⟩ : ByteArray)) ++ t122) ++ (⟨#[84]⟩ : ByteArray)) ++ t123) ++ (⟨#[58]⟩ : ByteArray)) ++ t124) ++ (⟨#[58]⟩ : ByteArray)) ++ t125) ++ ((⟨#[46]⟩ : ByteArray) ++ t126)) ++ (⟨#[90]⟩ : ByteArray), 0)) else (none)) else (none)) else (none))) else (if ((((((((((t120 ++ (⟨#[45]⟩ : ByteArray)) ++ t121) ++ (⟨#[45]⟩ : ByteArray)) ++ t122) ++ (⟨#[84]⟩ : ByteArray)) ++ t123) ++ (⟨#[58]⟩ : ByteArray)) ++ t124) ++ (⟨#[58]⟩ : ByteArray)) ++ t125).size + 1 ≤ 9223372036854775807 then (some (((((((((((t120 ++ (⟨#[45]⟩ : ByteArray)) ++ t121) ++ (⟨#[45]⟩ : ByteArray)) ++ t122) ++ (⟨#[84]⟩ : ByteArray)) ++ t123) ++ (⟨#[58]⟩ : ByteArray)) ++ t124) ++ (⟨#[58]⟩ : ByteArray)) ++ t125) ++ (⟨#[90]⟩ : ByteArray), 0)) else (none))) else (none))) else (none)) else (none))) else (none)) else (none))) else (none)) else (none))) else (none)) else (none))) else (none)))) else (some ((⟨#[]⟩ : ByteArray), t116))) = some (r1, r2) := H
 have A2 := Aside0.mk A20
 clear A20
 by_cases c3 : t116 = 0
 ·rw [if_pos c3] at H
  have c3b0 : (t116 == 0) = true := beq_iff_eq.mpr c3
  have c3b1 : (t116 != 0) = false := bne_eq_false_iff_eq.mpr c3
  clear c3
  replace H := Option.bind_eq_some_iff.mp H
  obtain ⟨⟨t118, t119⟩, A40, H⟩ := H
  replace H : ((moment_digits.f k t113 4).bind fun t120 => (if t120.size + 1 ≤ 9223372036854775807 then ((moment_digits.f k t114 2).bind fun t121 => (if (t120 ++ (⟨#[45]⟩ : ByteArray)).size + t121.size ≤ 9223372036854775807 then (if ((t120 ++ (⟨#[45]⟩ : ByteArray)) ++ t121).size + 1 ≤ 9223372036854775807 then ((moment_digits.f k t115 2).bind fun t122 => (if (((t120 ++ (⟨#[45]⟩ : ByteArray)) ++ t121) ++ (⟨#[45]⟩ : ByteArray)).size + t122.size ≤ 9223372036854775807 then (if ((((t120 ++ (⟨#[45]⟩ : ByteArray)) ++ t121) ++ (⟨#[45]⟩ : ByteArray)) ++ t122).size + 1 ≤ 9223372036854775807 then ((moment_digits.f k (wrap64 (Int.tdiv t119 3600000)) 2).bind fun t123 => (if (((((t120 ++ (⟨#[45]⟩ : ByteArray)) ++ t121) ++ (⟨#[45]⟩ : ByteArray)) ++ t122) ++ (⟨#[84]⟩ : ByteArray)).size + t123.size ≤ 9223372036854775807 then (if ((((((t120 ++ (⟨#[45]⟩ : ByteArray)) ++ t121) ++ (⟨#[45]⟩ : ByteArray)) ++ t122) ++ (⟨#[84]⟩ : ByteArray)) ++ t123).size + 1 ≤ 9223372036854775807 then ((moment_digits.f k (Int.tmod (wrap64 (Int.tdiv t119 60000)) 60) 2).bind fun t124 => (if (((((((t120 ++ (⟨#[45]⟩ : ByteArray)) ++ t121) ++ (⟨#[45]⟩ : ByteArray)) ++ t122) ++ (⟨#[84]⟩ : ByteArray)) ++ t123) ++ (⟨#[58]⟩ : ByteArray)).size + t124.size ≤ 9223372036854775807 then (if ((((((((t120 ++ (⟨#[45]⟩ : ByteArray)) ++ t121) ++ (⟨#[45]⟩ : ByteArray)) ++ t122) ++ (⟨#[84]⟩ : ByteArray)) ++ t123) ++ (⟨#[58]⟩ : ByteArray)) ++ t124).size + 1 ≤ 9223372036854775807 then ((moment_digits.f k (Int.tmod (wrap64 (Int.tdiv t119 1000)) 60) 2).bind fun t125 => (if (((((((((t120 ++ (⟨#[45]⟩ : ByteArray)) ++ t121) ++ (⟨#[45]⟩ : ByteArray)) ++ t122) ++ (⟨#[84]⟩ : ByteArray)) ++ t123) ++ (⟨#[58]⟩ : ByteArray)) ++ t124) ++ (⟨#[58]⟩ : ByteArray)).size + t125.size ≤ 9223372036854775807 then (if (Int.tmod t119 1000) > 0 then ((moment_digits.f k (Int.tmod t119 1000) 3).bind fun t126 => (if 1 + t126.size ≤ 9223372036854775807 then (if ((((((((((t120 ++ (⟨#[45]⟩ : ByteArray)) ++ t121) ++ (⟨#[45]⟩ : ByteArray)) ++ t122) ++ (⟨#[84]⟩ : ByteArray)) ++ t123) ++ (⟨#[58]⟩ : ByteArray)) ++ t124) ++ (⟨#[58]⟩ : ByteArray)) ++ t125).size + ((⟨#[46]⟩ : ByteArray) ++ t126).size ≤ 9223372036854775807 then (if (((((((((((t120 ++ (⟨#[45]⟩ : ByteArray)) ++ t121) ++ (⟨#[45]⟩ : ByteArray)) ++ t122) ++ (⟨#[84]⟩ : ByteArray)) ++ t123) ++ (⟨#[58]⟩ : ByteArray)) ++ t124) ++ (⟨#[58]⟩ : ByteArray)) ++ t125) ++ ((⟨#[46]⟩ : ByteArray) ++ t126)).size + 1 ≤ 9223372036854775807 then (some ((((((((((((t120 ++ (⟨#[45]⟩ : ByteArray)) ++ t121) ++ (⟨#[45]⟩ : ByteArray)) ++ t122) ++ (⟨#[84]⟩ : ByteArray)) ++ t123) ++ (⟨#[58]⟩ : ByteArray)) ++ t124) ++ (⟨#[58]⟩ : ByteArray)) ++ t125) ++ ((⟨#[46]⟩ : ByteArray) ++ t126)) ++ (⟨#[90]⟩ : ByteArray), 0)) else (none)) else (none)) else (none))) else (if ((((((((((t120 ++ (⟨#[45]⟩ : ByteArray)) ++ t121) ++ (⟨#[45]⟩ : ByteArray)) ++ t122) ++ (⟨#[84]⟩ : ByteArray)) ++ t123) ++ (⟨#[58]⟩ : ByteArray)) ++ t124) ++ (⟨#[58]⟩ : ByteArray)) ++ t125).size + 1 ≤ 9223372036854775807 then (some (((((((((((t120 ++ (⟨#[45]⟩ : ByteArray)) ++ t121) ++ (⟨#[45]⟩ : ByteArray)) ++ t122) ++ (⟨#[84]⟩ : ByteArray)) ++ t123) ++ (⟨#[58]⟩ : ByteArray)) ++ t124) ++ (⟨#[58]⟩ : ByteArray)) ++ t125) ++ (⟨#[90]⟩ : ByteArray), 0)) else (none))) else (none))) else (none)) else (none))) else (none)) else (none))) else (none)) else (none))) else (none)) else (none))) else (none))) = some (r1, r2) := H
  have A4 := Aside0.mk A40
  clear A40
  replace H := Option.bind_eq_some_iff.mp H
  obtain ⟨t120, A50, H⟩ := H
  replace H : (if t120.size + 1 ≤ 9223372036854775807 then ((moment_digits.f k t114 2).bind fun t121 => (if (t120 ++ (⟨#[45]⟩ : ByteArray)).size + t121.size ≤ 9223372036854775807 then (if ((t120 ++ (⟨#[45]⟩ : ByteArray)) ++ t121).size + 1 ≤ 9223372036854775807 then ((moment_digits.f k t115 2).bind fun t122 => (if (((t120 ++ (⟨#[45]⟩ : ByteArray)) ++ t121) ++ (⟨#[45]⟩ : ByteArray)).size + t122.size ≤ 9223372036854775807 then (if ((((t120 ++ (⟨#[45]⟩ : ByteArray)) ++ t121) ++ (⟨#[45]⟩ : ByteArray)) ++ t122).size + 1 ≤ 9223372036854775807 then ((moment_digits.f k (wrap64 (Int.tdiv t119 3600000)) 2).bind fun t123 => (if (((((t120 ++ (⟨#[45]⟩ : ByteArray)) ++ t121) ++ (⟨#[45]⟩ : ByteArray)) ++ t122) ++ (⟨#[84]⟩ : ByteArray)).size + t123.size ≤ 9223372036854775807 then (if ((((((t120 ++ (⟨#[45]⟩ : ByteArray)) ++ t121) ++ (⟨#[45]⟩ : ByteArray)) ++ t122) ++ (⟨#[84]⟩ : ByteArray)) ++ t123).size + 1 ≤ 9223372036854775807 then ((moment_digits.f k (Int.tmod (wrap64 (Int.tdiv t119 60000)) 60) 2).bind fun t124 => (if (((((((t120 ++ (⟨#[45]⟩ : ByteArray)) ++ t121) ++ (⟨#[45]⟩ : ByteArray)) ++ t122) ++ (⟨#[84]⟩ : ByteArray)) ++ t123) ++ (⟨#[58]⟩ : ByteArray)).size + t124.size ≤ 9223372036854775807 then (if ((((((((t120 ++ (⟨#[45]⟩ : ByteArray)) ++ t121) ++ (⟨#[45]⟩ : ByteArray)) ++ t122) ++ (⟨#[84]⟩ : ByteArray)) ++ t123) ++ (⟨#[58]⟩ : ByteArray)) ++ t124).size + 1 ≤ 9223372036854775807 then ((moment_digits.f k (Int.tmod (wrap64 (Int.tdiv t119 1000)) 60) 2).bind fun t125 => (if (((((((((t120 ++ (⟨#[45]⟩ : ByteArray)) ++ t121) ++ (⟨#[45]⟩ : ByteArray)) ++ t122) ++ (⟨#[84]⟩ : ByteArray)) ++ t123) ++ (⟨#[58]⟩ : ByteArray)) ++ t124) ++ (⟨#[58]⟩ : ByteArray)).size + t125.size ≤ 9223372036854775807 then (if (Int.tmod t119 1000) > 0 then ((moment_digits.f k (Int.tmod t119 1000) 3).bind fun t126 => (if 1 + t126.size ≤ 9223372036854775807 then (if ((((((((((t120 ++ (⟨#[45]⟩ : ByteArray)) ++ t121) ++ (⟨#[45]⟩ : ByteArray)) ++ t122) ++ (⟨#[84]⟩ : ByteArray)) ++ t123) ++ (⟨#[58]⟩ : ByteArray)) ++ t124) ++ (⟨#[58]⟩ : ByteArray)) ++ t125).size + ((⟨#[46]⟩ : ByteArray) ++ t126).size ≤ 9223372036854775807 then (if (((((((((((t120 ++ (⟨#[45]⟩ : ByteArray)) ++ t121) ++ (⟨#[45]⟩ : ByteArray)) ++ t122) ++ (⟨#[84]⟩ : ByteArray)) ++ t123) ++ (⟨#[58]⟩ : ByteArray)) ++ t124) ++ (⟨#[58]⟩ : ByteArray)) ++ t125) ++ ((⟨#[46]⟩ : ByteArray) ++ t126)).size + 1 ≤ 9223372036854775807 then (some ((((((((((((t120 ++ (⟨#[45]⟩ : ByteArray)) ++ t121) ++ (⟨#[45]⟩ : ByteArray)) ++ t122) ++ (⟨#[84]⟩ : ByteArray)) ++ t123) ++ (⟨#[58]⟩ : ByteArray)) ++ t124) ++ (⟨#[58]⟩ : ByteArray)) ++ t125) ++ ((⟨#[46]⟩ : ByteArray) ++ t126)) ++ (⟨#[90]⟩ : ByteArray), 0)) else (none)) else (none)) else (none))) else (if ((((((((((t120 ++ (⟨#[45]⟩ : ByteArray)) ++ t121) ++ (⟨#[45]⟩ : ByteArray)) ++ t122) ++ (⟨#[84]⟩ : ByteArray)) ++ t123) ++ (⟨#[58]⟩ : ByteArray)) ++ t124) ++ (⟨#[58]⟩ : ByteArray)) ++ t125).size + 1 ≤ 9223372036854775807 then (some (((((((((((t120 ++ (⟨#[45]⟩ : ByteArray)) ++ t121) ++ (⟨#[45]⟩ : ByteArray)) ++ t122) ++ (⟨#[84]⟩ : ByteArray)) ++ t123) ++ (⟨#[58]⟩ : ByteArray)) ++ t124) ++ (⟨#[58]⟩ : ByteArray)) ++ t125) ++ (⟨#[90]⟩ : ByteArray), 0)) else (none))) else (none))) else (none)) else (none))) else (none)) else (none))) else (none)) else (none))) else (none)) else (none))) else (none)) = some (r1, r2) := H
  have A5 := Aside0.mk A50
  clear A50
  by_cases c6 : t120.size + 1 ≤ 9223372036854775807
  ·rw [if_pos c6] at H
   have c6b0 := eq_true c6
   have c6b1 : decide (t120.size + 1 ≤ 9223372036854775807) = true := decide_eq_true c6
   try have c6b2 : (9223372036854775807 < t120.size + 1) = False := eq_false (Nat.not_lt.2 c6)
   replace H := Option.bind_eq_some_iff.mp H
   obtain ⟨t121, A70, H⟩ := H
   replace H : (if (t120 ++ (⟨#[45]⟩ : ByteArray)).size + t121.size ≤ 9223372036854775807 then (if ((t120 ++ (⟨#[45]⟩ : ByteArray)) ++ t121).size + 1 ≤ 9223372036854775807 then ((moment_digits.f k t115 2).bind fun t122 => (if (((t120 ++ (⟨#[45]⟩ : ByteArray)) ++ t121) ++ (⟨#[45]⟩ : ByteArray)).size + t122.size ≤ 9223372036854775807 then (if ((((t120 ++ (⟨#[45]⟩ : ByteArray)) ++ t121) ++ (⟨#[45]⟩ : ByteArray)) ++ t122).size + 1 ≤ 9223372036854775807 then ((moment_digits.f k (wrap64 (Int.tdiv t119 3600000)) 2).bind fun t123 => (if (((((t120 ++ (⟨#[45]⟩ : ByteArray)) ++ t121) ++ (⟨#[45]⟩ : ByteArray)) ++ t122) ++ (⟨#[84]⟩ : ByteArray)).size + t123.size ≤ 9223372036854775807 then (if ((((((t120 ++ (⟨#[45]⟩ : ByteArray)) ++ t121) ++ (⟨#[45]⟩ : ByteArray)) ++ t122) ++ (⟨#[84]⟩ : ByteArray)) ++ t123).size + 1 ≤ 9223372036854775807 then ((moment_digits.f k (Int.tmod (wrap64 (Int.tdiv t119 60000)) 60) 2).bind fun t124 => (if (((((((t120 ++ (⟨#[45]⟩ : ByteArray)) ++ t121) ++ (⟨#[45]⟩ : ByteArray)) ++ t122) ++ (⟨#[84]⟩ : ByteArray)) ++ t123) ++ (⟨#[58]⟩ : ByteArray)).size + t124.size ≤ 9223372036854775807 then (if ((((((((t120 ++ (⟨#[45]⟩ : ByteArray)) ++ t121) ++ (⟨#[45]⟩ : ByteArray)) ++ t122) ++ (⟨#[84]⟩ : ByteArray)) ++ t123) ++ (⟨#[58]⟩ : ByteArray)) ++ t124).size + 1 ≤ 9223372036854775807 then ((moment_digits.f k (Int.tmod (wrap64 (Int.tdiv t119 1000)) 60) 2).bind fun t125 => (if (((((((((t120 ++ (⟨#[45]⟩ : ByteArray)) ++ t121) ++ (⟨#[45]⟩ : ByteArray)) ++ t122) ++ (⟨#[84]⟩ : ByteArray)) ++ t123) ++ (⟨#[58]⟩ : ByteArray)) ++ t124) ++ (⟨#[58]⟩ : ByteArray)).size + t125.size ≤ 9223372036854775807 then (if (Int.tmod t119 1000) > 0 then ((moment_digits.f k (Int.tmod t119 1000) 3).bind fun t126 => (if 1 + t126.size ≤ 9223372036854775807 then (if ((((((((((t120 ++ (⟨#[45]⟩ : ByteArray)) ++ t121) ++ (⟨#[45]⟩ : ByteArray)) ++ t122) ++ (⟨#[84]⟩ : ByteArray)) ++ t123) ++ (⟨#[58]⟩ : ByteArray)) ++ t124) ++ (⟨#[58]⟩ : ByteArray)) ++ t125).size + ((⟨#[46]⟩ : ByteArray) ++ t126).size ≤ 9223372036854775807 then (if (((((((((((t120 ++ (⟨#[45]⟩ : ByteArray)) ++ t121) ++ (⟨#[45]⟩ : ByteArray)) ++ t122) ++ (⟨#[84]⟩ : ByteArray)) ++ t123) ++ (⟨#[58]⟩ : ByteArray)) ++ t124) ++ (⟨#[58]⟩ : ByteArray)) ++ t125) ++ ((⟨#[46]⟩ : ByteArray) ++ t126)).size + 1 ≤ 9223372036854775807 then (some ((((((((((((t120 ++ (⟨#[45]⟩ : ByteArray)) ++ t121) ++ (⟨#[45]⟩ : ByteArray)) ++ t122) ++ (⟨#[84]⟩ : ByteArray)) ++ t123) ++ (⟨#[58]⟩ : ByteArray)) ++ t124) ++ (⟨#[58]⟩ : ByteArray)) ++ t125) ++ ((⟨#[46]⟩ : ByteArray) ++ t126)) ++ (⟨#[90]⟩ : ByteArray), 0)) else (none)) else (none)) else (none))) else (if ((((((((((t120 ++ (⟨#[45]⟩ : ByteArray)) ++ t121) ++ (⟨#[45]⟩ : ByteArray)) ++ t122) ++ (⟨#[84]⟩ : ByteArray)) ++ t123) ++ (⟨#[58]⟩ : ByteArray)) ++ t124) ++ (⟨#[58]⟩ : ByteArray)) ++ t125).size + 1 ≤ 9223372036854775807 then (some (((((((((((t120 ++ (⟨#[45]⟩ : ByteArray)) ++ t121) ++ (⟨#[45]⟩ : ByteArray)) ++ t122) ++ (⟨#[84]⟩ : ByteArray)) ++ t123) ++ (⟨#[58]⟩ : ByteArray)) ++ t124) ++ (⟨#[58]⟩ : ByteArray)) ++ t125) ++ (⟨#[90]⟩ : ByteArray), 0)) else (none))) else (none))) else (none)) else (none))) else (none)) else (none))) else (none)) else (none))) else (none)) else (none)) = some (r1, r2) := H
   have A7 := Aside0.mk A70
   clear A70
   by_cases c8 : (t120 ++ (⟨#[45]⟩ : ByteArray)).size + t121.size ≤ 9223372036854775807
   ·rw [if_pos c8] at H
    have c8b0 := eq_true c8
    have c8b1 : decide ((t120 ++ (⟨#[45]⟩ : ByteArray)).size + t121.size ≤ 9223372036854775807) = true := decide_eq_true c8
    try have c8b2 : (9223372036854775807 < (t120 ++ (⟨#[45]⟩ : ByteArray)).size + t121.size) = False := eq_false (Nat.not_lt.2 c8)
    try have c8b2z : (9223372036854775807 < t120.size + 1 + t121.size) = False := by have h_ := c8b2; simp only [ByteArray.size_append] at h_; exact h_
    by_cases c9 : ((t120 ++ (⟨#[45]⟩ : ByteArray)) ++ t121).size + 1 ≤ 9223372036854775807
    ·rw [if_pos c9] at H
     have c9b0 := eq_true c9
     have c9b1 : decide (((t120 ++ (⟨#[45]⟩ : ByteArray)) ++ t121).size + 1 ≤ 9223372036854775807) = true := decide_eq_true c9
     try have c9b2 : (9223372036854775807 < ((t120 ++ (⟨#[45]⟩ : ByteArray)) ++ t121).size + 1) = False := eq_false (Nat.not_lt.2 c9)
     try have c9b2z : (9223372036854775807 < t120.size + 1 + t121.size + 1) = False := by have h_ := c9b2; simp only [ByteArray.size_append] at h_; exact h_
     replace H := Option.bind_eq_some_iff.mp H
     obtain ⟨t122, A100, H⟩ := H
     replace H : (if (((t120 ++ (⟨#[45]⟩ : ByteArray)) ++ t121) ++ (⟨#[45]⟩ : ByteArray)).size + t122.size ≤ 9223372036854775807 then (if ((((t120 ++ (⟨#[45]⟩ : ByteArray)) ++ t121) ++ (⟨#[45]⟩ : ByteArray)) ++ t122).size + 1 ≤ 9223372036854775807 then ((moment_digits.f k (wrap64 (Int.tdiv t119 3600000)) 2).bind fun t123 => (if (((((t120 ++ (⟨#[45]⟩ : ByteArray)) ++ t121) ++ (⟨#[45]⟩ : ByteArray)) ++ t122) ++ (⟨#[84]⟩ : ByteArray)).size + t123.size ≤ 9223372036854775807 then (if ((((((t120 ++ (⟨#[45]⟩ : ByteArray)) ++ t121) ++ (⟨#[45]⟩ : ByteArray)) ++ t122) ++ (⟨#[84]⟩ : ByteArray)) ++ t123).size + 1 ≤ 9223372036854775807 then ((moment_digits.f k (Int.tmod (wrap64 (Int.tdiv t119 60000)) 60) 2).bind fun t124 => (if (((((((t120 ++ (⟨#[45]⟩ : ByteArray)) ++ t121) ++ (⟨#[45]⟩ : ByteArray)) ++ t122) ++ (⟨#[84]⟩ : ByteArray)) ++ t123) ++ (⟨#[58]⟩ : ByteArray)).size + t124.size ≤ 9223372036854775807 then (if ((((((((t120 ++ (⟨#[45]⟩ : ByteArray)) ++ t121) ++ (⟨#[45]⟩ : ByteArray)) ++ t122) ++ (⟨#[84]⟩ : ByteArray)) ++ t123) ++ (⟨#[58]⟩ : ByteArray)) ++ t124).size + 1 ≤ 9223372036854775807 then ((moment_digits.f k (Int.tmod (wrap64 (Int.tdiv t119 1000)) 60) 2).bind fun t125 => (if (((((((((t120 ++ (⟨#[45]⟩ : ByteArray)) ++ t121) ++ (⟨#[45]⟩ : ByteArray)) ++ t122) ++ (⟨#[84]⟩ : ByteArray)) ++ t123) ++ (⟨#[58]⟩ : ByteArray)) ++ t124) ++ (⟨#[58]⟩ : ByteArray)).size + t125.size ≤ 9223372036854775807 then (if (Int.tmod t119 1000) > 0 then ((moment_digits.f k (Int.tmod t119 1000) 3).bind fun t126 => (if 1 + t126.size ≤ 9223372036854775807 then (if ((((((((((t120 ++ (⟨#[45]⟩ : ByteArray)) ++ t121) ++ (⟨#[45]⟩ : ByteArray)) ++ t122) ++ (⟨#[84]⟩ : ByteArray)) ++ t123) ++ (⟨#[58]⟩ : ByteArray)) ++ t124) ++ (⟨#[58]⟩ : ByteArray)) ++ t125).size + ((⟨#[46]⟩ : ByteArray) ++ t126).size ≤ 9223372036854775807 then (if (((((((((((t120 ++ (⟨#[45]⟩ : ByteArray)) ++ t121) ++ (⟨#[45]⟩ : ByteArray)) ++ t122) ++ (⟨#[84]⟩ : ByteArray)) ++ t123) ++ (⟨#[58]⟩ : ByteArray)) ++ t124) ++ (⟨#[58]⟩ : ByteArray)) ++ t125) ++ ((⟨#[46]⟩ : ByteArray) ++ t126)).size + 1 ≤ 9223372036854775807 then (some ((((((((((((t120 ++ (⟨#[45]⟩ : ByteArray)) ++ t121) ++ (⟨#[45]⟩ : ByteArray)) ++ t122) ++ (⟨#[84]⟩ : ByteArray)) ++ t123) ++ (⟨#[58]⟩ : ByteArray)) ++ t124) ++ (⟨#[58]⟩ : ByteArray)) ++ t125) ++ ((⟨#[46]⟩ : ByteArray) ++ t126)) ++ (⟨#[90]⟩ : ByteArray), 0)) else (none)) else (none)) else (none))) else (if ((((((((((t120 ++ (⟨#[45]⟩ : ByteArray)) ++ t121) ++ (⟨#[45]⟩ : ByteArray)) ++ t122) ++ (⟨#[84]⟩ : ByteArray)) ++ t123) ++ (⟨#[58]⟩ : ByteArray)) ++ t124) ++ (⟨#[58]⟩ : ByteArray)) ++ t125).size + 1 ≤ 9223372036854775807 then (some (((((((((((t120 ++ (⟨#[45]⟩ : ByteArray)) ++ t121) ++ (⟨#[45]⟩ : ByteArray)) ++ t122) ++ (⟨#[84]⟩ : ByteArray)) ++ t123) ++ (⟨#[58]⟩ : ByteArray)) ++ t124) ++ (⟨#[58]⟩ : ByteArray)) ++ t125) ++ (⟨#[90]⟩ : ByteArray), 0)) else (none))) else (none))) else (none)) else (none))) else (none)) else (none))) else (none)) else (none)) = some (r1, r2) := H
     have A10 := Aside0.mk A100
     clear A100
     by_cases c11 : (((t120 ++ (⟨#[45]⟩ : ByteArray)) ++ t121) ++ (⟨#[45]⟩ : ByteArray)).size + t122.size ≤ 9223372036854775807
     ·rw [if_pos c11] at H
      have c11b0 := eq_true c11
      have c11b1 : decide ((((t120 ++ (⟨#[45]⟩ : ByteArray)) ++ t121) ++ (⟨#[45]⟩ : ByteArray)).size + t122.size ≤ 9223372036854775807) = true := decide_eq_true c11
      try have c11b2 : (9223372036854775807 < (((t120 ++ (⟨#[45]⟩ : ByteArray)) ++ t121) ++ (⟨#[45]⟩ : ByteArray)).size + t122.size) = False := eq_false (Nat.not_lt.2 c11)
      try have c11b2z : (9223372036854775807 < t120.size + 1 + t121.size + 1 + t122.size) = False := by have h_ := c11b2; simp only [ByteArray.size_append] at h_; exact h_
      by_cases c12 : ((((t120 ++ (⟨#[45]⟩ : ByteArray)) ++ t121) ++ (⟨#[45]⟩ : ByteArray)) ++ t122).size + 1 ≤ 9223372036854775807
      ·rw [if_pos c12] at H
       have c12b0 := eq_true c12
       have c12b1 : decide (((((t120 ++ (⟨#[45]⟩ : ByteArray)) ++ t121) ++ (⟨#[45]⟩ : ByteArray)) ++ t122).size + 1 ≤ 9223372036854775807) = true := decide_eq_true c12
       try have c12b2 : (9223372036854775807 < ((((t120 ++ (⟨#[45]⟩ : ByteArray)) ++ t121) ++ (⟨#[45]⟩ : ByteArray)) ++ t122).size + 1) = False := eq_false (Nat.not_lt.2 c12)
       try have c12b2z : (9223372036854775807 < t120.size + 1 + t121.size + 1 + t122.size + 1) = False := by have h_ := c12b2; simp only [ByteArray.size_append] at h_; exact h_
       replace H := Option.bind_eq_some_iff.mp H
       obtain ⟨t123, A130, H⟩ := H
       replace H : (if (((((t120 ++ (⟨#[45]⟩ : ByteArray)) ++ t121) ++ (⟨#[45]⟩ : ByteArray)) ++ t122) ++ (⟨#[84]⟩ : ByteArray)).size + t123.size ≤ 9223372036854775807 then (if ((((((t120 ++ (⟨#[45]⟩ : ByteArray)) ++ t121) ++ (⟨#[45]⟩ : ByteArray)) ++ t122) ++ (⟨#[84]⟩ : ByteArray)) ++ t123).size + 1 ≤ 9223372036854775807 then ((moment_digits.f k (Int.tmod (wrap64 (Int.tdiv t119 60000)) 60) 2).bind fun t124 => (if (((((((t120 ++ (⟨#[45]⟩ : ByteArray)) ++ t121) ++ (⟨#[45]⟩ : ByteArray)) ++ t122) ++ (⟨#[84]⟩ : ByteArray)) ++ t123) ++ (⟨#[58]⟩ : ByteArray)).size + t124.size ≤ 9223372036854775807 then (if ((((((((t120 ++ (⟨#[45]⟩ : ByteArray)) ++ t121) ++ (⟨#[45]⟩ : ByteArray)) ++ t122) ++ (⟨#[84]⟩ : ByteArray)) ++ t123) ++ (⟨#[58]⟩ : ByteArray)) ++ t124).size + 1 ≤ 9223372036854775807 then ((moment_digits.f k (Int.tmod (wrap64 (Int.tdiv t119 1000)) 60) 2).bind fun t125 => (if (((((((((t120 ++ (⟨#[45]⟩ : ByteArray)) ++ t121) ++ (⟨#[45]⟩ : ByteArray)) ++ t122) ++ (⟨#[84]⟩ : ByteArray)) ++ t123) ++ (⟨#[58]⟩ : ByteArray)) ++ t124) ++ (⟨#[58]⟩ : ByteArray)).size + t125.size ≤ 9223372036854775807 then (if (Int.tmod t119 1000) > 0 then ((moment_digits.f k (Int.tmod t119 1000) 3).bind fun t126 => (if 1 + t126.size ≤ 9223372036854775807 then (if ((((((((((t120 ++ (⟨#[45]⟩ : ByteArray)) ++ t121) ++ (⟨#[45]⟩ : ByteArray)) ++ t122) ++ (⟨#[84]⟩ : ByteArray)) ++ t123) ++ (⟨#[58]⟩ : ByteArray)) ++ t124) ++ (⟨#[58]⟩ : ByteArray)) ++ t125).size + ((⟨#[46]⟩ : ByteArray) ++ t126).size ≤ 9223372036854775807 then (if (((((((((((t120 ++ (⟨#[45]⟩ : ByteArray)) ++ t121) ++ (⟨#[45]⟩ : ByteArray)) ++ t122) ++ (⟨#[84]⟩ : ByteArray)) ++ t123) ++ (⟨#[58]⟩ : ByteArray)) ++ t124) ++ (⟨#[58]⟩ : ByteArray)) ++ t125) ++ ((⟨#[46]⟩ : ByteArray) ++ t126)).size + 1 ≤ 9223372036854775807 then (some ((((((((((((t120 ++ (⟨#[45]⟩ : ByteArray)) ++ t121) ++ (⟨#[45]⟩ : ByteArray)) ++ t122) ++ (⟨#[84]⟩ : ByteArray)) ++ t123) ++ (⟨#[58]⟩ : ByteArray)) ++ t124) ++ (⟨#[58]⟩ : ByteArray)) ++ t125) ++ ((⟨#[46]⟩ : ByteArray) ++ t126)) ++ (⟨#[90]⟩ : ByteArray), 0)) else (none)) else (none)) else (none))) else (if ((((((((((t120 ++ (⟨#[45]⟩ : ByteArray)) ++ t121) ++ (⟨#[45]⟩ : ByteArray)) ++ t122) ++ (⟨#[84]⟩ : ByteArray)) ++ t123) ++ (⟨#[58]⟩ : ByteArray)) ++ t124) ++ (⟨#[58]⟩ : ByteArray)) ++ t125).size + 1 ≤ 9223372036854775807 then (some (((((((((((t120 ++ (⟨#[45]⟩ : ByteArray)) ++ t121) ++ (⟨#[45]⟩ : ByteArray)) ++ t122) ++ (⟨#[84]⟩ : ByteArray)) ++ t123) ++ (⟨#[58]⟩ : ByteArray)) ++ t124) ++ (⟨#[58]⟩ : ByteArray)) ++ t125) ++ (⟨#[90]⟩ : ByteArray), 0)) else (none))) else (none))) else (none)) else (none))) else (none)) else (none)) = some (r1, r2) := H
       have A13 := Aside0.mk A130
       clear A130
       by_cases c14 : (((((t120 ++ (⟨#[45]⟩ : ByteArray)) ++ t121) ++ (⟨#[45]⟩ : ByteArray)) ++ t122) ++ (⟨#[84]⟩ : ByteArray)).size + t123.size ≤ 9223372036854775807
       ·rw [if_pos c14] at H
        have c14b0 := eq_true c14
        have c14b1 : decide ((((((t120 ++ (⟨#[45]⟩ : ByteArray)) ++ t121) ++ (⟨#[45]⟩ : ByteArray)) ++ t122) ++ (⟨#[84]⟩ : ByteArray)).size + t123.size ≤ 9223372036854775807) = true := decide_eq_true c14
        try have c14b2 : (9223372036854775807 < (((((t120 ++ (⟨#[45]⟩ : ByteArray)) ++ t121) ++ (⟨#[45]⟩ : ByteArray)) ++ t122) ++ (⟨#[84]⟩ : ByteArray)).size + t123.size) = False := eq_false (Nat.not_lt.2 c14)
        try have c14b2z : (9223372036854775807 < t120.size + 1 + t121.size + 1 + t122.size + 1 + t123.size) = False := by have h_ := c14b2; simp only [ByteArray.size_append] at h_; exact h_
        by_cases c15 : ((((((t120 ++ (⟨#[45]⟩ : ByteArray)) ++ t121) ++ (⟨#[45]⟩ : ByteArray)) ++ t122) ++ (⟨#[84]⟩ : ByteArray)) ++ t123).size + 1 ≤ 9223372036854775807
        ·rw [if_pos c15] at H
         have c15b0 := eq_true c15
         have c15b1 : decide (((((((t120 ++ (⟨#[45]⟩ : ByteArray)) ++ t121) ++ (⟨#[45]⟩ : ByteArray)) ++ t122) ++ (⟨#[84]⟩ : ByteArray)) ++ t123).size + 1 ≤ 9223372036854775807) = true := decide_eq_true c15
         try have c15b2 : (9223372036854775807 < ((((((t120 ++ (⟨#[45]⟩ : ByteArray)) ++ t121) ++ (⟨#[45]⟩ : ByteArray)) ++ t122) ++ (⟨#[84]⟩ : ByteArray)) ++ t123).size + 1) = False := eq_false (Nat.not_lt.2 c15)
         try have c15b2z : (9223372036854775807 < t120.size + 1 + t121.size + 1 + t122.size + 1 + t123.size + 1) = False := by have h_ := c15b2; simp only [ByteArray.size_append] at h_; exact h_
         replace H := Option.bind_eq_some_iff.mp H
         obtain ⟨t124, A160, H⟩ := H
         replace H : (if (((((((t120 ++ (⟨#[45]⟩ : ByteArray)) ++ t121) ++ (⟨#[45]⟩ : ByteArray)) ++ t122) ++ (⟨#[84]⟩ : ByteArray)) ++ t123) ++ (⟨#[58]⟩ : ByteArray)).size + t124.size ≤ 9223372036854775807 then (if ((((((((t120 ++ (⟨#[45]⟩ : ByteArray)) ++ t121) ++ (⟨#[45]⟩ : ByteArray)) ++ t122) ++ (⟨#[84]⟩ : ByteArray)) ++ t123) ++ (⟨#[58]⟩ : ByteArray)) ++ t124).size + 1 ≤ 9223372036854775807 then ((moment_digits.f k (Int.tmod (wrap64 (Int.tdiv t119 1000)) 60) 2).bind fun t125 => (if (((((((((t120 ++ (⟨#[45]⟩ : ByteArray)) ++ t121) ++ (⟨#[45]⟩ : ByteArray)) ++ t122) ++ (⟨#[84]⟩ : ByteArray)) ++ t123) ++ (⟨#[58]⟩ : ByteArray)) ++ t124) ++ (⟨#[58]⟩ : ByteArray)).size + t125.size ≤ 9223372036854775807 then (if (Int.tmod t119 1000) > 0 then ((moment_digits.f k (Int.tmod t119 1000) 3).bind fun t126 => (if 1 + t126.size ≤ 9223372036854775807 then (if ((((((((((t120 ++ (⟨#[45]⟩ : ByteArray)) ++ t121) ++ (⟨#[45]⟩ : ByteArray)) ++ t122) ++ (⟨#[84]⟩ : ByteArray)) ++ t123) ++ (⟨#[58]⟩ : ByteArray)) ++ t124) ++ (⟨#[58]⟩ : ByteArray)) ++ t125).size + ((⟨#[46]⟩ : ByteArray) ++ t126).size ≤ 9223372036854775807 then (if (((((((((((t120 ++ (⟨#[45]⟩ : ByteArray)) ++ t121) ++ (⟨#[45]⟩ : ByteArray)) ++ t122) ++ (⟨#[84]⟩ : ByteArray)) ++ t123) ++ (⟨#[58]⟩ : ByteArray)) ++ t124) ++ (⟨#[58]⟩ : ByteArray)) ++ t125) ++ ((⟨#[46]⟩ : ByteArray) ++ t126)).size + 1 ≤ 9223372036854775807 then (some ((((((((((((t120 ++ (⟨#[45]⟩ : ByteArray)) ++ t121) ++ (⟨#[45]⟩ : ByteArray)) ++ t122) ++ (⟨#[84]⟩ : ByteArray)) ++ t123) ++ (⟨#[58]⟩ : ByteArray)) ++ t124) ++ (⟨#[58]⟩ : ByteArray)) ++ t125) ++ ((⟨#[46]⟩ : ByteArray) ++ t126)) ++ (⟨#[90]⟩ : ByteArray), 0)) else (none)) else (none)) else (none))) else (if ((((((((((t120 ++ (⟨#[45]⟩ : ByteArray)) ++ t121) ++ (⟨#[45]⟩ : ByteArray)) ++ t122) ++ (⟨#[84]⟩ : ByteArray)) ++ t123) ++ (⟨#[58]⟩ : ByteArray)) ++ t124) ++ (⟨#[58]⟩ : ByteArray)) ++ t125).size + 1 ≤ 9223372036854775807 then (some (((((((((((t120 ++ (⟨#[45]⟩ : ByteArray)) ++ t121) ++ (⟨#[45]⟩ : ByteArray)) ++ t122) ++ (⟨#[84]⟩ : ByteArray)) ++ t123) ++ (⟨#[58]⟩ : ByteArray)) ++ t124) ++ (⟨#[58]⟩ : ByteArray)) ++ t125) ++ (⟨#[90]⟩ : ByteArray), 0)) else (none))) else (none))) else (none)) else (none)) = some (r1, r2) := H
         have A16 := Aside0.mk A160
         clear A160
         by_cases c17 : (((((((t120 ++ (⟨#[45]⟩ : ByteArray)) ++ t121) ++ (⟨#[45]⟩ : ByteArray)) ++ t122) ++ (⟨#[84]⟩ : ByteArray)) ++ t123) ++ (⟨#[58]⟩ : ByteArray)).size + t124.size ≤ 9223372036854775807
         ·rw [if_pos c17] at H
          have c17b0 := eq_true c17
          have c17b1 : decide ((((((((t120 ++ (⟨#[45]⟩ : ByteArray)) ++ t121) ++ (⟨#[45]⟩ : ByteArray)) ++ t122) ++ (⟨#[84]⟩ : ByteArray)) ++ t123) ++ (⟨#[58]⟩ : ByteArray)).size + t124.size ≤ 9223372036854775807) = true := decide_eq_true c17
          try have c17b2 : (9223372036854775807 < (((((((t120 ++ (⟨#[45]⟩ : ByteArray)) ++ t121) ++ (⟨#[45]⟩ : ByteArray)) ++ t122) ++ (⟨#[84]⟩ : ByteArray)) ++ t123) ++ (⟨#[58]⟩ : ByteArray)).size + t124.size) = False := eq_false (Nat.not_lt.2 c17)
          try have c17b2z : (9223372036854775807 < t120.size + 1 + t121.size + 1 + t122.size + 1 + t123.size + 1 + t124.size) = False := by have h_ := c17b2; simp only [ByteArray.size_append] at h_; exact h_
          by_cases c18 : ((((((((t120 ++ (⟨#[45]⟩ : ByteArray)) ++ t121) ++ (⟨#[45]⟩ : ByteArray)) ++ t122) ++ (⟨#[84]⟩ : ByteArray)) ++ t123) ++ (⟨#[58]⟩ : ByteArray)) ++ t124).size + 1 ≤ 9223372036854775807
          ·rw [if_pos c18] at H
           have c18b0 := eq_true c18
           have c18b1 : decide (((((((((t120 ++ (⟨#[45]⟩ : ByteArray)) ++ t121) ++ (⟨#[45]⟩ : ByteArray)) ++ t122) ++ (⟨#[84]⟩ : ByteArray)) ++ t123) ++ (⟨#[58]⟩ : ByteArray)) ++ t124).size + 1 ≤ 9223372036854775807) = true := decide_eq_true c18
           try have c18b2 : (9223372036854775807 < ((((((((t120 ++ (⟨#[45]⟩ : ByteArray)) ++ t121) ++ (⟨#[45]⟩ : ByteArray)) ++ t122) ++ (⟨#[84]⟩ : ByteArray)) ++ t123) ++ (⟨#[58]⟩ : ByteArray)) ++ t124).size + 1) = False := eq_false (Nat.not_lt.2 c18)
           try have c18b2z : (9223372036854775807 < t120.size + 1 + t121.size + 1 + t122.size + 1 + t123.size + 1 + t124.size + 1) = False := by have h_ := c18b2; simp only [ByteArray.size_append] at h_; exact h_
           replace H := Option.bind_eq_some_iff.mp H
           obtain ⟨t125, A190, H⟩ := H
           replace H : (if (((((((((t120 ++ (⟨#[45]⟩ : ByteArray)) ++ t121) ++ (⟨#[45]⟩ : ByteArray)) ++ t122) ++ (⟨#[84]⟩ : ByteArray)) ++ t123) ++ (⟨#[58]⟩ : ByteArray)) ++ t124) ++ (⟨#[58]⟩ : ByteArray)).size + t125.size ≤ 9223372036854775807 then (if (Int.tmod t119 1000) > 0 then ((moment_digits.f k (Int.tmod t119 1000) 3).bind fun t126 => (if 1 + t126.size ≤ 9223372036854775807 then (if ((((((((((t120 ++ (⟨#[45]⟩ : ByteArray)) ++ t121) ++ (⟨#[45]⟩ : ByteArray)) ++ t122) ++ (⟨#[84]⟩ : ByteArray)) ++ t123) ++ (⟨#[58]⟩ : ByteArray)) ++ t124) ++ (⟨#[58]⟩ : ByteArray)) ++ t125).size + ((⟨#[46]⟩ : ByteArray) ++ t126).size ≤ 9223372036854775807 then (if (((((((((((t120 ++ (⟨#[45]⟩ : ByteArray)) ++ t121) ++ (⟨#[45]⟩ : ByteArray)) ++ t122) ++ (⟨#[84]⟩ : ByteArray)) ++ t123) ++ (⟨#[58]⟩ : ByteArray)) ++ t124) ++ (⟨#[58]⟩ : ByteArray)) ++ t125) ++ ((⟨#[46]⟩ : ByteArray) ++ t126)).size + 1 ≤ 9223372036854775807 then (some ((((((((((((t120 ++ (⟨#[45]⟩ : ByteArray)) ++ t121) ++ (⟨#[45]⟩ : ByteArray)) ++ t122) ++ (⟨#[84]⟩ : ByteArray)) ++ t123) ++ (⟨#[58]⟩ : ByteArray)) ++ t124) ++ (⟨#[58]⟩ : ByteArray)) ++ t125) ++ ((⟨#[46]⟩ : ByteArray) ++ t126)) ++ (⟨#[90]⟩ : ByteArray), 0)) else (none)) else (none)) else (none))) else (if ((((((((((t120 ++ (⟨#[45]⟩ : ByteArray)) ++ t121) ++ (⟨#[45]⟩ : ByteArray)) ++ t122) ++ (⟨#[84]⟩ : ByteArray)) ++ t123) ++ (⟨#[58]⟩ : ByteArray)) ++ t124) ++ (⟨#[58]⟩ : ByteArray)) ++ t125).size + 1 ≤ 9223372036854775807 then (some (((((((((((t120 ++ (⟨#[45]⟩ : ByteArray)) ++ t121) ++ (⟨#[45]⟩ : ByteArray)) ++ t122) ++ (⟨#[84]⟩ : ByteArray)) ++ t123) ++ (⟨#[58]⟩ : ByteArray)) ++ t124) ++ (⟨#[58]⟩ : ByteArray)) ++ t125) ++ (⟨#[90]⟩ : ByteArray), 0)) else (none))) else (none)) = some (r1, r2) := H
           have A19 := Aside0.mk A190
           clear A190
           by_cases c20 : (((((((((t120 ++ (⟨#[45]⟩ : ByteArray)) ++ t121) ++ (⟨#[45]⟩ : ByteArray)) ++ t122) ++ (⟨#[84]⟩ : ByteArray)) ++ t123) ++ (⟨#[58]⟩ : ByteArray)) ++ t124) ++ (⟨#[58]⟩ : ByteArray)).size + t125.size ≤ 9223372036854775807
           ·rw [if_pos c20] at H
            have c20b0 := eq_true c20
            have c20b1 : decide ((((((((((t120 ++ (⟨#[45]⟩ : ByteArray)) ++ t121) ++ (⟨#[45]⟩ : ByteArray)) ++ t122) ++ (⟨#[84]⟩ : ByteArray)) ++ t123) ++ (⟨#[58]⟩ : ByteArray)) ++ t124) ++ (⟨#[58]⟩ : ByteArray)).size + t125.size ≤ 9223372036854775807) = true := decide_eq_true c20
            try have c20b2 : (9223372036854775807 < (((((((((t120 ++ (⟨#[45]⟩ : ByteArray)) ++ t121) ++ (⟨#[45]⟩ : ByteArray)) ++ t122) ++ (⟨#[84]⟩ : ByteArray)) ++ t123) ++ (⟨#[58]⟩ : ByteArray)) ++ t124) ++ (⟨#[58]⟩ : ByteArray)).size + t125.size) = False := eq_false (Nat.not_lt.2 c20)
            try have c20b2z : (9223372036854775807 < t120.size + 1 + t121.size + 1 + t122.size + 1 + t123.size + 1 + t124.size + 1 + t125.size) = False := by have h_ := c20b2; simp only [ByteArray.size_append] at h_; exact h_
            by_cases c21 : (Int.tmod t119 1000) > 0
            ·rw [if_pos c21] at H
             have c21b0 : decide (0 < (Int.tmod t119 1000)) = true := decide_eq_true c21
             clear c21
             replace H := Option.bind_eq_some_iff.mp H
             obtain ⟨t126, A220, H⟩ := H
             replace H : (if 1 + t126.size ≤ 9223372036854775807 then (if ((((((((((t120 ++ (⟨#[45]⟩ : ByteArray)) ++ t121) ++ (⟨#[45]⟩ : ByteArray)) ++ t122) ++ (⟨#[84]⟩ : ByteArray)) ++ t123) ++ (⟨#[58]⟩ : ByteArray)) ++ t124) ++ (⟨#[58]⟩ : ByteArray)) ++ t125).size + ((⟨#[46]⟩ : ByteArray) ++ t126).size ≤ 9223372036854775807 then (if (((((((((((t120 ++ (⟨#[45]⟩ : ByteArray)) ++ t121) ++ (⟨#[45]⟩ : ByteArray)) ++ t122) ++ (⟨#[84]⟩ : ByteArray)) ++ t123) ++ (⟨#[58]⟩ : ByteArray)) ++ t124) ++ (⟨#[58]⟩ : ByteArray)) ++ t125) ++ ((⟨#[46]⟩ : ByteArray) ++ t126)).size + 1 ≤ 9223372036854775807 then (some ((((((((((((t120 ++ (⟨#[45]⟩ : ByteArray)) ++ t121) ++ (⟨#[45]⟩ : ByteArray)) ++ t122) ++ (⟨#[84]⟩ : ByteArray)) ++ t123) ++ (⟨#[58]⟩ : ByteArray)) ++ t124) ++ (⟨#[58]⟩ : ByteArray)) ++ t125) ++ ((⟨#[46]⟩ : ByteArray) ++ t126)) ++ (⟨#[90]⟩ : ByteArray), 0)) else (none)) else (none)) else (none)) = some (r1, r2) := H
             have A22 := Aside0.mk A220
             clear A220
             by_cases c23 : 1 + t126.size ≤ 9223372036854775807
             ·rw [if_pos c23] at H
              have c23b0 := eq_true c23
              have c23b1 : decide (1 + t126.size ≤ 9223372036854775807) = true := decide_eq_true c23
              try have c23b2 : (9223372036854775807 < 1 + t126.size) = False := eq_false (Nat.not_lt.2 c23)
              by_cases c24 : ((((((((((t120 ++ (⟨#[45]⟩ : ByteArray)) ++ t121) ++ (⟨#[45]⟩ : ByteArray)) ++ t122) ++ (⟨#[84]⟩ : ByteArray)) ++ t123) ++ (⟨#[58]⟩ : ByteArray)) ++ t124) ++ (⟨#[58]⟩ : ByteArray)) ++ t125).size + ((⟨#[46]⟩ : ByteArray) ++ t126).size ≤ 9223372036854775807
              ·rw [if_pos c24] at H
               have c24b0 := eq_true c24
               have c24b1 : decide (((((((((((t120 ++ (⟨#[45]⟩ : ByteArray)) ++ t121) ++ (⟨#[45]⟩ : ByteArray)) ++ t122) ++ (⟨#[84]⟩ : ByteArray)) ++ t123) ++ (⟨#[58]⟩ : ByteArray)) ++ t124) ++ (⟨#[58]⟩ : ByteArray)) ++ t125).size + ((⟨#[46]⟩ : ByteArray) ++ t126).size ≤ 9223372036854775807) = true := decide_eq_true c24
               try have c24b2 : (9223372036854775807 < ((((((((((t120 ++ (⟨#[45]⟩ : ByteArray)) ++ t121) ++ (⟨#[45]⟩ : ByteArray)) ++ t122) ++ (⟨#[84]⟩ : ByteArray)) ++ t123) ++ (⟨#[58]⟩ : ByteArray)) ++ t124) ++ (⟨#[58]⟩ : ByteArray)) ++ t125).size + ((⟨#[46]⟩ : ByteArray) ++ t126).size) = False := eq_false (Nat.not_lt.2 c24)
               try have c24b2z : (9223372036854775807 < t120.size + 1 + t121.size + 1 + t122.size + 1 + t123.size + 1 + t124.size + 1 + t125.size + (1 + t126.size)) = False := by have h_ := c24b2; simp only [ByteArray.size_append] at h_; exact h_
               by_cases c25 : (((((((((((t120 ++ (⟨#[45]⟩ : ByteArray)) ++ t121) ++ (⟨#[45]⟩ : ByteArray)) ++ t122) ++ (⟨#[84]⟩ : ByteArray)) ++ t123) ++ (⟨#[58]⟩ : ByteArray)) ++ t124) ++ (⟨#[58]⟩ : ByteArray)) ++ t125) ++ ((⟨#[46]⟩ : ByteArray) ++ t126)).size + 1 ≤ 9223372036854775807
               ·rw [if_pos c25] at H
                have c25b0 := eq_true c25
                have c25b1 : decide ((((((((((((t120 ++ (⟨#[45]⟩ : ByteArray)) ++ t121) ++ (⟨#[45]⟩ : ByteArray)) ++ t122) ++ (⟨#[84]⟩ : ByteArray)) ++ t123) ++ (⟨#[58]⟩ : ByteArray)) ++ t124) ++ (⟨#[58]⟩ : ByteArray)) ++ t125) ++ ((⟨#[46]⟩ : ByteArray) ++ t126)).size + 1 ≤ 9223372036854775807) = true := decide_eq_true c25
                try have c25b2 : (9223372036854775807 < (((((((((((t120 ++ (⟨#[45]⟩ : ByteArray)) ++ t121) ++ (⟨#[45]⟩ : ByteArray)) ++ t122) ++ (⟨#[84]⟩ : ByteArray)) ++ t123) ++ (⟨#[58]⟩ : ByteArray)) ++ t124) ++ (⟨#[58]⟩ : ByteArray)) ++ t125) ++ ((⟨#[46]⟩ : ByteArray) ++ t126)).size + 1) = False := eq_false (Nat.not_lt.2 c25)
                try have c25b2z : (9223372036854775807 < t120.size + 1 + t121.size + 1 + t122.size + 1 + t123.size + 1 + t124.size + 1 + t125.size + (1 + t126.size) + 1) = False := by have h_ := c25b2; simp only [ByteArray.size_append] at h_; exact h_
                simp only [Option.some.injEq, Prod.mk.injEq] at H
                obtain ⟨rfl, rfl⟩ := H
                go_enter Tryd.func9, Tryd.ntmps9
                try go_wp2_with (first | ((with_reducible refine gate_callee (f := 10) rfl ?_); refine goesA (some 11) Tryd.func10 #[.int .i64 a0] rfl ?_; (with_reducible refine (moment_Date.calls k a0 t113 t114 t115 t116 _ A2.out).mono ?_); rintro e w26 ⟨rfl, hb⟩; refine ⟨_, rfl, ?_⟩; have n0_ := Bs HB hb; clear HB; revert n0_; intro HB; (try clear hb); (try clear hb2); (try clear hk); (try clear hi)) | ((with_reducible refine gate_dst (N := 4) rfl ?_); refine box_event ?hg (N := 4) ?hd (cs := #[.int .i64 0, .int .i64 0, .int .i64 0]) (t := 26) ?hr ?_; (case hd => rfl); (case hg => rfl); (case hr => first | (go_simp; done) | (go_simp; rfl)); intro gb117 hg w27 hbox hb; have n0_ := Bs HB hb; have n1_ := Aside0.mk (hbox); have n2_ := Aside0.mk ((by rw [hg]; exact (Bz HB) : w.heap.size ≤ gb117)); have n3_ := Aside0.mk ((by rw [hg]; exact (Bz HB) : w.heap.size ≤ gb117)); clear HB; have HB := n0_; have BK117 := n1_; have GW117 := n2_; have GE117 := n3_; clear n0_ n1_ n2_ n3_; clear hb hbox hg; have hcz28_0 : w27.cell? ⟨gb117, 0, none⟩ = some (.int .i64 0) := (blk_cell BK117.out 0).trans rfl; have hcz28_1 : w27.cell? ⟨gb117, 1, none⟩ = some (.int .i64 0) := (blk_cell BK117.out 1).trans rfl; have hcz28_2 : w27.cell? ⟨gb117, 2, none⟩ = some (.int .i64 0) := (blk_cell BK117.out 2).trans rfl; have hfz28_0 := blk_frozen BK117.out 0; have hfz28_1 := blk_frozen BK117.out 1; have hfz28_2 := blk_frozen BK117.out 2) | ((with_reducible refine gate_callee (f := 22) rfl ?_); refine goesA (some 19) Tryd.func22 #[.int .i64 a0] rfl ?_; (with_reducible refine (moment_split.calls a0 t118 t119 _ A4.out).mono ?_); rintro e w' ⟨rfl, ⟨nd, rfl⟩⟩; refine ⟨_, rfl, ?_⟩))
                have n0_ : Aside0 ((((w27.setCell ⟨gb117, 0, none⟩ (.int .i64 t113)).setCell ⟨gb117, 1, none⟩ (.int .i64 t114)).setCell ⟨gb117, 2, none⟩ (.int .i64 t115)).heap[gb117]? = some (.cells #[.int .i64 t113, .int .i64 t114, .int .i64 t115] 26 (0, 0))) := ⟨by (with_reducible repeat (first | refine blk_drewN ?_ _ | refine blk_drew ?_ | refine blk_alloc ?_ _)); refine blk_put (cs := #[.int .i64 t113, .int .i64 t114, .int .i64 0]) ?_ 2 _ rfl; (with_reducible repeat (first | refine blk_drewN ?_ _ | refine blk_drew ?_ | refine blk_alloc ?_ _)); refine blk_put (cs := #[.int .i64 t113, .int .i64 0, .int .i64 0]) ?_ 1 _ rfl; (with_reducible repeat (first | refine blk_drewN ?_ _ | refine blk_drew ?_ | refine blk_alloc ?_ _)); refine blk_put (cs := #[.int .i64 0, .int .i64 0, .int .i64 0]) ?_ 0 _ rfl; (with_reducible repeat (first | refine blk_drewN ?_ _ | refine blk_drew ?_ | refine blk_alloc ?_ _)); exact BK117.out⟩
                have n1_ : Aside0 (Below w.heap.size w (((w27.setCell ⟨gb117, 0, none⟩ (.int .i64 t113)).setCell ⟨gb117, 1, none⟩ (.int .i64 t114)).setCell ⟨gb117, 2, none⟩ (.int .i64 t115))) := ⟨by repeat (first | (with_reducible first | exact HB.out | apply below_alloc | apply pw_below_drewN | apply below_drew1 | refine below_set ?_ GE117.out) | exact HB.out)⟩
                (try clear BK117)
                (try clear HB)
                generalize (((w27.setCell ⟨gb117, 0, none⟩ (.int .i64 t113)).setCell ⟨gb117, 1, none⟩ (.int .i64 t114)).setCell ⟨gb117, 2, none⟩ (.int .i64 t115)) = w29 at n0_ n1_ ⊢
                have BK117 := n0_
                have HB := n1_
                clear n0_ n1_
                (try (rw [drewN_self w29]; generalize hq_ : World.drewN w29 _ = w29; have n0_ : Aside0 (w29.heap[gb117]? = some (.cells #[.int .i64 t113, .int .i64 t114, .int .i64 t115] 26 (0, 0))) := ⟨by rw [← hq_]; exact (by (with_reducible repeat (first | refine blk_drewN ?_ _ | refine blk_drew ?_ | refine blk_alloc ?_ _)); exact BK117.out)⟩; have n1_ : Aside0 (Below w.heap.size w w29) := ⟨by rw [← hq_]; exact (by repeat (first | (with_reducible first | exact HB.out | apply below_alloc | apply pw_below_drewN | apply below_drew1 | refine below_set ?_ GE117.out) | exact HB.out))⟩; clear BK117 HB hq_; have BK117 := n0_; have HB := n1_; clear n0_ n1_))
                have n0_ := Aside0.mk (blk_drew BK117.out)
                have n1_ := Aside0.mk (below_drew1 HB.out)
                clear BK117
                clear HB
                have BK117 := n0_
                have HB := n1_
                clear n0_ n1_
                refine start_ (n := 31) (S := fun w' => w'.cell? ⟨gb117, 0, none⟩ = some (.int .i64 t113) ∧ w'.cell? ⟨gb117, 1, none⟩ = some (.int .i64 t114) ∧ w'.cell? ⟨gb117, 2, none⟩ = some (.int .i64 t115)) (ds := []) #[false, false, false, false, false, false, false, false, false, false, false, false, false, false, false, false, false, false, false, false, false, false, false, false, false, false, false, false, false, false, false] (by kernel_rfl) rfl rfl ⟨(blk_cell BK117.out 0).trans rfl, (blk_cell BK117.out 1).trans rfl, (blk_cell BK117.out 2).trans rfl⟩ (fun hHeld => ?_); refine with_tabW moment_Print.tab5 moment_Print.bits5 (fun HT_ HW_ => ?_)
                generalize w29.drew = w30 at BK117 HB hHeld ⊢
                refine pure_ (i := 0) (N := some 22) (v := ?_) (a' := ?_) #[true, false, false, false, false, false, false, false, false, false, false, false, false, false, false, false, false, false, false, false, false, false, false, false, false, false, false, false, false, false, false] rfl rfl (any_of HT_.out (by kernel_rfl)) (fun _ _ _ h => h) (Or.inl ⟨by rfl, ?_⟩) ?_ ?_
                rotate_left
                ·intro w'
                 go_simp
                 with_reducible rfl
                rotate_left
                ·simp only [Act.put, List.setIfInBounds_toArray, List.set_cons_zero, List.set_cons_succ, i64_w, i32_w]
                 rfl
                refine pure_ (i := 4) (N := some 26) (v := ?_) (a' := ?_) #[true, false, false, false, true, false, false, false, false, false, false, false, false, false, false, false, false, false, false, false, false, false, false, false, false, false, false, false, false, false, false] rfl rfl (any_of HT_.out (by kernel_rfl)) (fun _ _ _ h => h) (Or.inl ⟨by rfl, ?_⟩) ?_ ?_
                rotate_left
                ·intro w'
                 go_simp
                 with_reducible rfl
                rotate_left
                ·simp only [Act.put, List.setIfInBounds_toArray, List.set_cons_zero, List.set_cons_succ, i64_w, i32_w]
                 rfl
                refine pure_ (i := 9) (N := some 31) (v := ?_) (a' := ?_) #[true, false, false, false, true, false, false, false, false, true, false, false, false, false, false, false, false, false, false, false, false, false, false, false, false, false, false, false, false, false, false] rfl rfl (any_of HT_.out (by kernel_rfl)) (fun _ _ _ h => h) (Or.inl ⟨by rfl, ?_⟩) ?_ ?_
                rotate_left
                ·intro w'
                 go_simp
                 with_reducible rfl
                rotate_left
                ·simp only [Act.put, List.setIfInBounds_toArray, List.set_cons_zero, List.set_cons_succ, i64_w, i32_w]
                 rfl
                refine pure_ (i := 14) (N := some 36) (v := ?_) (a' := ?_) #[true, false, false, false, true, false, false, false, false, true, false, false, false, false, true, false, false, false, false, false, false, false, false, false, false, false, false, false, false, false, false] rfl rfl (any_of HT_.out (by kernel_rfl)) (fun _ _ _ h => h) (Or.inl ⟨by rfl, ?_⟩) ?_ ?_
                rotate_left
                ·intro w'
                 go_simp
                 with_reducible rfl
                rotate_left
                ·simp only [Act.put, List.setIfInBounds_toArray, List.set_cons_zero, List.set_cons_succ, i64_w, i32_w]
                 rfl
                refine pure_ (i := 15) (N := some 37) (v := ?_) (a' := ?_) #[true, false, false, false, true, false, false, false, false, true, false, false, false, false, true, true, false, false, false, false, false, false, false, false, false, false, false, false, false, false, false] rfl rfl (any_of HT_.out (by kernel_rfl)) (fun _ _ _ h => h) (Or.inl ⟨by rfl, ?_⟩) ?_ ?_
                rotate_left
                ·intro w'
                 go_simp
                 with_reducible rfl
                rotate_left
                ·simp only [Act.put, List.setIfInBounds_toArray, List.set_cons_zero, List.set_cons_succ, i64_w, i32_w]
                 rfl
                refine pure_ (i := 19) (N := some 41) (v := ?_) (a' := ?_) #[true, false, false, false, true, false, false, false, false, true, false, false, false, false, true, true, false, false, false, true, false, false, false, false, false, false, false, false, false, false, false] rfl rfl (any_of HT_.out (by kernel_rfl)) (fun _ _ _ h => h) (Or.inl ⟨by rfl, ?_⟩) ?_ ?_
                rotate_left
                ·intro w'
                 go_simp
                 with_reducible rfl
                rotate_left
                ·simp only [Act.put, List.setIfInBounds_toArray, List.set_cons_zero, List.set_cons_succ, i64_w, i32_w]
                 rfl
                refine pure_ (i := 20) (N := some 42) (v := ?_) (a' := ?_) #[true, false, false, false, true, false, false, false, false, true, false, false, false, false, true, true, false, false, false, true, true, false, false, false, false, false, false, false, false, false, false] rfl rfl (any_of HT_.out (by kernel_rfl)) (fun _ _ _ h => h) (Or.inl ⟨by rfl, ?_⟩) ?_ ?_
                rotate_left
                ·intro w'
                 go_simp
                 with_reducible rfl
                rotate_left
                ·simp only [Act.put, List.setIfInBounds_toArray, List.set_cons_zero, List.set_cons_succ, i64_w, i32_w]
                 rfl
                refine pure_ (i := 21) (N := some 43) (v := ?_) (a' := ?_) #[true, false, false, false, true, false, false, false, false, true, false, false, false, false, true, true, false, false, false, true, true, true, false, false, false, false, false, false, false, false, false] rfl rfl (any_of HT_.out (by kernel_rfl)) (fun _ _ _ h => h) (Or.inl ⟨by rfl, ?_⟩) ?_ ?_
                rotate_left
                ·intro w'
                 go_simp
                 with_reducible rfl
                rotate_left
                ·simp only [Act.put, List.setIfInBounds_toArray, List.set_cons_zero, List.set_cons_succ, i64_w, i32_w]
                 rfl
                refine pure_ (i := 25) (N := some 47) (v := ?_) (a' := ?_) #[true, false, false, false, true, false, false, false, false, true, false, false, false, false, true, true, false, false, false, true, true, true, false, false, false, true, false, false, false, false, false] rfl rfl (any_of HT_.out (by kernel_rfl)) (fun _ _ _ h => h) (Or.inl ⟨by rfl, ?_⟩) ?_ ?_
                rotate_left
                ·intro w'
                 go_simp
                 with_reducible rfl
                rotate_left
                ·simp only [Act.put, List.setIfInBounds_toArray, List.set_cons_zero, List.set_cons_succ, i64_w, i32_w]
                 rfl
                refine pure_ (i := 26) (N := some 48) (v := ?_) (a' := ?_) #[true, false, false, false, true, false, false, false, false, true, false, false, false, false, true, true, false, false, false, true, true, true, false, false, false, true, true, false, false, false, false] rfl rfl (any_of HT_.out (by kernel_rfl)) (fun _ _ _ h => h) (Or.inl ⟨by rfl, ?_⟩) ?_ ?_
                rotate_left
                ·intro w'
                 go_simp
                 with_reducible rfl
                rotate_left
                ·simp only [Act.put, List.setIfInBounds_toArray, List.set_cons_zero, List.set_cons_succ, i64_w, i32_w]
                 rfl
                refine pure_ (i := 27) (N := some 49) (v := ?_) (a' := ?_) #[true, false, false, false, true, false, false, false, false, true, false, false, false, false, true, true, false, false, false, true, true, true, false, false, false, true, true, true, false, false, false] rfl rfl (any_of HT_.out (by kernel_rfl)) (fun _ _ _ h => h) (Or.inl ⟨by rfl, ?_⟩) ?_ ?_
                rotate_left
                ·intro w'
                 go_simp
                 with_reducible rfl
                rotate_left
                ·simp only [Act.put, List.setIfInBounds_toArray, List.set_cons_zero, List.set_cons_succ, i64_w, i32_w]
                 rfl
                refine take_ (i := 1) (N := some 23) (v := ?_) (a' := ?_) #[true, true, false, false, true, false, false, false, false, true, false, false, false, false, true, true, false, false, false, true, true, true, false, false, false, true, true, true, false, false, false] rfl rfl (take_ofW HT_.out HW_.out (by kernel_rfl)) (fun _ _ _ h => h) (Or.inl ⟨by rfl, ?_⟩) hHeld ?_ ?_
                rotate_left
                ·rintro w' ⟨s0, s1, s2⟩
                 go_simp
                 with_reducible rfl
                rotate_left
                ·simp only [Act.put, List.setIfInBounds_toArray, List.set_cons_zero, List.set_cons_succ, i64_w, i32_w]
                 rfl
                refine take_ (i := 5) (N := some 27) (v := ?_) (a' := ?_) #[true, true, false, false, true, true, false, false, false, true, false, false, false, false, true, true, false, false, false, true, true, true, false, false, false, true, true, true, false, false, false] rfl rfl (take_ofW HT_.out HW_.out (by kernel_rfl)) (fun _ _ _ h => h) (Or.inl ⟨by rfl, ?_⟩) hHeld ?_ ?_
                rotate_left
                ·rintro w' ⟨s0, s1, s2⟩
                 go_simp
                 with_reducible rfl
                rotate_left
                ·simp only [Act.put, List.setIfInBounds_toArray, List.set_cons_zero, List.set_cons_succ, i64_w, i32_w]
                 rfl
                refine take_ (i := 10) (N := some 32) (v := ?_) (a' := ?_) #[true, true, false, false, true, true, false, false, false, true, true, false, false, false, true, true, false, false, false, true, true, true, false, false, false, true, true, true, false, false, false] rfl rfl (take_ofW HT_.out HW_.out (by kernel_rfl)) (fun _ _ _ h => h) (Or.inl ⟨by rfl, ?_⟩) hHeld ?_ ?_
                rotate_left
                ·rintro w' ⟨s0, s1, s2⟩
                 go_simp
                 with_reducible rfl
                rotate_left
                ·simp only [Act.put, List.setIfInBounds_toArray, List.set_cons_zero, List.set_cons_succ, i64_w, i32_w]
                 rfl
                refine one_ (i := 2) (N := some 24) #[true, true, true, false, true, true, false, false, false, true, true, false, false, false, true, true, false, false, false, true, true, true, false, false, false, true, true, true, false, false, false] rfl rfl (one_of HT_.out (by kernel_rfl)) (by decide) (fun K hK => ?_)
                refine goes_ Tryd.func23 (by kernel_rfl) rfl #[.int .i64 t113, .int .i64 4] (by rfl) rfl rfl (by (try simp only [List.map_toArray, List.map_cons, List.map_nil]); first | done | rfl | (simp only [List.length_drop, List.length_take]; rfl)) ?_
                with_reducible refine (moment_digits.calls k t113 4 t120 _ A5.out).mono ?_
                rintro e w31 ⟨rfl, hb⟩
                refine ⟨_, rfl, ?_⟩
                have n0_ := Aside0.mk (blk_below (g := gb117) (o := .cells #[.int .i64 t113, .int .i64 t114, .int .i64 t115] 26 (0, 0)) (by (with_reducible repeat (first | refine blk_drewN ?_ _ | refine blk_drew ?_ | refine blk_alloc ?_ _)); exact BK117.out) hb)
                have n1_ := Aside0.mk (below_step (by repeat (first | (with_reducible first | exact HB.out | apply below_alloc | apply pw_below_drewN | apply below_drew1 | refine below_set ?_ GE117.out) | exact HB.out)) hb)
                clear BK117
                clear HB
                have BK117 := n0_
                have HB := n1_
                clear n0_ n1_
                (try clear hb)
                (try clear hb2)
                (try clear hk)
                (try clear hi)
                refine hK.out _ _ ⟨(blk_cell BK117.out 0).trans rfl, (blk_cell BK117.out 1).trans rfl, (blk_cell BK117.out 2).trans rfl⟩ (fun hHeld => ?_)
                clear hK K
                refine norm_ (a' := ?_) ?_ ?_
                rotate_left
                ·show Act.put _ (some 24) _ = _
                 simp only [Act.put, List.setIfInBounds_toArray, List.set_cons_zero, List.set_cons_succ, i64_w, i32_w]
                 rfl
                refine pure_ (i := 3) (N := some 25) (v := ?_) (a' := ?_) #[true, true, true, true, true, true, false, false, false, true, true, false, false, false, true, true, false, false, false, true, true, true, false, false, false, true, true, true, false, false, false] rfl rfl (any_of HT_.out (by kernel_rfl)) (fun _ _ _ h => h) (Or.inl ⟨by rfl, ?_⟩) ?_ ?_
                rotate_left
                ·intro w'
                 go_simp
                 with_reducible rfl
                rotate_left
                ·simp only [Act.put, List.setIfInBounds_toArray, List.set_cons_zero, List.set_cons_succ, i64_w, i32_w]
                 rfl
                refine one_ (i := 6) (N := some 28) #[true, true, true, true, true, true, true, false, false, true, true, false, false, false, true, true, false, false, false, true, true, true, false, false, false, true, true, true, false, false, false] rfl rfl (one_of HT_.out (by kernel_rfl)) (by decide) (fun K hK => ?_)
                refine goes_ Tryd.func23 (by kernel_rfl) rfl #[.int .i64 t114, .int .i64 2] (by rfl) rfl rfl (by (try simp only [List.map_toArray, List.map_cons, List.map_nil]); first | done | rfl | (simp only [List.length_drop, List.length_take]; rfl)) ?_
                with_reducible refine (moment_digits.calls k t114 2 t121 _ A7.out).mono ?_
                rintro e w32 ⟨rfl, hb⟩
                refine ⟨_, rfl, ?_⟩
                have n0_ := Aside0.mk (blk_below (g := gb117) (o := .cells #[.int .i64 t113, .int .i64 t114, .int .i64 t115] 26 (0, 0)) (by (with_reducible repeat (first | refine blk_drewN ?_ _ | refine blk_drew ?_ | refine blk_alloc ?_ _)); exact BK117.out) hb)
                have n1_ := Aside0.mk (below_step (by repeat (first | (with_reducible first | exact HB.out | apply below_alloc | apply pw_below_drewN | apply below_drew1 | refine below_set ?_ GE117.out) | exact HB.out)) hb)
                clear BK117
                clear HB
                have BK117 := n0_
                have HB := n1_
                clear n0_ n1_
                (try clear hb)
                (try clear hb2)
                (try clear hk)
                (try clear hi)
                refine hK.out _ _ ⟨(blk_cell BK117.out 0).trans rfl, (blk_cell BK117.out 1).trans rfl, (blk_cell BK117.out 2).trans rfl⟩ (fun hHeld => ?_)
                clear hK K
                refine norm_ (a' := ?_) ?_ ?_
                rotate_left
                ·show Act.put _ (some 28) _ = _
                 simp only [Act.put, List.setIfInBounds_toArray, List.set_cons_zero, List.set_cons_succ, i64_w, i32_w]
                 rfl
                refine pure_ (i := 7) (N := some 29) (v := ?_) (a' := ?_) #[true, true, true, true, true, true, true, true, false, true, true, false, false, false, true, true, false, false, false, true, true, true, false, false, false, true, true, true, false, false, false] rfl rfl (any_of HT_.out (by kernel_rfl)) (fun _ _ _ h => h) (Or.inl ⟨by rfl, ?_⟩) ?_ ?_
                rotate_left
                ·intro w'
                 go_simp
                 with_reducible rfl
                rotate_left
                ·simp only [Act.put, List.setIfInBounds_toArray, List.set_cons_zero, List.set_cons_succ, i64_w, i32_w]
                 rfl
                refine pure_ (i := 8) (N := some 30) (v := ?_) (a' := ?_) #[true, true, true, true, true, true, true, true, true, true, true, false, false, false, true, true, false, false, false, true, true, true, false, false, false, true, true, true, false, false, false] rfl rfl (any_of HT_.out (by kernel_rfl)) (fun _ _ _ h => h) (Or.inl ⟨by rfl, ?_⟩) ?_ ?_
                rotate_left
                ·intro w'
                 go_simp
                 with_reducible rfl
                rotate_left
                ·simp only [Act.put, List.setIfInBounds_toArray, List.set_cons_zero, List.set_cons_succ, i64_w, i32_w]
                 rfl
                refine one_ (i := 11) (N := some 33) #[true, true, true, true, true, true, true, true, true, true, true, true, false, false, true, true, false, false, false, true, true, true, false, false, false, true, true, true, false, false, false] rfl rfl (one_of HT_.out (by kernel_rfl)) (by decide) (fun K hK => ?_)
                refine goes_ Tryd.func23 (by kernel_rfl) rfl #[.int .i64 t115, .int .i64 2] (by rfl) rfl rfl (by (try simp only [List.map_toArray, List.map_cons, List.map_nil]); first | done | rfl | (simp only [List.length_drop, List.length_take]; rfl)) ?_
                with_reducible refine (moment_digits.calls k t115 2 t122 _ A10.out).mono ?_
                rintro e w33 ⟨rfl, hb⟩
                refine ⟨_, rfl, ?_⟩
                have n0_ := Aside0.mk (blk_below (g := gb117) (o := .cells #[.int .i64 t113, .int .i64 t114, .int .i64 t115] 26 (0, 0)) (by (with_reducible repeat (first | refine blk_drewN ?_ _ | refine blk_drew ?_ | refine blk_alloc ?_ _)); exact BK117.out) hb)
                have n1_ := Aside0.mk (below_step (by repeat (first | (with_reducible first | exact HB.out | apply below_alloc | apply pw_below_drewN | apply below_drew1 | refine below_set ?_ GE117.out) | exact HB.out)) hb)
                clear BK117
                clear HB
                have BK117 := n0_
                have HB := n1_
                clear n0_ n1_
                (try clear hb)
                (try clear hb2)
                (try clear hk)
                (try clear hi)
                refine hK.out _ _ ⟨(blk_cell BK117.out 0).trans rfl, (blk_cell BK117.out 1).trans rfl, (blk_cell BK117.out 2).trans rfl⟩ (fun hHeld => ?_)
                clear hK K
                refine norm_ (a' := ?_) ?_ ?_
                rotate_left
                ·show Act.put _ (some 33) _ = _
                 simp only [Act.put, List.setIfInBounds_toArray, List.set_cons_zero, List.set_cons_succ, i64_w, i32_w]
                 rfl
                refine pure_ (i := 12) (N := some 34) (v := ?_) (a' := ?_) #[true, true, true, true, true, true, true, true, true, true, true, true, true, false, true, true, false, false, false, true, true, true, false, false, false, true, true, true, false, false, false] rfl rfl (any_of HT_.out (by kernel_rfl)) (fun _ _ _ h => h) (Or.inl ⟨by rfl, ?_⟩) ?_ ?_
                rotate_left
                ·intro w'
                 go_simp
                 with_reducible rfl
                rotate_left
                ·simp only [Act.put, List.setIfInBounds_toArray, List.set_cons_zero, List.set_cons_succ, i64_w, i32_w]
                 rfl
                refine pure_ (i := 13) (N := some 35) (v := ?_) (a' := ?_) #[true, true, true, true, true, true, true, true, true, true, true, true, true, true, true, true, false, false, false, true, true, true, false, false, false, true, true, true, false, false, false] rfl rfl (any_of HT_.out (by kernel_rfl)) (fun _ _ _ h => h) (Or.inl ⟨by rfl, ?_⟩) ?_ ?_
                rotate_left
                ·intro w'
                 go_simp
                 with_reducible rfl
                rotate_left
                ·simp only [Act.put, List.setIfInBounds_toArray, List.set_cons_zero, List.set_cons_succ, i64_w, i32_w]
                 rfl
                refine one_ (i := 16) (N := some 38) #[true, true, true, true, true, true, true, true, true, true, true, true, true, true, true, true, true, false, false, true, true, true, false, false, false, true, true, true, false, false, false] rfl rfl (one_of HT_.out (by kernel_rfl)) (by decide) (fun K hK => ?_)
                refine goes_ Tryd.func23 (by kernel_rfl) rfl #[.int .i64 (wrap64 (Int.tdiv t119 3600000)), .int .i64 2] (by rfl) rfl rfl (by (try simp only [List.map_toArray, List.map_cons, List.map_nil]); first | done | rfl | (simp only [List.length_drop, List.length_take]; rfl)) ?_
                with_reducible refine (moment_digits.calls k (wrap64 (Int.tdiv t119 3600000)) 2 t123 _ A13.out).mono ?_
                rintro e w34 ⟨rfl, hb⟩
                refine ⟨_, rfl, ?_⟩
                have n0_ := Aside0.mk (blk_below (g := gb117) (o := .cells #[.int .i64 t113, .int .i64 t114, .int .i64 t115] 26 (0, 0)) (by (with_reducible repeat (first | refine blk_drewN ?_ _ | refine blk_drew ?_ | refine blk_alloc ?_ _)); exact BK117.out) hb)
                have n1_ := Aside0.mk (below_step (by repeat (first | (with_reducible first | exact HB.out | apply below_alloc | apply pw_below_drewN | apply below_drew1 | refine below_set ?_ GE117.out) | exact HB.out)) hb)
                clear BK117
                clear HB
                have BK117 := n0_
                have HB := n1_
                clear n0_ n1_
                (try clear hb)
                (try clear hb2)
                (try clear hk)
                (try clear hi)
                refine hK.out _ _ ⟨(blk_cell BK117.out 0).trans rfl, (blk_cell BK117.out 1).trans rfl, (blk_cell BK117.out 2).trans rfl⟩ (fun hHeld => ?_)
                clear hK K
                refine norm_ (a' := ?_) ?_ ?_
                rotate_left
                ·show Act.put _ (some 38) _ = _
                 simp only [Act.put, List.setIfInBounds_toArray, List.set_cons_zero, List.set_cons_succ, i64_w, i32_w]
                 rfl
                refine pure_ (i := 17) (N := some 39) (v := ?_) (a' := ?_) #[true, true, true, true, true, true, true, true, true, true, true, true, true, true, true, true, true, true, false, true, true, true, false, false, false, true, true, true, false, false, false] rfl rfl (any_of HT_.out (by kernel_rfl)) (fun _ _ _ h => h) (Or.inl ⟨by rfl, ?_⟩) ?_ ?_
                rotate_left
                ·intro w'
                 go_simp
                 with_reducible rfl
                rotate_left
                ·simp only [Act.put, List.setIfInBounds_toArray, List.set_cons_zero, List.set_cons_succ, i64_w, i32_w]
                 rfl
                refine pure_ (i := 18) (N := some 40) (v := ?_) (a' := ?_) #[true, true, true, true, true, true, true, true, true, true, true, true, true, true, true, true, true, true, true, true, true, true, false, false, false, true, true, true, false, false, false] rfl rfl (any_of HT_.out (by kernel_rfl)) (fun _ _ _ h => h) (Or.inl ⟨by rfl, ?_⟩) ?_ ?_
                rotate_left
                ·intro w'
                 go_simp
                 with_reducible rfl
                rotate_left
                ·simp only [Act.put, List.setIfInBounds_toArray, List.set_cons_zero, List.set_cons_succ, i64_w, i32_w]
                 rfl
                refine one_ (i := 22) (N := some 44) #[true, true, true, true, true, true, true, true, true, true, true, true, true, true, true, true, true, true, true, true, true, true, true, false, false, true, true, true, false, false, false] rfl rfl (one_of HT_.out (by kernel_rfl)) (by decide) (fun K hK => ?_)
                refine goes_ Tryd.func23 (by kernel_rfl) rfl #[.int .i64 (Int.tmod (wrap64 (Int.tdiv t119 60000)) 60), .int .i64 2] (by rfl) rfl rfl (by (try simp only [List.map_toArray, List.map_cons, List.map_nil]); first | done | rfl | (simp only [List.length_drop, List.length_take]; rfl)) ?_
                with_reducible refine (moment_digits.calls k (Int.tmod (wrap64 (Int.tdiv t119 60000)) 60) 2 t124 _ A16.out).mono ?_
                rintro e w35 ⟨rfl, hb⟩
                refine ⟨_, rfl, ?_⟩
                have n0_ := Aside0.mk (blk_below (g := gb117) (o := .cells #[.int .i64 t113, .int .i64 t114, .int .i64 t115] 26 (0, 0)) (by (with_reducible repeat (first | refine blk_drewN ?_ _ | refine blk_drew ?_ | refine blk_alloc ?_ _)); exact BK117.out) hb)
                have n1_ := Aside0.mk (below_step (by repeat (first | (with_reducible first | exact HB.out | apply below_alloc | apply pw_below_drewN | apply below_drew1 | refine below_set ?_ GE117.out) | exact HB.out)) hb)
                clear BK117
                clear HB
                have BK117 := n0_
                have HB := n1_
                clear n0_ n1_
                (try clear hb)
                (try clear hb2)
                (try clear hk)
                (try clear hi)
                refine hK.out _ _ ⟨(blk_cell BK117.out 0).trans rfl, (blk_cell BK117.out 1).trans rfl, (blk_cell BK117.out 2).trans rfl⟩ (fun hHeld => ?_)
                clear hK K
                refine norm_ (a' := ?_) ?_ ?_
                rotate_left
                ·show Act.put _ (some 44) _ = _
                 simp only [Act.put, List.setIfInBounds_toArray, List.set_cons_zero, List.set_cons_succ, i64_w, i32_w]
                 rfl
                refine pure_ (i := 23) (N := some 45) (v := ?_) (a' := ?_) #[true, true, true, true, true, true, true, true, true, true, true, true, true, true, true, true, true, true, true, true, true, true, true, true, false, true, true, true, false, false, false] rfl rfl (any_of HT_.out (by kernel_rfl)) (fun _ _ _ h => h) (Or.inl ⟨by rfl, ?_⟩) ?_ ?_
                rotate_left
                ·intro w'
                 go_simp
                 with_reducible rfl
                rotate_left
                ·simp only [Act.put, List.setIfInBounds_toArray, List.set_cons_zero, List.set_cons_succ, i64_w, i32_w]
                 rfl
                refine pure_ (i := 24) (N := some 46) (v := ?_) (a' := ?_) #[true, true, true, true, true, true, true, true, true, true, true, true, true, true, true, true, true, true, true, true, true, true, true, true, true, true, true, true, false, false, false] rfl rfl (any_of HT_.out (by kernel_rfl)) (fun _ _ _ h => h) (Or.inl ⟨by rfl, ?_⟩) ?_ ?_
                rotate_left
                ·intro w'
                 go_simp
                 with_reducible rfl
                rotate_left
                ·simp only [Act.put, List.setIfInBounds_toArray, List.set_cons_zero, List.set_cons_succ, i64_w, i32_w]
                 rfl
                refine one_ (i := 28) (N := some 50) #[true, true, true, true, true, true, true, true, true, true, true, true, true, true, true, true, true, true, true, true, true, true, true, true, true, true, true, true, true, false, false] rfl rfl (one_of HT_.out (by kernel_rfl)) (by decide) (fun K hK => ?_)
                refine goes_ Tryd.func23 (by kernel_rfl) rfl #[.int .i64 (Int.tmod (wrap64 (Int.tdiv t119 1000)) 60), .int .i64 2] (by rfl) rfl rfl (by (try simp only [List.map_toArray, List.map_cons, List.map_nil]); first | done | rfl | (simp only [List.length_drop, List.length_take]; rfl)) ?_
                with_reducible refine (moment_digits.calls k (Int.tmod (wrap64 (Int.tdiv t119 1000)) 60) 2 t125 _ A19.out).mono ?_
                rintro e w36 ⟨rfl, hb⟩
                refine ⟨_, rfl, ?_⟩
                have n0_ := Aside0.mk (blk_below (g := gb117) (o := .cells #[.int .i64 t113, .int .i64 t114, .int .i64 t115] 26 (0, 0)) (by (with_reducible repeat (first | refine blk_drewN ?_ _ | refine blk_drew ?_ | refine blk_alloc ?_ _)); exact BK117.out) hb)
                have n1_ := Aside0.mk (below_step (by repeat (first | (with_reducible first | exact HB.out | apply below_alloc | apply pw_below_drewN | apply below_drew1 | refine below_set ?_ GE117.out) | exact HB.out)) hb)
                clear BK117
                clear HB
                have BK117 := n0_
                have HB := n1_
                clear n0_ n1_
                (try clear hb)
                (try clear hb2)
                (try clear hk)
                (try clear hi)
                refine hK.out _ _ ⟨(blk_cell BK117.out 0).trans rfl, (blk_cell BK117.out 1).trans rfl, (blk_cell BK117.out 2).trans rfl⟩ (fun hHeld => ?_)
                clear hK K
                refine norm_ (a' := ?_) ?_ ?_
                rotate_left
                ·show Act.put _ (some 50) _ = _
                 simp only [Act.put, List.setIfInBounds_toArray, List.set_cons_zero, List.set_cons_succ, i64_w, i32_w]
                 rfl
                refine pure_ (i := 29) (N := some 51) (v := ?_) (a' := ?_) #[true, true, true, true, true, true, true, true, true, true, true, true, true, true, true, true, true, true, true, true, true, true, true, true, true, true, true, true, true, true, false] rfl rfl (any_of HT_.out (by kernel_rfl)) (fun _ _ _ h => h) (Or.inl ⟨by rfl, ?_⟩) ?_ ?_
                rotate_left
                ·intro w'
                 go_simp
                 with_reducible rfl
                rotate_left
                ·simp only [Act.put, List.setIfInBounds_toArray, List.set_cons_zero, List.set_cons_succ, i64_w, i32_w]
                 rfl
                refine pure_ (i := 30) (N := some 8) (v := ?_) (a' := ?_) #[true, true, true, true, true, true, true, true, true, true, true, true, true, true, true, true, true, true, true, true, true, true, true, true, true, true, true, true, true, true, true] rfl rfl (any_of HT_.out (by kernel_rfl)) (fun _ _ _ h => h) (Or.inl ⟨by rfl, ?_⟩) ?_ ?_
                rotate_left
                ·intro w'
                 go_simp
                 with_reducible rfl
                rotate_left
                ·simp only [Act.put, List.setIfInBounds_toArray, List.set_cons_zero, List.set_cons_succ, i64_w, i32_w]
                 rfl
                refine done_ (done_of HT_.out (by kernel_rfl)) ?_
                try go_wp2_with (first | ((with_reducible refine gate_callee (f := 23) rfl ?_); refine goesA (some 58) Tryd.func23 #[.int .i64 (Int.tmod t119 1000), .int .i64 3] rfl ?_; (with_reducible refine (moment_digits.calls k (Int.tmod t119 1000) 3 t126 _ A22.out).mono ?_); rintro e w37 ⟨rfl, hb⟩; refine ⟨_, rfl, ?_⟩; have n0_ := Aside0.mk (blk_below (g := gb117) (o := .cells #[.int .i64 t113, .int .i64 t114, .int .i64 t115] 26 (0, 0)) (by (with_reducible repeat (first | refine blk_drewN ?_ _ | refine blk_drew ?_ | refine blk_alloc ?_ _)); exact BK117.out) hb); have n1_ := Aside0.mk (below_step (by repeat (first | (with_reducible first | exact HB.out | apply below_alloc | apply pw_below_drewN | apply below_drew1 | refine below_set ?_ GE117.out) | exact HB.out)) hb); clear BK117; clear HB; have BK117 := n0_; have HB := n1_; clear n0_ n1_; (try clear hb); (try clear hb2); (try clear hk); (try clear hi)))
                go_ret2
                exact ⟨rfl_, by repeat (first | (with_reducible first | exact HB.out | apply below_alloc | apply pw_below_drewN | apply below_drew1 | refine below_set ?_ GE117.out) | exact HB.out)⟩
               ·rw [if_neg c25] at H
                exact absurd H (by simp)
              ·rw [if_neg c24] at H
               exact absurd H (by simp)
             ·rw [if_neg c23] at H
              exact absurd H (by simp)
            ·rw [if_neg c21] at H
             have c21b0 : decide (0 < (Int.tmod t119 1000)) = false := decide_eq_false c21
             clear c21
             by_cases c38 : ((((((((((t120 ++ (⟨#[45]⟩ : ByteArray)) ++ t121) ++ (⟨#[45]⟩ : ByteArray)) ++ t122) ++ (⟨#[84]⟩ : ByteArray)) ++ t123) ++ (⟨#[58]⟩ : ByteArray)) ++ t124) ++ (⟨#[58]⟩ : ByteArray)) ++ t125).size + 1 ≤ 9223372036854775807
             ·rw [if_pos c38] at H
              have c38b0 := eq_true c38
              have c38b1 : decide (((((((((((t120 ++ (⟨#[45]⟩ : ByteArray)) ++ t121) ++ (⟨#[45]⟩ : ByteArray)) ++ t122) ++ (⟨#[84]⟩ : ByteArray)) ++ t123) ++ (⟨#[58]⟩ : ByteArray)) ++ t124) ++ (⟨#[58]⟩ : ByteArray)) ++ t125).size + 1 ≤ 9223372036854775807) = true := decide_eq_true c38
              try have c38b2 : (9223372036854775807 < ((((((((((t120 ++ (⟨#[45]⟩ : ByteArray)) ++ t121) ++ (⟨#[45]⟩ : ByteArray)) ++ t122) ++ (⟨#[84]⟩ : ByteArray)) ++ t123) ++ (⟨#[58]⟩ : ByteArray)) ++ t124) ++ (⟨#[58]⟩ : ByteArray)) ++ t125).size + 1) = False := eq_false (Nat.not_lt.2 c38)
              try have c38b2z : (9223372036854775807 < t120.size + 1 + t121.size + 1 + t122.size + 1 + t123.size + 1 + t124.size + 1 + t125.size + 1) = False := by have h_ := c38b2; simp only [ByteArray.size_append] at h_; exact h_
              simp only [Option.some.injEq, Prod.mk.injEq] at H
              obtain ⟨rfl, rfl⟩ := H
              go_enter Tryd.func9, Tryd.ntmps9
              try go_wp2_with (first | ((with_reducible refine gate_callee (f := 10) rfl ?_); refine goesA (some 11) Tryd.func10 #[.int .i64 a0] rfl ?_; (with_reducible refine (moment_Date.calls k a0 t113 t114 t115 t116 _ A2.out).mono ?_); rintro e w39 ⟨rfl, hb⟩; refine ⟨_, rfl, ?_⟩; have n0_ := Bs HB hb; clear HB; revert n0_; intro HB; (try clear hb); (try clear hb2); (try clear hk); (try clear hi)) | ((with_reducible refine gate_dst (N := 4) rfl ?_); refine box_event ?hg (N := 4) ?hd (cs := #[.int .i64 0, .int .i64 0, .int .i64 0]) (t := 26) ?hr ?_; (case hd => rfl); (case hg => rfl); (case hr => first | (go_simp; done) | (go_simp; rfl)); intro gb117 hg w40 hbox hb; have n0_ := Bs HB hb; have n1_ := Aside0.mk (hbox); have n2_ := Aside0.mk ((by rw [hg]; exact (Bz HB) : w.heap.size ≤ gb117)); have n3_ := Aside0.mk ((by rw [hg]; exact (Bz HB) : w.heap.size ≤ gb117)); clear HB; have HB := n0_; have BK117 := n1_; have GW117 := n2_; have GE117 := n3_; clear n0_ n1_ n2_ n3_; clear hb hbox hg; have hcz41_0 : w40.cell? ⟨gb117, 0, none⟩ = some (.int .i64 0) := (blk_cell BK117.out 0).trans rfl; have hcz41_1 : w40.cell? ⟨gb117, 1, none⟩ = some (.int .i64 0) := (blk_cell BK117.out 1).trans rfl; have hcz41_2 : w40.cell? ⟨gb117, 2, none⟩ = some (.int .i64 0) := (blk_cell BK117.out 2).trans rfl; have hfz41_0 := blk_frozen BK117.out 0; have hfz41_1 := blk_frozen BK117.out 1; have hfz41_2 := blk_frozen BK117.out 2) | ((with_reducible refine gate_callee (f := 22) rfl ?_); refine goesA (some 19) Tryd.func22 #[.int .i64 a0] rfl ?_; (with_reducible refine (moment_split.calls a0 t118 t119 _ A4.out).mono ?_); rintro e w' ⟨rfl, ⟨nd, rfl⟩⟩; refine ⟨_, rfl, ?_⟩))
              have n0_ : Aside0 ((((w40.setCell ⟨gb117, 0, none⟩ (.int .i64 t113)).setCell ⟨gb117, 1, none⟩ (.int .i64 t114)).setCell ⟨gb117, 2, none⟩ (.int .i64 t115)).heap[gb117]? = some (.cells #[.int .i64 t113, .int .i64 t114, .int .i64 t115] 26 (0, 0))) := ⟨by (with_reducible repeat (first | refine blk_drewN ?_ _ | refine blk_drew ?_ | refine blk_alloc ?_ _)); refine blk_put (cs := #[.int .i64 t113, .int .i64 t114, .int .i64 0]) ?_ 2 _ rfl; (with_reducible repeat (first | refine blk_drewN ?_ _ | refine blk_drew ?_ | refine blk_alloc ?_ _)); refine blk_put (cs := #[.int .i64 t113, .int .i64 0, .int .i64 0]) ?_ 1 _ rfl; (with_reducible repeat (first | refine blk_drewN ?_ _ | refine blk_drew ?_ | refine blk_alloc ?_ _)); refine blk_put (cs := #[.int .i64 0, .int .i64 0, .int .i64 0]) ?_ 0 _ rfl; (with_reducible repeat (first | refine blk_drewN ?_ _ | refine blk_drew ?_ | refine blk_alloc ?_ _)); exact BK117.out⟩
              have n1_ : Aside0 (Below w.heap.size w (((w40.setCell ⟨gb117, 0, none⟩ (.int .i64 t113)).setCell ⟨gb117, 1, none⟩ (.int .i64 t114)).setCell ⟨gb117, 2, none⟩ (.int .i64 t115))) := ⟨by repeat (first | (with_reducible first | exact HB.out | apply below_alloc | apply pw_below_drewN | apply below_drew1 | refine below_set ?_ GE117.out) | exact HB.out)⟩
              (try clear BK117)
              (try clear HB)
              generalize (((w40.setCell ⟨gb117, 0, none⟩ (.int .i64 t113)).setCell ⟨gb117, 1, none⟩ (.int .i64 t114)).setCell ⟨gb117, 2, none⟩ (.int .i64 t115)) = w42 at n0_ n1_ ⊢
              have BK117 := n0_
              have HB := n1_
              clear n0_ n1_
              (try (rw [drewN_self w42]; generalize hq_ : World.drewN w42 _ = w42; have n0_ : Aside0 (w42.heap[gb117]? = some (.cells #[.int .i64 t113, .int .i64 t114, .int .i64 t115] 26 (0, 0))) := ⟨by rw [← hq_]; exact (by (with_reducible repeat (first | refine blk_drewN ?_ _ | refine blk_drew ?_ | refine blk_alloc ?_ _)); exact BK117.out)⟩; have n1_ : Aside0 (Below w.heap.size w w42) := ⟨by rw [← hq_]; exact (by repeat (first | (with_reducible first | exact HB.out | apply below_alloc | apply pw_below_drewN | apply below_drew1 | refine below_set ?_ GE117.out) | exact HB.out))⟩; clear BK117 HB hq_; have BK117 := n0_; have HB := n1_; clear n0_ n1_))
              have n0_ := Aside0.mk (blk_drew BK117.out)
              have n1_ := Aside0.mk (below_drew1 HB.out)
              clear BK117
              clear HB
              have BK117 := n0_
              have HB := n1_
              clear n0_ n1_
              refine start_ (n := 31) (S := fun w' => w'.cell? ⟨gb117, 0, none⟩ = some (.int .i64 t113) ∧ w'.cell? ⟨gb117, 1, none⟩ = some (.int .i64 t114) ∧ w'.cell? ⟨gb117, 2, none⟩ = some (.int .i64 t115)) (ds := []) #[false, false, false, false, false, false, false, false, false, false, false, false, false, false, false, false, false, false, false, false, false, false, false, false, false, false, false, false, false, false, false] (by kernel_rfl) rfl rfl ⟨(blk_cell BK117.out 0).trans rfl, (blk_cell BK117.out 1).trans rfl, (blk_cell BK117.out 2).trans rfl⟩ (fun hHeld => ?_); refine with_tabW moment_Print.tab5 moment_Print.bits5 (fun HT_ HW_ => ?_)
              generalize w42.drew = w43 at BK117 HB hHeld ⊢
              refine pure_ (i := 0) (N := some 22) (v := ?_) (a' := ?_) #[true, false, false, false, false, false, false, false, false, false, false, false, false, false, false, false, false, false, false, false, false, false, false, false, false, false, false, false, false, false, false] rfl rfl (any_of HT_.out (by kernel_rfl)) (fun _ _ _ h => h) (Or.inl ⟨by rfl, ?_⟩) ?_ ?_
              rotate_left
              ·intro w'
               go_simp
               with_reducible rfl
              rotate_left
              ·simp only [Act.put, List.setIfInBounds_toArray, List.set_cons_zero, List.set_cons_succ, i64_w, i32_w]
               rfl
              refine pure_ (i := 4) (N := some 26) (v := ?_) (a' := ?_) #[true, false, false, false, true, false, false, false, false, false, false, false, false, false, false, false, false, false, false, false, false, false, false, false, false, false, false, false, false, false, false] rfl rfl (any_of HT_.out (by kernel_rfl)) (fun _ _ _ h => h) (Or.inl ⟨by rfl, ?_⟩) ?_ ?_
              rotate_left
              ·intro w'
               go_simp
               with_reducible rfl
              rotate_left
              ·simp only [Act.put, List.setIfInBounds_toArray, List.set_cons_zero, List.set_cons_succ, i64_w, i32_w]
               rfl
              refine pure_ (i := 9) (N := some 31) (v := ?_) (a' := ?_) #[true, false, false, false, true, false, false, false, false, true, false, false, false, false, false, false, false, false, false, false, false, false, false, false, false, false, false, false, false, false, false] rfl rfl (any_of HT_.out (by kernel_rfl)) (fun _ _ _ h => h) (Or.inl ⟨by rfl, ?_⟩) ?_ ?_
              rotate_left
              ·intro w'
               go_simp
               with_reducible rfl
              rotate_left
              ·simp only [Act.put, List.setIfInBounds_toArray, List.set_cons_zero, List.set_cons_succ, i64_w, i32_w]
               rfl
              refine pure_ (i := 14) (N := some 36) (v := ?_) (a' := ?_) #[true, false, false, false, true, false, false, false, false, true, false, false, false, false, true, false, false, false, false, false, false, false, false, false, false, false, false, false, false, false, false] rfl rfl (any_of HT_.out (by kernel_rfl)) (fun _ _ _ h => h) (Or.inl ⟨by rfl, ?_⟩) ?_ ?_
              rotate_left
              ·intro w'
               go_simp
               with_reducible rfl
              rotate_left
              ·simp only [Act.put, List.setIfInBounds_toArray, List.set_cons_zero, List.set_cons_succ, i64_w, i32_w]
               rfl
              refine pure_ (i := 15) (N := some 37) (v := ?_) (a' := ?_) #[true, false, false, false, true, false, false, false, false, true, false, false, false, false, true, true, false, false, false, false, false, false, false, false, false, false, false, false, false, false, false] rfl rfl (any_of HT_.out (by kernel_rfl)) (fun _ _ _ h => h) (Or.inl ⟨by rfl, ?_⟩) ?_ ?_
              rotate_left
              ·intro w'
               go_simp
               with_reducible rfl
              rotate_left
              ·simp only [Act.put, List.setIfInBounds_toArray, List.set_cons_zero, List.set_cons_succ, i64_w, i32_w]
               rfl
              refine pure_ (i := 19) (N := some 41) (v := ?_) (a' := ?_) #[true, false, false, false, true, false, false, false, false, true, false, false, false, false, true, true, false, false, false, true, false, false, false, false, false, false, false, false, false, false, false] rfl rfl (any_of HT_.out (by kernel_rfl)) (fun _ _ _ h => h) (Or.inl ⟨by rfl, ?_⟩) ?_ ?_
              rotate_left
              ·intro w'
               go_simp
               with_reducible rfl
              rotate_left
              ·simp only [Act.put, List.setIfInBounds_toArray, List.set_cons_zero, List.set_cons_succ, i64_w, i32_w]
               rfl
              refine pure_ (i := 20) (N := some 42) (v := ?_) (a' := ?_) #[true, false, false, false, true, false, false, false, false, true, false, false, false, false, true, true, false, false, false, true, true, false, false, false, false, false, false, false, false, false, false] rfl rfl (any_of HT_.out (by kernel_rfl)) (fun _ _ _ h => h) (Or.inl ⟨by rfl, ?_⟩) ?_ ?_
              rotate_left
              ·intro w'
               go_simp
               with_reducible rfl
              rotate_left
              ·simp only [Act.put, List.setIfInBounds_toArray, List.set_cons_zero, List.set_cons_succ, i64_w, i32_w]
               rfl
              refine pure_ (i := 21) (N := some 43) (v := ?_) (a' := ?_) #[true, false, false, false, true, false, false, false, false, true, false, false, false, false, true, true, false, false, false, true, true, true, false, false, false, false, false, false, false, false, false] rfl rfl (any_of HT_.out (by kernel_rfl)) (fun _ _ _ h => h) (Or.inl ⟨by rfl, ?_⟩) ?_ ?_
              rotate_left
              ·intro w'
               go_simp
               with_reducible rfl
              rotate_left
              ·simp only [Act.put, List.setIfInBounds_toArray, List.set_cons_zero, List.set_cons_succ, i64_w, i32_w]
               rfl
              refine pure_ (i := 25) (N := some 47) (v := ?_) (a' := ?_) #[true, false, false, false, true, false, false, false, false, true, false, false, false, false, true, true, false, false, false, true, true, true, false, false, false, true, false, false, false, false, false] rfl rfl (any_of HT_.out (by kernel_rfl)) (fun _ _ _ h => h) (Or.inl ⟨by rfl, ?_⟩) ?_ ?_
              rotate_left
              ·intro w'
               go_simp
               with_reducible rfl
              rotate_left
              ·simp only [Act.put, List.setIfInBounds_toArray, List.set_cons_zero, List.set_cons_succ, i64_w, i32_w]
               rfl
              refine pure_ (i := 26) (N := some 48) (v := ?_) (a' := ?_) #[true, false, false, false, true, false, false, false, false, true, false, false, false, false, true, true, false, false, false, true, true, true, false, false, false, true, true, false, false, false, false] rfl rfl (any_of HT_.out (by kernel_rfl)) (fun _ _ _ h => h) (Or.inl ⟨by rfl, ?_⟩) ?_ ?_
              rotate_left
              ·intro w'
               go_simp
               with_reducible rfl
              rotate_left
              ·simp only [Act.put, List.setIfInBounds_toArray, List.set_cons_zero, List.set_cons_succ, i64_w, i32_w]
               rfl
              refine pure_ (i := 27) (N := some 49) (v := ?_) (a' := ?_) #[true, false, false, false, true, false, false, false, false, true, false, false, false, false, true, true, false, false, false, true, true, true, false, false, false, true, true, true, false, false, false] rfl rfl (any_of HT_.out (by kernel_rfl)) (fun _ _ _ h => h) (Or.inl ⟨by rfl, ?_⟩) ?_ ?_
              rotate_left
              ·intro w'
               go_simp
               with_reducible rfl
              rotate_left
              ·simp only [Act.put, List.setIfInBounds_toArray, List.set_cons_zero, List.set_cons_succ, i64_w, i32_w]
               rfl
              refine take_ (i := 1) (N := some 23) (v := ?_) (a' := ?_) #[true, true, false, false, true, false, false, false, false, true, false, false, false, false, true, true, false, false, false, true, true, true, false, false, false, true, true, true, false, false, false] rfl rfl (take_ofW HT_.out HW_.out (by kernel_rfl)) (fun _ _ _ h => h) (Or.inl ⟨by rfl, ?_⟩) hHeld ?_ ?_
              rotate_left
              ·rintro w' ⟨s0, s1, s2⟩
               go_simp
               with_reducible rfl
              rotate_left
              ·simp only [Act.put, List.setIfInBounds_toArray, List.set_cons_zero, List.set_cons_succ, i64_w, i32_w]
               rfl
              refine take_ (i := 5) (N := some 27) (v := ?_) (a' := ?_) #[true, true, false, false, true, true, false, false, false, true, false, false, false, false, true, true, false, false, false, true, true, true, false, false, false, true, true, true, false, false, false] rfl rfl (take_ofW HT_.out HW_.out (by kernel_rfl)) (fun _ _ _ h => h) (Or.inl ⟨by rfl, ?_⟩) hHeld ?_ ?_
              rotate_left
              ·rintro w' ⟨s0, s1, s2⟩
               go_simp
               with_reducible rfl
              rotate_left
              ·simp only [Act.put, List.setIfInBounds_toArray, List.set_cons_zero, List.set_cons_succ, i64_w, i32_w]
               rfl
              refine take_ (i := 10) (N := some 32) (v := ?_) (a' := ?_) #[true, true, false, false, true, true, false, false, false, true, true, false, false, false, true, true, false, false, false, true, true, true, false, false, false, true, true, true, false, false, false] rfl rfl (take_ofW HT_.out HW_.out (by kernel_rfl)) (fun _ _ _ h => h) (Or.inl ⟨by rfl, ?_⟩) hHeld ?_ ?_
              rotate_left
              ·rintro w' ⟨s0, s1, s2⟩
               go_simp
               with_reducible rfl
              rotate_left
              ·simp only [Act.put, List.setIfInBounds_toArray, List.set_cons_zero, List.set_cons_succ, i64_w, i32_w]
               rfl
              refine one_ (i := 2) (N := some 24) #[true, true, true, false, true, true, false, false, false, true, true, false, false, false, true, true, false, false, false, true, true, true, false, false, false, true, true, true, false, false, false] rfl rfl (one_of HT_.out (by kernel_rfl)) (by decide) (fun K hK => ?_)
              refine goes_ Tryd.func23 (by kernel_rfl) rfl #[.int .i64 t113, .int .i64 4] (by rfl) rfl rfl (by (try simp only [List.map_toArray, List.map_cons, List.map_nil]); first | done | rfl | (simp only [List.length_drop, List.length_take]; rfl)) ?_
              with_reducible refine (moment_digits.calls k t113 4 t120 _ A5.out).mono ?_
              rintro e w44 ⟨rfl, hb⟩
              refine ⟨_, rfl, ?_⟩
              have n0_ := Aside0.mk (blk_below (g := gb117) (o := .cells #[.int .i64 t113, .int .i64 t114, .int .i64 t115] 26 (0, 0)) (by (with_reducible repeat (first | refine blk_drewN ?_ _ | refine blk_drew ?_ | refine blk_alloc ?_ _)); exact BK117.out) hb)
              have n1_ := Aside0.mk (below_step (by repeat (first | (with_reducible first | exact HB.out | apply below_alloc | apply pw_below_drewN | apply below_drew1 | refine below_set ?_ GE117.out) | exact HB.out)) hb)
              clear BK117
              clear HB
              have BK117 := n0_
              have HB := n1_
              clear n0_ n1_
              (try clear hb)
              (try clear hb2)
              (try clear hk)
              (try clear hi)
              refine hK.out _ _ ⟨(blk_cell BK117.out 0).trans rfl, (blk_cell BK117.out 1).trans rfl, (blk_cell BK117.out 2).trans rfl⟩ (fun hHeld => ?_)
              clear hK K
              refine norm_ (a' := ?_) ?_ ?_
              rotate_left
              ·show Act.put _ (some 24) _ = _
               simp only [Act.put, List.setIfInBounds_toArray, List.set_cons_zero, List.set_cons_succ, i64_w, i32_w]
               rfl
              refine pure_ (i := 3) (N := some 25) (v := ?_) (a' := ?_) #[true, true, true, true, true, true, false, false, false, true, true, false, false, false, true, true, false, false, false, true, true, true, false, false, false, true, true, true, false, false, false] rfl rfl (any_of HT_.out (by kernel_rfl)) (fun _ _ _ h => h) (Or.inl ⟨by rfl, ?_⟩) ?_ ?_
              rotate_left
              ·intro w'
               go_simp
               with_reducible rfl
              rotate_left
              ·simp only [Act.put, List.setIfInBounds_toArray, List.set_cons_zero, List.set_cons_succ, i64_w, i32_w]
               rfl
              refine one_ (i := 6) (N := some 28) #[true, true, true, true, true, true, true, false, false, true, true, false, false, false, true, true, false, false, false, true, true, true, false, false, false, true, true, true, false, false, false] rfl rfl (one_of HT_.out (by kernel_rfl)) (by decide) (fun K hK => ?_)
              refine goes_ Tryd.func23 (by kernel_rfl) rfl #[.int .i64 t114, .int .i64 2] (by rfl) rfl rfl (by (try simp only [List.map_toArray, List.map_cons, List.map_nil]); first | done | rfl | (simp only [List.length_drop, List.length_take]; rfl)) ?_
              with_reducible refine (moment_digits.calls k t114 2 t121 _ A7.out).mono ?_
              rintro e w45 ⟨rfl, hb⟩
              refine ⟨_, rfl, ?_⟩
              have n0_ := Aside0.mk (blk_below (g := gb117) (o := .cells #[.int .i64 t113, .int .i64 t114, .int .i64 t115] 26 (0, 0)) (by (with_reducible repeat (first | refine blk_drewN ?_ _ | refine blk_drew ?_ | refine blk_alloc ?_ _)); exact BK117.out) hb)
              have n1_ := Aside0.mk (below_step (by repeat (first | (with_reducible first | exact HB.out | apply below_alloc | apply pw_below_drewN | apply below_drew1 | refine below_set ?_ GE117.out) | exact HB.out)) hb)
              clear BK117
              clear HB
              have BK117 := n0_
              have HB := n1_
              clear n0_ n1_
              (try clear hb)
              (try clear hb2)
              (try clear hk)
              (try clear hi)
              refine hK.out _ _ ⟨(blk_cell BK117.out 0).trans rfl, (blk_cell BK117.out 1).trans rfl, (blk_cell BK117.out 2).trans rfl⟩ (fun hHeld => ?_)
              clear hK K
              refine norm_ (a' := ?_) ?_ ?_
              rotate_left
              ·show Act.put _ (some 28) _ = _
               simp only [Act.put, List.setIfInBounds_toArray, List.set_cons_zero, List.set_cons_succ, i64_w, i32_w]
               rfl
              refine pure_ (i := 7) (N := some 29) (v := ?_) (a' := ?_) #[true, true, true, true, true, true, true, true, false, true, true, false, false, false, true, true, false, false, false, true, true, true, false, false, false, true, true, true, false, false, false] rfl rfl (any_of HT_.out (by kernel_rfl)) (fun _ _ _ h => h) (Or.inl ⟨by rfl, ?_⟩) ?_ ?_
              rotate_left
              ·intro w'
               go_simp
               with_reducible rfl
              rotate_left
              ·simp only [Act.put, List.setIfInBounds_toArray, List.set_cons_zero, List.set_cons_succ, i64_w, i32_w]
               rfl
              refine pure_ (i := 8) (N := some 30) (v := ?_) (a' := ?_) #[true, true, true, true, true, true, true, true, true, true, true, false, false, false, true, true, false, false, false, true, true, true, false, false, false, true, true, true, false, false, false] rfl rfl (any_of HT_.out (by kernel_rfl)) (fun _ _ _ h => h) (Or.inl ⟨by rfl, ?_⟩) ?_ ?_
              rotate_left
              ·intro w'
               go_simp
               with_reducible rfl
              rotate_left
              ·simp only [Act.put, List.setIfInBounds_toArray, List.set_cons_zero, List.set_cons_succ, i64_w, i32_w]
               rfl
              refine one_ (i := 11) (N := some 33) #[true, true, true, true, true, true, true, true, true, true, true, true, false, false, true, true, false, false, false, true, true, true, false, false, false, true, true, true, false, false, false] rfl rfl (one_of HT_.out (by kernel_rfl)) (by decide) (fun K hK => ?_)
              refine goes_ Tryd.func23 (by kernel_rfl) rfl #[.int .i64 t115, .int .i64 2] (by rfl) rfl rfl (by (try simp only [List.map_toArray, List.map_cons, List.map_nil]); first | done | rfl | (simp only [List.length_drop, List.length_take]; rfl)) ?_
              with_reducible refine (moment_digits.calls k t115 2 t122 _ A10.out).mono ?_
              rintro e w46 ⟨rfl, hb⟩
              refine ⟨_, rfl, ?_⟩
              have n0_ := Aside0.mk (blk_below (g := gb117) (o := .cells #[.int .i64 t113, .int .i64 t114, .int .i64 t115] 26 (0, 0)) (by (with_reducible repeat (first | refine blk_drewN ?_ _ | refine blk_drew ?_ | refine blk_alloc ?_ _)); exact BK117.out) hb)
              have n1_ := Aside0.mk (below_step (by repeat (first | (with_reducible first | exact HB.out | apply below_alloc | apply pw_below_drewN | apply below_drew1 | refine below_set ?_ GE117.out) | exact HB.out)) hb)
              clear BK117
              clear HB
              have BK117 := n0_
              have HB := n1_
              clear n0_ n1_
              (try clear hb)
              (try clear hb2)
              (try clear hk)
              (try clear hi)
              refine hK.out _ _ ⟨(blk_cell BK117.out 0).trans rfl, (blk_cell BK117.out 1).trans rfl, (blk_cell BK117.out 2).trans rfl⟩ (fun hHeld => ?_)
              clear hK K
              refine norm_ (a' := ?_) ?_ ?_
              rotate_left
              ·show Act.put _ (some 33) _ = _
               simp only [Act.put, List.setIfInBounds_toArray, List.set_cons_zero, List.set_cons_succ, i64_w, i32_w]
               rfl
              refine pure_ (i := 12) (N := some 34) (v := ?_) (a' := ?_) #[true, true, true, true, true, true, true, true, true, true, true, true, true, false, true, true, false, false, false, true, true, true, false, false, false, true, true, true, false, false, false] rfl rfl (any_of HT_.out (by kernel_rfl)) (fun _ _ _ h => h) (Or.inl ⟨by rfl, ?_⟩) ?_ ?_
              rotate_left
              ·intro w'
               go_simp
               with_reducible rfl
              rotate_left
              ·simp only [Act.put, List.setIfInBounds_toArray, List.set_cons_zero, List.set_cons_succ, i64_w, i32_w]
               rfl
              refine pure_ (i := 13) (N := some 35) (v := ?_) (a' := ?_) #[true, true, true, true, true, true, true, true, true, true, true, true, true, true, true, true, false, false, false, true, true, true, false, false, false, true, true, true, false, false, false] rfl rfl (any_of HT_.out (by kernel_rfl)) (fun _ _ _ h => h) (Or.inl ⟨by rfl, ?_⟩) ?_ ?_
              rotate_left
              ·intro w'
               go_simp
               with_reducible rfl
              rotate_left
              ·simp only [Act.put, List.setIfInBounds_toArray, List.set_cons_zero, List.set_cons_succ, i64_w, i32_w]
               rfl
              refine one_ (i := 16) (N := some 38) #[true, true, true, true, true, true, true, true, true, true, true, true, true, true, true, true, true, false, false, true, true, true, false, false, false, true, true, true, false, false, false] rfl rfl (one_of HT_.out (by kernel_rfl)) (by decide) (fun K hK => ?_)
              refine goes_ Tryd.func23 (by kernel_rfl) rfl #[.int .i64 (wrap64 (Int.tdiv t119 3600000)), .int .i64 2] (by rfl) rfl rfl (by (try simp only [List.map_toArray, List.map_cons, List.map_nil]); first | done | rfl | (simp only [List.length_drop, List.length_take]; rfl)) ?_
              with_reducible refine (moment_digits.calls k (wrap64 (Int.tdiv t119 3600000)) 2 t123 _ A13.out).mono ?_
              rintro e w47 ⟨rfl, hb⟩
              refine ⟨_, rfl, ?_⟩
              have n0_ := Aside0.mk (blk_below (g := gb117) (o := .cells #[.int .i64 t113, .int .i64 t114, .int .i64 t115] 26 (0, 0)) (by (with_reducible repeat (first | refine blk_drewN ?_ _ | refine blk_drew ?_ | refine blk_alloc ?_ _)); exact BK117.out) hb)
              have n1_ := Aside0.mk (below_step (by repeat (first | (with_reducible first | exact HB.out | apply below_alloc | apply pw_below_drewN | apply below_drew1 | refine below_set ?_ GE117.out) | exact HB.out)) hb)
              clear BK117
              clear HB
              have BK117 := n0_
              have HB := n1_
              clear n0_ n1_
              (try clear hb)
              (try clear hb2)
              (try clear hk)
              (try clear hi)
              refine hK.out _ _ ⟨(blk_cell BK117.out 0).trans rfl, (blk_cell BK117.out 1).trans rfl, (blk_cell BK117.out 2).trans rfl⟩ (fun hHeld => ?_)
              clear hK K
              refine norm_ (a' := ?_) ?_ ?_
              rotate_left
              ·show Act.put _ (some 38) _ = _
               simp only [Act.put, List.setIfInBounds_toArray, List.set_cons_zero, List.set_cons_succ, i64_w, i32_w]
               rfl
              refine pure_ (i := 17) (N := some 39) (v := ?_) (a' := ?_) #[true, true, true, true, true, true, true, true, true, true, true, true, true, true, true, true, true, true, false, true, true, true, false, false, false, true, true, true, false, false, false] rfl rfl (any_of HT_.out (by kernel_rfl)) (fun _ _ _ h => h) (Or.inl ⟨by rfl, ?_⟩) ?_ ?_
              rotate_left
              ·intro w'
               go_simp
               with_reducible rfl
              rotate_left
              ·simp only [Act.put, List.setIfInBounds_toArray, List.set_cons_zero, List.set_cons_succ, i64_w, i32_w]
               rfl
              refine pure_ (i := 18) (N := some 40) (v := ?_) (a' := ?_) #[true, true, true, true, true, true, true, true, true, true, true, true, true, true, true, true, true, true, true, true, true, true, false, false, false, true, true, true, false, false, false] rfl rfl (any_of HT_.out (by kernel_rfl)) (fun _ _ _ h => h) (Or.inl ⟨by rfl, ?_⟩) ?_ ?_
              rotate_left
              ·intro w'
               go_simp
               with_reducible rfl
              rotate_left
              ·simp only [Act.put, List.setIfInBounds_toArray, List.set_cons_zero, List.set_cons_succ, i64_w, i32_w]
               rfl
              refine one_ (i := 22) (N := some 44) #[true, true, true, true, true, true, true, true, true, true, true, true, true, true, true, true, true, true, true, true, true, true, true, false, false, true, true, true, false, false, false] rfl rfl (one_of HT_.out (by kernel_rfl)) (by decide) (fun K hK => ?_)
              refine goes_ Tryd.func23 (by kernel_rfl) rfl #[.int .i64 (Int.tmod (wrap64 (Int.tdiv t119 60000)) 60), .int .i64 2] (by rfl) rfl rfl (by (try simp only [List.map_toArray, List.map_cons, List.map_nil]); first | done | rfl | (simp only [List.length_drop, List.length_take]; rfl)) ?_
              with_reducible refine (moment_digits.calls k (Int.tmod (wrap64 (Int.tdiv t119 60000)) 60) 2 t124 _ A16.out).mono ?_
              rintro e w48 ⟨rfl, hb⟩
              refine ⟨_, rfl, ?_⟩
              have n0_ := Aside0.mk (blk_below (g := gb117) (o := .cells #[.int .i64 t113, .int .i64 t114, .int .i64 t115] 26 (0, 0)) (by (with_reducible repeat (first | refine blk_drewN ?_ _ | refine blk_drew ?_ | refine blk_alloc ?_ _)); exact BK117.out) hb)
              have n1_ := Aside0.mk (below_step (by repeat (first | (with_reducible first | exact HB.out | apply below_alloc | apply pw_below_drewN | apply below_drew1 | refine below_set ?_ GE117.out) | exact HB.out)) hb)
              clear BK117
              clear HB
              have BK117 := n0_
              have HB := n1_
              clear n0_ n1_
              (try clear hb)
              (try clear hb2)
              (try clear hk)
              (try clear hi)
              refine hK.out _ _ ⟨(blk_cell BK117.out 0).trans rfl, (blk_cell BK117.out 1).trans rfl, (blk_cell BK117.out 2).trans rfl⟩ (fun hHeld => ?_)
              clear hK K
              refine norm_ (a' := ?_) ?_ ?_
              rotate_left
              ·show Act.put _ (some 44) _ = _
               simp only [Act.put, List.setIfInBounds_toArray, List.set_cons_zero, List.set_cons_succ, i64_w, i32_w]
               rfl
              refine pure_ (i := 23) (N := some 45) (v := ?_) (a' := ?_) #[true, true, true, true, true, true, true, true, true, true, true, true, true, true, true, true, true, true, true, true, true, true, true, true, false, true, true, true, false, false, false] rfl rfl (any_of HT_.out (by kernel_rfl)) (fun _ _ _ h => h) (Or.inl ⟨by rfl, ?_⟩) ?_ ?_
              rotate_left
              ·intro w'
               go_simp
               with_reducible rfl
              rotate_left
              ·simp only [Act.put, List.setIfInBounds_toArray, List.set_cons_zero, List.set_cons_succ, i64_w, i32_w]
               rfl
              refine pure_ (i := 24) (N := some 46) (v := ?_) (a' := ?_) #[true, true, true, true, true, true, true, true, true, true, true, true, true, true, true, true, true, true, true, true, true, true, true, true, true, true, true, true, false, false, false] rfl rfl (any_of HT_.out (by kernel_rfl)) (fun _ _ _ h => h) (Or.inl ⟨by rfl, ?_⟩) ?_ ?_
              rotate_left
              ·intro w'
               go_simp
               with_reducible rfl
              rotate_left
              ·simp only [Act.put, List.setIfInBounds_toArray, List.set_cons_zero, List.set_cons_succ, i64_w, i32_w]
               rfl
              refine one_ (i := 28) (N := some 50) #[true, true, true, true, true, true, true, true, true, true, true, true, true, true, true, true, true, true, true, true, true, true, true, true, true, true, true, true, true, false, false] rfl rfl (one_of HT_.out (by kernel_rfl)) (by decide) (fun K hK => ?_)
              refine goes_ Tryd.func23 (by kernel_rfl) rfl #[.int .i64 (Int.tmod (wrap64 (Int.tdiv t119 1000)) 60), .int .i64 2] (by rfl) rfl rfl (by (try simp only [List.map_toArray, List.map_cons, List.map_nil]); first | done | rfl | (simp only [List.length_drop, List.length_take]; rfl)) ?_
              with_reducible refine (moment_digits.calls k (Int.tmod (wrap64 (Int.tdiv t119 1000)) 60) 2 t125 _ A19.out).mono ?_
              rintro e w49 ⟨rfl, hb⟩
              refine ⟨_, rfl, ?_⟩
              have n0_ := Aside0.mk (blk_below (g := gb117) (o := .cells #[.int .i64 t113, .int .i64 t114, .int .i64 t115] 26 (0, 0)) (by (with_reducible repeat (first | refine blk_drewN ?_ _ | refine blk_drew ?_ | refine blk_alloc ?_ _)); exact BK117.out) hb)
              have n1_ := Aside0.mk (below_step (by repeat (first | (with_reducible first | exact HB.out | apply below_alloc | apply pw_below_drewN | apply below_drew1 | refine below_set ?_ GE117.out) | exact HB.out)) hb)
              clear BK117
              clear HB
              have BK117 := n0_
              have HB := n1_
              clear n0_ n1_
              (try clear hb)
              (try clear hb2)
              (try clear hk)
              (try clear hi)
              refine hK.out _ _ ⟨(blk_cell BK117.out 0).trans rfl, (blk_cell BK117.out 1).trans rfl, (blk_cell BK117.out 2).trans rfl⟩ (fun hHeld => ?_)
              clear hK K
              refine norm_ (a' := ?_) ?_ ?_
              rotate_left
              ·show Act.put _ (some 50) _ = _
               simp only [Act.put, List.setIfInBounds_toArray, List.set_cons_zero, List.set_cons_succ, i64_w, i32_w]
               rfl
              refine pure_ (i := 29) (N := some 51) (v := ?_) (a' := ?_) #[true, true, true, true, true, true, true, true, true, true, true, true, true, true, true, true, true, true, true, true, true, true, true, true, true, true, true, true, true, true, false] rfl rfl (any_of HT_.out (by kernel_rfl)) (fun _ _ _ h => h) (Or.inl ⟨by rfl, ?_⟩) ?_ ?_
              rotate_left
              ·intro w'
               go_simp
               with_reducible rfl
              rotate_left
              ·simp only [Act.put, List.setIfInBounds_toArray, List.set_cons_zero, List.set_cons_succ, i64_w, i32_w]
               rfl
              refine pure_ (i := 30) (N := some 8) (v := ?_) (a' := ?_) #[true, true, true, true, true, true, true, true, true, true, true, true, true, true, true, true, true, true, true, true, true, true, true, true, true, true, true, true, true, true, true] rfl rfl (any_of HT_.out (by kernel_rfl)) (fun _ _ _ h => h) (Or.inl ⟨by rfl, ?_⟩) ?_ ?_
              rotate_left
              ·intro w'
               go_simp
               with_reducible rfl
              rotate_left
              ·simp only [Act.put, List.setIfInBounds_toArray, List.set_cons_zero, List.set_cons_succ, i64_w, i32_w]
               rfl
              refine done_ (done_of HT_.out (by kernel_rfl)) ?_
              try go_wp2
              go_ret2
              exact ⟨rfl_, by repeat (first | (with_reducible first | exact HB.out | apply below_alloc | apply pw_below_drewN | apply below_drew1 | refine below_set ?_ GE117.out) | exact HB.out)⟩
             ·rw [if_neg c38] at H
              exact absurd H (by simp)
           ·rw [if_neg c20] at H
            exact absurd H (by simp)
          ·rw [if_neg c18] at H
           exact absurd H (by simp)
         ·rw [if_neg c17] at H
          exact absurd H (by simp)
        ·rw [if_neg c15] at H
         exact absurd H (by simp)
       ·rw [if_neg c14] at H
        exact absurd H (by simp)
      ·rw [if_neg c12] at H
       exact absurd H (by simp)
     ·rw [if_neg c11] at H
      exact absurd H (by simp)
    ·rw [if_neg c9] at H
     exact absurd H (by simp)
   ·rw [if_neg c8] at H
    exact absurd H (by simp)
  ·rw [if_neg c6] at H
   exact absurd H (by simp)
 ·rw [if_neg c3] at H
  have c3b0 : (t116 == 0) = false := beq_eq_false_iff_ne.mpr c3
  have c3b1 : (t116 != 0) = true := bne_iff_ne.mpr c3
  simp only [Option.some.injEq, Prod.mk.injEq] at H
  obtain ⟨rfl, rfl⟩ := H
  go_enter Tryd.func9, Tryd.ntmps9
  go_wp2_with (first | ((with_reducible refine gate_callee (f := 10) rfl ?_); refine goesA (some 11) Tryd.func10 #[.int .i64 a0] rfl ?_; (with_reducible refine (moment_Date.calls k a0 t113 t114 t115 t116 _ A2.out).mono ?_); rintro e w50 ⟨rfl, hb⟩; refine ⟨_, rfl, ?_⟩; have n0_ := Bs HB hb; clear HB; revert n0_; intro HB; (try clear hb); (try clear hb2); (try clear hk); (try clear hi)) | ((with_reducible refine gate_dst (N := 4) rfl ?_); refine box_event ?hg (N := 4) ?hd (cs := #[.int .i64 0, .int .i64 0, .int .i64 0]) (t := 26) ?hr ?_; (case hd => rfl); (case hg => rfl); (case hr => first | (go_simp; done) | (go_simp; rfl)); intro gb117 hg w51 hbox hb; have n0_ := Bs HB hb; have n1_ := Aside0.mk (hbox); have n2_ := Aside0.mk ((by rw [hg]; exact (Bz HB) : w.heap.size ≤ gb117)); have n3_ := Aside0.mk ((by rw [hg]; exact (Bz HB) : w.heap.size ≤ gb117)); clear HB; have HB := n0_; have BK117 := n1_; have GW117 := n2_; have GE117 := n3_; clear n0_ n1_ n2_ n3_; clear hb hbox hg; have hcz52_0 : w51.cell? ⟨gb117, 0, none⟩ = some (.int .i64 0) := (blk_cell BK117.out 0).trans rfl; have hcz52_1 : w51.cell? ⟨gb117, 1, none⟩ = some (.int .i64 0) := (blk_cell BK117.out 1).trans rfl; have hcz52_2 : w51.cell? ⟨gb117, 2, none⟩ = some (.int .i64 0) := (blk_cell BK117.out 2).trans rfl; have hfz52_0 := blk_frozen BK117.out 0; have hfz52_1 := blk_frozen BK117.out 1; have hfz52_2 := blk_frozen BK117.out 2))
  go_ret2
  exact ⟨rfl_, by repeat (first | (with_reducible first | exact HB.out | apply below_alloc | apply pw_below_drewN | apply below_drew1 | refine below_set ?_ GE117.out) | exact HB.out)⟩

end Go.Proofs.YtcikjghmelbkaaaDoor.Hp
