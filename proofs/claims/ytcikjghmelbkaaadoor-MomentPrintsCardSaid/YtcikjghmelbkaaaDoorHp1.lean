/- Go functions of this seat as Lean functions, and their contracts: what the Go code computes, for every input. (By hp.py, a program of this repo, over the kit's print.py.) -/
import Derived.Test.YtcikjghmelbkaaaDoorHp0
namespace Go.Proofs.YtcikjghmelbkaaaDoor.Hp
open Go.RowKit Go.Proofs.YtcikjghmelbkaaaDoorW.PrintWords Go.Proofs.YtcikjghmelbkaaaDoorW.PrintLast Go.Proofs.YtcikjghmelbkaaaDoorW.PrintMore
attribute [local go_sem] max2_int min2_int max_two min_two max_three min_three max_four min_four   -- for this text's walks alone
set_option linter.unusedVariables false
set_option linter.unusedSimpArgs false

theorem eqi_cons {P : Program} {d e : Nat} {xs ys : Array Value} {i : Nat} {is : List Nat} {a b : Value} {r s : Bool} {w : World} (ha : (part e xs (i * 1)).run P w = .ok a w) (hb : (part e ys (i * 1)).run P w = .ok b w) (he : (Op.equalIn d e a b).run P w = .ok r w) (hr : (Op.eqItems d e 1 xs ys is).run P w = .ok s w) : (Op.eqItems d e 1 xs ys (i :: is)).run P w = .ok (r && s) w := by
  simp only [Op.eqItems, Sem.run_bind, ha, hb, he, Result.andThen_ok]
  cases r
  · simp
  · simpa using hr
theorem eqi_nil {P : Program} {d e : Nat} {xs ys : Array Value} {w : World} : (Op.eqItems d e 1 xs ys []).run P w = .ok true w := by simp [Op.eqItems]
theorem eqA26 (d : Nat) (w : World) (x0 y0 : Int) (x1 y1 : Int) (x2 y2 : Int) :
    (Op.equalIn (d + 2) 26 (.agg #[.int .i64 x0, .int .i64 x1, .int .i64 x2]) (.agg #[.int .i64 y0, .int .i64 y1, .int .i64 y2])).run Tryd.prog w = .ok (x0 == y0 && (x1 == y1 && (x2 == y2))) w := by
  obtain ⟨i0, hi0⟩ : ∃ i, Tryd.prog.info? 3 = some i := Option.isSome_iff_exists.1 (by kernel_rfl)
  have hc : Tryd.prog.cellsOf 3 = 1 := by kernel_rfl
  rw [run_equalIn_array w (d + 1) _ _ Tryd.underlying26 hi0, hc]
  rw [show (x0 == y0 && (x1 == y1 && (x2 == y2))) = (x0 == y0 && (x1 == y1 && (x2 == y2 && true))) by simp]
  refine eqi_cons (i := 0) (is := [1, 2]) (by go_simp; rfl) (by go_simp; rfl) (by go_simp) ?_
  refine eqi_cons (i := 1) (is := [2]) (by go_simp; rfl) (by go_simp; rfl) (by go_simp) ?_
  refine eqi_cons (i := 2) (is := []) (by go_simp; rfl) (by go_simp; rfl) (by go_simp) ?_
  exact eqi_nil
end Go.Proofs.YtcikjghmelbkaaaDoor.Hp
