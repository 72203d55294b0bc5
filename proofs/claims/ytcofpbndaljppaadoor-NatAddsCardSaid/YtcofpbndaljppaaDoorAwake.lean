/- The statements' example: it is true. -/
import Derived.Test.YtcofpbndaljppaaDoorApi
import Derived.Test.YtcofpbndaljppaaDoorHp7
namespace Go.Proofs.YtcofpbndaljppaaDoor.Num
open Go.RowKit Go.Proofs.YtcofpbndaljppaaDoor.Hp Go.Proofs.YtcofpbndaljppaaDoorW.PrintWords Go.Proofs.YtcofpbndaljppaaDoorW.PrintLast Go.Proofs.YtcofpbndaljppaaDoorW.PrintMore
/-! ### the example -/
theorem awake_ev : Ev (fun k => lanyardlaw06_awake.f k) true := by
  have d1 : Dg 256 [1, 0] := by intro x hx; simp at hx; omega
  have dd : ∀ c : Int, 0 ≤ c → c < 256 → Dg 256 [c] := fun c h0 h1 => Dg.cons h0 h1 Dg.nil
  have q := Div_ev d1 (dd 7 (by decide) (by decide)) (by decide) (by decide)
  have x := Exp_ev (dd 3 (by decide) (by decide)) (dd 4 (by decide) (by decide)) (dd 5 (by decide) (by decide)) (by decide) (by decide) (by decide)
  obtain ⟨z, hz, hz1, hz2⟩ := (Inverse_ev (dd 3 (by decide) (by decide)) (dd 7 (by decide) (by decide)) (by decide) (by decide)).2.2 (by decide +kernel) (by decide +kernel)
  have v3 : vb [3] = 3 := by decide +kernel
  have v7 : vb [7] = 7 := by decide +kernel
  rw [v3, v7] at hz2
  rw [v7] at hz1
  obtain rfl : z = 5 := by omega
  have eq : (if vb [7] = 0 then ([], [], 2) else (be (vb [1, 0] / vb [7]), be (vb [1, 0] % vb [7]), 0)) = (([36], [4], 0) : List Int × List Int × Int) := by decide +kernel
  have ex : (if vb [5] = 0 then ([], 2) else (be (vb [3] ^ vb [4] % vb [5]), 0)) = (([1], 0) : List Int × Int) := by decide +kernel
  have ez : be 5 = [5] := by decide +kernel
  rw [eq] at q
  rw [ex] at x
  rw [ez] at hz
  unfold lanyardlaw06_awake.f
  exact Ev.bind q (Ev.bind x (Ev.bind hz (Ev.ifT rfl (Ev.ifT (by decide +kernel) (Ev.ifT (by decide +kernel) (Ev.ifT rfl (Ev.ifT (by decide +kernel) (Ev.ifT rfl (Ev.congr (fun _ => by rw [show ((strOfNums [5]).toList == ([5] : List UInt8)) = true by decide +kernel]) (Ev.now true))))))))))
end Go.Proofs.YtcofpbndaljppaaDoor.Num
