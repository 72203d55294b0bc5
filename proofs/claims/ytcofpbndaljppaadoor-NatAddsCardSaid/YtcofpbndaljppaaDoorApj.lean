/- The printed functions of layer 6 that only some statements call: what they answer, of bytes. -/
import Derived.Test.YtcofpbndaljppaaDoorApi
import Derived.Test.YtcofpbndaljppaaDoorHp9
import Derived.Test.YtcofpbndaljppaaDoorHp10
namespace Go.Proofs.YtcofpbndaljppaaDoor.Num
open Go.RowKit Go.Proofs.YtcofpbndaljppaaDoor.Hp Go.Proofs.YtcofpbndaljppaaDoorW.PrintWords Go.Proofs.YtcofpbndaljppaaDoorW.PrintLast Go.Proofs.YtcofpbndaljppaaDoorW.PrintMore

theorem Add_ev {a b : List Int} (ha : Dg 256 a) (hb : Dg 256 b) (la : a.length ≤ 1024) (lb : b.length ≤ 1024) : Ev (fun k => nat_Add.f k a b) (be (vb a + vb b), 0) := by
  unfold nat_Add.f
  have h1 := D_vb_len ha
  have h2 := D_vb_len hb
  have h3 := D_add_len (vb a) (vb b)
  exact Ev.bindC (no2 la lb) (Ev.ifF (by decide) (Ev.bind (of_ev ha (by omega)) (Ev.bind (of_ev hb (by omega)) (Ev.bind (add_ev (by omega) (by omega)) (Ev.bind (bytes_D _ (by omega)) (Ev.now _))))))
theorem Mul_ev {a b : List Int} (ha : Dg 256 a) (hb : Dg 256 b) (la : a.length ≤ 1024) (lb : b.length ≤ 1024) : Ev (fun k => nat_Mul.f k a b) (be (vb a * vb b), 0) := by
  unfold nat_Mul.f
  have h1 := D_vb_len ha
  have h2 := D_vb_len hb
  have h3 := D_mul_len (vb a) (vb b)
  exact Ev.bindC (no2 la lb) (Ev.ifF (by decide) (Ev.bind (of_ev ha (by omega)) (Ev.bind (of_ev hb (by omega)) (Ev.bind (mul_ev (by omega)) (Ev.bind (bytes_D _ (by omega)) (Ev.now _))))))
theorem Cmp_ev {a b : List Int} (ha : Dg 256 a) (hb : Dg 256 b) (la : a.length ≤ 1099511627) (lb : b.length ≤ 1099511627) : Ev (fun k => nat_Cmp.f k a b) (sg (vb a) (vb b)) := by
  unfold nat_Cmp.f
  have h1 := D_vb_len ha
  have := compare_ev (D_Dg (vb a)) (D_Dg (vb b)) (D_Nz _) (D_Nz _) (by omega)
  rw [D_val, D_val] at this
  exact Ev.bind (of_ev ha (by omega)) (Ev.bind (of_ev hb (by omega)) (Ev.bind this (Ev.now _)))
theorem Sub_ev {a b : List Int} (ha : Dg 256 a) (hb : Dg 256 b) (la : a.length ≤ 1024) (lb : b.length ≤ 1024) : Ev (fun k => nat_Sub.f k a b) (if vb a < vb b then ([], 2) else (be (vb a - vb b), 0)) := by
  unfold nat_Sub.f
  have h1 := D_vb_len ha
  have h3 := D_len_mono (Nat.sub_le (vb a) (vb b))
  refine Ev.bindC (no2 la lb) (Ev.ifF (by decide) (Ev.bind (Cmp_ev ha hb (by omega) (by omega)) ?_))
  by_cases h : vb a < vb b
  · rw [if_pos h]
    exact Ev.ifT (by unfold sg; rw [if_pos (by omega)]; decide) (Ev.now _)
  · rw [if_neg h]
    exact Ev.ifF (by unfold sg; rw [if_neg (by omega)]; split <;> decide) (Ev.bind (of_ev ha (by omega)) (Ev.bind (of_ev hb (by omega)) (Ev.bind (sub_ev (by omega) (by omega)) (Ev.bind (bytes_D _ (by omega)) (Ev.now _)))))
theorem Gcd_ev {a b : List Int} (ha : Dg 256 a) (hb : Dg 256 b) (la : a.length ≤ 1024) (lb : b.length ≤ 1024) : Ev (fun k => nat_Gcd.f k a b) (be (Nat.gcd (vb a) (vb b)), 0) := by
  unfold nat_Gcd.f
  have h1 := D_vb_len ha
  have h2 := D_vb_len hb
  have h3 : (D (Nat.gcd (vb a) (vb b))).length ≤ 1024 := by
    rcases Nat.eq_zero_or_pos (vb b) with h | h
    · rw [h, Nat.gcd_zero_right]; omega
    · have := D_len_mono (Nat.gcd_le_right (vb a) h); omega
  exact Ev.bindC (no2 la lb) (Ev.ifF (by decide) (Ev.bind (of_ev ha (by omega)) (Ev.bind (of_ev hb (by omega)) (Ev.bind (gcd_ev (L := 1024) (by decide) _ _ (by omega) (by omega)) (Ev.bind (bytes_D _ (by omega)) (Ev.now _))))))
end Go.Proofs.YtcofpbndaljppaaDoor.Num
