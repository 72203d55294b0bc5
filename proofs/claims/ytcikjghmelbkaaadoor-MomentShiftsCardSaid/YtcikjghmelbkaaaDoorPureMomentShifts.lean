/- The plain law of MomentShifts: a time with an offset; digits beyond the third of a fraction. -/
import Derived.Test.YtcikjghmelbkaaaDoorAwk
import Derived.Test.YtcikjghmelbkaaaDoorPrs
import Derived.Test.YtcikjghmelbkaaaDoorHp4
import Derived.Test.YtcikjghmelbkaaaDoorHp6
import Derived.Test.YtcikjghmelbkaaaDoorHp12
namespace Go.Proofs.YtcikjghmelbkaaaDoor.Pure
open Go.RowKit Go.Proofs.YtcikjghmelbkaaaDoor.Hp Go.Proofs.YtcikjghmelbkaaaDoor.Esc Go.Proofs.YtcikjghmelbkaaaDoorW.PrintWords Go.Proofs.YtcikjghmelbkaaaDoorW.PrintLast
theorem hdr_app (y m d t : Nat) (r s : List UInt8) : hdr y m d t r ++ s = hdr y m d t (r ++ s) := by unfold hdr; simp
theorem cut_last (l : List UInt8) (c : UInt8) : (bs (l ++ [c])).extract 0 l.length = bs l := by
  rw [show (bs (l ++ [c])).extract 0 l.length = bs ((l ++ [c]).take l.length) from bl_take (l ++ [c]) l.length]
  simp
/-- Hours and minutes of an offset. -/
def ofs (q : Nat) : List UInt8 := dig 2 (q / 60) ++ 58 :: dig 2 (q % 60)
theorem ofs_len (q : Nat) : (ofs q).length = 5 := by unfold ofs; simp [dig_len]
theorem dgt_small (n : Nat) (h : n < 10) : ((48 + n : Nat) : Int) = ((dgt n).toNat : Int) := by rw [dgt_nat, Nat.mod_eq_of_lt h]
theorem ofs_list (q : Nat) (hq : q ≤ 840) : ([(wrap64 (48 + (wrap64 (Int.tdiv (wrap64 (Int.tdiv (q : Int) 60)) 10)))) % 256, (wrap64 (48 + (Int.tmod (wrap64 (Int.tdiv (q : Int) 60)) 10))) % 256, 58, (wrap64 (48 + (wrap64 (Int.tdiv (Int.tmod (q : Int) 60) 10)))) % 256, (wrap64 (48 + (Int.tmod (q : Int) 10))) % 256] : List Int) = I (ofs q) := by
  have : ∀ q : Fin 841, ([(wrap64 (48 + (wrap64 (Int.tdiv (wrap64 (Int.tdiv (q.val : Int) 60)) 10)))) % 256, (wrap64 (48 + (Int.tmod (wrap64 (Int.tdiv (q.val : Int) 60)) 10))) % 256, 58, (wrap64 (48 + (wrap64 (Int.tdiv (Int.tmod (q.val : Int) 60) 10)))) % 256, (wrap64 (48 + (Int.tmod (q.val : Int) 10))) % 256] : List Int) = I (ofs q.val) := by decide +kernel
  exact this ⟨q, by omega⟩
theorem nb_ofs (q : Nat) : nb (ofs q) := nb_app (nb_dig _ _) (nb_cons rfl (nb_dig _ _))
theorem frac_len (t : Nat) : (frac t).length ≤ 4 := by unfold frac; split <;> simp [dig_len]
/-- With an offset behind, and ahead. -/
theorem plus_ev {y m d t : Nat} (h : okd y m d) (ht : t < 86400000) (q : Nat) (hq : q ≤ 840) : Ev (fun k => moment_Parse.f k (bs (hdr y m d t (frac t ++ 43 :: ofs q)))) (if mom (momOf y m d t - 60000 * (q : Int)) then (momOf y m d t - 60000 * (q : Int), 0) else (0, 21)) := by
  have hl := frac_len t
  have ho := ofs_len q
  have := parse_ev h ht (frac t ++ 43 :: ofs q) (43 :: ofs q) (((q / 60 : Nat) : Int) * 3600000 + ((q % 60 : Nat) : Int) * 60000) (nb_app (nb_frac t) (nb_cons rfl (nb_ofs q))) (by simp; omega) (fracL_frac t 43 _ (.inr (.inl rfl))) (offL_plus _ _ (by omega) (by omega) (by omega)) (by omega) (by omega)
  rw [show ((q / 60 : Nat) : Int) * 3600000 + ((q % 60 : Nat) : Int) * 60000 = 60000 * (q : Int) by omega] at this
  exact this
theorem minus_ev {y m d t : Nat} (h : okd y m d) (ht : t < 86400000) (q : Nat) (hq : q ≤ 840) : Ev (fun k => moment_Parse.f k (bs (hdr y m d t (frac t ++ 45 :: ofs q)))) (if mom (momOf y m d t + 60000 * (q : Int)) then (momOf y m d t + 60000 * (q : Int), 0) else (0, 21)) := by
  have hl := frac_len t
  have ho := ofs_len q
  have := parse_ev h ht (frac t ++ 45 :: ofs q) (45 :: ofs q) (-(((q / 60 : Nat) : Int) * 3600000 + ((q % 60 : Nat) : Int) * 60000)) (nb_app (nb_frac t) (nb_cons rfl (nb_ofs q))) (by simp; omega) (fracL_frac t 45 _ (.inr (.inr rfl))) (offL_minus _ _ (by omega) (by omega) (by omega)) (by omega) (by omega)
  rw [show momOf y m d t - -(((q / 60 : Nat) : Int) * 3600000 + ((q % 60 : Nat) : Int) * 60000) = momOf y m d t + 60000 * (q : Int) by omega] at this
  exact this
theorem end_ev {y m d t : Nat} (h : okd y m d) (ht : t < 86400000) (c : Nat) : Ev (fun k => lanyardlaw10_MomentShifts.j2 k (momOf y m d t) (c : Int) (bs (txt y m d t)) false) true := by
  have hlen : (bs (txt y m d t)).size = 19 + ((frac t).length + 1) := by rw [bs_size]; unfold txt; rw [hdr_len]; simp
  refine Ev.step (fun k => by rw [lanyardlaw10_MomentShifts.j2]) (Ev.ifF (by simp) ?_)
  by_cases h24 : ((bs (txt y m d t)).size : Int) = 24
  · refine Ev.ifT h24 (Ev.ifT (by decide) (Ev.ifT (by omega) ?_))
    have h0 : ¬ t % 1000 = 0 := by
      intro h0
      have : (frac t).length = 0 := by unfold frac; rw [if_pos h0]; rfl
      omega
    have hf : frac t = 46 :: dig 3 (t % 1000) := by unfold frac; exact if_neg h0
    have hx : (48 + Int.tmod (c : Int) 10) % 256 = ((dgt c).toNat : Int) := by
      rw [show Int.tmod (c : Int) 10 = ((c % 10 : Nat) : Int) from tm c 10, dgt_nat]; omega
    refine Ev.bindC (a := I [dgt c]) (by rw [hx]; rfl) ?_
    have hcut : (bs (txt y m d t)).extract 0 23 = bs (hdr y m d t (frac t)) := by
      have := cut_last (hdr y m d t (frac t)) 90
      rw [hdr_app, hdr_len, hf] at this
      simp only [List.length_cons, dig_len] at this
      unfold txt
      rw [hf]
      exact this
    rw [hcut, I_str, sz1, bs_app, bs_app, bs_size, bs_size, bs_size]
    refine Ev.ifT (by rw [hdr_len, hf]; simp [dig_len]) ?_
    refine Ev.ifT (by rw [List.length_append, hdr_len, hf]; simp [dig_len]) ?_
    have hp := parse_ev h ht (frac t ++ (dgt c :: [90])) [90] 0 (nb_app (nb_frac t) (nb_cons (nb_dgt c) (nb_cons rfl nb_nil))) (by rw [hf]; simp [dig_len]) (by rw [hf]; exact fracL_four _ c (by omega) 90 [] (.inl rfl)) offL_z (by decide) (by decide)
    rw [Int.sub_zero, if_pos (momOf_mom h ht)] at hp
    rw [List.append_assoc, hdr_app]
    refine Ev.bind hp (Ev.ifT rfl ?_)
    rw [show (momOf y m d t == momOf y m d t) = true by simp]
    exact Ev.now _
  · exact Ev.ifF h24 (Ev.now _)
theorem MomentShifts : lanyardlaw10_MomentShifts.Pure := by
  intro x n c _ _ hc
  refine Ev.rounds (?_ : Ev (fun k => lanyardlaw10_MomentShifts.f k x n c) true)
  unfold lanyardlaw10_MomentShifts.f
  refine Ev.bind awake_ev (Ev.ifT rfl ?_)
  refine Ev.bindC (is_f x) ?_
  by_cases hm : mom x
  · rw [decide_eq_true hm]
    obtain ⟨y, m, d, t, h, ht, rfl⟩ := mom_ex hm
    have hc : 0 ≤ c ∧ c < 256 := by
      simp [Lit.wf, IntKind.min, IntKind.max, IntKind.bits, IntKind.signed] at hc
      omega
    obtain ⟨c, rfl⟩ : ∃ c' : Nat, c = c' := ⟨c.toNat, by omega⟩
    obtain ⟨q, hq, hq2⟩ : ∃ q : Nat, Int.tmod (wrap64 (Int.tmod n 841 + 841)) 841 = q ∧ q ≤ 840 := by
      have h1 : -841 < Int.tmod n 841 ∧ Int.tmod n 841 < 841 := ⟨by have := Int.lt_tmod_of_pos n (show (0 : Int) < 841 by decide); omega, Int.tmod_lt_of_pos n (by decide)⟩
      generalize Int.tmod n 841 = z at h1
      obtain ⟨w, hw⟩ : ∃ w : Nat, wrap64 (z + 841) = w := ⟨(z + 841).toNat, by unfold wrap64; omega⟩
      exact ⟨w % 841, by rw [hw]; exact tm w 841, by omega⟩
    refine Ev.step (fun k => by rw [lanyardlaw10_MomentShifts.j0]) (Ev.ifF (by simp) ?_)
    refine Ev.bind (print_ev h ht) (Ev.ifT rfl ?_)
    rw [hq]
    have hlen : (bs (txt y m d t)).size = 19 + ((frac t).length + 1) := by rw [bs_size]; unfold txt; rw [hdr_len]; simp
    have hfl := frac_len t
    simp only []
    rw [decide_eq_false (by omega)]
    refine Ev.step (fun k => by rw [lanyardlaw10_MomentShifts.j1]) (Ev.ifF (by simp) ?_)
    rw [ofs_list q hq2]
    refine Ev.bindC (a := I (ofs q)) rfl ?_
    have hw : wrap64 (((bs (txt y m d t)).size : Int) - 1) = ((19 + (frac t).length : Nat) : Int) := by rw [hlen]; unfold wrap64; omega
    have hcut : (bs (txt y m d t)).extract 0 (((19 + (frac t).length : Nat) : Int)).toNat = bs (hdr y m d t (frac t)) := by
      have := cut_last (hdr y m d t (frac t)) 90
      rw [hdr_app, hdr_len] at this
      rw [Int.toNat_natCast]
      exact this
    rw [hw, hcut, I_str, sz1, sz1]
    simp only [bs_app]
    refine Ev.ifT (by omega) ?_
    refine Ev.ifT (by omega) ?_
    refine Ev.ifT (by rw [bs_size, hdr_len]; omega) ?_
    refine Ev.ifT (by rw [bs_size, bs_size, ofs_len, List.length_append, hdr_len]; simp; omega) ?_
    rw [List.append_assoc, hdr_app, List.append_assoc, hdr_app]
    refine Ev.bind (plus_ev h ht q hq2) ?_
    refine Ev.ifT (by rw [bs_size, bs_size, ofs_len, hdr_len]; simp; omega) ?_
    refine Ev.bind (minus_ev h ht q hq2) ?_
    have hb : -62135596800000 ≤ momOf y m d t ∧ momOf y m d t ≤ 253402300799999 := hm
    have w1 : wrap64 (60000 * (q : Int)) = 60000 * (q : Int) := by unfold wrap64; omega
    rw [w1]
    have w2 : wrap64 (momOf y m d t - 60000 * (q : Int)) = momOf y m d t - 60000 * (q : Int) := by generalize momOf y m d t = v at hb; unfold wrap64; omega
    have w3 : wrap64 (momOf y m d t + 60000 * (q : Int)) = momOf y m d t + 60000 * (q : Int) := by generalize momOf y m d t = v at hb; unfold wrap64; omega
    rw [w2, w3]
    refine Ev.bindC (is_f _) ?_
    refine Ev.bindC (is_f _) ?_
    have fin := end_ev h ht c
    by_cases p1 : mom (momOf y m d t - 60000 * (q : Int))
    · rw [if_pos p1]
      refine Ev.ifT (decide_eq_true p1) (Ev.ifT rfl (Ev.ifT rfl ?_))
      by_cases p2 : mom (momOf y m d t + 60000 * (q : Int))
      · rw [if_pos p2]
        exact Ev.ifT (decide_eq_true p2) (Ev.ifT rfl (Ev.ifT rfl fin))
      · rw [if_neg p2]
        exact Ev.ifF (by simpa using p2) fin
    · rw [if_neg p1]
      refine Ev.ifF (by simpa using p1) (Ev.ifT rfl ?_)
      by_cases p2 : mom (momOf y m d t + 60000 * (q : Int))
      · rw [if_pos p2]
        exact Ev.ifT (decide_eq_true p2) (Ev.ifT rfl (Ev.ifT rfl fin))
      · rw [if_neg p2]
        exact Ev.ifF (by simpa using p2) fin
  · rw [decide_eq_false hm, show (!false) = true from rfl]
    exact Ev.step (fun k => by rw [lanyardlaw10_MomentShifts.j0]) (Ev.ifT rfl (Ev.bind awake_ev (Ev.now _)))
end Go.Proofs.YtcikjghmelbkaaaDoor.Pure
