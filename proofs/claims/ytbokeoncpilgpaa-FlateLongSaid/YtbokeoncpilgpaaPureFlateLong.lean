/- The plain law of FlateLong: a text as it is, of any length, is read again. -/
import Derived.Test.YtbokeoncpilgpaaFrm
import Derived.Test.YtbokeoncpilgpaaHp3
import Derived.Test.YtbokeoncpilgpaaHp9
import Derived.Test.YtbokeoncpilgpaaHp13
namespace Go.Proofs.Ytbokeoncpilgpaa.Pure
open Go.RowKit Go.Proofs.Ytbokeoncpilgpaa.Hp Go.Proofs.Ytbokeoncpilgpaa.Pln Go.Proofs.YtbokeoncpilgpaaW.PrintWords Go.Proofs.YtbokeoncpilgpaaW.PrintLast
theorem infl_stored0 (l : List Int) (m : Int) (hm : 0 ≤ m) : inflL (storedL (l.length + 1) l) m = if m < l.length then ([], 0, 12) else (l, (((storedL (l.length + 1) l).length : Nat) : Int), 0) := by
  have := infl_stored l [] m hm
  rw [List.append_nil] at this
  exact this
theorem stored_small (l : List Int) (h : l.length ≤ 200000) : (storedL (l.length + 1) l).length ≤ 16777216 := by
  rw [storedL_len _ _ (Nat.lt_succ_self _)]
  omega
theorem long_end (x1 : Int) (n i : Nat) (L : List Int) (hn : n < 200000) (hL : L.length = n) (hb : ∀ x ∈ L, 0 ≤ x ∧ x < 256) (hi : n ≤ i) : Ev (fun k => lanyardlaw04_FlateLong.l0 k x1 (n : Int) L (i : Int)) true := by
  have hs := stored_small L (by omega)
  have hlen := storedL_len (L.length + 1) L (Nat.lt_succ_self _)
  have hd : Int.tdiv ((n : Int) + 65534) 65535 = (((n + 65534) / 65535 : Nat) : Int) := by
    rw [Int.tdiv_eq_ediv_of_nonneg (by omega)]; omega
  have hmx : mx 1 (((n + 65534) / 65535 : Nat) : Int) = ((max 1 ((n + 65534) / 65535) : Nat) : Int) := by
    generalize (n + 65534) / 65535 = y
    unfold mx
    split <;> omega
  have hsz : max 1 ((n + 65534) / 65535) ≤ 5 := by omega
  refine Ev.step (fun k => by rw [lanyardlaw04_FlateLong.l0]) ?_
  refine Ev.ifF (by omega) ?_
  refine Ev.bindC (stored_f L (by omega)) ?_
  refine Ev.bindC (infl_f _ _ hs (by omega) (storedL_byte _ _ hb)) ?_
  have e := infl_stored0 L n (by omega)
  rw [if_neg (by omega)] at e
  rw [e]
  refine Ev.ifT ?_ (Ev.ifT rfl (Ev.ifT rfl ?_))
  · rw [wr64 (x := (n : Int) + 65534) (by omega) (by omega), hd, wr64 (x := (((n + 65534) / 65535 : Nat) : Int)) (by omega) (by omega), hmx, hlen, hL]
    obtain ⟨y, hy⟩ : ∃ y, max 1 ((n + 65534) / 65535) = y := ⟨_, rfl⟩
    rw [hy] at hsz ⊢
    rw [wr64 (x := 5 * (y : Int)) (by omega) (by omega), wr64 (by omega) (by omega)]
    omega
  · rw [nums_eq rfl]
    exact Ev.now _
theorem long_ev (x1 : Int) (n : Nat) (hn : n < 200000) : ∀ d i L, i + d = n → L.length = n → (∀ x ∈ L, 0 ≤ x ∧ x < 256) → Ev (fun k => lanyardlaw04_FlateLong.l0 k x1 (n : Int) L (i : Int)) true
  | 0, i, L, hi, hL, hb => long_end x1 n i L hn hL hb (by omega)
  | d + 1, i, L, hi, hL, hb => by
    have ih := long_ev x1 n hn d (i + 1) (L.set i ((x1 + (i : Int) % 256) % 256)) (by omega) (by rw [List.length_set]; exact hL) (fun x hx => by
      rcases List.mem_or_eq_of_mem_set hx with h | rfl
      · exact hb x h
      · omega)
    refine Ev.step (fun k => by rw [lanyardlaw04_FlateLong.l0]) ?_
    refine Ev.ifT (by omega) (Ev.ifT (by omega) (Ev.ifT (by omega) ?_))
    rw [Int.toNat_natCast, wr64 (x := (i : Int) + 1) (by omega) (by omega)]
    exact ih
theorem FlateLong : lanyardlaw04_FlateLong.Pure := by
  intro a0 a1 _ _
  refine Ev.rounds (?_ : Ev (fun k => lanyardlaw04_FlateLong.f k a0 a1) true)
  unfold lanyardlaw04_FlateLong.f
  refine Ev.bindC (show lanyardlaw04_awake.f = some true from rfl) ?_
  refine Ev.ifT rfl ?_
  obtain ⟨n, hn, e⟩ := cut_mod a0 200000 (by decide) (by decide)
  rw [show ((200000 : Nat) : Int) = 200000 from rfl] at e
  rw [e]
  refine Ev.ifT (by omega) (Ev.ifT (by omega) ?_)
  exact long_ev a1 n hn n 0 _ (by omega) (by rw [Int.toNat_natCast, List.length_replicate]) (fun x hx => by rw [List.eq_of_mem_replicate hx]; decide)
end Go.Proofs.Ytbokeoncpilgpaa.Pure
