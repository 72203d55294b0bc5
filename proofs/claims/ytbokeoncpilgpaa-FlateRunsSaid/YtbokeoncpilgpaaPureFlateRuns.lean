/- The plain law of FlateRuns: repeated pieces are deflated to fewer bytes, and inflated to themselves. -/
import Derived.Test.YtbokeoncpilgpaaFrm
import Derived.Test.YtbokeoncpilgpaaHp2
import Derived.Test.YtbokeoncpilgpaaHp3
import Derived.Test.YtbokeoncpilgpaaHp12
namespace Go.Proofs.Ytbokeoncpilgpaa.Pure
open Go.RowKit Go.Proofs.Ytbokeoncpilgpaa.Hp Go.Proofs.Ytbokeoncpilgpaa.Pln Go.Proofs.YtbokeoncpilgpaaW.PrintWords Go.Proofs.YtbokeoncpilgpaaW.PrintLast
theorem best_ge (l : List Int) (at_ : Nat) : ∀ k far, 1 ≤ far → far ≤ k → runK l at_ far 258 0 ≤ (bestK l at_ k).1
  | 0, far, h1, h2 => by omega
  | k + 1, far, h1, h2 => by
    rw [bestK]
    rcases Nat.lt_or_ge far (k + 1) with h | h
    · have ih := best_ge l at_ k far h1 (by omega)
      split
      · rename_i hc; show _ ≤ runK l at_ (k + 1) 258 0; omega
      · exact ih
    · obtain rfl : far = k + 1 := by omega
      split
      · exact Nat.le_refl _
      · omega
/-- A text that repeats itself. -/
def Rep (l : List Int) (p : Nat) : Prop := ∀ j, p ≤ j → j < l.length → l.getD j 0 = l.getD (j - p) 0
theorem run_ge (l : List Int) (p at_ : Nat) (h : Rep l p) (ha : p ≤ at_) (hp : 1 ≤ p) : ∀ f n, min (n + f) (l.length - at_) ≤ runK l at_ p f n ∨ l.length - at_ < n
  | 0, n => by rw [runK]; left; omega
  | f + 1, n => by
    rw [runK]
    by_cases hn : at_ + n < l.length
    · rw [if_pos ⟨hn, h (at_ + n) (by omega) hn⟩]
      rcases run_ge l p at_ h ha hp f (n + 1) with h1 | h1
      · left; omega
      · left
        have := (runK_le l at_ p f (n + 1)).1
        omega
    · rw [if_neg (fun e => hn e.1)]
      left; omega
theorem match_ge (l : List Int) (p at_ : Nat) (h : Rep l p) (hp : 1 ≤ p) (hp2 : p ≤ 512) (ha : p ≤ at_) (hl : at_ ≤ l.length) : (matchP l at_).1 = min 258 (l.length - at_) := by
  have h1 := best_ge l at_ (min at_ 512) p hp (by omega)
  obtain ⟨q1, _, q3, _⟩ := matchP_le l at_ hl
  have h2 : runK l at_ p 258 0 ≤ (matchP l at_).1 := h1
  rcases run_ge l p at_ h ha hp 258 0 with h3 | h3
  · omega
  · omega
theorem sign_len8 : ∀ i, i < 29 → (signB (257 + i)).length ≤ 8 := by decide +kernel
theorem far_more7 : ∀ far, far < 513 → farMore.getD (farS far 29) 0 ≤ 7 := by decide +kernel
theorem copy_len25 (n far : Nat) (hf : far ≤ 512) : (copyB n far).length ≤ 25 := by
  unfold copyB
  rw [List.length_append, List.length_append, List.length_append, numB_len, numB_len, codeB_len]
  have h1 := sign_len8 (lenI n) (by have := lenI_le n; omega)
  have h2 := (len_tab (lenI n) (by have := lenI_le n; omega)).2.2
  have h3 := far_more7 far (by omega)
  omega
theorem copy_len20 (far : Nat) (hf : far ≤ 512) : (copyB 258 far).length ≤ 20 := by
  unfold copyB
  rw [List.length_append, List.length_append, List.length_append, numB_len, numB_len, codeB_len]
  have h3 := far_more7 far (by omega)
  have h4 : (signB (257 + lenI 258)).length = 8 := by decide +kernel
  have h5 : lenMore.getD (lenI 258) 0 = 0 := by decide +kernel
  omega
theorem deflG_succ (l : List Int) (f at_ : Nat) : deflG l (f + 1) at_ = (if at_ < l.length then (if (matchP l at_).1 < 3 then signB (l.getD at_ 0).toNat ++ deflG l f (at_ + 1) else copyB (matchP l at_).1 (matchP l at_).2 ++ deflG l f (at_ + (matchP l at_).1)) else []) := rfl
theorem deflG_end (l : List Int) : ∀ f at_, at_ ≤ l.length → l.length - at_ < 3 → (deflG l f at_).length ≤ 9 * (l.length - at_)
  | 0, _, _, _ => by simp [deflG]
  | f + 1, at_, ha, h => by
    rw [deflG_succ]
    by_cases hlt : at_ < l.length
    · have h3 := (matchP_le l at_ ha).2.2.1
      rw [if_pos hlt, if_pos (by omega), List.length_append]
      have h1 := signB_len (l.getD at_ 0).toNat
      have h2 := deflG_end l f (at_ + 1) (by omega) (by omega)
      omega
    · rw [if_neg hlt]; simp
theorem deflG_rep (l : List Int) (p : Nat) (h : Rep l p) (hp : 1 ≤ p) (hp2 : p ≤ 512) : ∀ f at_, p ≤ at_ → at_ ≤ l.length → 258 * (deflG l f at_).length ≤ 20 * (l.length - at_) + 258 * 25
  | 0, _, _, _ => by simp [deflG]
  | f + 1, at_, hpa, ha => by
    by_cases h3 : l.length - at_ < 3
    · have := deflG_end l (f + 1) at_ ha h3
      omega
    · have hm := match_ge l p at_ h hp hp2 hpa ha
      have h512 := (matchP_le l at_ ha).2.1
      rw [deflG_succ, if_pos (by omega), if_neg (by omega), List.length_append]
      obtain ⟨n, far, e⟩ : ∃ n far, matchP l at_ = (n, far) := ⟨_, _, rfl⟩
      rw [e] at hm h512 ⊢
      simp only at hm h512 ⊢
      by_cases h258 : n = 258
      · subst h258
        have h1 := copy_len20 far h512
        have h2 := deflG_rep l p h hp hp2 f (at_ + 258) (by omega) (by omega)
        omega
      · have h1 := copy_len25 n far h512
        have h2 := deflG_end l f (at_ + n) (by omega) (by omega)
        omega
theorem deflG_rep0 (l : List Int) (p : Nat) (h : Rep l p) (hp : 1 ≤ p) (hp2 : p ≤ 512) : ∀ f at_, at_ ≤ l.length → 258 * (deflG l f at_).length ≤ 20 * (l.length - at_) + 258 * (9 * (p - at_) + 50)
  | 0, _, _ => by simp [deflG]
  | f + 1, at_, ha => by
    by_cases hpa : p ≤ at_
    · have h9 := deflG_rep l p h hp hp2 (f + 1) at_ hpa ha
      exact Nat.le_trans h9 (Nat.add_le_add_left (Nat.mul_le_mul_left 258 (Nat.le_trans (by decide) (Nat.le_add_left 50 _))) _)
    · rw [deflG_succ]
      by_cases hlt : at_ < l.length
      · rw [if_pos hlt]
        obtain ⟨_, q2, q3, _⟩ := matchP_le l at_ ha
        obtain ⟨n, far, e⟩ : ∃ n far, matchP l at_ = (n, far) := ⟨_, _, rfl⟩
        rw [e] at q2 q3 ⊢
        simp only at q2 q3 ⊢
        by_cases h3 : n < 3
        · rw [if_pos h3, List.length_append]
          have h1 := signB_len (l.getD at_ 0).toNat
          have h2 := deflG_rep0 l p h hp hp2 f (at_ + 1) (by omega)
          omega
        · rw [if_neg h3, List.length_append]
          have h1 := copy_len25 n far q2
          by_cases h4 : p ≤ at_ + n
          · have h2 := deflG_rep l p h hp hp2 f (at_ + n) h4 q3
            omega
          · have h2 := deflG_rep0 l p h hp hp2 f (at_ + n) q3
            omega
      · rw [if_neg hlt]; simp
/-- A piece so many times. -/
def rpt (x : List Int) : Nat → List Int
  | 0 => []
  | k + 1 => rpt x k ++ x
theorem rpt_comm (x : List Int) : ∀ k, x ++ rpt x k = rpt x k ++ x
  | 0 => by simp [rpt]
  | k + 1 => by rw [rpt, ← List.append_assoc, rpt_comm x k]
theorem rpt_len (x : List Int) : ∀ k, (rpt x k).length = k * x.length
  | 0 => by simp [rpt]
  | k + 1 => by rw [rpt, List.length_append, rpt_len x k, Nat.succ_mul]
theorem rpt_mem (x : List Int) : ∀ k y, y ∈ rpt x k → y ∈ x
  | 0, y, h => by cases h
  | k + 1, y, h => by
    rw [rpt] at h
    exact (List.mem_append.1 h).elim (rpt_mem x k y) id
theorem rpt_rep (x : List Int) (k : Nat) : Rep (rpt x k) x.length := by
  cases k with
  | zero => intro j _ h; simp [rpt] at h
  | succ k =>
    intro j h1 h2
    obtain ⟨i, rfl⟩ : ∃ i, j = x.length + i := ⟨j - x.length, by omega⟩
    have hi : i < (rpt x k).length := by rw [rpt, List.length_append] at h2; omega
    rw [Nat.add_sub_cancel_left, rpt, getD_left _ _ _ _ hi, ← rpt_comm, getD_right]
theorem runs_size (x : List Int) (k : Nat) (h1 : 1 ≤ x.length) (h2 : x.length ≤ 40) : (bytesL (deflB (rpt x k))).length ≤ 2 * x.length + 16 + (rpt x k).length / 64 := by
  have h := deflG_rep0 (rpt x k) x.length (rpt_rep x k) h1 (by omega) ((rpt x k).length + 1) 0 (Nat.zero_le _)
  rw [bytesL_len, deflB_len]
  omega
theorem runs_end (x : List Int) (k i : Nat) (hi : k ≤ i) (hk : k ≤ 440) (h1 : 1 ≤ x.length) (h2 : x.length ≤ 40) (hb : ∀ y ∈ x, 0 ≤ y ∧ y < 256) : Ev (fun q => lanyardlaw04_FlateRuns.l0 q x (k : Int) (rpt x k) (i : Int)) true := by
  have hl : (rpt x k).length ≤ 17600 := by
    rw [rpt_len]
    exact Nat.le_trans (Nat.mul_le_mul hk h2) (by decide)
  have hbb : ∀ y ∈ rpt x k, 0 ≤ y ∧ y < 256 := fun y hy => hb y (rpt_mem x k y hy)
  have hsz := runs_size x k h1 h2
  have hf := defl_form (rpt x k) (by omega) hbb
  refine Ev.step (fun q => by rw [lanyardlaw04_FlateRuns.l0]) ?_
  refine Ev.ifF (by omega) ?_
  refine Ev.bindC (defl_f _ (by omega) hbb) ?_
  refine Ev.bindC (infl_f _ _ hf.2.1 (by omega) hf.1) ?_
  have e := hf.self ((rpt x k).length : Int) (by omega)
  rw [if_neg (by omega)] at e
  rw [e]
  refine Ev.ifT rfl (Ev.ifT rfl (Ev.ifT rfl (Ev.ifT rfl ?_)))
  have hq : ((rpt x k).length : Int) / 64 = (((rpt x k).length / 64 : Nat) : Int) := by omega
  have hq2 : (rpt x k).length / 64 ≤ 17600 := by omega
  refine Ev.ifF ?_ (Ev.ifT (by decide) ?_)
  · rw [hq]
    obtain ⟨y, hy⟩ : ∃ y, (rpt x k).length / 64 = y := ⟨_, rfl⟩
    rw [hy] at hq2 hsz ⊢
    have e1 : wrap64 (2 * (x.length : Int)) = 2 * (x.length : Int) := wr64 (by omega) (by omega)
    have e2 : wrap64 (y : Int) = (y : Int) := wr64 (by omega) (by omega)
    have e3 : wrap64 (2 * (x.length : Int) + 16) = 2 * (x.length : Int) + 16 := wr64 (by omega) (by omega)
    have e4 : wrap64 (2 * (x.length : Int) + 16 + (y : Int)) = 2 * (x.length : Int) + 16 + (y : Int) := wr64 (by omega) (by omega)
    rw [e1, e2, e3, e4]
    clear e1 e2 e3 e4
    show ¬ (((bytesL (deflB (rpt x k))).length : Int) > 2 * (x.length : Int) + 16 + (y : Int))
    omega
  · refine Ev.bindC (show flate_Deflate.f (List.replicate 65537 0) = some ([], 12) from ?_) ?_
    · have e : deflL (List.replicate 65537 0) = ([], 12) := if_pos (by rw [List.length_replicate]; decide)
      rw [← e]
      exact if_pos ⟨by rw [List.length_replicate]; decide, fun y hy => by rw [List.eq_of_mem_replicate hy]; decide⟩
    · exact Ev.ifT rfl (Ev.now _)
theorem runs_ev (x : List Int) (k : Nat) (hk : k ≤ 440) (h1 : 1 ≤ x.length) (h2 : x.length ≤ 40) (hb : ∀ y ∈ x, 0 ≤ y ∧ y < 256) : ∀ d i, i + d = k → Ev (fun q => lanyardlaw04_FlateRuns.l0 q x (k : Int) (rpt x i) (i : Int)) true
  | 0, i, hi => by
    obtain rfl : i = k := by omega
    exact runs_end x i i (Nat.le_refl _) hk h1 h2 hb
  | d + 1, i, hi => by
    have ih := runs_ev x k hk h1 h2 hb d (i + 1) (by omega)
    have hl : (rpt x i).length ≤ 17600 := by
      rw [rpt_len]
      exact Nat.le_trans (Nat.mul_le_mul (show i ≤ 440 by omega) h2) (by decide)
    refine Ev.step (fun q => by rw [lanyardlaw04_FlateRuns.l0]) ?_
    refine Ev.ifT (by omega) (Ev.ifT (by omega) ?_)
    have hw : wrap64 ((i : Int) + 1) = ((i + 1 : Nat) : Int) := wr64 (by omega) (by omega)
    rw [hw]
    exact ih
theorem FlateRuns : lanyardlaw04_FlateRuns.Pure := by
  intro l0 a1 _ _ hb _
  refine Ev.rounds (?_ : Ev (fun k => lanyardlaw04_FlateRuns.f k l0 a1) true)
  have haw : lanyardlaw04_awake.f = some true := rfl
  have out : Ev (fun k => lanyardlaw04_FlateRuns.j0 k l0 a1 true) true := by
    refine Ev.step (fun k => by rw [lanyardlaw04_FlateRuns.j0]) ?_
    exact Ev.ifT rfl (Ev.bindC haw (Ev.now _))
  unfold lanyardlaw04_FlateRuns.f
  refine Ev.bindC haw (Ev.ifT rfl ?_)
  by_cases h1 : (l0.length : Int) < 1
  · exact Ev.ifT h1 out
  · refine Ev.ifF h1 ?_
    by_cases h2 : (l0.length : Int) > 40
    · rw [decide_eq_true h2]
      exact out
    · rw [decide_eq_false h2]
      refine Ev.step (fun k => by rw [lanyardlaw04_FlateRuns.j0]) ?_
      refine Ev.ifF (by simp) ?_
      obtain ⟨n, hn, e⟩ := cut_mod a1 400 (by decide) (by decide)
      rw [show ((400 : Nat) : Int) = 400 from rfl] at e
      have hw : wrap64 (40 + (n : Int)) = ((40 + n : Nat) : Int) := wr64 (by omega) (by omega)
      rw [e, hw]
      exact runs_ev l0 (40 + n) (by omega) (by omega) (by omega) (fun x hx => u8_of (hb x hx)) (40 + n) 0 (by omega)
end Go.Proofs.Ytbokeoncpilgpaa.Pure
