/- There and back: what base64 and digits give is read as the bytes. -/
import Derived.Test.YtfphmpnkfjeceaaDoorDcr
import Derived.Test.YtfphmpnkfjeceaaDoorFol
import Derived.Test.YtfphmpnkfjeceaaDoorHp1
import Derived.Test.YtfphmpnkfjeceaaDoorHp6
namespace Go.Proofs.YtfphmpnkfjeceaaDoor.Esc
open Go.RowKit Go.Proofs.YtfphmpnkfjeceaaDoor.Hp Go.Proofs.YtfphmpnkfjeceaaDoorW.PrintWords Go.Proofs.YtfphmpnkfjeceaaDoorW.PrintLast
theorem sgn_all (m : Nat) (h : m < 64) : sv (sgn m) = m ∧ sgn m ≠ 61 ∧ blk (sgn m) = false := by
  have : ∀ m : Fin 64, sv (sgn m.val) = (m.val : Int) ∧ sgn m.val ≠ 61 ∧ blk (sgn m.val) = false := by decide +kernel
  exact this ⟨m, h⟩
theorem vals_sgn (m : Nat) (h : m < 64) (t : List UInt8) : vals (sgn m :: t) = m :: vals t := by
  have := sgn_all m h
  rw [vals, if_neg this.2.1, this.1]; rfl
theorem back (l : List UInt8) : d4 (vals (e3 l)) = l := by
  match l with
  | a :: b :: c :: t =>
    have ih := back t
    have ha := a.toNat_lt
    have hb := b.toNat_lt
    have hc := c.toNat_lt
    rw [e3, vals_sgn _ (Nat.mod_lt _ (by decide)), vals_sgn _ (Nat.mod_lt _ (by decide)), vals_sgn _ (Nat.mod_lt _ (by decide)), vals_sgn _ (Nat.mod_lt _ (by decide)), d4, ih]
    unfold n3
    congr 1
    · refine UInt8.toNat_inj.1 ?_
      rw [by0_nat (Nat.mod_lt _ (by decide)) (Nat.mod_lt _ (by decide))]; omega
    congr 1
    · refine UInt8.toNat_inj.1 ?_
      rw [by1_nat (Nat.mod_lt _ (by decide))]; omega
    congr 1
    · refine UInt8.toNat_inj.1 ?_
      rw [by2_nat (Nat.mod_lt _ (by decide))]; omega
  | [a, b] =>
    have ha := a.toNat_lt
    have hb := b.toNat_lt
    rw [e3, vals_sgn _ (Nat.mod_lt _ (by decide)), vals_sgn _ (Nat.mod_lt _ (by decide)), vals_sgn _ (Nat.mod_lt _ (by decide)), vals, if_pos rfl, d4]
    unfold n3
    rw [show (0 : UInt8).toNat = 0 from rfl]
    congr 1
    · refine UInt8.toNat_inj.1 ?_
      rw [by0_nat (Nat.mod_lt _ (by decide)) (Nat.mod_lt _ (by decide))]; omega
    congr 1
    · refine UInt8.toNat_inj.1 ?_
      rw [by1_nat (Nat.mod_lt _ (by decide))]; omega
  | [a] =>
    have ha := a.toNat_lt
    rw [e3, vals_sgn _ (Nat.mod_lt _ (by decide)), vals_sgn _ (Nat.mod_lt _ (by decide)), vals, if_pos rfl, d4]
    unfold n3
    rw [show (0 : UInt8).toNat = 0 from rfl]
    congr 1
    · refine UInt8.toNat_inj.1 ?_
      rw [by0_nat (Nat.mod_lt _ (by decide)) (Nat.mod_lt _ (by decide))]; omega
  | [] => rfl
theorem e3_inj (a b : List UInt8) (h : e3 a = e3 b) : a = b := by rw [← back a, h, back b]
theorem e3_app : ∀ (m : Nat) (a b : List UInt8), a.length / 3 * 3 = m → a.length = m → e3 (a ++ b) = e3 a ++ e3 b
  | m, x :: y :: z :: t, b, h, h2 => by
    have ih := e3_app t.length t b (by simp at h h2; omega) rfl
    rw [List.cons_append, List.cons_append, List.cons_append, e3, e3, ih]; rfl
  | m, [x, y], b, h, h2 => by simp at h h2; omega
  | m, [x], b, h, h2 => by simp at h h2; omega
  | m, [], b, h, h2 => rfl
theorem e3_good (l : List UInt8) : ∀ c ∈ e3 l, good c = true ∧ blk c = false := by
  have hs : ∀ m, good (sgn (m % 64)) = true ∧ blk (sgn (m % 64)) = false := fun m => by
    have := sgn_all (m % 64) (Nat.mod_lt _ (by decide))
    refine ⟨?_, this.2.2⟩
    unfold good
    rw [this.1]
    simp
    omega
  have h61 : good 61 = true ∧ blk 61 = false := by decide +kernel
  match l with
  | a :: b :: c :: t =>
    have ih := e3_good t
    intro x hx
    rw [e3] at hx
    simp only [List.mem_cons] at hx
    rcases hx with rfl | rfl | rfl | rfl | hx
    · exact hs _
    · exact hs _
    · exact hs _
    · exact hs _
    · exact ih x hx
  | [a, b] =>
    intro x hx
    simp only [e3, List.mem_cons, List.not_mem_nil, or_false] at hx
    rcases hx with rfl | rfl | rfl | rfl
    · exact hs _
    · exact hs _
    · exact hs _
    · exact h61
  | [a] =>
    intro x hx
    simp only [e3, List.mem_cons, List.not_mem_nil, or_false] at hx
    rcases hx with rfl | rfl | rfl | rfl
    · exact hs _
    · exact hs _
    · exact h61
    · exact h61
  | [] => intro x hx; cases hx
theorem decd_of (b l : List UInt8) (h : sp l = e3 b) : decd l = (I b, 0) := by
  unfold decd
  have hg : (e3 b).all good = true := List.all_eq_true.2 fun c hc => (e3_good b c hc).1
  rw [h, if_pos hg, back, fin, if_pos rfl]
theorem sp_keep (l : List UInt8) (h : ∀ c ∈ l, blk c = false) : sp l = l := List.filter_eq_self.2 fun c hc => by rw [h c hc]; rfl
theorem sp_fo (n : Nat) : ∀ (l : List UInt8) (j : Nat), (∀ c ∈ l, blk c = false) → sp (fo n j l) = l
  | [], j, h => rfl
  | c :: t, j, h => by
    have hc := h c (by simp)
    have ht : ∀ c ∈ t, blk c = false := fun x hx => h x (by simp [hx])
    rw [fo]
    by_cases hj : j = n
    · rw [if_pos hj]
      have := sp_fo n t 1 ht
      rw [sp] at this ⊢
      rw [List.filter_cons_of_neg (by decide), List.filter_cons_of_pos (by rw [hc]; rfl), this]
    · rw [if_neg hj]
      have := sp_fo n t (j + 1) ht
      rw [sp] at this ⊢
      rw [List.filter_cons_of_pos (by rw [hc]; rfl), this]
/-! ### digits -/
def hx (l : List UInt8) : List UInt8 := l.flatMap fun c => hex2 (c.toNat : Int)
theorem hex_f (b : List UInt8) (hb : b.length ≤ 1000000) : base_Hex.f (I b) = some (bs (hx b)) := by
  unfold base_Hex.f
  rw [if_pos ⟨I_all b, by rw [I_len]; omega⟩]
  unfold I hx
  rw [List.flatMap_map]; rfl
theorem hx_cons (c : UInt8) (t : List UInt8) : hx (c :: t) = hexl (c.toNat / 16) :: hexl (c.toNat % 16) :: hx t := by
  rw [hx, List.flatMap_cons]
  rw [hex2, Int.toNat_natCast]; rfl
theorem hexl_dg (n : Nat) (h : n < 16) : dg (hexl n) = n := by
  have : ∀ n : Fin 16, dg (hexl n.val) = (n.val : Int) := by decide +kernel
  exact this ⟨n, h⟩
theorem hx_len (l : List UInt8) : (hx l).length = 2 * l.length := by
  induction l with
  | nil => rfl
  | cons c t ih => rw [hx_cons, List.length_cons, List.length_cons, ih, List.length_cons]; omega
theorem hx_bad (l : List UInt8) : bad (hx l) = false := by
  induction l with
  | nil => rfl
  | cons c t ih =>
    have hc := c.toNat_lt
    rw [hx_cons, bad, List.any_cons, List.any_cons, hexl_dg _ (by omega), hexl_dg _ (by omega)]
    rw [bad] at ih
    rw [ih]
    simp
    omega
theorem hx_prs (l : List UInt8) : prs (hx l) = I l := by
  induction l with
  | nil => rfl
  | cons c t ih =>
    have hc := c.toNat_lt
    rw [hx_cons, prs, hexl_dg _ (by omega), hexl_dg _ (by omega), ih, I_cons]
    congr 1
    omega
theorem unhexd_hx (l : List UInt8) : unhexd (hx l) = (I l, 0) := by
  unfold unhexd
  rw [hx_bad, if_neg (by decide), hx_len, if_neg (by omega), hx_prs]
theorem I_inj {a b : List UInt8} (h : I a = I b) : a = b := by
  have := congrArg (fun l => (strOfNums l).data.toList) h
  simpa [I_str, bs_data] using this
theorem hx_inj (a b : List UInt8) (h : hx a = hx b) : a = b := I_inj (by rw [← hx_prs, h, hx_prs])
/-- The document's digits. -/
theorem hex_lit (n : Nat) (h : n < 16) : (if (n : Int) < 10 then wrap64 (48 + (n : Int)) % 256 else wrap64 (87 + (n : Int)) % 256) = ((hexl n).toNat : Int) := by
  have : ∀ n : Fin 16, (if ((n.val : Nat) : Int) < 10 then wrap64 (48 + ((n.val : Nat) : Int)) % 256 else wrap64 (87 + ((n.val : Nat) : Int)) % 256) = ((hexl n.val).toNat : Int) := by decide +kernel
  exact this ⟨n, h⟩
theorem hex_one (b : List UInt8) (hb : b.length ≤ 4000) (A : List Int) (hA : A.length ≤ 9000) (i : Nat) (hi : i < b.length) (R : ByteArray)
    (k : Ev (fun k => lanyardref02_Hex.l0 k (I b) (A ++ [((hexl ((b.getD i 0).toNat / 16)).toNat : Int)] ++ [((hexl ((b.getD i 0).toNat % 16)).toNat : Int)]) ((i + 1 : Nat) : Int)) R) : Ev (fun k => lanyardref02_Hex.l1 k (I b) A (i : Int) 0) R := by
  have hx := getD_lt b i
  have hr := I_at b i hi
  generalize (b.getD i 0).toNat = x at hx hr k
  have h1 : wrap64 (x : Int) = (x : Int) := by unfold wrap64; omega
  have h2 : Int.tdiv (x : Int) 16 = ((x / 16 : Nat) : Int) := (Int.ofNat_tdiv x 16).symm
  have h3 : Int.tmod (x : Int) 16 = ((x % 16 : Nat) : Int) := (Int.ofNat_tmod x 16).symm
  have h4 : wrap64 ((x / 16 : Nat) : Int) = ((x / 16 : Nat) : Int) := by unfold wrap64; omega
  have l1 := hex_lit (x / 16) (by omega)
  have l2 := hex_lit (x % 16) (by omega)
  have e1 : wrap64 (0 + 1) = 1 := by unfold wrap64; omega
  have last : ∀ A' : List Int, A'.length ≤ 9001 → A' = A ++ [((hexl (x / 16)).toNat : Int)] → Ev (fun k => lanyardref02_Hex.l1 k (I b) A' (i : Int) 1) R := by
    intro A' hA' e
    subst e
    refine Ev.step (fun k => by rw [lanyardref02_Hex.l1]) ?_
    refine Ev.ifT (by decide) (Ev.ifT (by omega) (Ev.ifT (by rw [I_len]; omega) (Ev.ifT rfl ?_)))
    rw [hr, h1, h3]
    have fin' : ∀ y : Int, y = ((hexl (x % 16)).toNat : Int) → Ev (fun k => lanyardref02_Hex.l1 k (I b) (A ++ [((hexl (x / 16)).toNat : Int)] ++ [y]) (i : Int) (wrap64 (1 + 1))) R := by
      intro y hy
      subst hy
      refine Ev.step (fun k => by rw [lanyardref02_Hex.l1]) ?_
      refine Ev.ifF (by unfold wrap64; omega) ?_
      rw [show wrap64 ((i : Int) + 1) = ((i + 1 : Nat) : Int) by unfold wrap64; omega]
      exact k
    by_cases h10 : ((x % 16 : Nat) : Int) < 10
    · rw [if_pos h10] at l2
      exact Ev.ifT h10 (Ev.ifT (by omega) (fin' _ l2))
    · rw [if_neg h10] at l2
      exact Ev.ifF h10 (Ev.ifT (by omega) (fin' _ l2))
  refine Ev.step (fun k => by rw [lanyardref02_Hex.l1]) ?_
  refine Ev.ifT (by decide) (Ev.ifT (by omega) (Ev.ifT (by rw [I_len]; omega) (Ev.ifF (by decide) ?_)))
  rw [hr, h1, h2, h4, e1]
  by_cases h10 : ((x / 16 : Nat) : Int) < 10
  · rw [if_pos h10] at l1
    exact Ev.ifT h10 (Ev.ifT (by omega) (last (A ++ [wrap64 (48 + ((x / 16 : Nat) : Int)) % 256]) (by simp; omega) (by rw [l1])))
  · rw [if_neg h10] at l1
    exact Ev.ifF h10 (Ev.ifT (by omega) (last (A ++ [wrap64 (87 + ((x / 16 : Nat) : Int)) % 256]) (by simp; omega) (by rw [l1])))
theorem ref_hex (b : List UInt8) (hb : b.length ≤ 4000) : ∀ (m i : Nat) (A : List UInt8), b.length - i = m → i ≤ b.length → A.length = 2 * i → A ++ hx (b.drop i) = hx b → Ev (fun k => lanyardref02_Hex.l0 k (I b) (I A) (i : Int)) (bs (hx b))
  | 0, i, A, hm, hi, hA, he => by
    rw [List.drop_of_length_le (by omega), show hx [] = [] from rfl, List.append_nil] at he
    refine Ev.step (fun k => by rw [lanyardref02_Hex.l0]) (Ev.ifF (by rw [I_len]; omega) ?_)
    rw [I_str, he]
    exact Ev.now _
  | m + 1, i, A, hm, hi, hA, he => by
    have hlt : i < b.length := by omega
    have hd : b.drop i = b.getD i 0 :: b.drop (i + 1) := by
      rw [List.drop_eq_getElem_cons hlt, List.getD_eq_getElem?_getD, List.getElem?_eq_getElem hlt]; rfl
    refine Ev.step (fun k => by rw [lanyardref02_Hex.l0]) (Ev.ifT (by rw [I_len]; omega) ?_)
    refine hex_one b hb (I A) (by rw [I_len]; omega) i hlt _ ?_
    rw [I_snoc A _ _ rfl, I_snoc _ _ _ rfl]
    refine ref_hex b hb m (i + 1) _ (by omega) (by omega) (by simp; omega) ?_
    rw [hd, hx_cons] at he
    simpa using he
theorem ref_hex_ev (b : List UInt8) (hb : b.length ≤ 4000) : Ev (fun k => lanyardref02_Hex.f k (I b)) (bs (hx b)) :=
  ref_hex b hb b.length 0 [] (by omega) (by omega) rfl (by rw [List.drop_zero, List.nil_append])
end Go.Proofs.YtfphmpnkfjeceaaDoor.Esc
