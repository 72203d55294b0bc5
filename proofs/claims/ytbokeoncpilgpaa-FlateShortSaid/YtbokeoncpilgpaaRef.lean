/- The document's Deflate: the same signs, lengths and distances. -/
import Derived.Test.YtbokeoncpilgpaaDfl
import Derived.Test.YtbokeoncpilgpaaRul
import Derived.Test.YtbokeoncpilgpaaHp0
import Derived.Test.YtbokeoncpilgpaaHp2
import Derived.Test.YtbokeoncpilgpaaHp3
import Derived.Test.YtbokeoncpilgpaaHp4
import Derived.Test.YtbokeoncpilgpaaHp5
import Derived.Test.YtbokeoncpilgpaaHp6
import Derived.Test.YtbokeoncpilgpaaHp8
namespace Go.Proofs.Ytbokeoncpilgpaa.Pln
open Go.RowKit Go.Proofs.Ytbokeoncpilgpaa.Hp Go.Proofs.YtbokeoncpilgpaaW.PrintWords Go.Proofs.YtbokeoncpilgpaaW.PrintLast
/-- Bits as the document's numbers. -/
def cI (bl : List Nat) : List Int := bl.map (fun n : Nat => (n : Int))
theorem cI_len (bl : List Nat) : (cI bl).length = bl.length := List.length_map _
theorem cI_app (a b : List Nat) : cI (a ++ b) = cI a ++ cI b := List.map_append
theorem tmod2 (n : Nat) : Int.tmod (n : Int) 2 = ((n % 2 : Nat) : Int) := by rw [Int.tmod_eq_emod_of_nonneg (by omega)]; omega
theorem tdiv2 (n : Nat) (h : n ≤ 1099511627776) : wrap64 (Int.tdiv (n : Int) 2) = ((n / 2 : Nat) : Int) := by
  have e : Int.tdiv (n : Int) 2 = ((n / 2 : Nat) : Int) := by rw [Int.tdiv_eq_ediv_of_nonneg (by omega)]; omega
  rw [e]
  exact wr64 (by omega) (by omega)
theorem up1 (n : Nat) (h : n ≤ 1099511627776) : wrap64 ((n : Int) + 1) = ((n + 1 : Nat) : Int) := wr64 (by omega) (by omega)
theorem word_ev (a : List Nat) (n sz : Nat) (hn : n ≤ 1099511627776) (hsz : sz ≤ 64) (ha : a.length ≤ 1099511627776) : ∀ d j, j + d = sz → Ev (fun k => lanyardref04_word.l0 k (cI a) (cI (codeB n j)) ((n / 2 ^ j : Nat) : Int) (j : Int) (n : Int) (sz : Int)) (cI (a ++ codeB n sz))
  | 0, j, h => by
    obtain rfl : j = sz := by omega
    refine Ev.step (fun k => by rw [lanyardref04_word.l0]) ?_
    refine Ev.ifF (by omega) (Ev.ifT ?_ ?_)
    · rw [cI_len, cI_len, codeB_len]; omega
    · rw [cI_app]; exact Ev.now _
  | d + 1, j, h => by
    have ih := word_ev a n sz hn hsz ha d (j + 1) (by omega)
    have hle : n / 2 ^ j ≤ 1099511627776 := Nat.le_trans (Nat.div_le_self _ _) hn
    refine Ev.step (fun k => by rw [lanyardref04_word.l0]) ?_
    refine Ev.ifT (by omega) (Ev.bindC rfl (Ev.ifT ?_ ?_))
    · rw [cI_len, codeB_len, List.length_singleton]; omega
    · rw [tmod2, tdiv2 _ hle, up1 j (by omega), Nat.div_div_eq_div_mul, ← Nat.pow_succ]
      exact ih
theorem word_f (a : List Nat) (n sz : Nat) (hn : n ≤ 1099511627776) (hsz : sz ≤ 64) (ha : a.length ≤ 1099511627776) : Ev (fun k => lanyardref04_word.f k (cI a) (n : Int) (sz : Int)) (cI (a ++ codeB n sz)) := by
  have h := word_ev a n sz hn hsz ha sz 0 (by omega)
  rw [Nat.pow_zero, Nat.div_one] at h
  exact h
theorem num_ev (sz : Nat) (hsz : sz ≤ 64) : ∀ (d j n : Nat) (a : List Nat), j + d = sz → n ≤ 1099511627776 → a.length ≤ 1099511627776 + j → Ev (fun k => lanyardref04_num.l0 k (cI a) (n : Int) (sz : Int) (j : Int)) (cI (a ++ numB n d))
  | 0, j, n, a, h, _, _ => by
    refine Ev.step (fun k => by rw [lanyardref04_num.l0]) ?_
    refine Ev.ifF (by omega) ?_
    rw [numB, List.append_nil]
    exact Ev.now _
  | d + 1, j, n, a, h, hn, ha => by
    have ih := num_ev sz hsz d (j + 1) (n / 2) (a ++ [n % 2]) (by omega) (by omega) (by rw [List.length_append, List.length_singleton]; omega)
    refine Ev.step (fun k => by rw [lanyardref04_num.l0]) ?_
    refine Ev.ifT (by omega) (Ev.ifT (by rw [cI_len]; omega) ?_)
    rw [tmod2, tdiv2 n hn, up1 j (by omega), numB_app]
    rw [cI_app] at ih
    exact ih
theorem num_f (a : List Nat) (n sz : Nat) (hn : n ≤ 1099511627776) (hsz : sz ≤ 64) (ha : a.length ≤ 1099511627776) : Ev (fun k => lanyardref04_num.f k (cI a) (n : Int) (sz : Int)) (cI (a ++ numB n sz)) := num_ev sz hsz sz 0 n a (by omega) hn ha
/-- Rows of bits as bytes. -/
theorem rd_cI (bl : List Nat) (i : Nat) : rd (cI bl) (i : Int) = ((bl.getD i 0 : Nat) : Int) := by
  unfold rd cI
  rw [Int.toNat_natCast, List.getD_eq_getElem?_getD, List.getD_eq_getElem?_getD, List.getElem?_map]
  cases bl[i]? <;> rfl
theorem bits_ev (bl : List Nat) (hb : ∀ x ∈ bl, x < 2) (hl : bl.length ≤ 1099511627776) : ∀ d i, i + d = bl.length → Ev (fun k => lanyardref04_Bits.l0 k (cI bl) (bytesL (bl.take i)) (i : Int)) (bytesL bl)
  | 0, i, h => by
    obtain rfl : i = bl.length := by omega
    refine Ev.step (fun k => by rw [lanyardref04_Bits.l0]) ?_
    refine Ev.ifF (by rw [cI_len]; omega) ?_
    rw [List.take_length]
    exact Ev.now _
  | d + 1, i, h => by
    have ih := bits_ev bl hb hl d (i + 1) (by omega)
    have hx : bl.getD i 0 < 2 := bit_le bl hb i
    obtain ⟨x, hxe⟩ : ∃ x, bl.getD i 0 = x := ⟨_, rfl⟩
    have htk : bl.take (i + 1) = bl.take i ++ [x] := by
      rw [List.take_add_one, List.getElem?_eq_getElem (by omega), ← hxe, List.getD_eq_getElem?_getD, List.getElem?_eq_getElem (by omega)]
      rfl
    have hlt : (bl.take i).length = i := by rw [List.length_take]; omega
    have hbt : ∀ y ∈ bl.take i, y < 2 := fun y hy => hb y (List.mem_of_mem_take hy)
    rw [hxe] at hx
    obtain ⟨q, hq⟩ : ∃ q, i / 8 = q := ⟨_, rfl⟩
    obtain ⟨r, hr⟩ : ∃ r, i % 8 = r := ⟨_, rfl⟩
    have hi : i = 8 * q + r := by omega
    have hr8 : r < 8 := by omega
    have hmod : Int.tmod (i : Int) 8 = (r : Int) := by rw [Int.tmod_eq_emod_of_nonneg (by omega)]; omega
    -- the last byte, and what it becomes
    have tail : ∀ (Y : List Int) (y : Nat), Y.length = q + 1 → Y[q]? = some (y : Int) → y + x * 2 ^ r < 256 → bytesL (bl.take (i + 1)) = Y.set q ((y + x * 2 ^ r : Nat) : Int) → Ev (fun k => lanyardref04_Bits.j1 k (cI bl) Y (i : Int)) (bytesL bl) := by
      intro Y y hY hy hsum hset
      have inner : ∀ d2 j, j + d2 = r → Ev (fun k => lanyardref04_Bits.l1 k (cI bl) Y (i : Int) ((x * 2 ^ j : Nat) : Int) (j : Int)) (bytesL bl) := by
        intro d2
        induction d2 with
        | zero =>
          intro j hj
          obtain rfl : j = r := by omega
          have e1 : wrap64 ((Y.length : Int) - 1) = (q : Int) := by
            have : (Y.length : Int) - 1 = (q : Int) := by omega
            rw [this]; exact wr64 (by omega) (by omega)
          have e2 : rd Y (q : Int) = (y : Int) := by unfold rd; rw [Int.toNat_natCast, List.getD_eq_getElem?_getD, hy]; rfl
          have e3 : ((y : Int) + ((x * 2 ^ j : Nat) : Int) % 256) % 256 = ((y + x * 2 ^ j : Nat) : Int) := by
            generalize x * 2 ^ j = z at hsum ⊢
            omega
          refine Ev.step (fun k => by rw [lanyardref04_Bits.l1]) ?_
          rw [hmod]
          refine Ev.ifF (by omega) ?_
          rw [e1]
          refine Ev.ifT (by omega) (Ev.ifT (by omega) ?_)
          rw [e2, e3, Int.toNat_natCast, ← hset, up1 i (by omega)]
          exact ih
        | succ d2 ihd =>
          intro j hj
          have h2 := ihd (j + 1) (by omega)
          have hp : 2 ^ j ≤ 2 ^ 8 := Nat.pow_le_pow_right (by decide) (by omega)
          have hz : x * 2 ^ j ≤ 1 * 2 ^ 8 := Nat.mul_le_mul (by omega) hp
          have e1 : wrap64 (((x * 2 ^ j : Nat) : Int) * 2) = ((x * 2 ^ (j + 1) : Nat) : Int) := by
            rw [Nat.pow_succ, ← Nat.mul_assoc]
            generalize x * 2 ^ j = z at hz ⊢
            rw [wr64 (by omega) (by omega)]
            omega
          refine Ev.step (fun k => by rw [lanyardref04_Bits.l1]) ?_
          rw [hmod]
          refine Ev.ifT (by omega) ?_
          rw [e1, up1 j (by omega)]
          exact h2
      have h0 := inner r 0 (by omega)
      rw [Nat.pow_zero, Nat.mul_one] at h0
      refine Ev.step (fun k => by rw [lanyardref04_Bits.j1]) ?_
      refine Ev.ifT (by omega) (Ev.ifT (by rw [cI_len]; omega) ?_)
      rw [rd_cI, hxe]
      exact h0
    refine Ev.step (fun k => by rw [lanyardref04_Bits.l0]) ?_
    refine Ev.ifT (by rw [cI_len]; omega) ?_
    rw [hmod]
    rcases Nat.eq_zero_or_pos r with h0 | h0
    · subst h0
      obtain ⟨hset, hlen⟩ := bytes_new (bl.take i) x q (by omega)
      refine Ev.ifT rfl (Ev.ifT (by rw [bytesL_len]; omega) ?_)
      refine tail _ 0 hlen ?_ (by rw [Nat.pow_zero]; omega) (by rw [htk, hset, Nat.zero_add])
      have hl0 : (bytesL (bl.take i)).length = q := by rw [bytesL_len]; omega
      rw [List.getElem?_append_right (by omega), hl0, Nat.sub_self]; rfl
    · obtain ⟨y, hy, hy2, hset, hlen⟩ := bytes_old (bl.take i) hbt x q r (by omega) h0 hr8
      refine Ev.ifF (by omega) ?_
      exact tail _ y hlen hy (or_u8 r hr8 y hy2 x hx).2 (by rw [htk, hset])
theorem bits_f (bl : List Nat) (hb : ∀ x ∈ bl, x < 2) (hl : bl.length ≤ 1099511627776) : Ev (fun k => lanyardref04_Bits.f k (cI bl)) (bytesL bl) := by
  have h := bits_ev bl hb hl bl.length 0 (by omega)
  rw [List.take_zero] at h
  exact h
theorem fixed_f : Ev (fun k => lanyardref04_fixed.f k) (fixL, fixD) := Ev.of (fun k => lanyardref04_fixed.mono k) (k := 700) (by decide +kernel)
/-- The fixed codes. -/
def codeF (s : Nat) : S52 := if s < 144 then ⟨((48 + s : Nat) : Int), 8⟩ else if s < 256 then ⟨((256 + s : Nat) : Int), 9⟩ else if s < 280 then ⟨((s - 256 : Nat) : Int), 7⟩ else ⟨((s - 88 : Nat) : Int), 8⟩
def codesF : List S52 := (List.range 288).map codeF
def codesD : List S52 := (List.range 32).map (fun d : Nat => (⟨(d : Int), 5⟩ : S52))
theorem codesF_f : Ev (fun k => lanyardref04_Codes.f k fixL) codesF := Ev.of (fun k => lanyardref04_Codes.mono _ k) (k := 5000) (by kernel_rfl)
theorem codesD_f : Ev (fun k => lanyardref04_Codes.f k fixD) codesD := Ev.of (fun k => lanyardref04_Codes.mono _ k) (k := 600) (by kernel_rfl)
theorem codeF_word (s : Nat) (h : s < 288) : ∃ c z : Nat, codeF s = ⟨(c : Int), (z : Int)⟩ ∧ codeB c z = signB s ∧ c ≤ 1000 ∧ z ≤ 9 := by
  unfold codeF signB
  by_cases h1 : s < 144
  · rw [if_pos h1, if_pos h1]; exact ⟨48 + s, 8, rfl, rfl, by omega, by decide⟩
  · rw [if_neg h1, if_neg h1]
    by_cases h2 : s < 256
    · rw [if_pos h2, if_pos h2]; exact ⟨256 + s, 9, rfl, rfl, by omega, by decide⟩
    · rw [if_neg h2, if_neg h2]
      by_cases h3 : s < 280
      · rw [if_pos h3, if_pos h3]; exact ⟨s - 256, 7, rfl, rfl, by omega, by decide⟩
      · rw [if_neg h3, if_neg h3]; exact ⟨s - 88, 8, rfl, rfl, by omega, by decide⟩
theorem rd_codesF (s : Nat) (h : s < 288) : rd_T52 codesF (s : Int) = codeF s := by
  unfold rd_T52 codesF
  rw [Int.toNat_natCast, List.getD_eq_getElem?_getD, List.getElem?_map, List.getElem?_range h]
  rfl
theorem rd_codesD (d : Nat) (h : d < 32) : rd_T52 codesD (d : Int) = ⟨(d : Int), 5⟩ := by
  unfold rd_T52 codesD
  rw [Int.toNat_natCast, List.getD_eq_getElem?_getD, List.getElem?_map, List.getElem?_range h]
  rfl
theorem sign_word (a : List Nat) (s : Nat) (h : s < 288) (ha : a.length ≤ 1099511627776) : Ev (fun k => lanyardref04_word.f k (cI a) (rd_T52 codesF (s : Int)).f0 (rd_T52 codesF (s : Int)).f1) (cI (a ++ signB s)) := by
  obtain ⟨c, z, e, hc, h1, h2⟩ := codeF_word s h
  rw [rd_codesF s h, e, ← hc]
  exact word_f a c z (by omega) (by omega) ha
theorem dist_word (a : List Nat) (d : Nat) (h : d < 32) (ha : a.length ≤ 1099511627776) : Ev (fun k => lanyardref04_word.f k (cI a) (rd_T52 codesD (d : Int)).f0 (rd_T52 codesD (d : Int)).f1) (cI (a ++ codeB d 5)) := by
  rw [rd_codesD d h]
  exact word_f a d 5 (by omega) (by decide) ha
theorem least_tab : ∀ i : Nat, i < 29 → lanyardref04_least.f ((257 + i : Nat) : Int) = some (((lenBase.getD i 0 : Nat) : Int), ((lenMore.getD i 0 : Nat) : Int)) := by decide +kernel
theorem rfar_tab : ∀ i : Nat, i < 30 → lanyardref04_far.f (i : Int) = some (((farBase.getD i 0 : Nat) : Int), ((farMore.getD i 0 : Nat) : Int)) := by decide +kernel
theorem len_up : ∀ n, n < 259 → 3 ≤ n → ∀ i, i < 28 → (i < lenI n → lenBase.getD (i + 1) 0 ≤ n) ∧ (i = lenI n → n < lenBase.getD (i + 1) 0) := by decide +kernel
theorem far_up : ∀ n, n < 513 → 1 ≤ n → ∀ i, i < 29 → (i < farS n 29 → farBase.getD (i + 1) 0 ≤ n) ∧ (i = farS n 29 → n < farBase.getD (i + 1) 0) := by decide +kernel
/-- What goes on behind a search. -/
theorem ref_run (l : List Int) (cs ds : List S52) (x7 : List Int) (at_ far : Nat) (hl : l.length ≤ 65536) (ha : at_ ≤ l.length) (hf : 1 ≤ far ∧ far ≤ at_) (bt bk : Nat) (r : List Int) : ∀ f n, n + f = 258 → at_ + n ≤ l.length →
    Ev (fun k => lanyardref04_Deflate.l1 k l cs ds x7 (at_ : Int) (if bt < runK l at_ far f n then ((runK l at_ far f n : Nat) : Int) else (bt : Int)) (if bt < runK l at_ far f n then (far : Int) else (bk : Int)) ((far + 1 : Nat) : Int)) r → Ev (fun k => lanyardref04_Deflate.l2 k l cs ds x7 (at_ : Int) (bt : Int) (bk : Int) (far : Int) (n : Int)) r := by
  have fin : ∀ n, n ≤ 258 → Ev (fun k => lanyardref04_Deflate.l1 k l cs ds x7 (at_ : Int) (if bt < n then (n : Int) else (bt : Int)) (if bt < n then (far : Int) else (bk : Int)) ((far + 1 : Nat) : Int)) r → Ev (fun k => if (n : Int) > bt then (lanyardref04_Deflate.l1 k l cs ds x7 (at_ : Int) (n : Int) (far : Int) (wrap64 ((far : Int) + 1))) else (lanyardref04_Deflate.l1 k l cs ds x7 (at_ : Int) (bt : Int) (bk : Int) (wrap64 ((far : Int) + 1)))) r := by
    intro n hn h
    rw [up1 far (by omega)]
    by_cases hb : bt < n
    · rw [if_pos hb, if_pos hb] at h; exact Ev.ifT (by omega) h
    · rw [if_neg hb, if_neg hb] at h; exact Ev.ifF (by omega) h
  intro f
  induction f with
  | zero =>
    intro n hn _ h
    rw [runK] at h
    refine Ev.step (fun k => by rw [lanyardref04_Deflate.l2]) ?_
    exact Ev.ifF (by omega) (fin n (by omega) h)
  | succ f ih =>
    intro n hn hle h
    rw [runK] at h
    have b0 : (n : Int) < 258 := by omega
    by_cases hc : at_ + n < l.length ∧ l.getD (at_ + n) 0 = l.getD (at_ + n - far) 0
    · rw [if_pos hc] at h
      have h2 := ih (n + 1) (by omega) (by omega) h
      have b1 : ((at_ + n : Nat) : Int) < (l.length : Int) := by omega
      have b2 : (0 : Int) ≤ ((at_ + n : Nat) : Int) := by omega
      have b3 : (0 : Int) ≤ ((at_ + n - far : Nat) : Int) := by omega
      have b4 : ((at_ + n - far : Nat) : Int) < (l.length : Int) := by omega
      have e2 : wrap64 (((at_ + n : Nat) : Int) - far) = ((at_ + n - far : Nat) : Int) := (wr64 (by omega) (by omega)).trans (by omega)
      have e1 : wrap64 ((at_ : Int) + n) = ((at_ + n : Nat) : Int) := wr64 (by omega) (by omega)
      have b5 : rd l ((at_ + n : Nat) : Int) = rd l ((at_ + n - far : Nat) : Int) := by unfold rd; rw [Int.toNat_natCast, Int.toNat_natCast]; exact hc.2
      refine Ev.step (fun k => by rw [lanyardref04_Deflate.l2]) ?_
      refine Ev.ifT b0 ?_
      rw [e1]
      refine Ev.ifT b1 (Ev.ifT b2 ?_)
      rw [e2]
      refine Ev.ifT b3 (Ev.ifT b4 (Ev.ifT b5 ?_))
      rw [up1 n (by omega)]
      exact h2
    · rw [if_neg hc] at h
      have bf := fin n (by omega) h
      by_cases hd : at_ + n < l.length
      · have b1 : ((at_ + n : Nat) : Int) < (l.length : Int) := by omega
        have b2 : (0 : Int) ≤ ((at_ + n : Nat) : Int) := by omega
        have b3 : (0 : Int) ≤ ((at_ + n - far : Nat) : Int) := by omega
        have b4 : ((at_ + n - far : Nat) : Int) < (l.length : Int) := by omega
        have e2 : wrap64 (((at_ + n : Nat) : Int) - far) = ((at_ + n - far : Nat) : Int) := (wr64 (by omega) (by omega)).trans (by omega)
        have e1 : wrap64 ((at_ : Int) + n) = ((at_ + n : Nat) : Int) := wr64 (by omega) (by omega)
        have b5 : ¬ rd l ((at_ + n : Nat) : Int) = rd l ((at_ + n - far : Nat) : Int) := by unfold rd; rw [Int.toNat_natCast, Int.toNat_natCast]; exact fun e => hc ⟨hd, e⟩
        refine Ev.step (fun k => by rw [lanyardref04_Deflate.l2]) ?_
        refine Ev.ifT b0 ?_
        rw [e1]
        refine Ev.ifT b1 (Ev.ifT b2 ?_)
        rw [e2]
        exact Ev.ifT b3 (Ev.ifT b4 (Ev.ifF b5 bf))
      · have b1 : ¬ ((at_ + n : Nat) : Int) < (l.length : Int) := by omega
        have e1 : wrap64 ((at_ : Int) + n) = ((at_ + n : Nat) : Int) := wr64 (by omega) (by omega)
        refine Ev.step (fun k => by rw [lanyardref04_Deflate.l2]) ?_
        refine Ev.ifT b0 ?_
        rw [e1]
        exact Ev.ifF b1 bf
theorem ref_match (l : List Int) (cs ds : List S52) (x7 : List Int) (at_ : Nat) (hl : l.length ≤ 65536) (ha : at_ ≤ l.length) (r : List Int)
    (h : Ev (fun k => if ((matchP l at_).1 : Int) < 3 then (if 0 ≤ (at_ : Int) then (if (at_ : Int) < (l.length : Int) then (if 0 ≤ (rd l (at_ : Int)) then (if (rd l (at_ : Int)) < (cs.length : Int) then ((lanyardref04_word.f k x7 ((rd_T52 cs (rd l (at_ : Int))).f0) ((rd_T52 cs (rd l (at_ : Int))).f1)).bind fun t181 => (lanyardref04_Deflate.l0 k l cs ds t181 (wrap64 ((at_ : Int) + 1)))) else (none)) else (none)) else (none)) else (none)) else (lanyardref04_Deflate.l3 k l cs ds x7 (at_ : Int) ((matchP l at_).1 : Int) ((matchP l at_).2 : Int) 257)) r) :
    ∀ d j, j + d = min at_ 512 → Ev (fun k => lanyardref04_Deflate.l1 k l cs ds x7 (at_ : Int) ((bestK l at_ j).1 : Int) ((bestK l at_ j).2 : Int) ((j + 1 : Nat) : Int)) r := by
  intro d
  induction d with
  | zero =>
    intro j hj
    have hm : matchP l at_ = bestK l at_ j := by unfold matchP; rw [← hj, Nat.add_zero]
    rw [hm] at h
    have fin : Ev (fun k => lanyardref04_Deflate.j2 k l cs ds x7 (at_ : Int) ((bestK l at_ j).1 : Int) ((bestK l at_ j).2 : Int) ((j + 1 : Nat) : Int) false) r := by
      refine Ev.step (fun k => by rw [lanyardref04_Deflate.j2]) ?_
      exact Ev.ifF (by simp) h
    refine Ev.step (fun k => by rw [lanyardref04_Deflate.l1]) ?_
    by_cases h5 : ((j + 1 : Nat) : Int) ≤ 512
    · refine Ev.ifT h5 ?_
      rw [decide_eq_false (show ¬ ((j + 1 : Nat) : Int) ≤ (at_ : Int) by omega)]
      exact fin
    · exact Ev.ifF h5 fin
  | succ d ih =>
    intro j hj
    have h2 := ih (j + 1) (by omega)
    have h3 := ref_run l cs ds x7 at_ (j + 1) hl ha (by omega) (bestK l at_ j).1 (bestK l at_ j).2 r 258 0 rfl (by omega) (by
      rw [bestK] at h2
      by_cases hb : (bestK l at_ j).1 < runK l at_ (j + 1) 258 0
      · rw [if_pos hb, if_pos hb]; rw [if_pos hb] at h2; exact h2
      · rw [if_neg hb, if_neg hb]; rw [if_neg hb] at h2; exact h2)
    refine Ev.step (fun k => by rw [lanyardref04_Deflate.l1]) ?_
    refine Ev.ifT (by omega) ?_
    rw [decide_eq_true (show ((j + 1 : Nat) : Int) ≤ (at_ : Int) by omega)]
    refine Ev.step (fun k => by rw [lanyardref04_Deflate.j2]) ?_
    exact Ev.ifT rfl h3
/-- The distance. -/
theorem ref_far (l : List Int) (a : List Nat) (at_ n far : Nat) (hf : 1 ≤ far ∧ far ≤ 512) (hal : a.length ≤ 1099511627000) (hat : at_ + n ≤ 65536) (r : List Int)
    (h : Ev (fun k => lanyardref04_Deflate.l0 k l codesF codesD (cI (a ++ codeB (farS far 29) 5 ++ numB (far - farBase.getD (farS far 29) 0) (farMore.getD (farS far 29) 0))) ((at_ + n : Nat) : Int)) r) :
    ∀ d i, i + d = farS far 29 → Ev (fun k => lanyardref04_Deflate.l4 k l codesF codesD (cI a) (at_ : Int) (n : Int) (far : Int) (i : Int)) r := by
  have hle := farS_le far 29
  have hb := farS_base far hf.1 29
  have ew : wrap64 ((at_ : Int) + n) = ((at_ + n : Nat) : Int) := wr64 (by omega) (by omega)
  intro d
  induction d with
  | zero =>
    intro i hi
    obtain rfl : i = farS far 29 := by omega
    have hfx := (far_tab (farS far 29) (by omega)).2.2.2
    have fin : Ev (fun k => (lanyardref04_far.f ((farS far 29 : Nat) : Int)).bind fun bt197 => (if 0 ≤ ((farS far 29 : Nat) : Int) then (if ((farS far 29 : Nat) : Int) < (codesD.length : Int) then ((lanyardref04_word.f k (cI a) ((rd_T52 codesD ((farS far 29 : Nat) : Int)).f0) ((rd_T52 codesD ((farS far 29 : Nat) : Int)).f1)).bind fun t200 => ((lanyardref04_num.f k t200 (wrap64 ((far : Int) - bt197.1)) bt197.2).bind fun t203 => (lanyardref04_Deflate.l0 k l codesF codesD t203 (wrap64 ((at_ : Int) + n))))) else (none)) else (none))) r := by
      refine Ev.bindC (rfar_tab _ (by omega)) ?_
      have hlen : codesD.length = 32 := by unfold codesD; rw [List.length_map, List.length_range]
      refine Ev.ifT (by omega) (Ev.ifT (by rw [hlen]; omega) ?_)
      refine Ev.bind (dist_word a (farS far 29) (by omega) (by omega)) ?_
      have e1 : wrap64 ((far : Int) - ((farBase.getD (farS far 29) 0 : Nat) : Int)) = ((far - farBase.getD (farS far 29) 0 : Nat) : Int) := (wr64 (by omega) (by omega)).trans (by omega)
      simp only []
      rw [e1]
      refine Ev.bind (num_f _ _ _ (by omega) (by omega) (by rw [List.length_append, codeB_len]; omega)) ?_
      rw [ew]
      exact h
    refine Ev.step (fun k => by rw [lanyardref04_Deflate.l4]) ?_
    by_cases h29 : farS far 29 < 29
    · refine Ev.ifT (by omega) ?_
      rw [up1 (farS far 29) (by omega)]
      refine Ev.bindC (rfar_tab _ (by omega)) ?_
      refine Ev.ifT ?_ fin
      have := (far_up far (by omega) hf.1 (farS far 29) h29).2 rfl
      simp only []
      omega
    · exact Ev.ifF (by omega) fin
  | succ d ih =>
    intro i hi
    have h2 := ih (i + 1) (by omega)
    refine Ev.step (fun k => by rw [lanyardref04_Deflate.l4]) ?_
    refine Ev.ifT (by omega) ?_
    rw [up1 i (by omega)]
    refine Ev.bindC (rfar_tab _ (by omega)) ?_
    refine Ev.ifF ?_ h2
    have := (far_up far (by omega) hf.1 i (by omega)).1 (by omega)
    simp only []
    omega
/-- The length, then the distance. -/
theorem ref_len (l : List Int) (a : List Nat) (at_ n far : Nat) (hn : 3 ≤ n ∧ n ≤ 258) (hf : 1 ≤ far ∧ far ≤ 512) (hal : a.length ≤ 1099511626000) (hat : at_ + n ≤ 65536) (r : List Int)
    (h : Ev (fun k => lanyardref04_Deflate.l0 k l codesF codesD (cI (a ++ copyB n far)) ((at_ + n : Nat) : Int)) r) :
    ∀ d i, i + d = lenI n → Ev (fun k => lanyardref04_Deflate.l3 k l codesF codesD (cI a) (at_ : Int) (n : Int) (far : Int) ((257 + i : Nat) : Int)) r := by
  have hle := lenI_le n
  have hb := lenI_base n hn
  intro d
  induction d with
  | zero =>
    intro i hi
    obtain rfl : i = lenI n := by omega
    have hmx := (len_tab (lenI n) (by omega)).2.2
    have fin : Ev (fun k => lanyardref04_Deflate.j5 k l codesF codesD (cI a) (at_ : Int) (n : Int) (far : Int) ((257 + lenI n : Nat) : Int)) r := by
      have hlen : codesF.length = 288 := by unfold codesF; rw [List.length_map, List.length_range]
      refine Ev.step (fun k => by rw [lanyardref04_Deflate.j5]) ?_
      refine Ev.bindC (least_tab _ (by omega)) ?_
      refine Ev.ifT (by omega) (Ev.ifT (by rw [hlen]; omega) ?_)
      refine Ev.bind (sign_word a (257 + lenI n) (by omega) (by omega)) ?_
      have e1 : wrap64 ((n : Int) - ((lenBase.getD (lenI n) 0 : Nat) : Int)) = ((n - lenBase.getD (lenI n) 0 : Nat) : Int) := (wr64 (by omega) (by omega)).trans (by omega)
      have hsl := signB_len (257 + lenI n)
      simp only []
      rw [e1]
      refine Ev.bind (num_f _ _ _ (by omega) (by omega) (by rw [List.length_append]; omega)) ?_
      refine ref_far l (a ++ signB (257 + lenI n) ++ numB (n - lenBase.getD (lenI n) 0) (lenMore.getD (lenI n) 0)) at_ n far hf (by rw [List.length_append, List.length_append, numB_len]; omega) hat r ?_ (farS far 29) 0 (by omega)
      have e : a ++ signB (257 + lenI n) ++ numB (n - lenBase.getD (lenI n) 0) (lenMore.getD (lenI n) 0) ++ codeB (farS far 29) 5 ++ numB (far - farBase.getD (farS far 29) 0) (farMore.getD (farS far 29) 0) = a ++ copyB n far := by
        unfold copyB
        simp only [List.append_assoc]
      rw [e]
      exact h
    refine Ev.step (fun k => by rw [lanyardref04_Deflate.l3]) ?_
    by_cases h28 : lenI n < 28
    · refine Ev.ifT (by omega) ?_
      rw [up1 (257 + lenI n) (by omega)]
      refine Ev.bindC (least_tab (lenI n + 1) (by omega)) ?_
      refine Ev.ifT ?_ fin
      have := (len_up n (by omega) hn.1 (lenI n) h28).2 rfl
      simp only []
      omega
    · exact Ev.ifF (by omega) fin
  | succ d ih =>
    intro i hi
    have h2 := ih (i + 1) (by omega)
    refine Ev.step (fun k => by rw [lanyardref04_Deflate.l3]) ?_
    refine Ev.ifT (by omega) ?_
    rw [up1 (257 + i) (by omega)]
    refine Ev.bindC (least_tab (i + 1) (by omega)) ?_
    refine Ev.ifF ?_ h2
    have := (len_up n (by omega) hn.1 i (by omega)).1 (by omega)
    simp only []
    omega
theorem ref_ev (l : List Int) (hl : l.length ≤ 65536) (hb : ∀ x ∈ l, 0 ≤ x ∧ x < 256) : ∀ f at_ (a : List Nat), l.length - at_ < f → at_ ≤ l.length → a.length ≤ 3 + 60 * at_ → (∀ x ∈ a, x < 2) → Ev (fun k => lanyardref04_Deflate.l0 k l codesF codesD (cI a) (at_ : Int)) (bytesL (a ++ deflG l f at_ ++ signB 256))
  | 0, at_, a, h, _, _, _ => by omega
  | f + 1, at_, a, h, ha, hal, hab => by
    refine Ev.step (fun k => by rw [lanyardref04_Deflate.l0]) ?_
    rw [deflG]
    by_cases hlt : at_ < l.length
    · rw [if_pos hlt]
      refine Ev.ifT (by omega) ?_
      obtain ⟨q1, q2, q3, q4⟩ := matchP_le l at_ ha
      refine ref_match l codesF codesD (cI a) at_ hl ha _ ?_ (min at_ 512) 0 (by omega)
      by_cases h3 : (matchP l at_).1 < 3
      · rw [if_pos h3]
        have hmem := hb (l.getD at_ 0) (by rw [List.getD_eq_getElem?_getD, List.getElem?_eq_getElem hlt]; exact List.getElem_mem _)
        have hrd : rd l (at_ : Int) = l.getD at_ 0 := by unfold rd; rw [Int.toNat_natCast]
        obtain ⟨s, hs⟩ : ∃ s : Nat, l.getD at_ 0 = s := ⟨(l.getD at_ 0).toNat, by omega⟩
        have hlen : codesF.length = 288 := by unfold codesF; rw [List.length_map, List.length_range]
        rw [hrd, hs, Int.toNat_natCast]
        rw [hs] at hmem
        refine Ev.ifT (by omega) (Ev.ifT (by omega) (Ev.ifT (by omega) (Ev.ifT (by omega) (Ev.ifT (by rw [hlen]; omega) ?_))))
        refine Ev.bind (sign_word a s (by omega) (by omega)) ?_
        rw [up1 at_ (by omega)]
        have hsl := signB_len s
        have ih := ref_ev l hl hb f (at_ + 1) (a ++ signB s) (by omega) (by omega) (by rw [List.length_append]; omega) (app_lt hab (signB_lt s))
        rw [← List.append_assoc]
        exact ih
      · rw [if_neg h3]
        have hcl := copyB_len (matchP l at_).1 (matchP l at_).2
        have ih := ref_ev l hl hb f (at_ + (matchP l at_).1) (a ++ copyB (matchP l at_).1 (matchP l at_).2) (by omega) q3 (by rw [List.length_append]; omega) (app_lt hab (copyB_lt _ _))
        rw [← List.append_assoc]
        refine Ev.ifF (by omega) ?_
        exact ref_len l a at_ _ _ ⟨by omega, q1⟩ ⟨by omega, q2⟩ (by omega) (by omega) _ ih (lenI (matchP l at_).1) 0 (by omega)
    · rw [if_neg hlt, List.append_nil]
      have hlen : codesF.length = 288 := by unfold codesF; rw [List.length_map, List.length_range]
      refine Ev.ifF (by omega) (Ev.ifT (by rw [hlen]; decide) ?_)
      refine Ev.bind (sign_word a 256 (by decide) (by omega)) ?_
      have hsl := signB_len 256
      refine Ev.bind (bits_f _ (app_lt hab (signB_lt 256)) (by rw [List.length_append]; omega)) ?_
      exact Ev.now _
theorem ref_deflate (l : List Int) (hl : l.length ≤ 65536) (hb : ∀ x ∈ l, 0 ≤ x ∧ x < 256) : Ev (fun k => lanyardref04_Deflate.f k l) (bytesL (deflB l)) := by
  unfold lanyardref04_Deflate.f
  refine Ev.bind fixed_f ?_
  refine Ev.bind codesF_f ?_
  refine Ev.bind codesD_f ?_
  exact ref_ev l hl hb (l.length + 1) 0 (numB 3 3) (by omega) (Nat.zero_le _) (by decide) (numB_lt _ _)
end Go.Proofs.Ytbokeoncpilgpaa.Pln
