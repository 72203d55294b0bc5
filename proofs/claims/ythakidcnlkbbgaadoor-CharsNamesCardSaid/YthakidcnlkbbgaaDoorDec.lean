/- Characters: what the program's decoding and the document's give, of any bytes. -/
import Derived.Test.YthakidcnlkbbgaaDoorBas
import Derived.Lib.DecodeN
import Derived.Test.YthakidcnlkbbgaaDoorHp1
import Derived.Test.YthakidcnlkbbgaaDoorHp3
namespace Go.Proofs.YthakidcnlkbbgaaDoor.Esc
open Go.RowKit Go.Proofs.YthakidcnlkbbgaaDoor.Hp Go.Proofs.YthakidcnlkbbgaaDoorW.PrintWords Go.Proofs.YthakidcnlkbbgaaDoorW.PrintLast
/-- What bytes begin with: the character and how many bytes it has, as the library decodes. -/
def dN (b : List UInt8) : Nat × Nat := Lib.decodeN b.length (b.getD 0 0).toNat (b.getD 1 0).toNat (b.getD 2 0).toNat (b.getD 3 0).toNat
theorem get_bs (b : List UInt8) (i : Nat) : (bs b).get! i = b.getD i 0 := by
  show (b.toArray)[i]! = _
  rw [List.getD_eq_getElem?_getD]
  by_cases h : i < b.length
  · rw [getElem!_pos b.toArray i (by simpa using h), List.getElem?_eq_getElem h]; simp
  · rw [getElem!_neg b.toArray i (by simpa using h), List.getElem?_eq_none (by omega)]; rfl
theorem decode_bs (b : List UInt8) (i : Nat) : Utf8.decode (bs b) i = dN (b.drop i) := by
  rw [Lib.decode_at, bs_size, get_bs, get_bs, get_bs, get_bs]
  unfold dN
  rw [getD_drop, getD_drop, getD_drop, getD_drop, List.length_drop]
  rfl
theorem decodeGo_bs (b : List UInt8) (h : b ≠ []) : Lib.decodeGo (bs b) = dN b := by
  unfold Lib.decodeGo
  rw [if_neg (by rw [bs_size]; intro e; exact h (List.length_eq_zero_iff.1 e)), decode_bs]; rfl
theorem isBytes_I (b : List UInt8) : isBytes (I b) = true := by
  apply List.all_eq_true.2
  intro x hx
  obtain ⟨c, _, rfl⟩ := List.mem_map.1 hx
  have := c.toNat_lt
  simp only [Bool.and_eq_true, decide_eq_true_eq]
  omega
theorem dec_f (b : List UInt8) (h : b ≠ []) : utf8_DecodeRune.f (I b) = some (((dN b).1 : Int), ((dN b).2 : Int)) := by
  unfold utf8_DecodeRune.f
  rw [if_pos ⟨by rw [I_len]; exact List.length_pos_iff.2 h, isBytes_I b⟩, I_str, decodeGo_bs b h]
/-! ### a character that is right is told by its own bytes -/
def Right (d : Nat × Nat) : Prop := ¬ (d.1 = 65533 ∧ d.2 < 3)
instance (d : Nat × Nat) : Decidable (Right d) := inferInstanceAs (Decidable (¬ _))
set_option maxHeartbeats 2000000 in
theorem decN_wide (n b0 b1 b2 b3 : Nat) (hn : 1 ≤ n) : 1 ≤ (Lib.decodeN n b0 b1 b2 b3).2 ∧ (Lib.decodeN n b0 b1 b2 b3).2 ≤ 4 ∧ (Lib.decodeN n b0 b1 b2 b3).2 ≤ n ∧ (Lib.decodeN n b0 b1 b2 b3).1 ≤ 1114111 := by
  unfold Lib.decodeN
  repeat' split
  all_goals (simp only []; omega)
set_option maxHeartbeats 4000000 in
theorem decN_same (n n' b0 b1 b2 b3 c1 c2 c3 : Nat) (hr : Right (Lib.decodeN n b0 b1 b2 b3)) (h : (Lib.decodeN n b0 b1 b2 b3).2 ≤ n') (h1 : 1 < (Lib.decodeN n b0 b1 b2 b3).2 → c1 = b1) (h2 : 2 < (Lib.decodeN n b0 b1 b2 b3).2 → c2 = b2) (h3 : 3 < (Lib.decodeN n b0 b1 b2 b3).2 → c3 = b3) :
    Lib.decodeN n' b0 c1 c2 c3 = Lib.decodeN n b0 b1 b2 b3 := by
  unfold Right at hr
  by_cases e1 : b0 < 128
  · unfold Lib.decodeN; rw [if_pos e1, if_pos e1]
  by_cases e2 : b0 / 32 = 6 ∧ (1 < n ∧ b1 / 64 = 2)
  · have k : Lib.decodeN n b0 b1 b2 b3 = if b0 % 32 * 64 + b1 % 64 ≥ 128 then (b0 % 32 * 64 + b1 % 64, 2) else (65533, 1) := by
      unfold Lib.decodeN; rw [if_neg e1, if_pos e2]
    rw [k] at hr h h1 h2 h3 ⊢
    split at hr
    · rename_i e
      rw [if_pos e] at h h1 h2 h3 ⊢
      simp only [] at h h1
      have := h1 (by omega)
      subst this
      unfold Lib.decodeN
      rw [if_neg e1, if_pos ⟨e2.1, by omega, e2.2.2⟩, if_pos e]
    · simp at hr
  by_cases e3 : b0 / 16 = 14 ∧ (1 < n ∧ b1 / 64 = 2) ∧ (2 < n ∧ b2 / 64 = 2)
  · have k : Lib.decodeN n b0 b1 b2 b3 = if b0 % 16 * 4096 + b1 % 64 * 64 + b2 % 64 ≥ 2048 ∧ (b0 % 16 * 4096 + b1 % 64 * 64 + b2 % 64 < 55296 ∨ (57344 ≤ b0 % 16 * 4096 + b1 % 64 * 64 + b2 % 64 ∧ b0 % 16 * 4096 + b1 % 64 * 64 + b2 % 64 ≤ 1114111)) then (b0 % 16 * 4096 + b1 % 64 * 64 + b2 % 64, 3) else (65533, 1) := by
      unfold Lib.decodeN; rw [if_neg e1, if_neg e2, if_pos e3]
    rw [k] at hr h h1 h2 h3 ⊢
    split at hr
    · rename_i e
      rw [if_pos e] at h h1 h2 h3 ⊢
      simp only [] at h h1 h2
      have g1 := h1 (by omega)
      have g2 := h2 (by omega)
      subst g1 g2
      unfold Lib.decodeN
      rw [if_neg e1, if_neg (by omega), if_pos ⟨e3.1, ⟨by omega, e3.2.1.2⟩, by omega, e3.2.2.2⟩, if_pos e]
    · simp at hr
  by_cases e4 : b0 / 8 = 30 ∧ (1 < n ∧ b1 / 64 = 2) ∧ (2 < n ∧ b2 / 64 = 2) ∧ (3 < n ∧ b3 / 64 = 2)
  · have k : Lib.decodeN n b0 b1 b2 b3 = if b0 % 8 * 262144 + b1 % 64 * 4096 + b2 % 64 * 64 + b3 % 64 ≥ 65536 ∧ (b0 % 8 * 262144 + b1 % 64 * 4096 + b2 % 64 * 64 + b3 % 64 < 55296 ∨ (57344 ≤ b0 % 8 * 262144 + b1 % 64 * 4096 + b2 % 64 * 64 + b3 % 64 ∧ b0 % 8 * 262144 + b1 % 64 * 4096 + b2 % 64 * 64 + b3 % 64 ≤ 1114111)) then (b0 % 8 * 262144 + b1 % 64 * 4096 + b2 % 64 * 64 + b3 % 64, 4) else (65533, 1) := by
      unfold Lib.decodeN; rw [if_neg e1, if_neg e2, if_neg e3, if_pos e4]
    rw [k] at hr h h1 h2 h3 ⊢
    split at hr
    · rename_i e
      rw [if_pos e] at h h1 h2 h3 ⊢
      simp only [] at h h1 h2 h3
      have g1 := h1 (by omega)
      have g2 := h2 (by omega)
      have g3 := h3 (by omega)
      subst g1 g2 g3
      unfold Lib.decodeN
      rw [if_neg e1, if_neg (by omega), if_neg (by omega), if_pos ⟨e4.1, ⟨by omega, e4.2.1.2⟩, ⟨by omega, e4.2.2.1.2⟩, by omega, e4.2.2.2.2⟩, if_pos e]
    · simp at hr
  · have k : Lib.decodeN n b0 b1 b2 b3 = (65533, 1) := by
      unfold Lib.decodeN; rw [if_neg e1, if_neg e2, if_neg e3, if_neg e4]
    rw [k] at hr; simp at hr
theorem dN_wide (b : List UInt8) (h : b ≠ []) : 1 ≤ (dN b).2 ∧ (dN b).2 ≤ 4 ∧ (dN b).2 ≤ b.length ∧ (dN b).1 ≤ 1114111 := decN_wide _ _ _ _ _ (List.length_pos_iff.2 h)
theorem dN_same (b c : List UInt8) (h : b ≠ []) (hr : Right (dN b)) (hc : c.take (dN b).2 = b.take (dN b).2) : dN c = dN b := by
  have hw := dN_wide b h
  have hl : (dN b).2 ≤ c.length := by
    have := congrArg List.length hc
    rw [List.length_take, List.length_take] at this; omega
  have hg : ∀ j, j < (dN b).2 → c.getD j 0 = b.getD j 0 := by
    intro j hj
    have := congrArg (fun l => l.getD j 0) hc
    simp only [List.getD_eq_getElem?_getD, List.getElem?_take, if_pos hj] at this ⊢
    exact this
  have e0 := hg 0 (by omega)
  unfold dN at *
  rw [e0]
  exact decN_same _ _ _ _ _ _ _ _ _ hr hl (fun g => by rw [hg 1 g]) (fun g => by rw [hg 2 g]) (fun g => by rw [hg 3 g])
/-! ### the document's decoding -/
/-- none: there is no character. -/
def one (b : List UInt8) : Int × Int := if b = [] then (0, 0) else if Right (dN b) then (((dN b).1 : Int), ((dN b).2 : Int)) else (0, 0)
def fin1 (c n least : Int) : Int × Int := if c < least then (0, 0) else if 55296 ≤ c ∧ c ≤ 57343 then (0, 0) else if 1114111 < c then (0, 0) else (c, n)
theorem one_end (l : List Int) (c n least i : Int) (h : ¬ i < n) : Ev (fun k => lanyardref01_One.l0 k l n c least i) (fin1 c n least) := by
  refine Ev.step (fun k => by rw [lanyardref01_One.l0]) (Ev.ifF h ?_)
  unfold fin1
  by_cases h1 : c < least
  · rw [if_pos h1, if_pos h1]; exact Ev.now _
  rw [if_neg h1, if_neg h1]
  by_cases h2 : c ≥ 55296
  · rw [if_pos h2]
    by_cases h3 : c ≤ 57343
    · rw [if_pos h3, if_pos ⟨h2, h3⟩]; exact Ev.now _
    · rw [if_neg h3, if_neg (show ¬ (55296 ≤ c ∧ c ≤ 57343) from fun h => h3 h.2)]
      by_cases h4 : c > 1114111
      · rw [if_pos h4, if_pos h4]; exact Ev.now _
      · rw [if_neg h4, if_neg h4]; exact Ev.now _
  · rw [if_neg h2, if_neg (show ¬ (55296 ≤ c ∧ c ≤ 57343) from fun h => h2 h.1)]
    by_cases h4 : c > 1114111
    · rw [if_pos h4, if_pos h4]; exact Ev.now _
    · rw [if_neg h4, if_neg h4]; exact Ev.now _
theorem one_step (b : List UInt8) (c n least : Int) (i : Nat) (h : (i : Int) < n) (hi : i < b.length) (hc : 0 ≤ c) (hc2 : c ≤ 100000000) (hi2 : i < 10) (r : Int × Int)
    (k : 128 ≤ (b.getD i 0).toNat ∧ (b.getD i 0).toNat ≤ 191 → Ev (fun k => lanyardref01_One.l0 k (I b) n (c * 64 + (b.getD i 0).toNat - 128) least ((i + 1 : Nat) : Int)) r) (hbad : ¬ (128 ≤ (b.getD i 0).toNat ∧ (b.getD i 0).toNat ≤ 191) → r = (0, 0)) : Ev (fun k => lanyardref01_One.l0 k (I b) n c least (i : Int)) r := by
  have hlt := getD_lt b i
  refine Ev.step (fun k => by rw [lanyardref01_One.l0]) (Ev.ifT h (Ev.ifT (by omega) (Ev.ifT (by rw [I_len]; omega) ?_)))
  rw [I_at b i hi]
  by_cases h1 : ((b.getD i 0).toNat : Int) < 128
  · rw [hbad (by omega)]; exact Ev.ifT h1 (Ev.now _)
  refine Ev.ifF h1 ?_
  by_cases h2 : ((b.getD i 0).toNat : Int) > 191
  · rw [hbad (by omega)]; exact Ev.ifT h2 (Ev.now _)
  refine Ev.ifF h2 ?_
  rw [w64 (x := c * 64) (by omega) (by omega), w64 (x := ((b.getD i 0).toNat : Int)) (by omega) (by omega), w64 (x := c * 64 + ((b.getD i 0).toNat : Int)) (by omega) (by omega), w64 (x := c * 64 + ((b.getD i 0).toNat : Int) - 128) (by omega) (by omega), w64 (x := (i : Int) + 1) (by omega) (by omega)]
  exact k (by omega)
theorem one_two (b : List UInt8) (n c least : Int) (hn : 0 ≤ n) (hn2 : n ≤ 4) (r : Int × Int) (h0 : n = 0 → r = (0, 0)) (hs : (b.length : Int) < n → r = (0, 0)) (k : n ≤ (b.length : Int) → 0 < n → Ev (fun k => lanyardref01_One.l0 k (I b) n c least 1) r) : Ev (fun k => lanyardref01_One.j2 k (I b) n c least) r := by
  refine Ev.step (fun k => by rw [lanyardref01_One.j2]) ?_
  by_cases h : n = 0
  · refine Ev.ifT h ?_
    rw [h0 h]
    exact Ev.step (fun k => by rw [lanyardref01_One.j3]) (Ev.ifT rfl (Ev.now _))
  refine Ev.ifF h ?_
  by_cases h2 : (b.length : Int) < n
  · rw [I_len, decide_eq_true h2, hs h2]
    exact Ev.step (fun k => by rw [lanyardref01_One.j3]) (Ev.ifT rfl (Ev.now _))
  · rw [I_len, decide_eq_false h2]
    exact Ev.step (fun k => by rw [lanyardref01_One.j3]) (Ev.ifF (by simp) (k (by omega) (by omega)))
theorem one_is (b : List UInt8) (h : b ≠ []) (r : Int × Int) (hr : r = (if Right (dN b) then (((dN b).1 : Int), ((dN b).2 : Int)) else (0, 0))) : one b = r := by
  unfold one; rw [if_neg h, hr]
set_option maxHeartbeats 4000000 in
theorem one_ev (b : List UInt8) : Ev (fun k => lanyardref01_One.f k (I b)) (one b) := by
  unfold lanyardref01_One.f
  by_cases h0 : b = []
  · subst h0; exact Ev.ifT rfl (Ev.now _)
  have hl : 0 < b.length := List.length_pos_iff.2 h0
  refine Ev.ifF (by rw [I_len]; omega) (Ev.ifT (by rw [I_len]; omega) ?_)
  rw [show (0 : Int) = ((0 : Nat) : Int) from rfl, I_at b 0 hl]
  have b0 := getD_lt b 0
  have b1 := getD_lt b 1
  have b2 := getD_lt b 2
  have b3 := getD_lt b 3
  have ho := one_is b h0
  have hd : dN b = Lib.decodeN b.length (b.getD 0 0).toNat (b.getD 1 0).toNat (b.getD 2 0).toNat (b.getD 3 0).toNat := rfl
  rw [w64 (x := ((b.getD 0 0).toNat : Int)) (by omega) (by omega)]
  generalize hx0 : (b.getD 0 0).toNat = x0 at b0 hd ⊢
  generalize hx1 : (b.getD 1 0).toNat = x1 at b1 hd
  generalize hx2 : (b.getD 2 0).toNat = x2 at b2 hd
  generalize hx3 : (b.getD 3 0).toNat = x3 at b3 hd
  have none_ : dN b = (65533, 1) → one b = (0, 0) := fun e => by rw [ho _ rfl, e]; rfl
  have some_ : ∀ c n : Nat, dN b = (c, n) → ¬ (c = 65533 ∧ n < 3) → one b = ((c : Int), (n : Int)) := fun c n e h => by rw [ho _ rfl, e]; exact if_pos h
  by_cases h1 : (x0 : Int) < 128
  · refine Ev.ifT h1 ?_
    rw [some_ x0 1 (by rw [hd]; unfold Lib.decodeN; rw [if_pos (by omega)]) (by omega)]
    exact Ev.now _
  refine Ev.ifF h1 ?_
  have k1 : ¬ x0 < 128 := by omega
  -- two bytes
  have two : 192 ≤ x0 → x0 < 224 → Ev (fun k => lanyardref01_One.j2 k (I b) 2 (wrap64 ((x0 : Int) - 192)) 128) (one b) := by
    intro g1 g2
    rw [w64 (by omega) (by omega)]
    have bad : ¬ (1 < b.length ∧ x1 / 64 = 2) → one b = (0, 0) := fun e => none_ (by rw [hd]; unfold Lib.decodeN; rw [if_neg k1, if_neg (by omega), if_neg (by omega), if_neg (by omega)])
    refine one_two b _ _ _ (by omega) (by omega) _ (by omega) (fun e => bad (by omega)) (fun e _ => ?_)
    refine one_step b _ _ _ 1 (by omega) (by omega) (by omega) (by omega) (by omega) _ (fun g => ?_) (fun g => bad (by rw [hx1] at g; omega))
    rw [hx1] at g ⊢
    have hz : dN b = if x0 % 32 * 64 + x1 % 64 ≥ 128 then (x0 % 32 * 64 + x1 % 64, 2) else (65533, 1) := by rw [hd]; unfold Lib.decodeN; rw [if_neg k1, if_pos (by omega)]
    have hf : one b = fin1 (((x0 : Int) - 192) * 64 + x1 - 128) 2 128 := by
      by_cases h : x0 % 32 * 64 + x1 % 64 ≥ 128
      · rw [if_pos h] at hz
        rw [some_ _ _ hz (by omega)]
        unfold fin1
        rw [if_neg (by omega), if_neg (by omega), if_neg (by omega)]
        congr 1; omega
      · rw [if_neg h] at hz
        rw [none_ hz]
        unfold fin1
        rw [if_pos (by omega)]
    rw [hf]
    exact one_end _ _ _ _ _ (by omega)
  have three : 224 ≤ x0 → x0 < 240 → Ev (fun k => lanyardref01_One.j2 k (I b) 3 (wrap64 ((x0 : Int) - 224)) 2048) (one b) := by
    intro g1 g2
    rw [w64 (by omega) (by omega)]
    have bad : ¬ ((1 < b.length ∧ x1 / 64 = 2) ∧ (2 < b.length ∧ x2 / 64 = 2)) → one b = (0, 0) := fun e => none_ (by rw [hd]; unfold Lib.decodeN; rw [if_neg k1, if_neg (by omega), if_neg (by omega), if_neg (by omega)])
    refine one_two b _ _ _ (by omega) (by omega) _ (by omega) (fun e => bad (by omega)) (fun e _ => ?_)
    refine one_step b _ _ _ 1 (by omega) (by omega) (by omega) (by omega) (by omega) _ (fun g => ?_) (fun g => bad (by rw [hx1] at g; omega))
    rw [hx1] at g ⊢
    refine one_step b _ _ _ 2 (by omega) (by omega) (by omega) (by omega) (by omega) _ (fun g3 => ?_) (fun g => bad (by rw [hx2] at g; omega))
    rw [hx2] at g3 ⊢
    have hz : dN b = if x0 % 16 * 4096 + x1 % 64 * 64 + x2 % 64 ≥ 2048 ∧ (x0 % 16 * 4096 + x1 % 64 * 64 + x2 % 64 < 55296 ∨ (57344 ≤ x0 % 16 * 4096 + x1 % 64 * 64 + x2 % 64 ∧ x0 % 16 * 4096 + x1 % 64 * 64 + x2 % 64 ≤ 1114111)) then (x0 % 16 * 4096 + x1 % 64 * 64 + x2 % 64, 3) else (65533, 1) := by rw [hd]; unfold Lib.decodeN; rw [if_neg k1, if_neg (by omega), if_pos (by omega)]
    have hf : one b = fin1 ((((x0 : Int) - 224) * 64 + x1 - 128) * 64 + x2 - 128) 3 2048 := by
      by_cases h : x0 % 16 * 4096 + x1 % 64 * 64 + x2 % 64 ≥ 2048 ∧ (x0 % 16 * 4096 + x1 % 64 * 64 + x2 % 64 < 55296 ∨ (57344 ≤ x0 % 16 * 4096 + x1 % 64 * 64 + x2 % 64 ∧ x0 % 16 * 4096 + x1 % 64 * 64 + x2 % 64 ≤ 1114111))
      · rw [if_pos h] at hz
        rw [some_ _ _ hz (by omega)]
        unfold fin1
        rw [if_neg (by omega), if_neg (by omega), if_neg (by omega)]
        congr 1; omega
      · rw [if_neg h] at hz
        rw [none_ hz]
        unfold fin1
        by_cases q : (((x0 : Int) - 224) * 64 + x1 - 128) * 64 + x2 - 128 < 2048
        · rw [if_pos q]
        · rw [if_neg q]
          by_cases q2 : 55296 ≤ (((x0 : Int) - 224) * 64 + x1 - 128) * 64 + x2 - 128 ∧ (((x0 : Int) - 224) * 64 + x1 - 128) * 64 + x2 - 128 ≤ 57343
          · rw [if_pos q2]
          · rw [if_neg q2, if_pos (by omega)]
    rw [hf]
    exact one_end _ _ _ _ _ (by omega)
  have four : 240 ≤ x0 → x0 < 248 → Ev (fun k => lanyardref01_One.j2 k (I b) 4 (wrap64 ((x0 : Int) - 240)) 65536) (one b) := by
    intro g1 g2
    rw [w64 (by omega) (by omega)]
    have bad : ¬ ((1 < b.length ∧ x1 / 64 = 2) ∧ (2 < b.length ∧ x2 / 64 = 2) ∧ (3 < b.length ∧ x3 / 64 = 2)) → one b = (0, 0) := fun e => none_ (by rw [hd]; unfold Lib.decodeN; rw [if_neg k1, if_neg (by omega), if_neg (by omega), if_neg (by omega)])
    refine one_two b _ _ _ (by omega) (by omega) _ (by omega) (fun e => bad (by omega)) (fun e _ => ?_)
    refine one_step b _ _ _ 1 (by omega) (by omega) (by omega) (by omega) (by omega) _ (fun g => ?_) (fun g => bad (by rw [hx1] at g; omega))
    rw [hx1] at g ⊢
    refine one_step b _ _ _ 2 (by omega) (by omega) (by omega) (by omega) (by omega) _ (fun g3 => ?_) (fun g => bad (by rw [hx2] at g; omega))
    rw [hx2] at g3 ⊢
    refine one_step b _ _ _ 3 (by omega) (by omega) (by omega) (by omega) (by omega) _ (fun g4 => ?_) (fun g => bad (by rw [hx3] at g; omega))
    rw [hx3] at g4 ⊢
    have hz : dN b = if x0 % 8 * 262144 + x1 % 64 * 4096 + x2 % 64 * 64 + x3 % 64 ≥ 65536 ∧ (x0 % 8 * 262144 + x1 % 64 * 4096 + x2 % 64 * 64 + x3 % 64 < 55296 ∨ (57344 ≤ x0 % 8 * 262144 + x1 % 64 * 4096 + x2 % 64 * 64 + x3 % 64 ∧ x0 % 8 * 262144 + x1 % 64 * 4096 + x2 % 64 * 64 + x3 % 64 ≤ 1114111)) then (x0 % 8 * 262144 + x1 % 64 * 4096 + x2 % 64 * 64 + x3 % 64, 4) else (65533, 1) := by rw [hd]; unfold Lib.decodeN; rw [if_neg k1, if_neg (by omega), if_neg (by omega), if_pos (by omega)]
    have hf : one b = fin1 (((((x0 : Int) - 240) * 64 + x1 - 128) * 64 + x2 - 128) * 64 + x3 - 128) 4 65536 := by
      by_cases h : x0 % 8 * 262144 + x1 % 64 * 4096 + x2 % 64 * 64 + x3 % 64 ≥ 65536 ∧ (x0 % 8 * 262144 + x1 % 64 * 4096 + x2 % 64 * 64 + x3 % 64 < 55296 ∨ (57344 ≤ x0 % 8 * 262144 + x1 % 64 * 4096 + x2 % 64 * 64 + x3 % 64 ∧ x0 % 8 * 262144 + x1 % 64 * 4096 + x2 % 64 * 64 + x3 % 64 ≤ 1114111))
      · rw [if_pos h] at hz
        rw [some_ _ _ hz (by omega)]
        unfold fin1
        rw [if_neg (by omega), if_neg (by omega), if_neg (by omega)]
        congr 1; omega
      · rw [if_neg h] at hz
        rw [none_ hz]
        unfold fin1
        by_cases q : ((((x0 : Int) - 240) * 64 + x1 - 128) * 64 + x2 - 128) * 64 + x3 - 128 < 65536
        · rw [if_pos q]
        · rw [if_neg q, if_neg (by omega), if_pos (by omega)]
    rw [hf]
    exact one_end _ _ _ _ _ (by omega)
  have nope : ¬ (192 ≤ x0 ∧ x0 < 248) → one b = (0, 0) := fun e => none_ (by rw [hd]; unfold Lib.decodeN; rw [if_neg k1, if_neg (by omega), if_neg (by omega), if_neg (by omega)])
  have no4 : ¬ (192 ≤ x0 ∧ x0 < 248) → Ev (fun k => lanyardref01_One.j2 k (I b) 0 (x0 : Int) 0) (one b) := fun e =>
    one_two b _ _ _ (by omega) (by omega) _ (fun _ => nope e) (fun _ => nope e) (fun _ h => absurd h (by omega))
  have j1f : ¬ (192 ≤ x0 ∧ x0 < 240) → Ev (fun k => lanyardref01_One.j1 k (I b) 0 (x0 : Int) 0 false) (one b) := by
    intro e
    refine Ev.step (fun k => by rw [lanyardref01_One.j1]) (Ev.ifF (by simp) ?_)
    by_cases h2 : (x0 : Int) ≥ 240
    · refine Ev.ifT h2 ?_
      by_cases h3 : (x0 : Int) < 248
      · exact Ev.ifT h3 (four (by omega) (by omega))
      · exact Ev.ifF h3 (no4 (by omega))
    · exact Ev.ifF h2 (no4 (by omega))
  have j0f : ¬ (192 ≤ x0 ∧ x0 < 224) → Ev (fun k => lanyardref01_One.j0 k (I b) 0 (x0 : Int) 0 false) (one b) := by
    intro e
    refine Ev.step (fun k => by rw [lanyardref01_One.j0]) (Ev.ifF (by simp) ?_)
    by_cases h2 : (x0 : Int) ≥ 224
    · refine Ev.ifT h2 ?_
      by_cases h3 : (x0 : Int) < 240
      · rw [decide_eq_true h3]
        exact Ev.step (fun k => by rw [lanyardref01_One.j1]) (Ev.ifT rfl (three (by omega) (by omega)))
      · rw [decide_eq_false h3]; exact j1f (by omega)
    · exact Ev.ifF h2 (j1f (by omega))
  by_cases h2 : (x0 : Int) ≥ 192
  · refine Ev.ifT h2 ?_
    by_cases h3 : (x0 : Int) < 224
    · rw [decide_eq_true h3]
      exact Ev.step (fun k => by rw [lanyardref01_One.j0]) (Ev.ifT rfl (two (by omega) (by omega)))
    · rw [decide_eq_false h3]; exact j0f (by omega)
  · exact Ev.ifF h2 (j0f (by omega))
end Go.Proofs.YthakidcnlkbbgaaDoor.Esc
