/- base64 back: the program's reading and the document's are one plain answer. -/
import Derived.Test.YtfphmpnkfjeceaaDoorWda
import Derived.Test.YtfphmpnkfjeceaaDoorEnc
import Derived.Test.YtfphmpnkfjeceaaDoorUnh
import Derived.Lib.MapLaws
import Derived.Lib.TrimAscii
import Derived.Test.YtfphmpnkfjeceaaDoorHp1
import Derived.Test.YtfphmpnkfjeceaaDoorHp2
import Derived.Test.YtfphmpnkfjeceaaDoorHp3
namespace Go.Proofs.YtfphmpnkfjeceaaDoor.Esc
open Go.RowKit Go.Proofs.YtfphmpnkfjeceaaDoor.Hp Go.Proofs.YtfphmpnkfjeceaaDoorW.PrintWords Go.Proofs.YtfphmpnkfjeceaaDoorW.PrintLast
/-- A sign's number; -1: it is none. -/
def sv (c : UInt8) : Int := Lib.indexByte signs64.data.toList c
theorem sv_f (c : UInt8) : strings_IndexByte.f signs64 (c.toNat : Int) = some (sv c) := by
  unfold strings_IndexByte.f
  rw [show ((c.toNat : Int)).toNat.toUInt8 = c by simp]; rfl
theorem sv_lt (c : UInt8) : -1 ≤ sv c ∧ sv c < 64 := all_bytes (p := fun c => -1 ≤ sv c ∧ sv c < 64) (by decide +kernel) c
theorem six_ev (c : UInt8) : Ev (fun k => lanyardref02_six.f k (c.toNat : Int)) (sv c) :=
  Ev.of (fun k => lanyardref02_six.mono _ k) (k := 70) (all_bytes (p := fun c => lanyardref02_six.f 70 (c.toNat : Int) = some (sv c)) (by decide +kernel) c)
def good (c : UInt8) : Bool := c == 61 || decide (0 ≤ sv c)
def sp (l : List UInt8) : List UInt8 := l.filter fun c => !blk c
/-- The numbers of the signs ahead of the first '='. -/
def vals : List UInt8 → List Nat
  | [] => []
  | c :: t => if c = 61 then [] else (sv c).toNat :: vals t
theorem vals_len : ∀ l : List UInt8, (vals l).length ≤ l.length
  | [] => Nat.le_refl _
  | c :: t => by
    have := vals_len t
    rw [vals]
    split <;> simp <;> omega
def by0 (a b : Nat) : UInt8 := UInt8.ofNat (a * 4 + b / 16)
def by1 (b c : Nat) : UInt8 := UInt8.ofNat (b % 16 * 16 + c / 4)
def by2 (c d : Nat) : UInt8 := UInt8.ofNat (c % 4 * 64 + d)
/-- Three bytes of four numbers. -/
def d4 : List Nat → List UInt8
  | a :: b :: c :: d :: t => by0 a b :: by1 b c :: by2 c d :: d4 t
  | [a, b, c] => [by0 a b, by1 b c]
  | [a, b] => [by0 a b]
  | _ => []
theorem d4_len : ∀ l : List Nat, (d4 l).length ≤ l.length
  | a :: b :: c :: d :: t => by have := d4_len t; rw [d4]; simp; omega
  | [a, b, c] => by simp [d4]
  | [a, b] => by simp [d4]
  | [a] => by simp [d4]
  | [] => by simp [d4]
def fin (t A : List UInt8) : List Int × Int := if e3 A = t then (I A, 0) else ([], 10)
/-- What is read of a text. -/
def decd (l : List UInt8) : List Int × Int := if (sp l).all good = true then fin (sp l) (d4 (vals (sp l))) else ([], 13)
theorem by0_nat {a b : Nat} (ha : a < 64) (hb : b < 64) : (by0 a b).toNat = a * 4 + b / 16 := by rw [by0, UInt8.toNat_ofNat_of_lt' (by show _ < 256; omega)]
theorem by1_nat {b c : Nat} (hc : c < 64) : (by1 b c).toNat = b % 16 * 16 + c / 4 := by rw [by1, UInt8.toNat_ofNat_of_lt' (by show _ < 256; omega)]
theorem by2_nat {c d : Nat} (hd : d < 64) : (by2 c d).toNat = c % 4 * 64 + d := by rw [by2, UInt8.toNat_ofNat_of_lt' (by show _ < 256; omega)]
/-! ### the program -/
theorem reg (x v : Int) (h0 : 0 ≤ x) (h1 : x < 4096) (k0 : 0 ≤ v) (k1 : v < 64) : Go.bits .or .i64 (Go.bits .and .i64 (wrap64 (x * 64)) 4095) v = x % 64 * 64 + v := by
  have e : Go.bits .and .i64 (wrap64 (x * 64)) 4095 = x % 64 * 64 := by
    rw [show wrap64 (x * 64) = x * 64 by unfold wrap64; omega, show (4095 : Int) = 2 ^ 12 - 1 from rfl, bits_mask .i64 32 (by decide) (fun n h0 h1 => by rw [IntKind.wrap_i64]; omega) 12 (by decide) (x * 64) (by omega) (by omega)]
    omega
  rw [e]
  exact bits_join .i64 32 (by decide) (fun n h0 h1 => by rw [IntKind.wrap_i64]; omega) 6 _ _ (by omega) (by omega) (by omega) k0 (by omega) (by omega)
theorem fin_ev (s : ByteArray) (A : List UInt8) (hA : A.length ≤ 4000) : (base_Encode.f (I A)).bind (fun t => if t.toList = s.toList then some (I A, 0) else some (([] : List Int), 10)) = some (fin s.data.toList A) := by
  rw [enc_f A (by omega)]
  show (if (bs (e3 A)).toList = s.toList then _ else _) = _
  rw [bs_toList, data_toList, fin]
  by_cases h : e3 A = s.data.toList
  · rw [if_pos h, if_pos h]
  · rw [if_neg h, if_neg h]
theorem p_end (s : ByteArray) (A : List UInt8) (hA : A.length ≤ 4000) (x h : Int) (i : Nat) (hi : s.size ≤ i ∨ (i < s.size ∧ bt s i = 61)) : Ev (fun k => base_Decode.l0 k s (I A) x h (s.size : Int) (i : Int)) (fin s.data.toList A) := by
  have e := fin_ev s A hA
  rcases hi with hi | ⟨hi, hb⟩
  · refine Ev.step (fun k => by rw [base_Decode.l0]) (Ev.ifF (by omega) ?_)
    exact Ev.congr (fun _ => e) (Ev.now _)
  · refine Ev.step (fun k => by rw [base_Decode.l0]) (Ev.ifT (by omega) (Ev.ifT (by omega) (Ev.ifT (by omega) (Ev.ifT hb ?_))))
    exact Ev.congr (fun _ => e) (Ev.now _)
theorem p_step (s : ByteArray) (hs : s.size ≤ 4000) (A : List Int) (x h : Int) (i : Nat) (c : UInt8) (r : List Int × Int) (hi : i < s.size) (hb : bt s i = (c.toNat : Int)) (hc : c ≠ 61) (h0 : 0 ≤ x) (h1 : x < 4096) (hg : 0 ≤ sv c) (hh0 : 0 ≤ h) (hh1 : h ≤ 6) (hA : A.length ≤ 4000)
    (k : Ev (fun k => if h + 6 ≥ 8 then base_Decode.l0 k s (A ++ [(x % 64 * 64 + sv c) / 2 ^ (h - 2).toNat % 256]) (x % 64 * 64 + sv c) (h - 2) (s.size : Int) ((i + 1 : Nat) : Int) else base_Decode.l0 k s A (x % 64 * 64 + sv c) (h + 6) (s.size : Int) ((i + 1 : Nat) : Int)) r) : Ev (fun k => base_Decode.l0 k s A x h (s.size : Int) (i : Int)) r := by
  have hv := sv_lt c
  have hc' : ¬ bt s i = 61 := by
    rw [hb]; intro e
    exact hc (UInt8.toNat_inj.1 (by rw [show (61 : UInt8).toNat = 61 from rfl]; omega))
  refine Ev.step (fun k => by rw [base_Decode.l0]) (Ev.ifT (by omega) (Ev.ifT (by omega) (Ev.ifT (by omega) (Ev.ifF hc' ?_))))
  rw [hb]
  refine Ev.bindC (sv_f c) ?_
  rw [reg x (sv c) h0 h1 hg hv.2, show wrap64 (h + 6) = h + 6 by unfold wrap64; omega, show wrap64 ((i : Int) + 1) = ((i + 1 : Nat) : Int) by unfold wrap64; omega]
  by_cases h8 : h + 6 ≥ 8
  · rw [show wrap64 (h + 6 - 8) = h - 2 by unfold wrap64; omega]
    refine Ev.ifT h8 (Ev.ifT (by omega) (Ev.ifT (by omega) ?_))
    have e : shr .i64 (x % 64 * 64 + sv c) (h - 2) = (x % 64 * 64 + sv c) / 2 ^ (h - 2).toNat := (shr_small rfl (by show h - 2 ≤ 64; omega)).symm
    rw [e]
    exact Ev.congr (fun _ => (if_pos h8).symm) k
  · exact Ev.ifF h8 (Ev.congr (fun _ => (if_neg h8).symm) k)
theorem vals_step (s : ByteArray) (hg : s.data.toList.all good = true) (i v : Nat) (vs : List Nat) (h : vals (s.data.toList.drop i) = v :: vs) : i < s.size ∧ ∃ c, bt s i = (c.toNat : Int) ∧ c ≠ 61 ∧ sv c = v ∧ v < 64 ∧ vals (s.data.toList.drop (i + 1)) = vs := by
  have hi : i < s.size := by
    by_cases hi : i < s.size
    · exact hi
    · rw [drop_end s i (by omega)] at h; cases h
  have hm := List.all_eq_true.1 hg _ (getD_mem s.data.toList i (by rw [len_data]; exact hi))
  have hb := bt_nat s i hi
  rw [drop_cons s i hi] at h
  generalize s.data.toList.getD i 0 = c at h hb hm
  rw [vals] at h
  by_cases hc : c = 61
  · rw [if_pos hc] at h; cases h
  · rw [if_neg hc] at h
    injection h with h1 h2
    have h3 : 0 ≤ sv c := by simpa [good, hc] using hm
    have h4 := sv_lt c
    exact ⟨hi, c, hb, hc, by omega, by omega, h2⟩
theorem vals_end (s : ByteArray) (i : Nat) (h : vals (s.data.toList.drop i) = []) : s.size ≤ i ∨ (i < s.size ∧ bt s i = 61) := by
  by_cases hi : i < s.size
  · refine .inr ⟨hi, ?_⟩
    have hb := bt_nat s i hi
    rw [drop_cons s i hi] at h
    generalize s.data.toList.getD i 0 = c at h hb
    rw [vals] at h
    by_cases hc : c = 61
    · subst hc; rw [hb]; rfl
    · rw [if_neg hc] at h; cases h
  · exact .inl (by omega)
theorem I_snoc (A : List UInt8) (b : UInt8) (y : Int) (h : y = (b.toNat : Int)) : I A ++ [y] = I (A ++ [b]) := by rw [I_app, h]; rfl
theorem p_step0 (s : ByteArray) (hs : s.size ≤ 4000) (A : List Int) (x : Int) (i : Nat) (c : UInt8) (r : List Int × Int) (hi : i < s.size) (hb : bt s i = (c.toNat : Int)) (hc : c ≠ 61) (h0 : 0 ≤ x) (h1 : x < 4096) (hg : 0 ≤ sv c) (hA : A.length ≤ 4000)
    (k : Ev (fun k => base_Decode.l0 k s A (x % 64 * 64 + sv c) 6 (s.size : Int) ((i + 1 : Nat) : Int)) r) : Ev (fun k => base_Decode.l0 k s A x 0 (s.size : Int) (i : Int)) r :=
  p_step s hs A x 0 i c r hi hb hc h0 h1 hg (by decide) (by decide) hA (Ev.ifF (by decide) k)
theorem p_step6 (s : ByteArray) (hs : s.size ≤ 4000) (A : List Int) (x : Int) (i : Nat) (c : UInt8) (r : List Int × Int) (hi : i < s.size) (hb : bt s i = (c.toNat : Int)) (hc : c ≠ 61) (h0 : 0 ≤ x) (h1 : x < 4096) (hg : 0 ≤ sv c) (hA : A.length ≤ 4000)
    (k : Ev (fun k => base_Decode.l0 k s (A ++ [(x % 64 * 64 + sv c) / 16 % 256]) (x % 64 * 64 + sv c) 4 (s.size : Int) ((i + 1 : Nat) : Int)) r) : Ev (fun k => base_Decode.l0 k s A x 6 (s.size : Int) (i : Int)) r :=
  p_step s hs A x 6 i c r hi hb hc h0 h1 hg (by decide) (by decide) hA (Ev.ifT (by decide) k)
theorem p_step4 (s : ByteArray) (hs : s.size ≤ 4000) (A : List Int) (x : Int) (i : Nat) (c : UInt8) (r : List Int × Int) (hi : i < s.size) (hb : bt s i = (c.toNat : Int)) (hc : c ≠ 61) (h0 : 0 ≤ x) (h1 : x < 4096) (hg : 0 ≤ sv c) (hA : A.length ≤ 4000)
    (k : Ev (fun k => base_Decode.l0 k s (A ++ [(x % 64 * 64 + sv c) / 4 % 256]) (x % 64 * 64 + sv c) 2 (s.size : Int) ((i + 1 : Nat) : Int)) r) : Ev (fun k => base_Decode.l0 k s A x 4 (s.size : Int) (i : Int)) r :=
  p_step s hs A x 4 i c r hi hb hc h0 h1 hg (by decide) (by decide) hA (Ev.ifT (by decide) k)
theorem p_step2 (s : ByteArray) (hs : s.size ≤ 4000) (A : List Int) (x : Int) (i : Nat) (c : UInt8) (r : List Int × Int) (hi : i < s.size) (hb : bt s i = (c.toNat : Int)) (hc : c ≠ 61) (h0 : 0 ≤ x) (h1 : x < 4096) (hg : 0 ≤ sv c) (hA : A.length ≤ 4000)
    (k : Ev (fun k => base_Decode.l0 k s (A ++ [(x % 64 * 64 + sv c) / 1 % 256]) (x % 64 * 64 + sv c) 0 (s.size : Int) ((i + 1 : Nat) : Int)) r) : Ev (fun k => base_Decode.l0 k s A x 2 (s.size : Int) (i : Int)) r :=
  p_step s hs A x 2 i c r hi hb hc h0 h1 hg (by decide) (by decide) hA (Ev.ifT (by decide) k)
theorem p_loop (s : ByteArray) (hs : s.size ≤ 4000) (hg : s.data.toList.all good = true) : ∀ (m i : Nat) (A : List UInt8) (x : Int) (vs : List Nat), vs.length ≤ m → vals (s.data.toList.drop i) = vs → 0 ≤ x → x < 4096 → A.length ≤ i → i ≤ 4000 →
    Ev (fun k => base_Decode.l0 k s (I A) x 0 (s.size : Int) (i : Int)) (fin s.data.toList (A ++ d4 vs)) := by
  intro m
  induction m with
  | zero =>
    intro i A x vs hm hv h0 h1 hA hi
    obtain rfl : vs = [] := List.length_eq_zero_iff.1 (by omega)
    rw [show d4 [] = [] from rfl, List.append_nil]
    exact p_end s A (by omega) x 0 i (vals_end s i hv)
  | succ m ih =>
    intro i A x vs hm hv h0 h1 hA hi
    rcases vs with _ | ⟨a, vs⟩
    · rw [show d4 [] = [] from rfl, List.append_nil]
      exact p_end s A (by omega) x 0 i (vals_end s i hv)
    obtain ⟨i1, c, hb, hc, ha, ha2, hv⟩ := vals_step s hg i a vs hv
    refine p_step0 s hs (I A) x i c _ i1 hb hc h0 h1 (by omega) (by rw [I_len]; omega) ?_
    rw [ha]
    obtain ⟨x1, hx1⟩ : ∃ x1, x1 = x % 64 * 64 + (a : Int) := ⟨_, rfl⟩
    rw [← hx1]
    rcases vs with _ | ⟨b, vs⟩
    · rw [show d4 [a] = [] from rfl, List.append_nil]
      exact p_end s A (by omega) _ _ _ (vals_end s _ hv)
    obtain ⟨i2, c, hb, hc, hb1, hb2, hv⟩ := vals_step s hg _ b vs hv
    refine p_step6 s hs (I A) x1 _ c _ i2 hb hc (by omega) (by omega) (by omega) (by rw [I_len]; omega) ?_
    rw [hb1]
    obtain ⟨x2, hx2⟩ : ∃ x2, x2 = x1 % 64 * 64 + (b : Int) := ⟨_, rfl⟩
    rw [← hx2, I_snoc A (by0 a b) _ (by rw [by0_nat ha2 hb2]; omega)]
    rcases vs with _ | ⟨d, vs⟩
    · exact p_end s (A ++ [by0 a b]) (by simp; omega) _ _ _ (vals_end s _ hv)
    obtain ⟨i3, c, hb, hc, hd1, hd2, hv⟩ := vals_step s hg _ d vs hv
    refine p_step4 s hs (I (A ++ [by0 a b])) x2 _ c _ i3 hb hc (by omega) (by omega) (by omega) (by rw [I_len]; simp; omega) ?_
    rw [hd1]
    obtain ⟨x3, hx3⟩ : ∃ x3, x3 = x2 % 64 * 64 + (d : Int) := ⟨_, rfl⟩
    rw [← hx3, I_snoc (A ++ [by0 a b]) (by1 b d) _ (by rw [by1_nat hd2]; omega)]
    rcases vs with _ | ⟨e, vs⟩
    · have := p_end s (A ++ [by0 a b] ++ [by1 b d]) (by simp; omega) x3 2 _ (vals_end s _ hv)
      rw [List.append_assoc] at this ⊢
      exact this
    obtain ⟨i4, c, hb, hc, he1, he2, hv⟩ := vals_step s hg _ e vs hv
    refine p_step2 s hs (I (A ++ [by0 a b] ++ [by1 b d])) x3 _ c _ i4 hb hc (by omega) (by omega) (by omega) (by rw [I_len]; simp; omega) ?_
    rw [he1, I_snoc (A ++ [by0 a b] ++ [by1 b d]) (by2 d e) _ (by rw [by2_nat he2]; omega)]
    have := ih (i + 1 + 1 + 1 + 1) (A ++ [by0 a b] ++ [by1 b d] ++ [by2 d e]) (x3 % 64 * 64 + (e : Int)) vs (by simp at hm; omega) hv (by omega) (by omega) (by simp; omega) (by omega)
    rw [d4]
    simp only [List.append_assoc, List.cons_append, List.nil_append] at this ⊢
    exact this
/-! ### the text without its blanks -/
theorem joinTail_nil : ∀ l : List (List UInt8), Lib.joinTail [] l = l.flatten
  | [] => rfl
  | a :: r => by
    have := joinTail_nil r
    simp [Lib.joinTail] at this ⊢
theorem join_flat (l : List (List UInt8)) : Lib.join l [] = l.flatten := by
  cases l with
  | nil => rfl
  | cons a r => rw [Lib.join_cons, joinTail_nil]; rfl
theorem flatten_full : ∀ l : List (List UInt8), (l.filter full).flatten = l.flatten
  | [] => rfl
  | [] :: r => by rw [List.filter_cons_of_neg (by simp [full]), flatten_full r]; rfl
  | (a :: x) :: r => by rw [List.filter_cons_of_pos rfl, List.flatten_cons, List.flatten_cons, flatten_full r]
theorem flatten_spl (c : UInt8) : ∀ l : List UInt8, (spl c l).flatten = l.filter (fun x => decide (x ≠ c))
  | [] => rfl
  | x :: l => by
    have ih := flatten_spl c l
    rw [spl]
    by_cases h : x = c
    · rw [if_pos h, List.filter_cons_of_neg (by simp [h])]; exact ih
    · rw [if_neg h, List.filter_cons_of_pos (by simp [h])]
      have hn := spl_ne c l
      split
      · rename_i p ps he
        rw [he] at ih
        rw [List.flatten_cons, List.cons_append, ← ih]; rfl
      · rename_i he; exact absurd he hn
theorem wds_flat (l : List UInt8) : Lib.join (wds l) [] = sp l := by
  rw [join_flat, wds, flatten_full, flatten_spl, sp]
  induction l with
  | nil => rfl
  | cons c l ih =>
    rw [List.map_cons]
    by_cases h : blk c = true
    · rw [List.filter_cons_of_neg (by simp [(flat_no c).2 h]), List.filter_cons_of_neg (by simp [h])]; exact ih
    · have hf : flat1 c = c := by unfold flat1; rw [if_neg h]
      have h32 : c ≠ 32 := by intro e; subst e; exact h rfl
      rw [hf, List.filter_cons_of_pos (by simpa using h32), List.filter_cons_of_pos (by simpa using h), ih]
/-! ### foreign bytes -/
theorem good_low (c : UInt8) (h : c.toNat < 128) : fgn (c.toNat : Int) = if good c then -1 else (c.toNat : Int) := by
  have := all_bytes (p := fun c => c.toNat < 128 → fgn (c.toNat : Int) = if good c then -1 else (c.toNat : Int)) (by decide +kernel) c
  exact this h
theorem good_high (c : UInt8) (h : 128 ≤ c.toNat) : good c = false :=
  all_bytes (p := fun c => 128 ≤ c.toNat → good c = false) (by decide +kernel) c h
theorem decode_high (c : UInt8) (t : List UInt8) (h : 128 ≤ c.toNat) : 128 ≤ (Lib.decodeL (c :: t)).1 := by
  rw [Lib.decodeL_N]
  show 128 ≤ (Lib.decodeN _ c.toNat _ _ _).1
  unfold Lib.decodeN
  rw [if_neg (by omega)]
  split
  · split
    · assumption
    · decide
  · split
    · split
      · rename_i h1; show 128 ≤ _; omega
      · decide
    · split
      · split
        · rename_i h1; show 128 ≤ _; omega
        · decide
      · decide
theorem encode_ne (r : Int) : Lib.encodeRune r ≠ [] := by
  unfold Lib.encodeRune Lib.encodeRuneZ
  intro h
  have := List.map_eq_nil_iff.1 h
  revert this
  split
  · simp
  · split
    · simp
    · split
      · simp
      · split <;> simp
theorem map_good : ∀ (m : Nat) (l : List UInt8), l.length ≤ m → (Lib.mapD fgn l = [] ↔ l.all good = true)
  | 0, l, h => by
    obtain rfl : l = [] := List.length_eq_zero_iff.1 (by omega)
    simp [Lib.mapD_nil]
  | m + 1, [], h => by simp [Lib.mapD_nil]
  | m + 1, c :: t, h => by
    rw [Lib.mapD_step fgn (c :: t) (by simp)]
    by_cases hc : c.toNat < 128
    · rw [Lib.decodeL_ascii c t hc]
      show (if 0 ≤ fgn (c.toNat : Int) then Lib.encodeRune (fgn (c.toNat : Int)) else []) ++ Lib.mapD fgn t = [] ↔ _
      rw [good_low c hc, List.all_cons]
      have ih := map_good m t (by simpa using h)
      cases hg : good c with
      | true => rw [if_pos rfl, if_neg (by decide), List.nil_append, ih]; simp
      | false =>
        rw [show (if false = true then (-1 : Int) else (c.toNat : Int)) = (c.toNat : Int) from rfl, if_pos (by omega)]
        constructor
        · intro e; exact absurd (List.append_eq_nil_iff.1 e).1 (encode_ne _)
        · intro e; simp at e
    · have h1 := decode_high c t (by omega)
      have h2 : fgn ((Lib.decodeL (c :: t)).1 : Int) = ((Lib.decodeL (c :: t)).1 : Int) := by
        unfold fgn base_foreign.f
        rw [if_neg (by omega)]; rfl
      rw [h2, if_pos (by omega), List.all_cons, good_high c (by omega)]
      constructor
      · intro e; exact absurd (List.append_eq_nil_iff.1 e).1 (encode_ne _)
      · intro e; simp at e
theorem sp_len (l : List UInt8) : (sp l).length ≤ l.length := List.length_filter_le _ _
theorem decode_ev (s : ByteArray) (hs : s.size ≤ 9000) (hl4 : (sp s.data.toList).length ≤ 4000) : Ev (fun k => base_Decode.f k s) (decd s.data.toList) := by
  have hL : s.data.toList.length = s.size := len_data s
  have hl := sp_len s.data.toList
  have hn := wds_count s.data.toList
  have e : ((wds s.data.toList).map bs).map (·.data.toList) = wds s.data.toList := by
    rw [List.map_map]
    exact (List.map_congr_left (fun x _ => rfl)).trans (List.map_id _)
  unfold base_Decode.f
  refine Ev.bind (words_ev s (by omega)) (Ev.bindC (a := bs (sp s.data.toList)) ?_ ?_)
  · unfold strings_Join.f
    rw [e, List.length_map, show ((⟨#[]⟩ : ByteArray).data.toList) = [] from rfl, wds_flat, if_pos ⟨by omega, by omega⟩]
    rfl
  refine Ev.bindC (a := bs (Lib.mapD fgn (sp s.data.toList))) ?_ ?_
  · unfold strings_Map.f
    rw [bs_size, if_pos (by omega)]
    rfl
  rw [bs_toList]
  have hm := map_good _ (sp s.data.toList) (Nat.le_refl _)
  unfold decd
  by_cases hg : (sp s.data.toList).all good = true
  · rw [if_pos hg]
    refine Ev.ifT (hm.2 hg) ?_
    have := p_loop (bs (sp s.data.toList)) (by rw [bs_size]; omega) hg _ 0 [] 0 (vals (sp s.data.toList)) (Nat.le_refl _) (by rw [List.drop_zero, bs_data]) (by decide) (by decide) (by simp) (by omega)
    exact this
  · rw [if_neg hg]
    exact Ev.ifF (fun h => hg (hm.1 h)) (Ev.now _)
end Go.Proofs.YtfphmpnkfjeceaaDoor.Esc
