/- Plain lemmas on the printed functions of layer 8: pieces' bytes. No program and no memory here. -/
import Derived.Test.YtdogiefacgknmaaHp3
import Derived.Test.YtdogiefacgknmaaHp2
import Derived.Test.YtdogiefacgknmaaHp1
import Derived.Laws.BitsLemmas
import Derived.Lib.Bytes
namespace Go.Proofs.Ytdogiefacgknmaa.Pure
open Go.RowKit Go.Proofs.Ytdogiefacgknmaa.Hp Go.Proofs.YtdogiefacgknmaaW.PrintWords Go.Proofs.YtdogiefacgknmaaW.PrintLast

theorem Ev.ifT {α : Type} {c : Prop} [Decidable c] {f g : Nat → Option α} {r : α} (h : c) (k : Ev f r) : Ev (fun n => if c then f n else g n) r := Ev.congr (fun _ => if_pos h) k
theorem Ev.ifF {α : Type} {c : Prop} [Decidable c] {f g : Nat → Option α} {r : α} (h : ¬ c) (k : Ev g r) : Ev (fun n => if c then f n else g n) r := Ev.congr (fun _ => if_neg h) k
theorem Ev.bindC {α β : Type} {o : Option α} {a : α} {f : Nat → α → Option β} {r : β} (h : o = some a) (k : Ev (fun n => f n a) r) : Ev (fun n => o.bind (f n)) r := Ev.congr (fun _ => by rw [h]; rfl) k
theorem w64 {x : Int} (h0 : -9223372036854775808 ≤ x) (h1 : x < 9223372036854775808) : wrap64 x = x := by unfold wrap64; omega

/-- All of these are bytes. -/
def B8 (l : List Int) : Prop := ∀ x ∈ l, 0 ≤ x ∧ x < 256
theorem B8.nil : B8 [] := fun _ h => by cases h
theorem B8.app {a b : List Int} (h : B8 a) (k : B8 b) : B8 (a ++ b) := fun x hx => (List.mem_append.1 hx).elim (h x) (k x)
theorem B8.take {a : List Int} (h : B8 a) (n : Nat) : B8 (a.take n) := fun x hx => h x (List.mem_of_mem_take hx)
theorem B8.drop {a : List Int} (h : B8 a) (n : Nat) : B8 (a.drop n) := fun x hx => h x (List.mem_of_mem_drop hx)
theorem B8.of_wf {l : List Int} (h : ∀ x ∈ l, (Lit.int .u8 x).wf = true) : B8 l := fun x hx => by
  have := h x hx
  simp [Lit.wf, IntKind.min, IntKind.max, IntKind.bits, IntKind.signed] at this
  omega
theorem rd_get (l : List Int) (i : Nat) (h : i < l.length) : rd l (i : Int) = l[i] := by simp [rd, h]
theorem rd_B8 {l : List Int} (h : B8 l) (i : Int) (h0 : 0 ≤ i) (h1 : i < l.length) : 0 ≤ rd l i ∧ rd l i < 256 := by
  obtain ⟨j, rfl⟩ : ∃ j : Nat, i = j := ⟨i.toNat, by omega⟩
  rw [rd_get l j (by omega)]
  exact h _ (List.getElem_mem _)
/-- Texts of bytes are the same just if the bytes are. -/
theorem bytesOf_inj {a b : List Int} (ha : B8 a) (hb : B8 b) (h : Lib.bytesOf a = Lib.bytesOf b) : a = b := by
  have key : ∀ a : List Int, B8 a → (Lib.bytesOf a).map (fun c => (c.toNat : Int)) = a := by
    intro a ha
    unfold Lib.bytesOf
    rw [List.map_map]
    conv => rhs; rw [← List.map_id a]
    apply List.map_congr_left
    intro x hx
    obtain ⟨h0, h1⟩ := ha x hx
    simp only [Function.comp, id]
    rw [UInt8.toNat_ofNat']
    omega
  rw [← key a ha, ← key b hb, h]
theorem str_inj {a b : List Int} (ha : B8 a) (hb : B8 b) : (strOfNums a).toList = (strOfNums b).toList ↔ a = b := by
  rw [Lib.strOfNums_toList, Lib.strOfNums_toList]
  exact ⟨bytesOf_inj ha hb, fun h => by rw [h]⟩

/-! ### heads -/
def hd (a n : Int) : List Int := if n < 128 then [a, n % 256] else if n < 256 then [a, 129, n % 256] else if n < 65536 then [a, 130, (n / 256) % 256, n % 256] else [a, 131, (n / 65536) % 256, (n / 256) % 256, n % 256]
theorem head_eq (a n : Int) : der_head.f a n = some (hd a n) := by
  unfold der_head.f hd
  repeat' (first | rfl | split)
def nn (a : Int) : Bool := Go.bits .and .u8 a 31 == 31
theorem none_eq (a : Int) : der_none.f a = some (nn a) := rfl
theorem hd_len (a n : Int) : 2 ≤ (hd a n).length ∧ (hd a n).length ≤ 5 := by
  unfold hd
  repeat' (first | (constructor <;> simp; done) | split)
theorem hd_B8 {a n : Int} (h0 : 0 ≤ a) (h1 : a < 256) : B8 (hd a n) := by
  unfold hd
  repeat' (first | (intro x hx; simp at hx; omega) | split)

/-! ### Put -/
def bad (p : S26) : Bool := nn p.f0 || decide ((p.f1.length : Int) ≥ 1048576)
def enc (p : S26) : List Int := hd p.f0 p.f1.length ++ p.f1
def putR : List Int → List S26 → List Int × Int
  | acc, [] => (acc, 0)
  | acc, p :: ps => if bad p then ([], 2) else putR (acc ++ enc p) ps
def size : List S26 → Nat
  | [] => 0
  | p :: ps => p.f1.length + 5 + size ps
theorem rdT_at (pre suf : List S26) (p : S26) : rd_T26 (pre ++ p :: suf) (pre.length : Int) = p := by simp [rd_T26]
theorem put_loop : ∀ (suf pre : List S26) (acc : List Int), acc.length + size suf < 140737488355328 → (pre ++ suf).length < 1099511627776 →
    Ev (fun k => der_Put.l0 k acc (pre ++ suf) ((pre ++ suf).length : Int) (pre.length : Int)) (putR acc suf) := by
  intro suf
  induction suf with
  | nil =>
    intro pre acc _ _
    refine Ev.step (fun k => by rw [der_Put.l0]) ?_
    refine Ev.ifF (by simp) ?_
    exact Ev.now _
  | cons p ps ih =>
    intro pre acc h1 h2
    refine Ev.step (fun k => by rw [der_Put.l0]) ?_
    simp only [rdT_at]
    have hl : (pre.length : Int) < ((pre ++ p :: ps).length : Int) := by simp; omega
    refine Ev.ifT hl (Ev.ifT (by omega) (Ev.ifT hl ?_))
    refine Ev.bindC (none_eq _) ?_
    unfold putR bad
    cases hb : nn p.f0 with
    | true => exact Ev.ifT rfl (Ev.now _)
    | false =>
      refine Ev.ifF (by simp) ?_
      by_cases hc : (p.f1.length : Int) ≥ 1048576
      · simp only [hc, decide_true, Bool.or_true, if_true]
        exact Ev.now _
      · simp only [hc, decide_false, Bool.or_false, if_false]
        refine Ev.bindC (head_eq _ _) ?_
        have hh := hd_len p.f0 p.f1.length
        unfold size at h1
        refine Ev.ifT (by omega) ?_
        simp only [Option.bind_some]
        refine Ev.ifT (by simp; omega) ?_
        have e : wrap64 ((pre.length : Int) + 1) = ((pre ++ [p]).length : Int) := by rw [w64 (by omega) (by simp at h2; omega)]; simp
        have := ih (pre ++ [p]) (acc ++ hd p.f0 p.f1.length ++ p.f1) (by simp; omega) (by simpa using h2)
        rw [e]
        rw [List.append_assoc] at this
        simp only [List.append_assoc, List.cons_append, List.nil_append, enc, Bool.false_eq_true, if_false] at this ⊢
        exact this
theorem put_ev (ps : List S26) (h : size ps < 140737488355328) (h2 : ps.length < 1099511627776) : Ev (fun k => der_Put.f k ps) (putR [] ps) := by
  have := put_loop ps [] [] (by simpa using h) (by simpa using h2)
  simpa [der_Put.f] using this
def flat (ps : List S26) : List Int := ps.flatMap enc
theorem putR_good : ∀ (ps : List S26) (acc : List Int), (∀ p ∈ ps, bad p = false) → putR acc ps = (acc ++ flat ps, 0) := by
  intro ps
  induction ps with
  | nil => intro acc _; simp [putR, flat]
  | cons p ps ih =>
    intro acc h
    unfold putR
    rw [h p (List.mem_cons_self ..), if_neg (by simp), ih _ (fun q hq => h q (List.mem_cons_of_mem _ hq))]
    simp [flat]

/-! ### Take -/
def fz : Int → List Int → Int
  | n, [] => n
  | n, x :: xs => fz (n * 256 + x) xs
def fin (l : List Int) (n a : Int) : Int × List Int × Int × Int :=
  if n ≥ 1048576 then (0, [], 0, 12) else if (l.length : Int) - a < n then (0, [], 0, 11) else (rd l 0, (l.take (a + n).toNat).drop a.toNat, a + n, 0)
def takeR (l : List Int) : Int × List Int × Int × Int :=
  if l.length = 0 then (0, [], 0, 11) else if nn (rd l 0) = true then (0, [], 0, 10) else if l.length = 1 then (0, [], 0, 11)
  else if rd l 1 < 128 then fin l (rd l 1) 2
  else if rd l 1 - 128 < 1 ∨ rd l 1 - 128 > 3 then (0, [], 0, 10)
  else if (l.length : Int) < 2 + (rd l 1 - 128) then (0, [], 0, 11)
  else if hd (rd l 0) (fz 0 ((l.take (2 + (rd l 1 - 128)).toNat).drop 2)) = l.take (2 + (rd l 1 - 128)).toNat then fin l (fz 0 ((l.take (2 + (rd l 1 - 128)).toNat).drop 2)) (2 + (rd l 1 - 128))
  else (0, [], 0, 10)
theorem or256 {a b : Int} (ha : 0 ≤ a) (ha1 : a < 16777216) (hb : 0 ≤ b) (hb1 : b < 256) : Go.bits .or .i64 (a * 256) b = a * 256 + b :=
  bits_join .i64 60 (by decide) (fun n h0 h1 => by rw [IntKind.wrap_i64]; omega) 8 _ _ (by omega) (by omega) (by omega) hb (by omega) (by omega)
theorem clone_eq (l : List Int) (h : l.length < 140737488355328) : bytes_Clone.f l = some l := by unfold bytes_Clone.f; rw [if_pos h]
theorem take_fin (l : List Int) (hl : l.length < 1099511627776) (n a : Int) (hn : 0 ≤ n) (ha : 0 ≤ a) (h0 : 0 < l.length) (ha1 : a ≤ l.length) :
    Ev (fun k => der_Take.j2 k l n a) (fin l n a) := by
  refine Ev.step (fun k => by rw [der_Take.j2]) ?_
  unfold fin
  by_cases h1 : n ≥ 1048576
  · rw [if_pos h1, if_pos h1]
    exact Ev.now _
  rw [if_neg h1, if_neg h1]
  rw [w64 (x := (l.length : Int) - a) (by omega) (by omega), w64 (x := a + n) (by omega) (by omega)]
  by_cases h2 : (l.length : Int) - a < n
  · rw [if_pos h2, if_pos h2]
    exact Ev.now _
  rw [if_neg h2, if_neg h2]
  refine (Ev.ifT (by omega) (Ev.ifT ha (Ev.ifT (by omega) (Ev.ifT (by omega) (Ev.bindC (clone_eq _ ?_) (Ev.now _))))))
  rw [List.length_drop, List.length_take]
  omega
theorem take_loop (l : List Int) (hB : B8 l) (hl : l.length < 1099511627776) (h0 : 0 < l.length) (a : Int) (ha : 0 ≤ a) (ha1 : a ≤ l.length) :
    ∀ (suf pre : List Int) (n : Int), B8 suf → pre.length + suf.length ≤ 3 → 0 ≤ n → n < 256 ^ pre.length →
    Ev (fun k => der_Take.l0 k l n a (pre ++ suf) ((pre ++ suf).length : Int) (pre.length : Int))
      (if hd (rd l 0) (fz n suf) = l.take a.toNat then fin l (fz n suf) a else (0, [], 0, 10)) := by
  intro suf
  induction suf with
  | nil =>
    intro pre n _ hp hn hn1
    refine Ev.step (fun k => by rw [der_Take.l0]) ?_
    refine Ev.ifF (by simp) (Ev.ifT (by omega) (Ev.bindC (head_eq _ _) (Ev.ifT ha (Ev.ifT ha1 ?_))))
    have hr := rd_B8 hB 0 (by omega) (by omega)
    have hE : bytes_Equal.f (hd (rd l 0) n) (l.take a.toNat) = some (decide (hd (rd l 0) n = l.take a.toNat)) := by
      unfold bytes_Equal.f
      congr 1
      rw [Bool.eq_iff_iff, beq_iff_eq, decide_eq_true_iff]
      exact str_inj (hd_B8 hr.1 hr.2) (hB.take _)
    refine Ev.bindC hE ?_
    unfold fz
    by_cases hq : hd (rd l 0) n = l.take a.toNat
    · rw [if_pos hq, decide_eq_true hq]
      exact Ev.ifT rfl (take_fin l hl n a hn ha h0 ha1)
    · rw [if_neg hq, decide_eq_false hq]
      exact Ev.ifF (by simp) (Ev.now _)
  | cons x xs ih =>
    intro pre n hx hp hn hn1
    have hp' : pre.length ≤ 2 := by simp at hp; omega
    have hb : n < 65536 := by
      refine Int.lt_of_lt_of_le hn1 ?_
      have : pre.length = 0 ∨ pre.length = 1 ∨ pre.length = 2 := by omega
      rcases this with h | h | h <;> rw [h] <;> decide
    obtain ⟨hx0, hx1⟩ := hx x (List.mem_cons_self ..)
    refine Ev.step (fun k => by rw [der_Take.l0]) ?_
    have hlt : (pre.length : Int) < ((pre ++ x :: xs).length : Int) := by simp; omega
    refine Ev.ifT hlt (Ev.ifT (by omega) (Ev.ifT hlt ?_))
    have er : rd (pre ++ x :: xs) (pre.length : Int) = x := by simp [rd]
    rw [er, w64 (x := n * 256) (by omega) (by omega), w64 (x := x) (by omega) (by omega), or256 hn (by omega) hx0 hx1, w64 (by omega) (by omega)]
    have := ih (pre ++ [x]) (n * 256 + x) (fun y hy => hx y (List.mem_cons_of_mem _ hy)) (by simp at hp ⊢; omega) (by omega) (by rw [List.length_append, List.length_singleton, Int.pow_succ]; omega)
    have e : ((pre ++ [x]).length : Int) = (pre.length : Int) + 1 := by simp
    rw [e, List.append_assoc] at this
    exact this
theorem take_ev (l : List Int) (hB : B8 l) (hl : l.length < 1099511627776) : Ev (fun k => der_Take.f k l) (takeR l) := by
  unfold der_Take.f takeR
  by_cases h0 : l.length = 0
  · rw [if_pos h0]
    exact Ev.ifT (by omega) (Ev.now _)
  rw [if_neg h0]
  refine Ev.ifF (by omega) (Ev.ifT (by omega) (Ev.bindC (none_eq _) ?_))
  by_cases h1 : nn (rd l 0) = true
  · rw [if_pos h1]
    exact Ev.ifT h1 (Ev.now _)
  rw [if_neg h1]
  refine Ev.ifF h1 ?_
  by_cases h2 : l.length = 1
  · rw [if_pos h2]
    exact Ev.ifT (by omega) (Ev.now _)
  rw [if_neg h2]
  refine Ev.ifF (by omega) (Ev.ifT (by omega) ?_)
  have hr := rd_B8 hB 1 (by omega) (by omega)
  rw [w64 (x := rd l 1) (by omega) (by omega), w64 (x := rd l 1 - 128) (by omega) (by omega)]
  by_cases h3 : rd l 1 < 128
  · rw [if_pos h3]
    exact Ev.ifF (by omega) (take_fin l hl _ _ (by omega) (by omega) (by omega) (by omega))
  rw [if_neg h3]
  refine Ev.ifT (by omega) ?_
  have J : Ev (fun k => der_Take.j0 k l (rd l 1 - 128) (decide (rd l 1 - 128 < 1 ∨ rd l 1 - 128 > 3))) (if rd l 1 - 128 < 1 ∨ rd l 1 - 128 > 3 then (0, [], 0, 10)
      else if (l.length : Int) < 2 + (rd l 1 - 128) then (0, [], 0, 11)
      else if hd (rd l 0) (fz 0 ((l.take (2 + (rd l 1 - 128)).toNat).drop 2)) = l.take (2 + (rd l 1 - 128)).toNat then fin l (fz 0 ((l.take (2 + (rd l 1 - 128)).toNat).drop 2)) (2 + (rd l 1 - 128))
      else (0, [], 0, 10)) := by
    refine Ev.step (fun k => by rw [der_Take.j0]) ?_
    by_cases h4 : rd l 1 - 128 < 1 ∨ rd l 1 - 128 > 3
    · rw [if_pos h4, decide_eq_true h4]
      exact Ev.ifT rfl (Ev.now _)
    rw [if_neg h4, decide_eq_false h4]
    refine Ev.ifF (by simp) ?_
    rw [w64 (x := 2 + (rd l 1 - 128)) (by omega) (by omega)]
    by_cases h5 : (l.length : Int) < 2 + (rd l 1 - 128)
    · rw [if_pos h5]
      exact Ev.ifT h5 (Ev.now _)
    rw [if_neg h5]
    refine Ev.ifF h5 (Ev.ifT (by omega) (Ev.ifT (by omega) ?_))
    have hlen : ((l.take (2 + (rd l 1 - 128)).toNat).drop 2).length ≤ 3 := by rw [List.length_drop, List.length_take]; omega
    have := take_loop l hB hl (by omega) (2 + (rd l 1 - 128)) (by omega) (by omega) ((l.take (2 + (rd l 1 - 128)).toNat).drop 2) [] 0 ((hB.take _).drop _) (by simpa using hlen) (by omega) (by simp)
    simpa using this
  by_cases h4 : rd l 1 - 128 < 1
  · rw [decide_eq_true (Or.inl h4)] at J
    exact Ev.ifT h4 J
  · refine Ev.ifF h4 ?_
    have e : decide (rd l 1 - 128 < 1 ∨ rd l 1 - 128 > 3) = decide (rd l 1 - 128 > 3) := by simp [h4]
    rw [e] at J
    exact J
/-- What is taken is put as the bytes that it was. -/
theorem takeR_one (l : List Int) (hB : B8 l) (hl : l.length < 1099511627776) :
    ((takeR l).2.2.2 = 0 ∧ bad ⟨(takeR l).1, (takeR l).2.1⟩ = false ∧ 2 ≤ (takeR l).2.2.1 ∧ (takeR l).2.2.1 ≤ l.length ∧ enc ⟨(takeR l).1, (takeR l).2.1⟩ = l.take (takeR l).2.2.1.toNat ∧ (takeR l).2.1.length ≤ l.length)
    ∨ ((takeR l).2.2.2 ≠ 0 ∧ (takeR l).2.1 = [] ∧ (takeR l).2.2.1 = 0) := by
  have F : ∀ n a : Int, 0 ≤ n → 2 ≤ a → a ≤ l.length → nn (rd l 0) ≠ true → hd (rd l 0) n = l.take a.toNat →
      ((fin l n a).2.2.2 = 0 ∧ bad ⟨(fin l n a).1, (fin l n a).2.1⟩ = false ∧ 2 ≤ (fin l n a).2.2.1 ∧ (fin l n a).2.2.1 ≤ l.length ∧ enc ⟨(fin l n a).1, (fin l n a).2.1⟩ = l.take (fin l n a).2.2.1.toNat ∧ (fin l n a).2.1.length ≤ l.length)
      ∨ ((fin l n a).2.2.2 ≠ 0 ∧ (fin l n a).2.1 = [] ∧ (fin l n a).2.2.1 = 0) := by
    intro n a hn ha ha1 hnn hh
    unfold fin
    split
    · exact .inr ⟨by simp, rfl, rfl⟩
    split
    · exact .inr ⟨by simp, rfl, rfl⟩
    rename_i g1 g2
    have hlen : ((l.take (a + n).toNat).drop a.toNat).length = n.toNat := by rw [List.length_drop, List.length_take]; omega
    refine .inl ⟨rfl, ?_, by simp; omega, by simp; omega, ?_, by simp only []; omega⟩
    · simp only [bad, hlen]
      cases hq : nn (rd l 0) with
      | true => exact absurd hq hnn
      | false => simp; omega
    · simp only [enc, hlen]
      rw [show ((n.toNat : Nat) : Int) = n by omega, hh]
      have : l.take a.toNat = (l.take (a + n).toNat).take a.toNat := by rw [List.take_take, Nat.min_eq_left (by omega)]
      rw [this, List.take_append_drop]
  unfold takeR
  repeat' (first | exact .inr ⟨by simp, rfl, rfl⟩ | split)
  · rename_i h0 h1 h2 h3
    have hr := rd_B8 hB 1 (by omega) (by omega)
    refine F _ _ (by omega) (by omega) (by omega) h1 ?_
    unfold hd
    rw [if_pos h3]
    match l, h0, h2 with
    | x :: y :: zs, _, _ =>
      simp [rd] at hr ⊢
      omega
  · rename_i h0 h1 h2 h3 h4 h5 h6
    have hlen : ((l.take (2 + (rd l 1 - 128)).toNat).drop 2).length ≤ 3 := by rw [List.length_drop, List.length_take]; omega
    refine F _ _ ?_ (by omega) (by omega) h1 h6
    have : ∀ (y : List Int) (n : Int), B8 y → 0 ≤ n → 0 ≤ fz n y := by
      intro y
      induction y with
      | nil => intro n _ h; exact h
      | cons x xs ih => intro n hy h; exact ih _ (fun z hz => hy z (List.mem_cons_of_mem _ hz)) (by have := hy x (List.mem_cons_self ..); omega)
    exact this _ _ ((hB.take _).drop _) (by omega)

/-! ### Split -/
theorem split_loop : ∀ (d : Nat) (l : List Int) (acc : List S26), l.length ≤ d → B8 l → acc.length + l.length < 1099511627776 →
    (∃ ps : List S26, Ev (fun k => der_Split.l0 k l acc) (acc ++ ps, 0) ∧ (∀ p ∈ ps, bad p = false) ∧ flat ps = l ∧ size ps ≤ 4 * l.length ∧ ps.length ≤ l.length)
    ∨ ∃ e : Int, e ≠ 0 ∧ Ev (fun k => der_Split.l0 k l acc) ([], e) := by
  intro d
  induction d with
  | zero =>
    intro l acc hl hB hs
    obtain rfl : l = [] := List.eq_nil_of_length_eq_zero (by omega)
    refine .inl ⟨[], ?_, by simp, rfl, by simp [size], by simp⟩
    refine Ev.step (fun k => by rw [der_Split.l0]) ?_
    rw [List.append_nil]
    exact Ev.ifF (by simp) (Ev.now _)
  | succ d ih =>
    intro l acc hl hB hs
    by_cases h0 : l.length = 0
    · obtain rfl : l = [] := List.eq_nil_of_length_eq_zero h0
      refine .inl ⟨[], ?_, by simp, rfl, by simp [size], by simp⟩
      refine Ev.step (fun k => by rw [der_Split.l0]) ?_
      rw [List.append_nil]
      exact Ev.ifF (by simp) (Ev.now _)
    have T := take_ev l hB (by omega)
    rcases takeR_one l hB (by omega) with ⟨g1, g2, g3, g4, g5, g6⟩ | ⟨g1, g2, g3⟩
    · have hd1 : (l.drop (takeR l).2.2.1.toNat).length < l.length := by rw [List.length_drop]; omega
      have hp := hd_len (takeR l).1 (takeR l).2.1.length
      have hlen : (hd (takeR l).1 (takeR l).2.1.length).length + (takeR l).2.1.length = (takeR l).2.2.1.toNat := by
        have := congrArg List.length g5
        simp only [enc, List.length_append, List.length_take] at this
        omega
      have step : ∀ r, Ev (fun k => der_Split.l0 k (l.drop (takeR l).2.2.1.toNat) (acc ++ [(⟨(takeR l).1, (takeR l).2.1⟩ : S26)])) r → Ev (fun k => der_Split.l0 k l acc) r := by
        intro r hr
        refine Ev.step (fun k => by rw [der_Split.l0]) ?_
        refine Ev.ifT (by omega) (Ev.bind T ?_)
        exact Ev.ifT g1 (Ev.ifT (by omega) (Ev.ifT (by omega) (Ev.ifT (by omega) hr)))
      rcases ih (l.drop (takeR l).2.2.1.toNat) (acc ++ [(⟨(takeR l).1, (takeR l).2.1⟩ : S26)]) (by omega) (hB.drop _) (by simp; omega) with ⟨ps, e1, e2, e3, e4, e5⟩ | ⟨e, he, e1⟩
      · refine .inl ⟨⟨(takeR l).1, (takeR l).2.1⟩ :: ps, ?_, ?_, ?_, ?_, ?_⟩
        · have := step _ e1
          simpa using this
        · intro p hp
          rcases List.mem_cons.1 hp with rfl | h
          · exact g2
          · exact e2 p h
        · simp only [flat, List.flatMap_cons] at e3 ⊢
          rw [e3, g5, List.take_append_drop]
        · simp only [size]
          rw [List.length_drop] at e4
          omega
        · rw [List.length_drop] at e5
          simp only [List.length_cons]
          omega
      · exact .inr ⟨e, he, step _ e1⟩
    · refine .inr ⟨(takeR l).2.2.2, g1, ?_⟩
      refine Ev.step (fun k => by rw [der_Split.l0]) ?_
      exact Ev.ifT (by omega) (Ev.bind T (Ev.ifF g1 (Ev.now _)))

end Go.Proofs.Ytdogiefacgknmaa.Pure
