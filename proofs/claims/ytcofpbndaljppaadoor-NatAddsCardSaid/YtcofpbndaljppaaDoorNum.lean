/- Plain lemmas on numbers as lists of digits, the lowest first: values, trimming, the digits of a number. No program here. -/
import Derived.Test.YtcofpbndaljppaaDoorWWords
import Derived.Test.YtcofpbndaljppaaDoorWLast
import Derived.Test.YtcofpbndaljppaaDoorWMore
import Derived.Laws.BitsLemmas
import Derived.Lib.Bytes
namespace Go.Proofs.YtcofpbndaljppaaDoor.Num
open Go.RowKit Go.Proofs.YtcofpbndaljppaaDoorW.PrintWords Go.Proofs.YtcofpbndaljppaaDoorW.PrintLast

theorem Ev.ifT {α : Type} {c : Prop} [Decidable c] {f g : Nat → Option α} {r : α} (h : c) (k : Ev f r) : Ev (fun n => if c then f n else g n) r := Ev.congr (fun _ => if_pos h) k
theorem Ev.ifF {α : Type} {c : Prop} [Decidable c] {f g : Nat → Option α} {r : α} (h : ¬ c) (k : Ev g r) : Ev (fun n => if c then f n else g n) r := Ev.congr (fun _ => if_neg h) k
theorem Ev.bindC {α β : Type} {o : Option α} {a : α} {f : Nat → α → Option β} {r : β} (h : o = some a) (k : Ev (fun n => f n a) r) : Ev (fun n => o.bind (f n)) r := Ev.congr (fun _ => by rw [h]; rfl) k
theorem w64 {x : Int} (h0 : -9223372036854775808 ≤ x) (h1 : x < 9223372036854775808) : wrap64 x = x := by unfold wrap64; omega
theorem u64w {x : Int} (h0 : 0 ≤ x) (h1 : x < 18446744073709551616) : IntKind.u64.wrap x = x := by
  have : IntKind.u64.wrap x = x % 18446744073709551616 := by simp [IntKind.wrap, IntKind.bits, IntKind.signed]
  rw [this]; omega

/-! ### values -/
def val (b : Int) : List Int → Int
  | [] => 0
  | x :: xs => x + b * val b xs
def Dg (b : Int) (l : List Int) : Prop := ∀ x ∈ l, 0 ≤ x ∧ x < b
theorem rd_nat (l : List Int) (i : Nat) : rd l (i : Int) = l.getD i 0 := by simp [rd]
theorem Dg.nil {b : Int} : Dg b [] := fun _ h => by cases h
theorem Dg.cons {b x : Int} {l : List Int} (h0 : 0 ≤ x) (h1 : x < b) (h : Dg b l) : Dg b (x :: l) := fun y hy => by
  rcases List.mem_cons.1 hy with rfl | hy
  · exact ⟨h0, h1⟩
  · exact h y hy
theorem Dg.app {b : Int} {l m : List Int} (h : Dg b l) (k : Dg b m) : Dg b (l ++ m) := fun x hx => (List.mem_append.1 hx).elim (h x) (k x)
theorem Dg.take {b : Int} {l : List Int} (h : Dg b l) (n : Nat) : Dg b (l.take n) := fun x hx => h x (List.mem_of_mem_take hx)
theorem Dg.drop {b : Int} {l : List Int} (h : Dg b l) (n : Nat) : Dg b (l.drop n) := fun x hx => h x (List.mem_of_mem_drop hx)
theorem Dg.set {b : Int} {l : List Int} (h : Dg b l) (n : Nat) {v : Int} (h0 : 0 ≤ v) (h1 : v < b) : Dg b (l.set n v) := fun x hx => by
  rcases List.mem_or_eq_of_mem_set hx with hx | rfl
  · exact h x hx
  · exact ⟨h0, h1⟩
theorem Dg.zeros {b : Int} (hb : 0 < b) (n : Nat) : Dg b (List.replicate n 0) := fun x hx => by
  rw [List.eq_of_mem_replicate hx]; exact ⟨Int.le_refl _, hb⟩
theorem Dg.rd {b : Int} (hb : 0 < b) {l : List Int} (h : Dg b l) (i : Int) : 0 ≤ rd l i ∧ rd l i < b := by
  unfold Go.Proofs.YtcofpbndaljppaaDoorW.PrintWords.rd
  rcases Nat.lt_or_ge i.toNat l.length with hi | hi
  · rw [show l.getD i.toNat 0 = l[i.toNat] by simp [hi]]
    exact h _ (List.getElem_mem _)
  · rw [show l.getD i.toNat 0 = 0 by simp [hi]]
    exact ⟨Int.le_refl _, hb⟩
theorem val_append (b : Int) (l m : List Int) : val b (l ++ m) = val b l + b ^ l.length * val b m := by
  induction l with
  | nil => simp [val]
  | cons x l ih =>
    simp only [List.cons_append, val, ih, List.length_cons, Int.pow_succ]
    grind
theorem val_zeros (b : Int) (n : Nat) : val b (List.replicate n 0) = 0 := by
  induction n with
  | zero => rfl
  | succ n ih => simp [List.replicate_succ, val, ih]
theorem val_nonneg {b : Int} (hb : 0 < b) {l : List Int} (h : Dg b l) : 0 ≤ val b l := by
  induction l with
  | nil => exact Int.le_refl _
  | cons x l ih =>
    have h0 := (h x (List.mem_cons_self ..)).1
    have h1 := ih (fun y hy => h y (List.mem_cons_of_mem _ hy))
    have := Int.mul_nonneg (Int.le_of_lt hb) h1
    simp only [val]
    omega
theorem pow_pos' {b : Int} (hb : 0 < b) (n : Nat) : 0 < b ^ n := Int.pow_pos hb
theorem val_lt {b : Int} (hb : 0 < b) {l : List Int} (h : Dg b l) : val b l < b ^ l.length := by
  induction l with
  | nil => simp [val]
  | cons x l ih =>
    have h0 := (h x (List.mem_cons_self ..)).2
    have h1 := ih (fun y hy => h y (List.mem_cons_of_mem _ hy))
    simp only [val, List.length_cons, Int.pow_succ]
    have h2 : b * (val b l + 1) ≤ b * b ^ l.length := Int.mul_le_mul_of_nonneg_left (by omega) (Int.le_of_lt hb)
    rw [Int.mul_add, Int.mul_one, Int.mul_comm b (b ^ l.length)] at h2
    omega
theorem pow_mono {b : Int} (hb : 1 ≤ b) {i j : Nat} (h : i ≤ j) : b ^ i ≤ b ^ j := by
  obtain ⟨d, rfl⟩ := Nat.exists_eq_add_of_le h
  rw [Int.pow_add]
  have h1 := pow_pos' (b := b) (by omega) i
  have h2 := pow_pos' (b := b) (by omega) d
  have : b ^ i * 1 ≤ b ^ i * b ^ d := Int.mul_le_mul_of_nonneg_left (by omega) (by omega)
  omega
theorem val_set (b : Int) : ∀ (l : List Int) (i : Nat) (v : Int), i < l.length → val b (l.set i v) = val b l + b ^ i * (v - l.getD i 0) := by
  intro l
  induction l with
  | nil => intro i v h; simp at h
  | cons x l ih =>
    intro i v h
    cases i with
    | zero => simp [val]; omega
    | succ i =>
      simp only [List.length_cons] at h
      simp only [List.set_cons_succ, val, ih i v (by omega), List.getD_cons_succ, Int.pow_succ]
      grind
theorem val_take_succ (b : Int) (l : List Int) (i : Nat) (h : i < l.length) : val b (l.take (i + 1)) = val b (l.take i) + b ^ i * l.getD i 0 := by
  rw [List.take_succ_eq_append_getElem h, val_append]
  simp [val, h, Nat.min_eq_left (Nat.le_of_lt h)]
theorem val_split (b : Int) (l : List Int) (i : Nat) (h : i ≤ l.length) : val b l = val b (l.take i) + b ^ i * val b (l.drop i) := by
  have := val_append b (l.take i) (l.drop i)
  rw [List.take_append_drop, List.length_take, Nat.min_eq_left h] at this
  exact this
theorem zero_of_lt {b : Int} (hb : 0 < b) {l : List Int} (hd : Dg b l) {j : Nat} (h : val b l < b ^ j) : ∀ i, j ≤ i → l.getD i 0 = 0 := by
  intro i hi
  rcases Nat.lt_or_ge i l.length with hl | hl
  · have e := val_split b l i (Nat.le_of_lt hl)
    rw [List.drop_eq_getElem_cons hl, val] at e
    have h1 := val_nonneg hb (hd.take i)
    have h2 := val_nonneg hb (hd.drop (i + 1))
    have h3 := (hd _ (List.getElem_mem hl)).1
    have h4 : b ^ j ≤ b ^ i := pow_mono (by omega) hi
    have h5 : (l.getD i 0) = l[i] := by simp [hl]
    rw [h5]
    rcases Int.lt_or_le 0 l[i] with h6 | h6
    · have h7 : b ^ i * 1 ≤ b ^ i * (l[i] + b * val b (l.drop (i + 1))) := Int.mul_le_mul_of_nonneg_left (by have := Int.mul_nonneg (Int.le_of_lt hb) h2; omega) (Int.le_of_lt (pow_pos' hb i))
      omega
    · omega
  · simp [hl]

/-! ### no nought at the end -/
def trimz : List Int → List Int
  | [] => []
  | x :: xs => match trimz xs with
    | [] => if x = 0 then [] else [x]
    | y :: ys => x :: y :: ys
def Nz (l : List Int) : Prop := l = [] ∨ l.getD (l.length - 1) 0 ≠ 0
theorem trimz_val (b : Int) : ∀ l, val b (trimz l) = val b l := by
  intro l
  induction l with
  | nil => rfl
  | cons x l ih =>
    cases e : trimz l with
    | nil =>
      rw [e] at ih
      simp only [val] at ih
      simp only [trimz, e, val, ← ih]
      split
      · rename_i h; simp [val, h]
      · simp [val]
    | cons y ys =>
      rw [e] at ih
      simp only [trimz, e]
      simp only [val] at ih ⊢
      rw [ih]
theorem trimz_Dg {b : Int} : ∀ {l}, Dg b l → Dg b (trimz l) := by
  intro l
  induction l with
  | nil => exact fun h => h
  | cons x l ih =>
    intro h
    have h1 := ih (fun y hy => h y (List.mem_cons_of_mem _ hy))
    have h0 := h x (List.mem_cons_self ..)
    simp only [trimz]
    split
    · split
      · exact Dg.nil
      · exact Dg.cons h0.1 h0.2 Dg.nil
    · rename_i y ys e
      rw [e] at h1
      exact Dg.cons h0.1 h0.2 h1
theorem trimz_Nz : ∀ l, Nz (trimz l) := by
  intro l
  induction l with
  | nil => exact .inl rfl
  | cons x l ih =>
    simp only [trimz]
    split
    · split
      · exact .inl rfl
      · rename_i h; exact .inr (by simpa using h)
    · rename_i y ys e
      rw [e] at ih
      rcases ih with ih | ih
      · cases ih
      · exact .inr (by simpa using ih)
/-- Two such lists of one value are one. -/
theorem val_inj {b : Int} (hb : 1 < b) : ∀ {l m : List Int}, Dg b l → Dg b m → Nz l → Nz m → val b l = val b m → l = m := by
  have nz0 : ∀ {l : List Int}, Dg b l → Nz l → val b l = 0 → l = [] := by
    intro l hd hz hv
    rcases hz with hz | hz
    · exact hz
    · exact absurd (zero_of_lt (j := 0) (by omega) hd (by rw [hv]; simp) (l.length - 1) (by omega)) hz
  intro l
  induction l with
  | nil => intro m _ hm _ hz hv; exact (nz0 hm hz hv.symm).symm
  | cons x l ih =>
    intro m hl hm hzl hzm hv
    cases m with
    | nil => exact nz0 hl hzl hv
    | cons y m =>
      have hx := hl x (List.mem_cons_self ..)
      have hy := hm y (List.mem_cons_self ..)
      simp only [val] at hv
      have e1 : x = y := by
        have h1 : (x + b * val b l) % b = x := by rw [Int.add_mul_emod_self_left]; exact Int.emod_eq_of_lt hx.1 hx.2
        have h2 : (y + b * val b m) % b = y := by rw [Int.add_mul_emod_self_left]; exact Int.emod_eq_of_lt hy.1 hy.2
        rw [hv, h2] at h1
        exact h1.symm
      subst e1
      have e2 : val b l = val b m := Int.eq_of_mul_eq_mul_left (by omega) (Int.add_left_cancel hv)
      have nzt : ∀ {l : List Int}, Nz (x :: l) → Nz l := by
        intro l h
        cases l with
        | nil => exact .inl rfl
        | cons z l =>
          rcases h with h | h
          · cases h
          · exact .inr (by simpa using h)
      rw [ih (fun z hz => hl z (List.mem_cons_of_mem _ hz)) (fun z hz => hm z (List.mem_cons_of_mem _ hz)) (nzt hzl) (nzt hzm) e2]

/-! ### the digits of a number -/
def digF (b : Nat) : Nat → Nat → List Int
  | 0, _ => []
  | f + 1, n => if n = 0 then [] else ((n % b : Nat) : Int) :: digF b f (n / b)
def dig (b n : Nat) : List Int := digF b n n
theorem digF_ok {b : Nat} (hb : 2 ≤ b) : ∀ f n, n ≤ f → Dg b (digF b f n) ∧ Nz (digF b f n) ∧ val b (digF b f n) = n := by
  intro f
  induction f with
  | zero =>
    intro n h
    obtain rfl : n = 0 := by omega
    exact ⟨Dg.nil, .inl rfl, rfl⟩
  | succ f ih =>
    intro n h
    unfold digF
    split
    · rename_i h0; subst h0; exact ⟨Dg.nil, .inl rfl, rfl⟩
    · rename_i h0
      have hlt : n / b < n := Nat.div_lt_self (by omega) (by omega)
      obtain ⟨h1, h2, h3⟩ := ih (n / b) (by omega)
      have hm : n % b < b := Nat.mod_lt _ (by omega)
      refine ⟨Dg.cons (by omega) (by omega) h1, ?_, ?_⟩
      · cases e : digF b f (n / b) with
        | nil =>
          rw [e] at h3
          simp only [val] at h3
          have hz : n / b = 0 := by omega
          have := Nat.div_add_mod n b
          rw [hz] at this
          simp at this
          exact .inr (by simp; omega)
        | cons y ys =>
          rw [e] at h2
          rcases h2 with h2 | h2
          · cases h2
          · exact .inr (by simpa using h2)
      · simp only [val, h3]
        have := Nat.div_add_mod n b
        have e : ((n : Nat) : Int) = ((b * (n / b) + n % b : Nat) : Int) := by rw [this]
        rw [e]
        push_cast
        omega
theorem dig_Dg {b : Nat} (hb : 2 ≤ b) (n : Nat) : Dg b (dig b n) := (digF_ok hb n n (Nat.le_refl _)).1
theorem dig_Nz {b : Nat} (hb : 2 ≤ b) (n : Nat) : Nz (dig b n) := (digF_ok hb n n (Nat.le_refl _)).2.1
theorem dig_val {b : Nat} (hb : 2 ≤ b) (n : Nat) : val b (dig b n) = n := (digF_ok hb n n (Nat.le_refl _)).2.2
/-- Digits without a nought at the end are those of their value. -/
theorem eq_dig {b : Nat} (hb : 2 ≤ b) {l : List Int} {n : Nat} (h : Dg b l) (hz : Nz l) (hv : val b l = n) : l = dig b n :=
  val_inj (by omega) h (dig_Dg hb n) hz (dig_Nz hb n) (by rw [hv, dig_val hb])
theorem trimz_dig {b : Nat} (hb : 2 ≤ b) {l : List Int} {n : Nat} (h : Dg b l) (hv : val b l = n) : trimz l = dig b n :=
  eq_dig hb (trimz_Dg h) (trimz_Nz l) (by rw [trimz_val, hv])
end Go.Proofs.YtcofpbndaljppaaDoor.Num
