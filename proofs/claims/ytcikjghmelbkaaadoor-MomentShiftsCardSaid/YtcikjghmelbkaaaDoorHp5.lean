/- Go functions of this seat as Lean functions, and their contracts: what the Go code computes, for every input. (By hp.py, a program of this repo, over the kit's print.py.) -/
import Derived.Test.YtcikjghmelbkaaaDoorHp0
import Derived.Test.YtcikjghmelbkaaaDoorHp4
namespace Go.Proofs.YtcikjghmelbkaaaDoor.Hp
open Go.RowKit Go.Proofs.YtcikjghmelbkaaaDoorW.PrintWords Go.Proofs.YtcikjghmelbkaaaDoorW.PrintLast Go.Proofs.YtcikjghmelbkaaaDoorW.PrintMore
attribute [local go_sem] max2_int min2_int max_two min_two max_three min_three max_four min_four   -- for this text's walks alone
set_option linter.unusedVariables false
set_option linter.unusedSimpArgs false

/-! ### moment_reader_number: function 34 -/
def numL : Nat → Nat → List UInt8 → Option (Nat × List UInt8)
  | 0, n, l => some (n, l)
  | _ + 1, _, [] => none
  | k + 1, n, c :: l => if 48 ≤ c.toNat ∧ c.toNat ≤ 57 then numL k (10 * n + (c.toNat - 48)) l else none
/-- So many digits: a number up to another; and what is left. -/
def numberL (k : Nat) (lo hi : Int) (l : List UInt8) : Option (Nat × List UInt8) := (numL k 0 l).bind fun p => if (p.1 : Int) < lo ∨ hi < p.1 then none else some p
theorem numL_lt : ∀ (k n : Nat) (l : List UInt8) (p : Nat × List UInt8), numL k n l = some p → p.1 < 10 ^ k * (n + 1)
  | 0, n, l, p, h => by
    obtain rfl := Option.some.inj h
    show n < 1 * (n + 1); omega
  | k + 1, n, [], p, h => by cases h
  | k + 1, n, c :: l, p, h => by
    rw [numL] at h
    split at h
    · rename_i hc
      have := numL_lt k _ l p h
      rw [Nat.pow_succ]
      have h2 : 10 ^ k * (10 * n + (c.toNat - 48) + 1) ≤ 10 ^ k * (10 * (n + 1)) := Nat.mul_le_mul_left _ (by omega)
      rw [Nat.mul_assoc]
      omega
    · cases h
theorem bl_index (c : UInt8) (t : List UInt8) : ∀ W, (Instr.index 9 (.string (bl (c :: t))) (.int .i64 0)).run Tryd.prog W = .ok (.int .u8 c.toNat) W := by
  intro W
  have h : 0 < (bl (c :: t)).size := by rw [bl_size]; simp
  have := run_index_string (P := Tryd.prog) (w := W) 9 (bl (c :: t)) .i64 0 Tryd.underlying9
  rw [this, dif_pos ⟨by decide, by omega⟩]
  rfl
def moment_reader_number.Inv (b k : Nat) (l : List UInt8) (w wr : World) (v9 v11 : Value) : Prop :=
  ∃ (j n : Nat) (l' : List UInt8), v9 = .int .i64 n ∧ v11 = .int .i64 j ∧ j ≤ k ∧ n + 1 ≤ 10 ^ j ∧ numL k 0 l = numL (k - j) n l' ∧ Rdr b l' wr ∧ KB b w wr
set_option maxRecDepth 100000 in
set_option maxHeartbeats 4000000 in
theorem moment_reader_number.any (b k : Nat) (lo hi' : Int) (l : List UInt8) (w : World) (h : Rdr b l w) (hk : k ≤ 15) :
    Calls Tryd.prog 34 #[.pointer (some ⟨b, 0, none⟩), .int .i64 k, .int .i64 lo, .int .i64 hi'] w fun e w' =>
      KB b w w' ∧ ((∃ (n : Nat) (l' : List UInt8), numberL k lo hi' l = some (n, l') ∧ e = .returned (.int .i64 n) ∧ Rdr b l' w') ∨ (numberL k lo hi' l = none ∧ e = .panicked wrongV)) := by
  have H := Aside0.mk h
  clear h
  go_enter Tryd.func34, Tryd.ntmps34
  go_wp2
  go_loopw [9, 11] (fun v9 v11 wr => Aside0 (moment_reader_number.Inv b k l w wr v9 v11)) (fun _ v11 _ => k - (intOf v11).toNat)
  case atStart => exact ⟨0, 0, l, rfl, rfl, Nat.zero_le _, by simp, rfl, H.out, KB.refl _ _⟩
  case round =>
    obtain ⟨j, n, l', rfl, rfl, hj, hn, he, hr, hB⟩ := hrel.out
    clear hrel
    by_cases hlt : (j : Int) < k
    · have h1 := Aside0.mk hr
      have h2 := Aside0.mk hB
      have h3 := Aside0.mk he
      obtain ⟨m, hm⟩ : ∃ m, k - j = m + 1 := ⟨k - j - 1, by omega⟩
      have hc := hr.cell
      have hf := hr.frozen
      clear hr hB he
      cases l' with
      | nil =>
        have hz : bl [] = ⟨#[]⟩ := rfl
        rw [hz] at hc
        go_wp2
        have hnone := Aside0.mk <| show numberL k lo hi' l = none by unfold numberL; rw [h3.out, hm]; rfl
        exact ⟨rfl, h2.out, .inr ⟨hnone.out, rfl⟩⟩
      | cons c t =>
        have hi := bl_index c t
        have hc8 := c.toNat_lt
        have hsz : (bl (c :: t)).size = t.length + 1 := by rw [bl_size]; rfl
        have q2 : ¬ (bl (c :: t)).toList = [] := by rw [bl_list]; simp
        have q1 : (bl (c :: t)).toList.isEmpty = false := by rw [bl_list]; rfl
        have q3 : (1 : Int) ≤ ((bl (c :: t)).size : Int) := by omega
        by_cases hd : 48 ≤ c.toNat ∧ c.toNat ≤ 57
        · have hd1 : ¬ (c.toNat : Int) < 48 := by omega
          have hd2 : ¬ 57 < (c.toNat : Int) := by omega
          have h10 : 10 ^ j ≤ 10 ^ 15 := Nat.pow_le_pow_right (by decide) (by omega)
          go_wp2
          go_roundw
          case rel =>
            have e1 : (bl (c :: t)).extract 1 (t.length + 1) = bl t := by rw [← hsz]; exact bl_drop (c :: t) 1
            refine ⟨j + 1, 10 * n + (c.toNat - 48), t, ?_, by push_cast; rfl, by omega, by rw [Nat.pow_succ]; omega, ?_, ?_, h2.out.trans (KB.set b _ _)⟩
            · congr 1
              first | omega | (unfold wrap64; omega)
            · rw [h3.out, hm, numL, if_pos hd, show k - (j + 1) = m by omega]
            · rw [e1]; exact h1.out.set t
          case measure => simp [intOf]; omega
        · have hnone := Aside0.mk <| show numberL k lo hi' l = none by unfold numberL; rw [h3.out, hm, numL, if_neg hd]; rfl
          by_cases hd1 : (c.toNat : Int) < 48
          · go_wp2
            exact ⟨rfl, h2.out, .inr ⟨hnone.out, rfl⟩⟩
          · have hd2 : 57 < (c.toNat : Int) := by omega
            go_wp2
            exact ⟨rfl, h2.out, .inr ⟨hnone.out, rfl⟩⟩
    · have hjk : j = k := by omega
      have h1 := Aside0.mk hr
      have h2 := Aside0.mk hB
      have h3 := Aside0.mk (show numL k 0 l = some (n, l') by rw [he, hjk, Nat.sub_self]; rfl)
      clear hr hB he
      by_cases hb : (n : Int) < lo ∨ hi' < (n : Int)
      · have hnone := Aside0.mk <| show numberL k lo hi' l = none by unfold numberL; rw [h3.out]; exact if_pos hb
        by_cases hb1 : (n : Int) < lo
        · go_wp2
          exact ⟨rfl, h2.out, .inr ⟨hnone.out, rfl⟩⟩
        · have hb2 : hi' < (n : Int) := by omega
          go_wp2
          exact ⟨rfl, h2.out, .inr ⟨hnone.out, rfl⟩⟩
      · have hsome := Aside0.mk <| show numberL k lo hi' l = some (n, l') by unfold numberL; rw [h3.out]; exact if_neg hb
        have hb1 : ¬ (n : Int) < lo := by omega
        have hb2 : ¬ hi' < (n : Int) := by omega
        go_wp2
        go_ret
        exact ⟨h2.out, .inl ⟨_, _, hsome.out, rfl, h1.out⟩⟩

/-! ### strings_trimLeftByte: function 51 -/
def strings_trimLeftByte.l0 : Nat → ByteArray → Int → Option (ByteArray)
 | 0, _, _ => none
 | k + 1, x0, x1 => if (x0.size : Int) > 0 then (if 0 < (x0.size : Int) then (if (bt x0 0) = x1 then (if 1 ≤ (x0.size : Int) then (strings_trimLeftByte.l0 k (x0.extract 1 x0.size) x1) else (none)) else (some x0)) else (none)) else (some x0)
def strings_trimLeftByte.f (k : Nat) (a0 : ByteArray) (a1 : Int) : Option (ByteArray) := strings_trimLeftByte.l0 k a0 a1
theorem strings_trimLeftByte.mono_l : ∀ k, (∀ y0 y1, LeO (strings_trimLeftByte.l0 k y0 y1) (strings_trimLeftByte.l0 (k + 1) y0 y1))
 | 0 => fun _ _ r h => by simp [strings_trimLeftByte.l0] at h
 | k + 1 => by
  have ih0 := strings_trimLeftByte.mono_l k
  ·intro y0 y1
   unfold strings_trimLeftByte.l0
   repeat' first
   | (with_reducible exact ih0 _ _)
   | (with_reducible exact LeO.refl _)
   | (with_reducible exact LeO.none _)
   | (with_reducible refine LeO.ite ?_ ?_)
   | (with_reducible refine LeO.bind ?_ (fun _ => ?_))
   | exact ih0 _ _
   | exact LeO.none _
   | refine LeO.ite ?_ ?_
   | refine LeO.bind ?_ (fun _ => ?_)
theorem strings_trimLeftByte.mono : ∀ a0 a1 k, LeO (strings_trimLeftByte.f k a0 a1) (strings_trimLeftByte.f (k + 1) a0 a1) := by
 intro a0 a1 k
 have ih0 := strings_trimLeftByte.mono_l k
 unfold strings_trimLeftByte.f
 repeat' first
   | (with_reducible exact ih0 _ _)
   | (with_reducible exact LeO.refl _)
   | (with_reducible exact LeO.none _)
   | (with_reducible refine LeO.ite ?_ ?_)
   | (with_reducible refine LeO.bind ?_ (fun _ => ?_))
   | exact ih0 _ _
   | exact LeO.none _
   | refine LeO.ite ?_ ?_
   | refine LeO.bind ?_ (fun _ => ?_)
set_option maxHeartbeats 8000000 in
set_option maxRecDepth 100000 in
theorem strings_trimLeftByte.calls (k : Nat) (a0 : ByteArray) (a1 : Int) (r : ByteArray) (w : World) (h : strings_trimLeftByte.f k a0 a1 = some r) :
  Calls Tryd.prog 51 #[.string a0, .int .u8 a1] w fun e w' => e = .returned (.string r) ∧ Drawn0 w w' := by
 have H : (strings_trimLeftByte.l0 k a0 a1) = some r := h
 clear h
 have H' := Aside0.mk H
 clear H
 go_enter Tryd.func51, Tryd.ntmps51
 go_wp2
 go_loopg [0] k (fun kq v0 w' => ∃ (x0_1 : ByteArray), v0 = .string x0_1 ∧ Aside0 (strings_trimLeftByte.l0 kq x0_1 a1 = some r) ∧ Aside0 (kq ≤ k) ∧ Drawn0 w w')
 case atStart => exact ⟨(a0), (by first | rfl | (simp; done) | (simp [*]; done)), H', ⟨Nat.le_refl _⟩, by repeat (first | exact Drawn0.refl _ | apply Drawn0.step)⟩
 case round =>
  clear H'
  try clear p2
  obtain ⟨x0_1, rfl, HA, HK1, ⟨m1, rfl⟩⟩ := hrel
  cases gk with
  | zero => exact absurd HA.out (by simp [strings_trimLeftByte.l0])
  | succ k1 =>
   have H := HA.out
   clear HA
   simp only [strings_trimLeftByte.l0] at H
   by_cases c3 : (x0_1.size : Int) > 0
   ·rw [if_pos c3] at H
    have c3b0 : decide (0 < (x0_1.size : Int)) = true := decide_eq_true c3
    have c3b1 : decide (0 < x0_1.size) = true := decide_eq_true (by omega)
    clear c3
    by_cases c4 : 0 < (x0_1.size : Int)
    ·rw [if_pos c4] at H
     have c4b0 : decide (0 < (x0_1.size : Int)) = true := decide_eq_true c4
     have c4b1 : decide (0 < x0_1.size) = true := decide_eq_true (by omega)
     clear c4
     by_cases c6 : (bt x0_1 0) = a1
     ·rw [if_pos c6] at H
      have c6b0 : ((bt x0_1 0) == a1) = true := beq_iff_eq.mpr c6
      have c6b1 : ((bt x0_1 0) != a1) = false := bne_eq_false_iff_eq.mpr c6
      clear c6
      by_cases c7 : 1 ≤ (x0_1.size : Int)
      ·rw [if_pos c7] at H
       have c7b0 := eq_true c7
       have c7b1 : decide (1 ≤ (x0_1.size : Int)) = true := decide_eq_true c7
       clear c7
       have H' := Aside0.mk H
       clear H
       have p5 : 0 ≤ (0 : Int) := (by omega)
       have q5 : 0 < x0_1.size := (by have : (0 : Int) < (x0_1.size : Int) := of_decide_eq_true (by first | (with_reducible assumption) | assumption); omega)
       have hx5 : ∀ h : 0 < x0_1.size, ((x0_1[0]'h).toNat : Int) = bt x0_1 0 := bt_at x0_1 0
       clear p5
       have qi5 : (0 < (x0_1.size : Int)) = True := eq_true (of_decide_eq_true (by first | (with_reducible assumption) | assumption))
       replace q5 := eq_true q5
       go_wp2
       go_roundg k1
       case measure => have := HK1.out; omega
       case rel => exact ⟨(x0_1.extract 1 x0_1.size), (by first | rfl | (simp; done) | (simp [*]; done)), H', ⟨by have := HK1.out; omega⟩, by repeat (first | exact Drawn0.refl _ | apply Drawn0.step)⟩
      ·rw [if_neg c7] at H
       exact absurd H (by simp)
     ·rw [if_neg c6] at H
      have c6b0 : ((bt x0_1 0) == a1) = false := beq_eq_false_iff_ne.mpr c6
      have c6b1 : ((bt x0_1 0) != a1) = true := bne_iff_ne.mpr c6
      obtain rfl := Option.some.inj H
      have p5 : 0 ≤ (0 : Int) := (by omega)
      have q5 : 0 < x0_1.size := (by have : (0 : Int) < (x0_1.size : Int) := of_decide_eq_true (by first | (with_reducible assumption) | assumption); omega)
      have hx5 : ∀ h : 0 < x0_1.size, ((x0_1[0]'h).toNat : Int) = bt x0_1 0 := bt_at x0_1 0
      clear p5
      have qi5 : (0 < (x0_1.size : Int)) = True := eq_true (of_decide_eq_true (by first | (with_reducible assumption) | assumption))
      replace q5 := eq_true q5
      go_wp2
      go_ret
      exact ⟨by first | rfl | (simp; done) | (simp [*]; done), by repeat (first | exact Drawn0.refl _ | apply Drawn0.step)⟩
    ·rw [if_neg c4] at H
     exact absurd H (by simp)
   ·rw [if_neg c3] at H
    have c3b0 : decide (0 < (x0_1.size : Int)) = false := decide_eq_false c3
    have c3b1 : decide (0 < x0_1.size) = false := decide_eq_false (by omega)
    clear c3
    obtain rfl := Option.some.inj H
    go_wp2
    go_ret
    exact ⟨by first | rfl | (simp; done) | (simp [*]; done), by repeat (first | exact Drawn0.refl _ | apply Drawn0.step)⟩

/-! ### strings_TrimLeft: function 45 -/
def zero1 : ByteArray := ⟨#[48]⟩
def strings_TrimLeft.f (k : Nat) (s c : ByteArray) : Option ByteArray := if c = zero1 then strings_trimLeftByte.f k s 48 else none
theorem strings_TrimLeft.mono : ∀ s c k, LeO (strings_TrimLeft.f k s c) (strings_TrimLeft.f (k + 1) s c) := by
  intro s c k
  unfold strings_TrimLeft.f
  split
  · exact strings_trimLeftByte.mono _ _ _
  · exact LeO.refl _
set_option maxRecDepth 100000 in
set_option maxHeartbeats 2000000 in
theorem strings_TrimLeft.calls (k : Nat) (s c r : ByteArray) (w : World) (h : strings_TrimLeft.f k s c = some r) :
    Calls Tryd.prog 45 #[.string s, .string c] w fun e w' => e = .returned (.string r) ∧ Below w.heap.size w w' := by
  unfold strings_TrimLeft.f at h
  split at h
  · rename_i hc
    subst hc
    have hi : ∀ W, (Instr.index 9 (.string zero1) (.int .i64 0)).run Tryd.prog W = .ok (.int .u8 48) W := fun _ => by kernel_rfl
    unfold zero1 at hi ⊢
    by_cases hs : s = ⟨#[]⟩
    · subst hs
      have hr : r = ⟨#[]⟩ := by
        cases k with
        | zero => cases h
        | succ k =>
          unfold strings_trimLeftByte.f at h
          rw [strings_trimLeftByte.l0] at h
          exact (Option.some.inj h).symm
      subst hr
      clear h
      go_enter Tryd.func45, Tryd.ntmps45
      go_wp2
      go_ret
      exact ⟨rfl, Below.refl _ _⟩
    · have q1 : s.toList.isEmpty = false := by
        rcases s with ⟨⟨l⟩⟩
        cases l with
        | nil => exact absurd rfl hs
        | cons x l => rw [ByteArray.toList_eq]; rfl
      have q2 : ¬ s.toList = [] := by intro e; rw [e] at q1; cases q1
      have H := Aside0.mk h
      clear h hs
      go_enter Tryd.func45, Tryd.ntmps45
      go_wp2_with (go_at_call 51; refine (strings_trimLeftByte.calls k s 48 r _ H.out).mono ?_; rintro e w1 ⟨rfl, nd, rfl⟩)
      go_ret
      exact ⟨rfl, pw_below_drewN (Below.refl _ _) nd⟩
  · exact absurd h (by simp)

/-! ### moment_nought: function 36 -/
def moment_nought.f (k : Nat) (a0 : ByteArray) : Option (Bool) := if a0.toList = ([] : List UInt8) then (some true) else (if 0 < (a0.size : Int) then (if (bt a0 0) = 46 then (if 1 ≤ (a0.size : Int) then ((strings_TrimLeft.f k (a0.extract 1 a0.size) (⟨#[48]⟩ : ByteArray)).bind fun t142 => (if t142.toList = ([] : List UInt8) then (some true) else (if 0 < (t142.size : Int) then (if (bt t142 0) < 49 then (some true) else (some (decide ((bt t142 0) > 57)))) else (none)))) else (none)) else (some true)) else (none))
theorem moment_nought.mono : ∀ a0 k, LeO (moment_nought.f k a0) (moment_nought.f (k + 1) a0) := by
 intro a0 k
 unfold moment_nought.f
 repeat' first
   | (with_reducible exact strings_TrimLeft.mono _ _ _)
   | (with_reducible exact LeO.refl _)
   | (with_reducible exact LeO.none _)
   | (with_reducible refine LeO.ite ?_ ?_)
   | (with_reducible refine LeO.bind ?_ (fun _ => ?_))
   | exact strings_TrimLeft.mono _ _ _
   | exact LeO.none _
   | refine LeO.ite ?_ ?_
   | refine LeO.bind ?_ (fun _ => ?_)
set_option maxHeartbeats 8000000 in
set_option maxRecDepth 100000 in
theorem moment_nought.calls (k : Nat) (a0 : ByteArray) (r : Bool) (w : World) (h : moment_nought.f k a0 = some r) :
  Calls Tryd.prog 36 #[.string a0] w fun e w' => e = .returned (.bool r) ∧ Below w.heap.size w w' := by
 have HB := Aside0.mk (Below.refl w.heap.size w)
 have H : (if a0.toList = ([] : List UInt8) then (some true) else (if 0 < (a0.size : Int) then (if (bt a0 0) = 46 then (if 1 ≤ (a0.size : Int) then ((strings_TrimLeft.f k (a0.extract 1 a0.size) (⟨#[48]⟩ : ByteArray)).bind fun t142 => (if t142.toList = ([] : List UInt8) then (some true) else (if 0 < (t142.size : Int) then (if (bt t142 0) < 49 then (some true) else (some (decide ((bt t142 0) > 57)))) else (none)))) else (none)) else (some true)) else (none))) = some r := h
 clear h
 refine (Classical.em (a0.toList = ([] : List UInt8))).elim (fun c2 => ?a16_) (fun c2 => ?b16_)
 case' a16_ =>
  rw [if_pos c2] at H
  have c2b0 : (a0.toList == ([] : List UInt8)) = true := beq_iff_eq.mpr c2
  have c2b1 : (a0.toList != ([] : List UInt8)) = false := bne_eq_false_iff_eq.mpr c2
  clear c2
  obtain rfl := Option.some.inj H
 case' b16_ =>
  rw [if_neg c2] at H
  have c2b0 : (a0.toList == ([] : List UInt8)) = false := beq_eq_false_iff_ne.mpr c2
  have c2b1 : (a0.toList != ([] : List UInt8)) = true := bne_iff_ne.mpr c2
  refine (Classical.em (0 < (a0.size : Int))).elim (fun c3 => ?a17_) (fun c3 => ?b17_)
  case' a17_ =>
   rw [if_pos c3] at H
   have c3b0 : decide (0 < (a0.size : Int)) = true := decide_eq_true c3
   have c3b1 : decide (0 < a0.size) = true := decide_eq_true (by omega)
   clear c3
   refine (Classical.em ((bt a0 0) = 46)).elim (fun c5 => ?a18_) (fun c5 => ?b18_)
   case' a18_ =>
    rw [if_pos c5] at H
    have c5b0 : ((bt a0 0) == 46) = true := beq_iff_eq.mpr c5
    have c5b1 : ((bt a0 0) != 46) = false := bne_eq_false_iff_eq.mpr c5
    clear c5
    by_cases c6 : 1 ≤ (a0.size : Int)
    ·rw [if_pos c6] at H
     have c6b0 := eq_true c6
     have c6b1 : decide (1 ≤ (a0.size : Int)) = true := decide_eq_true c6
     clear c6
     replace H := Option.bind_eq_some_iff.mp H
     obtain ⟨t142, A70, H⟩ := H
     replace H : (if t142.toList = ([] : List UInt8) then (some true) else (if 0 < (t142.size : Int) then (if (bt t142 0) < 49 then (some true) else (some (decide ((bt t142 0) > 57)))) else (none))) = some r := H
     have A7 := Aside0.mk A70
     clear A70
     by_cases c8 : t142.toList = ([] : List UInt8)
     ·rw [if_pos c8] at H
      have c8b0 : (t142.toList == ([] : List UInt8)) = true := beq_iff_eq.mpr c8
      have c8b1 : (t142.toList != ([] : List UInt8)) = false := bne_eq_false_iff_eq.mpr c8
      clear c8
      obtain rfl := Option.some.inj H
      have p4 : 0 ≤ (0 : Int) := (by omega)
      have q4 : 0 < a0.size := (by have : (0 : Int) < (a0.size : Int) := of_decide_eq_true (by first | (with_reducible assumption) | assumption); omega)
      have hx4 : ∀ h : 0 < a0.size, ((a0[0]'h).toNat : Int) = bt a0 0 := bt_at a0 0
      clear p4
      have qi4 : (0 < (a0.size : Int)) = True := eq_true (of_decide_eq_true (by first | (with_reducible assumption) | assumption))
      replace q4 := eq_true q4
      go_enter Tryd.func36, Tryd.ntmps36
      go_wp2_with (first | ((with_reducible refine gate_callee (f := 45) rfl ?_); refine goesL_ (some 12) rfl rfl Tryd.func45 (by kernel_rfl) rfl #[.string (a0.extract 1 a0.size), .string (⟨#[48]⟩ : ByteArray)] rfl (by (try simp only [List.map_toArray, List.map_cons, List.map_nil]); first | done | rfl | (simp only [List.length_drop, List.length_take]; rfl)) ?_; (with_reducible refine (strings_TrimLeft.calls k (a0.extract 1 a0.size) (⟨#[48]⟩ : ByteArray) t142 _ A7.out).mono ?_); rintro e w9 ⟨rfl, hb⟩; refine ⟨_, rfl, ?_⟩; have n0_ := Bs HB hb; clear HB; revert n0_; intro HB; (try clear hb); (try clear hb2); (try clear hk); (try clear hi)))
      go_ret
      exact ⟨rfl_, Bu HB⟩
     ·rw [if_neg c8] at H
      have c8b0 : (t142.toList == ([] : List UInt8)) = false := beq_eq_false_iff_ne.mpr c8
      have c8b1 : (t142.toList != ([] : List UInt8)) = true := bne_iff_ne.mpr c8
      by_cases c10 : 0 < (t142.size : Int)
      ·rw [if_pos c10] at H
       have c10b0 : decide (0 < (t142.size : Int)) = true := decide_eq_true c10
       have c10b1 : decide (0 < t142.size) = true := decide_eq_true (by omega)
       clear c10
       by_cases c12 : (bt t142 0) < 49
       ·rw [if_pos c12] at H
        have c12b0 : decide ((bt t142 0) < 49) = true := decide_eq_true c12
        clear c12
        obtain rfl := Option.some.inj H
        have p4 : 0 ≤ (0 : Int) := (by omega)
        have q4 : 0 < a0.size := (by have : (0 : Int) < (a0.size : Int) := of_decide_eq_true (by first | (with_reducible assumption) | assumption); omega)
        have hx4 : ∀ h : 0 < a0.size, ((a0[0]'h).toNat : Int) = bt a0 0 := bt_at a0 0
        clear p4
        have qi4 : (0 < (a0.size : Int)) = True := eq_true (of_decide_eq_true (by first | (with_reducible assumption) | assumption))
        replace q4 := eq_true q4
        go_enter Tryd.func36, Tryd.ntmps36
        go_wp2_with (first | ((with_reducible refine gate_callee (f := 45) rfl ?_); refine goesL_ (some 12) rfl rfl Tryd.func45 (by kernel_rfl) rfl #[.string (a0.extract 1 a0.size), .string (⟨#[48]⟩ : ByteArray)] rfl (by (try simp only [List.map_toArray, List.map_cons, List.map_nil]); first | done | rfl | (simp only [List.length_drop, List.length_take]; rfl)) ?_; (with_reducible refine (strings_TrimLeft.calls k (a0.extract 1 a0.size) (⟨#[48]⟩ : ByteArray) t142 _ A7.out).mono ?_); rintro e w13 ⟨rfl, hb⟩; refine ⟨_, rfl, ?_⟩; have n0_ := Bs HB hb; clear HB; revert n0_; intro HB; (try clear hb); (try clear hb2); (try clear hk); (try clear hi); have p11 : 0 ≤ (0 : Int) := (by omega); have q11 : 0 < t142.size := (by have : (0 : Int) < (t142.size : Int) := of_decide_eq_true (by first | (with_reducible assumption) | assumption); omega); have hx11 : ∀ h : 0 < t142.size, ((t142[0]'h).toNat : Int) = bt t142 0 := bt_at t142 0; clear p11; have qi11 : (0 < (t142.size : Int)) = True := eq_true (of_decide_eq_true (by first | (with_reducible assumption) | assumption)); replace q11 := eq_true q11))
        go_ret
        exact ⟨rfl_, Bu HB⟩
       ·rw [if_neg c12] at H
        have c12b0 : decide ((bt t142 0) < 49) = false := decide_eq_false c12
        clear c12
        obtain rfl := Option.some.inj H
        have p4 : 0 ≤ (0 : Int) := (by omega)
        have q4 : 0 < a0.size := (by have : (0 : Int) < (a0.size : Int) := of_decide_eq_true (by first | (with_reducible assumption) | assumption); omega)
        have hx4 : ∀ h : 0 < a0.size, ((a0[0]'h).toNat : Int) = bt a0 0 := bt_at a0 0
        clear p4
        have qi4 : (0 < (a0.size : Int)) = True := eq_true (of_decide_eq_true (by first | (with_reducible assumption) | assumption))
        replace q4 := eq_true q4
        go_enter Tryd.func36, Tryd.ntmps36
        go_wp2_with (first | ((with_reducible refine gate_callee (f := 45) rfl ?_); refine goesL_ (some 12) rfl rfl Tryd.func45 (by kernel_rfl) rfl #[.string (a0.extract 1 a0.size), .string (⟨#[48]⟩ : ByteArray)] rfl (by (try simp only [List.map_toArray, List.map_cons, List.map_nil]); first | done | rfl | (simp only [List.length_drop, List.length_take]; rfl)) ?_; (with_reducible refine (strings_TrimLeft.calls k (a0.extract 1 a0.size) (⟨#[48]⟩ : ByteArray) t142 _ A7.out).mono ?_); rintro e w15 ⟨rfl, hb⟩; refine ⟨_, rfl, ?_⟩; have n0_ := Bs HB hb; clear HB; revert n0_; intro HB; (try clear hb); (try clear hb2); (try clear hk); (try clear hi); have p11 : 0 ≤ (0 : Int) := (by omega); have q11 : 0 < t142.size := (by have : (0 : Int) < (t142.size : Int) := of_decide_eq_true (by first | (with_reducible assumption) | assumption); omega); have hx11 : ∀ h : 0 < t142.size, ((t142[0]'h).toNat : Int) = bt t142 0 := bt_at t142 0; clear p11; have qi11 : (0 < (t142.size : Int)) = True := eq_true (of_decide_eq_true (by first | (with_reducible assumption) | assumption)); replace q11 := eq_true q11; have p14 : 0 ≤ (0 : Int) := (by omega); have q14 : 0 < t142.size := (by have : (0 : Int) < (t142.size : Int) := of_decide_eq_true (by first | (with_reducible assumption) | assumption); omega); have hx14 : ∀ h : 0 < t142.size, ((t142[0]'h).toNat : Int) = bt t142 0 := bt_at t142 0; clear p14; have qi14 : (0 < (t142.size : Int)) = True := eq_true (of_decide_eq_true (by first | (with_reducible assumption) | assumption)); replace q14 := eq_true q14))
        go_ret
        exact ⟨rfl_, Bu HB⟩
      ·rw [if_neg c10] at H
       exact absurd H (by simp)
    ·rw [if_neg c6] at H
     exact absurd H (by simp)
   case' b18_ =>
    rw [if_neg c5] at H
    have c5b0 : ((bt a0 0) == 46) = false := beq_eq_false_iff_ne.mpr c5
    have c5b1 : ((bt a0 0) != 46) = true := bne_iff_ne.mpr c5
    obtain rfl := Option.some.inj H
    have p4 : 0 ≤ (0 : Int) := (by omega)
    have q4 : 0 < a0.size := (by have : (0 : Int) < (a0.size : Int) := of_decide_eq_true (by first | (with_reducible assumption) | assumption); omega)
    have hx4 : ∀ h : 0 < a0.size, ((a0[0]'h).toNat : Int) = bt a0 0 := bt_at a0 0
    clear p4
    have qi4 : (0 < (a0.size : Int)) = True := eq_true (of_decide_eq_true (by first | (with_reducible assumption) | assumption))
    replace q4 := eq_true q4
  case' b17_ =>
   rw [if_neg c3] at H
   exact absurd H (by simp)

 case a16_ | b16_ =>
  go_enter Tryd.func36, Tryd.ntmps36
  go_wp2
  go_ret
  exact ⟨rfl_, Bu HB⟩
/-! ### moment_reader_fraction: function 37 -/
/-- Digits: the first three as a number, how many, what is left. -/
def fracGo : Nat → Nat → List UInt8 → Nat × Nat × List UInt8
  | n, m, [] => (n, m, [])
  | n, m, c :: l => if 48 ≤ c.toNat ∧ c.toNat ≤ 57 then fracGo (if m < 3 then 10 * n + (c.toNat - 48) else n) (m + 1) l else (n, m, c :: l)
def fracL (l : List UInt8) : Option (Nat × List UInt8) :=
  if ([46] : List UInt8).isPrefixOf l = true then
    if (fracGo 0 0 (l.drop 1)).2.1 < 1 ∨ 9 < (fracGo 0 0 (l.drop 1)).2.1 then none else some ((fracGo 0 0 (l.drop 1)).1 * 10 ^ (3 - (fracGo 0 0 (l.drop 1)).2.1), (fracGo 0 0 (l.drop 1)).2.2)
  else some (0, l)
theorem number_one (c : UInt8) (t : List UInt8) (h : 48 ≤ c.toNat ∧ c.toNat ≤ 57) : numberL 1 0 9 (c :: t) = some (c.toNat - 48, t) := by
  unfold numberL
  rw [numL, if_pos h, numL]
  show (if _ then _ else _) = _
  rw [if_neg (by simp; omega)]
  simp
def moment_reader_fraction.Inv (b : Nat) (l : List UInt8) (w wr : World) (v3 v4 : Value) : Prop :=
  ∃ (n m : Nat) (l' : List UInt8), v3 = .int .i64 n ∧ v4 = .int .i64 m ∧ m + l'.length = l.length ∧ n + 1 ≤ 10 ^ min m 3 ∧ fracGo 0 0 l = fracGo n m l' ∧ Rdr b l' wr ∧ KB b w wr
theorem pow3 (n m : Nat) (h : n + 1 ≤ 10 ^ min m 3) (hm : 1 ≤ m) : n * 10 ^ (3 - m) < 1000 := by
  rcases (show m = 1 ∨ m = 2 ∨ 3 ≤ m by omega) with rfl | rfl | h3
  · simp at h ⊢; omega
  · simp at h ⊢; omega
  · rw [show min m 3 = 3 by omega] at h; rw [show 3 - m = 0 by omega]; simp at h ⊢; omega
theorem pow3s (n m N : Nat) (h : n * 10 ^ (3 - m) = N) (hm : m < 3) : n * 10 ≤ N ∧ n * 10 * 10 ^ (3 - (m + 1)) = N := by
  rcases (show m = 0 ∨ m = 1 ∨ m = 2 by omega) with rfl | rfl | rfl
  · simp at h ⊢; omega
  · simp at h ⊢; omega
  · simp at h ⊢; omega
def moment_reader_fraction.Inv2 (b : Nat) (N : Nat) (l' : List UInt8) (w wr : World) (v3 v4 : Value) : Prop :=
  ∃ (n m : Nat), v3 = .int .i64 n ∧ v4 = .int .i64 m ∧ m ≤ 9 ∧ n < 1000 ∧ n * 10 ^ (3 - m) = N ∧ N < 1000 ∧ Rdr b l' wr ∧ KB b w wr
set_option maxRecDepth 100000 in
set_option maxHeartbeats 4000000 in
theorem moment_reader_fraction.any (b : Nat) (l : List UInt8) (w : World) (h : Rdr b l w) (hl : l.length ≤ 1000000) :
    Calls Tryd.prog 37 #[.pointer (some ⟨b, 0, none⟩)] w fun e w' =>
      KB b w w' ∧ ((∃ (n : Nat) (l' : List UInt8), fracL l = some (n, l') ∧ e = .returned (.int .i64 n) ∧ Rdr b l' w') ∨ (fracL l = none ∧ e = .panicked wrongV)) := by
  have hp := prefix_f l [46]
  have hc := h.cell
  have hf := h.frozen
  by_cases h46 : ([46] : List UInt8).isPrefixOf l = true
  · rw [h46] at hp
    obtain ⟨t, rfl⟩ : ∃ t, l = 46 :: t := by
      obtain ⟨t, ht⟩ := List.isPrefixOf_iff_prefix.1 h46
      exact ⟨t, ht.symm⟩
    have hfl := Aside0.mk (show fracL (46 :: t) = if (fracGo 0 0 t).2.1 < 1 ∨ 9 < (fracGo 0 0 t).2.1 then none else some ((fracGo 0 0 t).1 * 10 ^ (3 - (fracGo 0 0 t).2.1), (fracGo 0 0 t).2.2) by
      unfold fracL; rw [if_pos h46]; rfl)
    have hsz : (bl (46 :: t)).size = t.length + 1 := by rw [bl_size]; rfl
    have q3 : (1 : Int) ≤ ((bl (46 :: t)).size : Int) := by omega
    have e1 := Aside0.mk (show (bl (46 :: t)).extract 1 (t.length + 1) = bl t by rw [← hsz]; exact bl_drop (46 :: t) 1)
    have H := Aside0.mk h
    have HP := Aside0.mk hp
    clear h h46 hp
    simp only [List.length_cons] at hl
    go_enter Tryd.func37, Tryd.ntmps37
    go_wp2_with (go_at_call 44; refine (strings_HasPrefix.calls _ _ _ _ HP.out).mono ?_; rintro e w1 ⟨rfl, nd, rfl⟩)
    rw [e1.out]
    have ST := Aside0.mk (show Rdr b t ((w.drewN nd).setCell ⟨b, 0, none⟩ (.string (bl t))) ∧ KB b w ((w.drewN nd).setCell ⟨b, 0, none⟩ (.string (bl t))) from ⟨(H.out.drewN nd).set t, (KB.drewN b w nd).trans (KB.set b _ _)⟩)
    generalize (w.drewN nd).setCell ⟨b, 0, none⟩ (.string (bl t)) = W0 at ST ⊢
    clear hc hf e1 HP H
    go_loopw [3, 4] (fun v3 v4 wr => Aside0 (moment_reader_fraction.Inv b t w wr v3 v4)) (fun _ v4 _ => t.length - (intOf v4).toNat)
    case atStart => exact ⟨0, 0, t, rfl, rfl, by simp, by simp, rfl, ST.out.1, ST.out.2⟩
    case round =>
      obtain ⟨n, m, l', rfl, rfl, hm, hn, he, hr, hB⟩ := hrel.out
      clear hrel ST
      have h1 := Aside0.mk hr
      have h2 := Aside0.mk hB
      have h3 := Aside0.mk he
      have hc := hr.cell
      have hf := hr.frozen
      have h10 : 10 ^ min m 3 ≤ 10 ^ 3 := Nat.pow_le_pow_right (by decide) (by omega)
      clear hr hB he
      cases l' with
      | nil =>
        have hz : bl [] = ⟨#[]⟩ := rfl
        rw [hz] at hc
        have HF := Aside0.mk (show fracGo 0 0 t = (n, m, []) by rw [h3.out]; rfl)
        clear h3
        rw [HF.out] at hfl
        by_cases hm1 : m < 1 ∨ 9 < m
        · have hnone := Aside0.mk (hfl.out.trans (if_pos hm1))
          by_cases hm2 : (m : Int) < 1
          · go_wp2
            exact ⟨rfl, h2.out, .inr ⟨hnone.out, rfl⟩⟩
          · have hm3 : 9 < (m : Int) := by omega
            go_wp2
            exact ⟨rfl, h2.out, .inr ⟨hnone.out, rfl⟩⟩
        · have hsome := Aside0.mk (hfl.out.trans (if_neg hm1))
          have hm2 : ¬ (m : Int) < 1 := by omega
          have hm3 : ¬ 9 < (m : Int) := by omega
          have hN := pow3 n m hn (by omega)
          obtain ⟨N, hNe⟩ : ∃ N, N = n * 10 ^ (3 - m) := ⟨_, rfl⟩
          rw [← hNe] at hN hsome
          have HNe := Aside0.mk hNe
          clear hNe
          go_wp2
          go_loopw [3, 4] (fun v3 v4 wr => Aside0 (moment_reader_fraction.Inv2 b N ([]) w wr v3 v4)) (fun _ v4 _ => 3 - (intOf v4).toNat)
          case atStart => exact ⟨n, m, rfl, rfl, by omega, by omega, HNe.out.symm, hN, h1.out, h2.out⟩
          case round =>
            obtain ⟨n1, m1, rfl, rfl, hm4, hn4, hN4, hN5, hr4, hB4⟩ := hrel.out
            clear hrel h1 h2
            have h1 := Aside0.mk hr4
            have h2 := Aside0.mk hB4
            have h3 := Aside0.mk hN4
            clear hr4 hB4 hN4
            by_cases hlt : (m1 : Int) < 3
            · have hx := pow3s n1 m1 N h3.out (by omega)
              go_wp2
              go_roundw
              case rel => exact ⟨n1 * 10, m1 + 1, by first | (push_cast; rfl) | (congr 1; unfold wrap64; push_cast; omega) | (congr 1; push_cast; omega), by push_cast; rfl, by omega, by omega, hx.2, hN5, h1.out, h2.out⟩
              case measure => simp [intOf]; omega
            · have hx : n1 = N := by have := h3.out; rw [show 3 - m1 = 0 by omega] at this; omega
              subst hx
              go_wp2
              go_ret
              exact ⟨h2.out, .inl ⟨_, _, hsome.out, rfl, h1.out⟩⟩
      | cons c t' =>
        have hi := bl_index c t'
        have hc8 := c.toNat_lt
        have hsz' : (bl (c :: t')).size = t'.length + 1 := by rw [bl_size]; rfl
        have q2 : ¬ (bl (c :: t')).toList = [] := by rw [bl_list]; simp
        have q1 : (bl (c :: t')).toList.isEmpty = false := by rw [bl_list]; rfl
        simp only [List.length_cons] at hm
        by_cases hd : 48 ≤ c.toNat ∧ c.toNat ≤ 57
        · have hd1 : (48 : Int) ≤ (c.toNat : Int) := by omega
          have hd2 : (c.toNat : Int) ≤ 57 := by omega
          have hno := Aside0.mk (number_one c t' hd)
          have h4 := Aside0.mk (show fracGo 0 0 t = fracGo (if m < 3 then 10 * n + (c.toNat - 48) else n) (m + 1) t' by rw [h3.out, fracGo, if_pos hd])
          by_cases hm3 : (m : Int) < 3
          · go_wp2_with (go_at_call 34; refine (moment_reader_number.any b 1 0 9 (c :: t') _ h1.out (by decide)).mono ?_; rintro e w2 ⟨hB2, ⟨n2, l2, hn2, rfl, hr2⟩ | ⟨hn2, rfl⟩⟩; rotate_left; (exact absurd (hno.out.symm.trans hn2) (by simp)); have k1 := Aside0.mk hB2; have k2 := Aside0.mk hr2; have k3 := Aside0.mk (hno.out.symm.trans hn2); clear hB2 hr2 hn2)
            go_roundw
            case rel =>
              have e := k3.out
              simp only [Option.some.injEq, Prod.mk.injEq] at e
              obtain ⟨rfl, rfl⟩ := e
              refine ⟨10 * n + (c.toNat - 48), m + 1, t', ?_, by push_cast; rfl, by omega, ?_, ?_, k2.out, h2.out.trans k1.out⟩
              · congr 1
                first | (push_cast; omega) | (unfold wrap64; push_cast; omega)
              · have : 10 ^ min (m + 1) 3 = 10 ^ min m 3 * 10 := by rw [show min (m + 1) 3 = min m 3 + 1 by omega, Nat.pow_succ]
                omega
              · rw [h4.out, if_pos (by omega)]
            case measure => simp [intOf]; omega
          · go_wp2_with (go_at_call 34; refine (moment_reader_number.any b 1 0 9 (c :: t') _ h1.out (by decide)).mono ?_; rintro e w2 ⟨hB2, ⟨n2, l2, hn2, rfl, hr2⟩ | ⟨hn2, rfl⟩⟩; rotate_left; (exact absurd (hno.out.symm.trans hn2) (by simp)); have k1 := Aside0.mk hB2; have k2 := Aside0.mk hr2; have k3 := Aside0.mk (hno.out.symm.trans hn2); clear hB2 hr2 hn2)
            go_roundw
            case rel =>
              have e := k3.out
              simp only [Option.some.injEq, Prod.mk.injEq] at e
              obtain ⟨rfl, rfl⟩ := e
              refine ⟨n, m + 1, t', rfl, by push_cast; rfl, by omega, ?_, ?_, k2.out, h2.out.trans k1.out⟩
              · rw [show min (m + 1) 3 = min m 3 by omega]; exact hn
              · rw [h4.out, if_neg (by omega)]
            case measure => simp [intOf]; omega
        · have hR : fracGo n m (c :: t') = (n, m, c :: t') := by rw [fracGo, if_neg hd]
          by_cases hd1 : (48 : Int) ≤ (c.toNat : Int)
          · have hd2 : ¬ (c.toNat : Int) ≤ 57 := by omega
            have HF := Aside0.mk (show fracGo 0 0 t = (n, m, c :: t') by rw [h3.out]; exact hR)
            clear h3
            rw [HF.out] at hfl
            by_cases hm1 : m < 1 ∨ 9 < m
            · have hnone := Aside0.mk (hfl.out.trans (if_pos hm1))
              by_cases hm2 : (m : Int) < 1
              · go_wp2
                exact ⟨rfl, h2.out, .inr ⟨hnone.out, rfl⟩⟩
              · have hm3 : 9 < (m : Int) := by omega
                go_wp2
                exact ⟨rfl, h2.out, .inr ⟨hnone.out, rfl⟩⟩
            · have hsome := Aside0.mk (hfl.out.trans (if_neg hm1))
              have hm2 : ¬ (m : Int) < 1 := by omega
              have hm3 : ¬ 9 < (m : Int) := by omega
              have hN := pow3 n m hn (by omega)
              obtain ⟨N, hNe⟩ : ∃ N, N = n * 10 ^ (3 - m) := ⟨_, rfl⟩
              rw [← hNe] at hN hsome
              have HNe := Aside0.mk hNe
              clear hNe
              go_wp2
              go_loopw [3, 4] (fun v3 v4 wr => Aside0 (moment_reader_fraction.Inv2 b N (c :: t') w wr v3 v4)) (fun _ v4 _ => 3 - (intOf v4).toNat)
              case atStart => exact ⟨n, m, rfl, rfl, by omega, by omega, HNe.out.symm, hN, h1.out, h2.out⟩
              case round =>
                obtain ⟨n1, m1, rfl, rfl, hm4, hn4, hN4, hN5, hr4, hB4⟩ := hrel.out
                clear hrel h1 h2
                have h1 := Aside0.mk hr4
                have h2 := Aside0.mk hB4
                have h3 := Aside0.mk hN4
                clear hr4 hB4 hN4
                by_cases hlt : (m1 : Int) < 3
                · have hx := pow3s n1 m1 N h3.out (by omega)
                  go_wp2
                  go_roundw
                  case rel => exact ⟨n1 * 10, m1 + 1, by first | (push_cast; rfl) | (congr 1; unfold wrap64; push_cast; omega) | (congr 1; push_cast; omega), by push_cast; rfl, by omega, by omega, hx.2, hN5, h1.out, h2.out⟩
                  case measure => simp [intOf]; omega
                · have hx : n1 = N := by have := h3.out; rw [show 3 - m1 = 0 by omega] at this; omega
                  subst hx
                  go_wp2
                  go_ret
                  exact ⟨h2.out, .inl ⟨_, _, hsome.out, rfl, h1.out⟩⟩
          · skip
            have HF := Aside0.mk (show fracGo 0 0 t = (n, m, c :: t') by rw [h3.out]; exact hR)
            clear h3
            rw [HF.out] at hfl
            by_cases hm1 : m < 1 ∨ 9 < m
            · have hnone := Aside0.mk (hfl.out.trans (if_pos hm1))
              by_cases hm2 : (m : Int) < 1
              · go_wp2
                exact ⟨rfl, h2.out, .inr ⟨hnone.out, rfl⟩⟩
              · have hm3 : 9 < (m : Int) := by omega
                go_wp2
                exact ⟨rfl, h2.out, .inr ⟨hnone.out, rfl⟩⟩
            · have hsome := Aside0.mk (hfl.out.trans (if_neg hm1))
              have hm2 : ¬ (m : Int) < 1 := by omega
              have hm3 : ¬ 9 < (m : Int) := by omega
              have hN := pow3 n m hn (by omega)
              obtain ⟨N, hNe⟩ : ∃ N, N = n * 10 ^ (3 - m) := ⟨_, rfl⟩
              rw [← hNe] at hN hsome
              have HNe := Aside0.mk hNe
              clear hNe
              go_wp2
              go_loopw [3, 4] (fun v3 v4 wr => Aside0 (moment_reader_fraction.Inv2 b N (c :: t') w wr v3 v4)) (fun _ v4 _ => 3 - (intOf v4).toNat)
              case atStart => exact ⟨n, m, rfl, rfl, by omega, by omega, HNe.out.symm, hN, h1.out, h2.out⟩
              case round =>
                obtain ⟨n1, m1, rfl, rfl, hm4, hn4, hN4, hN5, hr4, hB4⟩ := hrel.out
                clear hrel h1 h2
                have h1 := Aside0.mk hr4
                have h2 := Aside0.mk hB4
                have h3 := Aside0.mk hN4
                clear hr4 hB4 hN4
                by_cases hlt : (m1 : Int) < 3
                · have hx := pow3s n1 m1 N h3.out (by omega)
                  go_wp2
                  go_roundw
                  case rel => exact ⟨n1 * 10, m1 + 1, by first | (push_cast; rfl) | (congr 1; unfold wrap64; push_cast; omega) | (congr 1; push_cast; omega), by push_cast; rfl, by omega, by omega, hx.2, hN5, h1.out, h2.out⟩
                  case measure => simp [intOf]; omega
                · have hx : n1 = N := by have := h3.out; rw [show 3 - m1 = 0 by omega] at this; omega
                  subst hx
                  go_wp2
                  go_ret
                  exact ⟨h2.out, .inl ⟨_, _, hsome.out, rfl, h1.out⟩⟩
  · rw [Bool.eq_false_iff.2 h46] at hp
    have hfl := Aside0.mk (show fracL l = some (0, l) from if_neg h46)
    have H := Aside0.mk h
    have HP := Aside0.mk hp
    clear h h46 hp
    go_enter Tryd.func37, Tryd.ntmps37
    go_wp2_with (go_at_call 44; refine (strings_HasPrefix.calls _ _ _ _ HP.out).mono ?_; rintro e w1 ⟨rfl, nd, rfl⟩)
    go_ret
    exact ⟨KB.drewN b w nd, .inl ⟨0, _, hfl.out, rfl, H.out.drewN nd⟩⟩

/-! ### moment_reader_offset: function 38 -/
theorem numberL_range {k : Nat} {lo hi : Int} {l l' : List UInt8} {n : Nat} (h : numberL k lo hi l = some (n, l')) : lo ≤ n ∧ (n : Int) ≤ hi := by
  unfold numberL at h
  obtain ⟨p, _, h⟩ := Option.bind_eq_some_iff.1 h
  split at h
  · cases h
  · obtain rfl := Option.some.inj h
    omega
/-- What follows the sign of an offset. -/
def offR (way : Int) (l : List UInt8) : Option (Int × List UInt8) :=
  (numberL 2 0 14 l).bind fun p => (signL [58] p.2).bind fun l3 => (numberL 2 0 59 l3).bind fun q => if p.1 = 14 ∧ 0 < q.1 then none else some (way * (p.1 * 3600000 + q.1 * 60000), q.2)
def offL (l : List UInt8) : Option (Int × List UInt8) :=
  if l = [90] then some (0, []) else if ([45] : List UInt8).isPrefixOf l = true then offR (-1) (l.drop 1) else (signL [43] l).bind (offR 1)
set_option maxRecDepth 100000 in
set_option maxHeartbeats 4000000 in
theorem moment_reader_offset.any (b : Nat) (l : List UInt8) (w : World) (h : Rdr b l w) :
    Calls Tryd.prog 38 #[.pointer (some ⟨b, 0, none⟩)] w fun e w' =>
      KB b w w' ∧ ((∃ (n : Int) (l' : List UInt8), offL l = some (n, l') ∧ e = .returned (.int .i64 n) ∧ Rdr b l' w') ∨ (offL l = none ∧ e = .panicked wrongV)) := by
  have hc := h.cell
  have hf := h.frozen
  by_cases hZ : l = [90]
  · subst hZ
    have hz : bl [90] = ⟨#[90]⟩ := rfl
    have hofl := Aside0.mk (show offL [90] = some (0, []) from rfl)
    have H := Aside0.mk h
    rw [hz] at hc
    clear h
    go_enter Tryd.func38, Tryd.ntmps38
    go_wp2
    go_ret
    exact ⟨KB.set b w _, .inl ⟨_, _, hofl.out, rfl, H.out.set []⟩⟩
  · have q2 : ¬ (bl l).toList = [90] := by rw [bl_list]; exact hZ
    have q1 : ((bl l).toList == [90]) = false := by simpa using q2
    have hp := prefix_f l [45]
    have HR := Aside0.mk h
    have HK := Aside0.mk (KB.refl b w)
    by_cases h45 : ([45] : List UInt8).isPrefixOf l = true
    · rw [h45] at hp
      have hofl := Aside0.mk (show offL l = (signL [45] l).bind (offR (-1)) by unfold offL signL; rw [if_neg hZ, if_pos h45, if_pos h45]; rfl)
      have HP := Aside0.mk hp
      clear h hp hZ h45
      go_enter Tryd.func38, Tryd.ntmps38
      have G1 := trivial
      go_wp2_with (first | (go_at_call 44; have q_ := G1; clear q_ G1; have G2 := trivial; refine (strings_HasPrefix.calls _ _ _ _ HP.out).mono ?_; rintro e w1 ⟨rfl, nd, rfl⟩; have HR2 := Aside0.mk (HR.out.drewN nd); have HK2 := Aside0.mk (HK.out.trans (KB.drewN b _ nd)); clear HR HK; have HR := HR2; have HK := HK2; clear HR2 HK2) | (go_at_call 35; have q_ := G2; clear q_ G2; have G3 := trivial; refine (moment_reader_sign.any b [45] _ _ HR.out).mono ?_; rintro e w2 ⟨hB2, h2⟩; have HK2 := Aside0.mk (HK.out.trans hB2); clear HK hB2; have HK := HK2; clear HK2; rcases h2 with ⟨l2, hs2, rfl, hr2⟩ | ⟨hs2, rfl⟩; have ES := Aside0.mk hs2; have HR2 := Aside0.mk hr2; clear hs2 HR hr2; have HR := HR2; clear HR2; rotate_left; have ES := Aside0.mk hs2; clear hs2; rotate_left) | (go_at_call 34; have q_ := G3; clear q_ G3; have G4 := trivial; refine (moment_reader_number.any b 2 0 14 _ _ HR.out (by decide)).mono ?_; rintro e w2 ⟨hB2, h2⟩; have HK2 := Aside0.mk (HK.out.trans hB2); clear HK hB2; have HK := HK2; clear HK2; rcases h2 with ⟨n1, l3, hs2, rfl, hr2⟩ | ⟨hs2, rfl⟩; have EH := Aside0.mk hs2; have HR2 := Aside0.mk hr2; clear hs2 HR hr2; have HR := HR2; clear HR2; rotate_left; have EH := Aside0.mk hs2; clear hs2; rotate_left) | (go_at_call 35; have q_ := G4; clear q_ G4; have G5 := trivial; refine (moment_reader_sign.any b [58] _ _ HR.out).mono ?_; rintro e w2 ⟨hB2, h2⟩; have HK2 := Aside0.mk (HK.out.trans hB2); clear HK hB2; have HK := HK2; clear HK2; rcases h2 with ⟨l4, hs2, rfl, hr2⟩ | ⟨hs2, rfl⟩; have EC := Aside0.mk hs2; have HR2 := Aside0.mk hr2; clear hs2 HR hr2; have HR := HR2; clear HR2; rotate_left; have EC := Aside0.mk hs2; clear hs2; rotate_left) | (go_at_call 34; have q_ := G5; clear q_ G5; have G6 := trivial; refine (moment_reader_number.any b 2 0 59 _ _ HR.out (by decide)).mono ?_; rintro e w2 ⟨hB2, h2⟩; have HK2 := Aside0.mk (HK.out.trans hB2); clear HK hB2; have HK := HK2; clear HK2; rcases h2 with ⟨n2, l5, hs2, rfl, hr2⟩ | ⟨hs2, rfl⟩; have EM := Aside0.mk hs2; have HR2 := Aside0.mk hr2; clear hs2 HR hr2; have HR := HR2; clear HR2; rotate_left; have EM := Aside0.mk hs2; clear hs2; rotate_left))
      all_goals first
        | (refine ⟨rfl, HK.out, .inr ⟨hofl.out.trans ?_, rfl⟩⟩
           rw [ES.out]
           first
             | rfl
             | (show offR _ _ = none
                unfold offR
                rw [EH.out]
                first
                  | rfl
                  | (simp only [Option.bind_some]
                     rw [EC.out]
                     first
                       | rfl
                       | (simp only [Option.bind_some]
                          rw [EM.out]
                          first
                            | rfl
                            | (simp only [Option.bind_some]; exact if_pos ⟨by omega, by omega⟩)))))
        | (go_ret
           refine ⟨HK.out, .inl ⟨-1 * ((n1 : Int) * 3600000 + (n2 : Int) * 60000), l5, hofl.out.trans ?_, ?_, HR.out⟩⟩
           · rw [ES.out]
             show offR _ _ = _
             unfold offR
             rw [EH.out]
             simp only [Option.bind_some]
             rw [EC.out]
             simp only [Option.bind_some]
             rw [EM.out]
             simp only [Option.bind_some]
             exact if_neg (by omega)
           · have r1 := numberL_range EH.out
             have r2 := numberL_range EM.out
             show Ending.returned (.int .i64 _) = _
             congr 2
             first | omega | (unfold wrap64; omega))
    · rw [Bool.eq_false_iff.2 h45] at hp
      have hofl := Aside0.mk (show offL l = (signL [43] l).bind (offR 1) by unfold offL; rw [if_neg hZ, if_neg h45])
      have HP := Aside0.mk hp
      clear h hp hZ h45
      go_enter Tryd.func38, Tryd.ntmps38
      have G1 := trivial
      go_wp2_with (first | (go_at_call 44; have q_ := G1; clear q_ G1; have G2 := trivial; refine (strings_HasPrefix.calls _ _ _ _ HP.out).mono ?_; rintro e w1 ⟨rfl, nd, rfl⟩; have HR2 := Aside0.mk (HR.out.drewN nd); have HK2 := Aside0.mk (HK.out.trans (KB.drewN b _ nd)); clear HR HK; have HR := HR2; have HK := HK2; clear HR2 HK2) | (go_at_call 35; have q_ := G2; clear q_ G2; have G3 := trivial; refine (moment_reader_sign.any b [43] _ _ HR.out).mono ?_; rintro e w2 ⟨hB2, h2⟩; have HK2 := Aside0.mk (HK.out.trans hB2); clear HK hB2; have HK := HK2; clear HK2; rcases h2 with ⟨l2, hs2, rfl, hr2⟩ | ⟨hs2, rfl⟩; have ES := Aside0.mk hs2; have HR2 := Aside0.mk hr2; clear hs2 HR hr2; have HR := HR2; clear HR2; rotate_left; have ES := Aside0.mk hs2; clear hs2; rotate_left) | (go_at_call 34; have q_ := G3; clear q_ G3; have G4 := trivial; refine (moment_reader_number.any b 2 0 14 _ _ HR.out (by decide)).mono ?_; rintro e w2 ⟨hB2, h2⟩; have HK2 := Aside0.mk (HK.out.trans hB2); clear HK hB2; have HK := HK2; clear HK2; rcases h2 with ⟨n1, l3, hs2, rfl, hr2⟩ | ⟨hs2, rfl⟩; have EH := Aside0.mk hs2; have HR2 := Aside0.mk hr2; clear hs2 HR hr2; have HR := HR2; clear HR2; rotate_left; have EH := Aside0.mk hs2; clear hs2; rotate_left) | (go_at_call 35; have q_ := G4; clear q_ G4; have G5 := trivial; refine (moment_reader_sign.any b [58] _ _ HR.out).mono ?_; rintro e w2 ⟨hB2, h2⟩; have HK2 := Aside0.mk (HK.out.trans hB2); clear HK hB2; have HK := HK2; clear HK2; rcases h2 with ⟨l4, hs2, rfl, hr2⟩ | ⟨hs2, rfl⟩; have EC := Aside0.mk hs2; have HR2 := Aside0.mk hr2; clear hs2 HR hr2; have HR := HR2; clear HR2; rotate_left; have EC := Aside0.mk hs2; clear hs2; rotate_left) | (go_at_call 34; have q_ := G5; clear q_ G5; have G6 := trivial; refine (moment_reader_number.any b 2 0 59 _ _ HR.out (by decide)).mono ?_; rintro e w2 ⟨hB2, h2⟩; have HK2 := Aside0.mk (HK.out.trans hB2); clear HK hB2; have HK := HK2; clear HK2; rcases h2 with ⟨n2, l5, hs2, rfl, hr2⟩ | ⟨hs2, rfl⟩; have EM := Aside0.mk hs2; have HR2 := Aside0.mk hr2; clear hs2 HR hr2; have HR := HR2; clear HR2; rotate_left; have EM := Aside0.mk hs2; clear hs2; rotate_left))
      all_goals first
        | (refine ⟨rfl, HK.out, .inr ⟨hofl.out.trans ?_, rfl⟩⟩
           rw [ES.out]
           first
             | rfl
             | (show offR _ _ = none
                unfold offR
                rw [EH.out]
                first
                  | rfl
                  | (simp only [Option.bind_some]
                     rw [EC.out]
                     first
                       | rfl
                       | (simp only [Option.bind_some]
                          rw [EM.out]
                          first
                            | rfl
                            | (simp only [Option.bind_some]; exact if_pos ⟨by omega, by omega⟩)))))
        | (go_ret
           refine ⟨HK.out, .inl ⟨1 * ((n1 : Int) * 3600000 + (n2 : Int) * 60000), l5, hofl.out.trans ?_, ?_, HR.out⟩⟩
           · rw [ES.out]
             show offR _ _ = _
             unfold offR
             rw [EH.out]
             simp only [Option.bind_some]
             rw [EC.out]
             simp only [Option.bind_some]
             rw [EM.out]
             simp only [Option.bind_some]
             exact if_neg (by omega)
           · have r1 := numberL_range EH.out
             have r2 := numberL_range EM.out
             show Ending.returned (.int .i64 _) = _
             congr 2
             first | omega | (unfold wrap64; omega))

end Go.Proofs.YtcikjghmelbkaaaDoor.Hp
