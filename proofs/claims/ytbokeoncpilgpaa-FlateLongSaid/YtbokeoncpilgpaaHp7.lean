/- Go functions of this seat as Lean functions, and their contracts: what the Go code computes, for every input. (By hp.py, a program of this repo, over the kit's print.py.) -/
import Derived.Test.YtbokeoncpilgpaaHp0
import Derived.Test.YtbokeoncpilgpaaHp1
import Derived.Test.YtbokeoncpilgpaaHp2
import Derived.Test.YtbokeoncpilgpaaHp3
namespace Go.Proofs.Ytbokeoncpilgpaa.Hp
open Go.RowKit Go.Proofs.YtbokeoncpilgpaaW.PrintWords Go.Proofs.YtbokeoncpilgpaaW.PrintLast Go.Proofs.YtbokeoncpilgpaaW.PrintMore
attribute [local go_sem] max2_int min2_int max_two min_two max_three min_three max_four min_four   -- for this text's walks alone
set_option linter.unusedVariables false
set_option linter.unusedSimpArgs false

/-! ### lanyardref04_Stored: function 13 -/
def lanyardref04_Stored.f (l0 : List Int) : Option (List Int) := if l0.length ≤ 1099511627776 then some (storedL (l0.length + 1) l0) else none
def lanyardref04_Stored.Inv (w : World) (l0 : List Int) (wr : World) (v0 v3 : Value) : Prop :=
  ∃ (x y : List Int) (A : Option Addr) (c k : Nat), v0 = .slice A x.length c ∧ x.length ≤ c ∧ Kd.C (Kd.int .u8) w A x.length x ∧ Kd.R (Kd.int .u8) 5 wr w.heap.size (fun _ => True) v3 y ∧ y ++ storedL k x = storedL (l0.length + 1) l0 ∧ x.length < k ∧ y.length + 6 * x.length ≤ 6 * l0.length ∧ Below w.heap.size w wr
set_option maxHeartbeats 8000000 in
set_option maxRecDepth 100000 in
theorem lanyardref04_Stored.calls (A0 : Option Addr) (c0 : Nat) (l0 : List Int) (r : List Int) (w : World) (hr0 : Kd.C (Kd.int .u8) w A0 l0.length l0) (hc0 : l0.length ≤ c0) (h : lanyardref04_Stored.f l0 = some r) :
    Calls Try.prog 13 #[.slice A0 l0.length c0] w fun e w' => ∃ v0_ : Value, e = .returned (v0_) ∧ Kd.R (Kd.int .u8) 5 w' w.heap.size (fun _ => True) v0_ r ∧ Below w.heap.size w w' := by
  unfold lanyardref04_Stored.f at h
  by_cases hl0 : l0.length ≤ 1099511627776
  · rw [if_pos hl0] at h
    obtain rfl := Option.some.inj h
    have HR0 := Aside0.mk hr0
    have HC0 := Aside0.mk hc0
    have HL0 := Aside0.mk hl0
    clear hr0 hc0 h hl0
    obtain ⟨i0, hi0, _, hsz, _⟩ := info_parts info5
    have HI0 := Aside0.mk hi0
    have HSZ := Aside0.mk hsz
    clear hi0 hsz
    go_enter Try.func13, Try.ntmps13
    go_wp2
    go_loopw [0, 3] (fun v0 v3 wr => Aside0 (lanyardref04_Stored.Inv w l0 wr v0 v3)) (fun v0 _ _ => sliceLen v0)
    case atStart => exact ⟨l0, [], A0, c0, l0.length + 1, rfl, HC0.out, HR0.out, Kd.R_nil _ _ _ _ _, rfl, Nat.lt_succ_self _, by simp, Below.refl _ _⟩
    case round =>
      obtain ⟨x, y, A, c, k, rfl, hc, hC, hR, he, hk, hy, hB⟩ := hrel.out
      clear hrel
      obtain ⟨k, rfl⟩ : ∃ k2, k = k2 + 1 := ⟨k - 1, by omega⟩
      obtain ⟨A9, c9, rfl⟩ := Kd.R_slice hR
      have HR := Aside0.mk hR
      have HB := Aside0.mk hB
      have HA := Aside0.mk (show x.length ≤ c ∧ x.length < k + 1 ∧ y.length + 6 * x.length ≤ 6 * l0.length ∧ l0.length ≤ 1099511627776 from ⟨hc, hk, hy, HL0.out⟩)
      by_cases hx : x.length ≤ 65535
      · rw [storedL_last k x hx] at he
        have HE := Aside0.mk he
        obtain ⟨n, hn⟩ : ∃ n, x.length = n := ⟨_, rfl⟩
        have hxl : (x.length : Int) = (n : Int) := by rw [hn]
        have HN := Aside0.mk hn
        obtain ⟨a0, e0⟩ : ∃ a0, n % 256 = a0 := ⟨_, rfl⟩
        obtain ⟨a1, e1⟩ : ∃ a1, n / 256 = a1 := ⟨_, rfl⟩
        obtain ⟨b0, f0⟩ : ∃ b0, 255 - a0 = b0 := ⟨_, rfl⟩
        obtain ⟨b1, f1⟩ : ∃ b1, 255 - a1 = b1 := ⟨_, rfl⟩
        have ha1 : a1 < 256 := by omega
        have ha0 : a0 < 256 := by omega
        have HH := Aside0.mk (show stHead 1 x.length = [1, (a0 : Int), (a1 : Int), (b0 : Int), (b1 : Int)] by rw [hn, ← f0, ← f1, ← e0, ← e1]; rfl)
        have n1 : (n : Int) ≤ 65535 := by omega
        have m0 : (n : Int) % 256 = (a0 : Int) := by omega
        have m1 : (n : Int) / 256 = (a1 : Int) := by omega
        have m2 : Int.tmod (n : Int) 256 = (a0 : Int) := by rw [Int.tmod_eq_emod_of_nonneg (by omega)]; omega
        have m3 : Int.tdiv (n : Int) 256 = (a1 : Int) := by rw [Int.tdiv_eq_ediv_of_nonneg (by omega)]; omega
        have m4 : (a1 : Int) % 256 = (a1 : Int) := by omega
        have m5 : (a0 : Int) % 256 = (a0 : Int) := by omega
        have m6 : 255 - (a0 : Int) = (b0 : Int) := by omega
        have m7 : 255 - (a1 : Int) = (b1 : Int) := by omega
        have m8 : (b0 : Int) % 256 = (b0 : Int) := by omega
        have m9 : (b1 : Int) % 256 = (b1 : Int) := by omega
        have u0 : IntKind.u8.wrap (n : Int) = (a0 : Int) := by rw [IntKind.wrap_u8]; omega
        have u1 : IntKind.u8.wrap (a1 : Int) = (a1 : Int) := by rw [IntKind.wrap_u8]; omega
        have u2_ : IntKind.u8.wrap (a0 : Int) = (a0 : Int) := by rw [IntKind.wrap_u8]; omega
        have u3_ : IntKind.u8.wrap (b0 : Int) = (b0 : Int) := by rw [IntKind.wrap_u8]; omega
        have u4_ : IntKind.u8.wrap (b1 : Int) = (b1 : Int) := by rw [IntKind.wrap_u8]; omega
        have HT := Aside0.mk (show Kd.C (Kd.int .u8) w A n x by rw [← hn]; exact hC)
        have hcut1 := cut_to (P := Try.prog) 22 5 .i64 Try.underlying22 HI0.out A x.length c (n : Int) (by omega) (by omega) hc
        have hcut2 := cut_from (P := Try.prog) 22 5 .i64 Try.underlying22 HI0.out 1 HSZ.out A x.length c (n : Int) (by omega) (by omega)
        rw [Int.toNat_natCast] at hcut1 hcut2
        obtain ⟨A6, hA6⟩ : ∃ A6, (if c = n then A else A.map (·.add (n * 1))) = A6 := ⟨_, rfl⟩
        rw [hA6] at hcut2
        clear he hk hy hB hR hC hx hn e0 e1 f0 f1 hc hA6
        go_wp2_with (first
          | ((with_reducible refine gate_builtin (b := .append) (xs := #[.tmp 28, .tmp 31]) rfl ?_); at_builtin; have q_ := HO5; clear q_; refine Kd.R_append_rows (Kd.int .u8) (w0 := w) w.heap.size rfl (.tmp 28) (.tmp 31) 22 5 (.int .u8 0) 1 rfl Try.underlying22 info5 rfl (by decide) (by omega) v5 (y ++ ([1, (a0 : Int), (a1 : Int), (b0 : Int), (b1 : Int)])) (x) A n c (fun _ => True) (fun _ => False) rfl rfl ?aO ?aR (fun _ _ h => h) (fun _ h => h.elim) (fun _ _ => trivial) ?aB ?aS ?aL ?_; (case aO => exact HO5.out); (case aR => exact Kd.C_below HT.out HB5.out); (case aB => exact HB5.out); (case aS => exact HB5.out.size); (case aL => have := HA.out; rw [List.length_append]; show (y.length + 5 + _) * 1 ≤ _; omega); intro v6 w6 ho6 hb6 hg6 hat6; have HO6 := Aside0.mk ho6; have HB6 := Aside0.mk hb6; clear ho6 hb6 hg6 hat6)
          | ((with_reducible refine gate_builtin (b := .append) (xs := #[.tmp 10, .tmp 26]) rfl ?_); at_builtin; refine Kd.R_append_rows (Kd.int .u8) (w0 := w) w.heap.size rfl (.tmp 10) (.tmp 26) 22 5 (.int .u8 0) 1 rfl Try.underlying22 info5 rfl (by decide) (by omega) (.slice A9 y.length c9) y ([1, (a0 : Int), (a1 : Int), (b0 : Int), (b1 : Int)]) (some ⟨wr.heap.size, 0, none⟩) 5 5 (fun _ => True) (fun _ => False) rfl rfl ?aO ?aR (fun _ _ h => h) (fun _ h => h.elim) (fun _ _ => trivial) ?aB ?aS ?aL ?_; (case aO => exact Kd.R_alloc HR.out _); (case aR => exact lit_rows wr ([1, (a0 : Int), (a1 : Int), (b0 : Int), (b1 : Int)]) (show 5 ≤ 1000 by decide)); (case aB => exact HB.out.alloc HB.out.size _); (case aS => have := HB.out.size; simp; omega); (case aL => have := HA.out; omega); intro v5 w5 ho5 hb5 hg5 hat5; have HO5 := Aside0.mk ho5; have HB5 := Aside0.mk hb5; clear ho5 hb5 hg5 hat5))
        all_goals
          go_ret
          refine ⟨_, rfl, ?_, HB6.out⟩
          have e := HO6.out
          rw [List.append_assoc, ← HH.out, HE.out] at e
          exact e
      · rw [storedL_more k x hx] at he
        have HE := Aside0.mk he
        have hx1 : 65535 < (x.length : Int) := by omega
        have HH := Aside0.mk (show stHead 0 65535 = [0, 255, 255, 0, 0] by rfl)
        have hT := Kd.C_take (m := 65535) hC (by omega)
        have hTl : (x.take 65535).length = 65535 := by rw [List.length_take]; omega
        rw [hTl] at hT
        have HT := Aside0.mk hT
        have hD := Kd.C_drop (m := 65535) (c := c) hC (by omega) hc
        rw [show (Kd.int .u8).sz = 1 from rfl, Nat.mul_one] at hD
        have hDl : (x.drop 65535).length = x.length - 65535 := List.length_drop
        have hcut1 := cut_to (P := Try.prog) 22 5 .i64 Try.underlying22 HI0.out A x.length c 65535 (by omega) (by omega) hc
        have hcut2 := cut_from (P := Try.prog) 22 5 .i64 Try.underlying22 HI0.out 1 HSZ.out A x.length c 65535 (by omega) (by omega)
        rw [show (65535 : Int).toNat = 65535 from rfl] at hcut1 hcut2
        rw [Nat.mul_one] at hcut2
        obtain ⟨A6, hA6⟩ : ∃ A6, (if c = 65535 then A else A.map (·.add 65535)) = A6 := ⟨_, rfl⟩
        rw [hA6] at hD hcut2
        obtain ⟨x', hx'⟩ : ∃ x', x.drop 65535 = x' := ⟨_, rfl⟩
        rw [hx'] at hD hDl
        rw [← hDl] at hcut2
        have HD := Aside0.mk hD
        have HDL := Aside0.mk hDl
        have HX' := Aside0.mk hx'
        have HX := Aside0.mk hx
        clear he hk hy hB hR hC hx hT hTl hD hDl hA6 hx' hc
        go_wp2_with (first
          | ((with_reducible refine gate_builtin (b := .append) (xs := #[.tmp 28, .tmp 31]) rfl ?_); at_builtin; have q_ := HO5; clear q_; refine Kd.R_append_rows (Kd.int .u8) (w0 := w) w.heap.size rfl (.tmp 28) (.tmp 31) 22 5 (.int .u8 0) 1 rfl Try.underlying22 info5 rfl (by decide) (by omega) v5 (y ++ ([0, 255, 255, 0, 0])) (x.take 65535) A 65535 c (fun _ => True) (fun _ => False) rfl rfl ?aO ?aR (fun _ _ h => h) (fun _ h => h.elim) (fun _ _ => trivial) ?aB ?aS ?aL ?_; (case aO => exact HO5.out); (case aR => exact Kd.C_below HT.out HB5.out); (case aB => exact HB5.out); (case aS => exact HB5.out.size); (case aL => have := HA.out; rw [List.length_append]; show (y.length + 5 + _) * 1 ≤ _; omega); intro v6 w6 ho6 hb6 hg6 hat6; have HO6 := Aside0.mk ho6; have HB6 := Aside0.mk hb6; clear ho6 hb6 hg6 hat6)
          | ((with_reducible refine gate_builtin (b := .append) (xs := #[.tmp 10, .tmp 26]) rfl ?_); at_builtin; refine Kd.R_append_rows (Kd.int .u8) (w0 := w) w.heap.size rfl (.tmp 10) (.tmp 26) 22 5 (.int .u8 0) 1 rfl Try.underlying22 info5 rfl (by decide) (by omega) (.slice A9 y.length c9) y ([0, 255, 255, 0, 0]) (some ⟨wr.heap.size, 0, none⟩) 5 5 (fun _ => True) (fun _ => False) rfl rfl ?aO ?aR (fun _ _ h => h) (fun _ h => h.elim) (fun _ _ => trivial) ?aB ?aS ?aL ?_; (case aO => exact Kd.R_alloc HR.out _); (case aR => exact lit_rows wr ([0, 255, 255, 0, 0]) (show 5 ≤ 1000 by decide)); (case aB => exact HB.out.alloc HB.out.size _); (case aS => have := HB.out.size; simp; omega); (case aL => have := HA.out; omega); intro v5 w5 ho5 hb5 hg5 hat5; have HO5 := Aside0.mk ho5; have HB5 := Aside0.mk hb5; clear ho5 hb5 hg5 hat5))
        go_roundw
        case rel =>
          have e := HO6.out
          rw [← HH.out] at e
          have he := HE.out
          have hl : (y ++ stHead 0 65535 ++ x.take 65535).length = y.length + 5 + 65535 := by rw [List.length_append, List.length_append, List.length_take]; have := HX.out; show y.length + 5 + _ = _; omega
          refine ⟨x', _, A6, c - 65535, k, rfl, by have := HA.out; have := HDL.out; omega, HD.out, e, ?_, by have := HA.out; have := HDL.out; have := HX.out; omega, by rw [hl]; have := HA.out; have := HDL.out; have := HX.out; omega, HB6.out⟩
          rw [← he, ← HX'.out, List.append_assoc, List.append_assoc, List.append_assoc]
        case measure =>
          show x'.length < x.length
          have := HDL.out; have := HX.out
          omega
  · rw [if_neg hl0] at h
    cases h

/-! ### flate_reader_coded: function 42 -/
/-- One sign of a block, and on. -/
def codedStep (B : List Int) (c1 : List Nat) (s1 : List Int) (c2 : List Nat) (s2 : List Int) (m : Int) (K : Nat → List Int → Except Int (Nat × List Int)) (t : Nat) (O : List Int) : Except Int (Nat × List Int) :=
  match signL B c1 s1 t with
  | .error e => .error e
  | .ok (s, t2) =>
    if s = 256 then .ok (t2, O)
    else if 285 < s then .error 10
    else if 256 < s then match copyL B c2 s2 s.toNat t2 O m with
      | .error e => .error e
      | .ok (t3, O3) => K t3 O3
    else if m < (O.length : Int) + 1 then .error 12 else K t2 (O ++ [s])
def codedL (B : List Int) (c1 : List Nat) (s1 : List Int) (c2 : List Nat) (s2 : List Int) (m : Int) : Nat → Nat → List Int → Except Int (Nat × List Int)
  | 0 => fun _ _ => .error 99
  | f + 1 => codedStep B c1 s1 c2 s2 m (codedL B c1 s1 c2 s2 m f)
set_option maxRecDepth 100000 in
theorem codedL_err {B : List Int} {c1 : List Nat} {s1 : List Int} {t : Nat} {e : Int} (c2 : List Nat) (s2 : List Int) (m : Int) (f : Nat) (O : List Int) (h : signL B c1 s1 t = .error e) : codedL B c1 s1 c2 s2 m (f + 1) t O = .error e := by
  show codedStep B c1 s1 c2 s2 m _ t O = _
  unfold codedStep
  rw [h]
set_option maxRecDepth 100000 in
theorem codedL_ok {B : List Int} {c1 : List Nat} {s1 : List Int} {t t2 s : Nat} (c2 : List Nat) (s2 : List Int) (m : Int) (f : Nat) (O : List Int) (h : signL B c1 s1 t = .ok ((s : Int), t2)) : codedL B c1 s1 c2 s2 m (f + 1) t O =
    (if (s : Int) = 256 then .ok (t2, O) else if 285 < (s : Int) then .error 10 else if 256 < (s : Int) then match copyL B c2 s2 s t2 O m with | .error e => .error e | .ok (t3, O3) => codedL B c1 s1 c2 s2 m f t3 O3 else if m < (O.length : Int) + 1 then .error 12 else codedL B c1 s1 c2 s2 m f t2 (O ++ [(s : Int)])) := by
  show codedStep B c1 s1 c2 s2 m _ t O = _
  unfold codedStep
  rw [h]
  simp only [Int.toNat_natCast]
theorem copyH_ok {B : List Int} {n f0 y t2 t' : Nat} {O O' : List Int} {m : Int} (h : copyH B n f0 y t2 O m = .ok (t', O')) : t2 ≤ t' := by
  unfold copyH at h
  split at h
  · cases h
  · split at h
    · cases h
    · split at h
      · cases h
      · simp only [Except.ok.injEq, Prod.mk.injEq] at h
        omega
theorem copyL_ok {B : List Int} {cnt : List Nat} {sg : List Int} {s t t' : Nat} {O O' : List Int} {m : Int} (hn : ∀ x ∈ sg, 0 ≤ x) (h : copyL B cnt sg s t O m = .ok (t', O')) : t < t' := by
  unfold copyL copyG at h
  split at h
  · cases h
  · split at h
    · cases h
    · rename_i d t2 hs
      have := (signL_ok hn hs).2.1
      split at h
      · cases h
      · have := copyH_ok h
        omega
/-- Where the reader stands. -/
def atOf (w : World) (q : Nat) : Nat := (intOf ((w.cell? ⟨q, 1, none⟩).getD undef)).toNat
theorem Rdr.atOf {w0 : World} {q : Nat} {B : List Int} {t : Nat} {v : Value} {m : Int} {w : World} (h : Rdr w0 q B t v m w) : atOf w q = t := by
  obtain ⟨⟨A, c, hb, _⟩, _⟩ := h
  have : w.cell? ⟨q, 1, none⟩ = some (.int .i64 t) := by rw [Lib.cell_of_heap hb]; rfl
  unfold Hp.atOf
  rw [this]
  rfl
theorem Bk.ko {w0 : World} {kb q : Nat} {S ok : Nat → Prop} {cnt : List Nat} {sg : List Int} {w w' : World} (h : Bk kb S cnt sg w) (hq : ¬ S q) (ho : ∀ k, S k → ¬ ok k) (hk : KO w0 q ok w w') : Bk kb S cnt sg w' :=
  h.kept (fun k hS hlt => hk.1.2 k hlt (fun e => e.elim (fun e => hq (e ▸ hS)) (ho k hS)))
def flate_reader_coded.Inv (w0 : World) (q : Nat) (B O : List Int) (t : Nat) (m : Int) (ok : Nat → Prop) (c1 : List Nat) (s1 : List Int) (c2 : List Nat) (s2 : List Int) (f : Nat) (w wr : World) : Prop :=
  ∃ (f1 t1 : Nat) (O1 : List Int), 8 * B.length - t1 < f1 ∧ codedL B c1 s1 c2 s2 m f1 t1 O1 = codedL B c1 s1 c2 s2 m f t O ∧ Rdo w0 q B t1 O1 m ok wr ∧ KO w0 q ok w wr
set_option maxRecDepth 100000 in
set_option maxHeartbeats 16000000 in
theorem flate_reader_coded.any (w0 : World) (q : Nat) (B O : List Int) (t : Nat) (m : Int) (ok : Nat → Prop) (S : Nat → Prop) (k1 : Nat) (cnt1 : List Nat) (sg1 : List Int) (k2 : Nat) (cnt2 : List Nat) (sg2 : List Int) (f : Nat) (w : World) (h : Rdo w0 q B t O m ok w) (hok : ∀ k, w.heap.size ≤ k → ok k) (hm : 0 ≤ m ∧ m ≤ 9223372036854775807) (hf : 8 * B.length - t < f)
    (hb1 : Bk k1 S cnt1 sg1 w) (hb2 : Bk k2 S cnt2 sg2 w) (hS : ¬ S q ∧ ∀ k, S k → ¬ ok k) (hw1 : BW cnt1 sg1) (hw2 : BW cnt2 sg2) :
    Calls Try.prog 42 #[.pointer (some ⟨q, 0, none⟩), .pointer (some ⟨k1, 0, none⟩), .pointer (some ⟨k2, 0, none⟩)] w fun e w' =>
      KO w0 q ok w w' ∧ ((∃ t' O', codedL B cnt1 sg1 cnt2 sg2 m f t O = .ok (t', O') ∧ e = .returned (.tuple #[]) ∧ Rdo w0 q B t' O' m ok w') ∨ (∃ x, codedL B cnt1 sg1 cnt2 sg2 m f t O = .error x ∧ e = .panicked (faultV x))) := by
  have H0 := Aside0.mk h
  have HOK := Aside0.mk hok
  have HM := Aside0.mk hm
  have HF := Aside0.mk hf
  have HB1 := Aside0.mk hb1
  have HB2 := Aside0.mk hb2
  have HS := Aside0.mk hS
  have HW1 := Aside0.mk hw1
  have HW2 := Aside0.mk hw2
  have HQ := Aside0.mk (show w0.heap.size ≤ q from h.choose_spec.1.2.2.2.2.1)
  clear h hok hm hf hb1 hb2 hS hw1 hw2
  go_enter Try.func42, Try.ntmps42
  go_wp2
  go_loopw [6] (fun _ wr => Aside0 (flate_reader_coded.Inv w0 q B O t m ok cnt1 sg1 cnt2 sg2 f w wr)) (fun _ wr => 8 * B.length - atOf wr q)
  case atStart => exact ⟨f, t, O, HF.out, rfl, H0.out, KO.refl _ _ _ _⟩
  case round =>
    obtain ⟨f1, t1, O1, hf1, hgo, hrdo, hko⟩ := hrel.out
    clear hrel
    obtain ⟨f1, rfl⟩ : ∃ f2, f1 = f2 + 1 := ⟨f1 - 1, by omega⟩
    obtain ⟨v, hr, hR, ho, hBl⟩ := hrdo
    obtain ⟨A2, c2, rfl⟩ := Kd.R_slice hR
    have HR1 := Aside0.mk hr
    have HR := Aside0.mk hR
    have HKO := Aside0.mk hko
    have HK1 := Aside0.mk (HB1.out.ko HS.out.1 HS.out.2 hko)
    have HK2 := Aside0.mk (HB2.out.ko HS.out.1 HS.out.2 hko)
    have HA := Aside0.mk (show O1.length ≤ 300 * t1 ∧ B.length ≤ 16777216 ∧ 8 * B.length - t1 < f1 + 1 ∧ t1 ≤ 8 * B.length from ⟨ho, hBl, hf1, hr.2.2.2.1⟩)
    have HAT := Aside0.mk hr.atOf
    clear hr hR hko ho hBl hf1
    cases hsg : signL B cnt1 sg1 t1 with
    | error x3 =>
      rw [codedL_err _ _ _ _ _ hsg] at hgo
      have HG := Aside0.mk hgo
      have HSG := Aside0.mk hsg
      clear hgo hsg
      go_wp2_with (first
        | (go_at_call 48; refine (flate_reader_sign.any w0 q B t1 _ m k1 S cnt1 sg1 _ HR1.out HK1.out HS.out.1 HW1.out.1 HW1.out.2.1 HW1.out.2.2.1).mono ?_; rintro e w3 ⟨hB3, ⟨s3, t3, hs3, rfl, hr3⟩ | ⟨x3, hs3, rfl⟩⟩; (exact absurd (HSG.out.symm.trans hs3) (by simp))))
      obtain rfl := Except.error.inj (HSG.out.symm.trans hs3)
      exact ⟨rfl, HKO.out.trans (hB3.ko HQ.out), .inr ⟨_, HG.out.symm, rfl⟩⟩
    | ok r =>
      obtain ⟨s', t2⟩ := r
      obtain ⟨hs0, ht2, ht2b⟩ := signL_ok HW1.out.2.2.2 hsg
      obtain ⟨s, rfl⟩ : ∃ s : Nat, s' = s := ⟨s'.toNat, by omega⟩
      rw [codedL_ok _ _ _ _ _ hsg] at hgo
      have HSG := Aside0.mk hsg
      have HT := Aside0.mk (show t1 < t2 ∧ t2 ≤ 8 * B.length from ⟨ht2, ht2b⟩)
      clear hsg ht2 ht2b hs0
      by_cases h256 : (s : Int) = 256
      · rw [if_pos h256] at hgo
        have HG := Aside0.mk hgo
        clear hgo
        go_wp2_with (first
          | (go_at_call 48; refine (flate_reader_sign.any w0 q B t1 _ m k1 S cnt1 sg1 _ HR1.out HK1.out HS.out.1 HW1.out.1 HW1.out.2.1 HW1.out.2.2.1).mono ?_; rintro e w3 ⟨hB3, ⟨s3, t3, hs3, rfl, hr3⟩ | ⟨x3, hs3, rfl⟩⟩; rotate_left; (exact absurd (HSG.out.symm.trans hs3) (by simp)); have hs4 := HSG.out.symm.trans hs3; simp only [Except.ok.injEq, Prod.mk.injEq] at hs4; obtain ⟨rfl, rfl⟩ := hs4; have G3 := Aside0.mk hB3; have R3 := Aside0.mk hr3; clear hB3 hr3 hs3))
        refine bodyPost_ret (results_none rfl _ _ _) rfl ?_
        exact ⟨HKO.out.trans (G3.out.ko HQ.out), .inl ⟨_, _, HG.out.symm, rfl, Rdo.kb HR.out HA.out.1 HA.out.2.1 G3.out R3.out (by have := HT.out; omega)⟩⟩
      · rw [if_neg h256] at hgo
        by_cases h285 : 285 < (s : Int)
        · rw [if_pos h285] at hgo
          have HG := Aside0.mk hgo
          clear hgo
          go_wp2_with (first
            | (go_at_call 48; refine (flate_reader_sign.any w0 q B t1 _ m k1 S cnt1 sg1 _ HR1.out HK1.out HS.out.1 HW1.out.1 HW1.out.2.1 HW1.out.2.2.1).mono ?_; rintro e w3 ⟨hB3, ⟨s3, t3, hs3, rfl, hr3⟩ | ⟨x3, hs3, rfl⟩⟩; rotate_left; (exact absurd (HSG.out.symm.trans hs3) (by simp)); have hs4 := HSG.out.symm.trans hs3; simp only [Except.ok.injEq, Prod.mk.injEq] at hs4; obtain ⟨rfl, rfl⟩ := hs4; have G3 := Aside0.mk hB3; have R3 := Aside0.mk hr3; clear hB3 hr3 hs3))
          exact ⟨rfl, HKO.out.trans (G3.out.ko HQ.out), .inr ⟨_, HG.out.symm, rfl⟩⟩
        · rw [if_neg h285] at hgo
          by_cases hc : 256 < (s : Int)
          · rw [if_pos hc] at hgo
            have HG := Aside0.mk hgo
            have HSR := Aside0.mk (show 257 ≤ s ∧ s ≤ 285 by omega)
            clear hgo
            go_wp2_with (first
              | (go_at_call 49; have q_ := G3; clear q_; refine (flate_reader_copy.any w0 q B O1 t2 m ok s k2 S cnt2 sg2 w3 (Rdo.kb HR.out HA.out.1 HA.out.2.1 G3.out R3.out (by have := HT.out; omega)) (fun k hk => HOK.out k (Nat.le_trans (Nat.le_trans HKO.out.1.1 G3.out.1.1) hk)) HM.out HSR.out (HK2.out.KB HS.out.1 G3.out) HS.out.1 HW2.out).mono ?_; rintro e w4 ⟨hB4, ⟨t4, O4, hc4, rfl, hr4⟩ | ⟨x4, hc4, rfl⟩⟩)
              | (go_at_call 48; refine (flate_reader_sign.any w0 q B t1 _ m k1 S cnt1 sg1 _ HR1.out HK1.out HS.out.1 HW1.out.1 HW1.out.2.1 HW1.out.2.2.1).mono ?_; rintro e w3 ⟨hB3, ⟨s3, t3, hs3, rfl, hr3⟩ | ⟨x3, hs3, rfl⟩⟩; rotate_left; (exact absurd (HSG.out.symm.trans hs3) (by simp)); have hs4 := HSG.out.symm.trans hs3; simp only [Except.ok.injEq, Prod.mk.injEq] at hs4; obtain ⟨rfl, rfl⟩ := hs4; have G3 := Aside0.mk hB3; have R3 := Aside0.mk hr3; clear hB3 hr3 hs3))
            · go_roundw
              case rel =>
                have hgo := HG.out
                rw [hc4] at hgo
                have h5 := copyL_ok HW2.out.2.2.2 hc4
                exact ⟨f1, t4, O4, by have := HA.out; have := HT.out; omega, hgo, hr4, HKO.out.trans ((G3.out.ko HQ.out).trans hB4)⟩
              case measure =>
                obtain ⟨v5, hr5, _, _, _⟩ := hr4
                have h5 := copyL_ok HW2.out.2.2.2 hc4
                rw [hr5.atOf, HAT.out]
                have := HA.out; have := HT.out; have := hr5.2.2.2.1
                omega
            · have hgo := HG.out
              rw [hc4] at hgo
              exact ⟨rfl, HKO.out.trans ((G3.out.ko HQ.out).trans hB4), .inr ⟨_, hgo.symm, rfl⟩⟩
          · rw [if_neg hc] at hgo
            have HG := Aside0.mk hgo
            have hsb : (s : Int) < 256 := by omega
            have hwb : IntKind.u8.wrap (s : Int) = (s : Int) := by rw [IntKind.wrap_u8]; omega
            clear hgo hc h285
            obtain ⟨Y, hY⟩ : ∃ Y, O1 ++ [(s : Int)] = Y := ⟨_, rfl⟩
            rw [hY] at HG
            have HY := Aside0.mk hY
            have hso : some q ≠ (Value.slice A2 O1.length c2).ownBlock := fun e => (HR.out.1 q e.symm).2 rfl
            have HSO := Aside0.mk hso
            have hrow : ∀ k, (Value.slice A2 O1.length c2).ownBlock = some k → ok k ∧ w0.heap.size ≤ k := fun k e => ⟨(HR.out.1 k e).1, Kd.R_base HR.out k e⟩
            have HRW := Aside0.mk hrow
            clear hso hrow hY
            go_wp2_with (first
              | ((with_reducible refine gate_builtin (b := .append) (xs := #[.tmp 16, .tmp 19]) rfl ?_); at_builtin; refine Kd.R_append_rows (Kd.int .u8) (w0 := w0) w0.heap.size rfl (.tmp 16) (.tmp 19) 22 5 (.int .u8 0) 1 rfl Try.underlying22 info5 rfl (by decide) (by omega) (.slice A2 O1.length c2) O1 [(s : Int)] (some ⟨w6.heap.size, 0, none⟩) 1 1 (fun k => ok k ∧ k ≠ q) (fun _ => False) rfl rfl ?aO ?aR (fun _ _ h => h) (fun _ h => h.elim) ?aF ?aB ?aS ?aL ?_; (case aO => exact Kd.R_alloc (Kd.R_step HR.out (fun k hk2 hlt => G6.out.1.2 k hlt hk2.2)) _); (case aR => exact lit_row w6 (s : Int)); (case aF => intro k hk; have h1 := HKO.out.1.1; have h2 := G6.out.1.1; obtain ⟨⟨_, _, hbq, _, _⟩, _⟩ := id R6.out; have h3 := blk_lt hbq; have h4 : w6.heap.size + 1 ≤ k := (by simpa using hk); exact ⟨HOK.out k (by omega), by omega⟩); (case aB => exact R6.out.2.2.2.2.2.alloc R6.out.2.2.2.2.2.size _); (case aS => have := R6.out.2.2.2.2.2.size; simp; omega); (case aL => have := HA.out; omega); intro v1 w8 ho hb hg _; rw [HY.out] at ho; obtain ⟨A9, c9, rfl⟩ := Kd.R_slice ho; have R9 := (R6.out.alloc (.cells #[.int .u8 (s : Int)] 5)); obtain ⟨⟨A7, c7, hbq, _, _⟩, _⟩ := id R9; have hb9 := blk_grown hbq hg HSO.out; have p3 : w8.cell? ⟨q, 2, none⟩ = some (.slice A2 O1.length c2) := (by rw [Lib.cell_of_heap hb9]; rfl); have z3 : w8.frozen? ⟨q, 2, none⟩ = false := Lib.frozen_of_heap hb9 2; have HR9 := Aside0.mk R9; have HO9 := Aside0.mk ho; have HG9 := Aside0.mk hg; have HB9 := Aside0.mk hb; clear hb9 hbq ho hg hb R9)
              | (go_at_call 47; have q_ := G3; clear q_; refine (flate_reader_room.any w0 q B t2 A2 O1.length c2 m 1 _ R3.out (by have := HA.out; omega) HM.out).mono ?_; rintro e w6 ⟨hB6, hr6, ⟨g6, rfl⟩ | ⟨g6, rfl⟩⟩; have G6 := Aside0.mk (G3.out.trans hB6); have R6 := Aside0.mk hr6; obtain ⟨⟨A7, c7, hbq, _, _⟩, _⟩ := id hr6; have p2 := (show w6.cell? ⟨q, 2, none⟩ = some (.slice A2 O1.length c2) by rw [Lib.cell_of_heap hbq]; rfl); clear hB6 hr6 hbq)
              | (go_at_call 48; refine (flate_reader_sign.any w0 q B t1 _ m k1 S cnt1 sg1 _ HR1.out HK1.out HS.out.1 HW1.out.1 HW1.out.2.1 HW1.out.2.2.1).mono ?_; rintro e w3 ⟨hB3, ⟨s3, t3, hs3, rfl, hr3⟩ | ⟨x3, hs3, rfl⟩⟩; rotate_left; (exact absurd (HSG.out.symm.trans hs3) (by simp)); have hs4 := HSG.out.symm.trans hs3; simp only [Except.ok.injEq, Prod.mk.injEq] at hs4; obtain ⟨rfl, rfl⟩ := hs4; have G3 := Aside0.mk hB3; have R3 := Aside0.mk hr3; clear hB3 hr3 hs3))
            · have R10 := HR9.out.row HG9.out HSO.out HB9.out (v' := .slice A9 Y.length c9)
              go_roundw
              case rel =>
                have hgo := HG.out
                rw [if_neg (by omega)] at hgo
                exact ⟨f1, t2, Y, by have := HA.out; have := HT.out; omega, hgo, ⟨_, R10, R_set HO9.out, by rw [← HY.out]; simp; have := HA.out; have := HT.out; omega, HA.out.2.1⟩, HKO.out.trans ((G6.out.ko HQ.out).trans ((KO.alloc w6 _ R6.out.2.2.2.2.2.size).trans ((KO.grown HG9.out (by have := R6.out.2.2.2.2.2.size; simp; omega) HRW.out).trans (KO.set _ _ _ HQ.out))))⟩
              case measure =>
                rw [R10.atOf, HAT.out]
                have := HA.out; have := HT.out
                omega
            · have hgo := HG.out
              rw [if_pos (by omega)] at hgo
              exact ⟨rfl, HKO.out.trans ((G3.out.trans hB6).ko HQ.out), .inr ⟨_, hgo.symm, rfl⟩⟩

/-! ### flate_newBook: function 51 -/
/-- Where a length stands, among the first so many. -/
def occ (L : List Int) (n k : Nat) : List Int := ((List.range k).filter (fun i => L.getD i 0 = (n : Int))).map (fun i : Nat => (i : Int))
theorem occ_succ (L : List Int) (n k : Nat) : occ L n (k + 1) = if L.getD k 0 = (n : Int) then occ L n k ++ [(k : Int)] else occ L n k := by
  unfold occ
  rw [List.range_succ, List.filter_append, List.map_append]
  by_cases h : L.getD k 0 = (n : Int)
  · rw [if_pos h]; simp only [List.filter_cons, List.filter_nil, h, decide_true, if_true, List.map_cons, List.map_nil]
  · rw [if_neg h]; simp only [List.filter_cons, List.filter_nil, h, decide_false, Bool.false_eq_true, if_false, List.map_nil, List.append_nil]
theorem occ_zero (L : List Int) (n : Nat) : occ L n 0 = [] := rfl
theorem occ_len (L : List Int) (n k : Nat) : (occ L n k).length ≤ k := by
  unfold occ
  rw [List.length_map]
  exact Nat.le_trans (List.length_filter_le _ _) (by simp)
/-- The signs, by length. -/
def allS (L : List Int) : Nat → List Int
  | 0 => []
  | n + 1 => allS L n ++ occ L (n + 1) L.length
theorem allS_len (L : List Int) : ∀ n, (allS L n).length ≤ n * L.length
  | 0 => by simp [allS]
  | n + 1 => by
    have h1 := allS_len L n
    have h2 := occ_len L (n + 1) L.length
    rw [allS, List.length_append, Nat.succ_mul]
    omega
/-- The numbers of codes, with the one at hand. -/
def cntP (L : List Int) (j x : Nat) : List Nat := (List.range 16).map (fun i => if i = j + 1 then x else if 1 ≤ i ∧ i ≤ j then (occ L i L.length).length else 0)
theorem cntP_length (L : List Int) (j x : Nat) : (cntP L j x).length = 16 := by simp [cntP]
theorem cntP_get (L : List Int) (j x i : Nat) (hi : i < 16) : (cntP L j x).getD i 0 = if i = j + 1 then x else if 1 ≤ i ∧ i ≤ j then (occ L i L.length).length else 0 := by
  unfold cntP
  rw [List.getD_eq_getElem?_getD, List.getElem?_map, List.getElem?_range hi]
  rfl
theorem cntP_set (L : List Int) (j x y : Nat) : (cntP L j x).set (j + 1) y = cntP L j y := by
  apply List.ext_getElem
  · simp [cntP]
  · intro i h1 h2
    rw [List.getElem_set]
    by_cases h : j + 1 = i
    · subst h; simp [cntP]
    · rw [if_neg h]
      simp only [cntP, List.getElem_map, List.getElem_range]
      simp [show ¬ i = j + 1 by omega]
theorem cntP_next (L : List Int) (j : Nat) : cntP L j (occ L (j + 1) L.length).length = cntP L (j + 1) 0 := by
  unfold cntP
  apply List.map_congr_left
  intro i _
  by_cases h1 : i = j + 1
  · subst h1; simp
  · rw [if_neg h1]
    by_cases h2 : i = j + 1 + 1
    · subst h2; simp; omega
    · rw [if_neg h2]
      by_cases h3 : 1 ≤ i ∧ i ≤ j
      · rw [if_pos h3, if_pos (by omega)]
      · rw [if_neg h3, if_neg (by omega)]
def kraft (C : List Nat) : Nat → Nat
  | 0 => 0
  | n + 1 => kraft C n + C.getD (n + 1) 0 * 2 ^ (14 - n)
/-- The code of lengths, or none. -/
def bookL (L : List Int) (loose nn : Bool) : Except Int (List Nat × List Int) :=
  if kraft (cntP L 15 0) 15 = 32768 ∨ (loose = true ∧ (allS L 15).length = 1 ∧ (cntP L 15 0).getD 1 0 = 1) ∨ (nn = true ∧ (allS L 15).length = 0) then .ok (cntP L 15 0, allS L 15) else .error 10
theorem Bk.setc {kb : Nat} {S : Nat → Prop} {cnt : List Nat} {sg : List Int} {w : World} (h : Bk kb S cnt sg w) (i x : Nat) (hi : i < 16) : Bk kb S (cnt.set i x) sg (w.setCell ⟨kb, i, none⟩ (.int .i64 (x : Int))) := by
  obtain ⟨v, hb, hS, hl, hR⟩ := h
  refine ⟨v, ?_, hS, by rw [List.length_set]; exact hl, ?_⟩
  · simp only [World.setCell, Array.getElem?_modify, hb]
    simp [List.map_set, List.set_append, hl, hi]
  · have h2 := Kd.R_types hR hb (by decide)
    exact Kd.R_mono (Kd.R_step h2 (fun k hk _ => Below.heap_setCell _ _ _ k hk.2)) (fun k hk => hk.1)
theorem Bk.alloc {kb : Nat} {S : Nat → Prop} {cnt : List Nat} {sg : List Int} {w : World} (h : Bk kb S cnt sg w) (o : Obj) : Bk kb S cnt sg (w.alloc o) := h.kept (fun k _ hlt => Lib.alloc_old w o k hlt)
theorem Bk.drew {kb : Nat} {S : Nat → Prop} {cnt : List Nat} {sg : List Int} {w : World} (h : Bk kb S cnt sg w) : Bk kb S cnt sg w.drew := h.kept (fun _ _ _ => rfl)
theorem lit_row64 (W : World) (x : Int) : Kd.C (Kd.int .i64) (W.alloc (.cells #[.int .i64 x] 3)) (some ⟨W.heap.size, 0, none⟩) 1 [x] := by
  have hb := heap_alloc_new W (.cells #[.int .i64 x] 3)
  have hc : (W.alloc (.cells #[.int .i64 x] 3)).cell? ⟨W.heap.size, 0, none⟩ = some (.int .i64 x) := by rw [Lib.cell_of_heap hb]; rfl
  refine ⟨rfl, by simp, fun _ => ⟨_, rfl, fun j p hj => ?_⟩⟩
  match j, hj with
  | 0, hj =>
    obtain rfl : x = p := by simpa using hj
    refine ⟨[.int .i64 x], rfl, rfl, fun i u hu => ?_⟩
    match i, hu with
    | 0, hu =>
      obtain rfl : Value.int .i64 x = u := by simpa using hu
      exact hc
theorem Bk.frozen {kb : Nat} {S : Nat → Prop} {cnt : List Nat} {sg : List Int} {w : World} (h : Bk kb S cnt sg w) (i : Nat) : w.frozen? ⟨kb, i, none⟩ = false := by
  obtain ⟨v, hb, _⟩ := h
  exact Lib.frozen_of_heap hb i
theorem Bk_put {kb : Nat} {S : Nat → Prop} {cnt : List Nat} {sg : List Int} {w : World} {v v1 : Value} (hb : w.heap[kb]? = some (.cells (cnt.map (fun n : Nat => Value.int .i64 n) ++ [v]).toArray 80 (0, 0))) (hS : S kb) (hl : cnt.length = 16) (hR : Kd.R (Kd.int .i64) 3 w 0 S v1 sg) : Bk kb S cnt sg (w.setCell ⟨kb, 16, none⟩ v1) := by
  refine ⟨v1, ?_, hS, hl, ?_⟩
  · simp only [World.setCell, Array.getElem?_modify, hb]
    simp [List.set_append, hl]
  · have h2 := Kd.R_types hR hb (by decide)
    exact Kd.R_mono (Kd.R_step h2 (fun k hk _ => Below.heap_setCell _ _ _ k hk.2)) (fun k hk => hk.1)
def flate_newBook.Inv (w : World) (L : List Int) (wr : World) (v8 : Value) : Prop :=
  ∃ j : Nat, v8 = .int .i64 ((j + 1 : Nat) : Int) ∧ j ≤ 15 ∧ Bk w.heap.size (fun k => w.heap.size ≤ k) (cntP L j 0) (allS L j) wr ∧ Below w.heap.size w wr
def flate_newBook.Inv2 (w : World) (L : List Int) (j : Nat) (wr : World) (v22 : Value) : Prop :=
  ∃ k : Nat, v22 = .int .i64 k ∧ k ≤ L.length ∧ Bk w.heap.size (fun k => w.heap.size ≤ k) (cntP L j (occ L (j + 1) k).length) (allS L j ++ occ L (j + 1) k) wr ∧ Below w.heap.size w wr
set_option maxRecDepth 100000 in
set_option maxHeartbeats 16000000 in
theorem flate_newBook.any (A : Option Addr) (c : Nat) (L : List Int) (loose nn : Bool) (w : World) (hC : Kd.C (Kd.int .i64) w A L.length L) (hL : L.length ≤ 600) :
    Calls Try.prog 51 #[.slice A L.length c, .bool loose, .bool nn] w fun e w' =>
      Below w.heap.size w w' ∧ ((∃ C sg, bookL L loose nn = .ok (C, sg) ∧ e = .returned (.pointer (some ⟨w.heap.size, 0, none⟩)) ∧ Bk w.heap.size (fun k => w.heap.size ≤ k) C sg w') ∨ (∃ x, bookL L loose nn = .error x ∧ e = .panicked (faultV x))) := by
  have HC := Aside0.mk hC
  have HL := Aside0.mk hL
  clear hC hL
  go_enter Try.func51, Try.ntmps51
  go_wp2
  have HB0 := Aside0.mk (show Below w.heap.size w (w.alloc (.cells #[Value.int IntKind.i64 0, Value.int IntKind.i64 0, Value.int IntKind.i64 0, Value.int IntKind.i64 0, Value.int IntKind.i64 0, Value.int IntKind.i64 0, Value.int IntKind.i64 0, Value.int IntKind.i64 0, Value.int IntKind.i64 0, Value.int IntKind.i64 0, Value.int IntKind.i64 0, Value.int IntKind.i64 0, Value.int IntKind.i64 0, Value.int IntKind.i64 0, Value.int IntKind.i64 0, Value.int IntKind.i64 0, Value.slice none 0 0] 80)) from (Below.refl _ w).alloc (Nat.le_refl _) _)
  have HK0 := Aside0.mk (show Bk w.heap.size (fun k => w.heap.size ≤ k) (cntP L 0 0) (allS L 0) (w.alloc (.cells #[Value.int IntKind.i64 0, Value.int IntKind.i64 0, Value.int IntKind.i64 0, Value.int IntKind.i64 0, Value.int IntKind.i64 0, Value.int IntKind.i64 0, Value.int IntKind.i64 0, Value.int IntKind.i64 0, Value.int IntKind.i64 0, Value.int IntKind.i64 0, Value.int IntKind.i64 0, Value.int IntKind.i64 0, Value.int IntKind.i64 0, Value.int IntKind.i64 0, Value.int IntKind.i64 0, Value.int IntKind.i64 0, Value.slice none 0 0] 80)) from ⟨_, heap_alloc_new _ _, Nat.le_refl _, cntP_length _ _ _, Kd.R_nil _ _ _ _ _⟩)
  generalize w.alloc _ = W0 at HB0 HK0 ⊢
  go_loopw [8] (fun v8 wr => Aside0 (flate_newBook.Inv w L wr v8)) (fun v8 _ => 16 - (intOf v8).toNat)
  case atStart => exact ⟨0, rfl, by decide, HK0.out, HB0.out⟩
  case round =>
    obtain ⟨j, rfl, hj, hk, hB⟩ := hrel.out
    clear hrel HB0 HK0
    have HB := Aside0.mk hB
    have HK := Aside0.mk hk
    clear hB hk
    by_cases hlt : ((j + 1 : Nat) : Int) < 16
    · obtain ⟨n, hn⟩ : ∃ n, j + 1 = n := ⟨_, rfl⟩
      rw [hn] at hlt ⊢
      have HN := Aside0.mk hn
      clear hn
      go_wp2
      go_loopw [22] (fun v22 wr => Aside0 (flate_newBook.Inv2 w L j wr v22)) (fun v22 _ => L.length - (intOf v22).toNat)
      case atStart => exact ⟨0, rfl, Nat.zero_le _, by rw [occ_zero, List.append_nil]; exact HK.out, HB.out⟩
      case round =>
        obtain ⟨k, rfl, hkl, hk, hB⟩ := hrel.out
        clear hrel HB HK
        have HB := Aside0.mk hB
        have HK := Aside0.mk hk
        have HL' := HL.out
        by_cases hk2 : (k : Int) < L.length
        · obtain ⟨ad, hA, hcell⟩ := Kd.at_int HC.out (k : Int) (by omega) (by omega)
          subst hA
          rw [Int.toNat_natCast] at hcell
          replace hcell := pw_cell_below hB hcell
          obtain ⟨l, hl⟩ : ∃ l, rd L (k : Int) = l := ⟨_, rfl⟩
          rw [hl] at hcell
          have hl2 : L.getD k 0 = l := by rw [← hl]; unfold rd; rw [Int.toNat_natCast]
          have hos := occ_succ L (j + 1) k
          rw [hl2] at hos
          have hol := occ_len L (j + 1) k
          have hcn := hk.count n (by omega)
          have hn' : (cntP L j (occ L (j + 1) k).length).getD n 0 = (occ L (j + 1) k).length := by rw [cntP_get _ _ _ _ (by omega), if_pos HN.out.symm]
          by_cases he : l = (n : Int)
          · have hos : occ L (j + 1) (k + 1) = occ L (j + 1) k ++ [(k : Int)] := by rw [hos]; have := HN.out; rw [if_pos (by rw [this]; exact he)]
            rw [hn'] at hcn
            have hxb : ((occ L (j + 1) k).length : Int) ≤ 600 := by omega
            have hfz := hk.frozen n
            obtain ⟨x, hx⟩ : ∃ x, (occ L (j + 1) k).length = x := ⟨_, rfl⟩
            rw [hx] at hcn hxb hk
            have HX := Aside0.mk (show (occ L (j + 1) (k + 1)).length = x + 1 by rw [hos, List.length_append, hx]; rfl)
            have hk1 := (hk.drew).setc n (x + 1) (by omega)
            have hk1' : Bk w.heap.size (fun k => w.heap.size ≤ k) (cntP L j (x + 1)) (allS L j ++ occ L (j + 1) k) (wr.drew.setCell ⟨w.heap.size, n, none⟩ (.int .i64 ((x + 1 : Nat) : Int))) := by
              have e := HN.out
              rw [← e] at hk1 ⊢
              rw [cntP_set] at hk1
              exact hk1
            have hx1 : ((x + 1 : Nat) : Int) = (x : Int) + 1 := by push_cast; rfl
            rw [hx1] at hk1'
            have HK1 := Aside0.mk hk1'
            have HB1 := Aside0.mk (show Below w.heap.size w (wr.drew.setCell ⟨w.heap.size, n, none⟩ (.int .i64 ((x : Int) + 1))) from (below_drew1 hB).setCell (p := ⟨w.heap.size, n, none⟩) (Nat.le_refl _) _)
            obtain ⟨v, hbv, hSv, hlv, hRv⟩ := hk1'
            obtain ⟨A2, c2, rfl⟩ := Kd.R_slice hRv
            have h16 : (wr.drew.setCell ⟨w.heap.size, n, none⟩ (.int .i64 ((x : Int) + 1))).cell? ⟨w.heap.size, 16, none⟩ = some (.slice A2 (allS L j ++ occ L (j + 1) k).length c2) := by
              rw [Lib.cell_of_heap hbv]; simp [List.getElem?_append, hlv]
            have z16 : (wr.drew.setCell ⟨w.heap.size, n, none⟩ (.int .i64 ((x : Int) + 1))).frozen? ⟨w.heap.size, 16, none⟩ = false := Lib.frozen_of_heap hbv 16
            obtain ⟨X, hXe⟩ : ∃ X, allS L j ++ occ L (j + 1) k = X := ⟨_, rfl⟩
            have HXL := Aside0.mk (show X.length ≤ 9600 by rw [← hXe, List.length_append]; have := allS_len L j; have := Nat.mul_le_mul (show j ≤ 15 from hj) HL.out; omega)
            rw [hXe] at h16 hRv hbv
            obtain ⟨Y, hY⟩ : ∃ Y, X ++ [(k : Int)] = Y := ⟨_, rfl⟩
            have HY := Aside0.mk hY
            have HYY := Aside0.mk (show allS L j ++ occ L (j + 1) (k + 1) = Y by rw [hos, ← List.append_assoc, hXe, hY])
            have HRV := Aside0.mk hRv
            have HBV := Aside0.mk hbv
            have HLV := Aside0.mk hlv
            have hcx : wr.cell? ⟨w.heap.size, n, none⟩ = some (.int .i64 x) := hcn
            have WL := Aside0.mk (show w.heap.size ≤ wr.heap.size from hB.size)
            clear hos hol hcn hk hk1 hB hl2 hl hx hx1 hbv hlv hSv hRv hXe hY hn'
            go_wp2
            go_still_tail 10, (by kernel_rfl)
            change wpList _ _ _ _ _ wr.drew
            have hcx2 : wr.drew.cell? ⟨w.heap.size, n, none⟩ = some (.int .i64 x) := hcx
            have hfz2 : wr.drew.frozen? ⟨w.heap.size, n, none⟩ = false := hfz
            have hwl : w.heap.size ≤ wr.drew.heap.size := WL.out
            clear hcx hfz hcell
            generalize wr.drew = W2 at h16 z16 HK1 HB1 HRV HBV hcx2 hfz2 hwl ⊢
            have W1L := Aside0.mk (show w.heap.size ≤ (W2.setCell ⟨w.heap.size, n, none⟩ (.int .i64 ((x : Int) + 1))).heap.size by simpa using hwl)
            clear hwl
            go_wp2_with ((with_reducible refine gate_builtin (b := .append) (xs := #[.tmp 44, .tmp 46]) rfl ?_); at_builtin; refine Kd.R_append_rows (Kd.int .i64) (w0 := w) 0 rfl (.tmp 44) (.tmp 46) 35 3 (.int .i64 0) 8 rfl Try.underlying35 info3 rfl (by decide) (by omega) (.slice A2 X.length c2) X [(k : Int)] (some ⟨(W2.setCell ⟨w.heap.size, n, none⟩ (.int .i64 ((x : Int) + 1))).heap.size, 0, none⟩) 1 1 (fun k => w.heap.size ≤ k) (fun _ => False) rfl ?aX ?aO ?aR (fun _ _ h => h) (fun _ h => h.elim) ?aF ?aB (Nat.zero_le _) ?aL ?_; (case aX => simp [Act.eval, Act.put]); (case aO => exact Kd.R_alloc HRV.out _); (case aR => exact lit_row64 _ (k : Int)); (case aF => intro k hk; have := W1L.out; have h2 : _ + 1 ≤ k := (by simpa using hk); simp at this; omega); (case aB => exact (HB1.out.alloc W1L.out _).mono (Nat.zero_le _)); (case aL => have := HXL.out; omega); intro v1 w8 ho hb hg hat; rw [HY.out] at ho; obtain ⟨A9, c9, rfl⟩ := Kd.R_slice ho; have hne : some w.heap.size ≠ (Value.slice A2 X.length c2).ownBlock := (fun e => ((Kd.R_types HRV.out HBV.out (by decide)).1 _ e.symm).2 rfl); have hb9 := blk_grown ((Lib.alloc_old _ _ _ (blk_lt HBV.out)).trans HBV.out) hg hne; have HB9 := Aside0.mk ((HB1.out.alloc W1L.out _).grown hg (Nat.le_trans W1L.out (by simp)) (fun k e => HRV.out.1 k e)); have p3 : w8.cell? ⟨w.heap.size, 16, none⟩ = some (.slice A2 X.length c2) := (by rw [Lib.cell_of_heap hb9]; simp [List.getElem?_append, HLV.out]); have z3 : w8.frozen? ⟨w.heap.size, 16, none⟩ = false := Lib.frozen_of_heap hb9 16; have HK9 := Aside0.mk (Bk_put hb9 (Nat.le_refl _) HLV.out ho); clear hb9 ho hb hg hat hne)
            go_roundw
            case rel => exact ⟨k + 1, by push_cast; rfl, by omega, by rw [HX.out, HYY.out]; exact HK9.out, HB9.out.setCell (p := ⟨w.heap.size, 16, none⟩) (Nat.le_refl _) _⟩
            case measure => simp [intOf]; omega
          · have HOS := Aside0.mk (show occ L (j + 1) (k + 1) = occ L (j + 1) k by rw [hos]; have := HN.out; rw [if_neg (by rw [this]; exact he)])
            clear hos hol hcn hk hB hl2 hl hn'
            go_wp2
            go_roundw
            case rel => exact ⟨k + 1, by push_cast; rfl, by omega, by rw [HOS.out]; exact HK.out, HB.out⟩
            case measure => simp [intOf]; omega
        · obtain rfl : k = L.length := by omega
          clear hk hB
          go_wp2
          go_roundw
          case rel =>
            have hk := HK.out
            rw [cntP_next] at hk
            exact ⟨j + 1, by have := HN.out; push_cast; rw [← this]; push_cast; rfl, by have := HN.out; omega, hk, HB.out⟩
          case measure => have := HN.out; simp [intOf]; omega
    · obtain rfl : j = 15 := by omega
      obtain ⟨C, hCe⟩ : ∃ C, cntP L 15 0 = C := ⟨_, rfl⟩
      obtain ⟨X, hXe⟩ : ∃ X, allS L 15 = X := ⟨_, rfl⟩
      have hbk : bookL L loose nn = if kraft C 15 = 32768 ∨ (loose = true ∧ X.length = 1 ∧ C.getD 1 0 = 1) ∨ (nn = true ∧ X.length = 0) then .ok (C, X) else .error 10 := by rw [← hCe, ← hXe]; rfl
      have hcb : ∀ i, i < 16 → C.getD i 0 ≤ 600 := fun i hi => by
        rw [← hCe, cntP_get _ _ _ _ hi]
        have := occ_len L i L.length
        have := HL.out
        split
        · omega
        · split <;> omega
      have hkb : ∀ i, kraft C i ≤ i * 9830400 ∨ 15 < i := fun i => by
        induction i with
        | zero => exact .inl (Nat.le_refl _)
        | succ i ih =>
          rcases ih with ih | ih
          · by_cases h15 : i + 1 ≤ 15
            · left
              have h1 := hcb (i + 1) (by omega)
              have h2 : 2 ^ (14 - i) ≤ 2 ^ 14 := Nat.pow_le_pow_right (by decide) (by omega)
              have h3 := Nat.mul_le_mul h1 h2
              rw [kraft]
              omega
            · right; omega
          · right; omega
      have hk := HK.out
      rw [hCe, hXe] at hk
      have HK := Aside0.mk hk
      have HCB := Aside0.mk hcb
      have HKB := Aside0.mk hkb
      have HBK := Aside0.mk hbk
      obtain ⟨A2, c2, h16, _, _⟩ := hk.signs
      have hc1 := hk.count 1 (by decide)
      clear hk hcb hkb hbk hCe hXe
      go_wp2
      go_loop [11, 12] (fun v11 v12 => Aside0 (∃ i : Nat, i ≤ 15 ∧ v12 = .int .i64 ((i + 1 : Nat) : Int) ∧ v11 = .int .i64 (kraft C i : Nat))) (fun _ v12 => 16 - (intOf v12).toNat)
      case atStart => exact ⟨0, by decide, rfl, rfl⟩
      case round =>
        obtain ⟨i, hi, rfl, rfl⟩ := hrel.out
        clear hrel
        by_cases hlt : ((i + 1 : Nat) : Int) < 16
        · obtain ⟨n, hn⟩ : ∃ n, i + 1 = n := ⟨_, rfl⟩
          have hcn := HK.out.count n (by omega)
          have hcb := HCB.out n (by omega)
          obtain ⟨r, hr⟩ : ∃ r, 14 - i = r := ⟨_, rfl⟩
          have hks : kraft C n = kraft C i + C.getD n 0 * 2 ^ r := by rw [← hn, ← hr]; rfl
          obtain ⟨cn, hcne⟩ : ∃ cn, C.getD n 0 = cn := ⟨_, rfl⟩
          rw [hcne] at hcn hcb hks
          obtain ⟨p, hp⟩ : ∃ p, cn * 2 ^ r = p := ⟨_, rfl⟩
          obtain ⟨s, hs⟩ : ∃ s, kraft C i = s := ⟨_, rfl⟩
          have hpb : p ≤ 9830400 := by
            have h2 : 2 ^ r ≤ 2 ^ 14 := Nat.pow_le_pow_right (by decide) (by omega)
            have h3 := Nat.mul_le_mul hcb h2
            omega
          have hsb : s ≤ 147456000 := by
            rcases HKB.out i with h | h
            · have := Nat.mul_le_mul_right 9830400 hi; omega
            · omega
          rw [hs, hp] at hks
          rw [hs]
          rw [hn] at hlt ⊢
          have hr1 : 15 - (n : Int) = (r : Int) := by omega
          have hr2 : (r : Int) ≤ 64 := by omega
          have hpi : (cn : Int) * 2 ^ r = (p : Int) := by rw [← hp, pow2_cast]; push_cast; rfl
          have P1 : (p : Int) ≤ 9830400 := by omega
          have P2 : (s : Int) ≤ 147456000 := by omega
          have HKS := Aside0.mk (show i + 1 = n ∧ kraft C n = s + p from ⟨hn, hks⟩)
          clear hn hr hks hcne hp hs hpb hsb hcb
          go_wp2
          go_round
          case rel => exact ⟨i + 1, by have := HKS.out; omega, by rw [HKS.out.1]; push_cast; rfl, by rw [HKS.out.1, HKS.out.2]; push_cast; rfl⟩
          case measure => simp [intOf]; omega
        · obtain rfl : i = 15 := by omega
          obtain ⟨sm, hsm⟩ : ∃ sm, kraft C 15 = sm := ⟨_, rfl⟩
          rw [hsm]
          have HBK2 := HBK.out
          rw [hsm] at HBK2
          clear HBK
          have HBK := Aside0.mk HBK2
          clear HBK2
          obtain ⟨c1, hc1e⟩ : ∃ c1, C.getD 1 0 = c1 := ⟨_, rfl⟩
          rw [hc1e] at hc1
          have HC1 := Aside0.mk hc1e
          clear hlt hsm hc1e
          by_cases e3 : (sm : Int) = 32768
          · have HOK := Aside0.mk (HBK.out.trans (if_pos (.inl (by omega))))
            cases loose with
            | false =>
              go_wp2
              go_ret
              exact ⟨HB.out, .inl ⟨C, X, HOK.out, rfl, HK.out⟩⟩
            | true =>
              by_cases e1 : (X.length : Int) = 1
              · by_cases e2 : (c1 : Int) = 1
                · go_wp2
                  go_ret
                  exact ⟨HB.out, .inl ⟨C, X, HOK.out, rfl, HK.out⟩⟩
                · go_wp2
                  go_ret
                  exact ⟨HB.out, .inl ⟨C, X, HOK.out, rfl, HK.out⟩⟩
              · go_wp2
                go_ret
                exact ⟨HB.out, .inl ⟨C, X, HOK.out, rfl, HK.out⟩⟩
          · by_cases e1 : loose = true ∧ (X.length : Int) = 1 ∧ (c1 : Int) = 1
            · have HOK := Aside0.mk (HBK.out.trans (if_pos (.inr (.inl ⟨e1.1, by omega, by rw [HC1.out]; omega⟩))))
              obtain ⟨rfl, e11, e12⟩ := e1
              go_wp2
              go_ret
              exact ⟨HB.out, .inl ⟨C, X, HOK.out, rfl, HK.out⟩⟩
            · by_cases e4 : nn = true ∧ (X.length : Int) = 0
              · have HOK := Aside0.mk (HBK.out.trans (if_pos (.inr (.inr ⟨e4.1, by omega⟩))))
                obtain ⟨rfl, e41⟩ := e4
                have e1 : ¬ (X.length : Int) = 1 := by omega
                cases loose with
                | false =>
                  go_wp2
                  go_ret
                  exact ⟨HB.out, .inl ⟨C, X, HOK.out, rfl, HK.out⟩⟩
                | true =>
                  go_wp2
                  go_ret
                  exact ⟨HB.out, .inl ⟨C, X, HOK.out, rfl, HK.out⟩⟩
              · have e3b : ((sm : Int) != 32768) = true := bne_iff_ne.mpr e3
                have HNO := Aside0.mk (HBK.out.trans (if_neg (by
                  rintro (h | ⟨h1, h2, h3⟩ | ⟨h1, h2⟩)
                  · omega
                  · exact e1 ⟨h1, by omega, by rw [HC1.out] at h3; omega⟩
                  · exact e4 ⟨h1, by omega⟩)))
                cases loose with
                | false =>
                  clear e1
                  cases nn with
                  | false =>
                    clear e4
                    go_wp2
                    exact ⟨rfl, HB.out, .inr ⟨_, HNO.out, rfl⟩⟩
                  | true =>
                    have e40 : ¬ (X.length : Int) = 0 := fun h => e4 ⟨rfl, h⟩
                    have e42 : ¬ X = [] := fun h => e40 (by rw [h]; rfl)
                    have e40b : ((X.length : Int) == 0) = false := beq_eq_false_iff_ne.mpr e40
                    clear e4
                    go_wp2
                    exact ⟨rfl, HB.out, .inr ⟨_, HNO.out, rfl⟩⟩
                | true =>
                  by_cases e11 : (X.length : Int) = 1
                  · have e12 : ¬ (c1 : Int) = 1 := fun h => e1 ⟨rfl, e11, h⟩
                    have e13 : ((c1 : Int) == 1) = false := beq_eq_false_iff_ne.mpr e12
                    have e11b : ((X.length : Int) == 1) = true := beq_iff_eq.mpr e11
                    have e40 : ¬ (X.length : Int) = 0 := by omega
                    have e42 : ¬ X = [] := fun h => e40 (by rw [h]; rfl)
                    have e40b : ((X.length : Int) == 0) = false := beq_eq_false_iff_ne.mpr e40
                    clear e1 e4
                    cases nn with
                    | false =>
                      go_wp2
                      exact ⟨rfl, HB.out, .inr ⟨_, HNO.out, rfl⟩⟩
                    | true =>
                      go_wp2
                      exact ⟨rfl, HB.out, .inr ⟨_, HNO.out, rfl⟩⟩
                  · have e11b : ((X.length : Int) == 1) = false := beq_eq_false_iff_ne.mpr e11
                    clear e1
                    cases nn with
                    | false =>
                      clear e4
                      go_wp2
                      exact ⟨rfl, HB.out, .inr ⟨_, HNO.out, rfl⟩⟩
                    | true =>
                      have e40 : ¬ (X.length : Int) = 0 := fun h => e4 ⟨rfl, h⟩
                      have e42 : ¬ X = [] := fun h => e40 (by rw [h]; rfl)
                      have e40b : ((X.length : Int) == 0) = false := beq_eq_false_iff_ne.mpr e40
                      clear e4
                      go_wp2
                      exact ⟨rfl, HB.out, .inr ⟨_, HNO.out, rfl⟩⟩

/-! ### bits_Mul32: function 53 -/
def bits_Mul32.f (a0 : Int) (a1 : Int) : Option (Int × Int) := some (((IntKind.u64.wrap ((IntKind.u64.wrap (a0)) * (IntKind.u64.wrap (a1)))) / 4294967296) % 4294967296, (IntKind.u64.wrap ((IntKind.u64.wrap (a0)) * (IntKind.u64.wrap (a1)))) % 4294967296)
set_option maxHeartbeats 8000000 in
set_option maxRecDepth 100000 in
theorem bits_Mul32.calls (a0 : Int) (a1 : Int) (r1 : Int) (r2 : Int) (w : World) (h : bits_Mul32.f a0 a1 = some (r1, r2)) :
  Calls Try.prog 53 #[.int .u32 a0, .int .u32 a1] w fun e w' => e = .returned (.tuple #[.int .u32 r1, .int .u32 r2]) ∧ Drawn0 w w' := by
 have H : (some (((IntKind.u64.wrap ((IntKind.u64.wrap (a0)) * (IntKind.u64.wrap (a1)))) / 4294967296) % 4294967296, (IntKind.u64.wrap ((IntKind.u64.wrap (a0)) * (IntKind.u64.wrap (a1)))) % 4294967296)) = some (r1, r2) := h
 clear h
 simp only [Option.some.injEq, Prod.mk.injEq] at H
 obtain ⟨rfl, rfl⟩ := H
 go_enter Try.func53, Try.ntmps53
 go_wp2
 go_ret2
 exact ⟨by first | rfl | (simp; done) | (simp [*]; done), by repeat (first | exact Drawn0.refl _ | apply Drawn0.step)⟩

/-! ### bits_Mul64: function 54 -/
def bits_Mul64.f (a0 : Int) (a1 : Int) : Option (Int × Int) := some (IntKind.u64.wrap ((IntKind.u64.wrap ((IntKind.u64.wrap ((a0 / 4294967296) * (a1 / 4294967296))) + ((IntKind.u64.wrap ((IntKind.u64.wrap ((a0 / 4294967296) * (Go.bits .and .u64 a1 4294967295))) + ((IntKind.u64.wrap ((Go.bits .and .u64 a0 4294967295) * (Go.bits .and .u64 a1 4294967295))) / 4294967296))) / 4294967296))) + ((IntKind.u64.wrap ((Go.bits .and .u64 (IntKind.u64.wrap ((IntKind.u64.wrap ((a0 / 4294967296) * (Go.bits .and .u64 a1 4294967295))) + ((IntKind.u64.wrap ((Go.bits .and .u64 a0 4294967295) * (Go.bits .and .u64 a1 4294967295))) / 4294967296))) 4294967295) + (IntKind.u64.wrap ((Go.bits .and .u64 a0 4294967295) * (a1 / 4294967296))))) / 4294967296)), IntKind.u64.wrap (a0 * a1))
set_option maxHeartbeats 8000000 in
set_option maxRecDepth 100000 in
theorem bits_Mul64.calls (a0 : Int) (a1 : Int) (r1 : Int) (r2 : Int) (w : World) (h : bits_Mul64.f a0 a1 = some (r1, r2)) :
  Calls Try.prog 54 #[.int .u64 a0, .int .u64 a1] w fun e w' => e = .returned (.tuple #[.int .u64 r1, .int .u64 r2]) ∧ Drawn0 w w' := by
 have H : (some (IntKind.u64.wrap ((IntKind.u64.wrap ((IntKind.u64.wrap ((a0 / 4294967296) * (a1 / 4294967296))) + ((IntKind.u64.wrap ((IntKind.u64.wrap ((a0 / 4294967296) * (Go.bits .and .u64 a1 4294967295))) + ((IntKind.u64.wrap ((Go.bits .and .u64 a0 4294967295) * (Go.bits .and .u64 a1 4294967295))) / 4294967296))) / 4294967296))) + ((IntKind.u64.wrap ((Go.bits .and .u64 (IntKind.u64.wrap ((IntKind.u64.wrap ((a0 / 4294967296) * (Go.bits .and .u64 a1 4294967295))) + ((IntKind.u64.wrap ((Go.bits .and .u64 a0 4294967295) * (Go.bits .and .u64 a1 4294967295))) / 4294967296))) 4294967295) + (IntKind.u64.wrap ((Go.bits .and .u64 a0 4294967295) * (a1 / 4294967296))))) / 4294967296)), IntKind.u64.wrap (a0 * a1))) = some (r1, r2) := h
 clear h
 simp only [Option.some.injEq, Prod.mk.injEq] at H
 obtain ⟨rfl, rfl⟩ := H
 go_enter Try.func54, Try.ntmps54
 go_wp2
 go_ret2
 exact ⟨by first | rfl | (simp; done) | (simp [*]; done), by repeat (first | exact Drawn0.refl _ | apply Drawn0.step)⟩

/-! ### bits_Mul: function 52 -/
def bits_Mul.f (a0 : Int) (a1 : Int) : Option (Int × Int) := (bits_Mul64.f a0 a1).bind fun bt215 => (some (bt215.1, bt215.2))
set_option maxHeartbeats 8000000 in
set_option maxRecDepth 100000 in
theorem bits_Mul.calls (a0 : Int) (a1 : Int) (r1 : Int) (r2 : Int) (w : World) (h : bits_Mul.f a0 a1 = some (r1, r2)) :
  Calls Try.prog 52 #[.int .u64 a0, .int .u64 a1] w fun e w' => e = .returned (.tuple #[.int .u64 r1, .int .u64 r2]) ∧ Drawn0 w w' := by
 have H : ((bits_Mul64.f a0 a1).bind fun bt215 => (some (bt215.1, bt215.2))) = some (r1, r2) := h
 clear h
 replace H := Option.bind_eq_some_iff.mp H
 obtain ⟨⟨t215, t216⟩, A30, H⟩ := H
 replace H : (some (t215, t216)) = some (r1, r2) := H
 have A3 := Aside0.mk A30
 clear A30
 simp only [Option.some.injEq, Prod.mk.injEq] at H
 obtain ⟨rfl, rfl⟩ := H
 go_enter Try.func52, Try.ntmps52
 go_wp2_with (first | ((with_reducible refine gate_callee (f := 54) rfl ?_); refine goesA (some 25) Try.func54 #[.int .u64 a0, .int .u64 a1] rfl ?_; (with_reducible refine (bits_Mul64.calls a0 a1 t215 t216 _ A3.out).mono ?_); rintro e w' ⟨rfl, ⟨nd, rfl⟩⟩; refine ⟨_, rfl, ?_⟩))
 go_ret2
 exact ⟨by first | rfl | (simp; done) | (simp [*]; done), by repeat (first | exact Drawn0.refl _ | apply Drawn0.step)⟩

end Go.Proofs.Ytbokeoncpilgpaa.Hp
