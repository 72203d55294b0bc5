/- The printed functions of layer 6 that divide, first part: shifting, guessing one place, taking out. -/
import Derived.Test.YtcofpbndaljppaaDoorLen
import Derived.Test.YtcofpbndaljppaaDoorHp2
namespace Go.Proofs.YtcofpbndaljppaaDoor.Num
open Go.RowKit Go.Proofs.YtcofpbndaljppaaDoor.Hp Go.Proofs.YtcofpbndaljppaaDoorW.PrintWords Go.Proofs.YtcofpbndaljppaaDoorW.PrintLast Go.Proofs.YtcofpbndaljppaaDoorW.PrintMore

theorem or_comm' (k : IntKind) (a b : Int) : Go.bits .or k a b = Go.bits .or k b a := by
  simp only [Go.bits, BitVec.or_comm]
theorem wraps_u64 (n : Int) (h0 : 0 ≤ n) (h1 : n < 2 ^ 64) : IntKind.u64.wrap n = n := u64w h0 h1
/-- A high and a low word in one of 64 bits. -/
theorem or64 {a b : Int} (ha : 0 ≤ a ∧ a < 4294967296) (hb : 0 ≤ b ∧ b < 4294967296) : Go.bits .or .u64 (IntKind.u64.wrap (a * 4294967296)) (IntKind.u64.wrap b) = a * 4294967296 + b := by
  rw [u64w (x := b) (by omega) (by omega), u64w (by omega) (by omega)]
  exact bits_join .u64 64 (by decide) wraps_u64 32 _ _ (by omega) (by omega) (by omega) hb.1 (by omega) (by omega)
theorem digit_lt {b : Int} (hb : 0 < b) {l : List Int} (hd : Dg b l) {i : Nat} (hi : i < l.length) {c : Int} (h : val b l < b ^ i * c) : rd l (i : Int) < c := by
  have e := val_split b l i (Nat.le_of_lt hi)
  rw [List.drop_eq_getElem_cons hi, val] at e
  have h1 := val_nonneg hb (hd.take i)
  have h2 := val_nonneg hb (hd.drop (i + 1))
  have h5 : rd l (i : Int) = l[i] := by rw [rd_nat]; simp [hi]
  rw [h5]
  rcases Int.lt_or_le l[i] c with h6 | h6
  · exact h6
  · exfalso
    have h7 : b ^ i * c ≤ b ^ i * (l[i] + b * val b (l.drop (i + 1))) := Int.mul_le_mul_of_nonneg_left (by have := Int.mul_nonneg (Int.le_of_lt hb) h2; omega) (Int.le_of_lt (pow_pos' hb i))
    omega

/-! ### times a power of two -/
theorem or_shift {a x : Int} {s : Nat} (hs : s < 32) (ha : 0 ≤ a ∧ a < 2 ^ s) (_ : 0 ≤ x ∧ x < 4294967296) : Go.bits .or .u32 a ((x * 2 ^ s) % 4294967296) = a + (x * 2 ^ s) % 4294967296 := by
  have hB : (4294967296 : Int) = 2 ^ s * 2 ^ (32 - s) := by rw [← Int.pow_add, show s + (32 - s) = 32 by omega]; rfl
  have hd : (2 : Int) ^ s ∣ 4294967296 := ⟨_, hB⟩
  have hp : (2 : Int) ^ s ≤ 2 ^ 31 := pow_mono (by decide) (by omega)
  have h31 : (2 : Int) ^ 31 = 2147483648 := rfl
  rw [or_comm', bits_join .u32 32 (by decide) wraps_u32 s _ _ (by omega) (by rw [Int.emod_emod_of_dvd _ hd, Int.mul_emod_left]) (by omega) ha.1 ha.2 (by omega)]
  omega
theorem shift_loop (a : List Int) (ha : Dg 4294967296 a) (s : Nat) (hs : s < 32) (hn : a.length < 1099511627775) :
    ∀ (d i : Nat) (x : List Int), i + d = a.length → x.length = a.length + 1 → Dg 4294967296 x → Is (val 4294967296 x) (val 4294967296 (a.take i) * 2 ^ s) →
    ∃ r, Ev (fun k => nat_shift.l0 k s x a a.length i) r ∧ r.length = a.length + 1 ∧ Dg 4294967296 r ∧ Is (val 4294967296 r) (val 4294967296 a * 2 ^ s) := by
  intro d
  induction d with
  | zero =>
    intro i x hi hl hx hv
    obtain rfl : i = a.length := by omega
    rw [List.take_length] at hv
    exact ⟨x, Ev.step (fun k => by rw [nat_shift.l0]) (Ev.ifF (by omega) (Ev.now _)), hl, hx, hv⟩
  | succ d ih =>
    intro i x hi hl hx hv
    have f1 : (i : Int) < a.length := by omega
    have f2 : (i : Int) < x.length := by omega
    have f3 : ((i + 1 : Nat) : Int) < x.length := by omega
    have f4 : i < x.length := by omega
    have f5 : i + 1 < x.length := by omega
    have e1 : wrap64 ((i : Int) + 1) = ((i + 1 : Nat) : Int) := i1 (by omega)
    have ha1 := rdD (by decide) ha (i : Int)
    have hx1 := rdD (by decide) hx (i : Int)
    have hp0 : (0 : Int) < 2 ^ s := pow_pos' (by decide) s
    have hp : (2 : Int) ^ s ≤ 2 ^ 31 := pow_mono (by decide) (by omega)
    have h31 : (2 : Int) ^ 31 = 2147483648 := rfl
    have hlt : val 4294967296 x < 4294967296 ^ i * 2 ^ s := by
      rw [hv.h]
      have h1 := val_lt (by decide) (ha.take i)
      rw [List.length_take, Nat.min_eq_left (by omega)] at h1
      exact Int.mul_lt_mul_of_pos_right h1 hp0
    have hxi : rd x (i : Int) < 2 ^ s := digit_lt (by decide) hx f4 hlt
    have hz : rd x ((i + 1 : Nat) : Int) = 0 := by
      rw [rd_nat]
      refine zero_of_lt (b := 4294967296) (j := i + 1) (by decide) hx ?_ _ (Nat.le_refl _)
      have : (4294967296 : Int) ^ i * 2 ^ s ≤ 4294967296 ^ i * 4294967296 := Int.mul_le_mul_of_nonneg_left (by omega) (Int.le_of_lt (pow_pos' (by decide) _))
      rw [Int.pow_succ]
      exact Int.lt_of_lt_of_le hlt this
    have y0 : 0 ≤ rd a (i : Int) * 2 ^ s := Int.mul_nonneg ha1.1 (Int.le_of_lt hp0)
    have y1 : rd a (i : Int) * 2 ^ s ≤ 4294967295 * 2147483648 := Int.mul_le_mul (by omega) (by omega) (Int.le_of_lt hp0) (by decide)
    have es : shl .u64 (IntKind.u64.wrap (rd a (i : Int))) (s : Int) = rd a (i : Int) * 2 ^ s := by
      unfold shl
      rw [u64w (x := rd a (i : Int)) (by omega) (by omega), show min ((s : Int)).toNat IntKind.u64.bits = s from Nat.min_eq_left (by show s ≤ 64; omega), u64w y0 (by omega)]
    have eo := or_shift hs ⟨hx1.1, hxi⟩ ha1
    have hlow : 0 ≤ rd x (i : Int) + (rd a (i : Int) * 2 ^ s) % 4294967296 ∧ rd x (i : Int) + (rd a (i : Int) * 2 ^ s) % 4294967296 < 4294967296 := by
      have hB : (4294967296 : Int) = 2 ^ s * 2 ^ (32 - s) := by rw [← Int.pow_add, show s + (32 - s) = 32 by omega]; rfl
      have hm : (rd a (i : Int) * 2 ^ s) % 4294967296 % 2 ^ s = 0 := by rw [Int.emod_emod_of_dvd _ ⟨_, hB⟩, Int.mul_emod_left]
      have hm0 : 0 ≤ (rd a (i : Int) * 2 ^ s) % 4294967296 := by omega
      have hm1 : (rd a (i : Int) * 2 ^ s) % 4294967296 < 4294967296 := by omega
      obtain ⟨t, ht⟩ := Int.dvd_of_emod_eq_zero hm
      refine ⟨by omega, ?_⟩
      rw [ht] at hm1 ⊢
      have h2 : t < 2 ^ (32 - s) := by
        rw [hB] at hm1
        exact Int.lt_of_mul_lt_mul_left hm1 (Int.le_of_lt hp0)
      have h3 : 2 ^ s * (t + 1) ≤ 2 ^ s * 2 ^ (32 - s) := Int.mul_le_mul_of_nonneg_left (by omega) (Int.le_of_lt hp0)
      rw [← hB, Int.mul_add, Int.mul_one] at h3
      omega
    have hhi : 0 ≤ (rd a (i : Int) * 2 ^ s) / 4294967296 ∧ (rd a (i : Int) * 2 ^ s) / 4294967296 < 4294967296 := by omega
    have eh : (rd a (i : Int) * 2 ^ s) / 4294967296 % 4294967296 = (rd a (i : Int) * 2 ^ s) / 4294967296 := by omega
    have next := ih (i + 1) ((x.set i (rd x (i : Int) + (rd a (i : Int) * 2 ^ s) % 4294967296)).set (i + 1) ((rd a (i : Int) * 2 ^ s) / 4294967296)) (by omega) (by rw [List.length_set, List.length_set]; exact hl) ((hx.set _ hlow.1 hlow.2).set _ hhi.1 hhi.2) ?_
    · obtain ⟨r, hr, hrest⟩ := next
      refine ⟨r, Ev.step (fun k => by rw [nat_shift.l0]) ?_, hrest⟩
      rw [e1, es, eo, eh]
      exact Ev.ifT f1 (Ev.ifT (Int.natCast_nonneg _) (Ev.ifT f1 (Ev.ifT (Int.natCast_nonneg _) (Ev.ifT f2 (Ev.ifT (Int.natCast_nonneg _) (Ev.ifT f3 hr))))))
    · refine ⟨?_⟩
      rw [val_set_rd _ _ _ _ (by rw [List.length_set]; exact f5), val_set_rd _ _ _ _ f4, val_take_rd, hv.h]
      have e2 : rd (x.set i (rd x (i : Int) + (rd a (i : Int) * 2 ^ s) % 4294967296)) ((i + 1 : Nat) : Int) = 0 := by
        rw [rd_nat, List.getD_eq_getElem?_getD] at hz ⊢
        rw [List.getElem?_set_ne (by omega)]
        exact hz
      rw [e2, Int.pow_succ]
      rw [Int.emod_def (rd a (i : Int) * 2 ^ s) 4294967296]
      generalize (rd a (i : Int) * 2 ^ s) / 4294967296 = q at *
      clear ih
      grind
theorem shift_ev (a : List Int) (ha : Dg 4294967296 a) (s : Nat) (hs : s < 32) (hn : a.length < 1099511627775) :
    ∃ r, Ev (fun k => nat_shift.f k a s) r ∧ r.length = a.length + 1 ∧ Dg 4294967296 r ∧ Is (val 4294967296 r) (val 4294967296 a * 2 ^ s) := by
  have e : wrap64 ((a.length : Int) + 1) = ((a.length + 1 : Nat) : Int) := i1 (by omega)
  obtain ⟨r, hr, hrest⟩ := shift_loop a ha s hs hn a.length 0 (List.replicate (a.length + 1) 0) (by omega) (List.length_replicate ..) (Dg.zeros (by decide) _) ⟨by rw [val_zeros]; simp [val]⟩
  refine ⟨r, ?_, hrest⟩
  unfold nat_shift.f
  rw [e]
  exact Ev.ifT (Int.natCast_nonneg _) (Ev.ifT (by omega) hr)
end Go.Proofs.YtcofpbndaljppaaDoor.Num
