/- The printed functions of layer 6 that make numbers of bytes, bytes of numbers, and compare: what they answer, as digits of numbers. -/
import Derived.Test.YtcofpbndaljppaaDoorNum
import Derived.Test.YtcofpbndaljppaaDoorHp1
import Derived.Test.YtcofpbndaljppaaDoorHp4
namespace Go.Proofs.YtcofpbndaljppaaDoor.Num
open Go.RowKit Go.Proofs.YtcofpbndaljppaaDoor.Hp Go.Proofs.YtcofpbndaljppaaDoorW.PrintWords Go.Proofs.YtcofpbndaljppaaDoorW.PrintLast Go.Proofs.YtcofpbndaljppaaDoorW.PrintMore

def D (n : Nat) : List Int := dig 4294967296 n
theorem B2 : 2 ≤ 4294967296 := by decide
theorem D_Dg (n : Nat) : Dg 4294967296 (D n) := dig_Dg B2 n
theorem D_val (n : Nat) : val 4294967296 (D n) = n := dig_val B2 n
theorem D_Nz (n : Nat) : Nz (D n) := dig_Nz B2 n
theorem trimz_D {l : List Int} {n : Nat} (h : Dg 4294967296 l) (hv : val 4294967296 l = n) : trimz l = D n := trimz_dig B2 h hv

theorem trimz_snoc (l : List Int) (x : Int) : trimz (l ++ [x]) = if x = 0 then trimz l else l ++ [x] := by
  induction l with
  | nil => simp [trimz]
  | cons y l ih =>
    simp only [List.cons_append, trimz, ih]
    by_cases h : x = 0
    · simp [h]
    · simp only [h, if_false]
      cases e : l ++ [x] with
      | nil => simp at e
      | cons z zs => rfl
theorem rd_snoc (m : List Int) (x : Int) : rd (m ++ [x]) (m.length : Int) = x := by simp [rd]
theorem trim_ev : ∀ (d : Nat) (l : List Int), l.length = d → d < 1099511627776 → Ev (fun k => nat_num_trim.f k l) (trimz l) := by
  intro d
  induction d with
  | zero =>
    intro l hl _
    obtain rfl : l = [] := List.eq_nil_of_length_eq_zero hl
    refine Ev.step (g := fun k => nat_num_trim.l0 k []) (fun k => by rw [nat_num_trim.l0]) ?_
    exact Ev.ifF (by simp) (Ev.now _)
  | succ d ih =>
    intro l hl hd
    have hne : l ≠ [] := by intro h; rw [h] at hl; simp at hl
    obtain ⟨m, x, rfl⟩ : ∃ m x, l = m ++ [x] := ⟨l.dropLast, l.getLast hne, (List.dropLast_concat_getLast hne).symm⟩
    have hm : m.length = d := by simpa using hl
    refine Ev.step (g := fun k => nat_num_trim.l0 k (m ++ [x])) (fun k => by rw [nat_num_trim.l0]) ?_
    have e : wrap64 (((m ++ [x]).length : Int) - 1) = (m.length : Int) := by rw [List.length_append, List.length_singleton, w64 (by omega) (by omega)]; omega
    rw [e, rd_snoc, trimz_snoc]
    have hlt : (m.length : Int) < ((m ++ [x]).length : Int) := by simp; omega
    refine Ev.ifT (by omega) (Ev.ifT (by omega) (Ev.ifT hlt ?_))
    by_cases hx : x = 0
    · rw [if_pos hx]
      refine Ev.ifT hx (Ev.ifT (by omega) ?_)
      have et : (m ++ [x]).take ((m.length : Int)).toNat = m := by rw [show ((m.length : Int)).toNat = m.length by omega]; exact List.take_left' rfl
      rw [et]
      exact ih m hm (by omega)
    · rw [if_neg hx]
      exact Ev.ifF hx (Ev.now _)

/-! ### bytes, the highest first -/
def V (l : List Int) : Int := val 256 l.reverse
theorem V_app (a m : List Int) : V (a ++ m) = V m + 256 ^ m.length * V a := by simp [V, List.reverse_append, val_append]
theorem V_snoc (a : List Int) (x : Int) : V (a ++ [x]) = x + 256 * V a := by simp [V, val]
theorem Dg.rev {b : Int} {l : List Int} (h : Dg b l) : Dg b l.reverse := fun x hx => h x (List.mem_reverse.1 hx)
theorem V_nonneg {l : List Int} (h : Dg 256 l) : 0 ≤ V l := val_nonneg (by decide) h.rev
theorem V_lt {l : List Int} (h : Dg 256 l) : V l < 256 ^ l.length := by
  have := val_lt (b := 256) (by decide) h.rev
  simpa [V] using this
def vb (l : List Int) : Nat := (V l).toNat
theorem vb_V {l : List Int} (h : Dg 256 l) : ((vb l : Nat) : Int) = V l := by have := V_nonneg h; unfold vb; omega
def be (n : Nat) : List Int := (dig 256 n).reverse
theorem be_Dg (n : Nat) : Dg 256 (be n) := (dig_Dg (b := 256) (by decide) n).rev
theorem be_V (n : Nat) : V (be n) = n := by unfold V be; rw [List.reverse_reverse]; exact dig_val (b := 256) (by decide) n
theorem be_vb (n : Nat) : vb (be n) = n := by unfold vb; rw [be_V]; omega
theorem pow_256_4 (m : Nat) : (256 : Int) ^ (4 * m) = 4294967296 ^ m := by rw [Int.pow_mul]; rfl
theorem drop_rev (l : List Int) : (l.dropWhile (· == 0)).reverse = trimz l.reverse := by
  induction l with
  | nil => rfl
  | cons x l ih =>
    rw [List.reverse_cons, trimz_snoc]
    by_cases hx : x = 0
    · subst hx
      simpa using ih
    · rw [if_neg hx]
      simp [hx]
theorem drop_be {l : List Int} (h : Dg 256 l) : l.dropWhile (· == 0) = be (vb l) := by
  have h1 : trimz l.reverse = dig 256 (vb l) := trimz_dig (b := 256) (by decide) h.rev (by show V l = _; rw [vb_V h])
  unfold be
  rw [← h1, ← drop_rev, List.reverse_reverse]

theorem or8 {a y : Int} (ha : 0 ≤ a) (ha1 : a < 16777216) (hy : 0 ≤ y) (hy1 : y < 256) : Go.bits .or .u32 (a * 256) y = a * 256 + y :=
  bits_join .u32 32 (by decide) (fun n h0 h1 => by rw [IntKind.wrap_u32]; omega) 8 _ _ (by omega) (by omega) (by omega) hy (by omega) (by omega)
theorem of_in (l x3 : List Int) (hd : Dg 256 l) (hl : l.length < 1099511627776) (i lo : Nat) (hi : i < l.length) (hlo : i + 1 ≤ lo + 4) (r : List Int)
    (next : Ev (fun k => nat_of.l0 k l (x3 ++ [V ((l.take (i + 1)).drop lo)]) ((i : Int) - 4)) r) (h3 : x3.length < 35184372088832) :
    ∀ (d j : Nat), j + d = i + 1 → lo ≤ j → Ev (fun k => nat_of.l1 k l x3 i (V ((l.take j).drop lo)) j) r := by
  intro d
  induction d with
  | zero =>
    intro j hj _
    obtain rfl : j = i + 1 := by omega
    refine Ev.step (fun k => by rw [nat_of.l1]) ?_
    refine Ev.ifF (by omega) (Ev.ifT h3 ?_)
    rw [w64 (by omega) (by omega)]
    exact next
  | succ d ih =>
    intro j hj hlj
    refine Ev.step (fun k => by rw [nat_of.l1]) ?_
    refine Ev.ifT (by omega) (Ev.ifT (by omega) (Ev.ifT (by omega) ?_))
    have hr := hd.rd (by decide) (j : Int)
    have hc : Dg 256 ((l.take j).drop lo) := (hd.take _).drop _
    have h0 := V_nonneg hc
    have h1 := V_lt hc
    have hlen : ((l.take j).drop lo).length ≤ 3 := by rw [List.length_drop, List.length_take]; omega
    have h2 : (256 : Int) ^ ((l.take j).drop lo).length ≤ 256 ^ 3 := pow_mono (by decide) hlen
    have h3 : (256 : Int) ^ 3 = 16777216 := rfl
    have e1 : (V ((l.take j).drop lo) * 256) % 4294967296 = V ((l.take j).drop lo) * 256 := by omega
    have e2 : rd l (j : Int) % 4294967296 = rd l j := by omega
    rw [e1, e2, or8 h0 (by omega) hr.1 hr.2, w64 (by omega) (by omega)]
    have e3 : V ((l.take j).drop lo) * 256 + rd l (j : Int) = V ((l.take (j + 1)).drop lo) := by
      rw [List.take_succ_eq_append_getElem (by omega : j < l.length), List.drop_append_of_le_length (by rw [List.length_take]; omega), V_snoc, rd_nat]
      simp only [List.getD_eq_getElem?_getD, List.getElem?_eq_getElem (by omega : j < l.length), Option.getD_some]
      omega
    rw [e3]
    have := ih (j + 1) (by omega) (by omega)
    simpa using this
theorem of_out (l : List Int) (hd : Dg 256 l) (hl : l.length < 1099511627776) : ∀ (d : Nat) (i : Int) (x3 : List Int), (i + 1).toNat ≤ d → (i + 1 + 4 * x3.length = l.length ∨ i < 0) → -5 ≤ i → i < l.length → Dg 4294967296 x3 → x3.length ≤ l.length → val 4294967296 x3 = V (l.drop (i + 1).toNat) →
    Ev (fun k => nat_of.l0 k l x3 i) (D (vb l)) := by
  intro d
  induction d with
  | zero =>
    intro i x3 hi _ _ _ hx hx3 hv
    refine Ev.step (fun k => by rw [nat_of.l0]) ?_
    refine Ev.ifF (by omega) ?_
    rw [show (i + 1).toNat = 0 by omega, List.drop_zero] at hv
    have T := trim_ev x3.length x3 rfl (by omega)
    rw [trimz_D hx (by rw [hv, vb_V hd])] at T
    exact Ev.bind T (Ev.now _)
  | succ d ih =>
    intro i x3 hi h4 hm5 hlt hx hx3 hv
    rcases Int.lt_or_le i 0 with hneg | hpos
    · refine Ev.step (fun k => by rw [nat_of.l0]) ?_
      refine Ev.ifF (by omega) ?_
      rw [show (i + 1).toNat = 0 by omega, List.drop_zero] at hv
      have T := trim_ev x3.length x3 rfl (by omega)
      rw [trimz_D hx (by rw [hv, vb_V hd])] at T
      exact Ev.bind T (Ev.now _)
    · obtain ⟨n, rfl⟩ : ∃ n : Nat, i = n := ⟨i.toNat, by omega⟩
      refine Ev.step (fun k => by rw [nat_of.l0]) ?_
      refine Ev.ifT (by omega) ?_
      obtain ⟨lo, hlo⟩ : ∃ lo : Nat, lo = n + 1 - 4 := ⟨_, rfl⟩
      have elo : mx (wrap64 ((n : Int) - 3)) 0 = (lo : Int) := by rw [w64 (by omega) (by omega)]; unfold mx; split <;> omega
      rw [elo]
      have hn : n < l.length := by omega
      have hc : Dg 256 ((l.take (n + 1)).drop lo) := (hd.take _).drop _
      have c0 := V_nonneg hc
      have c1 := V_lt hc
      have hlen : ((l.take (n + 1)).drop lo).length ≤ 4 := by rw [List.length_drop, List.length_take]; omega
      have c2 : (256 : Int) ^ ((l.take (n + 1)).drop lo).length ≤ 256 ^ 4 := pow_mono (by decide) hlen
      have c3 : (256 : Int) ^ 4 = 4294967296 := rfl
      have hmm : (n : Int) + 1 + 4 * x3.length = l.length := by rcases h4 with h | h <;> omega
      have hnv : val 4294967296 (x3 ++ [V ((l.take (n + 1)).drop lo)]) = V (l.drop ((n : Int) - 4 + 1).toNat) := by
        rw [show ((n : Int) - 4 + 1).toNat = lo by omega]
        have es : l.drop lo = (l.take (n + 1)).drop lo ++ l.drop (n + 1) := by
          rw [← List.drop_append_of_le_length (by rw [List.length_take]; omega), List.take_append_drop]
        rw [es, V_app, val_append, hv, show ((n : Int) + 1).toNat = n + 1 by omega, List.length_drop, show l.length - (n + 1) = 4 * x3.length by omega, pow_256_4]
        simp [val]
      have next := ih ((n : Int) - 4) (x3 ++ [V ((l.take (n + 1)).drop lo)]) (by omega) (by rw [List.length_append, List.length_singleton]; omega) (by omega) (by omega) (Dg.app hx (Dg.cons c0 (by omega) Dg.nil)) (by rw [List.length_append, List.length_singleton]; omega) hnv
      have start := of_in l x3 hd hl n lo hn (by omega) _ next (by omega) (n + 1 - lo) lo (by omega) (Nat.le_refl _)
      have e0 : V ((l.take lo).drop lo) = 0 := by rw [List.drop_eq_nil_of_le (by rw [List.length_take]; omega)]; rfl
      rw [e0] at start
      exact start
theorem of_ev {l : List Int} (hd : Dg 256 l) (hl : l.length < 1099511627776) : Ev (fun k => nat_of.f k l) (D (vb l)) := by
  unfold nat_of.f
  rw [w64 (by omega) (by omega)]
  have e : ((l.length : Int) - 1 + 1).toNat = l.length := by omega
  exact of_out l hd hl l.length ((l.length : Int) - 1) [] (by omega) (.inl (by simp)) (by omega) (by omega) Dg.nil (Nat.zero_le _) (by rw [e, List.drop_length]; rfl)

theorem V4 {x : Int} (h0 : 0 ≤ x) (h1 : x < 4294967296) : V [x / 16777216 % 256, x / 65536 % 256, x / 256 % 256, x % 256] = x := by
  simp [V, val]
  omega
theorem bytes_loop (l : List Int) (hd : Dg 4294967296 l) (hl : l.length < 1099511627776) : ∀ (d : Nat) (i : Int) (x3 : List Int), i + 1 = d → d ≤ l.length → Dg 256 x3 → x3.length = 4 * (l.length - d) → V x3 = val 4294967296 (l.drop d) →
    Ev (fun k => nat_num_bytes.l0 k l x3 i) (be (val 4294967296 l).toNat) := by
  intro d
  induction d with
  | zero =>
    intro i x3 hi _ hx h3 hv
    refine Ev.step (fun k => by rw [nat_num_bytes.l0]) ?_
    refine Ev.ifF (by omega) ?_
    have e : nat_Trim.f x3 = some (be (val 4294967296 l).toNat) := by
      unfold nat_Trim.f
      rw [if_pos (by omega), drop_be hx]
      unfold vb
      rw [hv, List.drop_zero]
    exact Ev.bindC e (Ev.now _)
  | succ d ih =>
    intro i x3 hi hdl hx h3 hv
    obtain rfl : i = d := by omega
    refine Ev.step (fun k => by rw [nat_num_bytes.l0]) ?_
    have hr := hd.rd (by decide) (d : Int)
    refine Ev.ifT (by omega) (Ev.ifT (by omega) (Ev.ifT (by omega) ?_))
    simp only [Option.bind_some]
    refine Ev.ifT (by simp; omega) ?_
    rw [w64 (by omega) (by omega)]
    refine ih ((d : Int) - 1) _ (by omega) (by omega) (Dg.app hx ?_) (by simp; omega) ?_
    · intro y hy
      simp at hy
      omega
    · rw [V_app, V4 hr.1 hr.2, hv, List.drop_eq_getElem_cons (by omega : d < l.length), val, rd_nat]
      simp only [List.getD_eq_getElem?_getD, List.getElem?_eq_getElem (by omega : d < l.length), Option.getD_some, List.length_cons, List.length_nil]
      rfl
theorem bytes_ev {l : List Int} (hd : Dg 4294967296 l) (hl : l.length < 1099511627776) : Ev (fun k => nat_num_bytes.f k l) (be (val 4294967296 l).toNat) := by
  unfold nat_num_bytes.f
  rw [w64 (by omega) (by omega)]
  exact bytes_loop l hd hl l.length _ [] (by omega) (Nat.le_refl _) Dg.nil (by simp) (by rw [List.drop_length]; rfl)
theorem bytes_D (n : Nat) (hl : (D n).length < 1099511627776) : Ev (fun k => nat_num_bytes.f k (D n)) (be n) := by
  have := bytes_ev (D_Dg n) hl
  rw [D_val] at this
  exact this
theorem Trim_eq {l : List Int} (hd : Dg 256 l) (hl : l.length < 140737488355328) : nat_Trim.f l = some (be (vb l)) := by
  unfold nat_Trim.f
  rw [if_pos hl, drop_be hd]

/-! ### comparing -/
def sg (a b : Int) : Int := if a < b then -1 else if b < a then 1 else 0
theorem cmp32 (a b : Int) : cmp_Compare_uint32.f a b = some (sg a b) := by
  unfold cmp_Compare_uint32.f cmp_isNaN_uint32.f sg
  simp
  repeat' (first | rfl | split)
theorem cmp64 (a b : Int) : cmp_Compare_int.f a b = some (sg a b) := by
  unfold cmp_Compare_int.f cmp_isNaN_int.f sg
  simp
  repeat' (first | rfl | split)
theorem val_ge {b : Int} (hb : 1 < b) {l : List Int} (hd : Dg b l) (hz : Nz l) (hn : l ≠ []) : b ^ (l.length - 1) ≤ val b l := by
  rcases hz with hz | hz
  · exact absurd hz hn
  · rcases Int.lt_or_le (val b l) (b ^ (l.length - 1)) with h | h
    · exact absurd (zero_of_lt (by omega) hd h _ (Nat.le_refl _)) hz
    · exact h
theorem len_lt {b : Int} (hb : 1 < b) {l m : List Int} (hd : Dg b l) (hm : Dg b m) (hz : Nz m) (h : l.length < m.length) : val b l < val b m := by
  have h1 := val_lt (by omega) hd
  have h2 := val_ge hb hm hz (by intro e; rw [e] at h; simp at h)
  have h3 : b ^ l.length ≤ b ^ (m.length - 1) := pow_mono (by omega) (by omega)
  omega
theorem compare_loop (l m : List Int) (hd : Dg 4294967296 l) (hm : Dg 4294967296 m) (he : l.length = m.length) (hl : l.length < 1099511627776) : ∀ (d : Nat), d ≤ l.length → val 4294967296 (l.drop d) = val 4294967296 (m.drop d) →
    Ev (fun k => nat_compare.l0 k l m ((d : Int) - 1)) (sg (val 4294967296 l) (val 4294967296 m)) := by
  intro d
  induction d with
  | zero =>
    intro _ hv
    refine Ev.step (fun k => by rw [nat_compare.l0]) ?_
    refine Ev.ifF (by omega) ?_
    rw [List.drop_zero, List.drop_zero] at hv
    have : sg (val 4294967296 l) (val 4294967296 m) = 0 := by unfold sg; rw [hv]; simp
    rw [this]
    exact Ev.now _
  | succ d ih =>
    intro hdl hv
    refine Ev.step (fun k => by rw [nat_compare.l0]) ?_
    have e : ((d + 1 : Nat) : Int) - 1 = (d : Int) := by omega
    rw [e]
    refine Ev.ifT (by omega) (Ev.ifT (by omega) (Ev.ifT (by omega) (Ev.ifT (by omega) ?_)))
    have cl : val 4294967296 (l.drop d) = rd l d + 4294967296 * val 4294967296 (l.drop (d + 1)) := by
      rw [List.drop_eq_getElem_cons (by omega : d < l.length), val, rd_nat]; simp [(by omega : d < l.length)]
    have cm : val 4294967296 (m.drop d) = rd m d + 4294967296 * val 4294967296 (m.drop (d + 1)) := by
      rw [List.drop_eq_getElem_cons (by omega : d < m.length), val, rd_nat]; simp [(by omega : d < m.length)]
    by_cases hq : rd l (d : Int) = rd m d
    · refine Ev.ifT hq ?_
      rw [w64 (by omega) (by omega)]
      exact ih (by omega) (by rw [cl, cm, hv, hq])
    · refine Ev.ifF hq ?_
      have hs : sg (rd l (d : Int)) (rd m d) = sg (val 4294967296 l) (val 4294967296 m) := by
        have sl := val_split 4294967296 l d (by omega)
        have sm := val_split 4294967296 m d (by omega)
        have bl := val_lt (by decide) (hd.take d)
        have bm := val_lt (by decide) (hm.take d)
        have nl := val_nonneg (by decide) (hd.take d)
        have nm := val_nonneg (by decide) (hm.take d)
        rw [List.length_take, Nat.min_eq_left (by omega)] at bl bm
        rw [cl] at sl
        rw [cm, ← hv] at sm
        have P := pow_pos' (b := 4294967296) (by decide) d
        generalize val 4294967296 (l.drop (d + 1)) = t at *
        generalize rd l (d : Int) = x at *
        generalize rd m (d : Int) = y at *
        generalize val 4294967296 (l.take d) = u at *
        generalize val 4294967296 (m.take d) = v at *
        generalize (4294967296 : Int) ^ d = p at *
        rw [sl, sm]
        have hx : p * (x + 4294967296 * t) = p * x + p * (4294967296 * t) := Int.mul_add ..
        have hy : p * (y + 4294967296 * t) = p * y + p * (4294967296 * t) := Int.mul_add ..
        rw [hx, hy]
        rcases Int.lt_or_lt_of_ne hq with h | h
        · have : p * (x + 1) ≤ p * y := Int.mul_le_mul_of_nonneg_left (by omega) (by omega)
          rw [Int.mul_add, Int.mul_one] at this
          unfold sg
          rw [if_pos h, if_pos (by omega)]
        · have : p * (y + 1) ≤ p * x := Int.mul_le_mul_of_nonneg_left (by omega) (by omega)
          rw [Int.mul_add, Int.mul_one] at this
          unfold sg
          rw [if_neg (by omega), if_pos h, if_neg (by omega), if_pos (by omega)]
      rw [← hs]
      exact Ev.bindC (cmp32 _ _) (Ev.now _)
theorem compare_ev {l m : List Int} (hd : Dg 4294967296 l) (hm : Dg 4294967296 m) (zl : Nz l) (zm : Nz m) (hl : l.length < 1099511627776) : Ev (fun k => nat_compare.f k l m) (sg (val 4294967296 l) (val 4294967296 m)) := by
  unfold nat_compare.f
  by_cases he : (l.length : Int) = (m.length : Int)
  · refine Ev.ifT he ?_
    rw [w64 (by omega) (by omega)]
    have := compare_loop l m hd hm (by omega) hl l.length (Nat.le_refl _) (by rw [List.drop_length, show l.length = m.length by omega, List.drop_length])
    exact this
  · refine Ev.ifF he ?_
    have hs : sg (l.length : Int) (m.length : Int) = sg (val 4294967296 l) (val 4294967296 m) := by
      rcases Nat.lt_or_ge l.length m.length with h | h
      · have := len_lt (by decide) hd hm zm h
        unfold sg
        rw [if_pos (by omega), if_pos this]
      · have := len_lt (by decide) hm hd zl (by omega)
        unfold sg
        rw [if_neg (by omega), if_pos (by omega), if_neg (by omega), if_pos this]
    rw [← hs]
    exact Ev.bindC (cmp64 _ _) (Ev.now _)
end Go.Proofs.YtcofpbndaljppaaDoor.Num
