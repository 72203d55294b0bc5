/- A deflated text: its signs, lengths and distances, read by the fixed codes. -/
import Derived.Test.YtbokeoncpilgpaaBts
import Derived.Test.YtbokeoncpilgpaaHp1
import Derived.Test.YtbokeoncpilgpaaHp2
import Derived.Test.YtbokeoncpilgpaaHp3
import Derived.Test.YtbokeoncpilgpaaHp7
import Derived.Test.YtbokeoncpilgpaaHp8
import Derived.Test.YtbokeoncpilgpaaHp9
namespace Go.Proofs.Ytbokeoncpilgpaa.Pln
open Go.RowKit Go.Proofs.Ytbokeoncpilgpaa.Hp Go.Proofs.YtbokeoncpilgpaaW.PrintWords Go.Proofs.YtbokeoncpilgpaaW.PrintLast
def cF : List Nat := [0, 0, 0, 0, 0, 0, 0, 24, 152, 112, 0, 0, 0, 0, 0, 0]
def sF : List Int := (List.range 24).map (fun n : Nat => ((256 + n : Nat) : Int)) ++ (List.range 144).map (fun n : Nat => (n : Int)) ++ (List.range 8).map (fun n : Nat => ((280 + n : Nat) : Int)) ++ (List.range 112).map (fun n : Nat => ((144 + n : Nat) : Int))
def cD : List Nat := [0, 0, 0, 0, 0, 32, 0, 0, 0, 0, 0, 0, 0, 0, 0, 0]
def sD : List Int := (List.range 32).map (fun n : Nat => (n : Int))
theorem cF_eq : cntP fixL 15 0 = cF := by decide +kernel
theorem sF_eq : allS fixL 15 = sF := by decide +kernel
theorem cD_eq : cntP fixD 15 0 = cD := by decide +kernel
theorem sD_eq : allS fixD 15 = sD := by decide +kernel
/-- What a book makes of a word. -/
def sigW (cnt : List Nat) (sg : List Int) : Nat → Nat → Nat → Nat → Nat → List Nat → Option Int
  | 0, _, _, _, _, _ => none
  | _ + 1, _, _, _, _, [] => none
  | f + 1, n, code, first, at_, b :: bs =>
    if at_ < sg.length then
      if 2 * code + b < 2 * first + cnt.getD n 0 then (if bs = [] then some (sg.getD (at_ + (2 * code + b - 2 * first)) 0) else none)
      else sigW cnt sg f (n + 1) (2 * code + b) (2 * first + cnt.getD n 0) (at_ + cnt.getD n 0) bs
    else none
theorem sigW_ok (B : List Int) (cnt : List Nat) (sg : List Int) (s : Int) : ∀ f n code first at_ bs t, sigW cnt sg f n code first at_ bs = some s → At B t bs → t ≤ 8 * B.length → signGo B cnt sg f n code first at_ t = if t + bs.length ≤ 8 * B.length then .ok (s, t + bs.length) else .error 11
  | 0, _, _, _, _, _, _, h, _, _ => by cases h
  | f + 1, n, code, first, at_, [], t, h, _, _ => by cases h
  | f + 1, n, code, first, at_, b :: bs, t, h, ha, ht => by
    rw [sigW] at h
    by_cases h1 : at_ < sg.length
    · rw [if_pos h1] at h
      rw [signGo, if_pos h1]
      by_cases h2 : t < 8 * B.length
      · have hb : bitAt B t = b := ha 0 (by simp) (by omega)
        have hr : At B (t + 1) bs := At.right (a := [b]) ha
        rw [if_pos h2, hb]
        by_cases h3 : 2 * code + b < 2 * first + cnt.getD n 0
        · rw [if_pos h3] at h
          rw [if_pos h3]
          by_cases h4 : bs = []
          · rw [if_pos h4] at h
            subst h4
            rw [if_pos (by simp; omega), Option.some.inj h]
            rfl
          · rw [if_neg h4] at h
            cases h
        · rw [if_neg h3] at h
          rw [if_neg h3, sigW_ok B cnt sg s f _ _ _ _ bs (t + 1) h hr (by omega), List.length_cons, show t + 1 + bs.length = t + (bs.length + 1) by omega]
      · rw [if_neg h2, if_neg (by rw [List.length_cons]; omega)]
    · rw [if_neg h1] at h
      cases h
theorem sign_tab : ∀ s, s < 288 → sigW cF sF 15 1 0 0 0 (signB s) = some (s : Int) := by decide +kernel
theorem dist_tab : ∀ d, d < 32 → sigW cD sD 15 1 0 0 0 (codeB d 5) = some (d : Int) := by decide +kernel
theorem sign_dec {B : List Int} {t s : Nat} (hs : s < 288) (h : At B t (signB s)) (ht : t ≤ 8 * B.length) : signL B cF sF t = if t + (signB s).length ≤ 8 * B.length then .ok ((s : Int), t + (signB s).length) else .error 11 := sigW_ok B cF sF s 15 1 0 0 0 _ t (sign_tab s hs) h ht
theorem dist_dec {B : List Int} {t d : Nat} (hd : d < 32) (h : At B t (codeB d 5)) (ht : t ≤ 8 * B.length) : signL B cD sD t = if t + 5 ≤ 8 * B.length then .ok ((d : Int), t + 5) else .error 11 := by
  have := sigW_ok B cD sD d 15 1 0 0 0 _ t (dist_tab d hd) h ht
  rw [codeB_len] at this
  exact this
theorem len_fits : ∀ n, n < 259 → 3 ≤ n → n - lenBase.getD (lenI n) 0 < 2 ^ lenMore.getD (lenI n) 0 := by decide +kernel
theorem far_fits : ∀ n, n < 513 → 1 ≤ n → n - farBase.getD (farS n 29) 0 < 2 ^ farMore.getD (farS n 29) 0 := by decide +kernel
theorem lenI_sign (n : Nat) : 257 + lenI n < 286 := by have := lenI_le n; omega
/-- A byte. -/
theorem lit_dec {B : List Int} {t s : Nat} (m : Int) (f : Nat) (O : List Int) (hs : s < 256) (h : At B t (signB s)) (ht : t ≤ 8 * B.length) :
    codedL B cF sF cD sD m (f + 1) t O = if t + (signB s).length ≤ 8 * B.length then (if m < (O.length : Int) + 1 then .error 12 else codedL B cF sF cD sD m f (t + (signB s).length) (O ++ [(s : Int)])) else .error 11 := by
  have h1 := sign_dec (by omega) h ht
  by_cases hc : t + (signB s).length ≤ 8 * B.length
  · rw [if_pos hc] at h1 ⊢
    rw [codedL_ok _ _ _ _ _ h1, if_neg (by omega), if_neg (by omega), if_neg (by omega)]
  · rw [if_neg hc] at h1 ⊢
    exact codedL_err _ _ _ _ _ h1
/-- The end. -/
theorem end_dec {B : List Int} {t : Nat} (m : Int) (f : Nat) (O : List Int) (h : At B t (signB 256)) (ht : t ≤ 8 * B.length) :
    codedL B cF sF cD sD m (f + 1) t O = if t + 7 ≤ 8 * B.length then .ok (t + 7, O) else .error 11 := by
  have h1 := sign_dec (by decide) h ht
  rw [show (signB 256).length = 7 from rfl] at h1
  by_cases hc : t + 7 ≤ 8 * B.length
  · rw [if_pos hc] at h1 ⊢
    rw [codedL_ok _ _ _ _ _ h1, if_pos (by decide)]
  · rw [if_neg hc] at h1 ⊢
    exact codedL_err _ _ _ _ _ h1
/-- A length and a distance. -/
theorem copy_dec {B : List Int} {t n far : Nat} (m : Int) (f : Nat) (O : List Int) (hn : 3 ≤ n ∧ n ≤ 258) (hf : 1 ≤ far ∧ far ≤ 512) (hO : far ≤ O.length) (h : At B t (copyB n far)) (ht : t ≤ 8 * B.length) :
    codedL B cF sF cD sD m (f + 1) t O = if t + (copyB n far).length ≤ 8 * B.length then (if m < (O.length : Int) + n then .error 12 else codedL B cF sF cD sD m f (t + (copyB n far).length) (copyN n far O)) else .error 11 := by
  have hl := lenI_sign n
  have hL := len_fits n (by omega) hn.1
  have hF := far_fits far (by omega) hf.1
  have hb := lenI_base n hn
  have hfb := farS_base far hf.1 29
  have hfl := farS_le far 29
  unfold copyB at h ⊢
  obtain ⟨d, hd⟩ : ∃ d, farS far 29 = d := ⟨_, rfl⟩
  rw [hd] at h hF hfb hfl ⊢
  obtain ⟨i, hi⟩ : ∃ i, lenI n = i := ⟨_, rfl⟩
  rw [hi] at h hl hL hb ⊢
  obtain ⟨l, hl0⟩ : ∃ l, lenBase.getD i 0 = l := ⟨_, rfl⟩
  obtain ⟨x, hx0⟩ : ∃ x, lenMore.getD i 0 = x := ⟨_, rfl⟩
  obtain ⟨fl, hfl0⟩ : ∃ l, farBase.getD d 0 = l := ⟨_, rfl⟩
  obtain ⟨fx, hfx0⟩ : ∃ x, farMore.getD d 0 = x := ⟨_, rfl⟩
  rw [hl0, hx0, hfl0, hfx0] at h ⊢
  rw [hl0, hx0] at hL
  rw [hl0] at hb
  rw [hfl0, hfx0] at hF
  rw [hfl0] at hfb
  have hA1 := h.left.left.left
  have hA2 := h.left.left.right
  have hA3 := h.left.right
  have hA4 := h.right
  rw [List.length_append, numB_len] at hA3
  rw [List.length_append, List.length_append, numB_len, codeB_len] at hA4
  rw [List.length_append, List.length_append, List.length_append, numB_len, numB_len, codeB_len]
  obtain ⟨sl, hsl⟩ : ∃ sl, (signB (257 + i)).length = sl := ⟨_, rfl⟩
  rw [hsl] at hA2 hA3 hA4 ⊢
  have h1 := sign_dec (by omega) hA1 ht
  rw [hsl] at h1
  by_cases c1 : t + sl ≤ 8 * B.length
  · rw [if_pos c1] at h1
    rw [codedL_ok _ _ _ _ _ h1, if_neg (by omega), if_neg (by omega), if_pos (by omega)]
    unfold copyL
    rw [show 257 + i - 257 = i by omega, hl0, hx0]
    unfold copyG
    by_cases c2 : t + sl + x ≤ 8 * B.length
    · rw [if_neg (by omega)]
      have h2 := num_at B x (n - l) (t + sl) hA2 c2
      rw [Nat.mod_eq_of_lt hL] at h2
      have h3 := dist_dec (d := d) (by omega) (show At B (t + sl + x) (codeB d 5) by rw [Nat.add_assoc]; exact hA3) c2
      by_cases c3 : t + sl + x + 5 ≤ 8 * B.length
      · rw [if_pos c3] at h3
        rw [h3]
        simp only []
        rw [if_neg (by omega), Int.toNat_natCast, hfl0, hfx0]
        unfold copyH
        by_cases c4 : t + sl + x + 5 + fx ≤ 8 * B.length
        · have h4 := num_at B fx (far - fl) (t + sl + x + 5) (by rw [show t + sl + x + 5 = t + (sl + x + 5) by omega]; exact hA4) c4
          rw [Nat.mod_eq_of_lt hF] at h4
          rw [if_neg (by omega), h4, show fl + (far - fl) = far by omega, if_neg (by omega), h2, show l + (n - l) = n by omega, if_pos (show t + (sl + x + 5 + fx) ≤ 8 * B.length by omega), show t + (sl + x + 5 + fx) = t + sl + x + 5 + fx by omega]
          by_cases c5 : m < (O.length : Int) + n
          · rw [if_pos c5, if_pos c5]
          · rw [if_neg c5, if_neg c5]
        · rw [if_pos (by omega), if_neg (show ¬ t + (sl + x + 5 + fx) ≤ 8 * B.length by omega)]
      · rw [if_neg c3] at h3
        rw [h3, if_neg (show ¬ t + (sl + x + 5 + fx) ≤ 8 * B.length by omega)]
    · rw [if_pos (by omega), if_neg (show ¬ t + (sl + x + 5 + fx) ≤ 8 * B.length by omega)]
  · rw [if_neg c1] at h1
    rw [codedL_err _ _ _ _ _ h1, if_neg (show ¬ t + (sl + x + 5 + fx) ≤ 8 * B.length by omega)]
theorem run_same (l : List Int) (at_ far : Nat) : ∀ f n i, n ≤ i → i < runK l at_ far f n → l.getD (at_ + i) 0 = l.getD (at_ + i - far) 0
  | 0, n, i, h, hi => by rw [runK] at hi; omega
  | f + 1, n, i, h, hi => by
    rw [runK] at hi
    by_cases hc : at_ + n < l.length ∧ l.getD (at_ + n) 0 = l.getD (at_ + n - far) 0
    · rw [if_pos hc] at hi
      rcases Nat.lt_or_ge n i with h2 | h2
      · exact run_same l at_ far f (n + 1) i h2 hi
      · obtain rfl : n = i := by omega
        exact hc.2
    · rw [if_neg hc] at hi
      omega
theorem best_run (l : List Int) (at_ : Nat) : ∀ k, 1 ≤ (bestK l at_ k).1 → (bestK l at_ k).1 = runK l at_ (bestK l at_ k).2 258 0 ∧ 1 ≤ (bestK l at_ k).2 ∧ (bestK l at_ k).2 ≤ k
  | 0, h => absurd h (show ¬ 1 ≤ 0 by decide)
  | k + 1, h => by
    rw [bestK] at h ⊢
    by_cases hc : (bestK l at_ k).1 < runK l at_ (k + 1) 258 0
    · rw [if_pos hc]
      exact ⟨rfl, Nat.succ_le_succ (Nat.zero_le _), Nat.le_refl _⟩
    · rw [if_neg hc] at h ⊢
      obtain ⟨h1, h2, h3⟩ := best_run l at_ k h
      exact ⟨h1, h2, by omega⟩
theorem match_same {l : List Int} {at_ n far : Nat} (hp : matchP l at_ = (n, far)) (h1 : 1 ≤ n) : 1 ≤ far ∧ far ≤ at_ ∧ ∀ i, i < n → l.getD (at_ + i) 0 = l.getD (at_ + i - far) 0 := by
  have h := best_run l at_ (min at_ 512)
  unfold matchP at hp
  rw [hp] at h
  obtain ⟨h2, h3, h4⟩ := h h1
  exact ⟨h3, by omega, fun i hi => run_same l at_ far 258 0 i (Nat.zero_le _) (by rw [← h2]; exact hi)⟩
theorem take_one (l : List Int) (at_ : Nat) (h : at_ < l.length) : l.take at_ ++ [l.getD at_ 0] = l.take (at_ + 1) := by
  rw [List.take_add_one, List.getD_eq_getElem?_getD, List.getElem?_eq_getElem h]
  rfl
theorem copy_take (l : List Int) (far : Nat) : ∀ n at_, at_ + n ≤ l.length → 1 ≤ far → far ≤ at_ → (∀ i, i < n → l.getD (at_ + i) 0 = l.getD (at_ + i - far) 0) → copyN n far (l.take at_) = l.take (at_ + n)
  | 0, _, _, _, _, _ => rfl
  | n + 1, at_, h, h1, h2, hs => by
    have hlen : (l.take at_).length = at_ := by rw [List.length_take]; omega
    rw [copyN, hlen]
    have e : (l.take at_).getD (at_ - far) 0 = l.getD at_ 0 := by
      rw [List.getD_eq_getElem?_getD, List.getElem?_take_of_lt (by omega), ← List.getD_eq_getElem?_getD]
      exact (hs 0 (by omega)).symm
    rw [e, take_one l at_ (by omega), copy_take l far n (at_ + 1) (by omega) h1 (by omega) (fun i hi => by have := hs (i + 1) (by omega); rw [show at_ + 1 + i = at_ + (i + 1) by omega]; exact this)]
    rw [show at_ + 1 + n = at_ + (n + 1) by omega]
/-- What is written is read again; cut, it is short; with too little room, it is long. -/
theorem defl_dec {B : List Int} (l : List Int) (m : Int) (hl : ∀ x ∈ l, 0 ≤ x ∧ x < 256) : ∀ f at_ t F, l.length - at_ < f → at_ ≤ l.length → (at_ : Int) ≤ m → At B t (deflG l f at_ ++ signB 256) → t ≤ 8 * B.length → 8 * B.length - t < F → (t + (deflG l f at_).length + 7 ≤ 8 * B.length ∨ (l.length : Int) ≤ m) →
    codedL B cF sF cD sD m F t (l.take at_) = if t + (deflG l f at_).length + 7 ≤ 8 * B.length then (if m < l.length then .error 12 else .ok (t + (deflG l f at_).length + 7, l)) else .error 11
  | 0, at_, t, F, h, _, _, _, _, _, _ => by omega
  | f + 1, at_, t, F, h, ha, hm, hA, ht, hF, hor => by
    obtain ⟨F, rfl⟩ : ∃ F2, F = F2 + 1 := ⟨F - 1, by omega⟩
    by_cases hlt : at_ < l.length
    · obtain ⟨n, far, hp⟩ : ∃ n far, matchP l at_ = (n, far) := ⟨_, _, rfl⟩
      rw [deflG, if_pos hlt, hp] at hA hor ⊢
      by_cases h3 : n < 3
      · rw [if_pos h3] at hA hor ⊢
        have hmem := hl (l.getD at_ 0) (by rw [List.getD_eq_getElem?_getD, List.getElem?_eq_getElem hlt]; exact List.getElem_mem _)
        obtain ⟨s, hs⟩ : ∃ s : Nat, l.getD at_ 0 = s := ⟨(l.getD at_ 0).toNat, by omega⟩
        rw [hs, Int.toNat_natCast] at hA hor ⊢
        rw [hs] at hmem
        rw [List.append_assoc] at hA
        rw [lit_dec m F (l.take at_) (by omega) hA.left ht]
        have hlen : (l.take at_).length = at_ := by rw [List.length_take]; omega
        rw [hlen, List.length_append] at *
        by_cases hc : t + (signB s).length ≤ 8 * B.length
        · rw [if_pos hc]
          by_cases hm2 : m < (at_ : Int) + 1
          · rw [if_pos hm2]
            rcases hor with ho | ho
            · rw [if_pos (by omega), if_pos (by omega)]
            · omega
          · have hpos : 0 < (signB s).length := by
              unfold signB
              repeat' split
              all_goals (rw [codeB_len]; decide)
            rw [if_neg hm2, ← hs, take_one l at_ hlt, defl_dec l m hl f (at_ + 1) (t + (signB s).length) F (by omega) (by omega) (by omega) hA.right hc (by omega) (by rcases hor with ho | ho; (· left; omega); (· right; exact ho))]
            rw [show t + ((signB s).length + (deflG l f (at_ + 1)).length) + 7 = t + (signB s).length + (deflG l f (at_ + 1)).length + 7 by omega]
        · rw [if_neg hc, if_neg (by omega)]
      · rw [if_neg h3] at hA hor ⊢
        obtain ⟨q1, q2, q3, q4⟩ := matchP_le l at_ ha
        obtain ⟨p1, p2, p3⟩ := match_same hp (by omega)
        rw [hp] at q1 q2 q3
        simp only at q1 q2 q3 hA hor ⊢
        rw [List.append_assoc] at hA
        have hlen : (l.take at_).length = at_ := by rw [List.length_take]; omega
        rw [copy_dec m F (l.take at_) ⟨by omega, q1⟩ ⟨p1, q2⟩ (by rw [hlen]; exact p2) hA.left ht]
        rw [hlen, List.length_append] at *
        by_cases hc : t + (copyB n far).length ≤ 8 * B.length
        · rw [if_pos hc]
          by_cases hm2 : m < (at_ : Int) + n
          · rw [if_pos hm2]
            rcases hor with ho | ho
            · rw [if_pos (by omega), if_pos (by omega)]
            · omega
          · have hpos : 0 < (copyB n far).length := by
              unfold copyB
              rw [List.length_append, List.length_append, codeB_len]
              omega
            rw [if_neg hm2, copy_take l far n at_ q3 p1 p2 p3, defl_dec l m hl f (at_ + n) (t + (copyB n far).length) F (by omega) (by omega) (by omega) hA.right hc (by omega) (by rcases hor with ho | ho; (· left; omega); (· right; exact ho))]
            rw [show t + ((copyB n far).length + (deflG l f (at_ + n)).length) + 7 = t + (copyB n far).length + (deflG l f (at_ + n)).length + 7 by omega]
        · rw [if_neg hc, if_neg (by omega)]
    · rw [deflG, if_neg hlt] at hA hor ⊢
      rw [List.length_nil, Nat.add_zero] at hor ⊢
      obtain rfl : at_ = l.length := by omega
      rw [List.take_length, end_dec m F l hA ht, if_neg (show ¬ m < (l.length : Int) by omega)]
theorem codeB_lt (n : Nat) : ∀ k, ∀ x ∈ codeB n k, x < 2
  | 0, x, h => by cases h
  | k + 1, x, h => by
    rw [codeB] at h
    rcases List.mem_cons.1 h with rfl | h
    · exact Nat.mod_lt _ (by decide)
    · exact codeB_lt n k x h
theorem signB_lt (s : Nat) : ∀ x ∈ signB s, x < 2 := by
  unfold signB
  repeat' split
  all_goals exact codeB_lt _ _
theorem app_lt {a b : List Nat} (ha : ∀ x ∈ a, x < 2) (hb : ∀ x ∈ b, x < 2) : ∀ x ∈ a ++ b, x < 2 := fun x h => (List.mem_append.1 h).elim (ha x) (hb x)
theorem copyB_lt (n far : Nat) : ∀ x ∈ copyB n far, x < 2 := app_lt (app_lt (app_lt (signB_lt _) (numB_lt _ _)) (codeB_lt _ _)) (numB_lt _ _)
theorem deflG_lt (l : List Int) : ∀ f at_, ∀ x ∈ deflG l f at_, x < 2
  | 0, _, x, h => by cases h
  | f + 1, at_, x, h => by
    rw [deflG] at h
    split at h
    · split at h
      · exact app_lt (signB_lt _) (deflG_lt l f _) x h
      · exact app_lt (copyB_lt _ _) (deflG_lt l f _) x h
    · cases h
theorem deflB_lt (l : List Int) : ∀ x ∈ deflB l, x < 2 := app_lt (app_lt (numB_lt _ _) (deflG_lt l _ _)) (signB_lt _)
theorem at_bytes {B : List Int} {bl : List Nat} (h : AtB B 0 (bytesL bl)) (hb : ∀ x ∈ bl, x < 2) : At B 0 bl := by
  intro j hj hB
  rw [Nat.zero_add] at hB ⊢
  have hp : (bytesL bl).length = (bl.length + 7) / 8 := bytesL_len bl
  have h1 := h (j / 8) (by omega) (by omega)
  rw [Nat.zero_add] at h1
  have h2 : (bytesL bl).getD (j / 8) 0 = (((packL bl).getD (j / 8) 0 : Nat) : Int) := by
    unfold bytesL
    rw [List.getD_eq_getElem?_getD, List.getD_eq_getElem?_getD, List.getElem?_map]
    cases (packL bl)[j / 8]? <;> rfl
  unfold bitAt
  rw [h1, h2, Int.toNat_natCast]
  exact pack_bit bl (bit_le bl hb) j hj
theorem deflB_len (l : List Int) : (deflB l).length = 3 + (deflG l (l.length + 1) 0).length + 7 := by unfold deflB; rw [List.length_append, List.length_append, numB_len]; rfl
/-- All of it. -/
theorem infl_defl {B : List Int} (l : List Int) (m : Int) (hm : 0 ≤ m) (hl : ∀ x ∈ l, 0 ≤ x ∧ x < 256) (h : AtB B 0 (bytesL (deflB l))) (hor : (deflB l).length ≤ 8 * B.length ∨ (l.length : Int) ≤ m) :
    inflL B m = if (deflB l).length ≤ 8 * B.length then (if m < l.length then ([], 0, 12) else (l, (((bytesL (deflB l)).length : Nat) : Int), 0)) else ([], 0, 11) := by
  have hA := at_bytes h (deflB_lt l)
  have hlen := deflB_len l
  have hbl := bytesL_len (deflB l)
  unfold inflL
  rw [if_neg (by omega)]
  show infR (allStep B m (allL B m (8 * B.length)) 0 []) = _
  unfold allStep
  by_cases h3 : 3 ≤ 8 * B.length
  · rw [if_neg (by omega)]
    have hA0 : At B 0 ([1] ++ (numB 1 2 ++ (deflG l (l.length + 1) 0 ++ signB 256))) := by
      have e : deflB l = [1] ++ (numB 1 2 ++ (deflG l (l.length + 1) 0 ++ signB 256)) := by unfold deflB; rw [List.append_assoc]; rfl
      rw [← e]; exact hA
    have b0 : bitAt B 0 = 1 := hA0.left 0 (by decide) (by omega)
    have b1 : numAt B (0 + 1) 2 = 1 := num_at B 2 1 1 (by have := hA0.right.left; exact this) (by omega)
    have hA3 : At B 3 (deflG l (l.length + 1) 0 ++ signB 256) := by have := hA0.right.right; exact this
    rw [b1, b0]
    unfold blockL
    rw [if_neg (by decide), if_pos rfl, cF_eq, sF_eq, cD_eq, sD_eq]
    have hd := defl_dec (B := B) l m hl (l.length + 1) 0 3 (8 * B.length + 1) (by omega) (Nat.zero_le _) (by simpa using hm) hA3 h3 (by omega) (by rcases hor with ho | ho; (· left; omega); (· right; exact ho))
    rw [List.take_zero] at hd
    rw [show 0 + 3 = 3 from rfl, hd]
    by_cases hc : (deflB l).length ≤ 8 * B.length
    · rw [if_pos (by omega), if_pos hc]
      by_cases hm2 : m < (l.length : Int)
      · rw [if_pos hm2, if_pos hm2]; rfl
      · rw [if_neg hm2, if_neg hm2]
        show infR (if (1 : Nat) = 0 then _ else _) = _
        rw [if_neg (by decide)]
        unfold infR
        rw [hbl, hlen]
    · rw [if_neg (by omega), if_neg hc]; rfl
  · rw [if_pos (by omega), if_neg (by omega)]
    rfl
theorem deflL_byte (l : List Int) : ∀ x ∈ bytesL (deflB l), 0 ≤ x ∧ x < 256 := by
  intro x hx
  unfold bytesL at hx
  obtain ⟨y, hy, rfl⟩ := List.mem_map.1 hx
  unfold packL at hy
  obtain ⟨i, _, rfl⟩ := List.mem_map.1 hy
  have := byteOf_lt (deflB l) i (bit_le _ (deflB_lt l)) 8
  omega
end Go.Proofs.Ytbokeoncpilgpaa.Pln
