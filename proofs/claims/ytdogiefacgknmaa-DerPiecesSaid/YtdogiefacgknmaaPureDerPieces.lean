/- Pieces' bytes are the reference's, and are read as the pieces: the statement DerPieces over lists alone. -/
import Derived.Test.YtdogiefacgknmaaHp5
import Derived.Test.YtdogiefacgknmaaHp4
import Derived.Test.YtdogiefacgknmaaBase
namespace Go.Proofs.Ytdogiefacgknmaa.Pure
open Go.RowKit Go.Proofs.Ytdogiefacgknmaa.Hp Go.Proofs.YtdogiefacgknmaaW.PrintWords Go.Proofs.YtdogiefacgknmaaW.PrintLast

theorem awake_ev' : Ev (fun k => lanyardlaw08_awake.f k) true := by
  unfold lanyardlaw08_awake.f
  refine Ev.bind (put_ev _ (by simp [size]) (by simp)) ?_
  refine Ev.bind (take_ev _ (by intro x hx; simp at hx; omega) (by simp)) ?_
  have e1 : putR [] [(⟨2, [5]⟩ : S26)] = ([2, 1, 5], 0) := by decide +kernel
  have e2 : takeR [2, 129, 5, 0, 0, 0, 0, 0] = (0, [], 0, 10) := by decide +kernel
  rw [e1, e2]
  refine Ev.ifT rfl (Ev.ifT ?_ (Ev.now _))
  rw [Lib.strOfNums_toList]
  decide +kernel

theorem refput_eq (a : Int) (b : List Int) (h : b.length ≤ 700) : lanyardref08_Put.f a b = some (hd a b.length ++ b) := by
  unfold lanyardref08_Put.f hd
  have e0 : wrap64 ((b.length : Int) / 256) = (b.length : Int) / 256 := w64 (by omega) (by omega)
  by_cases h1 : (b.length : Int) < 128
  · simp [h1]; omega
  by_cases h2 : (b.length : Int) < 256
  · simp [h1, h2]; omega
  have h3 : (b.length : Int) < 65536 := by omega
  simp [h1, h2, h3, e0]
  omega

theorem fin_at (h body rest : List Int) (hb : (body.length : Int) < 1048576) (a : Int) (n : Int) (ha : a = h.length) (hn : n = body.length) :
    fin (h ++ body ++ rest) n a = (rd (h ++ body ++ rest) 0, body, a + n, 0) := by
  unfold fin
  subst ha hn
  rw [if_neg (by omega), if_neg (by simp; omega)]
  have e1 : (((h.length : Int) + (body.length : Int))).toNat = (h ++ body).length := by simp; omega
  have e2 : ((h.length : Int)).toNat = h.length := by omega
  rw [e1, e2, List.take_left' rfl, List.drop_left' rfl]

theorem take_enc (p : S26) (rest : List Int) (hg : bad p = false) : takeR (enc p ++ rest) = (p.f0, p.f1, ((enc p).length : Int), 0) := by
  obtain ⟨a, b⟩ := p
  simp only [bad, Bool.or_eq_false_iff, decide_eq_false_iff_not] at hg
  obtain ⟨hn, hl⟩ := hg
  simp only [enc]
  unfold hd
  by_cases h1 : (b.length : Int) < 128
  · rw [if_pos h1]
    have e : (b.length : Int) % 256 = b.length := by omega
    rw [e]
    have F := fin_at [a, (b.length : Int)] b rest (by omega) 2 b.length (by simp) rfl
    unfold takeR
    simp only [List.cons_append, List.nil_append] at F ⊢
    rw [if_neg (by simp), if_neg (by simp [rd, hn]), if_neg (by simp), if_pos (by simp [rd]; omega)]
    have r1 : rd (a :: (b.length : Int) :: (b ++ rest)) 1 = b.length := by simp [rd]
    rw [r1, F]
    simp [rd]
    omega
  rw [if_neg h1]
  have big : ∀ (w : Int) (ys : List Int), 1 ≤ w → w ≤ 3 → ys.length = w.toNat → fz 0 ys = b.length → hd a b.length = a :: (128 + w) :: ys →
      takeR (a :: (128 + w) :: ys ++ b ++ rest) = (a, b, (((a :: (128 + w) :: ys) ++ b).length : Int), 0) := by
    intro w ys hw hw3 hys hz hh
    have F := fin_at (a :: (128 + w) :: ys) b rest (by omega) (2 + w) b.length (by simp; omega) rfl
    have e128 : (128 + w) - 128 = w := by omega
    unfold takeR
    have r0 : rd (a :: (128 + w) :: ys ++ b ++ rest) 0 = a := by simp [rd]
    have r1 : rd (a :: (128 + w) :: ys ++ b ++ rest) 1 = 128 + w := by simp [rd]
    rw [r0, r1, e128]
    rw [if_neg (by simp), if_neg (by simp [hn]), if_neg (by simp), if_neg (by omega), if_neg (by omega), if_neg (by simp; omega)]
    have et : (a :: (128 + w) :: ys ++ b ++ rest).take (2 + w).toNat = a :: (128 + w) :: ys := by
      rw [List.append_assoc]
      exact List.take_left' (by simp; omega)
    rw [et]
    have ed : (a :: (128 + w) :: ys).drop 2 = ys := rfl
    rw [ed, hz, if_pos hh, F, r0]
    simp
    omega
  by_cases h2 : (b.length : Int) < 256
  · rw [if_pos h2]
    have := big 1 [(b.length : Int) % 256] (by omega) (by omega) rfl (by simp [fz]; omega) (by unfold hd; rw [if_neg h1, if_pos h2]; rfl)
    exact this
  rw [if_neg h2]
  by_cases h3 : (b.length : Int) < 65536
  · rw [if_pos h3]
    have := big 2 [((b.length : Int) / 256) % 256, (b.length : Int) % 256] (by omega) (by omega) rfl (by simp [fz]; omega) (by unfold hd; rw [if_neg h1, if_neg h2, if_pos h3]; rfl)
    exact this
  rw [if_neg h3]
  have := big 3 [((b.length : Int) / 65536) % 256, ((b.length : Int) / 256) % 256, (b.length : Int) % 256] (by omega) (by omega) rfl (by simp [fz]; omega) (by unfold hd; rw [if_neg h1, if_neg h2, if_neg h3]; rfl)
  exact this

theorem enc_B8 {p : S26} (h : 0 ≤ p.f0 ∧ p.f0 < 256) (k : B8 p.f1) : B8 (enc p) := B8.app (hd_B8 h.1 h.2) k
theorem flat_B8 {ps : List S26} (h : ∀ p ∈ ps, (0 ≤ p.f0 ∧ p.f0 < 256) ∧ B8 p.f1) : B8 (flat ps) := by
  intro x hx
  obtain ⟨p, hp, hx⟩ := List.mem_flatMap.1 hx
  exact enc_B8 (h p hp).1 (h p hp).2 x hx
theorem flat_cons (p : S26) (ps : List S26) : flat (p :: ps) = enc p ++ flat ps := by simp [flat]
theorem flat_len (ps : List S26) : (flat ps).length ≤ size ps := by
  induction ps with
  | nil => simp [flat, size]
  | cons p ps ih =>
    rw [flat_cons, List.length_append]
    have := hd_len p.f0 p.f1.length
    simp only [enc, List.length_append, size]
    omega
theorem split_flat : ∀ (ps acc : List S26), (∀ p ∈ ps, (0 ≤ p.f0 ∧ p.f0 < 256) ∧ B8 p.f1) → (∀ p ∈ ps, bad p = false) → size ps < 1099511627776 → acc.length + ps.length < 1099511627776 →
    Ev (fun k => der_Split.l0 k (flat ps) acc) (acc ++ ps, 0) := by
  intro ps
  induction ps with
  | nil =>
    intro acc _ _ _ _
    refine Ev.step (fun k => by rw [der_Split.l0]) ?_
    rw [List.append_nil]
    exact Ev.ifF (by simp [flat]) (Ev.now _)
  | cons p ps ih =>
    intro acc hb hg hs hl
    have hlen := flat_len (p :: ps)
    have T := take_ev (flat (p :: ps)) (flat_B8 hb) (by omega)
    have hhd := hd_len p.f0 p.f1.length
    have hel : (enc p).length = (hd p.f0 p.f1.length).length + p.f1.length := by simp [enc]
    rw [flat_cons] at T hlen ⊢
    rw [take_enc p (flat ps) (hg p (List.mem_cons_self ..))] at T
    rw [List.length_append] at hlen
    refine Ev.step (fun k => by rw [der_Split.l0]) ?_
    refine Ev.ifT (by rw [List.length_append]; omega) (Ev.bind T ?_)
    simp only [List.length_cons] at hl
    refine Ev.ifT rfl (Ev.ifT (by omega) (Ev.ifT (by simp) (Ev.ifT (by simp; omega) ?_)))
    have e : ((((enc p).length : Int) : Int).toNat) = (enc p).length := by omega
    simp only [e, List.drop_left' rfl]
    have := ih (acc ++ [p]) (fun q hq => hb q (List.mem_cons_of_mem _ hq)) (fun q hq => hg q (List.mem_cons_of_mem _ hq)) (by simp only [size] at hs; omega) (by simp; omega)
    simpa using this

theorem all_self (ps : List S26) (hp : ps.length < 1099511627776) : ∀ (d : Nat) (i : Nat), i + d = ps.length → Ev (fun k => lanyardlaw08_all.l0 k ps ps (i : Int)) true := by
  intro d
  induction d with
  | zero =>
    intro i hi
    refine Ev.step (fun k => by rw [lanyardlaw08_all.l0]) ?_
    exact Ev.ifF (by omega) (Ev.now _)
  | succ d ih =>
    intro i hi
    refine Ev.step (fun k => by rw [lanyardlaw08_all.l0]) ?_
    refine Ev.ifT (by omega) (Ev.ifT (by omega) (Ev.ifT (by omega) ?_))
    have e : lanyardlaw08_same.f (rd_T26 ps i).f0 (rd_T26 ps i).f1 (rd_T26 ps i).f0 (rd_T26 ps i).f1 = some true := by unfold lanyardlaw08_same.f; simp
    refine Ev.bindC e (Ev.ifT rfl ?_)
    have := ih (i + 1) (by omega)
    rw [w64 (by omega) (by omega)]
    exact this

theorem nn_mod {a : Int} (h0 : 0 ≤ a) (h1 : a < 256) : (Int.tmod a 32 != 31) = !(nn a) := by
  unfold nn
  rw [u8_and31 a h0 h1, Int.tmod_eq_emod_of_nonneg h0]
  rfl
theorem putR_bad : ∀ (ps : List S26) (acc : List Int), ¬ (∀ p ∈ ps, bad p = false) → putR acc ps = ([], 2) := by
  intro ps
  induction ps with
  | nil => intro acc h; exact absurd (fun p hp => by cases hp) h
  | cons p ps ih =>
    intro acc h
    unfold putR
    cases hb : bad p with
    | true => rfl
    | false =>
      rw [if_neg (by simp)]
      refine ih _ (fun k => h (fun q hq => ?_))
      rcases List.mem_cons.1 hq with e | hq
      · rw [e]; exact hb
      · exact k q hq

theorem law_loop (ps : List S26) (hb : ∀ p ∈ ps, (0 ≤ p.f0 ∧ p.f0 < 256) ∧ B8 p.f1) (hp : ps.length ≤ 20) : ∀ (suf pre : List S26), pre ++ suf = ps → (∀ p ∈ pre, p.f1.length ≤ 700) →
    Ev (fun k => lanyardlaw08_DerPieces.l0 k ps (flat pre) (pre.all fun p => !(nn p.f0)) (pre.length : Int)) true := by
  intro suf
  induction suf with
  | nil =>
    intro pre hpre h7
    rw [List.append_nil] at hpre
    subst hpre
    refine Ev.step (fun k => by rw [lanyardlaw08_DerPieces.l0]) ?_
    have hsz : ∀ l : List S26, (∀ p ∈ l, p.f1.length ≤ 700) → size l ≤ 705 * l.length := by
      intro l
      induction l with
      | nil => intro _; simp [size]
      | cons q l ih =>
        intro h
        have := h q (List.mem_cons_self ..)
        have := ih (fun x hx => h x (List.mem_cons_of_mem _ hx))
        simp only [size, List.length_cons]
        omega
    have hs := hsz pre h7
    have P1 := put_ev pre (by omega) (by omega)
    have hbad : ∀ p ∈ pre, bad p = nn p.f0 := fun p hp => by
      have := h7 p hp
      have h' : ¬ ((p.f1.length : Int) ≥ 1048576) := by omega
      simp [bad, h']
    refine Ev.ifF (by omega) ?_
    cases hr : pre.all fun p => !(nn p.f0) with
    | true =>
      have hg : ∀ p ∈ pre, bad p = false := fun p hp => by
        have := List.all_eq_true.1 hr p hp
        rw [hbad p hp]
        simpa using this
      rw [putR_good pre [] hg, List.nil_append] at P1
      refine Ev.bind P1 (Ev.ifT rfl ?_)
      refine Ev.bind (show Ev (fun k => der_Split.f k (flat pre)) (pre, 0) from split_flat pre [] hb hg (by omega) (by simp; omega)) ?_
      refine Ev.ifT rfl (Ev.ifT rfl (Ev.ifT rfl ?_))
      refine Ev.bind (a := true) ?_ (Ev.now _)
      unfold lanyardlaw08_all.f
      exact Ev.ifT rfl (all_self pre (by omega) pre.length 0 (by omega))
    | false =>
      have hg : ¬ ∀ p ∈ pre, bad p = false := fun k => by
        have : (pre.all fun p => !(nn p.f0)) = true := List.all_eq_true.2 (fun p hp => by rw [← hbad p hp, k p hp]; rfl)
        rw [hr] at this
        cases this
      rw [putR_bad pre [] hg] at P1
      exact Ev.bind P1 (Ev.ifF (by simp) (Ev.ifT rfl (Ev.now _)))
  | cons p suf ih =>
    intro pre hpre h7
    have hlen : pre.length + (suf.length + 1) = ps.length := by rw [← hpre]; simp
    refine Ev.step (fun k => by rw [lanyardlaw08_DerPieces.l0]) ?_
    have er : rd_T26 ps (pre.length : Int) = p := by rw [← hpre]; exact rdT_at pre suf p
    rw [er]
    refine Ev.ifT (by omega) (Ev.ifT (by omega) ?_)
    by_cases h8 : (p.f1.length : Int) > 700
    · exact Ev.ifT h8 (Ev.now _)
    refine Ev.ifF h8 ?_
    have hmem : p ∈ ps := by rw [← hpre]; simp
    have hp0 := (hb p hmem).1
    have fl := flat_len pre
    have hsz : ∀ l : List S26, (∀ p ∈ l, p.f1.length ≤ 700) → size l ≤ 705 * l.length := by
      intro l
      induction l with
      | nil => intro _; simp [size]
      | cons q l ih =>
        intro h
        have := h q (List.mem_cons_self ..)
        have := ih (fun x hx => h x (List.mem_cons_of_mem _ hx))
        simp only [size, List.length_cons]
        omega
    have hs := hsz pre h7
    have hh := hd_len p.f0 p.f1.length
    have next := ih (pre ++ [p]) (by rw [List.append_assoc]; exact hpre) (fun q hq => by
      rcases List.mem_append.1 hq with hq | hq
      · exact h7 q hq
      · rw [List.mem_singleton.1 hq]; omega)
    have ef : flat (pre ++ [p]) = flat pre ++ (hd p.f0 p.f1.length ++ p.f1) := by simp [flat, enc]
    have el : ((pre ++ [p]).length : Int) = wrap64 ((pre.length : Int) + 1) := by rw [w64 (by omega) (by omega)]; simp
    rw [ef, el, List.all_append] at next
    simp only [List.all_cons, List.all_nil, Bool.and_true] at next
    cases hr : pre.all fun p => !(nn p.f0) with
    | true =>
      rw [hr, Bool.true_and, ← nn_mod hp0.1 hp0.2] at next
      exact Ev.ifT rfl (Ev.bindC (refput_eq _ _ (by omega)) (Ev.ifT (by simp; omega) next))
    | false =>
      rw [hr, Bool.false_and] at next
      exact Ev.ifF (by simp) (Ev.bindC (refput_eq _ _ (by omega)) (Ev.ifT (by simp; omega) next))

theorem DerPieces : lanyardlaw08_DerPieces.Pure := by
  intro ps hl hw
  have hb : ∀ p ∈ ps, (0 ≤ p.f0 ∧ p.f0 < 256) ∧ B8 p.f1 := fun p hp => by
    obtain ⟨h0, _, h1⟩ := hw p hp
    refine ⟨?_, B8.of_wf h1⟩
    exact B8.of_wf (l := [p.f0]) (fun x hx => by rw [List.mem_singleton.1 hx]; exact h0) p.f0 (by simp)
  refine Ev.rounds (g := fun k => lanyardlaw08_DerPieces.f k ps) ?_
  unfold lanyardlaw08_DerPieces.f
  refine Ev.bind awake_ev' (Ev.ifT rfl ?_)
  refine Ev.step (fun k => by rw [lanyardlaw08_DerPieces.j0]) ?_
  by_cases h0 : (ps.length : Int) > 20
  · rw [decide_eq_true h0]
    exact Ev.ifT rfl (Ev.bind awake_ev' (Ev.now _))
  rw [decide_eq_false h0]
  refine Ev.ifF (by simp) ?_
  exact law_loop ps hb (by omega) ps [] rfl (fun _ h => by cases h)

end Go.Proofs.Ytdogiefacgknmaa.Pure
