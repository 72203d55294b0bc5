/- Go functions of this seat as Lean functions, and their contracts: what the Go code computes, for every input. (By hp.py, a program of this repo, over the kit's print.py.) -/
import Derived.Test.YtcikjghmelbkaaaDoorHp0
import Derived.Test.YtcikjghmelbkaaaDoorHp2
import Derived.Test.YtcikjghmelbkaaaDoorHp3
import Derived.Test.YtcikjghmelbkaaaDoorHp4
import Derived.Test.YtcikjghmelbkaaaDoorHp5
namespace Go.Proofs.YtcikjghmelbkaaaDoor.Hp
open Go.RowKit Go.Proofs.YtcikjghmelbkaaaDoorW.PrintWords Go.Proofs.YtcikjghmelbkaaaDoorW.PrintLast Go.Proofs.YtcikjghmelbkaaaDoorW.PrintMore
attribute [local go_sem] max2_int min2_int max_two min_two max_three min_three max_four min_four   -- for this text's walks alone
set_option linter.unusedVariables false
set_option linter.unusedSimpArgs false

/-! ### moment_reader_all: function 29 -/
theorem length_some (y m : Int) : moment_length.f y m = some ((moment_length.f y m).getD 0) := by
  unfold moment_length.f moment_leap.f
  repeat' split
  all_goals first | rfl | (simp only [Option.bind_some]; split <;> rfl)
def dateL (l : List UInt8) : Option (Nat × Nat × Nat × Nat × Nat × Nat × List UInt8) :=
  (numberL 4 1 9999 l).bind fun a => (signL [45] a.2).bind fun l1 => (numberL 2 1 12 l1).bind fun b => (signL [45] b.2).bind fun l2 => (numberL 2 1 ((moment_length.f a.1 b.1).getD 0) l2).bind fun c => (signL [84] c.2).bind fun l3 => (numberL 2 0 24 l3).bind fun d => (signL [58] d.2).bind fun l4 => (numberL 2 0 59 l4).bind fun e => (signL [58] e.2).bind fun l5 => (numberL 2 0 59 l5).bind fun f => some (a.1, b.1, c.1, d.1, e.1, f.1, f.2)
theorem dateL_some {l l1 l2 l3 l4 l5 l6 l7 l8 l9 l10 l11 : List UInt8} {y mo d h mi se : Nat} (e1 : numberL 4 1 9999 l = some (y, l1)) (e2 : signL [45] l1 = some l2) (e3 : numberL 2 1 12 l2 = some (mo, l3)) (e4 : signL [45] l3 = some l4) (e5 : numberL 2 1 ((moment_length.f y mo).getD 0) l4 = some (d, l5)) (e6 : signL [84] l5 = some l6) (e7 : numberL 2 0 24 l6 = some (h, l7)) (e8 : signL [58] l7 = some l8) (e9 : numberL 2 0 59 l8 = some (mi, l9)) (e10 : signL [58] l9 = some l10) (e11 : numberL 2 0 59 l10 = some (se, l11)) : dateL l = some (y, mo, d, h, mi, se, l11) := by
  unfold dateL
  rw [e1]; simp only [Option.bind_some]
  rw [e2]; simp only [Option.bind_some]
  rw [e3]; simp only [Option.bind_some]
  rw [e4]; simp only [Option.bind_some]
  rw [e5]; simp only [Option.bind_some]
  rw [e6]; simp only [Option.bind_some]
  rw [e7]; simp only [Option.bind_some]
  rw [e8]; simp only [Option.bind_some]
  rw [e9]; simp only [Option.bind_some]
  rw [e10]; simp only [Option.bind_some]
  rw [e11]; simp only [Option.bind_some]
theorem numL_len : ∀ (k n : Nat) (l : List UInt8) (p : Nat × List UInt8), numL k n l = some p → p.2.length ≤ l.length
  | 0, n, l, p, h => by
    obtain rfl := Option.some.inj h
    exact Nat.le_refl _
  | k + 1, n, [], p, h => by cases h
  | k + 1, n, c :: l, p, h => by
    rw [numL] at h
    split at h
    · have := numL_len k _ l p h
      simp; omega
    · cases h
theorem numberL_len {k : Nat} {lo hi : Int} {l : List UInt8} {p : Nat × List UInt8} (h : numberL k lo hi l = some p) : p.2.length ≤ l.length := by
  unfold numberL at h
  obtain ⟨q, hq, h⟩ := Option.bind_eq_some_iff.1 h
  split at h
  · cases h
  · obtain rfl := Option.some.inj h
    exact numL_len _ _ _ _ hq
theorem signL_len {c l l' : List UInt8} (h : signL c l = some l') : l'.length ≤ l.length := by
  unfold signL at h
  split at h
  · obtain rfl := Option.some.inj h
    rw [List.length_drop]; omega
  · cases h
theorem dateL_len {l r : List UInt8} {y mo d h mi se : Nat} (e : dateL l = some (y, mo, d, h, mi, se, r)) : r.length ≤ l.length := by
  unfold dateL at e
  obtain ⟨a1, h1, e⟩ := Option.bind_eq_some_iff.1 e
  obtain ⟨a2, h2, e⟩ := Option.bind_eq_some_iff.1 e
  obtain ⟨a3, h3, e⟩ := Option.bind_eq_some_iff.1 e
  obtain ⟨a4, h4, e⟩ := Option.bind_eq_some_iff.1 e
  obtain ⟨a5, h5, e⟩ := Option.bind_eq_some_iff.1 e
  obtain ⟨a6, h6, e⟩ := Option.bind_eq_some_iff.1 e
  obtain ⟨a7, h7, e⟩ := Option.bind_eq_some_iff.1 e
  obtain ⟨a8, h8, e⟩ := Option.bind_eq_some_iff.1 e
  obtain ⟨a9, h9, e⟩ := Option.bind_eq_some_iff.1 e
  obtain ⟨a10, h10, e⟩ := Option.bind_eq_some_iff.1 e
  obtain ⟨a11, h11, e⟩ := Option.bind_eq_some_iff.1 e
  have k1 := numberL_len h1
  have k2 := signL_len h2
  have k3 := numberL_len h3
  have k4 := signL_len h4
  have k5 := numberL_len h5
  have k6 := signL_len h6
  have k7 := numberL_len h7
  have k8 := signL_len h8
  have k9 := numberL_len h9
  have k10 := signL_len h10
  have k11 := numberL_len h11
  have e := Option.some.inj e
  simp only [Prod.mk.injEq] at e
  rw [← e.2.2.2.2.2.2]
  omega
/-- What follows the seconds: the fraction, the offset, the end. -/
def restL (h mi se : Nat) (wh : Bool) (n : Int) (r : List UInt8) : Option Int :=
  (fracL r).bind fun p => if h = 24 ∧ wh = false then none else (offL p.2).bind fun q => if q.2 = [] then some (wrap64 (n * 86400000 + h * 3600000 + mi * 60000 + se * 1000 + p.1 - q.1)) else none
/-- The moment of a text: the outer way says whether the rounds were enough, the inner one whether there is one. -/
def allL (k : Nat) (l : List UInt8) : Option (Option Int) :=
  match dateL l with
  | none => some none
  | some (y, mo, d, h, mi, se, r) => (moment_nought.f k (bl r)).bind fun wh => (moment_Days.f k y mo d).bind fun nd => some (restL h mi se (decide (mi = 0 ∧ se = 0) && wh) nd.1 r)
theorem allL_mono (l : List UInt8) : ∀ k, LeO (allL k l) (allL (k + 1) l) := by
  intro k x hx
  unfold allL at hx ⊢
  split at hx
  · exact hx
  · obtain ⟨wh, h1, h2⟩ := Option.bind_eq_some_iff.1 hx
    obtain ⟨nd, h3, h4⟩ := Option.bind_eq_some_iff.1 h2
    exact Option.bind_eq_some_iff.2 ⟨wh, moment_nought.mono _ k _ h1, Option.bind_eq_some_iff.2 ⟨nd, moment_Days.mono _ _ _ k _ h3, h4⟩⟩
theorem allL_some {k : Nat} {l r : List UInt8} {res : Option Int} {y mo d h mi se : Nat} (hk : allL k l = some res) (hd : dateL l = some (y, mo, d, h, mi, se, r)) :
    ∃ (wh : Bool) (nd : Int × Int), moment_nought.f k (bl r) = some wh ∧ moment_Days.f k y mo d = some (nd.1, nd.2) ∧ res = restL h mi se (decide (mi = 0 ∧ se = 0) && wh) nd.1 r := by
  unfold allL at hk
  rw [hd] at hk
  obtain ⟨wh, h1, h2⟩ := Option.bind_eq_some_iff.1 hk
  obtain ⟨nd, h3, h4⟩ := Option.bind_eq_some_iff.1 h2
  exact ⟨wh, nd, h1, h3, (Option.some.inj h4).symm⟩
theorem whole_no {mi se : Nat} {wh : Bool} (h : ¬ (mi = 0 ∧ se = 0) ∨ wh = false) : (decide (mi = 0 ∧ se = 0) && wh) = false := by
  rcases h with h | h
  · rw [decide_eq_false h]; rfl
  · rw [h]; simp
theorem whole_yes {h mi se : Nat} {wh : Bool} (k : ¬ h = 24 ∨ mi = 0 ∧ se = 0 ∧ wh = true) : ¬ (h = 24 ∧ (decide (mi = 0 ∧ se = 0) && wh) = false) := by
  intro hq
  rcases k with k | ⟨h1, h2, h3⟩
  · exact k hq.1
  · have h4 := hq.2
    rw [decide_eq_true ⟨h1, h2⟩, h3] at h4
    cases h4
theorem allL_none {k : Nat} {l : List UInt8} {res : Option Int} (hk : allL k l = some res) (hd : dateL l = none) : res = none := by
  unfold allL at hk
  rw [hd] at hk
  exact (Option.some.inj hk).symm
set_option maxRecDepth 100000 in
set_option maxHeartbeats 8000000 in
theorem moment_reader_all.any (k b : Nat) (l : List UInt8) (res : Option Int) (w : World) (h : Rdr b l w) (hl : l.length ≤ 1000000) (hres : allL k l = some res) :
    Calls Tryd.prog 29 #[.pointer (some ⟨b, 0, none⟩)] w fun e w' =>
      KB b w w' ∧ ((∃ v, res = some v ∧ e = .returned (.int .i64 v)) ∨ (res = none ∧ e = .panicked wrongV)) := by
  have HR := Aside0.mk h
  have HK := Aside0.mk (KB.refl b w)
  have hk := Aside0.mk hres
  clear h hres
  go_enter Tryd.func29, Tryd.ntmps29
  have G1 := trivial
  go_wp2_with (first | (go_at_call 34; have q_ := G1; clear q_ G1; have G2 := trivial; refine (moment_reader_number.any b 4 1 9999 _ _ HR.out (by decide)).mono ?_; rintro e w2 ⟨hB2, h2⟩; have HK2 := Aside0.mk (HK.out.trans hB2); clear HK hB2; have HK := HK2; clear HK2; rcases h2 with ⟨y, l1, hs2, rfl, hr2⟩ | ⟨hs2, rfl⟩; have E1 := Aside0.mk hs2; have HR2 := Aside0.mk hr2; clear hs2 HR hr2; have HR := HR2; clear HR2; rotate_left; have E1 := Aside0.mk hs2; clear hs2; rotate_left) | (go_at_call 35; have q_ := G2; clear q_ G2; have G3 := trivial; refine (moment_reader_sign.any b [45] _ _ HR.out).mono ?_; rintro e w2 ⟨hB2, h2⟩; have HK2 := Aside0.mk (HK.out.trans hB2); clear HK hB2; have HK := HK2; clear HK2; rcases h2 with ⟨l2, hs2, rfl, hr2⟩ | ⟨hs2, rfl⟩; have E2 := Aside0.mk hs2; have HR2 := Aside0.mk hr2; clear hs2 HR hr2; have HR := HR2; clear HR2; rotate_left; have E2 := Aside0.mk hs2; clear hs2; rotate_left) | (go_at_call 34; have q_ := G3; clear q_ G3; have G4 := trivial; refine (moment_reader_number.any b 2 1 12 _ _ HR.out (by decide)).mono ?_; rintro e w2 ⟨hB2, h2⟩; have HK2 := Aside0.mk (HK.out.trans hB2); clear HK hB2; have HK := HK2; clear HK2; rcases h2 with ⟨mo, l3, hs2, rfl, hr2⟩ | ⟨hs2, rfl⟩; have E3 := Aside0.mk hs2; have HR2 := Aside0.mk hr2; clear hs2 HR hr2; have HR := HR2; clear HR2; rotate_left; have E3 := Aside0.mk hs2; clear hs2; rotate_left) | (go_at_call 35; have q_ := G4; clear q_ G4; have G5 := trivial; refine (moment_reader_sign.any b [45] _ _ HR.out).mono ?_; rintro e w2 ⟨hB2, h2⟩; have HK2 := Aside0.mk (HK.out.trans hB2); clear HK hB2; have HK := HK2; clear HK2; rcases h2 with ⟨l4, hs2, rfl, hr2⟩ | ⟨hs2, rfl⟩; have E4 := Aside0.mk hs2; have HR2 := Aside0.mk hr2; clear hs2 HR hr2; have HR := HR2; clear HR2; rotate_left; have E4 := Aside0.mk hs2; clear hs2; rotate_left) | (go_at_call 26; refine (moment_length.calls _ _ _ _ (length_some _ _)).mono ?_; rintro e w1 ⟨rfl, nd, rfl⟩; have HR2 := Aside0.mk (HR.out.drewN nd); have HK2 := Aside0.mk (HK.out.trans (KB.drewN b _ nd)); clear HR HK; have HR := HR2; have HK := HK2; clear HR2 HK2) | (go_at_call 34; have q_ := G5; clear q_ G5; have G6 := trivial; refine (moment_reader_number.any b 2 1 _ _ _ HR.out (by decide)).mono ?_; rintro e w2 ⟨hB2, h2⟩; have HK2 := Aside0.mk (HK.out.trans hB2); clear HK hB2; have HK := HK2; clear HK2; rcases h2 with ⟨d, l5, hs2, rfl, hr2⟩ | ⟨hs2, rfl⟩; have E5 := Aside0.mk hs2; have HR2 := Aside0.mk hr2; clear hs2 HR hr2; have HR := HR2; clear HR2; rotate_left; have E5 := Aside0.mk hs2; clear hs2; rotate_left) | (go_at_call 35; have q_ := G6; clear q_ G6; have G7 := trivial; refine (moment_reader_sign.any b [84] _ _ HR.out).mono ?_; rintro e w2 ⟨hB2, h2⟩; have HK2 := Aside0.mk (HK.out.trans hB2); clear HK hB2; have HK := HK2; clear HK2; rcases h2 with ⟨l6, hs2, rfl, hr2⟩ | ⟨hs2, rfl⟩; have E6 := Aside0.mk hs2; have HR2 := Aside0.mk hr2; clear hs2 HR hr2; have HR := HR2; clear HR2; rotate_left; have E6 := Aside0.mk hs2; clear hs2; rotate_left) | (go_at_call 34; have q_ := G7; clear q_ G7; have G8 := trivial; refine (moment_reader_number.any b 2 0 24 _ _ HR.out (by decide)).mono ?_; rintro e w2 ⟨hB2, h2⟩; have HK2 := Aside0.mk (HK.out.trans hB2); clear HK hB2; have HK := HK2; clear HK2; rcases h2 with ⟨h, l7, hs2, rfl, hr2⟩ | ⟨hs2, rfl⟩; have E7 := Aside0.mk hs2; have HR2 := Aside0.mk hr2; clear hs2 HR hr2; have HR := HR2; clear HR2; rotate_left; have E7 := Aside0.mk hs2; clear hs2; rotate_left) | (go_at_call 35; have q_ := G8; clear q_ G8; have G9 := trivial; refine (moment_reader_sign.any b [58] _ _ HR.out).mono ?_; rintro e w2 ⟨hB2, h2⟩; have HK2 := Aside0.mk (HK.out.trans hB2); clear HK hB2; have HK := HK2; clear HK2; rcases h2 with ⟨l8, hs2, rfl, hr2⟩ | ⟨hs2, rfl⟩; have E8 := Aside0.mk hs2; have HR2 := Aside0.mk hr2; clear hs2 HR hr2; have HR := HR2; clear HR2; rotate_left; have E8 := Aside0.mk hs2; clear hs2; rotate_left) | (go_at_call 34; have q_ := G9; clear q_ G9; have G10 := trivial; refine (moment_reader_number.any b 2 0 59 _ _ HR.out (by decide)).mono ?_; rintro e w2 ⟨hB2, h2⟩; have HK2 := Aside0.mk (HK.out.trans hB2); clear HK hB2; have HK := HK2; clear HK2; rcases h2 with ⟨mi, l9, hs2, rfl, hr2⟩ | ⟨hs2, rfl⟩; have E9 := Aside0.mk hs2; have HR2 := Aside0.mk hr2; clear hs2 HR hr2; have HR := HR2; clear HR2; rotate_left; have E9 := Aside0.mk hs2; clear hs2; rotate_left) | (go_at_call 35; have q_ := G10; clear q_ G10; have G11 := trivial; refine (moment_reader_sign.any b [58] _ _ HR.out).mono ?_; rintro e w2 ⟨hB2, h2⟩; have HK2 := Aside0.mk (HK.out.trans hB2); clear HK hB2; have HK := HK2; clear HK2; rcases h2 with ⟨l10, hs2, rfl, hr2⟩ | ⟨hs2, rfl⟩; have E10 := Aside0.mk hs2; have HR2 := Aside0.mk hr2; clear hs2 HR hr2; have HR := HR2; clear HR2; rotate_left; have E10 := Aside0.mk hs2; clear hs2; rotate_left) | (go_at_call 34; have q_ := G11; clear q_ G11; have G12 := trivial; refine (moment_reader_number.any b 2 0 59 _ _ HR.out (by decide)).mono ?_; rintro e w2 ⟨hB2, h2⟩; have HK2 := Aside0.mk (HK.out.trans hB2); clear HK hB2; have HK := HK2; clear HK2; rcases h2 with ⟨se, l11, hs2, rfl, hr2⟩ | ⟨hs2, rfl⟩; have E11 := Aside0.mk hs2; have ED := Aside0.mk (dateL_some E1.out E2.out E3.out E4.out E5.out E6.out E7.out E8.out E9.out E10.out E11.out); have HR2 := Aside0.mk hr2; clear hs2 HR hr2; have HR := HR2; clear HR2; have hc := HR.out.cell; obtain ⟨wh, nd_, hwh, hnd, hrs⟩ := allL_some hk.out ED.out; have HW := Aside0.mk hwh; have HD := Aside0.mk hnd; have HS := Aside0.mk hrs; clear hwh hnd hrs; cases wh; rotate_left; rotate_left; have E11 := Aside0.mk hs2; clear hs2; rotate_left) | (go_at_call 36; refine (moment_nought.calls k _ _ _ HW.out).mono ?_; rintro e w1 ⟨rfl, hb⟩; have HR2 := Aside0.mk (HR.out.kept hb); have HK2 := Aside0.mk (HK.out.trans (KB.below hb (Nat.le_of_lt HR.out.lt))); clear HR HK hb; have HR := HR2; have HK := HK2; clear HR2 HK2) | (go_at_call 15; refine (moment_Days.calls k _ _ _ _ _ _ HD.out).mono ?_; rintro e w1 ⟨rfl, nd, rfl⟩; have HR2 := Aside0.mk (HR.out.drewN nd); have HK2 := Aside0.mk (HK.out.trans (KB.drewN b _ nd)); clear HR HK; have HR := HR2; have HK := HK2; clear HR2 HK2) | (go_at_call 37; refine (moment_reader_fraction.any b _ _ HR.out (Nat.le_trans (dateL_len ED.out) hl)).mono ?_; rintro e w2 ⟨hB2, h2⟩; have HK2 := Aside0.mk (HK.out.trans hB2); clear HK hB2; have HK := HK2; clear HK2; rcases h2 with ⟨f, l12, hs2, rfl, hr2⟩ | ⟨hs2, rfl⟩; have E12 := Aside0.mk hs2; have HR2 := Aside0.mk hr2; clear hs2 HR hr2; have HR := HR2; clear HR2; rotate_left; have E12 := Aside0.mk hs2; clear hs2; rotate_left) | (go_at_call 38; refine (moment_reader_offset.any b _ _ HR.out).mono ?_; rintro e w2 ⟨hB2, h2⟩; have HK2 := Aside0.mk (HK.out.trans hB2); clear HK hB2; have HK := HK2; clear HK2; rcases h2 with ⟨o, l13, hs2, rfl, hr2⟩ | ⟨hs2, rfl⟩; have E13 := Aside0.mk hs2; have HR2 := Aside0.mk hr2; have hc := hr2.cell; clear hs2 HR hr2; have HR := HR2; clear HR2; rcases l13 with _ | ⟨c13, t13⟩; rw [show bl [] = ⟨#[]⟩ from rfl] at hc; rotate_left; have q2 : ¬ (bl (c13 :: t13)).toList = [] := (by rw [bl_list]; simp); have q1 : (bl (c13 :: t13)).toList.isEmpty = false := (by rw [bl_list]; rfl); rotate_left; have E13 := Aside0.mk hs2; clear hs2; rotate_left))
  all_goals first
    | (refine ⟨rfl, HK.out, .inr ⟨allL_none hk.out ?_, rfl⟩⟩
       unfold dateL
       (rw [E1.out]; first | rfl | (simp only [Option.bind_some]; (rw [E2.out]; first | rfl | (simp only [Option.bind_some]; (rw [E3.out]; first | rfl | (simp only [Option.bind_some]; (rw [E4.out]; first | rfl | (simp only [Option.bind_some]; (rw [E5.out]; first | rfl | (simp only [Option.bind_some]; (rw [E6.out]; first | rfl | (simp only [Option.bind_some]; (rw [E7.out]; first | rfl | (simp only [Option.bind_some]; (rw [E8.out]; first | rfl | (simp only [Option.bind_some]; (rw [E9.out]; first | rfl | (simp only [Option.bind_some]; (rw [E10.out]; first | rfl | (simp only [Option.bind_some]; (rw [E11.out]; first | rfl | (simp only [Option.bind_some]; fail)))))))))))))))))))))))
    | (refine ⟨rfl, HK.out, .inr ⟨HS.out.trans ?_, rfl⟩⟩
       unfold restL
       rw [E12.out]
       first
         | rfl
         | (simp only [Option.bind_some]
            first
              | (refine if_pos ⟨?_, whole_no ?_⟩ <;> first | omega | (left; omega) | (right; rfl))
              | (rw [if_neg (whole_yes ?_)]; rotate_left; (first | (left; omega) | (refine Or.inr ⟨?_, ?_, ?_⟩ <;> first | omega | rfl)); rw [E13.out]
                 first
                   | rfl
                   | (simp only [Option.bind_some]; exact if_neg (by simp)))))
    | (go_ret
       refine ⟨HK.out, .inl ⟨wrap64 (nd_.1 * 86400000 + h * 3600000 + mi * 60000 + se * 1000 + f - o), HS.out.trans ?_, ?_⟩⟩
       · unfold restL
         rw [E12.out]
         simp only [Option.bind_some]
         rw [if_neg (whole_yes ?_)]; rotate_left; (first | (left; omega) | (refine Or.inr ⟨?_, ?_, ?_⟩ <;> first | omega | rfl)); rw [E13.out]
         rfl
       · show Ending.returned (.int .i64 _) = _
         congr 2
         unfold wrap64
         omega)
    | trace_state

/-! ### moment_Parse: function 13 -/
section
set_option maxRecDepth 100000 in
set_option maxHeartbeats 2000000 in
theorem caught_panicking (p q : Addr) (older : List PanicEntry) (w : World) (v1 v2 : Value) (hp : w.cell? p = some v1) (hzp : w.frozen? p = false) (hq : w.cell? q = some v2) (hzq : w.frozen? q = false) (hne : q ≠ p) :
    CallsD Tryd.prog 27 #[.pointer (some p), .pointer (some q)] (.panicking ({ v := .iface 50 (.agg #[]), recovered := false } :: older)) w fun e u' w' =>
      e = .returned (.tuple #[]) ∧ u' = .panicking ({ v := .iface 50 (.agg #[]), recovered := true } :: older) ∧ w' = (w.setCell p (.int .i64 0)).setCell q (.int .i64 10) := by
  have hq2 : (w.setCell p (.int .i64 0)).cell? q = some v2 := by rw [World.cell?_setCell_other _ _ _ _ hne.symm]; exact hq
  have hta : ∀ w : World, (Instr.typeAssert (.iface 50 (.agg #[])) 20 50 false).run Tryd.prog w = .ok (.agg #[]) w := fun _ => by kernel_rfl
  refine callsD_of_wpS Tryd.func27 rfl fun c₀ cs hu => ?_
  apply wpS_seq
  apply wpS_region
  simp [wpOpsS, go_sem, recoverD, hu, Tryd.ntmps27, Exit.thenS]
  apply wpS_seq
  apply wpS_region
  simp [wpOpsS, go_sem, Exit.thenS]
  refine wpS_cond (t := true) (by simp [Act.eval, Array.replicate]) ?_
  simp only [if_true]
  apply wpS_seq
  apply wpS_region
  simp [wpOpsS, go_sem, Exit.thenS, hta]
  apply wpS_region
  simp [wpOpsS, go_sem, Exit.thenS, hp, hzp, hq2, hzq, bodyPostS, results, Tryd.results27]
theorem caught_idle (p q : Addr) (w : World) :
    CallsD Tryd.prog 27 #[.pointer (some p), .pointer (some q)] .returning w fun e u' w' => e = .returned (.tuple #[]) ∧ u' = .returning ∧ w' = w := by
  refine callsD_of_wpS Tryd.func27 rfl fun c₀ cs hu => ?_
  apply wpS_seq
  apply wpS_region
  simp [wpOpsS, go_sem, recoverD, hu, Tryd.ntmps27, Exit.thenS]
  apply wpS_seq
  apply wpS_region
  simp [wpOpsS, go_sem, Exit.thenS]
  refine wpS_cond (t := false) (by simp [Act.eval, Array.replicate]) ?_
  simp only [Bool.false_eq_true, if_false]
  refine wpS_of_wp (wp_skip ?_)
  cases c₀
  simp_all [bodyPostS, results, Tryd.results27]
theorem bl_data (t : ByteArray) : bl t.data.toList = t := bl_ext rfl
theorem bl_len (t : ByteArray) : t.data.toList.length = t.size := by rw [Array.length_toList]; rfl
theorem boxes_kept {w w2 w4 : World} {o1 o2 o3 : Obj} (k1 : Below ((w.alloc o1).alloc o2).heap.size ((w.alloc o1).alloc o2) w2) (hK : KB w2.heap.size (w2.alloc o3) w4) :
    w4.heap[w.heap.size]? = some o1 ∧ w4.heap[w.heap.size + 1]? = some o2 ∧ Below w.heap.size w w4 := by
  have hs : ((w.alloc o1).alloc o2).heap.size = w.heap.size + 2 := by simp
  have hsz := k1.size
  rw [hs] at hsz
  have step : ∀ i, i < w.heap.size + 2 → w4.heap[i]? = ((w.alloc o1).alloc o2).heap[i]? := fun i hi =>
    (hK.2.block i (by omega)).trans ((Lib.alloc_old w2 _ i (by omega)).trans (k1.block i (by omega)))
  refine ⟨(step _ (by omega)).trans ?_, (step _ (by omega)).trans ?_, ?_⟩
  · rw [Lib.alloc_old _ _ _ (by simp)]; exact heap_alloc_new _ _
  · have := heap_alloc_new (w.alloc o1) o2
    simpa using this
  · have b1 : Below w.heap.size w ((w.alloc o1).alloc o2) := (((Below.refl _ _).alloc (Nat.le_refl _) _).alloc (by simp) _)
    have b2 : Below w.heap.size w w2 := b1.trans (k1.mono (by omega))
    exact (b2.alloc (by omega) _).trans (hK.2.mono (by omega))
def parseR (r : Option Int) : Option (Int × Int) :=
  match r with
  | none => some (0, 10)
  | some v => (moment_none.f v).bind fun b => if b = true then some (0, 21) else some (v, 0)
def moment_Parse.f (k : Nat) (s : ByteArray) : Option (Int × Int) := if (s.size : Int) > 64 then some (0, 12) else (chars_Collapse.f k s).bind fun t => if t.size ≤ 1000000 then (allL k t.data.toList).bind parseR else none
theorem moment_Parse.mono : ∀ s k, LeO (moment_Parse.f k s) (moment_Parse.f (k + 1) s) := by
  intro s k x hx
  unfold moment_Parse.f at hx ⊢
  split at hx
  · rename_i h; rw [if_pos h]; exact hx
  · rename_i h
    rw [if_neg h]
    obtain ⟨t, h1, h2⟩ := Option.bind_eq_some_iff.1 hx
    refine Option.bind_eq_some_iff.2 ⟨t, chars_Collapse.mono _ k _ h1, ?_⟩
    split at h2
    · rename_i h3
      rw [if_pos h3]
      obtain ⟨u, h4, h5⟩ := Option.bind_eq_some_iff.1 h2
      exact Option.bind_eq_some_iff.2 ⟨u, allL_mono _ k _ h4, h5⟩
    · cases h2
set_option maxRecDepth 100000 in
set_option maxHeartbeats 4000000 in
theorem moment_Parse.calls (k : Nat) (s : ByteArray) (r1 r2 : Int) (w : World) (hU : Uni w) (h : moment_Parse.f k s = some (r1, r2)) :
    Calls Tryd.prog 13 #[.string s] w fun e w' => e = .returned (.tuple #[.int .i64 r1, .int .i64 r2]) ∧ Below w.heap.size w w' := by
  have hmf : ∀ (fn : Fn) (first cap : Array Value) (w : World), (Instr.makeFunc fn first cap).run Tryd.prog w = .ok (.func fn first cap) w := fun _ _ _ _ => rfl
  unfold moment_Parse.f at h
  by_cases hs : (s.size : Int) > 64
  · rw [if_pos hs] at h
    have h := Option.some.inj h
    simp only [Prod.mk.injEq] at h
    obtain ⟨rfl, rfl⟩ := h
    have hs : 64 < (s.size : Int) := hs
    go_enter_defers Tryd.func13, Tryd.ntmps13
    go_wp2
    simp [bodyPostD, Leaves, settle, results, Tryd.results13, go_sem]
    exact ((Below.refl _ _).alloc (Nat.le_refl _) _).alloc (by simp) _
  · rw [if_neg hs] at h
    obtain ⟨t, h1, h2⟩ := Option.bind_eq_some_iff.1 h
    clear h
    split at h2
    · rename_i h3
      obtain ⟨u, h4, h5⟩ := Option.bind_eq_some_iff.1 h2
      clear h2
      have hs : ¬ 64 < (s.size : Int) := hs
      have HC := Aside0.mk h1
      have HU := Aside0.mk hU
      cases u with
      | none =>
        have h5 := Option.some.inj h5
        simp only [Prod.mk.injEq] at h5
        obtain ⟨rfl, rfl⟩ := h5
        have HA := Aside0.mk h4
        clear h1 h4 hU
        go_enter_defers Tryd.func13, Tryd.ntmps13
        go_wp2_with (first | (go_at_call 28; refine (chars_Collapse.calls k s t _ (Uni.up HU ?hb0) HC.out).mono ?_; (case hb0 => exact ((Below.refl _ _).alloc (Nat.le_refl _) _).alloc (by simp) _); rintro e w2 ⟨rfl, hB2⟩; have k1 := Aside0.mk hB2; clear hB2) | (go_at_call 29; refine (moment_reader_all.any k w2.heap.size t.data.toList _ _ (show Rdr w2.heap.size t.data.toList (w2.alloc (.cells #[.string t] 54)) from (heap_alloc_new _ _).trans (by rw [bl_data])) (by rw [bl_len]; exact h3) HA.out).mono ?_; rintro e w4 ⟨hK, h4⟩; obtain ⟨g1, g2, g3⟩ := boxes_kept k1.out hK; have c1 : w4.cell? ⟨w.heap.size, 0, none⟩ = some (.int .i64 0) := (by rw [Lib.cell_of_heap g1]; rfl); have c2 : w4.cell? ⟨w.heap.size + 1, 0, none⟩ = some (.int .i64 0) := (by rw [Lib.cell_of_heap g2]; rfl); have f1 : w4.frozen? ⟨w.heap.size, 0, none⟩ = false := Lib.frozen_of_heap g1 0; have f2 : w4.frozen? ⟨w.heap.size + 1, 0, none⟩ = false := Lib.frozen_of_heap g2 0; have G3 := Aside0.mk g3; clear g1 g2 g3 hK; rcases h4 with ⟨v, hv, rfl⟩ | ⟨_, rfl⟩; (cases hv)))
        refine leaves_cons (f := 27) (args := #[.pointer (some ⟨w.heap.size, 0, none⟩), .pointer (some ⟨w.heap.size + 1, 0, none⟩)]) (by simp) (by simp [go_sem]) ?_
        refine (caught_panicking ⟨w.heap.size, 0, none⟩ ⟨w.heap.size + 1, 0, none⟩ [] _ _ _ c1 f1 c2 f2 (by simp)).mono ?_
        rintro e u' w'' ⟨rfl, rfl, rfl⟩
        have d0 : (w4.setCell ⟨w.heap.size, 0, none⟩ (.int .i64 0)).cell? ⟨w.heap.size, 0, none⟩ = some (.int .i64 0) := World.cell?_setCell_same _ _ _ c1
        have d1 : ((w4.setCell ⟨w.heap.size, 0, none⟩ (.int .i64 0)).setCell ⟨w.heap.size + 1, 0, none⟩ (.int .i64 10)).cell? ⟨w.heap.size, 0, none⟩ = some (.int .i64 0) := by rw [World.cell?_setCell_other _ _ _ _ (by simp)]; exact d0
        have d2 : ((w4.setCell ⟨w.heap.size, 0, none⟩ (.int .i64 0)).setCell ⟨w.heap.size + 1, 0, none⟩ (.int .i64 10)).cell? ⟨w.heap.size + 1, 0, none⟩ = some (.int .i64 10) := World.cell?_setCell_same _ _ _ (by rw [World.cell?_setCell_other _ _ _ _ (by simp)]; exact c2)
        have hfin : Below w.heap.size w ((w4.setCell ⟨w.heap.size, 0, none⟩ (.int .i64 0)).setCell ⟨w.heap.size + 1, 0, none⟩ (.int .i64 10)) := (G3.out.setCell (p := ⟨w.heap.size, 0, none⟩) (Nat.le_refl _) _).setCell (p := ⟨w.heap.size + 1, 0, none⟩) (by simp) _
        generalize (w4.setCell ⟨w.heap.size, 0, none⟩ (.int .i64 0)).setCell ⟨w.heap.size + 1, 0, none⟩ (.int .i64 10) = W5 at d1 d2 hfin ⊢
        simp [Leaves, settle, results, Tryd.results13, go_sem, d1, d2]
        exact hfin
      | some v =>
        obtain ⟨b, h6, h7⟩ := Option.bind_eq_some_iff.1 h5
        have HN := Aside0.mk h6
        have HA := Aside0.mk h4
        clear h1 h4 hU h5 h6
        cases b with
        | true =>
          have h7 := Option.some.inj h7
          simp only [Prod.mk.injEq] at h7
          obtain ⟨rfl, rfl⟩ := h7
          go_enter_defers Tryd.func13, Tryd.ntmps13
          go_wp2_with (first | (go_at_call 28; refine (chars_Collapse.calls k s t _ (Uni.up HU ?hb0) HC.out).mono ?_; (case hb0 => exact ((Below.refl _ _).alloc (Nat.le_refl _) _).alloc (by simp) _); rintro e w2 ⟨rfl, hB2⟩; have k1 := Aside0.mk hB2; clear hB2) | (go_at_call 29; refine (moment_reader_all.any k w2.heap.size t.data.toList _ _ (show Rdr w2.heap.size t.data.toList (w2.alloc (.cells #[.string t] 54)) from (heap_alloc_new _ _).trans (by rw [bl_data])) (by rw [bl_len]; exact h3) HA.out).mono ?_; rintro e w4 ⟨hK, h4⟩; obtain ⟨g1, g2, g3⟩ := boxes_kept k1.out hK; have c1 : w4.cell? ⟨w.heap.size, 0, none⟩ = some (.int .i64 0) := (by rw [Lib.cell_of_heap g1]; rfl); have c2 : w4.cell? ⟨w.heap.size + 1, 0, none⟩ = some (.int .i64 0) := (by rw [Lib.cell_of_heap g2]; rfl); have f1 : w4.frozen? ⟨w.heap.size, 0, none⟩ = false := Lib.frozen_of_heap g1 0; have f2 : w4.frozen? ⟨w.heap.size + 1, 0, none⟩ = false := Lib.frozen_of_heap g2 0; have G3 := Aside0.mk g3; clear g1 g2 g3 hK; rcases h4 with ⟨v', hv, rfl⟩ | ⟨hv, _⟩; (obtain rfl := Option.some.inj hv); rotate_left; (cases hv)) | (go_at_call 24; refine (moment_none.calls v true _ HN.out).mono ?_; rintro e w5 ⟨rfl, nd, rfl⟩))
          refine leaves_cons (f := 27) (args := #[.pointer (some ⟨w.heap.size, 0, none⟩), .pointer (some ⟨w.heap.size + 1, 0, none⟩)]) (by simp) (by simp [go_sem]) ?_
          refine (caught_idle ⟨w.heap.size, 0, none⟩ ⟨w.heap.size + 1, 0, none⟩ _).mono ?_
          rintro e u' w'' ⟨rfl, rfl, rfl⟩
          have e0 : (w4.setCell ⟨w.heap.size, 0, none⟩ (.int .i64 v)).cell? ⟨w.heap.size, 0, none⟩ = some (.int .i64 v) := World.cell?_setCell_same _ _ _ c1
          have e1 : ((w4.setCell ⟨w.heap.size, 0, none⟩ (.int .i64 v)).drewN nd).cell? ⟨w.heap.size, 0, none⟩ = some (.int .i64 v) := by simpa using e0
          have e2 : ((w4.setCell ⟨w.heap.size, 0, none⟩ (.int .i64 v)).drewN nd).cell? ⟨w.heap.size + 1, 0, none⟩ = some (.int .i64 0) := by
            have : (w4.setCell ⟨w.heap.size, 0, none⟩ (.int .i64 v)).cell? ⟨w.heap.size + 1, 0, none⟩ = some (.int .i64 0) := by rw [World.cell?_setCell_other _ _ _ _ (by simp)]; exact c2
            simpa using this
          have hb : Below w.heap.size w ((w4.setCell ⟨w.heap.size, 0, none⟩ (.int .i64 v)).drewN nd) := pw_below_drewN (G3.out.setCell (p := ⟨w.heap.size, 0, none⟩) (Nat.le_refl _) _) nd
          generalize (w4.setCell ⟨w.heap.size, 0, none⟩ (.int .i64 v)).drewN nd = W4 at e1 e2 hb ⊢
          have d0 : (W4.setCell ⟨w.heap.size, 0, none⟩ (.int .i64 0)).cell? ⟨w.heap.size, 0, none⟩ = some (.int .i64 0) := World.cell?_setCell_same _ _ _ e1
          have d1 : ((W4.setCell ⟨w.heap.size, 0, none⟩ (.int .i64 0)).setCell ⟨w.heap.size + 1, 0, none⟩ (.int .i64 21)).cell? ⟨w.heap.size, 0, none⟩ = some (.int .i64 0) := by rw [World.cell?_setCell_other _ _ _ _ (by simp)]; exact d0
          have d2 : ((W4.setCell ⟨w.heap.size, 0, none⟩ (.int .i64 0)).setCell ⟨w.heap.size + 1, 0, none⟩ (.int .i64 21)).cell? ⟨w.heap.size + 1, 0, none⟩ = some (.int .i64 21) := World.cell?_setCell_same _ _ _ (by rw [World.cell?_setCell_other _ _ _ _ (by simp)]; exact e2)
          have hfin : Below w.heap.size w ((W4.setCell ⟨w.heap.size, 0, none⟩ (.int .i64 0)).setCell ⟨w.heap.size + 1, 0, none⟩ (.int .i64 21)) := (hb.setCell (p := ⟨w.heap.size, 0, none⟩) (Nat.le_refl _) _).setCell (p := ⟨w.heap.size + 1, 0, none⟩) (by simp) _
          generalize (W4.setCell ⟨w.heap.size, 0, none⟩ (.int .i64 0)).setCell ⟨w.heap.size + 1, 0, none⟩ (.int .i64 21) = W5 at d1 d2 hfin ⊢
          simp [Leaves, settle, results, Tryd.results13, go_sem, d1, d2]
          exact hfin
        | false =>
          have h7 := Option.some.inj h7
          simp only [Prod.mk.injEq] at h7
          obtain ⟨rfl, rfl⟩ := h7
          go_enter_defers Tryd.func13, Tryd.ntmps13
          go_wp2_with (first | (go_at_call 28; refine (chars_Collapse.calls k s t _ (Uni.up HU ?hb0) HC.out).mono ?_; (case hb0 => exact ((Below.refl _ _).alloc (Nat.le_refl _) _).alloc (by simp) _); rintro e w2 ⟨rfl, hB2⟩; have k1 := Aside0.mk hB2; clear hB2) | (go_at_call 29; refine (moment_reader_all.any k w2.heap.size t.data.toList _ _ (show Rdr w2.heap.size t.data.toList (w2.alloc (.cells #[.string t] 54)) from (heap_alloc_new _ _).trans (by rw [bl_data])) (by rw [bl_len]; exact h3) HA.out).mono ?_; rintro e w4 ⟨hK, h4⟩; obtain ⟨g1, g2, g3⟩ := boxes_kept k1.out hK; have c1 : w4.cell? ⟨w.heap.size, 0, none⟩ = some (.int .i64 0) := (by rw [Lib.cell_of_heap g1]; rfl); have c2 : w4.cell? ⟨w.heap.size + 1, 0, none⟩ = some (.int .i64 0) := (by rw [Lib.cell_of_heap g2]; rfl); have f1 : w4.frozen? ⟨w.heap.size, 0, none⟩ = false := Lib.frozen_of_heap g1 0; have f2 : w4.frozen? ⟨w.heap.size + 1, 0, none⟩ = false := Lib.frozen_of_heap g2 0; have G3 := Aside0.mk g3; clear g1 g2 g3 hK; rcases h4 with ⟨v', hv, rfl⟩ | ⟨hv, _⟩; (obtain rfl := Option.some.inj hv); rotate_left; (cases hv)) | (go_at_call 24; refine (moment_none.calls v false _ HN.out).mono ?_; rintro e w5 ⟨rfl, nd, rfl⟩))
          refine leaves_cons (f := 27) (args := #[.pointer (some ⟨w.heap.size, 0, none⟩), .pointer (some ⟨w.heap.size + 1, 0, none⟩)]) (by simp) (by simp [go_sem]) ?_
          refine (caught_idle ⟨w.heap.size, 0, none⟩ ⟨w.heap.size + 1, 0, none⟩ _).mono ?_
          rintro e u' w'' ⟨rfl, rfl, rfl⟩
          have e0 : (w4.setCell ⟨w.heap.size, 0, none⟩ (.int .i64 v)).cell? ⟨w.heap.size, 0, none⟩ = some (.int .i64 v) := World.cell?_setCell_same _ _ _ c1
          have e1 : ((w4.setCell ⟨w.heap.size, 0, none⟩ (.int .i64 v)).drewN nd).cell? ⟨w.heap.size, 0, none⟩ = some (.int .i64 v) := by simpa using e0
          have e2 : ((w4.setCell ⟨w.heap.size, 0, none⟩ (.int .i64 v)).drewN nd).cell? ⟨w.heap.size + 1, 0, none⟩ = some (.int .i64 0) := by
            have : (w4.setCell ⟨w.heap.size, 0, none⟩ (.int .i64 v)).cell? ⟨w.heap.size + 1, 0, none⟩ = some (.int .i64 0) := by rw [World.cell?_setCell_other _ _ _ _ (by simp)]; exact c2
            simpa using this
          have hb : Below w.heap.size w ((w4.setCell ⟨w.heap.size, 0, none⟩ (.int .i64 v)).drewN nd) := pw_below_drewN (G3.out.setCell (p := ⟨w.heap.size, 0, none⟩) (Nat.le_refl _) _) nd
          generalize (w4.setCell ⟨w.heap.size, 0, none⟩ (.int .i64 v)).drewN nd = W4 at e1 e2 hb ⊢
          have d0 : (W4.setCell ⟨w.heap.size, 0, none⟩ (.int .i64 v)).cell? ⟨w.heap.size, 0, none⟩ = some (.int .i64 v) := World.cell?_setCell_same _ _ _ e1
          have d1 : ((W4.setCell ⟨w.heap.size, 0, none⟩ (.int .i64 v)).setCell ⟨w.heap.size + 1, 0, none⟩ (.int .i64 0)).cell? ⟨w.heap.size, 0, none⟩ = some (.int .i64 v) := by rw [World.cell?_setCell_other _ _ _ _ (by simp)]; exact d0
          have d2 : ((W4.setCell ⟨w.heap.size, 0, none⟩ (.int .i64 v)).setCell ⟨w.heap.size + 1, 0, none⟩ (.int .i64 0)).cell? ⟨w.heap.size + 1, 0, none⟩ = some (.int .i64 0) := World.cell?_setCell_same _ _ _ (by rw [World.cell?_setCell_other _ _ _ _ (by simp)]; exact e2)
          have hfin : Below w.heap.size w ((W4.setCell ⟨w.heap.size, 0, none⟩ (.int .i64 v)).setCell ⟨w.heap.size + 1, 0, none⟩ (.int .i64 0)) := (hb.setCell (p := ⟨w.heap.size, 0, none⟩) (Nat.le_refl _) _).setCell (p := ⟨w.heap.size + 1, 0, none⟩) (by simp) _
          generalize (W4.setCell ⟨w.heap.size, 0, none⟩ (.int .i64 v)).setCell ⟨w.heap.size + 1, 0, none⟩ (.int .i64 0) = W5 at d1 d2 hfin ⊢
          simp [Leaves, settle, results, Tryd.results13, go_sem, d1, d2]
          exact hfin
    · cases h2
end

/-! ### lanyardlaw10_awake: function 8 -/
def lanyardlaw10_awake.f (k : Nat)  : Option (Bool) := (moment_Print.f k 0).bind fun bt143 => ((moment_Parse.f k (⟨#[50, 48, 50, 54, 45, 49, 49, 45, 49, 53, 84, 50, 52, 58, 48, 48, 58, 48, 48, 43, 48, 49, 58, 48, 48]⟩ : ByteArray)).bind fun bt145 => ((moment_Parse.f k (⟨#[50, 48, 50, 54, 45, 49, 49, 45, 49, 53, 84, 50, 51, 58, 48, 48, 58, 48, 48, 90]⟩ : ByteArray)).bind fun bt147 => (if bt143.2 = 0 then (if bt143.1.toList = ([49, 57, 55, 48, 45, 48, 49, 45, 48, 49, 84, 48, 48, 58, 48, 48, 58, 48, 48, 90] : List UInt8) then (if bt145.2 = 0 then (if bt147.2 = 0 then (some (bt145.1 == bt147.1)) else (some false)) else (some false)) else (some false)) else (some false))))
theorem lanyardlaw10_awake.mono : ∀ k, LeO (lanyardlaw10_awake.f k ) (lanyardlaw10_awake.f (k + 1) ) := by
 intro  k
 unfold lanyardlaw10_awake.f
 repeat' first
   | (with_reducible exact moment_Parse.mono _ _)
   | (with_reducible exact moment_Print.mono _ _)
   | (with_reducible exact LeO.refl _)
   | (with_reducible exact LeO.none _)
   | (with_reducible refine LeO.ite ?_ ?_)
   | (with_reducible refine LeO.bind ?_ (fun _ => ?_))
   | exact moment_Parse.mono _ _
   | exact moment_Print.mono _ _
   | exact LeO.none _
   | refine LeO.ite ?_ ?_
   | refine LeO.bind ?_ (fun _ => ?_)
set_option maxHeartbeats 8000000 in
set_option maxRecDepth 100000 in
theorem lanyardlaw10_awake.calls (k : Nat)  (r : Bool) (w : World) (hU : Uni w) (h : lanyardlaw10_awake.f k  = some r) :
  Calls Tryd.prog 8 #[] w fun e w' => e = .returned (.bool r) ∧ Below w.heap.size w w' := by
 have HU := Aside0.mk hU
 clear hU
 have HB := Aside0.mk (Below.refl w.heap.size w)
 have H : ((moment_Print.f k 0).bind fun bt143 => ((moment_Parse.f k (⟨#[50, 48, 50, 54, 45, 49, 49, 45, 49, 53, 84, 50, 52, 58, 48, 48, 58, 48, 48, 43, 48, 49, 58, 48, 48]⟩ : ByteArray)).bind fun bt145 => ((moment_Parse.f k (⟨#[50, 48, 50, 54, 45, 49, 49, 45, 49, 53, 84, 50, 51, 58, 48, 48, 58, 48, 48, 90]⟩ : ByteArray)).bind fun bt147 => (if bt143.2 = 0 then (if bt143.1.toList = ([49, 57, 55, 48, 45, 48, 49, 45, 48, 49, 84, 48, 48, 58, 48, 48, 58, 48, 48, 90] : List UInt8) then (if bt145.2 = 0 then (if bt147.2 = 0 then (some (bt145.1 == bt147.1)) else (some false)) else (some false)) else (some false)) else (some false))))) = some r := h
 clear h
 replace H := Option.bind_eq_some_iff.mp H
 obtain ⟨⟨t143, t144⟩, A10, H⟩ := H
 replace H : ((moment_Parse.f k (⟨#[50, 48, 50, 54, 45, 49, 49, 45, 49, 53, 84, 50, 52, 58, 48, 48, 58, 48, 48, 43, 48, 49, 58, 48, 48]⟩ : ByteArray)).bind fun bt145 => ((moment_Parse.f k (⟨#[50, 48, 50, 54, 45, 49, 49, 45, 49, 53, 84, 50, 51, 58, 48, 48, 58, 48, 48, 90]⟩ : ByteArray)).bind fun bt147 => (if t144 = 0 then (if t143.toList = ([49, 57, 55, 48, 45, 48, 49, 45, 48, 49, 84, 48, 48, 58, 48, 48, 58, 48, 48, 90] : List UInt8) then (if bt145.2 = 0 then (if bt147.2 = 0 then (some (bt145.1 == bt147.1)) else (some false)) else (some false)) else (some false)) else (some false)))) = some r := H
 have A1 := Aside0.mk A10
 clear A10
 replace H := Option.bind_eq_some_iff.mp H
 obtain ⟨⟨t145, t146⟩, A20, H⟩ := H
 replace H : ((moment_Parse.f k (⟨#[50, 48, 50, 54, 45, 49, 49, 45, 49, 53, 84, 50, 51, 58, 48, 48, 58, 48, 48, 90]⟩ : ByteArray)).bind fun bt147 => (if t144 = 0 then (if t143.toList = ([49, 57, 55, 48, 45, 48, 49, 45, 48, 49, 84, 48, 48, 58, 48, 48, 58, 48, 48, 90] : List UInt8) then (if t146 = 0 then (if bt147.2 = 0 then (some (t145 == bt147.1)) else (some false)) else (some false)) else (some false)) else (some false))) = some r := H
 have A2 := Aside0.mk A20
 clear A20
 replace H := Option.bind_eq_some_iff.mp H
 obtain ⟨⟨t147, t148⟩, A30, H⟩ := H
 replace H : (if t144 = 0 then (if t143.toList = ([49, 57, 55, 48, 45, 48, 49, 45, 48, 49, 84, 48, 48, 58, 48, 48, 58, 48, 48, 90] : List UInt8) then (if t146 = 0 then (if t148 = 0 then (some (t145 == t147)) else (some false)) else (some false)) else (some false)) else (some false)) = some r := H
 have A3 := Aside0.mk A30
 clear A30
 refine (Classical.em (t144 = 0)).elim (fun c4 => ?a19_) (fun c4 => ?b19_)
 case' a19_ =>
  rw [if_pos c4] at H
  have c4b0 : (t144 == 0) = true := beq_iff_eq.mpr c4
  have c4b1 : (t144 != 0) = false := bne_eq_false_iff_eq.mpr c4
  clear c4
  refine (Classical.em (t143.toList = ([49, 57, 55, 48, 45, 48, 49, 45, 48, 49, 84, 48, 48, 58, 48, 48, 58, 48, 48, 90] : List UInt8))).elim (fun c5 => ?a20_) (fun c5 => ?b20_)
  case' a20_ =>
   rw [if_pos c5] at H
   have c5b0 : (t143.toList == ([49, 57, 55, 48, 45, 48, 49, 45, 48, 49, 84, 48, 48, 58, 48, 48, 58, 48, 48, 90] : List UInt8)) = true := beq_iff_eq.mpr c5
   have c5b1 : (t143.toList != ([49, 57, 55, 48, 45, 48, 49, 45, 48, 49, 84, 48, 48, 58, 48, 48, 58, 48, 48, 90] : List UInt8)) = false := bne_eq_false_iff_eq.mpr c5
   clear c5
   refine (Classical.em (t146 = 0)).elim (fun c6 => ?a21_) (fun c6 => ?b21_)
   case' a21_ =>
    rw [if_pos c6] at H
    have c6b0 : (t146 == 0) = true := beq_iff_eq.mpr c6
    have c6b1 : (t146 != 0) = false := bne_eq_false_iff_eq.mpr c6
    clear c6
    refine (Classical.em (t148 = 0)).elim (fun c7 => ?a22_) (fun c7 => ?b22_)
    case' a22_ =>
     rw [if_pos c7] at H
     have c7b0 : (t148 == 0) = true := beq_iff_eq.mpr c7
     have c7b1 : (t148 != 0) = false := bne_eq_false_iff_eq.mpr c7
     clear c7
     obtain rfl := Option.some.inj H
    case' b22_ =>
     rw [if_neg c7] at H
     have c7b0 : (t148 == 0) = false := beq_eq_false_iff_ne.mpr c7
     have c7b1 : (t148 != 0) = true := bne_iff_ne.mpr c7
     obtain rfl := Option.some.inj H
   case' b21_ =>
    rw [if_neg c6] at H
    have c6b0 : (t146 == 0) = false := beq_eq_false_iff_ne.mpr c6
    have c6b1 : (t146 != 0) = true := bne_iff_ne.mpr c6
    obtain rfl := Option.some.inj H
  case' b20_ =>
   rw [if_neg c5] at H
   have c5b0 : (t143.toList == ([49, 57, 55, 48, 45, 48, 49, 45, 48, 49, 84, 48, 48, 58, 48, 48, 58, 48, 48, 90] : List UInt8)) = false := beq_eq_false_iff_ne.mpr c5
   have c5b1 : (t143.toList != ([49, 57, 55, 48, 45, 48, 49, 45, 48, 49, 84, 48, 48, 58, 48, 48, 58, 48, 48, 90] : List UInt8)) = true := bne_iff_ne.mpr c5
   obtain rfl := Option.some.inj H
 case' b19_ =>
  rw [if_neg c4] at H
  have c4b0 : (t144 == 0) = false := beq_eq_false_iff_ne.mpr c4
  have c4b1 : (t144 != 0) = true := bne_iff_ne.mpr c4
  obtain rfl := Option.some.inj H
  go_enter Tryd.func8, Tryd.ntmps8
  go_wp2_with (first | ((with_reducible refine gate_callee (f := 9) rfl ?_); refine goesA (some 8) Tryd.func9 #[.int .i64 0] rfl ?_; (with_reducible refine (moment_Print.calls k 0 t143 t144 _ A1.out).mono ?_); rintro e w20 ⟨rfl, hb⟩; refine ⟨_, rfl, ?_⟩; have n0_ := Bs HB hb; clear HB; revert n0_; intro HB; (try clear hb); (try clear hb2); (try clear hk); (try clear hi)) | ((with_reducible refine gate_callee (f := 13) rfl ?_); refine goesL_ (some 12) rfl rfl Tryd.func13 (by kernel_rfl) rfl #[.string (⟨#[50, 48, 50, 54, 45, 49, 49, 45, 49, 53, 84, 50, 52, 58, 48, 48, 58, 48, 48, 43, 48, 49, 58, 48, 48]⟩ : ByteArray)] rfl (by (try simp only [List.map_toArray, List.map_cons, List.map_nil]); first | done | rfl | (simp only [List.length_drop, List.length_take]; rfl)) ?_; (with_reducible refine (moment_Parse.calls k (⟨#[50, 48, 50, 54, 45, 49, 49, 45, 49, 53, 84, 50, 52, 58, 48, 48, 58, 48, 48, 43, 48, 49, 58, 48, 48]⟩ : ByteArray) t145 t146 _ ?sideU A2.out).mono ?_); (case sideU => first | exact HU.out | exact Uni.up HU (Bu HB) | exact Uni.below HU.out (by assumption)); rintro e w21 ⟨rfl, hb⟩; refine ⟨_, rfl, ?_⟩; have n0_ := Bs HB hb; clear HB; revert n0_; intro HB; (try clear hb); (try clear hb2); (try clear hk); (try clear hi)) | ((with_reducible refine gate_callee (f := 13) rfl ?_); refine goesL_ (some 16) rfl rfl Tryd.func13 (by kernel_rfl) rfl #[.string (⟨#[50, 48, 50, 54, 45, 49, 49, 45, 49, 53, 84, 50, 51, 58, 48, 48, 58, 48, 48, 90]⟩ : ByteArray)] rfl (by (try simp only [List.map_toArray, List.map_cons, List.map_nil]); first | done | rfl | (simp only [List.length_drop, List.length_take]; rfl)) ?_; (with_reducible refine (moment_Parse.calls k (⟨#[50, 48, 50, 54, 45, 49, 49, 45, 49, 53, 84, 50, 51, 58, 48, 48, 58, 48, 48, 90]⟩ : ByteArray) t147 t148 _ ?sideU A3.out).mono ?_); (case sideU => first | exact HU.out | exact Uni.up HU (Bu HB) | exact Uni.below HU.out (by assumption)); rintro e w22 ⟨rfl, hb⟩; refine ⟨_, rfl, ?_⟩; have n0_ := Bs HB hb; clear HB; revert n0_; intro HB; (try clear hb); (try clear hb2); (try clear hk); (try clear hi)))
  go_ret
  exact ⟨rfl_, Bu HB⟩

 case a22_ | b22_ | b21_ | b20_ =>
  go_enter Tryd.func8, Tryd.ntmps8
  go_wp2_with (first | ((with_reducible refine gate_callee (f := 9) rfl ?_); refine goesA (some 8) Tryd.func9 #[.int .i64 0] rfl ?_; (with_reducible refine (moment_Print.calls k 0 t143 t144 _ A1.out).mono ?_); rintro e wz1 ⟨rfl, hb⟩; refine ⟨_, rfl, ?_⟩; have nz1 := Bs HB hb; clear HB; have HB := nz1; clear nz1; (try clear hb); (try clear hb2); (try clear hk); (try clear hi)) | ((with_reducible refine gate_callee (f := 13) rfl ?_); refine goesL_ (some 12) rfl rfl Tryd.func13 (by kernel_rfl) rfl #[.string (⟨#[50, 48, 50, 54, 45, 49, 49, 45, 49, 53, 84, 50, 52, 58, 48, 48, 58, 48, 48, 43, 48, 49, 58, 48, 48]⟩ : ByteArray)] rfl (by (try simp only [List.map_toArray, List.map_cons, List.map_nil]); first | done | rfl | (simp only [List.length_drop, List.length_take]; rfl)) ?_; (with_reducible refine (moment_Parse.calls k (⟨#[50, 48, 50, 54, 45, 49, 49, 45, 49, 53, 84, 50, 52, 58, 48, 48, 58, 48, 48, 43, 48, 49, 58, 48, 48]⟩ : ByteArray) t145 t146 _ ?sideU A2.out).mono ?_); (case sideU => first | exact HU.out | exact Uni.up HU (Bu HB) | exact Uni.below HU.out (by assumption)); rintro e wz2 ⟨rfl, hb⟩; refine ⟨_, rfl, ?_⟩; have nz1 := Bs HB hb; clear HB; have HB := nz1; clear nz1; (try clear hb); (try clear hb2); (try clear hk); (try clear hi)) | ((with_reducible refine gate_callee (f := 13) rfl ?_); refine goesL_ (some 16) rfl rfl Tryd.func13 (by kernel_rfl) rfl #[.string (⟨#[50, 48, 50, 54, 45, 49, 49, 45, 49, 53, 84, 50, 51, 58, 48, 48, 58, 48, 48, 90]⟩ : ByteArray)] rfl (by (try simp only [List.map_toArray, List.map_cons, List.map_nil]); first | done | rfl | (simp only [List.length_drop, List.length_take]; rfl)) ?_; (with_reducible refine (moment_Parse.calls k (⟨#[50, 48, 50, 54, 45, 49, 49, 45, 49, 53, 84, 50, 51, 58, 48, 48, 58, 48, 48, 90]⟩ : ByteArray) t147 t148 _ ?sideU A3.out).mono ?_); (case sideU => first | exact HU.out | exact Uni.up HU (Bu HB) | exact Uni.below HU.out (by assumption)); rintro e wz3 ⟨rfl, hb⟩; refine ⟨_, rfl, ?_⟩; have nz1 := Bs HB hb; clear HB; have HB := nz1; clear nz1; (try clear hb); (try clear hb2); (try clear hk); (try clear hi)))
  go_ret
  exact ⟨rfl_, Bu HB⟩
/-! ### lanyardref10_First: function 19 -/
def lanyardref10_First.f  : Option (Int) := some (-62135596800000)
set_option maxHeartbeats 8000000 in
set_option maxRecDepth 100000 in
theorem lanyardref10_First.calls  (r : Int) (w : World) (h : lanyardref10_First.f  = some r) :
  Calls Tryd.prog 19 #[] w fun e w' => e = .returned (.int .i64 r) ∧ Drawn0 w w' := by
 have H : (some (-62135596800000)) = some r := h
 clear h
 obtain rfl := Option.some.inj H
 go_enter Tryd.func19, Tryd.ntmps19
 go_wp2
 go_ret
 exact ⟨by first | rfl | (simp; done) | (simp [*]; done), by repeat (first | exact Drawn0.refl _ | apply Drawn0.step)⟩

/-! ### lanyardref10_Last: function 20 -/
def lanyardref10_Last.f  : Option (Int) := some 253402300799999
set_option maxHeartbeats 8000000 in
set_option maxRecDepth 100000 in
theorem lanyardref10_Last.calls  (r : Int) (w : World) (h : lanyardref10_Last.f  = some r) :
  Calls Tryd.prog 20 #[] w fun e w' => e = .returned (.int .i64 r) ∧ Drawn0 w w' := by
 have H : (some 253402300799999) = some r := h
 clear h
 obtain rfl := Option.some.inj H
 go_enter Tryd.func20, Tryd.ntmps20
 go_wp2
 go_ret
 exact ⟨by first | rfl | (simp; done) | (simp [*]; done), by repeat (first | exact Drawn0.refl _ | apply Drawn0.step)⟩

/-! ### lanyardref10_Is: function 11 -/
def lanyardref10_Is.f (a0 : Int) : Option (Bool) := (lanyardref10_First.f).bind fun t149 => (if a0 ≥ t149 then ((lanyardref10_Last.f).bind fun t150 => (some (decide (a0 ≤ t150)))) else (some false))
set_option maxHeartbeats 8000000 in
set_option maxRecDepth 100000 in
theorem lanyardref10_Is.calls (a0 : Int) (r : Bool) (w : World) (h : lanyardref10_Is.f a0 = some r) :
  Calls Tryd.prog 11 #[.int .i64 a0] w fun e w' => e = .returned (.bool r) ∧ Drawn0 w w' := by
 have H : ((lanyardref10_First.f).bind fun t149 => (if a0 ≥ t149 then ((lanyardref10_Last.f).bind fun t150 => (some (decide (a0 ≤ t150)))) else (some false))) = some r := h
 clear h
 replace H := Option.bind_eq_some_iff.mp H
 obtain ⟨t149, A20, H⟩ := H
 replace H : (if a0 ≥ t149 then ((lanyardref10_Last.f).bind fun t150 => (some (decide (a0 ≤ t150)))) else (some false)) = some r := H
 have A2 := Aside0.mk A20
 clear A20
 by_cases c3 : a0 ≥ t149
 ·rw [if_pos c3] at H
  have c3b0 : decide (t149 ≤ a0) = true := decide_eq_true c3
  clear c3
  replace H := Option.bind_eq_some_iff.mp H
  obtain ⟨t150, A40, H⟩ := H
  replace H : (some (decide (a0 ≤ t150))) = some r := H
  have A4 := Aside0.mk A40
  clear A40
  obtain rfl := Option.some.inj H
  go_enter Tryd.func11, Tryd.ntmps11
  go_wp2_with (first | ((with_reducible refine gate_callee (f := 19) rfl ?_); refine goesA (some 4) Tryd.func19 #[] rfl ?_; (with_reducible refine (lanyardref10_First.calls  t149 _ A2.out).mono ?_); rintro e w' ⟨rfl, ⟨nd, rfl⟩⟩; refine ⟨_, rfl, ?_⟩) | (go_at_call 20; (with_reducible refine (lanyardref10_Last.calls  t150 _ A4.out).mono ?_); rintro e w' ⟨rfl, ⟨nd, rfl⟩⟩))
  go_ret
  exact ⟨by first | rfl | (simp; done) | (simp [*]; done), by repeat (first | exact Drawn0.refl _ | apply Drawn0.step)⟩
 ·rw [if_neg c3] at H
  have c3b0 : decide (t149 ≤ a0) = false := decide_eq_false c3
  clear c3
  obtain rfl := Option.some.inj H
  go_enter Tryd.func11, Tryd.ntmps11
  go_wp2_with (first | ((with_reducible refine gate_callee (f := 19) rfl ?_); refine goesA (some 4) Tryd.func19 #[] rfl ?_; (with_reducible refine (lanyardref10_First.calls  t149 _ A2.out).mono ?_); rintro e w' ⟨rfl, ⟨nd, rfl⟩⟩; refine ⟨_, rfl, ?_⟩))
  go_ret
  exact ⟨by first | rfl | (simp; done) | (simp [*]; done), by repeat (first | exact Drawn0.refl _ | apply Drawn0.step)⟩

/-! ### lanyardref10_Length: function 31 -/
def lanyardref10_Length.f (a0 : Int) (a1 : Int) : Option (Int) := (some (([31, 28, 31, 30, 31, 30, 31, 31, 30, 31, 30, 31] : List Int) : List Int)).bind fun y151 => (if a1 = 2 then (if (Int.tmod a0 400) = 0 then (some 29) else (if (Int.tmod a0 4) = 0 then (if (Int.tmod a0 100) = 0 then (if 0 ≤ (wrap64 (a1 - 1)) then (if (wrap64 (a1 - 1)) < (y151.length : Int) then (some (rd y151 (wrap64 (a1 - 1)))) else (none)) else (none)) else (some 29)) else (if 0 ≤ (wrap64 (a1 - 1)) then (if (wrap64 (a1 - 1)) < (y151.length : Int) then (some (rd y151 (wrap64 (a1 - 1)))) else (none)) else (none)))) else (if 0 ≤ (wrap64 (a1 - 1)) then (if (wrap64 (a1 - 1)) < (y151.length : Int) then (some (rd y151 (wrap64 (a1 - 1)))) else (none)) else (none)))
set_option maxHeartbeats 8000000 in
set_option maxRecDepth 100000 in
theorem lanyardref10_Length.calls (a0 : Int) (a1 : Int) (r : Int) (w : World) (h : lanyardref10_Length.f a0 a1 = some r) :
  Calls Tryd.prog 31 #[.int .i64 a0, .int .i64 a1] w fun e w' => e = .returned (.int .i64 r) ∧ Below w.heap.size w w' := by
 have HB := Aside0.mk (Below.refl w.heap.size w)
 have H : ((some (([31, 28, 31, 30, 31, 30, 31, 31, 30, 31, 30, 31] : List Int) : List Int)).bind fun y151 => (if a1 = 2 then (if (Int.tmod a0 400) = 0 then (some 29) else (if (Int.tmod a0 4) = 0 then (if (Int.tmod a0 100) = 0 then (if 0 ≤ (wrap64 (a1 - 1)) then (if (wrap64 (a1 - 1)) < (y151.length : Int) then (some (rd y151 (wrap64 (a1 - 1)))) else (none)) else (none)) else (some 29)) else (if 0 ≤ (wrap64 (a1 - 1)) then (if (wrap64 (a1 - 1)) < (y151.length : Int) then (some (rd y151 (wrap64 (a1 - 1)))) else (none)) else (none)))) else (if 0 ≤ (wrap64 (a1 - 1)) then (if (wrap64 (a1 - 1)) < (y151.length : Int) then (some (rd y151 (wrap64 (a1 - 1)))) else (none)) else (none)))) = some r := h
 clear h
 obtain ⟨y151, hy151⟩ : ∃ y_ : List Int, y_ = (([31, 28, 31, 30, 31, 30, 31, 31, 30, 31, 30, 31] : List Int)) := ⟨_, rfl⟩
 replace H : (if a1 = 2 then (if (Int.tmod a0 400) = 0 then (some 29) else (if (Int.tmod a0 4) = 0 then (if (Int.tmod a0 100) = 0 then (if 0 ≤ (wrap64 (a1 - 1)) then (if (wrap64 (a1 - 1)) < (y151.length : Int) then (some (rd y151 (wrap64 (a1 - 1)))) else (none)) else (none)) else (some 29)) else (if 0 ≤ (wrap64 (a1 - 1)) then (if (wrap64 (a1 - 1)) < (y151.length : Int) then (some (rd y151 (wrap64 (a1 - 1)))) else (none)) else (none)))) else (if 0 ≤ (wrap64 (a1 - 1)) then (if (wrap64 (a1 - 1)) < (y151.length : Int) then (some (rd y151 (wrap64 (a1 - 1)))) else (none)) else (none))) = some r := by first | (rw [hy151]; with_reducible exact H) | (have H2_ := (Option.bind_some _ _).symm.trans H; rw [hy151]; with_reducible exact H2_) | (have H2_ := (Option.bind_some _ _).symm.trans H; with_reducible exact H2_) | with_reducible exact H | (rw [hy151]; exact H) | exact H
 have Ny151 := Aside0.mk hy151
 clear hy151
 refine (Classical.em (a1 = 2)).elim (fun c3 => ?a23_) (fun c3 => ?b23_)
 case' a23_ =>
  rw [if_pos c3] at H
  have c3b0 : (a1 == 2) = true := beq_iff_eq.mpr c3
  have c3b1 : (a1 != 2) = false := bne_eq_false_iff_eq.mpr c3
  clear c3
  refine (Classical.em ((Int.tmod a0 400) = 0)).elim (fun c4 => ?a24_) (fun c4 => ?b24_)
  case' a24_ =>
   rw [if_pos c4] at H
   have c4b0 : ((Int.tmod a0 400) == 0) = true := beq_iff_eq.mpr c4
   have c4b1 : ((Int.tmod a0 400) != 0) = false := bne_eq_false_iff_eq.mpr c4
   clear c4
   obtain rfl := Option.some.inj H
  case' b24_ =>
   rw [if_neg c4] at H
   have c4b0 : ((Int.tmod a0 400) == 0) = false := beq_eq_false_iff_ne.mpr c4
   have c4b1 : ((Int.tmod a0 400) != 0) = true := bne_iff_ne.mpr c4
   refine (Classical.em ((Int.tmod a0 4) = 0)).elim (fun c7 => ?a25_) (fun c7 => ?b25_)
   case' a25_ =>
    rw [if_pos c7] at H
    have c7b0 : ((Int.tmod a0 4) == 0) = true := beq_iff_eq.mpr c7
    have c7b1 : ((Int.tmod a0 4) != 0) = false := bne_eq_false_iff_eq.mpr c7
    clear c7
    refine (Classical.em ((Int.tmod a0 100) = 0)).elim (fun c8 => ?a26_) (fun c8 => ?b26_)
    case' a26_ =>
     rw [if_pos c8] at H
     have c8b0 : ((Int.tmod a0 100) == 0) = true := beq_iff_eq.mpr c8
     have c8b1 : ((Int.tmod a0 100) != 0) = false := bne_eq_false_iff_eq.mpr c8
     clear c8
     obtain ⟨ji9, hji9⟩ : ∃ j_ : Int, (wrap64 (a1 - 1)) = j_ := ⟨_, rfl⟩
     replace H : (if 0 ≤ (ji9) then (if (ji9) < (y151.length : Int) then (some (rd y151 (ji9))) else (none)) else (none)) = some r := by first | (rw [hji9] at H; exact H) | (simp only [hji9] at H ⊢; exact H)
     have hji9w : (IntKind.i64.wrap (a1 - 1)) = ji9 := (i64_w _).trans hji9
     by_cases c10 : 0 ≤ (ji9)
     ·rw [if_pos c10] at H
      have c10b0 : decide (0 ≤ (ji9)) = true := decide_eq_true c10
      clear c10
      by_cases c11 : (ji9) < (y151.length : Int)
      ·rw [if_pos c11] at H
       have c11b0 : decide ((ji9) < (y151.length : Int)) = true := decide_eq_true c11
       clear c11
       obtain rfl := Option.some.inj H
       go_enter Tryd.func31, Tryd.ntmps31
       go_wp2_with (first | ((with_reducible refine gate_dst (N := 6) rfl ?_); refine litI .i64 3 6 [31, 28, 31, 30, 31, 30, 31, 31, 30, 31, 30, 31] [.int .i64 31, .int .i64 28, .int .i64 31, .int .i64 30, .int .i64 31, .int .i64 30, .int .i64 31, .int .i64 31, .int .i64 30, .int .i64 31, .int .i64 30, .int .i64 31] ?hr ?_; (case hr => first | (go_simp; done) | (go_simp; rfl)); intro v152 w12 ho13 hb; (first | rw [← Ny151.out] at ho13 | (simp only [Int.reduceToNat] at ho13; rw [← Ny151.out] at ho13)); have n0_ := Aside0.mk (Kd.R_lower ho13 (Bz HB)); have n1_ := Bs HB hb; clear HB; revert n0_ n1_; intro HO153 HB; clear hb ho13; obtain ⟨Ao14, co14, eo14⟩ := Kd.R_slice HO153.out; subst eo14; have p154 : 0 ≤ ((ji9) : Int) := of_decide_eq_true (by first | (with_reducible assumption) | assumption); have q154 : (ji9) < (y151.length : Int) := of_decide_eq_true (by first | (with_reducible assumption) | assumption); obtain ⟨ad154, e154, hx154_0⟩ := Kd.at_int (Kd.R_reads' HO153.out).2.2 (ji9) p154 q154; cases e154; replace p154 := eq_true p154; replace q154 := eq_true q154))
       go_ret
       exact ⟨by first | rfl | (simp [errW_none, errW_some] <;> rfl) | (simp only [← hji9]; first | rfl | (simp [errW_none, errW_some] <;> rfl)) | (simp [*, errW_none, errW_some] <;> rfl), Bu HB⟩
      ·rw [if_neg c11] at H
       exact absurd H (by simp)
     ·rw [if_neg c10] at H
      exact absurd H (by simp)
    case' b26_ =>
     rw [if_neg c8] at H
     have c8b0 : ((Int.tmod a0 100) == 0) = false := beq_eq_false_iff_ne.mpr c8
     have c8b1 : ((Int.tmod a0 100) != 0) = true := bne_iff_ne.mpr c8
     obtain rfl := Option.some.inj H
   case' b25_ =>
    rw [if_neg c7] at H
    have c7b0 : ((Int.tmod a0 4) == 0) = false := beq_eq_false_iff_ne.mpr c7
    have c7b1 : ((Int.tmod a0 4) != 0) = true := bne_iff_ne.mpr c7
    obtain ⟨ji17, hji17⟩ : ∃ j_ : Int, (wrap64 (a1 - 1)) = j_ := ⟨_, rfl⟩
    replace H : (if 0 ≤ (ji17) then (if (ji17) < (y151.length : Int) then (some (rd y151 (ji17))) else (none)) else (none)) = some r := by first | (rw [hji17] at H; exact H) | (simp only [hji17] at H ⊢; exact H)
    have hji17w : (IntKind.i64.wrap (a1 - 1)) = ji17 := (i64_w _).trans hji17
    by_cases c18 : 0 ≤ (ji17)
    ·rw [if_pos c18] at H
     have c18b0 : decide (0 ≤ (ji17)) = true := decide_eq_true c18
     clear c18
     by_cases c19 : (ji17) < (y151.length : Int)
     ·rw [if_pos c19] at H
      have c19b0 : decide ((ji17) < (y151.length : Int)) = true := decide_eq_true c19
      clear c19
      obtain rfl := Option.some.inj H
      go_enter Tryd.func31, Tryd.ntmps31
      go_wp2_with (first | ((with_reducible refine gate_dst (N := 6) rfl ?_); refine litI .i64 3 6 [31, 28, 31, 30, 31, 30, 31, 31, 30, 31, 30, 31] [.int .i64 31, .int .i64 28, .int .i64 31, .int .i64 30, .int .i64 31, .int .i64 30, .int .i64 31, .int .i64 31, .int .i64 30, .int .i64 31, .int .i64 30, .int .i64 31] ?hr ?_; (case hr => first | (go_simp; done) | (go_simp; rfl)); intro v152 w20 ho21 hb; (first | rw [← Ny151.out] at ho21 | (simp only [Int.reduceToNat] at ho21; rw [← Ny151.out] at ho21)); have n0_ := Aside0.mk (Kd.R_lower ho21 (Bz HB)); have n1_ := Bs HB hb; clear HB; revert n0_ n1_; intro HO153 HB; clear hb ho21; obtain ⟨Ao22, co22, eo22⟩ := Kd.R_slice HO153.out; subst eo22; have p155 : 0 ≤ ((ji17) : Int) := of_decide_eq_true (by first | (with_reducible assumption) | assumption); have q155 : (ji17) < (y151.length : Int) := of_decide_eq_true (by first | (with_reducible assumption) | assumption); obtain ⟨ad155, e155, hx155_0⟩ := Kd.at_int (Kd.R_reads' HO153.out).2.2 (ji17) p155 q155; cases e155; replace p155 := eq_true p155; replace q155 := eq_true q155))
      go_ret
      exact ⟨by first | rfl | (simp [errW_none, errW_some] <;> rfl) | (simp only [← hji17]; first | rfl | (simp [errW_none, errW_some] <;> rfl)) | (simp [*, errW_none, errW_some] <;> rfl), Bu HB⟩
     ·rw [if_neg c19] at H
      exact absurd H (by simp)
    ·rw [if_neg c18] at H
     exact absurd H (by simp)
 case' b23_ =>
  rw [if_neg c3] at H
  have c3b0 : (a1 == 2) = false := beq_eq_false_iff_ne.mpr c3
  have c3b1 : (a1 != 2) = true := bne_iff_ne.mpr c3
  obtain ⟨ji23, hji23⟩ : ∃ j_ : Int, (wrap64 (a1 - 1)) = j_ := ⟨_, rfl⟩
  replace H : (if 0 ≤ (ji23) then (if (ji23) < (y151.length : Int) then (some (rd y151 (ji23))) else (none)) else (none)) = some r := by first | (rw [hji23] at H; exact H) | (simp only [hji23] at H ⊢; exact H)
  have hji23w : (IntKind.i64.wrap (a1 - 1)) = ji23 := (i64_w _).trans hji23
  by_cases c24 : 0 ≤ (ji23)
  ·rw [if_pos c24] at H
   have c24b0 : decide (0 ≤ (ji23)) = true := decide_eq_true c24
   clear c24
   by_cases c25 : (ji23) < (y151.length : Int)
   ·rw [if_pos c25] at H
    have c25b0 : decide ((ji23) < (y151.length : Int)) = true := decide_eq_true c25
    clear c25
    obtain rfl := Option.some.inj H
    go_enter Tryd.func31, Tryd.ntmps31
    go_wp2_with (first | ((with_reducible refine gate_dst (N := 6) rfl ?_); refine litI .i64 3 6 [31, 28, 31, 30, 31, 30, 31, 31, 30, 31, 30, 31] [.int .i64 31, .int .i64 28, .int .i64 31, .int .i64 30, .int .i64 31, .int .i64 30, .int .i64 31, .int .i64 31, .int .i64 30, .int .i64 31, .int .i64 30, .int .i64 31] ?hr ?_; (case hr => first | (go_simp; done) | (go_simp; rfl)); intro v152 w26 ho27 hb; (first | rw [← Ny151.out] at ho27 | (simp only [Int.reduceToNat] at ho27; rw [← Ny151.out] at ho27)); have n0_ := Aside0.mk (Kd.R_lower ho27 (Bz HB)); have n1_ := Bs HB hb; clear HB; revert n0_ n1_; intro HO153 HB; clear hb ho27; obtain ⟨Ao28, co28, eo28⟩ := Kd.R_slice HO153.out; subst eo28; have p156 : 0 ≤ ((ji23) : Int) := of_decide_eq_true (by first | (with_reducible assumption) | assumption); have q156 : (ji23) < (y151.length : Int) := of_decide_eq_true (by first | (with_reducible assumption) | assumption); obtain ⟨ad156, e156, hx156_0⟩ := Kd.at_int (Kd.R_reads' HO153.out).2.2 (ji23) p156 q156; cases e156; replace p156 := eq_true p156; replace q156 := eq_true q156))
    go_ret
    exact ⟨by first | rfl | (simp [errW_none, errW_some] <;> rfl) | (simp only [← hji23]; first | rfl | (simp [errW_none, errW_some] <;> rfl)) | (simp [*, errW_none, errW_some] <;> rfl), Bu HB⟩
   ·rw [if_neg c25] at H
    exact absurd H (by simp)
  ·rw [if_neg c24] at H
   exact absurd H (by simp)

 case a24_ | b24_ =>
  go_enter Tryd.func31, Tryd.ntmps31
  go_wp2_with (first | ((with_reducible refine gate_dst (N := 6) rfl ?_); refine litI .i64 3 6 [31, 28, 31, 30, 31, 30, 31, 31, 30, 31, 30, 31] [.int .i64 31, .int .i64 28, .int .i64 31, .int .i64 30, .int .i64 31, .int .i64 30, .int .i64 31, .int .i64 31, .int .i64 30, .int .i64 31, .int .i64 30, .int .i64 31] ?hr ?_; (case hr => first | (go_simp; done) | (go_simp; rfl)); intro vz1 wz1 hoz1 hb; (first | rw [← Ny151.out] at hoz1 | (simp only [Int.reduceToNat] at hoz1; rw [← Ny151.out] at hoz1)); have nz1 := Aside0.mk (Kd.R_lower hoz1 (Bz HB)); have nz2 := Bs HB hb; clear HB; have HOz1 := nz1; have HB := nz2; clear nz1 nz2; clear hb hoz1))
  go_ret
  exact ⟨rfl_, Bu HB⟩
/-! ### lanyardref10_Days: function 17 -/
mutual
def lanyardref10_Days.l0 : Nat → Int → Int → Int → Int → Int → Option (Int)
 | 0, _, _, _, _, _ => none
 | k + 1, x0, x1, x2, x7, x8 => if (wrap64 (x8 + 400)) ≤ x0 then (lanyardref10_Days.l0 k x0 x1 x2 (wrap64 (x7 + 146097)) (wrap64 (x8 + 400))) else (lanyardref10_Days.l1 k x0 x1 x2 x7 x8)
def lanyardref10_Days.l1 : Nat → Int → Int → Int → Int → Int → Option (Int)
 | 0, _, _, _, _, _ => none
 | k + 1, x0, x1, x2, x7, x8 => if x8 < x0 then (lanyardref10_Days.l2 k x0 x1 x2 x7 x8 1) else (lanyardref10_Days.l3 k x0 x1 x2 x7 1)
def lanyardref10_Days.l2 : Nat → Int → Int → Int → Int → Int → Int → Option (Int)
 | 0, _, _, _, _, _, _ => none
 | k + 1, x0, x1, x2, x7, x8, x9 => if x9 ≤ 12 then ((lanyardref10_Length.f x8 x9).bind fun t157 => (lanyardref10_Days.l2 k x0 x1 x2 (wrap64 (x7 + t157)) x8 (wrap64 (x9 + 1)))) else (lanyardref10_Days.l1 k x0 x1 x2 x7 (wrap64 (x8 + 1)))
def lanyardref10_Days.l3 : Nat → Int → Int → Int → Int → Int → Option (Int)
 | 0, _, _, _, _, _ => none
 | k + 1, x0, x1, x2, x7, x10 => if x10 < x1 then ((lanyardref10_Length.f x0 x10).bind fun t158 => (lanyardref10_Days.l3 k x0 x1 x2 (wrap64 (x7 + t158)) (wrap64 (x10 + 1)))) else (some (wrap64 ((wrap64 (x7 + x2)) - 1)))
end
def lanyardref10_Days.f (k : Nat) (a0 : Int) (a1 : Int) (a2 : Int) : Option (Int) := lanyardref10_Days.l0 k a0 a1 a2 (-719162) 1
theorem lanyardref10_Days.mono_l : ∀ k, (∀ y0 y1 y2 y3 y4, LeO (lanyardref10_Days.l0 k y0 y1 y2 y3 y4) (lanyardref10_Days.l0 (k + 1) y0 y1 y2 y3 y4)) ∧ (∀ y0 y1 y2 y3 y4, LeO (lanyardref10_Days.l1 k y0 y1 y2 y3 y4) (lanyardref10_Days.l1 (k + 1) y0 y1 y2 y3 y4)) ∧ (∀ y0 y1 y2 y3 y4 y5, LeO (lanyardref10_Days.l2 k y0 y1 y2 y3 y4 y5) (lanyardref10_Days.l2 (k + 1) y0 y1 y2 y3 y4 y5)) ∧ (∀ y0 y1 y2 y3 y4, LeO (lanyardref10_Days.l3 k y0 y1 y2 y3 y4) (lanyardref10_Days.l3 (k + 1) y0 y1 y2 y3 y4))
 | 0 => ⟨fun _ _ _ _ _ r h => by simp [lanyardref10_Days.l0] at h, fun _ _ _ _ _ r h => by simp [lanyardref10_Days.l1] at h, fun _ _ _ _ _ _ r h => by simp [lanyardref10_Days.l2] at h, fun _ _ _ _ _ r h => by simp [lanyardref10_Days.l3] at h⟩
 | k + 1 => by
  obtain ⟨ih0, ih1, ih2, ih3⟩ := lanyardref10_Days.mono_l k
  refine ⟨?_, ?_, ?_, ?_⟩
  ·intro y0 y1 y2 y3 y4
   unfold lanyardref10_Days.l0
   repeat' first
   | (with_reducible exact ih0 _ _ _ _ _)
   | (with_reducible exact ih1 _ _ _ _ _)
   | (with_reducible exact ih2 _ _ _ _ _ _)
   | (with_reducible exact ih3 _ _ _ _ _)
   | (with_reducible exact LeO.refl _)
   | (with_reducible exact LeO.none _)
   | (with_reducible refine LeO.ite ?_ ?_)
   | (with_reducible refine LeO.bind ?_ (fun _ => ?_))
   | exact ih0 _ _ _ _ _
   | exact ih1 _ _ _ _ _
   | exact ih2 _ _ _ _ _ _
   | exact ih3 _ _ _ _ _
   | exact LeO.none _
   | refine LeO.ite ?_ ?_
   | refine LeO.bind ?_ (fun _ => ?_)
  ·intro y0 y1 y2 y3 y4
   unfold lanyardref10_Days.l1
   repeat' first
   | (with_reducible exact ih0 _ _ _ _ _)
   | (with_reducible exact ih1 _ _ _ _ _)
   | (with_reducible exact ih2 _ _ _ _ _ _)
   | (with_reducible exact ih3 _ _ _ _ _)
   | (with_reducible exact LeO.refl _)
   | (with_reducible exact LeO.none _)
   | (with_reducible refine LeO.ite ?_ ?_)
   | (with_reducible refine LeO.bind ?_ (fun _ => ?_))
   | exact ih0 _ _ _ _ _
   | exact ih1 _ _ _ _ _
   | exact ih2 _ _ _ _ _ _
   | exact ih3 _ _ _ _ _
   | exact LeO.none _
   | refine LeO.ite ?_ ?_
   | refine LeO.bind ?_ (fun _ => ?_)
  ·intro y0 y1 y2 y3 y4 y5
   unfold lanyardref10_Days.l2
   repeat' first
   | (with_reducible exact ih0 _ _ _ _ _)
   | (with_reducible exact ih1 _ _ _ _ _)
   | (with_reducible exact ih2 _ _ _ _ _ _)
   | (with_reducible exact ih3 _ _ _ _ _)
   | (with_reducible exact LeO.refl _)
   | (with_reducible exact LeO.none _)
   | (with_reducible refine LeO.ite ?_ ?_)
   | (with_reducible refine LeO.bind ?_ (fun _ => ?_))
   | exact ih0 _ _ _ _ _
   | exact ih1 _ _ _ _ _
   | exact ih2 _ _ _ _ _ _
   | exact ih3 _ _ _ _ _
   | exact LeO.none _
   | refine LeO.ite ?_ ?_
   | refine LeO.bind ?_ (fun _ => ?_)
  ·intro y0 y1 y2 y3 y4
   unfold lanyardref10_Days.l3
   repeat' first
   | (with_reducible exact ih0 _ _ _ _ _)
   | (with_reducible exact ih1 _ _ _ _ _)
   | (with_reducible exact ih2 _ _ _ _ _ _)
   | (with_reducible exact ih3 _ _ _ _ _)
   | (with_reducible exact LeO.refl _)
   | (with_reducible exact LeO.none _)
   | (with_reducible refine LeO.ite ?_ ?_)
   | (with_reducible refine LeO.bind ?_ (fun _ => ?_))
   | exact ih0 _ _ _ _ _
   | exact ih1 _ _ _ _ _
   | exact ih2 _ _ _ _ _ _
   | exact ih3 _ _ _ _ _
   | exact LeO.none _
   | refine LeO.ite ?_ ?_
   | refine LeO.bind ?_ (fun _ => ?_)
theorem lanyardref10_Days.mono : ∀ a0 a1 a2 k, LeO (lanyardref10_Days.f k a0 a1 a2) (lanyardref10_Days.f (k + 1) a0 a1 a2) := by
 intro a0 a1 a2 k
 obtain ⟨ih0, ih1, ih2, ih3⟩ := lanyardref10_Days.mono_l k
 unfold lanyardref10_Days.f
 repeat' first
   | (with_reducible exact ih0 _ _ _ _ _)
   | (with_reducible exact ih1 _ _ _ _ _)
   | (with_reducible exact ih2 _ _ _ _ _ _)
   | (with_reducible exact ih3 _ _ _ _ _)
   | (with_reducible exact LeO.refl _)
   | (with_reducible exact LeO.none _)
   | (with_reducible refine LeO.ite ?_ ?_)
   | (with_reducible refine LeO.bind ?_ (fun _ => ?_))
   | exact ih0 _ _ _ _ _
   | exact ih1 _ _ _ _ _
   | exact ih2 _ _ _ _ _ _
   | exact ih3 _ _ _ _ _
   | exact LeO.none _
   | refine LeO.ite ?_ ?_
   | refine LeO.bind ?_ (fun _ => ?_)
set_option maxHeartbeats 8000000 in
set_option maxRecDepth 100000 in
theorem lanyardref10_Days.calls (k : Nat) (a0 : Int) (a1 : Int) (a2 : Int) (r : Int) (w : World) (h : lanyardref10_Days.f k a0 a1 a2 = some r) :
  Calls Tryd.prog 17 #[.int .i64 a0, .int .i64 a1, .int .i64 a2] w fun e w' => e = .returned (.int .i64 r) ∧ Below w.heap.size w w' := by
 have HB := Aside0.mk (Below.refl w.heap.size w)
 have H : (lanyardref10_Days.l0 k a0 a1 a2 (-719162) 1) = some r := h
 clear h
 have H' := Aside0.mk H
 clear H
 go_enter Tryd.func17, Tryd.ntmps17
 go_wp2
 go_loopg [7, 8] k (fun kq v7 v8 w' => ∃ (x7_1 : Int) (x8_1 : Int), v7 = .int .i64 x7_1 ∧ v8 = .int .i64 x8_1 ∧ Aside0 (lanyardref10_Days.l0 kq a0 a1 a2 x7_1 x8_1 = some r) ∧ Aside0 (kq ≤ k) ∧ Aside0 (Below w.heap.size w w'))
 case atStart => exact ⟨((-719162)), (1), (by first | rfl | (simp; done) | (simp [*]; done)), (by first | rfl | (simp; done) | (simp [*]; done)), H', ⟨Nat.le_refl _⟩, ⟨Bu HB⟩⟩
 case round =>
  clear H'
  try clear c1
  try clear p2
  obtain ⟨x7_1, x8_1, rfl, rfl, HA, HK1, HB⟩ := hrel
  cases gk with
  | zero => exact absurd HA.out (by simp [lanyardref10_Days.l0])
  | succ k1 =>
   have H := HA.out
   clear HA
   simp only [lanyardref10_Days.l0] at H
   by_cases c4 : (wrap64 (x8_1 + 400)) ≤ a0
   ·rw [if_pos c4] at H
    have c4b0 : decide ((wrap64 (x8_1 + 400)) ≤ a0) = true := decide_eq_true c4
    clear c4
    have H' := Aside0.mk H
    clear H
    go_wp2
    go_roundg k1
    case measure => have := HK1.out; omega
    case rel => exact ⟨(wrap64 (x7_1 + 146097)), (wrap64 (x8_1 + 400)), (by first | rfl | (simp; done) | (simp [*]; done)), (by first | rfl | (simp; done) | (simp [*]; done)), H', ⟨by have := HK1.out; omega⟩, ⟨Bu HB⟩⟩
   ·rw [if_neg c4] at H
    have c4b0 : decide ((wrap64 (x8_1 + 400)) ≤ a0) = false := decide_eq_false c4
    clear c4
    have H' := Aside0.mk H
    clear H
    go_wp2
    go_loopg [7, 8] k1 (fun kq v7 v8 w' => ∃ (x7_2 : Int) (x8_2 : Int), v7 = .int .i64 x7_2 ∧ v8 = .int .i64 x8_2 ∧ Aside0 (lanyardref10_Days.l1 kq a0 a1 a2 x7_2 x8_2 = some r) ∧ Aside0 (kq ≤ k1) ∧ Aside0 (Below w.heap.size w w'))
    case atStart => exact ⟨(x7_1), (x8_1), (by first | rfl | (simp; done) | (simp [*]; done)), (by first | rfl | (simp; done) | (simp [*]; done)), H', ⟨Nat.le_refl _⟩, ⟨Bu HB⟩⟩
    case round =>
     clear H'
     try clear c1
     try clear p2
     try clear c4
     try clear c4b0
     try clear p2
     obtain ⟨x7_2, x8_2, rfl, rfl, HA, HK2, HB⟩ := hrel
     cases gk with
     | zero => exact absurd HA.out (by simp [lanyardref10_Days.l1])
     | succ k2 =>
      have H := HA.out
      clear HA
      simp only [lanyardref10_Days.l1] at H
      by_cases c5 : x8_2 < a0
      ·rw [if_pos c5] at H
       have c5b0 : decide (x8_2 < a0) = true := decide_eq_true c5
       clear c5
       have H' := Aside0.mk H
       clear H
       go_wp2
       go_loopg [7, 9] k2 (fun kq v7 v9 w' => ∃ (x7_3 : Int) (x9_3 : Int), v7 = .int .i64 x7_3 ∧ v9 = .int .i64 x9_3 ∧ Aside0 (lanyardref10_Days.l2 kq a0 a1 a2 x7_3 x8_2 x9_3 = some r) ∧ Aside0 (kq ≤ k2) ∧ Aside0 (Below w.heap.size w w'))
       case atStart => exact ⟨(x7_2), (1), (by first | rfl | (simp; done) | (simp [*]; done)), (by first | rfl | (simp; done) | (simp [*]; done)), H', ⟨Nat.le_refl _⟩, ⟨Bu HB⟩⟩
       case round =>
        clear H'
        try clear c1
        try clear p2
        try clear c4
        try clear c4b0
        try clear c5
        try clear c5b0
        try clear p2
        obtain ⟨x7_3, x9_3, rfl, rfl, HA, HK3, HB⟩ := hrel
        cases gk with
        | zero => exact absurd HA.out (by simp [lanyardref10_Days.l2])
        | succ k3 =>
         have H := HA.out
         clear HA
         simp only [lanyardref10_Days.l2] at H
         by_cases c6 : x9_3 ≤ 12
         ·rw [if_pos c6] at H
          have c6b0 : decide (x9_3 ≤ 12) = true := decide_eq_true c6
          clear c6
          replace H := Option.bind_eq_some_iff.mp H
          obtain ⟨t157, A70, H⟩ := H
          replace H : (lanyardref10_Days.l2 k3 a0 a1 a2 (wrap64 (x7_3 + t157)) x8_2 (wrap64 (x9_3 + 1))) = some r := H
          have A7 := Aside0.mk A70
          clear A70
          have H' := Aside0.mk H
          clear H
          go_wp2_with (first | ((with_reducible refine gate_callee (f := 31) rfl ?_); refine goesA (some 29) Tryd.func31 #[.int .i64 x8_2, .int .i64 x9_3] rfl ?_; (with_reducible refine (lanyardref10_Length.calls x8_2 x9_3 t157 _ A7.out).mono ?_); rintro e w8 ⟨rfl, hb⟩; refine ⟨_, rfl, ?_⟩; have n0_ := Bs HB hb; clear HB; revert n0_; intro HB; (try clear hb); (try clear hb2); (try clear hk); (try clear hi)))
          go_roundg k3
          case measure => have := HK1.out; have := HK2.out; have := HK3.out; omega
          case rel => exact ⟨(wrap64 (x7_3 + t157)), (wrap64 (x9_3 + 1)), (by first | rfl | (simp; done) | (simp [*]; done)), (by first | rfl | (simp; done) | (simp [*]; done)), H', ⟨by have := HK1.out; have := HK2.out; have := HK3.out; omega⟩, ⟨Bu HB⟩⟩
         ·rw [if_neg c6] at H
          have c6b0 : decide (x9_3 ≤ 12) = false := decide_eq_false c6
          clear c6
          have H' := Aside0.mk H
          clear H
          go_wp2
          go_roundg k3
          case measure => have := HK1.out; have := HK2.out; have := HK3.out; omega
          case rel => exact ⟨(x7_3), (wrap64 (x8_2 + 1)), (by first | rfl | (simp; done) | (simp [*]; done)), (by first | rfl | (simp; done) | (simp [*]; done)), H', ⟨by have := HK1.out; have := HK2.out; have := HK3.out; omega⟩, ⟨Bu HB⟩⟩
      ·rw [if_neg c5] at H
       have c5b0 : decide (x8_2 < a0) = false := decide_eq_false c5
       clear c5
       have H' := Aside0.mk H
       clear H
       go_wp2
       go_loopg [7, 10] k2 (fun kq v7 v10 w' => ∃ (x7_3 : Int) (x10_3 : Int), v7 = .int .i64 x7_3 ∧ v10 = .int .i64 x10_3 ∧ Aside0 (lanyardref10_Days.l3 kq a0 a1 a2 x7_3 x10_3 = some r) ∧ Aside0 (kq ≤ k2) ∧ Aside0 (Below w.heap.size w w'))
       case atStart => exact ⟨(x7_2), (1), (by first | rfl | (simp; done) | (simp [*]; done)), (by first | rfl | (simp; done) | (simp [*]; done)), H', ⟨Nat.le_refl _⟩, ⟨Bu HB⟩⟩
       case round =>
        clear H'
        try clear c1
        try clear p2
        try clear c3
        try clear c4
        try clear c4b0
        try clear c5
        try clear c5b0
        try clear c6
        try clear c6b0
        try clear p6
        try clear p2
        obtain ⟨x7_3, x10_3, rfl, rfl, HA, HK3, HB⟩ := hrel
        cases gk with
        | zero => exact absurd HA.out (by simp [lanyardref10_Days.l3])
        | succ k3 =>
         have H := HA.out
         clear HA
         simp only [lanyardref10_Days.l3] at H
         by_cases c9 : x10_3 < a1
         ·rw [if_pos c9] at H
          have c9b0 : decide (x10_3 < a1) = true := decide_eq_true c9
          clear c9
          replace H := Option.bind_eq_some_iff.mp H
          obtain ⟨t158, A100, H⟩ := H
          replace H : (lanyardref10_Days.l3 k3 a0 a1 a2 (wrap64 (x7_3 + t158)) (wrap64 (x10_3 + 1))) = some r := H
          have A10 := Aside0.mk A100
          clear A100
          have H' := Aside0.mk H
          clear H
          go_wp2_with (first | ((with_reducible refine gate_callee (f := 31) rfl ?_); refine goesA (some 41) Tryd.func31 #[.int .i64 a0, .int .i64 x10_3] rfl ?_; (with_reducible refine (lanyardref10_Length.calls a0 x10_3 t158 _ A10.out).mono ?_); rintro e w11 ⟨rfl, hb⟩; refine ⟨_, rfl, ?_⟩; have n0_ := Bs HB hb; clear HB; revert n0_; intro HB; (try clear hb); (try clear hb2); (try clear hk); (try clear hi)))
          go_roundg k3
          case measure => have := HK1.out; have := HK2.out; have := HK3.out; omega
          case rel => exact ⟨(wrap64 (x7_3 + t158)), (wrap64 (x10_3 + 1)), (by first | rfl | (simp; done) | (simp [*]; done)), (by first | rfl | (simp; done) | (simp [*]; done)), H', ⟨by have := HK1.out; have := HK2.out; have := HK3.out; omega⟩, ⟨Bu HB⟩⟩
         ·rw [if_neg c9] at H
          have c9b0 : decide (x10_3 < a1) = false := decide_eq_false c9
          clear c9
          obtain rfl := Option.some.inj H
          go_wp2
          go_ret
          exact ⟨rfl_, Bu HB⟩

end Go.Proofs.YtcikjghmelbkaaaDoor.Hp
