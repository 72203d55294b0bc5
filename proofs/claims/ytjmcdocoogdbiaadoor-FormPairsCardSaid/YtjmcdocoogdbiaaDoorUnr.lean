/- The program's own Unpercent gives the plain answer; percent coding undone gives the text back; the document's percent coding. -/
import Derived.Test.YtjmcdocoogdbiaaDoorUnq
import Derived.Lib.Replace
import Derived.Test.YtjmcdocoogdbiaaDoorHp2
import Derived.Test.YtjmcdocoogdbiaaDoorHp3
namespace Go.Proofs.YtjmcdocoogdbiaaDoor.Esc
open Go.RowKit Go.Proofs.YtjmcdocoogdbiaaDoor.Hp Go.Proofs.YtjmcdocoogdbiaaDoorW.PrintWords Go.Proofs.YtjmcdocoogdbiaaDoorW.PrintLast
def rep (c : UInt8) : UInt8 := if c = 43 then 32 else c
theorem map_miss : ∀ l : List UInt8, Lib.index l [43] = -1 → l.map rep = l
  | [], _ => rfl
  | x :: l, h => by
    rw [index_cons] at h
    have g := Lib.index_ge l [43]
    split at h
    · omega
    · rename_i hx
      split at h
      · rename_i hm
        rw [List.map_cons, map_miss l hm, rep, if_neg hx]
      · omega
theorem map_hit : ∀ (l : List UInt8) (i : Nat), Lib.index l [43] = i → l.map rep = l.take i ++ [32] ++ (l.drop (i + 1)).map rep
  | [], i, h => by rw [index_nil] at h; omega
  | x :: l, i, h => by
    rw [index_cons] at h
    have g := Lib.index_ge l [43]
    split at h
    · rename_i hx
      obtain rfl : i = 0 := by omega
      subst hx
      simp [rep]
    · rename_i hx
      split at h
      · omega
      · obtain ⟨j, rfl⟩ : ∃ j, i = j + 1 := ⟨i - 1, by omega⟩
        rw [List.map_cons, map_hit l j (by omega), rep, if_neg hx]
        simp
theorem replaceK_map : ∀ (k : Nat) (l : List UInt8), Lib.count l [43] ≤ k → Lib.replaceK [43] [32] k l = l.map rep := by
  intro k
  induction k with
  | zero =>
    intro l h
    have hm : Lib.index l [43] = -1 := by
      have g := Lib.index_ge l [43]
      by_cases e : Lib.index l [43] = -1
      · exact e
      · have := Lib.count_hit (s := l) (sub := [43]) (i := (Lib.index l [43]).toNat) (by simp) (by omega)
        omega
    rw [map_miss l hm]; rfl
  | succ k ih =>
    intro l h
    by_cases hm : Lib.index l [43] = -1
    · rw [map_miss l hm, Lib.replaceK, if_pos (by simp [hm])]
    · have g := Lib.index_ge l [43]
      obtain ⟨i, hi⟩ : ∃ i : Nat, Lib.index l [43] = i := ⟨(Lib.index l [43]).toNat, by omega⟩
      have hc := Lib.count_hit (s := l) (sub := [43]) (i := i) (by simp) hi
      rw [Lib.replaceK_hit _ _ _ _ i hi, map_hit l i hi, show ([43] : List UInt8).length = 1 from rfl, ih _ (by simp at hc; omega)]
theorem replaceAll_map (l : List UInt8) : Lib.replaceAll l [43] [32] = l.map rep := by
  unfold Lib.replaceAll Lib.replace
  rw [if_neg (by decide)]
  refine replaceK_map _ l ?_
  unfold Lib.replaceNum
  rw [if_pos (.inl (by decide))]
  exact Nat.le_refl _
theorem hexok_rep (a b : UInt8) : hexok (rep a) (rep b) = hexok a b ∧ (hexok a b = true → hexval (rep a) (rep b) = hexval a b) := by
  have h1 : dg 43 = -1 := by decide +kernel
  have h2 : dg 32 = -1 := by decide +kernel
  by_cases ha : a = 43
  · subst ha; simp [rep, hexok, h1, h2]
  · by_cases hb : b = 43
    · subst hb; simp [rep, hexok, h1, h2]
    · simp [rep, ha, hb]
theorem unp_rep : ∀ (n : Nat) (l : List UInt8), l.length ≤ n → unp true l = unp false (l.map rep)
  | n, [], _ => by rw [unp_nil, List.map_nil, unp_nil]
  | 0, x :: l, h => by simp at h
  | n + 1, x :: l, h => by
    have hl : l.length ≤ n := by simpa using h
    by_cases hx : x = 37
    · subst hx
      rw [List.map_cons, show rep 37 = 37 from rfl]
      rcases l with _ | ⟨a, _ | ⟨b, r⟩⟩
      · rw [unp_short _ _ (by simp), unp_short _ _ (by simp)]
      · rw [unp_short _ _ (by simp), unp_short _ _ (by simp)]
      · have hr := hexok_rep a b
        rw [List.map_cons, List.map_cons, unp_pct, unp_pct, hr.1, unp_rep n r (by simp at hl; omega)]
        by_cases hk : hexok a b = true
        · rw [if_pos hk, if_pos hk, hr.2 hk]
        · rw [if_neg hk, if_neg hk]
    · have hr : rep x ≠ 37 := by
        unfold rep
        split
        · decide
        · exact hx
      rw [List.map_cons, unp_cons _ _ _ hx, unp_cons _ _ _ hr, unp_rep n l hl]
      simp [rep]
def told : Option (List UInt8) → ByteArray × Int
  | some l => (bs l, 0)
  | none => (⟨#[]⟩, 10)
theorem unpercent_ev (s : ByteArray) (plus : Bool) (hs : s.size ≤ 10000000) : Ev (fun k => escape_Unpercent.f k s plus) (told (unp plus s.data.toList)) := by
  unfold escape_Unpercent.f
  have core : ∀ t : ByteArray, t.size ≤ 10000000 → Ev (fun k => (strings_Split.f t ⟨#[37]⟩).bind fun ps => if (ps.map (fun p => p.size + 1)).sum ≤ 1099511627776 then (escape_Unpercent.go k true ps).bind fun o => some (match o with | some l => (⟨l.toArray⟩, 0) | none => (⟨#[]⟩, 10)) else none) (told (unp false t.data.toList)) := by
    intro t ht
    have e1 : strings_Split.f t ⟨#[37]⟩ = some ((spl 37 t.data.toList).map bs) := by
      unfold strings_Split.f
      rw [if_pos ⟨by omega, by decide⟩, splitB_spl 37 _ t (Nat.le_refl _)]
    refine Ev.bindC e1 (Ev.ifT ?_ (Ev.bind (go_ev (spl 37 t.data.toList) true) ?_))
    · have := spl_sum 37 t.data.toList
      rw [len_data] at this
      rw [List.map_map, show ((fun p : ByteArray => p.size + 1) ∘ bs) = fun p => p.length + 1 from funext fun p => by simp [bs_size], this]
      omega
    · rw [(gp_spl _ t.data.toList (Nat.le_refl _)).1]
      cases unp false t.data.toList <;> exact Ev.now _
  cases plus with
  | false =>
    refine Ev.bindC (o := if false = true then _ else some s) (by simp) (core s hs)
  | true =>
    have hc : Lib.countB s ⟨#[43]⟩ ≤ s.size := Lib.countB_le _ (by decide) s.size s (Nat.le_refl _)
    have e1 : strings_ReplaceAll.f s ⟨#[43]⟩ ⟨#[32]⟩ = some (bs (s.data.toList.map rep)) := by
      unfold strings_ReplaceAll.f
      rw [if_pos ⟨by omega, by decide, by rw [show (⟨#[32]⟩ : ByteArray).size = 1 from rfl]; omega⟩]
      rw [show (⟨#[43]⟩ : ByteArray).data.toList = [43] from rfl, show (⟨#[32]⟩ : ByteArray).data.toList = [32] from rfl, replaceAll_map]
      rfl
    have := core (bs (s.data.toList.map rep)) (by rw [bs_size, List.length_map, len_data]; exact hs)
    rw [bs_data, ← unp_rep _ s.data.toList (Nat.le_refl _)] at this
    exact Ev.bindC (by rw [if_pos rfl]; exact e1) this
/-! ### there and back -/
theorem pct_back (plus : Bool) : ∀ l : List UInt8, unp plus (fl (hof escape_Percent.g) l) = some l
  | [] => unp_nil _
  | c :: l => by
    rw [fl_cons, percent_h]
    by_cases hp : plainB c = true
    · have h43 : c ≠ 43 := by rintro rfl; exact absurd hp (by decide +kernel)
      rw [if_pos hp, List.singleton_append, unp_cons _ _ _ (plain_ne hp), pct_back plus l, if_neg (fun h => h43 h.1)]
      rfl
    · have h1 : ∀ c : UInt8, hexok (hexd (c.toNat / 16)) (hexd (c.toNat % 16)) = true := bytes_all (by decide +kernel)
      have h2 : ∀ c : UInt8, (hexval (hexd (c.toNat / 16)) (hexd (c.toNat % 16)) == c) = true := bytes_all (by decide +kernel)
      have h3 : hexval (hexd (c.toNat / 16)) (hexd (c.toNat % 16)) = c := by simpa using h2 c
      rw [if_neg hp, List.cons_append, List.cons_append, List.cons_append, List.nil_append, unp_pct, if_pos (h1 c), pct_back plus l, h3]
      rfl
end Go.Proofs.YtjmcdocoogdbiaaDoor.Esc
