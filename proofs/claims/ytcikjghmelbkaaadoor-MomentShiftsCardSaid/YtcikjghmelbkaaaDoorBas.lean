/- Plain lemmas: rounds, bytes as lists, texts cut at a byte, texts joined. -/
import Derived.Test.YtcikjghmelbkaaaDoorWWords
import Derived.Test.YtcikjghmelbkaaaDoorWLast
import Derived.Test.YtcikjghmelbkaaaDoorWMore
import Derived.Test.YtcikjghmelbkaaaDoorHp0 -- the seat's own kinds
import Derived.Lib.SplitLaws
import Derived.Lib.Replace
import Derived.Lib.Join
namespace Go.Proofs.YtcikjghmelbkaaaDoor.Esc
open Go.RowKit Go.Proofs.YtcikjghmelbkaaaDoor.Hp Go.Proofs.YtcikjghmelbkaaaDoorW.PrintWords Go.Proofs.YtcikjghmelbkaaaDoorW.PrintLast
theorem Ev.ifT {α : Type} {c : Prop} [Decidable c] {f g : Nat → Option α} {r : α} (h : c) (k : Ev f r) : Ev (fun n => if c then f n else g n) r := Ev.congr (fun _ => if_pos h) k
theorem Ev.ifF {α : Type} {c : Prop} [Decidable c] {f g : Nat → Option α} {r : α} (h : ¬ c) (k : Ev g r) : Ev (fun n => if c then f n else g n) r := Ev.congr (fun _ => if_neg h) k
theorem Ev.bindC {α β : Type} {o : Option α} {a : α} {f : Nat → α → Option β} {r : β} (h : o = some a) (k : Ev (fun n => f n a) r) : Ev (fun n => o.bind (f n)) r := Ev.congr (fun _ => by rw [h]; rfl) k
theorem Ev.parts {α : Type} {c : Prop} [Decidable c] {f g : Nat → Option α} {r : α} (h : c → Ev f r) (k : ¬ c → Ev g r) : Ev (fun n => if c then f n else g n) r := by
  by_cases hc : c
  · exact Ev.ifT hc (h hc)
  · exact Ev.ifF hc (k hc)
theorem w64 {x : Int} (h0 : -9223372036854775808 ≤ x) (h1 : x < 9223372036854775808) : wrap64 x = x := by unfold wrap64; omega
def bs (l : List UInt8) : ByteArray := ⟨l.toArray⟩
theorem bs_data (l : List UInt8) : (bs l).data.toList = l := rfl
theorem bs_size (l : List UInt8) : (bs l).size = l.length := by simp [bs, ByteArray.size]
theorem bs_self (s : ByteArray) : bs s.data.toList = s := rfl
theorem bs_toList (l : List UInt8) : (bs l).toList = l := by rw [ByteArray.toList_eq]; rfl
theorem data_toList (s : ByteArray) : s.toList = s.data.toList := ByteArray.toList_eq s
theorem len_data (s : ByteArray) : s.data.toList.length = s.size := by show s.data.toList.length = s.data.size; simp
theorem app_data (a b : ByteArray) : (a ++ b).data.toList = a.data.toList ++ b.data.toList := by rw [ByteArray.data_append, Array.toList_append]
theorem ext {a b : ByteArray} (h : a.data.toList = b.data.toList) : a = b := by
  rcases a with ⟨⟨l⟩⟩; rcases b with ⟨⟨m⟩⟩; simpa using h
theorem bt_nat (s : ByteArray) (i : Nat) (h : i < s.size) : bt s (i : Int) = ((s.data.toList.getD i 0).toNat : Int) := by
  unfold bt
  have hl : i < s.data.toList.length := by rw [len_data]; exact h
  rw [dif_pos (by simpa using h), List.getD_eq_getElem?_getD, List.getElem?_eq_getElem hl]
  simp
  rfl
theorem drop_cons (s : ByteArray) (i : Nat) (h : i < s.size) : s.data.toList.drop i = s.data.toList.getD i 0 :: s.data.toList.drop (i + 1) := by
  have hl : i < s.data.toList.length := by rw [len_data]; exact h
  rw [List.drop_eq_getElem_cons hl, List.getD_eq_getElem?_getD, List.getElem?_eq_getElem hl]; rfl
theorem drop_end (s : ByteArray) (i : Nat) (h : s.size ≤ i) : s.data.toList.drop i = [] := List.drop_of_length_le (by rw [len_data]; exact h)
def spl (c : UInt8) : List UInt8 → List (List UInt8)
  | [] => [[]]
  | x :: l => if x = c then [] :: spl c l else match spl c l with
    | p :: ps => (x :: p) :: ps
    | [] => [[x]]
theorem spl_ne (c : UInt8) (l : List UInt8) : spl c l ≠ [] := by
  cases l with
  | nil => simp [spl]
  | cons x l =>
    rw [spl]
    split
    · simp
    · split <;> simp
theorem index_nil (c : UInt8) : Lib.index [] [c] = -1 := rfl
theorem index_cons (c x : UInt8) (l : List UInt8) : Lib.index (x :: l) [c] = if x = c then 0 else if Lib.index l [c] = -1 then -1 else Lib.index l [c] + 1 := by
  rw [Lib.index]
  by_cases h : x = c
  · subst h; simp
  · have h2 : ¬ c = x := fun e => h e.symm
    simp [h, h2]
theorem spl_miss (c : UInt8) : ∀ l : List UInt8, Lib.index l [c] = -1 → spl c l = [l]
  | [], _ => rfl
  | x :: l, h => by
    rw [index_cons] at h
    have g := Lib.index_ge l [c]
    split at h
    · omega
    · rename_i hx
      split at h
      · rename_i hm
        rw [spl, if_neg hx, spl_miss c l hm]
      · omega
theorem spl_hit (c : UInt8) : ∀ (l : List UInt8) (i : Nat), Lib.index l [c] = i → spl c l = l.take i :: spl c (l.drop (i + 1))
  | [], i, h => by rw [index_nil] at h; omega
  | x :: l, i, h => by
    rw [index_cons] at h
    have g := Lib.index_ge l [c]
    split at h
    · rename_i hx
      obtain rfl : i = 0 := by omega
      rw [spl, if_pos hx]; simp
    · rename_i hx
      split at h
      · omega
      · obtain ⟨j, rfl⟩ : ∃ j, i = j + 1 := ⟨i - 1, by omega⟩
        rw [spl, if_neg hx, spl_hit c l j (by omega)]
        simp
theorem splitB_spl (c : UInt8) : ∀ (k : Nat) (s : ByteArray), Lib.countB s ⟨#[c]⟩ ≤ k → Lib.splitB ⟨#[c]⟩ 0 k s = (spl c s.data.toList).map bs := by
  intro k
  induction k with
  | zero =>
    intro s h
    have hm : Lib.index s.data.toList [c] = -1 := by
      have g := Lib.index_ge s.data.toList [c]
      by_cases e : Lib.index s.data.toList [c] = -1
      · exact e
      · have := Lib.count_hit (s := s.data.toList) (sub := [c]) (i := (Lib.index s.data.toList [c]).toNat) (by simp) (by omega)
        have h' : Lib.count s.data.toList [c] ≤ 0 := h
        omega
    rw [spl_miss c _ hm, Lib.splitB_zero]; rfl
  | succ k ih =>
    intro s h
    by_cases hm : Lib.index s.data.toList [c] = -1
    · rw [spl_miss c _ hm, Lib.splitB_miss _ _ _ _ hm]; rfl
    · have g := Lib.index_ge s.data.toList [c]
      obtain ⟨i, hi⟩ : ∃ i : Nat, Lib.index s.data.toList [c] = i := ⟨(Lib.index s.data.toList [c]).toNat, by omega⟩
      have hc := Lib.count_hit (s := s.data.toList) (sub := [c]) (i := i) (by simp) hi
      have e1 : (s.extract (i + 1) s.size).data.toList = s.data.toList.drop (i + 1) := by
        rw [ByteArray.data_extract, Array.toList_extract, List.extract_eq_take_drop, List.take_of_length_le (by rw [List.length_drop, len_data]; exact Nat.le_refl _)]
      have e2 : s.extract 0 i = bs (s.data.toList.take i) := ext (by rw [ByteArray.data_extract, Array.toList_extract, List.extract_eq_take_drop, bs_data]; simp)
      rw [Lib.splitB_hit (⟨#[c]⟩ : ByteArray) 0 k s i hi, spl_hit c _ i hi, List.map_cons, ← e1]
      rw [Nat.add_zero, e2]
      congr 1
      refine ih _ ?_
      show Lib.count (s.extract (i + 1) s.size).data.toList [c] ≤ k
      rw [e1]
      have h' : Lib.count s.data.toList [c] ≤ k + 1 := h
      have hc' : Lib.count s.data.toList [c] = 1 + Lib.count (s.data.toList.drop (i + 1)) [c] := hc
      omega
theorem spl_sum (c : UInt8) : ∀ l : List UInt8, ((spl c l).map fun p => p.length + 1).sum = l.length + 1
  | [] => rfl
  | x :: l => by
    have ih := spl_sum c l
    rw [spl]
    split
    · simp only [List.map_cons, List.sum_cons, ih, List.length_cons, List.length_nil]; omega
    · have hn := spl_ne c l
      split
      · rename_i p ps he
        rw [he] at ih
        simp only [List.map_cons, List.sum_cons, List.length_cons] at ih ⊢
        omega
      · rename_i he; exact absurd he hn
theorem index_at (c : UInt8) : ∀ (x : List UInt8) (i : Nat), i < x.length → (∀ j, j < i → x.getD j 0 ≠ c) → x.getD i 0 = c → Lib.index x [c] = i
  | [], i, h, _, _ => by simp at h
  | d :: l, i, h, hne, he => by
    rw [index_cons]
    cases i with
    | zero => rw [if_pos (by simpa using he)]; rfl
    | succ i =>
      have h0 := hne 0 (by omega)
      rw [if_neg (by simpa using h0)]
      have := index_at c l i (by simpa using h) (fun j hj => by simpa using hne (j + 1) (by omega)) (by simpa using he)
      rw [this, if_neg (by omega)]; omega
theorem index_no (c : UInt8) : ∀ (x : List UInt8), (∀ j, j < x.length → x.getD j 0 ≠ c) → Lib.index x [c] = -1
  | [], _ => rfl
  | d :: l, hne => by
    have h0 := hne 0 (by simp)
    rw [index_cons, if_neg (by simpa using h0), if_pos (index_no c l (fun j hj => by simpa using hne (j + 1) (by simpa using hj)))]
theorem getD_drop (l : List UInt8) (f j : Nat) : (l.drop f).getD j 0 = l.getD (f + j) 0 := by
  simp [List.getD_eq_getElem?_getD, List.getElem?_drop]
theorem ext_cut (s : ByteArray) (f i : Nat) : s.extract f i = bs ((s.data.toList.drop f).take (i - f)) := ext (by rw [ByteArray.data_extract, Array.toList_extract, List.extract_eq_take_drop, bs_data])
theorem spl_mem (c : UInt8) (l : List UInt8) : ∀ x ∈ spl c l, x.length ≤ l.length := by
  intro x hx
  have h := spl_sum c l
  have : ∀ (ps : List (List UInt8)), x ∈ ps → x.length + 1 ≤ (ps.map fun p => p.length + 1).sum := by
    intro ps
    induction ps with
    | nil => intro h; cases h
    | cons p ps ih =>
      intro h
      simp only [List.map_cons, List.sum_cons]
      rcases List.mem_cons.1 h with rfl | h
      · omega
      · have := ih h; omega
  have := this _ hx
  omega
theorem spl_count (c : UInt8) (l : List UInt8) : (spl c l).length ≤ l.length + 1 := by
  have h := spl_sum c l
  have : ∀ (ps : List (List UInt8)), ps.length ≤ (ps.map fun p => p.length + 1).sum := by
    intro ps
    induction ps with
    | nil => simp
    | cons p ps ih => simp only [List.map_cons, List.sum_cons, List.length_cons]; omega
  have := this (spl c l)
  omega
theorem join_snoc (s : List UInt8) (x : List UInt8) : ∀ l : List (List UInt8), l ≠ [] → Lib.join (l ++ [x]) s = Lib.join l s ++ s ++ x
  | [], h => absurd rfl h
  | a :: r, _ => by
    rw [List.cons_append, Lib.join_cons, Lib.join_cons, Lib.joinTail, Lib.joinTail]
    simp
theorem join_len (n : Nat) (s : List UInt8) (hs : s.length ≤ 1) : ∀ l : List (List UInt8), (∀ x ∈ l, x.length ≤ n) → (Lib.join l s).length ≤ (n + 1) * l.length
  | [], _ => by simp [Lib.join_nil]
  | x :: r, h => by
    have hr : Lib.lens r ≤ n * r.length := by
      have : ∀ r : List (List UInt8), (∀ x ∈ r, x.length ≤ n) → (r.map List.length).sum ≤ n * r.length := by
        intro r
        induction r with
        | nil => simp
        | cons y r ih =>
          intro h
          have h1 := h y (by simp)
          have h2 := ih (fun z hz => h z (by simp [hz]))
          simp only [List.map_cons, List.sum_cons, List.length_cons]
          rw [Nat.mul_add]; omega
      exact this r (fun z hz => h z (by simp [hz]))
    have hx := h x (by simp)
    rw [Lib.join_length]
    have e : Lib.lens (x :: r) = x.length + Lib.lens r := by simp [Lib.lens]
    have h3 : s.length * r.length ≤ 1 * r.length := Nat.mul_le_mul_right _ hs
    rw [e, List.length_cons, Nat.add_mul, Nat.mul_add]; omega
theorem getD_mem (l : List UInt8) (j : Nat) (h : j < l.length) : l.getD j 0 ∈ l := by
  rw [List.getD_eq_getElem?_getD, List.getElem?_eq_getElem h]; exact List.getElem_mem h
theorem getD_left (a b : List UInt8) (j : Nat) (h : j < a.length) : (a ++ b).getD j 0 = a.getD j 0 := by
  rw [List.getD_eq_getElem?_getD, List.getD_eq_getElem?_getD, List.getElem?_append_left h]
theorem getD_at (a b : List UInt8) (x : UInt8) : (a ++ x :: b).getD a.length 0 = x := by
  rw [List.getD_eq_getElem?_getD, List.getElem?_append_right (Nat.le_refl _)]; simp
theorem bs_app (a b : List UInt8) : bs a ++ bs b = bs (a ++ b) := ext (by rw [app_data, bs_data, bs_data, bs_data])
theorem spl_join (b : UInt8) : ∀ (x : List UInt8) (r : List (List UInt8)), (∀ y ∈ x :: r, ∀ c ∈ y, c ≠ b) → spl b (Lib.join (x :: r) [b]) = x :: r
  | x, [], h => by
    rw [Lib.join_one]
    exact spl_miss b x (index_no b x (fun j hj => h x (by simp) _ (getD_mem _ _ hj)))
  | x, y :: r, h => by
    have e : Lib.join (x :: y :: r) [b] = x ++ b :: Lib.join (y :: r) [b] := by
      rw [Lib.join_cons, Lib.join_cons]; simp [Lib.joinTail]
    rw [e, spl_hit b _ x.length (index_at b _ _ (by simp) (fun j hj => by rw [getD_left _ _ _ hj]; exact h x (by simp) _ (getD_mem _ _ hj)) (getD_at _ _ _))]
    rw [show (x ++ b :: Lib.join (y :: r) [b]).take x.length = x by simp, show (x ++ b :: Lib.join (y :: r) [b]).drop (x.length + 1) = Lib.join (y :: r) [b] by simp]
    rw [spl_join b y r (fun z hz => h z (List.mem_cons_of_mem _ hz))]
def repl (a b c : UInt8) : UInt8 := if c = a then b else c
theorem map_miss (a b : UInt8) : ∀ l : List UInt8, Lib.index l [a] = -1 → l.map (repl a b) = l
  | [], _ => rfl
  | x :: l, h => by
    rw [index_cons] at h
    have g := Lib.index_ge l [a]
    split at h
    · omega
    · rename_i hx
      split at h
      · rename_i hm
        rw [List.map_cons, map_miss a b l hm, repl, if_neg hx]
      · omega
theorem map_hit (a b : UInt8) : ∀ (l : List UInt8) (i : Nat), Lib.index l [a] = i → l.map (repl a b) = l.take i ++ [b] ++ (l.drop (i + 1)).map (repl a b)
  | [], i, h => by rw [index_nil] at h; omega
  | x :: l, i, h => by
    rw [index_cons] at h
    have g := Lib.index_ge l [a]
    split at h
    · rename_i hx
      obtain rfl : i = 0 := by omega
      subst hx
      simp [repl]
    · rename_i hx
      split at h
      · omega
      · obtain ⟨j, rfl⟩ : ∃ j, i = j + 1 := ⟨i - 1, by omega⟩
        rw [List.map_cons, map_hit a b l j (by omega), repl, if_neg hx]
        simp
theorem replaceK_map (a b : UInt8) : ∀ (k : Nat) (l : List UInt8), Lib.count l [a] ≤ k → Lib.replaceK [a] [b] k l = l.map (repl a b) := by
  intro k
  induction k with
  | zero =>
    intro l h
    have hm : Lib.index l [a] = -1 := by
      have g := Lib.index_ge l [a]
      by_cases e : Lib.index l [a] = -1
      · exact e
      · have := Lib.count_hit (s := l) (sub := [a]) (i := (Lib.index l [a]).toNat) (by simp) (by omega)
        omega
    rw [map_miss a b l hm]; rfl
  | succ k ih =>
    intro l h
    by_cases hm : Lib.index l [a] = -1
    · rw [map_miss a b l hm, Lib.replaceK, if_pos (by simp [hm])]
    · have g := Lib.index_ge l [a]
      obtain ⟨i, hi⟩ : ∃ i : Nat, Lib.index l [a] = i := ⟨(Lib.index l [a]).toNat, by omega⟩
      have hc := Lib.count_hit (s := l) (sub := [a]) (i := i) (by simp) hi
      rw [Lib.replaceK_hit _ _ _ _ i hi, map_hit a b l i hi, show ([a] : List UInt8).length = 1 from rfl, ih _ (by simp at hc; omega)]
theorem replaceAll_map (a b : UInt8) (hab : a ≠ b) (l : List UInt8) : Lib.replaceAll l [a] [b] = l.map (repl a b) := by
  unfold Lib.replaceAll Lib.replace
  rw [if_neg (by simpa using hab)]
  refine replaceK_map a b _ l ?_
  unfold Lib.replaceNum
  rw [if_pos (.inl (by decide))]
  exact Nat.le_refl _
/-- Bytes as the numbers that they are. -/
def I (b : List UInt8) : List Int := b.map fun c => (c.toNat : Int)
theorem I_len (b : List UInt8) : (I b).length = b.length := List.length_map _
theorem I_app (a b : List UInt8) : I (a ++ b) = I a ++ I b := List.map_append
theorem I_drop (b : List UInt8) (n : Nat) : (I b).drop n = I (b.drop n) := (List.map_drop).symm
theorem I_take (b : List UInt8) (n : Nat) : (I b).take n = I (b.take n) := (List.map_take).symm
theorem I_str (b : List UInt8) : strOfNums (I b) = bs b := by
  unfold strOfNums I bs
  congr 2
  rw [List.map_map]
  refine (List.map_congr_left (fun c _ => ?_)).trans (List.map_id b)
  simp
theorem I_at (b : List UInt8) (i : Nat) (h : i < b.length) : rd (I b) (i : Int) = ((b.getD i 0).toNat : Int) := by
  unfold rd I
  rw [show ((i : Int)).toNat = i by omega, List.getD_eq_getElem?_getD, List.getElem?_map, List.getD_eq_getElem?_getD, List.getElem?_eq_getElem h]; rfl
theorem I_of {l : List Int} (h : ∀ x ∈ l, (Lit.int .u8 x).wf = true) : ∃ b, l = I b := by
  refine ⟨l.map fun x => UInt8.ofNat x.toNat, ?_⟩
  unfold I
  rw [List.map_map]
  refine ((List.map_congr_left (fun x hx => ?_)).trans (List.map_id l)).symm
  have := h x hx
  simp [Lit.wf, IntKind.min, IntKind.max, IntKind.bits, IntKind.signed] at this
  simp; omega
theorem getD_lt (b : List UInt8) (i : Nat) : (b.getD i 0).toNat < 256 := UInt8.toNat_lt _
end Go.Proofs.YtcikjghmelbkaaaDoor.Esc
