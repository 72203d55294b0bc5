/- Texts turned byte by byte: what the printed functions answer, as plain lists. -/
import Derived.Test.YtjmcdocoogdbiaaDoorWWords
import Derived.Test.YtjmcdocoogdbiaaDoorWLast
import Derived.Test.YtjmcdocoogdbiaaDoorWMore
import Derived.Test.YtjmcdocoogdbiaaDoorHp2
import Derived.Test.YtjmcdocoogdbiaaDoorHp4
import Derived.Test.YtjmcdocoogdbiaaDoorHp9
namespace Go.Proofs.YtjmcdocoogdbiaaDoor.Esc
open Go.RowKit Go.Proofs.YtjmcdocoogdbiaaDoor.Hp Go.Proofs.YtjmcdocoogdbiaaDoorW.PrintWords Go.Proofs.YtjmcdocoogdbiaaDoorW.PrintLast
theorem Ev.ifT {α : Type} {c : Prop} [Decidable c] {f g : Nat → Option α} {r : α} (h : c) (k : Ev f r) : Ev (fun n => if c then f n else g n) r := Ev.congr (fun _ => if_pos h) k
theorem Ev.ifF {α : Type} {c : Prop} [Decidable c] {f g : Nat → Option α} {r : α} (h : ¬ c) (k : Ev g r) : Ev (fun n => if c then f n else g n) r := Ev.congr (fun _ => if_neg h) k
theorem Ev.bindC {α β : Type} {o : Option α} {a : α} {f : Nat → α → Option β} {r : β} (h : o = some a) (k : Ev (fun n => f n a) r) : Ev (fun n => o.bind (f n)) r := Ev.congr (fun _ => by rw [h]; rfl) k
theorem w64 {x : Int} (h0 : -9223372036854775808 ≤ x) (h1 : x < 9223372036854775808) : wrap64 x = x := by unfold wrap64; omega
def bs (l : List UInt8) : ByteArray := ⟨l.toArray⟩
theorem bs_data (l : List UInt8) : (bs l).data.toList = l := rfl
theorem bs_size (l : List UInt8) : (bs l).size = l.length := by simp [bs, ByteArray.size]
theorem bs_self (s : ByteArray) : bs s.data.toList = s := rfl
theorem bs_toList (l : List UInt8) : (bs l).toList = l := by rw [ByteArray.toList_eq]; rfl
theorem data_toList (s : ByteArray) : s.toList = s.data.toList := ByteArray.toList_eq s
theorem len_data (s : ByteArray) : s.data.toList.length = s.size := by show s.data.toList.length = s.data.size; simp
theorem app_data (a b : ByteArray) : (a ++ b).data.toList = a.data.toList ++ b.data.toList := by rw [ByteArray.data_append, Array.toList_append]
theorem ext {a b : ByteArray} (h : a.data.toList = b.data.toList) : a = b := by
  rcases a with ⟨⟨l⟩⟩; rcases b with ⟨⟨m⟩⟩; simpa using h
theorem bt_nat (s : ByteArray) (i : Nat) (h : i < s.size) : bt s (i : Int) = ((s.data.toList.getD i 0).toNat : Int) := by
  unfold bt
  have hl : i < s.data.toList.length := by rw [len_data]; exact h
  rw [dif_pos (by simpa using h), List.getD_eq_getElem?_getD, List.getElem?_eq_getElem hl]
  simp
  rfl
theorem drop_cons (s : ByteArray) (i : Nat) (h : i < s.size) : s.data.toList.drop i = s.data.toList.getD i 0 :: s.data.toList.drop (i + 1) := by
  have hl : i < s.data.toList.length := by rw [len_data]; exact h
  rw [List.drop_eq_getElem_cons hl, List.getD_eq_getElem?_getD, List.getElem?_eq_getElem hl]; rfl
theorem drop_end (s : ByteArray) (i : Nat) (h : s.size ≤ i) : s.data.toList.drop i = [] := List.drop_of_length_le (by rw [len_data]; exact h)
def fl (h : UInt8 → List UInt8) (l : List UInt8) : List UInt8 := l.flatMap h
theorem fl_cons (h : UInt8 → List UInt8) (c : UInt8) (l : List UInt8) : fl h (c :: l) = h c ++ fl h l := by simp [fl]
theorem fl_app (h : UInt8 → List UInt8) (l m : List UInt8) : fl h (l ++ m) = fl h l ++ fl h m := by simp [fl]
theorem fl_len (h : UInt8 → List UInt8) (n : Nat) (hn : ∀ c, (h c).length ≤ n) (l : List UInt8) : (fl h l).length ≤ n * l.length := by
  induction l with
  | nil => simp [fl]
  | cons c l ih => rw [fl_cons, List.length_append, List.length_cons, Nat.mul_add, Nat.mul_one]; have := hn c; omega
/-- What a byte becomes. -/
def hof (g : Int → Option ByteArray) (c : UInt8) : List UInt8 := match g (c.toNat : Int) with | some t => if t.data.toList.isEmpty then [c] else t.data.toList | none => [c]
def okg (g : Int → Option ByteArray) : Bool := (List.range 256).all fun n => match g (n : Int) with | some t => decide (t.size ≤ 64) | none => false
theorem okg_at {g : Int → Option ByteArray} (h : okg g = true) (c : UInt8) : ∃ t, g (c.toNat : Int) = some t ∧ t.size ≤ 64 := by
  have := List.all_eq_true.1 h c.toNat (List.mem_range.2 c.toNat_lt)
  split at this
  · rename_i t ht; exact ⟨t, ht, of_decide_eq_true this⟩
  · simp at this
theorem go_of {g : Int → Option ByteArray} (h : okg g = true) : ∀ l : List UInt8, escape_turned.go g l = some (fl (hof g) l)
  | [] => rfl
  | c :: l => by
    obtain ⟨t, ht, hs⟩ := okg_at h c
    rw [escape_turned.go, ht, fl_cons]
    simp only [Option.bind_some, if_pos hs, go_of h l, hof, ht]
theorem turned_of {g : Int → Option ByteArray} (h : okg g = true) (s : ByteArray) (hs : s.size ≤ 1099511627776) : escape_turned.f g s = some (bs (fl (hof g) s.data.toList)) := by
  unfold escape_turned.f
  rw [if_pos hs, go_of h]; rfl
theorem ok_attr : okg escape_inAttr.f = true := by decide +kernel
theorem ok_text : okg escape_inText.f = true := by decide +kernel
theorem ok_page : okg escape_inPage.f = true := by decide +kernel
theorem ok_percent : okg escape_Percent.g = true := by decide +kernel
/-- Byte by byte: a fact that is looked at 256 times. -/
theorem bytes_all {p : UInt8 → Bool} (h : ((List.range 256).all fun n => p n.toUInt8) = true) (c : UInt8) : p c = true := by
  have := List.all_eq_true.1 h c.toNat (List.mem_range.2 c.toNat_lt)
  simpa using this
/-! ### unlike texts become unlike -/
structure Apart (h : UInt8 → List UInt8) : Prop where
  ne : ∀ c, h c ≠ []
  pre : ∀ c d, h c <+: h d → c = d
def small (S : List Nat) (m : UInt8) (h : UInt8 → List UInt8) : Bool := ((List.range 256).all fun a => if S.contains a then (h a.toUInt8).head? == some m else h a.toUInt8 == [a.toUInt8] && a.toUInt8 != m) && S.all fun a => S.all fun b => a == b || !(h a.toUInt8).isPrefixOf (h b.toUInt8)
theorem pre_head {l m : List UInt8} {c : UInt8} (h : l <+: m) (hc : l.head? = some c) : m.head? = some c := by
  obtain ⟨z, rfl⟩ := h
  cases l with
  | nil => simp at hc
  | cons x l => simpa using hc
theorem Apart.of_small {S : List Nat} {m : UInt8} {h : UInt8 → List UInt8} (hs : small S m h = true) : Apart h := by
  simp only [small, Bool.and_eq_true] at hs
  have h1 : ∀ c : UInt8, (c.toNat ∈ S ∧ (h c).head? = some m) ∨ (c.toNat ∉ S ∧ h c = [c] ∧ c ≠ m) := by
    intro c
    have := List.all_eq_true.1 hs.1 c.toNat (List.mem_range.2 c.toNat_lt)
    by_cases hc : c.toNat ∈ S
    · rw [if_pos (by simpa using hc)] at this
      exact .inl ⟨hc, by simpa using this⟩
    · rw [if_neg (by simpa using hc)] at this
      simp at this
      exact .inr ⟨hc, by simpa using this.1, this.2⟩
  have h2 : ∀ c d : UInt8, c.toNat ∈ S → d.toNat ∈ S → h c <+: h d → c = d := by
    intro c d hc hd hp
    have := List.all_eq_true.1 (List.all_eq_true.1 hs.2 _ hc) _ hd
    simp [List.isPrefixOf_iff_prefix.2 hp] at this
    exact UInt8.toNat_inj.1 this
  refine ⟨fun c hn => ?_, fun c d hp => ?_⟩
  · rcases h1 c with ⟨_, hh⟩ | ⟨_, hh, _⟩ <;> rw [hn] at hh <;> simp at hh
  · rcases h1 c with ⟨hc, hh⟩ | ⟨hc, hh, hm⟩
    · rcases h1 d with ⟨hd, kk⟩ | ⟨hd, kk, km⟩
      · exact h2 c d hc hd hp
      · have := pre_head hp hh
        rw [kk] at this
        exact absurd (by simpa using this) km
    · rw [hh] at hp
      have := pre_head hp (c := c) rfl
      rcases h1 d with ⟨hd, kk⟩ | ⟨hd, kk, km⟩
      · rw [kk] at this; exact absurd (Option.some.inj this).symm hm
      · rw [kk] at this; exact (Option.some.inj this).symm
theorem fl_inj {h : UInt8 → List UInt8} (ha : Apart h) : ∀ l m : List UInt8, fl h l = fl h m → l = m
  | [], [], _ => rfl
  | [], d :: m, e => by
    rw [fl_cons] at e
    exact absurd (List.append_eq_nil_iff.1 e.symm).1 (ha.ne d)
  | c :: l, [], e => by
    rw [fl_cons] at e
    exact absurd (List.append_eq_nil_iff.1 e).1 (ha.ne c)
  | c :: l, d :: m, e => by
    rw [fl_cons, fl_cons] at e
    have hcd : c = d := by
      rcases List.append_eq_append_iff.1 e with ⟨z, hz, _⟩ | ⟨z, hz, _⟩
      · exact ha.pre c d ⟨z, hz.symm⟩
      · exact (ha.pre d c ⟨z, hz.symm⟩).symm
    subst hcd
    rw [fl_inj ha l m (List.append_cancel_left e)]
theorem fl_same {h : UInt8 → List UInt8} (ha : Apart h) (l m : List UInt8) : (fl h l == fl h m) = (l == m) := by
  by_cases e : l = m
  · subst e; simp
  · have : fl h l ≠ fl h m := fun k => e (fl_inj ha l m k)
    rw [beq_eq_false_iff_ne.2 this, beq_eq_false_iff_ne.2 e]
theorem apart_attr : Apart (hof escape_inAttr.f) := .of_small (S := [9, 10, 13, 34, 38, 60]) (m := 38) (by decide +kernel)
theorem apart_text : Apart (hof escape_inText.f) := .of_small (S := [13, 38, 60, 62]) (m := 38) (by decide +kernel)
theorem apart_page : Apart (hof escape_inPage.f) := .of_small (S := [34, 38, 39, 60, 62]) (m := 38) (by decide +kernel)
/-- The bytes that stay in percent coding. -/
def plainB (c : UInt8) : Bool := (escape_plain.f (c.toNat : Int)).getD false
theorem percent_h (c : UInt8) : hof escape_Percent.g c = if plainB c = true then [c] else [37, hexd (c.toNat / 16), hexd (c.toNat % 16)] := by
  have : (hof escape_Percent.g c == if plainB c = true then [c] else [37, hexd (c.toNat / 16), hexd (c.toNat % 16)]) = true := bytes_all (p := fun c => hof escape_Percent.g c == if plainB c = true then [c] else [37, hexd (c.toNat / 16), hexd (c.toNat % 16)]) (by decide +kernel) c
  simpa using this
theorem plain_ne {c : UInt8} (h : plainB c = true) : c ≠ 37 := by
  rintro rfl
  exact absurd h (by decide +kernel)
theorem hexd_inj {x y : Nat} (hx : x < 16) (hy : y < 16) (h : hexd x = hexd y) : x = y := by
  have : ∀ a : Fin 16, ∀ b : Fin 16, hexd a.val = hexd b.val → a = b := by decide +kernel
  exact congrArg Fin.val (this ⟨x, hx⟩ ⟨y, hy⟩ h)
theorem apart_percent : Apart (hof escape_Percent.g) := by
  refine ⟨fun c => ?_, fun c d hp => ?_⟩
  · rw [percent_h]; split <;> simp
  · rw [percent_h, percent_h] at hp
    have hc := c.toNat_lt
    have hd := d.toNat_lt
    split at hp <;> split at hp
    · simpa using hp
    · rename_i h1 h2
      have := pre_head hp (c := c) rfl
      exact absurd (by simpa using this.symm) (plain_ne h1)
    · rename_i h1 h2
      have := pre_head hp (c := 37) rfl
      exact absurd (by simpa using this) (plain_ne h2)
    · simp at hp
      have e1 := hexd_inj (by omega) (by omega) hp.1
      have e2 := hexd_inj (by omega) (by omega) hp.2
      exact UInt8.toNat_inj.1 (by omega)
theorem awake_ev : Ev (fun k => lanyardlaw03_awake.f k) true := Ev.of (fun k => lanyardlaw03_awake.mono k) (k := 40) (by decide +kernel)
theorem attr_f (s : ByteArray) (hs : s.size ≤ 1099511627776) : escape_Attr.f s = some (bs (fl (hof escape_inAttr.f) s.data.toList)) := turned_of ok_attr s hs
theorem text_f (s : ByteArray) (hs : s.size ≤ 1099511627776) : escape_Text.f s = some (bs (fl (hof escape_inText.f) s.data.toList)) := turned_of ok_text s hs
theorem page_f (s : ByteArray) (hs : s.size ≤ 1099511627776) : escape_Page.f s = some (bs (fl (hof escape_inPage.f) s.data.toList)) := turned_of ok_page s hs
theorem percent_f (s : ByteArray) (hs : s.size ≤ 1099511627776) : escape_Percent.f s = some (bs (fl (hof escape_Percent.g) s.data.toList)) := turned_of ok_percent s hs
end Go.Proofs.YtjmcdocoogdbiaaDoor.Esc
