/- The document's percent coding. -/
import Derived.Test.YtjmcdocoogdbiaaDoorEsc
import Derived.Test.YtjmcdocoogdbiaaDoorHp2
import Derived.Test.YtjmcdocoogdbiaaDoorHp6
namespace Go.Proofs.YtjmcdocoogdbiaaDoor.Esc
open Go.RowKit Go.Proofs.YtjmcdocoogdbiaaDoor.Hp Go.Proofs.YtjmcdocoogdbiaaDoorW.PrintWords Go.Proofs.YtjmcdocoogdbiaaDoorW.PrintLast
theorem Ev.parts {α : Type} {c : Prop} [Decidable c] {f g : Nat → Option α} {r : α} (h : c → Ev f r) (k : ¬ c → Ev g r) : Ev (fun n => if c then f n else g n) r := by
  by_cases hc : c
  · exact Ev.ifT hc (h hc)
  · exact Ev.ifF hc (k hc)
def plainP (x : Int) : Prop := (65 ≤ x ∧ x ≤ 90) ∨ (97 ≤ x ∧ x ≤ 122) ∨ (48 ≤ x ∧ x ≤ 57) ∨ x = 45 ∨ x = 46 ∨ x = 95 ∨ x = 126
instance (x : Int) : Decidable (plainP x) := by unfold plainP; infer_instance
theorem plain_is (c : UInt8) : plainB c = decide (plainP (c.toNat : Int)) := by
  have : ∀ c : UInt8, (plainB c == decide (plainP (c.toNat : Int))) = true := bytes_all (by decide +kernel)
  simpa using this c
def hexs : ByteArray := ⟨#[48, 49, 50, 51, 52, 53, 54, 55, 56, 57, 65, 66, 67, 68, 69, 70]⟩
theorem hexs_at (n : Nat) (h : n < 16) : bt hexs (n : Int) = ((hexd n).toNat : Int) := by
  have : ∀ a : Fin 16, bt hexs ((a.val : Nat) : Int) = ((hexd a.val).toNat : Int) := by decide +kernel
  exact this ⟨n, h⟩
theorem rp_leaf {s acc hx : ByteArray} {i x : Int} {b : Bool} {r : ByteArray} (k : Ev (fun k => lanyardref03_Percent.j1 k s acc hx i x (decide (plainP x))) r) (hb : b = true ↔ plainP x) : Ev (fun k => lanyardref03_Percent.j1 k s acc hx i x b) r := by
  have : b = decide (plainP x) := by
    by_cases h : plainP x
    · rw [decide_eq_true h]; exact hb.2 h
    · rw [decide_eq_false h]; cases b with
      | false => rfl
      | true => exact absurd (hb.1 rfl) h
  rw [this]; exact k
theorem rp_step (s acc : ByteArray) (i : Int) (h0 : 0 ≤ i) (hi : i < (s.size : Int)) (c : UInt8) (hc : bt s i = (c.toNat : Int)) (ha : acc.size ≤ 1000000000000) (r : ByteArray)
    (k : ∀ u : ByteArray, u.data.toList = hof escape_Percent.g c → Ev (fun k => lanyardref03_Percent.l0 k s (acc ++ u) hexs (wrap64 (i + 1))) r) : Ev (fun k => lanyardref03_Percent.l0 k s acc hexs i) r := by
  have hn := c.toNat_lt
  have core : Ev (fun k => lanyardref03_Percent.j1 k s acc hexs i (c.toNat : Int) (decide (plainP (c.toNat : Int)))) r := by
    rw [← plain_is]
    have hh := percent_h c
    by_cases hp : plainB c = true
    · rw [hp]
      rw [if_pos hp] at hh
      refine Ev.step (fun k => by rw [lanyardref03_Percent.j1]) ?_
      refine Ev.ifT rfl ?_
      refine Ev.bindC rfl ?_
      refine Ev.ifT (by rw [strOfNums_size]; simp only [List.length_cons, List.length_nil]; omega) ?_
      exact k _ (by rw [hh]; simp [strOfNums])
    · rw [if_neg hp] at hh
      rw [show plainB c = false by simpa using hp]
      have d1 : Int.tdiv (c.toNat : Int) 16 % 256 = ((c.toNat / 16 : Nat) : Int) := by rw [Int.tdiv_eq_ediv_of_nonneg (by omega)]; omega
      have d2 : Int.tmod (c.toNat : Int) 16 = ((c.toNat % 16 : Nat) : Int) := by rw [Int.tmod_eq_emod_of_nonneg (by omega)]; omega
      have hz : hexs.size = 16 := rfl
      refine Ev.step (fun k => by rw [lanyardref03_Percent.j1]) ?_
      refine Ev.ifF (by simp) ?_
      refine Ev.ifT (by omega) ?_
      rw [d1, d2]
      refine Ev.ifT (by omega) ?_
      refine Ev.ifT (by omega) ?_
      refine Ev.ifT (by omega) ?_
      refine Ev.ifT (by omega) ?_
      refine Ev.bindC rfl ?_
      refine Ev.ifT (by rw [ByteArray.size_append, strOfNums_size]; simp only [List.length_cons, List.length_nil]; rw [show (⟨#[37]⟩ : ByteArray).size = 1 from rfl]; omega) ?_
      rw [hexs_at _ (by omega), hexs_at _ (by omega), ByteArray.append_assoc]
      exact k _ (by rw [hh, app_data]; simp [strOfNums])
  refine Ev.step (fun k => by rw [lanyardref03_Percent.l0]) (Ev.ifT hi (Ev.ifT h0 ?_))
  rw [hc]
  generalize (c.toNat : Int) = x at core
  repeat' first
    | (refine Ev.parts (fun _ => ?_) (fun _ => ?_))
  all_goals (refine rp_leaf core ?_; simp only [beq_iff_eq, true_iff, plainP]; omega)
theorem rp_loop (s : ByteArray) (hs : s.size ≤ 10000000) : ∀ (m i : Nat) (acc : ByteArray), s.size - i = m → i ≤ s.size → acc.size ≤ 64 * i →
    Ev (fun k => lanyardref03_Percent.l0 k s acc hexs (i : Int)) (acc ++ bs (fl (hof escape_Percent.g) (s.data.toList.drop i)))
  | 0, i, acc, hm, hi, _ => by
    refine Ev.step (fun k => by rw [lanyardref03_Percent.l0]) (Ev.ifF (by omega) ?_)
    rw [drop_end s i (by omega), show acc ++ bs (fl (hof escape_Percent.g) []) = acc from ext (by rw [app_data]; simp [fl, bs_data])]
    exact Ev.now acc
  | m + 1, i, acc, hm, hi, ha => by
    refine rp_step s acc i (by omega) (by omega) (s.data.toList.getD i 0) (bt_nat s i (by omega)) (by omega) _ (fun u hu => ?_)
    have hl : (hof escape_Percent.g (s.data.toList.getD i 0)).length ≤ 64 := by rw [percent_h]; split <;> simp
    have hus : u.size ≤ 64 := by rw [← len_data, hu]; exact hl
    have := rp_loop s hs m (i + 1) (acc ++ u) (by omega) (by omega) (by rw [ByteArray.size_append]; omega)
    rw [w64 (by omega) (by omega), show (i : Int) + 1 = ((i + 1 : Nat) : Int) by omega]
    rw [show acc ++ bs (fl (hof escape_Percent.g) (s.data.toList.drop i)) = (acc ++ u) ++ bs (fl (hof escape_Percent.g) (s.data.toList.drop (i + 1))) from ext (by rw [app_data, app_data, app_data, drop_cons s i (by omega), fl_cons, hu]; simp [bs_data])]
    exact this
theorem ref_percent_ev (s : ByteArray) (hs : s.size ≤ 10000000) : Ev (fun k => lanyardref03_Percent.f k s) (bs (fl (hof escape_Percent.g) s.data.toList)) := by
  have := rp_loop s hs s.size 0 ⟨#[]⟩ (by omega) (by omega) (by decide)
  rw [show (⟨#[]⟩ : ByteArray) ++ bs (fl (hof escape_Percent.g) (s.data.toList.drop 0)) = bs (fl (hof escape_Percent.g) s.data.toList) from ext (by rw [app_data]; simp [bs_data])] at this
  unfold lanyardref03_Percent.f
  exact this
end Go.Proofs.YtjmcdocoogdbiaaDoor.Esc
