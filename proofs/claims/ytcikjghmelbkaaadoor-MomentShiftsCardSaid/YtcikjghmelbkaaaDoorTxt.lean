/- A moment's text: the program's and the document's. -/
import Derived.Test.YtcikjghmelbkaaaDoorCar
import Derived.Test.YtcikjghmelbkaaaDoorHp2
import Derived.Test.YtcikjghmelbkaaaDoorHp3
import Derived.Test.YtcikjghmelbkaaaDoorHp7
namespace Go.Proofs.YtcikjghmelbkaaaDoor.Esc
open Go.RowKit Go.Proofs.YtcikjghmelbkaaaDoor.Hp Go.Proofs.YtcikjghmelbkaaaDoorW.PrintWords Go.Proofs.YtcikjghmelbkaaaDoorW.PrintLast
def dgt (n : Nat) : UInt8 := UInt8.ofNat (48 + n % 10)
theorem dgt_nat (n : Nat) : (dgt n).toNat = 48 + n % 10 := by rw [dgt, UInt8.toNat_ofNat_of_lt' (by show _ < 256; omega)]
theorem wsm (q : Nat) (h : q < 1000000000) : wrap64 (q : Int) = (q : Int) := by unfold wrap64; omega
theorem quo_le (t n : Nat) (h : t < 86400000) : t / n < 1000000000 := Nat.lt_of_le_of_lt (Nat.div_le_self _ _) (by omega)
/-- So many digits of a number. -/
def dig : Nat → Nat → List UInt8
  | 0, _ => []
  | k + 1, n => dig k (n / 10) ++ [dgt n]
theorem dig_len : ∀ (k n : Nat), (dig k n).length = k
  | 0, _ => rfl
  | k + 1, n => by rw [dig, List.length_append, dig_len k, List.length_singleton]
theorem dgt_val (n : Nat) : wrap64 (48 + Int.tmod (n : Int) 10) % 256 = ((dgt n).toNat : Int) := by
  rw [show Int.tmod (n : Int) 10 = ((n % 10 : Nat) : Int) from tm n 10, dgt_nat]
  unfold wrap64
  omega
theorem rep_set (i : Nat) (S : List UInt8) (c : UInt8) : (I (List.replicate (i + 1) 0 ++ S)).set i (c.toNat : Int) = I (List.replicate i 0 ++ c :: S) := by
  unfold I
  rw [show ((c.toNat : Int)) = (fun c : UInt8 => (c.toNat : Int)) c from rfl, ← List.map_set]
  congr 1
  rw [List.replicate_succ', List.append_assoc, List.set_append_right _ _ (by simp)]
  simp
theorem digits_loop : ∀ (i n : Nat) (S : List UInt8), S.length + i ≤ 10 → n ≤ 1000000000 → Ev (fun k => moment_digits.l0 k (n : Int) (I (List.replicate i 0 ++ S)) ((i : Int) - 1)) (bs (dig i n ++ S))
  | 0, n, S, hS, hn => by
    refine Ev.step (fun k => by rw [moment_digits.l0]) (Ev.ifF (by omega) ?_)
    rw [I_str]
    exact Ev.now _
  | i + 1, n, S, hS, hn => by
    have ih := digits_loop i (n / 10) (dgt n :: S) (by simp; omega) (by omega)
    refine Ev.step (fun k => by rw [moment_digits.l0]) ?_
    refine Ev.ifT (by omega) ?_
    refine Ev.ifT (by omega) ?_
    refine Ev.ifT (by rw [I_len]; simp; omega) ?_
    rw [show (((i + 1 : Nat) : Int) - 1).toNat = i by omega, dgt_val, rep_set, show Int.tdiv (n : Int) 10 = ((n / 10 : Nat) : Int) from td n 10, show wrap64 ((n / 10 : Nat) : Int) = ((n / 10 : Nat) : Int) by unfold wrap64; omega, show wrap64 (((i + 1 : Nat) : Int) - 1 - 1) = (i : Int) - 1 by unfold wrap64; omega]
    rw [dig, List.append_assoc]
    exact ih
theorem digits_ev (n k : Nat) (hk : k ≤ 10) (hn : n ≤ 1000000000) : Ev (fun q => moment_digits.f q (n : Int) (k : Int)) (bs (dig k n)) := by
  unfold moment_digits.f
  refine Ev.ifT (by omega) (Ev.ifT (by omega) ?_)
  have := digits_loop k n [] (by simpa using hk) hn
  rw [List.append_nil, List.append_nil] at this
  rw [show (k : Int).toNat = k by omega, show wrap64 ((k : Int) - 1) = (k : Int) - 1 by unfold wrap64; omega]
  rw [show (List.replicate k 0 : List Int) = I (List.replicate k 0) by unfold I; rw [List.map_replicate]; rfl]
  exact this
theorem two_loop (k : Nat) (hk : k ≤ 10) : ∀ (i n : Nat) (S : List UInt8), S.length + i = k → n ≤ 1000000000 → Ev (fun q => lanyardref10_two.l0 q (n : Int) (k : Int) (bs S) ((k : Int) - (i : Int))) (bs (dig i n ++ S))
  | 0, n, S, hS, hn => by
    refine Ev.step (fun k => by rw [lanyardref10_two.l0]) (Ev.ifF (by omega) ?_)
    exact Ev.now _
  | i + 1, n, S, hS, hn => by
    have ih := two_loop k hk i (n / 10) (dgt n :: S) (by simp; omega) (by omega)
    refine Ev.step (fun k => by rw [lanyardref10_two.l0]) ?_
    refine Ev.ifT (by omega) ?_
    refine Ev.bindC (a := I [dgt n]) (by rw [dgt_val]; rfl) ?_
    refine Ev.ifT (by rw [I_str, bs_size, bs_size]; simp; omega) ?_
    rw [I_str, bs_app, show Int.tdiv (n : Int) 10 = ((n / 10 : Nat) : Int) from td n 10, show wrap64 ((n / 10 : Nat) : Int) = ((n / 10 : Nat) : Int) by unfold wrap64; omega, show wrap64 ((k : Int) - ((i + 1 : Nat) : Int) + 1) = (k : Int) - (i : Int) by unfold wrap64; omega]
    rw [dig, List.append_assoc]
    exact ih
theorem two_ev (n k : Nat) (hk : k ≤ 10) (hn : n ≤ 1000000000) : Ev (fun q => lanyardref10_two.f q (n : Int) (k : Int)) (bs (dig k n)) := by
  have := two_loop k hk k n [] (by simp) hn
  rw [List.append_nil, Int.sub_self] at this
  exact this
/-- The date and the time of a day, ahead of what follows. -/
def hdr (y m d t : Nat) (r : List UInt8) : List UInt8 :=
  dig 4 y ++ 45 :: (dig 2 m ++ 45 :: (dig 2 d ++ 84 :: (dig 2 (t / 3600000) ++ 58 :: (dig 2 (t / 60000 % 60) ++ 58 :: (dig 2 (t / 1000 % 60) ++ r)))))
def frac (t : Nat) : List UInt8 := if t % 1000 = 0 then [] else 46 :: dig 3 (t % 1000)
/-- The text of a moment. -/
def txt (y m d t : Nat) : List UInt8 := hdr y m d t (frac t ++ [90])
theorem hdr_len (y m d t : Nat) (r : List UInt8) : (hdr y m d t r).length = 19 + r.length := by
  unfold hdr
  simp only [List.length_append, List.length_cons, dig_len]
  omega
theorem sz1 (c : UInt8) : (⟨#[c]⟩ : ByteArray) = bs [c] := rfl
set_option maxHeartbeats 4000000 in
theorem print_ev {y m d t : Nat} (h : okd y m d) (ht : t < 86400000) : Ev (fun k => moment_Print.f k (momOf y m d t)) (bs (txt y m d t), 0) := by
  have hl := mlen_le y m
  obtain ⟨h1, h2, h3, h4, h5, h6⟩ := id h
  unfold moment_Print.f
  refine Ev.bind (date_ev h ht) ?_
  refine Ev.ifT rfl ?_
  refine Ev.bindC (split_f h ht) ?_
  simp only [sz1]
  rw [show Int.tdiv (t : Int) 3600000 = ((t / 3600000 : Nat) : Int) from td t 3600000, show Int.tdiv (t : Int) 60000 = ((t / 60000 : Nat) : Int) from td t 60000, show Int.tdiv (t : Int) 1000 = ((t / 1000 : Nat) : Int) from td t 1000, show Int.tmod (t : Int) 1000 = ((t % 1000 : Nat) : Int) from tm t 1000]
  rw [wsm _ (quo_le t 3600000 ht), wsm _ (quo_le t 60000 ht), wsm _ (quo_le t 1000 ht)]
  rw [show Int.tmod ((t / 60000 : Nat) : Int) 60 = ((t / 60000 % 60 : Nat) : Int) from tm _ 60, show Int.tmod ((t / 1000 : Nat) : Int) 60 = ((t / 1000 % 60 : Nat) : Int) from tm _ 60]
  refine Ev.bind (digits_ev y 4 (by decide) (by omega)) ?_
  refine Ev.ifT (by simp [bs_size, dig_len]) ?_
  refine Ev.bind (digits_ev m 2 (by decide) (by omega)) ?_
  simp only [bs_app]
  refine Ev.ifT (by simp [bs_size, dig_len]) ?_
  refine Ev.ifT (by simp [bs_size, dig_len]) ?_
  refine Ev.bind (digits_ev d 2 (by decide) (by omega)) ?_
  simp only [bs_app]
  refine Ev.ifT (by simp [bs_size, dig_len]) ?_
  refine Ev.ifT (by simp [bs_size, dig_len]) ?_
  refine Ev.bind (digits_ev (t / 3600000) 2 (by decide) (by omega)) ?_
  simp only [bs_app]
  refine Ev.ifT (by simp [bs_size, dig_len]) ?_
  refine Ev.ifT (by simp [bs_size, dig_len]) ?_
  refine Ev.bind (digits_ev (t / 60000 % 60) 2 (by decide) (by omega)) ?_
  simp only [bs_app]
  refine Ev.ifT (by simp [bs_size, dig_len]) ?_
  refine Ev.ifT (by simp [bs_size, dig_len]) ?_
  refine Ev.bind (digits_ev (t / 1000 % 60) 2 (by decide) (by omega)) ?_
  simp only [bs_app]
  refine Ev.ifT (by simp [bs_size, dig_len]) ?_
  by_cases h0 : t % 1000 = 0
  · refine Ev.ifF (by omega) ?_
    refine Ev.ifT (by simp [bs_size, dig_len]) ?_
    rw [show txt y m d t = dig 4 y ++ [45] ++ dig 2 m ++ [45] ++ dig 2 d ++ [84] ++ dig 2 (t / 3600000) ++ [58] ++ dig 2 (t / 60000 % 60) ++ [58] ++ dig 2 (t / 1000 % 60) ++ [90] by unfold txt hdr frac; rw [if_pos h0]; simp]
    exact Ev.now _
  · refine Ev.ifT (by omega) ?_
    refine Ev.bind (digits_ev (t % 1000) 3 (by decide) (by omega)) ?_
    simp only [bs_app]
    refine Ev.ifT (by simp [bs_size, dig_len]) ?_
    refine Ev.ifT (by simp [bs_size, dig_len]) ?_
    refine Ev.ifT (by simp [bs_size, dig_len]) ?_
    rw [show txt y m d t = dig 4 y ++ [45] ++ dig 2 m ++ [45] ++ dig 2 d ++ [84] ++ dig 2 (t / 3600000) ++ [58] ++ dig 2 (t / 60000 % 60) ++ [58] ++ dig 2 (t / 1000 % 60) ++ ([46] ++ dig 3 (t % 1000)) ++ [90] by unfold txt hdr frac; rw [if_neg h0]; simp]
    exact Ev.now _
theorem print_no {x : Int} (h : ¬ mom x) : Ev (fun k => moment_Print.f k x) (bs [], 21) := by
  unfold moment_Print.f
  refine Ev.bind (date_no h) ?_
  refine Ev.ifF (by decide) ?_
  exact Ev.now _
set_option maxHeartbeats 4000000 in
theorem rprint_ev {y m d t : Nat} (h : okd y m d) (ht : t < 86400000) : Ev (fun k => lanyardref10_Print.f k (momOf y m d t)) (bs (txt y m d t)) := by
  have hl := mlen_le y m
  have hb := dno_bound h
  obtain ⟨h1, h2, h3, h4, h5, h6⟩ := id h
  unfold lanyardref10_Print.f
  refine Ev.bind (rdate_ev h ht) ?_
  refine Ev.bindC (a := -62135596800000) rfl ?_
  simp only [sz1]
  have e : wrap64 (momOf y m d t - -62135596800000) = ((dno y m d * 86400000 + t : Nat) : Int) := by unfold momOf wrap64; omega
  rw [e]
  rw [show Int.tmod ((dno y m d * 86400000 + t : Nat) : Int) 86400000 = (t : Int) by rw [show Int.tmod ((dno y m d * 86400000 + t : Nat) : Int) 86400000 = (((dno y m d * 86400000 + t) % 86400000 : Nat) : Int) from tm _ 86400000]; omega, show Int.tmod ((dno y m d * 86400000 + t : Nat) : Int) 1000 = ((t % 1000 : Nat) : Int) by rw [show Int.tmod ((dno y m d * 86400000 + t : Nat) : Int) 1000 = (((dno y m d * 86400000 + t) % 1000 : Nat) : Int) from tm _ 1000]; omega]
  rw [show Int.tdiv (t : Int) 3600000 = ((t / 3600000 : Nat) : Int) from td t 3600000, show Int.tdiv (t : Int) 60000 = ((t / 60000 : Nat) : Int) from td t 60000, show Int.tdiv (t : Int) 1000 = ((t / 1000 : Nat) : Int) from td t 1000]
  rw [wsm _ (quo_le t 3600000 ht), wsm _ (quo_le t 60000 ht), wsm _ (quo_le t 1000 ht)]
  rw [show Int.tmod ((t / 60000 : Nat) : Int) 60 = ((t / 60000 % 60 : Nat) : Int) from tm _ 60, show Int.tmod ((t / 1000 : Nat) : Int) 60 = ((t / 1000 % 60 : Nat) : Int) from tm _ 60]
  refine Ev.bind (two_ev y 4 (by decide) (by omega)) ?_
  refine Ev.ifT (by simp [bs_size, dig_len]) ?_
  refine Ev.bind (two_ev m 2 (by decide) (by omega)) ?_
  simp only [bs_app]
  refine Ev.ifT (by simp [bs_size, dig_len]) ?_
  refine Ev.ifT (by simp [bs_size, dig_len]) ?_
  refine Ev.bind (two_ev d 2 (by decide) (by omega)) ?_
  simp only [bs_app]
  refine Ev.ifT (by simp [bs_size, dig_len]) ?_
  refine Ev.ifT (by simp [bs_size, dig_len]) ?_
  refine Ev.bind (two_ev (t / 3600000) 2 (by decide) (by omega)) ?_
  simp only [bs_app]
  refine Ev.ifT (by simp [bs_size, dig_len]) ?_
  refine Ev.ifT (by simp [bs_size, dig_len]) ?_
  refine Ev.bind (two_ev (t / 60000 % 60) 2 (by decide) (by omega)) ?_
  simp only [bs_app]
  refine Ev.ifT (by simp [bs_size, dig_len]) ?_
  refine Ev.ifT (by simp [bs_size, dig_len]) ?_
  refine Ev.bind (two_ev (t / 1000 % 60) 2 (by decide) (by omega)) ?_
  simp only [bs_app]
  refine Ev.ifT (by simp [bs_size, dig_len]) ?_
  by_cases h0 : t % 1000 = 0
  · refine Ev.ifT (by omega) ?_
    refine Ev.ifT (by simp [bs_size, dig_len]) ?_
    rw [show txt y m d t = dig 4 y ++ [45] ++ dig 2 m ++ [45] ++ dig 2 d ++ [84] ++ dig 2 (t / 3600000) ++ [58] ++ dig 2 (t / 60000 % 60) ++ [58] ++ dig 2 (t / 1000 % 60) ++ [90] by unfold txt hdr frac; rw [if_pos h0]; simp]
    exact Ev.now _
  · refine Ev.ifF (by omega) ?_
    refine Ev.ifT (by simp [bs_size, dig_len]) ?_
    refine Ev.bind (two_ev (t % 1000) 3 (by decide) (by omega)) ?_
    simp only [bs_app]
    refine Ev.ifT (by simp [bs_size, dig_len]) ?_
    refine Ev.ifT (by simp [bs_size, dig_len]) ?_
    rw [show txt y m d t = dig 4 y ++ [45] ++ dig 2 m ++ [45] ++ dig 2 d ++ [84] ++ dig 2 (t / 3600000) ++ [58] ++ dig 2 (t / 60000 % 60) ++ [58] ++ dig 2 (t / 1000 % 60) ++ [46] ++ dig 3 (t % 1000) ++ [90] by unfold txt hdr frac; rw [if_neg h0]; simp]
    exact Ev.now _
end Go.Proofs.YtcikjghmelbkaaaDoor.Esc
