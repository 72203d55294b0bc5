/- Go functions of this seat as Lean functions, and their contracts: what the Go code computes, for every input. (By hp.py, a program of this repo, over the kit's print.py.) -/
import Derived.Test.YthakidcnlkbbgaaDoorHp0
namespace Go.Proofs.YthakidcnlkbbgaaDoor.Hp
open Go.RowKit Go.Proofs.YthakidcnlkbbgaaDoorW.PrintWords Go.Proofs.YthakidcnlkbbgaaDoorW.PrintLast Go.Proofs.YthakidcnlkbbgaaDoorW.PrintMore
attribute [local go_sem] max2_int min2_int max_two min_two max_three min_three max_four min_four   -- for this text's walks alone
set_option linter.unusedVariables false
set_option linter.unusedSimpArgs false

/-! ### strings_Join: function 32 -/
/-- Where a cell can be read, the address is a plain one. -/
theorem plain_of_cell {w : World} {a : Addr} {v : Value} (h : w.cell? a = some v) : a = ⟨a.block, a.off, none⟩ := by
  obtain ⟨b, o, s⟩ := a
  cases s with
  | none => rfl
  | some s =>
    unfold World.cell? at h
    cases hb : w.heap[b]? with
    | none => simp [hb] at h
    | some x => cases x <;> simp [hb] at h
/-- A row that is read and holds something: where it lies, cell by cell. -/
theorem row_at {α : Type} {enc : α → Value} {h1 : ∀ x, (enc x).oneCell' = true} {w : World} {A : Option Addr} {n : Nat} {xs : List α} (h : Kd.C (Kd.scalar enc h1) w A n xs) (hn : 0 < n) :
    ∃ b o, A = some ⟨b, o, none⟩ ∧ b < w.heap.size ∧ ∀ (j : Nat) x, xs[j]? = some x → w.cell? ⟨b, o + j, none⟩ = some (enc x) := by
  obtain ⟨ad, rfl, hcell⟩ := h.2.2 hn
  have hg : ∀ (j : Nat) x, xs[j]? = some x → w.cell? (ad.add j) = some (enc x) := by
    intro j x hx
    obtain ⟨c, hcl, hk, hi⟩ := hcell j x hx
    obtain rfl : c = [enc x] := hk
    have := hi 0 _ rfl
    rwa [show j * (Kd.scalar enc h1).sz + 0 = j from by show j * 1 + 0 = j; omega] at this
  have h0 := hg 0 _ (List.getElem?_eq_getElem (by rw [h.1]; exact hn))
  have hp := plain_of_cell (show w.cell? ad = _ from h0)
  refine ⟨ad.block, ad.off, by rw [← hp], World.block_lt_of_cell? w _ h0, fun j x hx => ?_⟩
  have := hg j x hx
  rwa [hp, Addr.add_lit] at this
def strings_Join.f (l0 : List ByteArray) (a1 : ByteArray) : Option ByteArray := if l0.length ≤ 140737488355328 ∧ (Lib.join (l0.map (·.data.toList)) a1.data.toList).length ≤ 140737488355328 then some ⟨(Lib.join (l0.map (·.data.toList)) a1.data.toList).toArray⟩ else none
theorem strings_Join.calls (A0 : Option Addr) (c0 : Nat) (l0 : List ByteArray) (a1 : ByteArray) (r : ByteArray) (w : World) (hr0 : Kd.C Kd.string w A0 l0.length l0) (hc0 : l0.length ≤ c0) (h : strings_Join.f l0 a1 = some r) :
    Calls Tryd.prog 32 #[.slice A0 l0.length c0, .string a1] w fun e w' => e = .returned (.string r) ∧ Below w.heap.size w w' := by
  unfold strings_Join.f at h
  split at h
  · rename_i hl
    obtain rfl := Option.some.inj h
    by_cases h0 : l0 = []
    · subst h0
      exact (Tryd.strings_Join_none A0 c0 a1 w).mono fun e w' ⟨he, hw⟩ => ⟨he, hw ▸ Below.refl _ _⟩
    · obtain ⟨b, o, rfl, hb, hc⟩ := row_at hr0 (by cases l0 with | nil => exact absurd rfl h0 | cons => simp)
      exact Tryd.strings_Join b o c0 l0 a1 w hc hb hl.1 hc0 hl.2
  · exact absurd h (by simp)

/-! ### utf8_DecodeRune: function 22 -/
def decLaidRen : Go.Shelf.Ren := ⟨fun | 32 => 22 | 49 => 34 | n => n, fun | 5 => 5 | 21 => 21 | 25 => 64 | 30 => 22 | 33 => 35 | 66 => 63 | 68 => 66 | 69 => 67 | n => n, fun | 2 => 0 | 3 => 1 | n => n⟩
theorem decLaid : Go.Proofs.Lays7.n32 Tryd.prog decLaidRen := {
  mixed := by kernel_rfl
  f32 := Tryd.func22.trans (congrArg some (by kernel_rfl))
  f49 := Tryd.func34.trans (congrArg some (by kernel_rfl))
  t0 := Tryd.underlying0
  a0 := Tryd.isAgg0
  z0 := Tryd.sizeOf0
  v0 := Tryd.zeroValue0
  i0 := by kernel_rfl
  t3 := Tryd.underlying3
  a3 := Tryd.isAgg3
  z3 := Tryd.sizeOf3
  v3 := Tryd.zeroValue3
  i3 := by kernel_rfl
  t4 := Tryd.underlying4
  a4 := Tryd.isAgg4
  z4 := Tryd.sizeOf4
  v4 := Tryd.zeroValue4
  i4 := by kernel_rfl
  t5 := Tryd.underlying5
  a5 := Tryd.isAgg5
  z5 := Tryd.sizeOf5
  v5 := Tryd.zeroValue5
  i5 := by kernel_rfl
  t21 := Tryd.underlying21
  a21 := Tryd.isAgg21
  z21 := Tryd.sizeOf21
  v21 := Tryd.zeroValue21
  i21 := by kernel_rfl
  t25 := Tryd.underlying64
  a25 := Tryd.isAgg64
  z25 := Tryd.sizeOf64
  v25 := Tryd.zeroValue64
  i25 := by kernel_rfl
  t30 := Tryd.underlying22
  a30 := Tryd.isAgg22
  z30 := Tryd.sizeOf22
  v30 := Tryd.zeroValue22
  i30 := by kernel_rfl
  t33 := Tryd.underlying35
  a33 := Tryd.isAgg35
  z33 := Tryd.sizeOf35
  v33 := Tryd.zeroValue35
  i33 := by kernel_rfl
  t66 := Tryd.underlying63
  a66 := Tryd.isAgg63
  z66 := Tryd.sizeOf63
  t68 := Tryd.underlying66
  a68 := Tryd.isAgg66
  z68 := Tryd.sizeOf66
  v68 := Tryd.zeroValue66
  i68 := by kernel_rfl
  t69 := Tryd.underlying67
  a69 := Tryd.isAgg67
  z69 := Tryd.sizeOf67
  v69 := Tryd.zeroValue67
  i69 := by kernel_rfl
  g2 := by kernel_rfl
  g3 := by kernel_rfl }
def isBytes (l : List Int) : Bool := l.all fun n => decide (0 ≤ n) && decide (n < 256)
def utf8_DecodeRune.f (l0 : List Int) : Option (Int × Int) := if 0 < l0.length ∧ isBytes l0 = true then some (((Lib.decodeGo (strOfNums l0)).1 : Int), ((Lib.decodeGo (strOfNums l0)).2 : Int)) else none
theorem utf8_DecodeRune.calls (A0 : Option Addr) (c0 : Nat) (l0 : List Int) (r1 r2 : Int) (w : World) (hr0 : Kd.C (Kd.int .u8) w A0 l0.length l0) (hc0 : l0.length ≤ c0) (hU : Uni w) (h : utf8_DecodeRune.f l0 = some (r1, r2)) :
    Calls Tryd.prog 22 #[.slice A0 l0.length c0] w fun e w' => e = .returned (.tuple #[.int .i32 r1, .int .i64 r2]) ∧ Below w.heap.size w w' := by
  unfold utf8_DecodeRune.f at h
  split at h
  · rename_i hl
    have h := Option.some.inj h
    simp only [Prod.mk.injEq] at h
    obtain ⟨rfl, rfl⟩ := h
    obtain ⟨b, o, rfl, hb, hc⟩ := row_at hr0 hl.1
    have hz : (strOfNums l0).size = l0.length := by simp [strOfNums, ByteArray.size]
    have := Any7.utf8_DecodeRune decLaid (strOfNums l0) b o c0 w hU.tabs (fun j hj => by
      rw [hz] at hj
      have hx : l0[j]? = some l0[j] := List.getElem?_eq_getElem hj
      rw [hc j _ hx]
      have hm := List.all_eq_true.1 hl.2 _ (List.getElem_mem hj)
      simp only [Bool.and_eq_true, decide_eq_true_eq] at hm
      congr 2
      have : (strOfNums l0).get! j = UInt8.ofNat l0[j].toNat := by simp [strOfNums, ByteArray.get!, hj]
      rw [this, UInt8.toNat_ofNat', Nat.mod_eq_of_lt (by omega)]
      omega)
    rw [hz] at this
    exact this
  · exact absurd h (by simp)

/-! ### chars_inside: function 35 -/
def insideLaidRen : Go.Shelf.Ren := ⟨fun | 6 => 52 | 8 => 44 | n => n, fun | 22 => 49 | 23 => 48 | 25 => 69 | n => n, fun  | n => n⟩
theorem insideLaid : Go.Proofs.SlLaysH0.n8 Tryd.prog insideLaidRen := {
  mixed := by kernel_rfl
  f6 := ⟨Tryd.f52.name, by decide, Tryd.func52.trans (congrArg some (by kernel_rfl))⟩
  f8 := ⟨Tryd.f44.name, by decide, Tryd.func44.trans (congrArg some (by kernel_rfl))⟩
  t0 := Tryd.underlying0
  a0 := Tryd.isAgg0
  z0 := Tryd.sizeOf0
  v0 := Tryd.zeroValue0
  t3 := Tryd.underlying3
  a3 := Tryd.isAgg3
  z3 := Tryd.sizeOf3
  v3 := Tryd.zeroValue3
  t4 := Tryd.underlying4
  a4 := Tryd.isAgg4
  z4 := Tryd.sizeOf4
  v4 := Tryd.zeroValue4
  t22 := Tryd.underlying49
  a22 := Tryd.isAgg49
  z22 := Tryd.sizeOf49
  v22 := Tryd.zeroValue49
  t25 := Tryd.underlying69
  a25 := Tryd.isAgg69
  z25 := Tryd.sizeOf69
  v25 := Tryd.zeroValue69 }
instance : Inhabited S48 := ⟨⟨0, 0⟩⟩
def encSpan (x : S48) : List Value := [.int .i32 x.f0, .int .i32 x.f1]
def inSpan (r : Int) (x : S48) : Bool := decide (r ≥ x.f0) && decide (r ≤ x.f1)
def chars_inside.f (a0 : Int) (l1 : List S48) : Option Bool := if 0 < l1.length then some (l1.any (inSpan a0)) else none
theorem inside_pred (r : Int) (B : Nat) (w : World) (hB : B < w.heap.size) (hcell : w.cell? ⟨B, 0, none⟩ = some (.int .i32 r)) :
    PredBelow Tryd.prog 45 #[.pointer (some ⟨B, 0, none⟩)] (fun x => .agg (encSpan x).toArray) (inSpan r) w := fun W x hb => by
  have hc : W.cell? ⟨B, 0, none⟩ = some (.int .i32 r) := (hb.cell (p := ⟨B, 0, none⟩) hB).trans hcell
  have hBW : B < W.heap.size := Nat.lt_of_lt_of_le hB hb.size
  have hne : B ≠ W.heap.size := by omega
  show Calls Tryd.prog 45 #[.agg #[.int .i32 x.f0, .int .i32 x.f1], .pointer (some ⟨B, 0, none⟩)] W _
  unfold inSpan
  go_enter Tryd.func45, Tryd.ntmps45
  go_wp2
  all_goals (go_ret; exact ⟨by simp_all <;> omega, hb.alloc hb.size _⟩)
theorem chars_inside.calls (a0 : Int) (A1 : Option Addr) (c1 : Nat) (l1 : List S48) (r : Bool) (w : World) (hr1 : Kd.C k48 w A1 l1.length l1) (hc1 : l1.length ≤ c1) (h : chars_inside.f a0 l1 = some r) :
    Calls Tryd.prog 35 #[.int .i32 a0, .slice A1 l1.length c1] w fun e w' => e = .returned (.bool r) ∧ Below w.heap.size w w' := by
  unfold chars_inside.f at h
  split at h
  · rename_i hl
    obtain rfl := Option.some.inj h
    obtain ⟨hle, hn, hx⟩ := hr1
    obtain ⟨ad, rfl, hcell⟩ := hx hl
    have hg : ∀ (j : Nat) x, l1[j]? = some x → ∀ i v, (encSpan x)[i]? = some v → w.cell? (ad.add (j * 2 + i)) = some v := by
      intro j x hx i v hv
      obtain ⟨c, hcl, hk, hi⟩ := hcell j x hx
      obtain ⟨d0, d1, rfl, h0, h1⟩ := hk
      obtain rfl : d0 = [.int .i32 x.f0] := h0
      obtain rfl : d1 = [.int .i32 x.f1] := h1
      exact hi i v hv
    have h00 := hg 0 _ (List.getElem?_eq_getElem hl) 0 _ rfl
    have hp := plain_of_cell (show w.cell? ad = _ from h00)
    have hblk : ad.block < w.heap.size := World.block_lt_of_cell? w _ (show w.cell? ad = _ from h00)
    obtain ⟨b, o, s⟩ := ad
    obtain rfl : s = none := by injection hp
    have hblk : b < w.heap.size := hblk
    have eg : ∀ args w, (callFunc 45 args).run Tryd.prog w = .ok (.enter 45 args) w := enters_of Tryd.func45 (by kernel_rfl) rfl
    have hcon := AnyQ.slices_ContainsFunc insideLaid 2 Tryd.isAgg48 Tryd.sizeOf48 encSpan (fun _ => rfl) (inSpan a0) 45 #[.pointer (some ⟨w.heap.size, 0, none⟩)] eg b o l1.length c1 l1 (w.alloc (.cells #[.int .i32 a0] 21))
      (inside_pred a0 w.heap.size _ (by simp) (by simp)) (Nat.le_refl _) hn (by simp; omega) (fun j hj i v hi => by
        refine Lib.cell?_alloc_some _ ?_
        have := hg j l1[j]! (by simp [hj]) i v hi
        rw [Addr.add_lit] at this
        rw [Nat.add_assoc]; exact this)
    change Calls Tryd.prog 44 _ _ _ at hcon
    rw [List.take_length] at hcon
    clear hg hcell hx h00
    generalize l1.any (inSpan a0) = r at hcon ⊢
    go_enter Tryd.func35, Tryd.ntmps35
    go_wp2_with (go_at_call 44; refine hcon.mono ?_; rintro e w' ⟨rfl, hb'⟩)
    go_ret
    exact ⟨rfl, ((Below.refl _ w).alloc (Nat.le_refl _) _).trans (hb'.mono (by simp))⟩
  · exact absurd h (by simp)

/-! ### chars_char: function 23 -/
def chars_char.f (a0 : Int) : Option (Bool) := (chars_inside.f a0 (([(⟨9, 10⟩ : S48), (⟨13, 13⟩ : S48), (⟨32, 55295⟩ : S48), (⟨57344, 65533⟩ : S48), (⟨65536, 1114111⟩ : S48)] : List (S48)))).bind fun t104 => (some t104)
set_option maxHeartbeats 8000000 in
set_option maxRecDepth 100000 in
theorem chars_char.calls (a0 : Int) (r : Bool) (w : World) (h : chars_char.f a0 = some r) :
  Calls Tryd.prog 23 #[.int .i32 a0] w fun e w' => e = .returned (.bool r) ∧ Below w.heap.size w w' := by
 have hu48 := Tryd.underlying48
 have HB := Aside0.mk (Below.refl w.heap.size w)
 have H : ((chars_inside.f a0 (([(⟨9, 10⟩ : S48), (⟨13, 13⟩ : S48), (⟨32, 55295⟩ : S48), (⟨57344, 65533⟩ : S48), (⟨65536, 1114111⟩ : S48)] : List (S48)))).bind fun t104 => (some t104)) = some r := h
 clear h
 obtain ⟨y101, hy101⟩ : ∃ y_ : List (S48), y_ = (([(⟨9, 10⟩ : S48), (⟨13, 13⟩ : S48), (⟨32, 55295⟩ : S48), (⟨57344, 65533⟩ : S48), (⟨65536, 1114111⟩ : S48)] : List (S48))) := ⟨_, rfl⟩
 replace H : ((chars_inside.f a0 y101).bind fun t104 => (some t104)) = some r := by first | (rw [hy101]; with_reducible exact H) | (have H2_ := (Option.bind_some _ _).symm.trans H; rw [hy101]; with_reducible exact H2_) | (have H2_ := (Option.bind_some _ _).symm.trans H; with_reducible exact H2_) | with_reducible exact H | (rw [hy101]; exact H) | exact H
 have Ny101 := Aside0.mk hy101
 clear hy101
 replace H := Option.bind_eq_some_iff.mp H
 obtain ⟨t104, A20, H⟩ := H
 replace H : (some t104) = some r := H
 have A2 := Aside0.mk A20
 clear A20
 obtain rfl := Option.some.inj H
 go_enter Tryd.func23, Tryd.ntmps23
 go_wp2_with (first | ((with_reducible refine gate_dst (N := 9) rfl ?_); refine Kd.R_lit k48 _ 48 ?hg (N := 9) ?hd (xs := ([(⟨9, 10⟩ : S48), (⟨13, 13⟩ : S48), (⟨32, 55295⟩ : S48), (⟨57344, 65533⟩ : S48), (⟨65536, 1114111⟩ : S48)] : List (S48))) (inner := [.int .i32 9, .int .i32 10, .int .i32 13, .int .i32 13, .int .i32 32, .int .i32 55295, .int .i32 57344, .int .i32 65533, .int .i32 65536, .int .i32 1114111]) (ok := fun _ => True) (okp := fun _ => True) ?hr ?hp (fun _ hk => hk) trivial (Below.refl _ _) (Nat.le_refl _) (by simp) ?_; (case hd => rfl); (case hg => rfl); (case hr => first | (go_simp; done) | (go_simp; rfl)); (case hp => exact (Reps.c2 (show Kd.M k48 _ _ _ (⟨9, 10⟩ : S48) [.int .i32 9, .int .i32 10] from (k48_mkM _ _ _ (⟨9, 10⟩ : S48) )) (Reps.c2 (show Kd.M k48 _ _ _ (⟨13, 13⟩ : S48) [.int .i32 13, .int .i32 13] from (k48_mkM _ _ _ (⟨13, 13⟩ : S48) )) (Reps.c2 (show Kd.M k48 _ _ _ (⟨32, 55295⟩ : S48) [.int .i32 32, .int .i32 55295] from (k48_mkM _ _ _ (⟨32, 55295⟩ : S48) )) (Reps.c2 (show Kd.M k48 _ _ _ (⟨57344, 65533⟩ : S48) [.int .i32 57344, .int .i32 65533] from (k48_mkM _ _ _ (⟨57344, 65533⟩ : S48) )) (Reps.c2 (show Kd.M k48 _ _ _ (⟨65536, 1114111⟩ : S48) [.int .i32 65536, .int .i32 1114111] from (k48_mkM _ _ _ (⟨65536, 1114111⟩ : S48) )) (Reps.none _ _))))))); intro v102 w3 ho4 hb hg_ hnew_; clear hg_ hnew_; (first | rw [← Ny101.out] at ho4 | (simp only [Int.reduceToNat] at ho4; rw [← Ny101.out] at ho4)); have n0_ := Aside0.mk (Kd.R_lower ho4 (Bz HB)); have n1_ := Bs HB hb; clear HB; revert n0_ n1_; intro HO103 HB; clear hb ho4; obtain ⟨Ao5, co5, eo5⟩ := Kd.R_slice HO103.out; subst eo5) | ((with_reducible refine gate_callee (f := 35) rfl ?_); refine goesA (some 10) Tryd.func35 #[.int .i32 a0, .slice Ao5 y101.length co5] rfl ?_; (with_reducible refine (chars_inside.calls a0 _ _ y101 t104 _ ?side1 ?side2 A2.out).mono ?_); (case side1 => exact Cu (Kd.R_reads' HO103.out).2.2); (case side2 => exact (Kd.R_reads' HO103.out).2.1); rintro e w6 ⟨rfl, hb⟩; refine ⟨_, rfl, ?_⟩; have n0_ := Rb HO103 hb; have n1_ := Bs HB hb; clear HO103 HB; revert n0_ n1_; intro HO103 HB; (try clear hb); (try clear hb2); (try clear hk); (try clear hi)))
 go_ret
 exact ⟨rfl_, Bu HB⟩

/-! ### chars_Bad: function 9 -/
def chars_Bad.l0 : Nat → List Int → Int → Option (Int)
 | 0, _, _ => none
 | k + 1, x0, x3 => if x3 < (x0.length : Int) then (if 0 ≤ x3 then (if x3 ≤ (x0.length : Int) then ((utf8_DecodeRune.f (x0.drop (x3 : Int).toNat)).bind fun bt106 => (if bt106.1 = 65533 then (if bt106.2 < 3 then (some x3) else ((chars_char.f bt106.1).bind fun t108 => (if t108 = true then (chars_Bad.l0 k x0 (wrap64 (x3 + bt106.2))) else (some x3)))) else ((chars_char.f bt106.1).bind fun t109 => (if t109 = true then (chars_Bad.l0 k x0 (wrap64 (x3 + bt106.2))) else (some x3))))) else (none)) else (none)) else (some (-1))
def chars_Bad.f (k : Nat) (l0 : List Int) : Option (Int) := chars_Bad.l0 k l0 0
theorem chars_Bad.mono_l : ∀ k, (∀ y0 y1, LeO (chars_Bad.l0 k y0 y1) (chars_Bad.l0 (k + 1) y0 y1))
 | 0 => fun _ _ r h => by simp [chars_Bad.l0] at h
 | k + 1 => by
  have ih0 := chars_Bad.mono_l k
  ·intro y0 y1
   unfold chars_Bad.l0
   repeat' first
   | (with_reducible exact ih0 _ _)
   | (with_reducible exact LeO.refl _)
   | (with_reducible exact LeO.none _)
   | (with_reducible refine LeO.ite ?_ ?_)
   | (with_reducible refine LeO.bind ?_ (fun _ => ?_))
   | exact ih0 _ _
   | exact LeO.none _
   | refine LeO.ite ?_ ?_
   | refine LeO.bind ?_ (fun _ => ?_)
theorem chars_Bad.mono : ∀ a0 k, LeO (chars_Bad.f k a0) (chars_Bad.f (k + 1) a0) := by
 intro a0 k
 have ih0 := chars_Bad.mono_l k
 unfold chars_Bad.f
 repeat' first
   | (with_reducible exact ih0 _ _)
   | (with_reducible exact LeO.refl _)
   | (with_reducible exact LeO.none _)
   | (with_reducible refine LeO.ite ?_ ?_)
   | (with_reducible refine LeO.bind ?_ (fun _ => ?_))
   | exact ih0 _ _
   | exact LeO.none _
   | refine LeO.ite ?_ ?_
   | refine LeO.bind ?_ (fun _ => ?_)
set_option maxHeartbeats 8000000 in
set_option maxRecDepth 100000 in
theorem chars_Bad.calls (k : Nat) (A0 : Option Addr) (c0 : Nat) (l0 : List Int) (r : Int) (w : World) (hr0 : Kd.C (Kd.int .u8) w A0 l0.length l0) (hc0 : l0.length ≤ c0) (hU : Uni w) (h : chars_Bad.f k l0 = some r) :
  Calls Tryd.prog 9 #[.slice A0 l0.length c0] w fun e w' => e = .returned (.int .i64 r) ∧ Below w.heap.size w w' := by
 have HU := Aside0.mk hU
 clear hU
 have HR0 := Aside0.mk hr0
 have HC0 := Aside0.mk hc0
 clear hr0 hc0
 have HB := Aside0.mk (Below.refl w.heap.size w)
 have H : (chars_Bad.l0 k l0 0) = some r := h
 clear h
 have H' := Aside0.mk H
 clear H
 go_enter Tryd.func9, Tryd.ntmps9
 go_wp2
 go_loopg [3] k (fun kq v3 w' => ∃ (x3_1 : Int), v3 = .int .i64 x3_1 ∧ Aside0 (chars_Bad.l0 kq l0 x3_1 = some r) ∧ Aside0 (kq ≤ k) ∧ Aside0 (Below w.heap.size w w'))
 case atStart => exact ⟨(0), (by first | rfl | (simp; done) | (simp [*]; done)), H', ⟨Nat.le_refl _⟩, ⟨Bu HB⟩⟩
 case round =>
  clear H'
  obtain ⟨x3_1, rfl, HA, HK1, HB⟩ := hrel
  cases gk with
  | zero => exact absurd HA.out (by simp [chars_Bad.l0])
  | succ k1 =>
   have H := HA.out
   clear HA
   simp only [chars_Bad.l0] at H
   by_cases c2 : x3_1 < (l0.length : Int)
   ·rw [if_pos c2] at H
    have c2b0 : decide (x3_1 < (l0.length : Int)) = true := decide_eq_true c2
    clear c2
    by_cases c3 : 0 ≤ x3_1
    ·rw [if_pos c3] at H
     have c3b0 := eq_true c3
     have c3b1 : decide (0 ≤ x3_1) = true := decide_eq_true c3
     clear c3
     by_cases c4 : x3_1 ≤ (l0.length : Int)
     ·rw [if_pos c4] at H
      have c4b0 := eq_true c4
      have c4b1 : decide (x3_1 ≤ (l0.length : Int)) = true := decide_eq_true c4
      clear c4
      replace H := Option.bind_eq_some_iff.mp H
      obtain ⟨⟨t106, t107⟩, A50, H⟩ := H
      replace H : (if t106 = 65533 then (if t107 < 3 then (some x3_1) else ((chars_char.f t106).bind fun t108 => (if t108 = true then (chars_Bad.l0 k1 l0 (wrap64 (x3_1 + t107))) else (some x3_1)))) else ((chars_char.f t106).bind fun t109 => (if t109 = true then (chars_Bad.l0 k1 l0 (wrap64 (x3_1 + t107))) else (some x3_1)))) = some r := H
      have A5 := Aside0.mk A50
      clear A50
      by_cases c6 : t106 = 65533
      ·rw [if_pos c6] at H
       have c6b0 : (t106 == 65533) = true := beq_iff_eq.mpr c6
       have c6b1 : (t106 != 65533) = false := bne_eq_false_iff_eq.mpr c6
       clear c6
       by_cases c7 : t107 < 3
       ·rw [if_pos c7] at H
        have c7b0 : decide (t107 < 3) = true := decide_eq_true c7
        clear c7
        obtain rfl := Option.some.inj H
        obtain ⟨i08, hi08, _, hsz8, _⟩ := info_parts info5
        obtain ⟨A8, hcut8, hA8, hC8⟩ := print_drop_of (P := Tryd.prog) (Value.int .u8) 0 22 5 .i64 Tryd.underlying22 hi08 hsz8 A0 c0 l0 x3_1 (of_decide_eq_true (by first | (with_reducible assumption) | assumption)) (of_decide_eq_true (by first | (with_reducible assumption) | assumption)) HC0.out
        have HR105 := Aside0.mk (Kd.C_of_reads (h1 := fun _ => rfl) (hA8 _ (Kd.reads_of_C HR0.out)))
        have HC105 := Aside0.mk hC8
        clear hA8 hC8 hi08 hsz8
        go_wp2_with (first | ((with_reducible refine gate_callee (f := 22) rfl ?_); refine goesL_ (some 14) rfl rfl Tryd.func22 (by kernel_rfl) rfl #[.slice A8 (l0.drop (x3_1 : Int).toNat).length (c0 - x3_1.toNat)] rfl (by (try simp only [List.map_toArray, List.map_cons, List.map_nil]); first | done | (rw [show (l0.drop (x3_1 : Int).toNat).length = (l0.length - x3_1.toNat) from List.length_drop] <;> rfl) | rfl | (simp only [List.length_drop, List.length_take]; rfl)) ?_; (with_reducible refine (utf8_DecodeRune.calls _ _ (l0.drop (x3_1 : Int).toNat) t106 t107 _ ?side1 ?side2 ?sideU A5.out).mono ?_); (case sideU => first | exact HU.out | exact Uni.up HU (Bu HB) | exact Uni.below HU.out (by assumption)); (case side1 => exact Cu (Kd.C_below HR105.out HB.out)); (case side2 => exact HC105.out); rintro e w9 ⟨rfl, hb⟩; refine ⟨_, rfl, ?_⟩; have n0_ := Bs HB hb; clear HB; revert n0_; intro HB; (try clear hb); (try clear hb2); (try clear hk); (try clear hi)))
        go_ret
        exact ⟨rfl_, Bu HB⟩
       ·rw [if_neg c7] at H
        have c7b0 : decide (t107 < 3) = false := decide_eq_false c7
        clear c7
        replace H := Option.bind_eq_some_iff.mp H
        obtain ⟨t108, A100, H⟩ := H
        replace H : (if t108 = true then (chars_Bad.l0 k1 l0 (wrap64 (x3_1 + t107))) else (some x3_1)) = some r := H
        have A10 := Aside0.mk A100
        clear A100
        by_cases c11 : t108 = true
        ·subst c11
         have H1 : (chars_Bad.l0 k1 l0 (wrap64 (x3_1 + t107))) = some r := by rw [if_pos rfl] at H; exact H
         clear H
         have H := H1
         clear H1
         have H' := Aside0.mk H
         clear H
         obtain ⟨i012, hi012, _, hsz12, _⟩ := info_parts info5
         obtain ⟨A12, hcut12, hA12, hC12⟩ := print_drop_of (P := Tryd.prog) (Value.int .u8) 0 22 5 .i64 Tryd.underlying22 hi012 hsz12 A0 c0 l0 x3_1 (of_decide_eq_true (by first | (with_reducible assumption) | assumption)) (of_decide_eq_true (by first | (with_reducible assumption) | assumption)) HC0.out
         have HR105 := Aside0.mk (Kd.C_of_reads (h1 := fun _ => rfl) (hA12 _ (Kd.reads_of_C HR0.out)))
         have HC105 := Aside0.mk hC12
         clear hA12 hC12 hi012 hsz12
         go_wp2_with (first | ((with_reducible refine gate_callee (f := 22) rfl ?_); refine goesL_ (some 14) rfl rfl Tryd.func22 (by kernel_rfl) rfl #[.slice A12 (l0.drop (x3_1 : Int).toNat).length (c0 - x3_1.toNat)] rfl (by (try simp only [List.map_toArray, List.map_cons, List.map_nil]); first | done | (rw [show (l0.drop (x3_1 : Int).toNat).length = (l0.length - x3_1.toNat) from List.length_drop] <;> rfl) | rfl | (simp only [List.length_drop, List.length_take]; rfl)) ?_; (with_reducible refine (utf8_DecodeRune.calls _ _ (l0.drop (x3_1 : Int).toNat) t106 t107 _ ?side1 ?side2 ?sideU A5.out).mono ?_); (case sideU => first | exact HU.out | exact Uni.up HU (Bu HB) | exact Uni.below HU.out (by assumption)); (case side1 => exact Cu (Kd.C_below HR105.out HB.out)); (case side2 => exact HC105.out); rintro e w13 ⟨rfl, hb⟩; refine ⟨_, rfl, ?_⟩; have n0_ := Bs HB hb; clear HB; revert n0_; intro HB; (try clear hb); (try clear hb2); (try clear hk); (try clear hi)) | (go_at_call 23; (with_reducible refine (chars_char.calls t106 true _ A10.out).mono ?_); rintro e w14 ⟨rfl, hb⟩; have n0_ := Bs HB hb; clear HB; revert n0_; intro HB; (try clear hb); (try clear hb2); (try clear hk); (try clear hi)))
         go_roundg k1
         case measure => have := HK1.out; omega
         case rel => exact ⟨(wrap64 (x3_1 + t107)), (by first | rfl | (simp; done) | (simp [*]; done)), H', ⟨by have := HK1.out; omega⟩, ⟨Bu HB⟩⟩
        ·replace c11 := Bool.eq_false_iff.mpr c11
         subst c11
         have H1 : (some x3_1) = some r := by rw [if_neg (show ¬ (false = true) by decide)] at H; exact H
         clear H
         have H := H1
         clear H1
         obtain rfl := Option.some.inj H
         obtain ⟨i015, hi015, _, hsz15, _⟩ := info_parts info5
         obtain ⟨A15, hcut15, hA15, hC15⟩ := print_drop_of (P := Tryd.prog) (Value.int .u8) 0 22 5 .i64 Tryd.underlying22 hi015 hsz15 A0 c0 l0 x3_1 (of_decide_eq_true (by first | (with_reducible assumption) | assumption)) (of_decide_eq_true (by first | (with_reducible assumption) | assumption)) HC0.out
         have HR105 := Aside0.mk (Kd.C_of_reads (h1 := fun _ => rfl) (hA15 _ (Kd.reads_of_C HR0.out)))
         have HC105 := Aside0.mk hC15
         clear hA15 hC15 hi015 hsz15
         go_wp2_with (first | ((with_reducible refine gate_callee (f := 22) rfl ?_); refine goesL_ (some 14) rfl rfl Tryd.func22 (by kernel_rfl) rfl #[.slice A15 (l0.drop (x3_1 : Int).toNat).length (c0 - x3_1.toNat)] rfl (by (try simp only [List.map_toArray, List.map_cons, List.map_nil]); first | done | (rw [show (l0.drop (x3_1 : Int).toNat).length = (l0.length - x3_1.toNat) from List.length_drop] <;> rfl) | rfl | (simp only [List.length_drop, List.length_take]; rfl)) ?_; (with_reducible refine (utf8_DecodeRune.calls _ _ (l0.drop (x3_1 : Int).toNat) t106 t107 _ ?side1 ?side2 ?sideU A5.out).mono ?_); (case sideU => first | exact HU.out | exact Uni.up HU (Bu HB) | exact Uni.below HU.out (by assumption)); (case side1 => exact Cu (Kd.C_below HR105.out HB.out)); (case side2 => exact HC105.out); rintro e w16 ⟨rfl, hb⟩; refine ⟨_, rfl, ?_⟩; have n0_ := Bs HB hb; clear HB; revert n0_; intro HB; (try clear hb); (try clear hb2); (try clear hk); (try clear hi)) | (go_at_call 23; (with_reducible refine (chars_char.calls t106 false _ A10.out).mono ?_); rintro e w17 ⟨rfl, hb⟩; have n0_ := Bs HB hb; clear HB; revert n0_; intro HB; (try clear hb); (try clear hb2); (try clear hk); (try clear hi)))
         go_ret
         exact ⟨rfl_, Bu HB⟩
      ·rw [if_neg c6] at H
       have c6b0 : (t106 == 65533) = false := beq_eq_false_iff_ne.mpr c6
       have c6b1 : (t106 != 65533) = true := bne_iff_ne.mpr c6
       replace H := Option.bind_eq_some_iff.mp H
       obtain ⟨t109, A180, H⟩ := H
       replace H : (if t109 = true then (chars_Bad.l0 k1 l0 (wrap64 (x3_1 + t107))) else (some x3_1)) = some r := H
       have A18 := Aside0.mk A180
       clear A180
       by_cases c19 : t109 = true
       ·subst c19
        have H1 : (chars_Bad.l0 k1 l0 (wrap64 (x3_1 + t107))) = some r := by rw [if_pos rfl] at H; exact H
        clear H
        have H := H1
        clear H1
        have H' := Aside0.mk H
        clear H
        obtain ⟨i020, hi020, _, hsz20, _⟩ := info_parts info5
        obtain ⟨A20, hcut20, hA20, hC20⟩ := print_drop_of (P := Tryd.prog) (Value.int .u8) 0 22 5 .i64 Tryd.underlying22 hi020 hsz20 A0 c0 l0 x3_1 (of_decide_eq_true (by first | (with_reducible assumption) | assumption)) (of_decide_eq_true (by first | (with_reducible assumption) | assumption)) HC0.out
        have HR105 := Aside0.mk (Kd.C_of_reads (h1 := fun _ => rfl) (hA20 _ (Kd.reads_of_C HR0.out)))
        have HC105 := Aside0.mk hC20
        clear hA20 hC20 hi020 hsz20
        go_wp2_with (first | ((with_reducible refine gate_callee (f := 22) rfl ?_); refine goesL_ (some 14) rfl rfl Tryd.func22 (by kernel_rfl) rfl #[.slice A20 (l0.drop (x3_1 : Int).toNat).length (c0 - x3_1.toNat)] rfl (by (try simp only [List.map_toArray, List.map_cons, List.map_nil]); first | done | (rw [show (l0.drop (x3_1 : Int).toNat).length = (l0.length - x3_1.toNat) from List.length_drop] <;> rfl) | rfl | (simp only [List.length_drop, List.length_take]; rfl)) ?_; (with_reducible refine (utf8_DecodeRune.calls _ _ (l0.drop (x3_1 : Int).toNat) t106 t107 _ ?side1 ?side2 ?sideU A5.out).mono ?_); (case sideU => first | exact HU.out | exact Uni.up HU (Bu HB) | exact Uni.below HU.out (by assumption)); (case side1 => exact Cu (Kd.C_below HR105.out HB.out)); (case side2 => exact HC105.out); rintro e w21 ⟨rfl, hb⟩; refine ⟨_, rfl, ?_⟩; have n0_ := Bs HB hb; clear HB; revert n0_; intro HB; (try clear hb); (try clear hb2); (try clear hk); (try clear hi)) | (go_at_call 23; (with_reducible refine (chars_char.calls t106 true _ A18.out).mono ?_); rintro e w22 ⟨rfl, hb⟩; have n0_ := Bs HB hb; clear HB; revert n0_; intro HB; (try clear hb); (try clear hb2); (try clear hk); (try clear hi)))
        go_roundg k1
        case measure => have := HK1.out; omega
        case rel => exact ⟨(wrap64 (x3_1 + t107)), (by first | rfl | (simp; done) | (simp [*]; done)), H', ⟨by have := HK1.out; omega⟩, ⟨Bu HB⟩⟩
       ·replace c19 := Bool.eq_false_iff.mpr c19
        subst c19
        have H1 : (some x3_1) = some r := by rw [if_neg (show ¬ (false = true) by decide)] at H; exact H
        clear H
        have H := H1
        clear H1
        obtain rfl := Option.some.inj H
        obtain ⟨i023, hi023, _, hsz23, _⟩ := info_parts info5
        obtain ⟨A23, hcut23, hA23, hC23⟩ := print_drop_of (P := Tryd.prog) (Value.int .u8) 0 22 5 .i64 Tryd.underlying22 hi023 hsz23 A0 c0 l0 x3_1 (of_decide_eq_true (by first | (with_reducible assumption) | assumption)) (of_decide_eq_true (by first | (with_reducible assumption) | assumption)) HC0.out
        have HR105 := Aside0.mk (Kd.C_of_reads (h1 := fun _ => rfl) (hA23 _ (Kd.reads_of_C HR0.out)))
        have HC105 := Aside0.mk hC23
        clear hA23 hC23 hi023 hsz23
        go_wp2_with (first | ((with_reducible refine gate_callee (f := 22) rfl ?_); refine goesL_ (some 14) rfl rfl Tryd.func22 (by kernel_rfl) rfl #[.slice A23 (l0.drop (x3_1 : Int).toNat).length (c0 - x3_1.toNat)] rfl (by (try simp only [List.map_toArray, List.map_cons, List.map_nil]); first | done | (rw [show (l0.drop (x3_1 : Int).toNat).length = (l0.length - x3_1.toNat) from List.length_drop] <;> rfl) | rfl | (simp only [List.length_drop, List.length_take]; rfl)) ?_; (with_reducible refine (utf8_DecodeRune.calls _ _ (l0.drop (x3_1 : Int).toNat) t106 t107 _ ?side1 ?side2 ?sideU A5.out).mono ?_); (case sideU => first | exact HU.out | exact Uni.up HU (Bu HB) | exact Uni.below HU.out (by assumption)); (case side1 => exact Cu (Kd.C_below HR105.out HB.out)); (case side2 => exact HC105.out); rintro e w24 ⟨rfl, hb⟩; refine ⟨_, rfl, ?_⟩; have n0_ := Bs HB hb; clear HB; revert n0_; intro HB; (try clear hb); (try clear hb2); (try clear hk); (try clear hi)) | (go_at_call 23; (with_reducible refine (chars_char.calls t106 false _ A18.out).mono ?_); rintro e w25 ⟨rfl, hb⟩; have n0_ := Bs HB hb; clear HB; revert n0_; intro HB; (try clear hb); (try clear hb2); (try clear hk); (try clear hi)))
        go_ret
        exact ⟨rfl_, Bu HB⟩
     ·rw [if_neg c4] at H
      exact absurd H (by simp)
    ·rw [if_neg c3] at H
     exact absurd H (by simp)
   ·rw [if_neg c2] at H
    have c2b0 : decide (x3_1 < (l0.length : Int)) = false := decide_eq_false c2
    clear c2
    obtain rfl := Option.some.inj H
    go_wp2
    go_ret
    exact ⟨rfl_, Bu HB⟩

/-! ### chars_blank: function 30 -/
def chars_blank.f (a0 : Int) : Option (Bool) := if a0 = 32 then (some true) else (if a0 = 9 then (some true) else (if a0 = 10 then (some true) else (some (a0 == 13))))
set_option maxHeartbeats 8000000 in
set_option maxRecDepth 100000 in
theorem chars_blank.calls (a0 : Int) (r : Bool) (w : World) (h : chars_blank.f a0 = some r) :
  Calls Tryd.prog 30 #[.int .u8 a0] w fun e w' => e = .returned (.bool r) ∧ Drawn0 w w' := by
 have H : (if a0 = 32 then (some true) else (if a0 = 9 then (some true) else (if a0 = 10 then (some true) else (some (a0 == 13))))) = some r := h
 clear h
 refine (Classical.em (a0 = 32)).elim (fun c2 => ?a1_) (fun c2 => ?b1_)
 case' a1_ =>
  rw [if_pos c2] at H
  have c2b0 : (a0 == 32) = true := beq_iff_eq.mpr c2
  have c2b1 : (a0 != 32) = false := bne_eq_false_iff_eq.mpr c2
  clear c2
  obtain rfl := Option.some.inj H
 case' b1_ =>
  rw [if_neg c2] at H
  have c2b0 : (a0 == 32) = false := beq_eq_false_iff_ne.mpr c2
  have c2b1 : (a0 != 32) = true := bne_iff_ne.mpr c2
  refine (Classical.em (a0 = 9)).elim (fun c3 => ?a2_) (fun c3 => ?b2_)
  case' a2_ =>
   rw [if_pos c3] at H
   have c3b0 : (a0 == 9) = true := beq_iff_eq.mpr c3
   have c3b1 : (a0 != 9) = false := bne_eq_false_iff_eq.mpr c3
   clear c3
   obtain rfl := Option.some.inj H
  case' b2_ =>
   rw [if_neg c3] at H
   have c3b0 : (a0 == 9) = false := beq_eq_false_iff_ne.mpr c3
   have c3b1 : (a0 != 9) = true := bne_iff_ne.mpr c3
   refine (Classical.em (a0 = 10)).elim (fun c4 => ?a3_) (fun c4 => ?b3_)
   case' a3_ =>
    rw [if_pos c4] at H
    have c4b0 : (a0 == 10) = true := beq_iff_eq.mpr c4
    have c4b1 : (a0 != 10) = false := bne_eq_false_iff_eq.mpr c4
    clear c4
    obtain rfl := Option.some.inj H
   case' b3_ =>
    rw [if_neg c4] at H
    have c4b0 : (a0 == 10) = false := beq_eq_false_iff_ne.mpr c4
    have c4b1 : (a0 != 10) = true := bne_iff_ne.mpr c4
    obtain rfl := Option.some.inj H
    go_enter Tryd.func30, Tryd.ntmps30
    go_wp2
    go_ret
    exact ⟨by first | rfl | (simp; done) | (simp [*]; done), by repeat (first | exact Drawn0.refl _ | apply Drawn0.step)⟩

 case a1_ | a2_ | b2_ =>
  go_enter Tryd.func30, Tryd.ntmps30
  go_wp2
  go_ret
  exact ⟨by first | rfl | (simp; done) | (simp [*]; done), by repeat (first | exact Drawn0.refl _ | apply Drawn0.step)⟩
/-! ### chars_Flat: function 15 -/
def blk (c : UInt8) : Bool := c == 32 || c == 9 || c == 10 || c == 13
def flat1 (c : UInt8) : UInt8 := if blk c then 32 else c
def chars_Flat.f (s : ByteArray) : Option ByteArray := if s.size ≤ 1099511627776 then some ⟨(s.data.toList.map flat1).toArray⟩ else none
theorem blank_is (c : UInt8) : chars_blank.f (c.toNat : Int) = some (blk c) := by
  have : ∀ n : Fin 256, chars_blank.f (n.val : Int) = some (blk (UInt8.ofNat n.val)) := by decide +kernel
  have h := this ⟨c.toNat, c.toNat_lt⟩
  simpa using h
def flatAt (s : ByteArray) (k j : Nat) : UInt8 := if j < k then flat1 (s.data.toList.getD j 0) else s.data.toList.getD j 0
theorem bytes_thawed (w : World) (e : Nat) (s : ByteArray) (j : Nat) (hj : j < s.size) : (Lib.bytesWorld w e s).frozen? ⟨w.heap.size, j, none⟩ = false := by
  have hz : s.size ≤ (Lib.bytesCells w e s).size := by rw [show (Lib.bytesCells w e s).size = s.data.size + (grownCap w s.size 0 e - s.size) by simp [Lib.bytesCells, -ByteArray.size_data]]; exact Nat.le_add_right _ _
  unfold World.frozen?
  rw [Lib.bytesWorld_at_new]
  simp; omega
def chars_Flat.Inv (s : ByteArray) (w wr : World) (v : Value) : Prop :=
  ∃ k : Nat, k ≤ s.size ∧ v = .int .i64 k ∧ (∀ j, j < s.size → wr.cell? ⟨w.heap.size, j, none⟩ = some (.int .u8 (flatAt s k j).toNat) ∧ wr.frozen? ⟨w.heap.size, j, none⟩ = false) ∧ Below w.heap.size w wr
theorem str_of_bytes (l : List UInt8) : strOfNums (l.map fun c => (c.toNat : Int)) = ⟨l.toArray⟩ := by
  unfold strOfNums
  congr 2
  rw [List.map_map]
  refine (List.map_congr_left (fun c _ => ?_)).trans (List.map_id l)
  simp
theorem chars_Flat.step1 {s : ByteArray} {w wr : World} {k : Nat} {c : UInt8} (hlt : k < s.size) (hx : s.data.toList.getD k 0 = c) (hc : ∀ j, j < s.size → wr.cell? ⟨w.heap.size, j, none⟩ = some (.int .u8 (flatAt s k j).toNat) ∧ wr.frozen? ⟨w.heap.size, j, none⟩ = false) (hB : Below w.heap.size w wr)
    (hck : wr.cell? ⟨w.heap.size, k, none⟩ = some (.int .u8 c.toNat)) (hb : blk c = true) (nd : Nat) : chars_Flat.Inv s w ((wr.drewN nd).setCell ⟨w.heap.size, k, none⟩ (.int .u8 32)) (.int .i64 ((k : Int) + 1)) := by
  refine ⟨k + 1, hlt, by push_cast; rfl, fun j hj => ?_, (pw_below_drewN hB nd).setCell (Nat.le_refl _) _⟩
  obtain ⟨c1, c2⟩ := hc j hj
  refine ⟨?_, by rw [World.frozen?_setCell]; exact c2⟩
  by_cases e : j = k
  · subst e
    rw [World.cell?_setCell_same (wr.drewN nd) _ _ (show (wr.drewN nd).cell? _ = some (.int .u8 c.toNat) from hck)]
    have e : flatAt s (j + 1) j = 32 := by unfold flatAt; rw [if_pos (by omega), hx]; unfold flat1; rw [if_pos hb]
    rw [e]; rfl
  · rw [World.cell?_setCell_other _ _ _ _ (by intro h; injection h with _ h2; omega)]
    rw [show flatAt s (k + 1) j = flatAt s k j by unfold flatAt; by_cases h : j < k; { rw [if_pos h, if_pos (by omega)] }; { rw [if_neg h, if_neg (by omega)] }]
    exact c1
theorem chars_Flat.step0 {s : ByteArray} {w wr : World} {k : Nat} {c : UInt8} (hlt : k < s.size) (hx : s.data.toList.getD k 0 = c) (hc : ∀ j, j < s.size → wr.cell? ⟨w.heap.size, j, none⟩ = some (.int .u8 (flatAt s k j).toNat) ∧ wr.frozen? ⟨w.heap.size, j, none⟩ = false) (hB : Below w.heap.size w wr)
    (hb : blk c = false) (nd : Nat) : chars_Flat.Inv s w (wr.drewN nd) (.int .i64 ((k : Int) + 1)) := by
  refine ⟨k + 1, hlt, by push_cast; rfl, fun j hj => ?_, pw_below_drewN hB nd⟩
  obtain ⟨c1, c2⟩ := hc j hj
  refine ⟨?_, c2⟩
  rw [show flatAt s (k + 1) j = flatAt s k j by
    unfold flatAt
    by_cases h : j < k
    · rw [if_pos h, if_pos (by omega)]
    · by_cases e : j = k
      · subst e; rw [if_pos (by omega), if_neg (by omega), hx]; simp [flat1, hb]
      · rw [if_neg h, if_neg (by omega)]]
  exact c1
set_option maxHeartbeats 2000000 in
set_option maxRecDepth 100000 in
theorem chars_Flat.calls (s r : ByteArray) (w : World) (h : chars_Flat.f s = some r) :
    Calls Tryd.prog 15 #[.string s] w fun e w' => e = .returned (.string r) ∧ Below w.heap.size w w' := by
  unfold chars_Flat.f at h
  split at h
  · rename_i hs
    obtain rfl := Option.some.inj h
    clear h
    have hcb := fun W => Lib.run_convert_string_bytes (P := Tryd.prog) W 9 22 5 s Tryd.underlying9 Tryd.underlying22 Tryd.underlying5
    go_enter Tryd.func15, Tryd.ntmps15
    go_wp2
    have ST := Aside0.mk (show (∀ j, j < s.size → (Lib.bytesWorld w 5 s).cell? ⟨w.heap.size, j, none⟩ = some (.int .u8 (flatAt s 0 j).toNat) ∧ (Lib.bytesWorld w 5 s).frozen? ⟨w.heap.size, j, none⟩ = false) ∧ Below w.heap.size w (Lib.bytesWorld w 5 s) from
      ⟨fun j hj => ⟨by rw [Lib.bytesWorld_cell w _ s j hj]; simp [flatAt], bytes_thawed w _ s j hj⟩, bytes_below (Below.refl _ _) (Nat.le_refl _) _ _⟩)
    generalize Lib.bytesWorld _ _ _ = W0 at ST ⊢
    generalize grownCap _ _ _ _ = cap
    clear hcb
    go_loopw [9] (fun v9 wr => Aside0 (chars_Flat.Inv s w wr v9)) (fun v9 _ => s.size - (intOf v9).toNat)
    case atStart => exact ⟨0, Nat.zero_le _, rfl, ST.out.1, ST.out.2⟩
    case round =>
      obtain ⟨k, hk, rfl, hc, hB⟩ := hrel.out
      clear hrel ST
      by_cases hlt : k < s.size
      · obtain ⟨hck, hfk⟩ := hc k hlt
        have hfa : flatAt s k k = s.data.toList.getD k 0 := by simp [flatAt]
        rw [hfa] at hck
        generalize hx : s.data.toList.getD k 0 = c at hck hfa
        have hbl := blank_is c
        have hcs : (wr.cell? ⟨w.heap.size, k, none⟩).isSome = true := by rw [hck]; rfl
        have h0 := Aside0.mk hx
        have h1 := Aside0.mk hc
        have h2 := Aside0.mk hB
        have h3 := Aside0.mk hbl
        have h4 := Aside0.mk hck
        clear hc hB hfa hbl hx
        cases hb : blk c with
        | true =>
          have h5 := Aside0.mk hb
          rw [hb] at h3
          clear hb
          go_wp2_with (go_at_call 30; refine (chars_blank.calls _ _ _ h3.out).mono ?_; rintro e w1 ⟨rfl, ⟨nd, rfl⟩⟩)
          go_roundw
          case rel => exact ⟨chars_Flat.step1 hlt h0.out h1.out h2.out h4.out h5.out nd⟩
          case measure => simp [intOf]; omega
        | false =>
          have h5 := Aside0.mk hb
          rw [hb] at h3
          clear hb
          go_wp2_with (go_at_call 30; refine (chars_blank.calls _ _ _ h3.out).mono ?_; rintro e w1 ⟨rfl, ⟨nd, rfl⟩⟩)
          go_roundw
          case rel => exact ⟨chars_Flat.step0 hlt h0.out h1.out h2.out h5.out nd⟩
          case measure => simp [intOf]; omega
      · obtain rfl : k = s.size := by omega
        have hl : (s.data.toList.map flat1).length = s.size := by rw [List.length_map]; show s.data.toList.length = s.data.size; rw [Array.length_toList]
        have hrow := bytes_row (w := wr) (b := w.heap.size) (l := s.data.toList.map flat1) (by omega) (fun j hj => by
          rw [hl] at hj
          rw [(hc j hj).1]
          simp [flatAt, hj, List.getD_eq_getElem?_getD])
        rw [hl] at hrow
        have hcv := Kd.C_string (P := Tryd.prog) (A := some ⟨w.heap.size, 0, none⟩) (c := cap) Tryd.underlying22 Tryd.underlying5 Tryd.underlying9 (show Kd.C (Kd.int .u8) wr _ ((s.data.toList.map flat1).map fun c => (c.toNat : Int)).length _ by rw [List.length_map, hl]; exact hrow)
        rw [str_of_bytes, List.length_map, hl] at hcv
        have h2 := Aside0.mk hB
        clear hc hB hrow
        go_wp2
        go_ret
        exact ⟨rfl, h2.out⟩
  · exact absurd h (by simp)

/-! ### chars_first: function 37 -/
def chars_first.f (a0 : Int) : Option (Bool) := (chars_inside.f a0 (([(⟨65, 90⟩ : S48), (⟨97, 122⟩ : S48), (⟨95, 95⟩ : S48), (⟨192, 214⟩ : S48), (⟨216, 246⟩ : S48), (⟨248, 767⟩ : S48), (⟨880, 893⟩ : S48), (⟨895, 8191⟩ : S48), (⟨8204, 8205⟩ : S48), (⟨8304, 8591⟩ : S48), (⟨11264, 12271⟩ : S48), (⟨12289, 55295⟩ : S48), (⟨63744, 64975⟩ : S48), (⟨65008, 65533⟩ : S48), (⟨65536, 983039⟩ : S48)] : List (S48)))).bind fun t113 => (some t113)
set_option maxHeartbeats 8000000 in
set_option maxRecDepth 100000 in
theorem chars_first.calls (a0 : Int) (r : Bool) (w : World) (h : chars_first.f a0 = some r) :
  Calls Tryd.prog 37 #[.int .i32 a0] w fun e w' => e = .returned (.bool r) ∧ Below w.heap.size w w' := by
 have hu48 := Tryd.underlying48
 have HB := Aside0.mk (Below.refl w.heap.size w)
 have H : ((chars_inside.f a0 (([(⟨65, 90⟩ : S48), (⟨97, 122⟩ : S48), (⟨95, 95⟩ : S48), (⟨192, 214⟩ : S48), (⟨216, 246⟩ : S48), (⟨248, 767⟩ : S48), (⟨880, 893⟩ : S48), (⟨895, 8191⟩ : S48), (⟨8204, 8205⟩ : S48), (⟨8304, 8591⟩ : S48), (⟨11264, 12271⟩ : S48), (⟨12289, 55295⟩ : S48), (⟨63744, 64975⟩ : S48), (⟨65008, 65533⟩ : S48), (⟨65536, 983039⟩ : S48)] : List (S48)))).bind fun t113 => (some t113)) = some r := h
 clear h
 obtain ⟨y110, hy110⟩ : ∃ y_ : List (S48), y_ = (([(⟨65, 90⟩ : S48), (⟨97, 122⟩ : S48), (⟨95, 95⟩ : S48), (⟨192, 214⟩ : S48), (⟨216, 246⟩ : S48), (⟨248, 767⟩ : S48), (⟨880, 893⟩ : S48), (⟨895, 8191⟩ : S48), (⟨8204, 8205⟩ : S48), (⟨8304, 8591⟩ : S48), (⟨11264, 12271⟩ : S48), (⟨12289, 55295⟩ : S48), (⟨63744, 64975⟩ : S48), (⟨65008, 65533⟩ : S48), (⟨65536, 983039⟩ : S48)] : List (S48))) := ⟨_, rfl⟩
 replace H : ((chars_inside.f a0 y110).bind fun t113 => (some t113)) = some r := by first | (rw [hy110]; with_reducible exact H) | (have H2_ := (Option.bind_some _ _).symm.trans H; rw [hy110]; with_reducible exact H2_) | (have H2_ := (Option.bind_some _ _).symm.trans H; with_reducible exact H2_) | with_reducible exact H | (rw [hy110]; exact H) | exact H
 have Ny110 := Aside0.mk hy110
 clear hy110
 replace H := Option.bind_eq_some_iff.mp H
 obtain ⟨t113, A20, H⟩ := H
 replace H : (some t113) = some r := H
 have A2 := Aside0.mk A20
 clear A20
 obtain rfl := Option.some.inj H
 go_enter Tryd.func37, Tryd.ntmps37
 go_wp2_with (first | ((with_reducible refine gate_dst (N := 19) rfl ?_); refine Kd.R_lit k48 _ 48 ?hg (N := 19) ?hd (xs := ([(⟨65, 90⟩ : S48), (⟨97, 122⟩ : S48), (⟨95, 95⟩ : S48), (⟨192, 214⟩ : S48), (⟨216, 246⟩ : S48), (⟨248, 767⟩ : S48), (⟨880, 893⟩ : S48), (⟨895, 8191⟩ : S48), (⟨8204, 8205⟩ : S48), (⟨8304, 8591⟩ : S48), (⟨11264, 12271⟩ : S48), (⟨12289, 55295⟩ : S48), (⟨63744, 64975⟩ : S48), (⟨65008, 65533⟩ : S48), (⟨65536, 983039⟩ : S48)] : List (S48))) (inner := [.int .i32 65, .int .i32 90, .int .i32 97, .int .i32 122, .int .i32 95, .int .i32 95, .int .i32 192, .int .i32 214, .int .i32 216, .int .i32 246, .int .i32 248, .int .i32 767, .int .i32 880, .int .i32 893, .int .i32 895, .int .i32 8191, .int .i32 8204, .int .i32 8205, .int .i32 8304, .int .i32 8591, .int .i32 11264, .int .i32 12271, .int .i32 12289, .int .i32 55295, .int .i32 63744, .int .i32 64975, .int .i32 65008, .int .i32 65533, .int .i32 65536, .int .i32 983039]) (ok := fun _ => True) (okp := fun _ => True) ?hr ?hp (fun _ hk => hk) trivial (Below.refl _ _) (Nat.le_refl _) (by simp) ?_; (case hd => rfl); (case hg => rfl); (case hr => first | (go_simp; done) | (go_simp; rfl)); (case hp => exact (Reps.c2 (show Kd.M k48 _ _ _ (⟨65, 90⟩ : S48) [.int .i32 65, .int .i32 90] from (k48_mkM _ _ _ (⟨65, 90⟩ : S48) )) (Reps.c2 (show Kd.M k48 _ _ _ (⟨97, 122⟩ : S48) [.int .i32 97, .int .i32 122] from (k48_mkM _ _ _ (⟨97, 122⟩ : S48) )) (Reps.c2 (show Kd.M k48 _ _ _ (⟨95, 95⟩ : S48) [.int .i32 95, .int .i32 95] from (k48_mkM _ _ _ (⟨95, 95⟩ : S48) )) (Reps.c2 (show Kd.M k48 _ _ _ (⟨192, 214⟩ : S48) [.int .i32 192, .int .i32 214] from (k48_mkM _ _ _ (⟨192, 214⟩ : S48) )) (Reps.c2 (show Kd.M k48 _ _ _ (⟨216, 246⟩ : S48) [.int .i32 216, .int .i32 246] from (k48_mkM _ _ _ (⟨216, 246⟩ : S48) )) (Reps.c2 (show Kd.M k48 _ _ _ (⟨248, 767⟩ : S48) [.int .i32 248, .int .i32 767] from (k48_mkM _ _ _ (⟨248, 767⟩ : S48) )) (Reps.c2 (show Kd.M k48 _ _ _ (⟨880, 893⟩ : S48) [.int .i32 880, .int .i32 893] from (k48_mkM _ _ _ (⟨880, 893⟩ : S48) )) (Reps.c2 (show Kd.M k48 _ _ _ (⟨895, 8191⟩ : S48) [.int .i32 895, .int .i32 8191] from (k48_mkM _ _ _ (⟨895, 8191⟩ : S48) )) (Reps.c2 (show Kd.M k48 _ _ _ (⟨8204, 8205⟩ : S48) [.int .i32 8204, .int .i32 8205] from (k48_mkM _ _ _ (⟨8204, 8205⟩ : S48) )) (Reps.c2 (show Kd.M k48 _ _ _ (⟨8304, 8591⟩ : S48) [.int .i32 8304, .int .i32 8591] from (k48_mkM _ _ _ (⟨8304, 8591⟩ : S48) )) (Reps.c2 (show Kd.M k48 _ _ _ (⟨11264, 12271⟩ : S48) [.int .i32 11264, .int .i32 12271] from (k48_mkM _ _ _ (⟨11264, 12271⟩ : S48) )) (Reps.c2 (show Kd.M k48 _ _ _ (⟨12289, 55295⟩ : S48) [.int .i32 12289, .int .i32 55295] from (k48_mkM _ _ _ (⟨12289, 55295⟩ : S48) )) (Reps.c2 (show Kd.M k48 _ _ _ (⟨63744, 64975⟩ : S48) [.int .i32 63744, .int .i32 64975] from (k48_mkM _ _ _ (⟨63744, 64975⟩ : S48) )) (Reps.c2 (show Kd.M k48 _ _ _ (⟨65008, 65533⟩ : S48) [.int .i32 65008, .int .i32 65533] from (k48_mkM _ _ _ (⟨65008, 65533⟩ : S48) )) (Reps.c2 (show Kd.M k48 _ _ _ (⟨65536, 983039⟩ : S48) [.int .i32 65536, .int .i32 983039] from (k48_mkM _ _ _ (⟨65536, 983039⟩ : S48) )) (Reps.none _ _))))))))))))))))); intro v111 w3 ho4 hb hg_ hnew_; clear hg_ hnew_; (first | rw [← Ny110.out] at ho4 | (simp only [Int.reduceToNat] at ho4; rw [← Ny110.out] at ho4)); have n0_ := Aside0.mk (Kd.R_lower ho4 (Bz HB)); have n1_ := Bs HB hb; clear HB; revert n0_ n1_; intro HO112 HB; clear hb ho4; obtain ⟨Ao5, co5, eo5⟩ := Kd.R_slice HO112.out; subst eo5) | ((with_reducible refine gate_callee (f := 35) rfl ?_); refine goesA (some 20) Tryd.func35 #[.int .i32 a0, .slice Ao5 y110.length co5] rfl ?_; (with_reducible refine (chars_inside.calls a0 _ _ y110 t113 _ ?side1 ?side2 A2.out).mono ?_); (case side1 => exact Cu (Kd.R_reads' HO112.out).2.2); (case side2 => exact (Kd.R_reads' HO112.out).2.1); rintro e w6 ⟨rfl, hb⟩; refine ⟨_, rfl, ?_⟩; have n0_ := Rb HO112 hb; have n1_ := Bs HB hb; clear HO112 HB; revert n0_ n1_; intro HO112 HB; (try clear hb); (try clear hb2); (try clear hk); (try clear hi)))
 go_ret
 exact ⟨rfl_, Bu HB⟩

/-! ### chars_later: function 38 -/
def chars_later.f (a0 : Int) : Option (Bool) := (chars_first.f a0).bind fun t114 => (if t114 = true then (some true) else ((chars_inside.f a0 (([(⟨48, 57⟩ : S48), (⟨45, 46⟩ : S48), (⟨183, 183⟩ : S48), (⟨768, 879⟩ : S48), (⟨8255, 8256⟩ : S48)] : List (S48)))).bind fun t118 => (some t118)))
set_option maxHeartbeats 8000000 in
set_option maxRecDepth 100000 in
theorem chars_later.calls (a0 : Int) (r : Bool) (w : World) (h : chars_later.f a0 = some r) :
  Calls Tryd.prog 38 #[.int .i32 a0] w fun e w' => e = .returned (.bool r) ∧ Below w.heap.size w w' := by
 have hu48 := Tryd.underlying48
 have HB := Aside0.mk (Below.refl w.heap.size w)
 have H : ((chars_first.f a0).bind fun t114 => (if t114 = true then (some true) else ((chars_inside.f a0 (([(⟨48, 57⟩ : S48), (⟨45, 46⟩ : S48), (⟨183, 183⟩ : S48), (⟨768, 879⟩ : S48), (⟨8255, 8256⟩ : S48)] : List (S48)))).bind fun t118 => (some t118)))) = some r := h
 clear h
 replace H := Option.bind_eq_some_iff.mp H
 obtain ⟨t114, A20, H⟩ := H
 replace H : (if t114 = true then (some true) else ((chars_inside.f a0 (([(⟨48, 57⟩ : S48), (⟨45, 46⟩ : S48), (⟨183, 183⟩ : S48), (⟨768, 879⟩ : S48), (⟨8255, 8256⟩ : S48)] : List (S48)))).bind fun t118 => (some t118))) = some r := H
 have A2 := Aside0.mk A20
 clear A20
 by_cases c3 : t114 = true
 ·subst c3
  have H1 : (some true) = some r := by rw [if_pos rfl] at H; exact H
  clear H
  have H := H1
  clear H1
  obtain rfl := Option.some.inj H
  go_enter Tryd.func38, Tryd.ntmps38
  go_wp2_with (first | ((with_reducible refine gate_callee (f := 37) rfl ?_); refine goesA (some 4) Tryd.func37 #[.int .i32 a0] rfl ?_; (with_reducible refine (chars_first.calls a0 true _ A2.out).mono ?_); rintro e w4 ⟨rfl, hb⟩; refine ⟨_, rfl, ?_⟩; have n0_ := Bs HB hb; clear HB; revert n0_; intro HB; (try clear hb); (try clear hb2); (try clear hk); (try clear hi)))
  go_ret
  exact ⟨rfl_, Bu HB⟩
 ·replace c3 := Bool.eq_false_iff.mpr c3
  subst c3
  have H1 : ((chars_inside.f a0 (([(⟨48, 57⟩ : S48), (⟨45, 46⟩ : S48), (⟨183, 183⟩ : S48), (⟨768, 879⟩ : S48), (⟨8255, 8256⟩ : S48)] : List (S48)))).bind fun t118 => (some t118)) = some r := by rw [if_neg (show ¬ (false = true) by decide)] at H; exact H
  clear H
  have H := H1
  clear H1
  obtain ⟨y115, hy115⟩ : ∃ y_ : List (S48), y_ = (([(⟨48, 57⟩ : S48), (⟨45, 46⟩ : S48), (⟨183, 183⟩ : S48), (⟨768, 879⟩ : S48), (⟨8255, 8256⟩ : S48)] : List (S48))) := ⟨_, rfl⟩
  replace H : ((chars_inside.f a0 y115).bind fun t118 => (some t118)) = some r := by first | (rw [hy115]; with_reducible exact H) | (have H2_ := (Option.bind_some _ _).symm.trans H; rw [hy115]; with_reducible exact H2_) | (have H2_ := (Option.bind_some _ _).symm.trans H; with_reducible exact H2_) | with_reducible exact H | (rw [hy115]; exact H) | exact H
  have Ny115 := Aside0.mk hy115
  clear hy115
  replace H := Option.bind_eq_some_iff.mp H
  obtain ⟨t118, A50, H⟩ := H
  replace H : (some t118) = some r := H
  have A5 := Aside0.mk A50
  clear A50
  obtain rfl := Option.some.inj H
  go_enter Tryd.func38, Tryd.ntmps38
  go_wp2_with (first | ((with_reducible refine gate_callee (f := 37) rfl ?_); refine goesA (some 4) Tryd.func37 #[.int .i32 a0] rfl ?_; (with_reducible refine (chars_first.calls a0 false _ A2.out).mono ?_); rintro e w6 ⟨rfl, hb⟩; refine ⟨_, rfl, ?_⟩; have n0_ := Bs HB hb; clear HB; revert n0_; intro HB; (try clear hb); (try clear hb2); (try clear hk); (try clear hi)) | ((with_reducible refine gate_dst (N := 12) rfl ?_); (try (refine gate_guard (by rfl) ?_; dsimp only)); refine Kd.R_lit k48 _ 48 ?hg (N := 12) ?hd (xs := ([(⟨48, 57⟩ : S48), (⟨45, 46⟩ : S48), (⟨183, 183⟩ : S48), (⟨768, 879⟩ : S48), (⟨8255, 8256⟩ : S48)] : List (S48))) (inner := [.int .i32 48, .int .i32 57, .int .i32 45, .int .i32 46, .int .i32 183, .int .i32 183, .int .i32 768, .int .i32 879, .int .i32 8255, .int .i32 8256]) (ok := fun _ => True) (okp := fun _ => True) ?hr ?hp (fun _ hk => hk) trivial (Below.refl _ _) (Nat.le_refl _) (by simp) ?_; (case hd => rfl); (case hg => rfl); (case hr => first | (go_simp; done) | (go_simp; rfl)); (case hp => exact (Reps.c2 (show Kd.M k48 _ _ _ (⟨48, 57⟩ : S48) [.int .i32 48, .int .i32 57] from (k48_mkM _ _ _ (⟨48, 57⟩ : S48) )) (Reps.c2 (show Kd.M k48 _ _ _ (⟨45, 46⟩ : S48) [.int .i32 45, .int .i32 46] from (k48_mkM _ _ _ (⟨45, 46⟩ : S48) )) (Reps.c2 (show Kd.M k48 _ _ _ (⟨183, 183⟩ : S48) [.int .i32 183, .int .i32 183] from (k48_mkM _ _ _ (⟨183, 183⟩ : S48) )) (Reps.c2 (show Kd.M k48 _ _ _ (⟨768, 879⟩ : S48) [.int .i32 768, .int .i32 879] from (k48_mkM _ _ _ (⟨768, 879⟩ : S48) )) (Reps.c2 (show Kd.M k48 _ _ _ (⟨8255, 8256⟩ : S48) [.int .i32 8255, .int .i32 8256] from (k48_mkM _ _ _ (⟨8255, 8256⟩ : S48) )) (Reps.none _ _))))))); intro v116 w7 ho8 hb hg_ hnew_; clear hg_ hnew_; (first | rw [← Ny115.out] at ho8 | (simp only [Int.reduceToNat] at ho8; rw [← Ny115.out] at ho8)); have n0_ := Aside0.mk (Kd.R_lower ho8 (Bz HB)); have n1_ := Bs HB hb; clear HB; revert n0_ n1_; intro HO117 HB; clear hb ho8; obtain ⟨Ao9, co9, eo9⟩ := Kd.R_slice HO117.out; subst eo9) | (go_at_call 35; (with_reducible refine (chars_inside.calls a0 _ _ y115 t118 _ ?side1 ?side2 A5.out).mono ?_); (case side1 => exact Cu (Kd.R_reads' HO117.out).2.2); (case side2 => exact (Kd.R_reads' HO117.out).2.1); rintro e w10 ⟨rfl, hb⟩; have n0_ := Rb HO117 hb; have n1_ := Bs HB hb; clear HO117 HB; revert n0_ n1_; intro HO117 HB; (try clear hb); (try clear hb2); (try clear hk); (try clear hi)))
  go_ret
  exact ⟨rfl_, Bu HB⟩

/-! ### chars_wrong: function 28 -/
def chars_wrong.l (s : ByteArray) : Nat → Nat → Option Bool
  | 0, _ => none
  | k + 1, pos => if pos < s.size then ((if pos = 0 then chars_first.f ((Utf8.decode s pos).1 : Int) else some true).bind fun a => if a = true then ((chars_later.f ((Utf8.decode s pos).1 : Int)).bind fun b => if b = true then chars_wrong.l s k (pos + (Utf8.decode s pos).2) else some true) else some true) else some false
def chars_wrong.f (k : Nat) (s : ByteArray) : Option Bool := if s.size = 0 then some true else if 256 < s.size then some true else (chars_Bad.f k (bints s)).bind fun t => if 0 ≤ t then some true else chars_wrong.l s k 0
theorem chars_wrong.mono_l (s : ByteArray) : ∀ k pos, LeO (chars_wrong.l s k pos) (chars_wrong.l s (k + 1) pos)
  | 0, pos => fun r h => by simp [chars_wrong.l] at h
  | k + 1, pos => by
    unfold chars_wrong.l
    exact LeO.ite (LeO.bind (LeO.refl _) (fun _ => LeO.ite (LeO.bind (LeO.refl _) (fun _ => LeO.ite (chars_wrong.mono_l s k _) (LeO.refl _))) (LeO.refl _))) (LeO.refl _)
theorem chars_wrong.mono : ∀ a0 k, LeO (chars_wrong.f k a0) (chars_wrong.f (k + 1) a0) := by
  intro s k
  unfold chars_wrong.f
  exact LeO.ite (LeO.refl _) (LeO.ite (LeO.refl _) (LeO.bind (chars_Bad.mono _ _) (fun _ => LeO.ite (LeO.refl _) (chars_wrong.mono_l s k 0))))
theorem below_iterAt {B K : Nat} {w W : World} (h : Below B w W) (hK : B ≤ K) (s : ByteArray) (pos : Nat) : Below B w (W.iterAt K s pos) :=
  ⟨h.os, h.tape, h.output, by simpa [World.iterAt] using h.size, fun j hj => (Lib.iterAt_other W K j s pos (by omega)).trans (h.block j hj)⟩
theorem below_iter {B : Nat} {w W : World} (h : Below B w W) (hK : B ≤ W.heap.size) (s : ByteArray) : Below B w (W.iter s 0) := h.alloc hK _
theorem size_iterAt (W : World) (K : Nat) (s : ByteArray) (pos : Nat) : (W.iterAt K s pos).heap.size = W.heap.size := by simp [World.iterAt]
theorem decode_wide (s : ByteArray) (pos : Nat) (h : pos < s.size) : 1 ≤ (Utf8.decode s pos).2 := by
  by_cases ha : (s[pos]'h).toNat < 128
  · rw [decode_ascii s pos h ha]
    exact Nat.le_refl _
  · exact (decode_high s pos h (by omega)).2
theorem iterPos_of {w : World} {K : Nat} {s : ByteArray} {pos : Nat} (h : w.heap[K]? = some (.stringIter s pos)) : w.iterPos K = pos := by
  unfold World.iterPos; rw [h]
def chars_wrong.Inv (s : ByteArray) (K : Nat) (r : Bool) (w wr : World) : Prop :=
  ∃ pos kk : Nat, wr.heap[K]? = some (.stringIter s pos) ∧ chars_wrong.l s kk pos = some r ∧ Below w.heap.size w wr
theorem chars_wrong.next {s : ByteArray} {K : Nat} {r : Bool} {w wr w1 : World} {pos kk : Nat} (hK : w.heap.size ≤ K) (hit : wr.heap[K]? = some (.stringIter s pos)) (hl : chars_wrong.l s kk (pos + (Utf8.decode s pos).2) = some r) (hB : Below w.heap.size w wr)
    (hb : Below (wr.iterAt K s (pos + (Utf8.decode s pos).2)).heap.size (wr.iterAt K s (pos + (Utf8.decode s pos).2)) w1) : chars_wrong.Inv s K r w w1 ∧ w1.heap[K]? = some (.stringIter s (pos + (Utf8.decode s pos).2)) := by
  have hlt : K < wr.heap.size := (Array.getElem?_eq_some_iff.1 hit).1
  have h1 : w1.heap[K]? = some (.stringIter s (pos + (Utf8.decode s pos).2)) := (hb.block K (by rw [size_iterAt]; exact hlt)).trans (Lib.iterAt_heap wr K s pos _ hit)
  exact ⟨⟨_, kk, h1, hl, (below_iterAt hB hK s _).trans (hb.mono (by rw [size_iterAt]; exact hB.size))⟩, h1⟩
set_option maxHeartbeats 2000000 in
set_option maxRecDepth 100000 in
theorem chars_wrong.calls (k : Nat) (s : ByteArray) (r : Bool) (w : World) (hU : Uni w) (h : chars_wrong.f k s = some r) :
    Calls Tryd.prog 28 #[.string s] w fun e w' => e = .returned (.bool r) ∧ Below w.heap.size w w' := by
  have HU := Aside0.mk hU
  clear hU
  unfold chars_wrong.f at h
  by_cases h0 : s.size = 0
  · rw [if_pos h0] at h
    obtain rfl := Option.some.inj h
    have he : s.toList.isEmpty = true := by
      rw [ByteArray.toList_eq, List.length_eq_zero_iff.1 (show s.data.toList.length = 0 by rw [Array.length_toList]; exact h0)]; rfl
    clear h h0
    go_enter Tryd.func28, Tryd.ntmps28
    go_wp2
    go_ret
    exact ⟨rfl, Below.refl _ _⟩
  · rw [if_neg h0] at h
    have he : s.toList.isEmpty = false := by
      rw [ByteArray.toList_eq]
      cases hd : s.data.toList with
      | nil => exact absurd (show s.data.size = 0 by rw [← Array.length_toList, hd]; rfl) h0
      | cons => rfl
    by_cases h1 : 256 < s.size
    · rw [if_pos h1] at h
      obtain rfl := Option.some.inj h
      have hgt : (256 : Int) < (s.size : Int) := by omega
      clear h h0 h1
      go_enter Tryd.func28, Tryd.ntmps28
      go_wp2
      go_ret
      exact ⟨rfl, Below.refl _ _⟩
    · rw [if_neg h1] at h
      obtain ⟨t, ht, h⟩ := Option.bind_eq_some_iff.1 h
      have hgt : ¬ (256 : Int) < (s.size : Int) := by omega
      have HT := Aside0.mk ht
      have hcb := fun W => Lib.run_convert_string_bytes (P := Tryd.prog) W 9 22 5 s Tryd.underlying9 Tryd.underlying22 Tryd.underlying5
      have hsz : (bints s).length = s.size := bints_len s
      have hrow := bints_row w 5 s (by omega)
      have ST := Aside0.mk (show Kd.C (Kd.int .u8) (Lib.bytesWorld w 5 s) (some ⟨w.heap.size, 0, none⟩) (bints s).length (bints s) ∧ Below w.heap.size w (Lib.bytesWorld w 5 s) from ⟨hrow, bytes_below (Below.refl _ _) (Nat.le_refl _) _ _⟩)
      have hcap : s.size ≤ grownCap w s.size 0 5 := grownCap_ge _ _ _ _
      have HC := Aside0.mk hcap
      have hcall := chars_Bad.calls k (some ⟨w.heap.size, 0, none⟩) (grownCap w s.size 0 5) (bints s) t (Lib.bytesWorld w 5 s) ST.out.1 (by rw [hsz]; exact HC.out) (HU.out.below ST.out.2) HT.out
      rw [hsz] at hcall
      clear hrow hcap ht h0 h1
      by_cases h2 : 0 ≤ t
      · rw [if_pos h2] at h
        obtain rfl := Option.some.inj h
        clear h
        go_enter Tryd.func28, Tryd.ntmps28
        go_wp2_with (go_at_call 9; refine hcall.mono ?_; rintro e w1 ⟨rfl, hb1⟩; have g1 := Aside0.mk hb1; clear hb1)
        go_ret
        exact ⟨rfl, ST.out.2.trans (g1.out.mono ST.out.2.size)⟩
      · rw [if_neg h2] at h
        have HL := Aside0.mk h
        clear h
        go_enter Tryd.func28, Tryd.ntmps28
        go_wp2_with (go_at_call 9; refine hcall.mono ?_; rintro e w1 ⟨rfl, hb1⟩; have g1 := Aside0.mk hb1; clear hb1)
        have g2 := Aside0.mk (show (w1.iter s 0).heap[w1.heap.size]? = some (.stringIter s 0) ∧ Below w.heap.size w (w1.iter s 0) ∧ w.heap.size ≤ w1.heap.size from by
          have hB := ST.out.2.trans (g1.out.mono ST.out.2.size)
          exact ⟨World.iter_heap _ _ _, below_iter hB hB.size s, hB.size⟩)
        generalize w1.iter s 0 = W2 at g2 ⊢
        generalize w1.heap.size = K at g2 ⊢
        clear hcall hcb g1 ST HC hgt h2
        go_loopw [3] (fun _ wr => Aside0 (chars_wrong.Inv s K r w wr)) (fun _ wr => s.size - wr.iterPos K)
        case atStart => exact ⟨0, k, g2.out.1, HL.out, g2.out.2.1⟩
        case round =>
          obtain ⟨pos, kk, hit, hl, hB⟩ := hrel.out
          have hK := g2.out.2.2
          have hip := iterPos_of hit
          clear hrel HL
          by_cases hp : pos < s.size
          · obtain ⟨kk, rfl⟩ : ∃ m, kk = m + 1 := by
              cases kk with
              | zero => simp [chars_wrong.l] at hl
              | succ m => exact ⟨m, rfl⟩
            rw [chars_wrong.l, if_pos hp] at hl
            have hnx : ∀ ty, (Instr.next (.pointer (some ⟨K, 0, none⟩)) true ty).run Tryd.prog wr = _ := fun ty => Lib.run_next_any_at wr K s pos ty hit hp
            have hwd := decode_wide s pos hp
            obtain ⟨a, ha, hl⟩ := Option.bind_eq_some_iff.1 hl
            have hn : ∀ w1, chars_wrong.l s kk (pos + (Utf8.decode s pos).2) = some r → Below (wr.iterAt K s (pos + (Utf8.decode s pos).2)).heap.size (wr.iterAt K s (pos + (Utf8.decode s pos).2)) w1 → chars_wrong.Inv s K r w w1 ∧ w1.heap[K]? = some (.stringIter s (pos + (Utf8.decode s pos).2)) := fun w1 hl hb => chars_wrong.next hK hit hl hB hb
            have hB2 := below_iterAt hB hK s (pos + (Utf8.decode s pos).2)
            generalize (Utf8.decode s pos).1 = rn at hnx ha hl
            generalize wr.iterAt K s (pos + (Utf8.decode s pos).2) = W3 at hnx hn hB2
            generalize (Utf8.decode s pos).2 = wd at hl hwd hn
            have HN := Aside0.mk hn
            have HB2 := Aside0.mk hB2
            have hsz2 := hB2.size
            clear hn hB2 hit hB g2
            by_cases hz : (pos : Int) = 0
            · rw [if_pos (show pos = 0 by omega)] at ha
              have HA := Aside0.mk ha
              clear ha
              cases a with
              | false =>
                rw [if_neg (by decide)] at hl
                obtain rfl := Option.some.inj hl
                clear hl
                go_wp2_with (go_at_call 37; refine (chars_first.calls _ false _ HA.out).mono ?_; rintro e w4 ⟨rfl, hb1⟩; have g1 := Aside0.mk hb1; clear hb1)
                go_ret
                exact ⟨rfl, HB2.out.trans (g1.out.mono hsz2)⟩
              | true =>
                rw [if_pos rfl] at hl
                obtain ⟨b, hb, hl⟩ := Option.bind_eq_some_iff.1 hl
                have HC2 := Aside0.mk hb
                have HL2 := Aside0.mk hl
                clear hb hl
                cases b with
                | false =>
                  obtain rfl : true = r := by have := HL2.out; rw [if_neg (by decide)] at this; exact Option.some.inj this
                  go_wp2_with (first | (go_at_call 37; refine (chars_first.calls _ true _ HA.out).mono ?_; rintro e w4 ⟨rfl, hb1⟩; have g1 := Aside0.mk hb1; clear hb1) | (go_at_call 38; refine (chars_later.calls _ false _ HC2.out).mono ?_; rintro e w5 ⟨rfl, hb1⟩; have g3 := Aside0.mk hb1; clear hb1))
                  go_ret
                  exact ⟨rfl, HB2.out.trans ((g1.out.trans (g3.out.mono g1.out.size)).mono hsz2)⟩
                | true =>
                  have HL3 := Aside0.mk (show chars_wrong.l s kk (pos + wd) = some r by have := HL2.out; rw [if_pos rfl] at this; exact this)
                  go_wp2_with (first | (go_at_call 37; refine (chars_first.calls _ true _ HA.out).mono ?_; rintro e w4 ⟨rfl, hb1⟩; have g1 := Aside0.mk hb1; clear hb1) | (go_at_call 38; refine (chars_later.calls _ true _ HC2.out).mono ?_; rintro e w5 ⟨rfl, hb1⟩; have g3 := Aside0.mk hb1; clear hb1))
                  go_roundw
                  case rel => exact ⟨(HN.out _ HL3.out (g1.out.trans (g3.out.mono g1.out.size))).1⟩
                  case measure => rw [iterPos_of (HN.out _ HL3.out (g1.out.trans (g3.out.mono g1.out.size))).2, hip]; omega
            · rw [if_neg (show ¬ pos = 0 by omega)] at ha
              obtain rfl := Option.some.inj ha
              clear ha
              rw [if_pos rfl] at hl
              obtain ⟨b, hb, hl⟩ := Option.bind_eq_some_iff.1 hl
              have HC2 := Aside0.mk hb
              have HL2 := Aside0.mk hl
              clear hb hl
              cases b with
              | false =>
                obtain rfl : true = r := by have := HL2.out; rw [if_neg (by decide)] at this; exact Option.some.inj this
                go_wp2_with (go_at_call 38; refine (chars_later.calls _ false _ HC2.out).mono ?_; rintro e w5 ⟨rfl, hb1⟩; have g3 := Aside0.mk hb1; clear hb1)
                go_ret
                exact ⟨rfl, HB2.out.trans (g3.out.mono hsz2)⟩
              | true =>
                have HL3 := Aside0.mk (show chars_wrong.l s kk (pos + wd) = some r by have := HL2.out; rw [if_pos rfl] at this; exact this)
                go_wp2_with (go_at_call 38; refine (chars_later.calls _ true _ HC2.out).mono ?_; rintro e w5 ⟨rfl, hb1⟩; have g3 := Aside0.mk hb1; clear hb1)
                go_roundw
                case rel => exact ⟨(HN.out _ HL3.out g3.out).1⟩
                case measure => rw [iterPos_of (HN.out _ HL3.out g3.out).2, hip]; omega
          · have hnx : ∀ ty, (Instr.next (.pointer (some ⟨K, 0, none⟩)) true ty).run Tryd.prog wr = _ := fun ty => Lib.run_next_end_at wr K s pos ty hit hp
            have hr : r = false := by
              cases kk with
              | zero => simp [chars_wrong.l] at hl
              | succ m => rw [chars_wrong.l, if_neg hp] at hl; exact (Option.some.inj hl).symm
            subst hr
            have h2 := Aside0.mk hB
            clear hl hit hB
            go_wp2
            go_ret
            exact ⟨rfl, h2.out⟩

end Go.Proofs.YthakidcnlkbbgaaDoor.Hp
