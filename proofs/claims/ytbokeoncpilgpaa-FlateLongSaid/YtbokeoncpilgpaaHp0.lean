/- Go functions of this seat as Lean functions, and their contracts: what the Go code computes, for every input. (By hp.py, a program of this repo, over the kit's print.py.) -/
import Derived.Test.YtbokeoncpilgpaaProg
import Derived.Below
import Derived.Deep.Draws
import Derived.Deep.AppendLies
import Derived.Maps.AppendAt
import Derived.OwnWalk
import Derived.Laws.BytesArg
import Derived.Laws.MakeOwn
import Derived.Laws.OwnMore
import Derived.Deep.OwnRows
import Derived.Tactics
import Derived.Lib.ConvBytes
import Derived.Laws.Slices
import Derived.WalkKit
import Derived.KernelRfl
import Derived.RowKit3
import Derived.Deep.LoopGhost
import Derived.Deep.QuietTactic
import Derived.BigQuiet
import Derived.WideLaws
import Derived.Deep.DeepCutAuto
import Derived.Deep.CutBlock
import Derived.Deep.RegionHeld3
import Derived.Laws.Rows
import Derived.Lib.AppendStr
import Derived.ArgAppend
import Derived.Laws.IdiomCopy
import Derived.OrdersHeld
import Derived.Laws.BitsLemmas
import Derived.RowKit
import Derived.ChangeAlike
import Derived.Deep.RegionLaw
import Derived.Deep.WholeRow
import Derived.Defers
import Derived.Laws.CopyOwn
import Derived.Lib.EndianBits
import Derived.Lib.SlBytesConst
import Derived.Recover
import Derived.RegionTactic
import Derived.StillTailTactics
import Derived.WalkLawsBesides
import Derived.Test.YtbokeoncpilgpaaWWords
import Derived.Test.YtbokeoncpilgpaaWLast
import Derived.Test.YtbokeoncpilgpaaWTab
import Derived.Test.YtbokeoncpilgpaaWFour
import Derived.Test.YtbokeoncpilgpaaWQPut
import Derived.Test.YtbokeoncpilgpaaWApart
import Derived.Test.YtbokeoncpilgpaaWArr
import Derived.Test.YtbokeoncpilgpaaWZeros
import Derived.Test.YtbokeoncpilgpaaWFoot
import Derived.Test.YtbokeoncpilgpaaWKept
import Derived.Test.YtbokeoncpilgpaaWShare
import Derived.Test.YtbokeoncpilgpaaWN
import Derived.Test.YtbokeoncpilgpaaWFootNe
import Derived.Test.YtbokeoncpilgpaaWAt
import Derived.Test.YtbokeoncpilgpaaWEqStruct
import Derived.Test.YtbokeoncpilgpaaWRepsOne
import Derived.Test.YtbokeoncpilgpaaWInv
import Derived.Test.YtbokeoncpilgpaaWInvWords
import Derived.Test.YtbokeoncpilgpaaWGuard
import Derived.Test.YtbokeoncpilgpaaWNEv
import Derived.Test.YtbokeoncpilgpaaWMore
namespace Go.Proofs.Ytbokeoncpilgpaa.Hp
open Go.RowKit Go.Proofs.YtbokeoncpilgpaaW.PrintWords Go.Proofs.YtbokeoncpilgpaaW.PrintLast Go.Proofs.YtbokeoncpilgpaaW.PrintMore
attribute [local go_sem] max2_int min2_int max_two min_two max_three min_three max_four min_four   -- for this text's walks alone
set_option linter.unusedVariables false
set_option linter.unusedSimpArgs false



theorem frozen_at' {w w1 : World} {m : Nat} {a : Addr} (hq : w.drewN m = w1) (h : w.frozen? a = false) : w1.frozen? a = false := by subst hq; exact h
def errW : Option Int → Value
  | none => .nilIface
  | some c => .iface 0 (.int .i64 c)
theorem errW_none : errW none = .nilIface := rfl
theorem errW_some (c : Int) : errW (some c) = .iface 0 (.int .i64 c) := rfl

-- short names for what the printed texts say often
theorem rfl_ {α : Sort _} {a b : α} (h : a = b := by first | rfl | (simp [errW_none, errW_some] <;> rfl) | (simp [*, errW_none, errW_some] <;> rfl)) : a = b := h
theorem Bu {B : Nat} {w W W1 : World} (h : Aside0 (Below B w W)) (hu : Below B w W → Below B w W1 := by intro h_; repeat (first | (with_reducible first | exact h_ | apply below_alloc | apply pw_below_drewN | apply below_drew1) | exact h_)) : Below B w W1 := hu h.out
theorem Bs {w W W1 w2 : World} (h : Aside0 (Below w.heap.size w W)) (k : Below W1.heap.size W1 w2) (hu : Below w.heap.size w W → Below w.heap.size w W1 := by intro h_; repeat (first | (with_reducible first | exact h_ | apply below_alloc | apply pw_below_drewN | apply below_drew1) | exact h_)) : Aside0 (Below w.heap.size w w2) := ⟨below_step (hu h.out) k⟩
theorem Bz {w W W1 : World} (h : Aside0 (Below w.heap.size w W)) (hu : Below w.heap.size w W → Below w.heap.size w W1 := by intro h_; repeat (first | (with_reducible first | exact h_ | apply below_alloc | apply pw_below_drewN | apply below_drew1) | exact h_)) : w.heap.size ≤ W1.heap.size := below_size (hu h.out)
theorem Cu {α : Type} {d : Kd α} {w W : World} {A : Option Addr} {n : Nat} {xs : List α} (h : d.C w A n xs) (hu : d.C w A n xs → d.C W A n xs := by intro h_; repeat (first | exact h_ | (with_reducible refine Kd.C_alloc ?_ _) | (with_reducible refine Kd.C_drewN ?_ _) | (with_reducible refine Kd.C_drew ?_))) : d.C W A n xs := hu h
section
variable {α : Type} {d : Kd α} {e base : Nat} {ok : Nat → Prop} {w W w1 : World} {u v : Value} {xs : List α}
theorem Vu (h : Aside0 (Kd.V d e w base ok v xs)) (hu : Kd.V d e w base ok v xs → Kd.V d e W base ok v xs := by intro h_; (with_reducible repeat (first | apply Kd.V_alloc | apply Kd.V_drewN | apply Kd.V_drew)); exact h_) : Kd.V d e W base ok v xs := hu h.out
theorem Vb (h : Aside0 (Kd.V d e w base ok v xs)) (hb : Below W.heap.size W w1) (hu : Kd.V d e w base ok v xs → Kd.V d e W base ok v xs := by intro h_; (with_reducible repeat (first | apply Kd.V_alloc | apply Kd.V_drewN | apply Kd.V_drew)); exact h_) : Aside0 (Kd.V d e w1 base ok v xs) := ⟨Kd.V_below (hu h.out) hb⟩
theorem Ve (h : Aside0 (Kd.V d e w base ok v xs)) (hn : ∀ k, u.ownBlock = some k → W.heap.size ≤ k) (hb : Below W.heap.size W w1) (hu : Kd.V d e w base ok v xs → Kd.V d e W base ok v xs := by intro h_; (with_reducible repeat (first | apply Kd.V_alloc | apply Kd.V_drewN | apply Kd.V_drew)); exact h_) : Aside0 (Kd.V d e w1 base (fun k => ok k ∧ some k ≠ u.ownBlock) v xs) := ⟨Kd.V_elder' (hu h.out) hn hb⟩
theorem Ru (h : Aside0 (Kd.R d e w base ok v xs)) (hu : Kd.R d e w base ok v xs → Kd.R d e W base ok v xs := by intro h_; (with_reducible repeat (first | apply Kd.R_alloc | apply Kd.R_drewN | apply Kd.R_drew)); exact h_) : Kd.R d e W base ok v xs := hu h.out
theorem Rb (h : Aside0 (Kd.R d e w base ok v xs)) (hb : Below W.heap.size W w1) (hu : Kd.R d e w base ok v xs → Kd.R d e W base ok v xs := by intro h_; (with_reducible repeat (first | apply Kd.R_alloc | apply Kd.R_drewN | apply Kd.R_drew)); exact h_) : Aside0 (Kd.R d e w1 base ok v xs) := ⟨Kd.R_below (hu h.out) hb⟩
theorem Re (h : Aside0 (Kd.R d e w base ok v xs)) (hn : ∀ k, u.ownBlock = some k → W.heap.size ≤ k) (hb : Below W.heap.size W w1) (hu : Kd.R d e w base ok v xs → Kd.R d e W base ok v xs := by intro h_; (with_reducible repeat (first | apply Kd.R_alloc | apply Kd.R_drewN | apply Kd.R_drew)); exact h_) : Aside0 (Kd.R d e w1 base (fun k => ok k ∧ some k ≠ u.ownBlock) v xs) := ⟨Kd.R_elder' (hu h.out) hn hb⟩
theorem Nu (h : Aside0 (Kd.N d e w base ok v xs)) (hu : Kd.N d e w base ok v xs → Kd.N d e W base ok v xs := by intro h_; (with_reducible repeat (first | apply Kd.N_alloc | apply Kd.N_drewN | apply Kd.N_drew)); exact h_) : Kd.N d e W base ok v xs := hu h.out
theorem Nb (h : Aside0 (Kd.N d e w base ok v xs)) (hb : Below W.heap.size W w1) (hu : Kd.N d e w base ok v xs → Kd.N d e W base ok v xs := by intro h_; (with_reducible repeat (first | apply Kd.N_alloc | apply Kd.N_drewN | apply Kd.N_drew)); exact h_) : Aside0 (Kd.N d e w1 base ok v xs) := ⟨Kd.N_below (hu h.out) hb⟩
theorem Ne (h : Aside0 (Kd.N d e w base ok v xs)) (hn : ∀ k, u.ownBlock = some k → W.heap.size ≤ k) (hb : Below W.heap.size W w1) (hu : Kd.N d e w base ok v xs → Kd.N d e W base ok v xs := by intro h_; (with_reducible repeat (first | apply Kd.N_alloc | apply Kd.N_drewN | apply Kd.N_drew)); exact h_) : Aside0 (Kd.N d e w1 base (fun k => ok k ∧ some k ≠ u.ownBlock) v xs) := ⟨Kd.N_elder' (hu h.out) hn hb⟩
theorem Su (h : Aside0 (Kd.S d e w base ok v xs)) (hu : Kd.S d e w base ok v xs → Kd.S d e W base ok v xs := by intro h_; (with_reducible repeat (first | apply Kd.S_alloc | apply Kd.S_drewN | apply Kd.S_drew)); exact h_) : Kd.S d e W base ok v xs := hu h.out
theorem Sb (h : Aside0 (Kd.S d e w base ok v xs)) (hb : Below W.heap.size W w1) (hu : Kd.S d e w base ok v xs → Kd.S d e W base ok v xs := by intro h_; (with_reducible repeat (first | apply Kd.S_alloc | apply Kd.S_drewN | apply Kd.S_drew)); exact h_) : Aside0 (Kd.S d e w1 base ok v xs) := ⟨Kd.S_below (hu h.out) hb⟩
theorem Se (h : Aside0 (Kd.S d e w base ok v xs)) (hn : ∀ k, u.ownBlock = some k → W.heap.size ≤ k) (hb : Below W.heap.size W w1) (hu : Kd.S d e w base ok v xs → Kd.S d e W base ok v xs := by intro h_; (with_reducible repeat (first | apply Kd.S_alloc | apply Kd.S_drewN | apply Kd.S_drew)); exact h_) : Aside0 (Kd.S d e w1 base (fun k => ok k ∧ some k ≠ u.ownBlock) v xs) := ⟨Kd.S_elder' (hu h.out) hn hb⟩
theorem Qu (h : Aside0 (Kd.Q d e w base ok v xs)) (hu : Kd.Q d e w base ok v xs → Kd.Q d e W base ok v xs := by intro h_; (with_reducible repeat (first | apply Kd.Q_alloc | apply Kd.Q_drewN | apply Kd.Q_drew)); exact h_) : Kd.Q d e W base ok v xs := hu h.out
theorem Qb (h : Aside0 (Kd.Q d e w base ok v xs)) (hb : Below W.heap.size W w1) (hu : Kd.Q d e w base ok v xs → Kd.Q d e W base ok v xs := by intro h_; (with_reducible repeat (first | apply Kd.Q_alloc | apply Kd.Q_drewN | apply Kd.Q_drew)); exact h_) : Aside0 (Kd.Q d e w1 base ok v xs) := ⟨Kd.Q_below (hu h.out) hb⟩
theorem Qe (h : Aside0 (Kd.Q d e w base ok v xs)) (hn : ∀ k, u.ownBlock = some k → W.heap.size ≤ k) (hb : Below W.heap.size W w1) (hu : Kd.Q d e w base ok v xs → Kd.Q d e W base ok v xs := by intro h_; (with_reducible repeat (first | apply Kd.Q_alloc | apply Kd.Q_drewN | apply Kd.Q_drew)); exact h_) : Aside0 (Kd.Q d e w1 base (fun k => ok k ∧ some k ≠ u.ownBlock) v xs) := ⟨Kd.Q_elder' (hu h.out) hn hb⟩
end
section
variable {P : Program} {ops : Array Oper} {rest : List Oper} {o : Oper} {a : Act} {Q : Exit → Act → World → Prop} {W : World}
theorem goesA (N : Option Tmp) {f : FuncId} {fn : Func} {as_ : Array Operand} {ts : Array TypeId} (hf : P.funcs[f]? = some fn) (args : Array Value) (hop : o.op = .call { callee := .value (.func f), args := as_, argTypes := ts })
    (h : Calls P f args W fun e w' => ∃ v, e = .returned v ∧ wpList P ops Q rest (a.put N v) w')
    (hd : o.dst = N := by exact rfl) (hg : o.guard = none := by exact rfl) (hname : (fn.name == "runtime.NumGoroutine") = false := by kernel_rfl) (hb : fn.body.isSome = true := by exact rfl)
    (hargs : as_.map a.eval = args := by (try simp only [List.map_toArray, List.map_cons, List.map_nil]); first | done | rfl | (simp only [List.length_drop, List.length_take]; rfl)) : wpList P ops Q (o :: rest) a W :=
  goesL_ N hd hg hf hname hb args hop hargs h
theorem reps_int {k : IntKind} {base : Nat} {okp : Nat → Prop} (xs : List Int) : Reps ((Kd.int k).M W base okp) 1 xs (xs.map (Value.int k)) := by
  refine ⟨by simp, fun j p hj => ?_⟩
  obtain ⟨h, rfl⟩ := List.getElem?_eq_some_iff.1 hj
  show ((xs.map (Value.int k)).drop (j * 1)).take 1 = [Value.int k xs[j]]
  rw [Nat.mul_one, List.drop_eq_getElem_cons (by simpa using h)]
  simp
theorem litI (k : IntKind) (e : Nat) (N : Tmp) (xs : List Int) (inner : List Value)
    (hr : (execOp a.eval o).run P W = .ok (.value (.slice (some ⟨W.heap.size, 0, none⟩) xs.length xs.length)) (W.alloc (.cells inner.toArray e)))
    (h : ∀ v1 w1, (Kd.int k).R e w1 W.heap.size (fun _ => True) v1 xs → Below W.heap.size W w1 → wpList P ops Q rest (a.put o.dst v1) w1)
    (hi : inner = xs.map (Value.int k) := by exact rfl) (hgd : o.guard = none := by exact rfl) (hd : o.dst = some N := by exact rfl) (hm : xs.length ≤ 9223372036854775807 := by simp) : wpList P ops Q (o :: rest) a W := by
  subst hi
  exact Kd.R_lit (Kd.int k) _ e hgd hd (inner := xs.map (Value.int k)) hr (reps_int (okp := fun _ => True) xs) (fun _ hk => hk) trivial (Below.refl _ _) (Nat.le_refl _) hm (fun v1 w1 h1 h2 _ _ => h v1 w1 h1 h2)
end
/-- Bytes read off cells, as a row that is read. -/
theorem bytes_row {w : World} {b : Nat} {l : List UInt8} (hl : l.length ≤ 9223372036854775807) (h : ∀ j, j < l.length → w.cell? ⟨b, j, none⟩ = some (.int .u8 (l.getD j 0).toNat)) : Kd.C (Kd.int .u8) w (some ⟨b, 0, none⟩) l.length (l.map fun c => (c.toNat : Int)) := by
  refine ⟨by simp, hl, fun _ => ⟨_, rfl, fun j p hp => ⟨[.int .u8 p], rfl, rfl, fun i u hu => ?_⟩⟩⟩
  obtain ⟨hj, hpj⟩ := List.getElem?_eq_some_iff.1 hp
  simp at hj
  match i, hu with
  | 0, hu =>
    obtain rfl := Option.some.inj hu
    have := h j hj
    rw [Addr.add_lit, show 0 + (j * (Kd.int IntKind.u8).sz + 0) = j from by show 0 + (j * 1 + 0) = j; omega, this]
    simp at hpj
    rw [← hpj, List.getD_eq_getElem?_getD, List.getElem?_eq_getElem hj]; rfl
  | i + 1, hu => simp at hu
/-- A text's bytes as numbers; what '[]byte(s)' makes, as a row that is read. -/
def bints (s : ByteArray) : List Int := s.data.toList.map fun c => (c.toNat : Int)
theorem bints_len (s : ByteArray) : (bints s).length = s.size := by unfold bints; rw [List.length_map, Array.length_toList]; rfl
theorem bints_row (w : World) (e : Nat) (s : ByteArray) (hs : s.size ≤ 140737488355328) : Kd.C (Kd.int .u8) (Lib.bytesWorld w e s) (some ⟨w.heap.size, 0, none⟩) (bints s).length (bints s) := by
  have := bytes_row (w := Lib.bytesWorld w e s) (b := w.heap.size) (l := s.data.toList) (by rw [Array.length_toList]; show s.size ≤ _; omega) (fun j hj => Lib.bytesWorld_cell w e s j (by rw [Array.length_toList] at hj; exact hj))
  rw [bints_len]
  rw [Array.length_toList] at this
  exact this
theorem bx {α β : Type} {o : Option α} {f : α → Option β} {r : β} (h : o.bind f = some r) : ∃ t, Aside0 (o = some t) ∧ f t = some r := by
  obtain ⟨t, h1, h2⟩ := Option.bind_eq_some_iff.mp h
  exact ⟨t, ⟨h1⟩, h2⟩
theorem ifs {α : Type} {c : Prop} {hd : Decidable c} {a : Option α} {r : α} (h : (if c then a else none) = some r) : c ∧ a = some r := by
  by_cases hc : c
  · rw [if_pos hc] at h; exact ⟨hc, h⟩
  · rw [if_neg hc] at h; cases h
theorem Ku {w W : World} {g : Nat} {o : Obj} (h : Aside0 (w.heap[g]? = some o)) (hu : w.heap[g]? = some o → W.heap[g]? = some o := by intro h_; (with_reducible repeat (first | refine blk_drewN ?_ _ | refine blk_drew ?_ | refine blk_alloc ?_ _)); exact h_) : W.heap[g]? = some o := hu h.out
theorem Kb {w W w1 : World} {g : Nat} {o : Obj} (h : Aside0 (w.heap[g]? = some o)) (hb : Below W.heap.size W w1) (hu : w.heap[g]? = some o → W.heap[g]? = some o := by intro h_; (with_reducible repeat (first | refine blk_drewN ?_ _ | refine blk_drew ?_ | refine blk_alloc ?_ _)); exact h_) : Aside0 (w1.heap[g]? = some o) := ⟨blk_below (hu h.out) hb⟩
theorem Bug {B : Nat} {w W W1 : World} (h : Aside0 (Below B w W)) (hu : Below B w W → Below B w W1 := by intro h_; repeat (first | (with_reducible first | exact h_ | apply below_alloc | apply pw_below_drewN | apply below_drew1 | refine below_set ?_ (Aside0.out (by assumption))) | exact h_)) : Below B w W1 := hu h.out
theorem Bsg {w W W1 w2 : World} (h : Aside0 (Below w.heap.size w W)) (k : Below W1.heap.size W1 w2) (hu : Below w.heap.size w W → Below w.heap.size w W1 := by intro h_; repeat (first | (with_reducible first | exact h_ | apply below_alloc | apply pw_below_drewN | apply below_drew1 | refine below_set ?_ (Aside0.out (by assumption))) | exact h_)) : Aside0 (Below w.heap.size w w2) := ⟨below_step (hu h.out) k⟩
theorem Bzg {w W W1 : World} (h : Aside0 (Below w.heap.size w W)) (hu : Below w.heap.size w W → Below w.heap.size w W1 := by intro h_; repeat (first | (with_reducible first | exact h_ | apply below_alloc | apply pw_below_drewN | apply below_drew1 | refine below_set ?_ (Aside0.out (by assumption))) | exact h_)) : w.heap.size ≤ W1.heap.size := below_size (hu h.out)
theorem dc_ {p : Prop} {hd : Decidable p} (h : decide p = true := by first | (with_reducible assumption) | assumption) : p := of_decide_eq_true h
theorem rv_ {α : Sort _} {a b : α} (h : a = b := by first | rfl | (simp; done) | (simp [*]; done)) : a = b := h

theorem info3 : (Try.prog.info? 3).map (fun i => (i.zero, i.size, i.bytes)) = some (some (.int .i64 0), 1, 8) := by kernel_rfl
theorem info5 : (Try.prog.info? 5).map (fun i => (i.zero, i.size, i.bytes)) = some (some (.int .u8 0), 1, 1) := by kernel_rfl
theorem info22 : (Try.prog.info? 22).map (fun i => (i.zero, i.size, i.bytes)) = some (some (.slice none 0 0), 1, 24) := by kernel_rfl
theorem info52 : (Try.prog.info? 52).map (fun i => (i.zero, i.size, i.bytes)) = some (some (.agg #[(.int .i64 0), (.int .i64 0)]), 2, 16) := by kernel_rfl
-- the values' own types
def rd_L2 (xs : List (List Int)) (i : Int) : (List Int) := xs.getD i.toNat ([] : List Int)
theorem at_L2 {w : World} {A : Option Addr} {n : Nat} {xs : List (List Int)} (h : Kd.C (Kd.slice 5 (Kd.int .u8)) w A n xs) (i : Int) (h0 : 0 ≤ i) (h1 : i < n) : ∃ ad A0 c0, A = some ad ∧ w.cell? (ad.add i.toNat) = some (.slice A0 (rd_L2 xs i).length c0) ∧ (rd_L2 xs i).length ≤ c0 ∧ (Kd.int .u8).C w A0 (rd_L2 xs i).length (rd_L2 xs i) := by
  obtain ⟨ad, c, e, _, hK, hc0⟩ := Kd.C_get h ([] : List Int) i h0 h1
  have hc : ∀ j u, c[j]? = some u → w.cell? (ad.add (i.toNat * 1 + j)) = some u := hc0
  obtain ⟨A0, c0, rfl, l0, g0⟩ := hK
  exact ⟨ad, A0, c0, e, by have hq := hc 0 _ rfl; rwa [Nat.mul_one, Nat.add_zero] at hq, l0, g0⟩

/-! #### struct type 52 -/
structure S52 where
  f0 : Int
  f1 : Int
def z52 : S52 := ⟨(0 : Int), (0 : Int)⟩
def k52 : Kd S52 := Kd.iso (Kd.pair (Kd.int .i64) (Kd.int .i64)) (fun x : S52 => (x.f0, x.f1))
theorem k52_open {w : World} {x : S52} {cs : List Value} (h : k52.K w x cs) : cs = [.int .i64 x.f0, .int .i64 x.f1] := by
  obtain ⟨_, _, rfl, rfl, rfl⟩ := h
  exact rfl
theorem k52_openM {w : World} {base : Nat} {ok : Nat → Prop} {x : S52} {cs : List Value} (h : k52.M w base ok x cs) : cs = [.int .i64 x.f0, .int .i64 x.f1] := by
  obtain ⟨_, _, rfl, rfl, rfl⟩ := h
  exact rfl
theorem k52_mk (w : World) (x : S52)  : k52.K w x [.int .i64 x.f0, .int .i64 x.f1] := ⟨[.int .i64 x.f0], [.int .i64 x.f1], rfl, rfl, rfl⟩
theorem k52_mkM (w : World) (base : Nat) (ok : Nat → Prop) (x : S52)  : k52.M w base ok x [.int .i64 x.f0, .int .i64 x.f1] := ⟨[.int .i64 x.f0], [.int .i64 x.f1], rfl, rfl, rfl⟩
theorem k52_mkF (W : World) (ok : Nat → Prop) (x : S52) : Kd.FK k52 W ok x [.int .i64 x.f0, .int .i64 x.f1] := fun W2 _ => k52_mk W2 x
def rd_T52 (xs : List S52) (i : Int) : S52 := xs.getD i.toNat z52
theorem at_T52 {w : World} {A : Option Addr} {n : Nat} {xs : List S52} (h : Kd.C k52 w A n xs) (i : Int) (h0 : 0 ≤ i) (h1 : i < n) : ∃ ad , A = some ad ∧ w.cell? (ad.add (i.toNat * 2)) = some (.int .i64 (rd_T52 xs i).f0) ∧ w.cell? ⟨(ad.add (i.toNat * 2)).block, (ad.add (i.toNat * 2)).off + 1, none⟩ = some (.int .i64 (rd_T52 xs i).f1) := by
  obtain ⟨ad, c, e, _, hK, hc0⟩ := Kd.C_get h z52 i h0 h1
  have hc : ∀ j u, c[j]? = some u → w.cell? (ad.add (i.toNat * 2 + j)) = some u := hc0
  obtain rfl := k52_open hK
  exact ⟨ad, e, hc 0 _ rfl, by rw [← add_field _ _ 1 (by omega)]; exact hc 1 _ rfl⟩

def rd_L5 (xs : List (List Int)) (i : Int) : (List Int) := xs.getD i.toNat ([] : List Int)
theorem at_L5 {w : World} {A : Option Addr} {n : Nat} {xs : List (List Int)} (h : Kd.C (Kd.slice 3 (Kd.int .i64)) w A n xs) (i : Int) (h0 : 0 ≤ i) (h1 : i < n) : ∃ ad A0 c0, A = some ad ∧ w.cell? (ad.add i.toNat) = some (.slice A0 (rd_L5 xs i).length c0) ∧ (rd_L5 xs i).length ≤ c0 ∧ (Kd.int .i64).C w A0 (rd_L5 xs i).length (rd_L5 xs i) := by
  obtain ⟨ad, c, e, _, hK, hc0⟩ := Kd.C_get h ([] : List Int) i h0 h1
  have hc : ∀ j u, c[j]? = some u → w.cell? (ad.add (i.toNat * 1 + j)) = some u := hc0
  obtain ⟨A0, c0, rfl, l0, g0⟩ := hK
  exact ⟨ad, A0, c0, e, by have hq := hc 0 _ rfl; rwa [Nat.mul_one, Nat.add_zero] at hq, l0, g0⟩

end Go.Proofs.Ytbokeoncpilgpaa.Hp
