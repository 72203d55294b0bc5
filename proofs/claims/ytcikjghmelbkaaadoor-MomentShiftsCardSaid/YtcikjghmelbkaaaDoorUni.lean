/- What a call's first world holds of the library's variables, and that it goes on holding. -/
import Derived.Test.YtcikjghmelbkaaaDoorWWords
import Derived.Test.YtcikjghmelbkaaaDoorShelf
import Derived.Test.YtcikjghmelbkaaaDoorRows
import Derived.HandedShaped
import Derived.PinnedBridge
import Derived.Lib.LaidU8T
namespace Go.Proofs.YtcikjghmelbkaaaDoor.Hp
open Go.RowKit Go.Proofs.YtcikjghmelbkaaaDoorW.PrintWords
/-- The length up to which the library looks for a text in one step: some number; the two tables of unicode/utf8. -/
structure Uni (w : World) : Prop where
  len : ∃ m : Int, w.cell? ⟨0, 0, none⟩ = some (.int .i64 m)
  tabs : Lib.Utf8Tabs 1 2 w
theorem Uni.below {w W : World} (h : Uni w) (hb : Below w.heap.size w W) : Uni W := by
  obtain ⟨m, hm⟩ := h.len
  refine ⟨⟨m, ?_⟩, Utf8Tabs_below h.tabs hb⟩
  have := hb.block 0 (World.block_lt_of_cell? w _ hm)
  simpa [World.cell?, this] using hm
theorem Uni.drewN {w : World} (h : Uni w) (n : Nat) : Uni (w.drewN n) := ⟨h.len, h.tabs⟩
theorem Uni.drew {w : World} (h : Uni w) : Uni w.drew := ⟨h.len, h.tabs⟩
def u8Ren : Go.Shelf.Ren := ⟨fun n => n, fun | 5 => 5 | 119 => 96 | 138 => 98 | 139 => 99 | n => n, fun | 3 => 1 | 4 => 2 | n => n⟩
theorem u8Types : U8Types Tryd.prog u8Ren := ⟨Tryd.underlying5, Tryd.underlying96, Tryd.underlying98, Tryd.underlying99⟩
theorem u8Extra : U8Extra Tryd.prog u8Ren := ⟨by kernel_rfl, by kernel_rfl, by kernel_rfl, by kernel_rfl, by kernel_rfl, by kernel_rfl, by kernel_rfl⟩
theorem accept_eq : (Rows.laid_unicode_utf8_acceptRanges : DataW Unit) = Lib.acceptData := by kernel_rfl
theorem Uni.of_shape {w : World} (h : w.ShapedOpen Tryd.prog) {l : List (String × DataW Unit)} (hl : laidMetH Tryd.prog l w) (h1 : ("unicode/utf8.first", Rows.laid_unicode_utf8_first) ∈ l := by first | exact List.Mem.head _ | exact List.Mem.tail _ (List.Mem.head _) | exact List.Mem.tail _ (List.Mem.tail _ (List.Mem.head _)) | exact List.Mem.tail _ (List.Mem.tail _ (List.Mem.tail _ (List.Mem.head _)))) (h2 : ("unicode/utf8.acceptRanges", Rows.laid_unicode_utf8_acceptRanges) ∈ l := by first | exact List.Mem.head _ | exact List.Mem.tail _ (List.Mem.head _) | exact List.Mem.tail _ (List.Mem.tail _ (List.Mem.head _)) | exact List.Mem.tail _ (List.Mem.tail _ (List.Mem.tail _ (List.Mem.head _))))
    (hp : (l.filter fun x => x.2.handleName?.isSome) = [] := by kernel_rfl) : Uni w := by
  have hm : laidMet Tryd.prog l w := by
    unfold laidMetH at hl
    rw [hp] at hl
    exact hl
  refine ⟨Tryd.laysM146.s1_3 w h, utf8Tabs_of_readsT u8Types u8Extra ?_ ?_⟩
  · rw [← Pinned.utf8First_eq]; exact Lib.laidMet.reads hm h1
  · rw [← accept_eq]; exact Lib.laidMet.reads hm h2
theorem Uni.up {w W : World} (h : Aside0 (Uni w)) (hb : Below w.heap.size w W) : Uni W := h.out.below hb
end Go.Proofs.YtcikjghmelbkaaaDoor.Hp
namespace Go.Proofs.YtcikjghmelbkaaaDoor.Hp
variable {H : Type} {enc : TypeId × Value → H}
/-- The way from a contract over worlds of the program's shape, in which the listed variables read as listed, to the row. -/
theorem uni_change {a : Assume} {C : Checked} {os : Os} {f : FuncId} {fn : Func} {s : ChangeSpec} {conds : List PathCond} {apart fresh handsOn again : Bool} {X : World → Array Value → Prop}
    (hX : ∀ (w w' : World) (args : Array Value), w.heap = w'.heap → X w args → X w' args)
    (own : ownKnob C.prog.godebug = none) (started : os.Started) (noInit : C.prog.inits.idxOf? f = none) (hfn : C.prog.funcs[f]? = some fn)
    (witness : ∃ (w : World) (tape : Tape) (i : Input), w.os = os ∧ (w.forCall tape i).Shaped C.prog ∧ i.vars = [] ∧ Input.okWide C.prog (w.forCall tape i) .any w.heap.size f i ∧
      ((s.pre enc C.prog fn conds apart (w.forCall tape i).memory i.args ∧ X (w.forCall tape i).memory i.args) ∧ sizedMet enc C.prog fn (OpenSpec.ofChange s) apart (w.forCall tape i).memory i.args) ∧ a.holds C.prog (lone (Frame.enter C.prog f i.args .normal) [] (w.forCall tape i)))
    (contract : ∀ (W : World) (base : Nat) (args : Array Value) (ds gs : List (DataW H)) (before : List MemPlace),
      (∀ (j : Nat) t v, fn.params[j]? = some t → args[j]? = some v → Value.okWide C.prog W .any base t v) →
      DataW.Whole enc C.prog fn.params.toList s.vars apart W args.toList ds gs before →
      conds.all (PathCond.test C.prog ⟨fn.params.toList, ds, s.plain.varTypes C.prog, gs⟩) = true →
      (DataW.weightsEach C.prog (fn.params.toList ++ s.plain.varTypes C.prog) (ds ++ gs)).all (· ≤ reachBytes) = true → X W args → W.ShapedOpen C.prog →
      a.holds C.prog (lone (Frame.enter C.prog f args .normal) [] W) →
      Calls C.prog f args W fun e W' => ∃ v, e = .returned v ∧ s.post enc C.prog fn apart fresh handsOn again W args v W') :
    ReturnsInHanded a C os f .any (fun w args => (s.pre enc C.prog fn conds apart w args ∧ X w args) ∧ sizedMet enc C.prog fn (OpenSpec.ofChange s) apart w args) (s.post enc C.prog fn apart fresh handsOn again) := by
  refine returnsInHanded_of_calls own started noInit witness fun w tape i _ hsh _ hok hpre hholds => ?_
  obtain ⟨_, _, _, fn', hfn', _, _, _, _, hval⟩ := hok
  obtain rfl : fn' = fn := Option.some.inj (hfn'.symm.trans hfn)
  obtain ⟨⟨⟨ds, gs, before, hw, hc⟩, hx⟩, hz⟩ := hpre
  have hc' := contract (w.forCall tape i) w.heap.size i.args ds gs before hval (DataW.Whole.of_heap (w' := w.forCall tape i) (by rfl) hw) hc (hz.weights hw) (hX _ _ _ (by rfl) hx) hsh hholds
  exact hc'.mono fun e W' ⟨v, he, hp⟩ => by
    subst he
    exact ChangeSpec.post_blind hp
end Go.Proofs.YtcikjghmelbkaaaDoor.Hp
