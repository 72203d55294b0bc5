/-
  No cell of these rows narrows 'for every input' (looked for: loops, veiled, ifaces, maps, wideKeys, modest, calm, conditions, laid).
  DERIVED. THE GIVEN ROWS OF THIS SEAT. 6 by the template 'for every input the law returns true; each argument reads behind the call as it read before'; 0 by the template 'total and deterministic' (their statements: YtbokeoncpilgpaaTotals.lean).
  GIVEN WITH THE SEED: the statements are not yours to turn. If you find one false, say at which input.
  Laid BY PROGRAM, IN A SANDBOX (cutbox-rows.mjs): the forced cells as the released guide's own fill.sh prints them over the translation 93853d2cc6694d0b… (all of the seat's roots in one cut). By AI agents, Wed Nov 11 2026. No macro, syntax, notation, axiom, sorry.
-/
import Derived.Test.YtbokeoncpilgpaaChecked
import GoSem.Claim
import GoSem.ClaimJoined
import GoSem.ClaimMapViews
import Derived.JoinedTies
import Derived.KernelRfl
namespace Go.Proofs.Ytbokeoncpilgpaa
/- THE CELL 'sum', in the pinned program and in every row, IS THE sha256 OF THE DUMP (.gsa) THAT YtbokeoncpilgpaaProg.lean LOADS. Nothing in Lean hashes anything: it is a label: what it is worth is what the hold of that sum in a sandbox is worth. -/
noncomputable def Try.pinned : Pinned := { name := "ytbokeoncpilgpaa", sum := "93853d2cc6694d0b8020d7eb83e8050984619703b37eab0dc7bee3313f959afd", checked := Try.checked }
namespace Rows
def none {H : Type} : Left H := { results := [], args := [] }

/-- 'lanyardlaw04.FlateShort': WHATEVER THE INPUT: true; the input reads as it did. -/
def flateShortSpec : ChangeSpec := { name := "flateShort", fn := fun _ => fun
  | [d1, d2, d3] => { results := [.lit (.bool true)], args := [d1, d2, d3] }
  | _ => none }
def flateShortRow : OpenClaim := { program := "ytbokeoncpilgpaa", sum := "93853d2cc6694d0b8020d7eb83e8050984619703b37eab0dc7bee3313f959afd", func := "lanyard/lanyardlaw04.FlateShort", spec := "flateShort", unfollowed := true, recurses := true, apart := false }
def FlateShortSaid : Prop := flateShortRow.holds Try.pinned (OpenSpec.ofChange flateShortSpec)

/-- ITS FALSE NEIGHBOUR: 'it returns false'. Refute it at one input. -/
def flateShortWrong : ChangeSpec := { name := "flateShort", fn := fun _ => fun
  | [d1, d2, d3] => { results := [.lit (.bool false)], args := [d1, d2, d3] }
  | _ => none }
def FlateShortWrongFalsely : Prop := flateShortRow.holds Try.pinned (OpenSpec.ofChange flateShortWrong)

/-- 'lanyardlaw04.FlateAny': WHATEVER THE INPUT: true; the input reads as it did. -/
def flateAnySpec : ChangeSpec := { name := "flateAny", fn := fun _ => fun
  | [d1, d2] => { results := [.lit (.bool true)], args := [d1, d2] }
  | _ => none }
def flateAnyRow : OpenClaim := { program := "ytbokeoncpilgpaa", sum := "93853d2cc6694d0b8020d7eb83e8050984619703b37eab0dc7bee3313f959afd", func := "lanyard/lanyardlaw04.FlateAny", spec := "flateAny", unfollowed := true, recurses := true, apart := false }
def FlateAnySaid : Prop := flateAnyRow.holds Try.pinned (OpenSpec.ofChange flateAnySpec)

/-- ITS FALSE NEIGHBOUR: 'it returns false'. Refute it at one input. -/
def flateAnyWrong : ChangeSpec := { name := "flateAny", fn := fun _ => fun
  | [d1, d2] => { results := [.lit (.bool false)], args := [d1, d2] }
  | _ => none }
def FlateAnyWrongFalsely : Prop := flateAnyRow.holds Try.pinned (OpenSpec.ofChange flateAnyWrong)

/-- 'lanyardlaw04.FlateCodes': WHATEVER THE INPUT: true; the input reads as it did. -/
def flateCodesSpec : ChangeSpec := { name := "flateCodes", fn := fun _ => fun
  | [d1, d2, d3] => { results := [.lit (.bool true)], args := [d1, d2, d3] }
  | _ => none }
def flateCodesRow : OpenClaim := { program := "ytbokeoncpilgpaa", sum := "93853d2cc6694d0b8020d7eb83e8050984619703b37eab0dc7bee3313f959afd", func := "lanyard/lanyardlaw04.FlateCodes", spec := "flateCodes", unfollowed := true, recurses := true, apart := false }
def FlateCodesSaid : Prop := flateCodesRow.holds Try.pinned (OpenSpec.ofChange flateCodesSpec)

/-- ITS FALSE NEIGHBOUR: 'it returns false'. Refute it at one input. -/
def flateCodesWrong : ChangeSpec := { name := "flateCodes", fn := fun _ => fun
  | [d1, d2, d3] => { results := [.lit (.bool false)], args := [d1, d2, d3] }
  | _ => none }
def FlateCodesWrongFalsely : Prop := flateCodesRow.holds Try.pinned (OpenSpec.ofChange flateCodesWrong)

/-- 'lanyardlaw04.FlateCuts': WHATEVER THE INPUT: true; the input reads as it did. -/
def flateCutsSpec : ChangeSpec := { name := "flateCuts", fn := fun _ => fun
  | [d1, d2] => { results := [.lit (.bool true)], args := [d1, d2] }
  | _ => none }
def flateCutsRow : OpenClaim := { program := "ytbokeoncpilgpaa", sum := "93853d2cc6694d0b8020d7eb83e8050984619703b37eab0dc7bee3313f959afd", func := "lanyard/lanyardlaw04.FlateCuts", spec := "flateCuts", unfollowed := true, recurses := true, apart := false }
def FlateCutsSaid : Prop := flateCutsRow.holds Try.pinned (OpenSpec.ofChange flateCutsSpec)

/-- ITS FALSE NEIGHBOUR: 'it returns false'. Refute it at one input. -/
def flateCutsWrong : ChangeSpec := { name := "flateCuts", fn := fun _ => fun
  | [d1, d2] => { results := [.lit (.bool false)], args := [d1, d2] }
  | _ => none }
def FlateCutsWrongFalsely : Prop := flateCutsRow.holds Try.pinned (OpenSpec.ofChange flateCutsWrong)

/-- 'lanyardlaw04.FlateRuns': WHATEVER THE INPUT: true; the input reads as it did. -/
def flateRunsSpec : ChangeSpec := { name := "flateRuns", fn := fun _ => fun
  | [d1, d2] => { results := [.lit (.bool true)], args := [d1, d2] }
  | _ => none }
def flateRunsRow : OpenClaim := { program := "ytbokeoncpilgpaa", sum := "93853d2cc6694d0b8020d7eb83e8050984619703b37eab0dc7bee3313f959afd", func := "lanyard/lanyardlaw04.FlateRuns", spec := "flateRuns", unfollowed := true, recurses := true, apart := false }
def FlateRunsSaid : Prop := flateRunsRow.holds Try.pinned (OpenSpec.ofChange flateRunsSpec)

/-- ITS FALSE NEIGHBOUR: 'it returns false'. Refute it at one input. -/
def flateRunsWrong : ChangeSpec := { name := "flateRuns", fn := fun _ => fun
  | [d1, d2] => { results := [.lit (.bool false)], args := [d1, d2] }
  | _ => none }
def FlateRunsWrongFalsely : Prop := flateRunsRow.holds Try.pinned (OpenSpec.ofChange flateRunsWrong)

/-- 'lanyardlaw04.FlateLong': WHATEVER THE INPUT: true; the input reads as it did. -/
def flateLongSpec : ChangeSpec := { name := "flateLong", fn := fun _ => fun
  | [d1, d2] => { results := [.lit (.bool true)], args := [d1, d2] }
  | _ => none }
def flateLongRow : OpenClaim := { program := "ytbokeoncpilgpaa", sum := "93853d2cc6694d0b8020d7eb83e8050984619703b37eab0dc7bee3313f959afd", func := "lanyard/lanyardlaw04.FlateLong", spec := "flateLong", unfollowed := true, recurses := true, apart := false }
def FlateLongSaid : Prop := flateLongRow.holds Try.pinned (OpenSpec.ofChange flateLongSpec)

/-- ITS FALSE NEIGHBOUR: 'it returns false'. Refute it at one input. -/
def flateLongWrong : ChangeSpec := { name := "flateLong", fn := fun _ => fun
  | [d1, d2] => { results := [.lit (.bool false)], args := [d1, d2] }
  | _ => none }
def FlateLongWrongFalsely : Prop := flateLongRow.holds Try.pinned (OpenSpec.ofChange flateLongWrong)

/- THE SECOND FORM. 'bulk': how many values and letters a reading holds, each counted each time it is reached (what is shared counts as often as it is met; a slice's spare places count too). A statement '..UptoSaid' is the law's where the arguments, and the package variables that the reading takes, are together of bulk at most 1048576: NARROWER than '..Said'. Prove '..Said' where nothing that the law and all that it calls make is longer than what came in: it says more and counts as full. Else prove '..UptoSaid'. A law counts once. -/
mutual
def uptoBulk {H : Type} : DataW H → Nat
  | .lit (.string bytes) => bytes.length + 1
  | .lit _ => 1
  | .nil => 1
  | .ptr d => uptoBulk d + 1
  | .slice elems spare => uptoBulkAll elems + uptoBulkAll spare + 1
  | .agg parts => uptoBulkAll parts + 1
  | .iface _ d => uptoBulk d + 1
  | .map entries => uptoBulkEntries entries + 1
  | .held _ => 1
def uptoBulkAll {H : Type} : List (DataW H) → Nat
  | [] => 0
  | d :: r => uptoBulk d + uptoBulkAll r
def uptoBulkEntries {H : Type} : List (Lit × DataW H) → Nat
  | [] => 0
  | x :: r => uptoBulkEntry x + uptoBulkEntries r
def uptoBulkEntry {H : Type} : Lit × DataW H → Nat
  | (.string bytes, d) => bytes.length + uptoBulk d + 1
  | (_, d) => uptoBulk d + 1
 end
def uptoSmall : (H : Type) → List (DataW H) → Bool := fun _ ds => decide (uptoBulkAll ds ≤ 1048576)
def OpenSpec.upto (s : _root_.Go.ChangeSpec) : _root_.Go.OpenSpec := { _root_.Go.OpenSpec.ofChange s with cond := some uptoSmall }

/-- 'lanyardlaw04.FlateShort', WHERE WHAT IT READS IS OF BULK AT MOST 1048576: true; the input reads as it did. -/
def flateShortUptoRow : OpenClaim := { program := "ytbokeoncpilgpaa", sum := "93853d2cc6694d0b8020d7eb83e8050984619703b37eab0dc7bee3313f959afd", func := "lanyard/lanyardlaw04.FlateShort", spec := "flateShort", unfollowed := true, recurses := true, apart := false, narrowed := true }
def FlateShortUptoSaid : Prop := flateShortUptoRow.holds Try.pinned (OpenSpec.upto flateShortSpec)

/-- 'lanyardlaw04.FlateAny', WHERE WHAT IT READS IS OF BULK AT MOST 1048576: true; the input reads as it did. -/
def flateAnyUptoRow : OpenClaim := { program := "ytbokeoncpilgpaa", sum := "93853d2cc6694d0b8020d7eb83e8050984619703b37eab0dc7bee3313f959afd", func := "lanyard/lanyardlaw04.FlateAny", spec := "flateAny", unfollowed := true, recurses := true, apart := false, narrowed := true }
def FlateAnyUptoSaid : Prop := flateAnyUptoRow.holds Try.pinned (OpenSpec.upto flateAnySpec)

/-- 'lanyardlaw04.FlateCodes', WHERE WHAT IT READS IS OF BULK AT MOST 1048576: true; the input reads as it did. -/
def flateCodesUptoRow : OpenClaim := { program := "ytbokeoncpilgpaa", sum := "93853d2cc6694d0b8020d7eb83e8050984619703b37eab0dc7bee3313f959afd", func := "lanyard/lanyardlaw04.FlateCodes", spec := "flateCodes", unfollowed := true, recurses := true, apart := false, narrowed := true }
def FlateCodesUptoSaid : Prop := flateCodesUptoRow.holds Try.pinned (OpenSpec.upto flateCodesSpec)

/-- 'lanyardlaw04.FlateCuts', WHERE WHAT IT READS IS OF BULK AT MOST 1048576: true; the input reads as it did. -/
def flateCutsUptoRow : OpenClaim := { program := "ytbokeoncpilgpaa", sum := "93853d2cc6694d0b8020d7eb83e8050984619703b37eab0dc7bee3313f959afd", func := "lanyard/lanyardlaw04.FlateCuts", spec := "flateCuts", unfollowed := true, recurses := true, apart := false, narrowed := true }
def FlateCutsUptoSaid : Prop := flateCutsUptoRow.holds Try.pinned (OpenSpec.upto flateCutsSpec)

/-- 'lanyardlaw04.FlateRuns', WHERE WHAT IT READS IS OF BULK AT MOST 1048576: true; the input reads as it did. -/
def flateRunsUptoRow : OpenClaim := { program := "ytbokeoncpilgpaa", sum := "93853d2cc6694d0b8020d7eb83e8050984619703b37eab0dc7bee3313f959afd", func := "lanyard/lanyardlaw04.FlateRuns", spec := "flateRuns", unfollowed := true, recurses := true, apart := false, narrowed := true }
def FlateRunsUptoSaid : Prop := flateRunsUptoRow.holds Try.pinned (OpenSpec.upto flateRunsSpec)

/-- 'lanyardlaw04.FlateLong', WHERE WHAT IT READS IS OF BULK AT MOST 1048576: true; the input reads as it did. -/
def flateLongUptoRow : OpenClaim := { program := "ytbokeoncpilgpaa", sum := "93853d2cc6694d0b8020d7eb83e8050984619703b37eab0dc7bee3313f959afd", func := "lanyard/lanyardlaw04.FlateLong", spec := "flateLong", unfollowed := true, recurses := true, apart := false, narrowed := true }
def FlateLongUptoSaid : Prop := flateLongUptoRow.holds Try.pinned (OpenSpec.upto flateLongSpec)

end Rows
end Go.Proofs.Ytbokeoncpilgpaa
