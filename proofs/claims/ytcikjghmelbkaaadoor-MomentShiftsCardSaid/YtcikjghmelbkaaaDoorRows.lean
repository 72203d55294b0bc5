/-
  NARROWER THAN 'FOR EVERY INPUT', by the rows' own cells (each row's printed sentence says how): MomentPrints: laid · MomentDays: laid · MomentOrders: laid · MomentShifts: laid · MomentAdds: laid.
  DERIVED. THE GIVEN ROWS OF THIS SEAT. 5 by the template 'for every input the law returns true; each argument reads behind the call as it read before'; 0 by the template 'total and deterministic' (their statements: YtcikjghmelbkaaaDoorTotals.lean).
  GIVEN WITH THE SEED: the statements are not yours to turn. If you find one false, say at which input.
  Laid BY PROGRAM, IN A SANDBOX (cutbox-rows.mjs): the forced cells as the released guide's own fill.sh prints them over the translation a6af37e56503bf94… (all of the seat's roots in one cut). By AI agents, Wed Nov 11 2026. No macro, syntax, notation, axiom, sorry.
-/
import Derived.Test.YtcikjghmelbkaaaDoorChecked
import GoSem.PinnedTables
import GoSem.Claim
import GoSem.ClaimJoined
import GoSem.ClaimMapViews
import Derived.JoinedTies
import Derived.KernelRfl
namespace Go.Proofs.YtcikjghmelbkaaaDoor
/- THE CELL 'sum', in the pinned program and in every row, IS THE sha256 OF THE DUMP (.gsa) THAT YtcikjghmelbkaaaDoorProg.lean LOADS. Nothing in Lean hashes anything: it is a label: what it is worth is what the hold of that sum in a sandbox is worth. -/
noncomputable def Tryd.pinned : Pinned := { name := "ytcikjghmelbkaaadoor", sum := "a6af37e56503bf94cc0ffe7575d962f40d98a5b6388757adcd4bd4825ef500ac", checked := Tryd.checked }
namespace Rows
def none {H : Type} : Left H := { results := [], args := [] }

/- WHAT THE LISTED PACKAGE-LEVEL VARIABLES READ AS WHEN THE CALL BEGINS. Each datum BY PROGRAM (the guide's laid-datum.mjs) off the statement by which the dump's own 'gosem.cut.vars' lays the variable. In a bare row this is a premise. The card (YtcikjghmelbkaaaDoorCards.lean) ties it to the program's text. -/
def laid_unicode_utf8_acceptRanges {H : Type} : DataW H := .agg [.agg [.lit (.int .u8 128), .lit (.int .u8 191)], .agg [.lit (.int .u8 160), .lit (.int .u8 191)], .agg [.lit (.int .u8 128), .lit (.int .u8 159)], .agg [.lit (.int .u8 144), .lit (.int .u8 191)], .agg [.lit (.int .u8 128), .lit (.int .u8 143)], .agg [.lit (.int .u8 0), .lit (.int .u8 0)], .agg [.lit (.int .u8 0), .lit (.int .u8 0)], .agg [.lit (.int .u8 0), .lit (.int .u8 0)], .agg [.lit (.int .u8 0), .lit (.int .u8 0)], .agg [.lit (.int .u8 0), .lit (.int .u8 0)], .agg [.lit (.int .u8 0), .lit (.int .u8 0)], .agg [.lit (.int .u8 0), .lit (.int .u8 0)], .agg [.lit (.int .u8 0), .lit (.int .u8 0)], .agg [.lit (.int .u8 0), .lit (.int .u8 0)], .agg [.lit (.int .u8 0), .lit (.int .u8 0)], .agg [.lit (.int .u8 0), .lit (.int .u8 0)]]
/-- One of Go's own tables, pinned by name: the form's constant. -/
def laid_unicode_utf8_first : DataW Unit := Go.Pinned.utf8First

/-- 'lanyardlaw10.MomentPrints': WHATEVER THE INPUT: true; the input reads as it did. -/
def momentPrintsSpec : ChangeSpec := { name := "momentPrints", fn := fun _ => fun
  | [d] => { results := [.lit (.bool true)], args := [d] }
  | _ => none }
def momentPrintsRow : OpenClaim := { program := "ytcikjghmelbkaaadoor", sum := "a6af37e56503bf94cc0ffe7575d962f40d98a5b6388757adcd4bd4825ef500ac", func := "lanyard/lanyardlaw10.MomentPrints", spec := "momentPrints", inPlace := ["internal/bytealg.CountString", "internal/bytealg.IndexByteString", "internal/bytealg.IndexString", "internal/abi.NoEscape", "internal/bytealg.MakeNoZero"], unfollowed := true, recurses := true, named := ["unicode/utf8.first", "unicode/utf8.acceptRanges", "internal/bytealg.MaxLen"], apart := false, laid := [("unicode/utf8.acceptRanges", laid_unicode_utf8_acceptRanges), ("unicode/utf8.first", laid_unicode_utf8_first)] }
def MomentPrintsSaid : Prop := momentPrintsRow.holds Tryd.pinned (OpenSpec.ofChange momentPrintsSpec)

/-- ITS FALSE NEIGHBOUR: 'it returns false'. Refute it at one input. -/
def momentPrintsWrong : ChangeSpec := { name := "momentPrints", fn := fun _ => fun
  | [d] => { results := [.lit (.bool false)], args := [d] }
  | _ => none }
def MomentPrintsWrongFalsely : Prop := momentPrintsRow.holds Tryd.pinned (OpenSpec.ofChange momentPrintsWrong)

/-- 'lanyardlaw10.MomentDays': WHATEVER THE INPUT: true; the input reads as it did. -/
def momentDaysSpec : ChangeSpec := { name := "momentDays", fn := fun _ => fun
  | [d1, d2, d3] => { results := [.lit (.bool true)], args := [d1, d2, d3] }
  | _ => none }
def momentDaysRow : OpenClaim := { program := "ytcikjghmelbkaaadoor", sum := "a6af37e56503bf94cc0ffe7575d962f40d98a5b6388757adcd4bd4825ef500ac", func := "lanyard/lanyardlaw10.MomentDays", spec := "momentDays", inPlace := ["internal/bytealg.CountString", "internal/bytealg.IndexByteString", "internal/bytealg.IndexString", "internal/abi.NoEscape", "internal/bytealg.MakeNoZero"], unfollowed := true, recurses := true, named := ["unicode/utf8.first", "unicode/utf8.acceptRanges", "internal/bytealg.MaxLen"], apart := false, laid := [("unicode/utf8.acceptRanges", laid_unicode_utf8_acceptRanges), ("unicode/utf8.first", laid_unicode_utf8_first)] }
def MomentDaysSaid : Prop := momentDaysRow.holds Tryd.pinned (OpenSpec.ofChange momentDaysSpec)

/-- ITS FALSE NEIGHBOUR: 'it returns false'. Refute it at one input. -/
def momentDaysWrong : ChangeSpec := { name := "momentDays", fn := fun _ => fun
  | [d1, d2, d3] => { results := [.lit (.bool false)], args := [d1, d2, d3] }
  | _ => none }
def MomentDaysWrongFalsely : Prop := momentDaysRow.holds Tryd.pinned (OpenSpec.ofChange momentDaysWrong)

/-- 'lanyardlaw10.MomentOrders': WHATEVER THE INPUT: true; the input reads as it did. -/
def momentOrdersSpec : ChangeSpec := { name := "momentOrders", fn := fun _ => fun
  | [d1, d2] => { results := [.lit (.bool true)], args := [d1, d2] }
  | _ => none }
def momentOrdersRow : OpenClaim := { program := "ytcikjghmelbkaaadoor", sum := "a6af37e56503bf94cc0ffe7575d962f40d98a5b6388757adcd4bd4825ef500ac", func := "lanyard/lanyardlaw10.MomentOrders", spec := "momentOrders", inPlace := ["internal/bytealg.CountString", "internal/bytealg.IndexByteString", "internal/bytealg.IndexString", "internal/abi.NoEscape", "internal/bytealg.MakeNoZero"], unfollowed := true, recurses := true, named := ["unicode/utf8.first", "unicode/utf8.acceptRanges", "internal/bytealg.MaxLen"], apart := false, laid := [("unicode/utf8.acceptRanges", laid_unicode_utf8_acceptRanges), ("unicode/utf8.first", laid_unicode_utf8_first)] }
def MomentOrdersSaid : Prop := momentOrdersRow.holds Tryd.pinned (OpenSpec.ofChange momentOrdersSpec)

/-- ITS FALSE NEIGHBOUR: 'it returns false'. Refute it at one input. -/
def momentOrdersWrong : ChangeSpec := { name := "momentOrders", fn := fun _ => fun
  | [d1, d2] => { results := [.lit (.bool false)], args := [d1, d2] }
  | _ => none }
def MomentOrdersWrongFalsely : Prop := momentOrdersRow.holds Tryd.pinned (OpenSpec.ofChange momentOrdersWrong)

/-- 'lanyardlaw10.MomentShifts': WHATEVER THE INPUT: true; the input reads as it did. -/
def momentShiftsSpec : ChangeSpec := { name := "momentShifts", fn := fun _ => fun
  | [d1, d2, d3] => { results := [.lit (.bool true)], args := [d1, d2, d3] }
  | _ => none }
def momentShiftsRow : OpenClaim := { program := "ytcikjghmelbkaaadoor", sum := "a6af37e56503bf94cc0ffe7575d962f40d98a5b6388757adcd4bd4825ef500ac", func := "lanyard/lanyardlaw10.MomentShifts", spec := "momentShifts", inPlace := ["internal/bytealg.CountString", "internal/bytealg.IndexByteString", "internal/bytealg.IndexString", "internal/abi.NoEscape", "internal/bytealg.MakeNoZero"], unfollowed := true, recurses := true, named := ["unicode/utf8.first", "unicode/utf8.acceptRanges", "internal/bytealg.MaxLen"], apart := false, laid := [("unicode/utf8.acceptRanges", laid_unicode_utf8_acceptRanges), ("unicode/utf8.first", laid_unicode_utf8_first)] }
def MomentShiftsSaid : Prop := momentShiftsRow.holds Tryd.pinned (OpenSpec.ofChange momentShiftsSpec)

/-- ITS FALSE NEIGHBOUR: 'it returns false'. Refute it at one input. -/
def momentShiftsWrong : ChangeSpec := { name := "momentShifts", fn := fun _ => fun
  | [d1, d2, d3] => { results := [.lit (.bool false)], args := [d1, d2, d3] }
  | _ => none }
def MomentShiftsWrongFalsely : Prop := momentShiftsRow.holds Tryd.pinned (OpenSpec.ofChange momentShiftsWrong)

/-- 'lanyardlaw10.MomentAdds': WHATEVER THE INPUT: true; the input reads as it did. -/
def momentAddsSpec : ChangeSpec := { name := "momentAdds", fn := fun _ => fun
  | [d1, d2, d3] => { results := [.lit (.bool true)], args := [d1, d2, d3] }
  | _ => none }
def momentAddsRow : OpenClaim := { program := "ytcikjghmelbkaaadoor", sum := "a6af37e56503bf94cc0ffe7575d962f40d98a5b6388757adcd4bd4825ef500ac", func := "lanyard/lanyardlaw10.MomentAdds", spec := "momentAdds", inPlace := ["internal/bytealg.CountString", "internal/bytealg.IndexByteString", "internal/bytealg.IndexString", "internal/abi.NoEscape", "internal/bytealg.MakeNoZero"], unfollowed := true, recurses := true, named := ["unicode/utf8.first", "unicode/utf8.acceptRanges", "internal/bytealg.MaxLen"], apart := false, laid := [("unicode/utf8.acceptRanges", laid_unicode_utf8_acceptRanges), ("unicode/utf8.first", laid_unicode_utf8_first)] }
def MomentAddsSaid : Prop := momentAddsRow.holds Tryd.pinned (OpenSpec.ofChange momentAddsSpec)

/-- ITS FALSE NEIGHBOUR: 'it returns false'. Refute it at one input. -/
def momentAddsWrong : ChangeSpec := { name := "momentAdds", fn := fun _ => fun
  | [d1, d2, d3] => { results := [.lit (.bool false)], args := [d1, d2, d3] }
  | _ => none }
def MomentAddsWrongFalsely : Prop := momentAddsRow.holds Tryd.pinned (OpenSpec.ofChange momentAddsWrong)

/- THE SECOND FORM. 'bulk': how many values and letters a reading holds, each counted each time it is reached (what is shared counts as often as it is met; a slice's spare places count too). A statement '..UptoSaid' is the law's where the arguments, and the package variables that the reading takes, are together of bulk at most 1048576: NARROWER than '..Said'. Prove '..Said' where nothing that the law and all that it calls make is longer than what came in: it says more and counts as full. Else prove '..UptoSaid'. A law counts once. -/
mutual
def uptoBulk {H : Type} : DataW H → Nat
  | .lit (.string bytes) => bytes.length + 1
  | .lit _ => 1
  | .nil => 1
  | .ptr d => uptoBulk d + 1
  | .slice elems spare => uptoBulkAll elems + uptoBulkAll spare + 1
  | .agg parts => uptoBulkAll parts + 1
  | .iface _ d => uptoBulk d + 1
  | .map entries => uptoBulkEntries entries + 1
  | .held _ => 1
def uptoBulkAll {H : Type} : List (DataW H) → Nat
  | [] => 0
  | d :: r => uptoBulk d + uptoBulkAll r
def uptoBulkEntries {H : Type} : List (Lit × DataW H) → Nat
  | [] => 0
  | x :: r => uptoBulkEntry x + uptoBulkEntries r
def uptoBulkEntry {H : Type} : Lit × DataW H → Nat
  | (.string bytes, d) => bytes.length + uptoBulk d + 1
  | (_, d) => uptoBulk d + 1
 end
def uptoSmall : (H : Type) → List (DataW H) → Bool := fun _ ds => decide (uptoBulkAll ds ≤ 1048576)
def OpenSpec.upto (s : _root_.Go.ChangeSpec) : _root_.Go.OpenSpec := { _root_.Go.OpenSpec.ofChange s with cond := some uptoSmall }

/-- 'lanyardlaw10.MomentPrints', WHERE WHAT IT READS IS OF BULK AT MOST 1048576: true; the input reads as it did. -/
def momentPrintsUptoRow : OpenClaim := { program := "ytcikjghmelbkaaadoor", sum := "a6af37e56503bf94cc0ffe7575d962f40d98a5b6388757adcd4bd4825ef500ac", func := "lanyard/lanyardlaw10.MomentPrints", spec := "momentPrints", inPlace := ["internal/bytealg.CountString", "internal/bytealg.IndexByteString", "internal/bytealg.IndexString", "internal/abi.NoEscape", "internal/bytealg.MakeNoZero"], unfollowed := true, recurses := true, named := ["unicode/utf8.first", "unicode/utf8.acceptRanges", "internal/bytealg.MaxLen"], apart := false, laid := [("unicode/utf8.acceptRanges", laid_unicode_utf8_acceptRanges), ("unicode/utf8.first", laid_unicode_utf8_first)], narrowed := true }
def MomentPrintsUptoSaid : Prop := momentPrintsUptoRow.holds Tryd.pinned (OpenSpec.upto momentPrintsSpec)

/-- 'lanyardlaw10.MomentDays', WHERE WHAT IT READS IS OF BULK AT MOST 1048576: true; the input reads as it did. -/
def momentDaysUptoRow : OpenClaim := { program := "ytcikjghmelbkaaadoor", sum := "a6af37e56503bf94cc0ffe7575d962f40d98a5b6388757adcd4bd4825ef500ac", func := "lanyard/lanyardlaw10.MomentDays", spec := "momentDays", inPlace := ["internal/bytealg.CountString", "internal/bytealg.IndexByteString", "internal/bytealg.IndexString", "internal/abi.NoEscape", "internal/bytealg.MakeNoZero"], unfollowed := true, recurses := true, named := ["unicode/utf8.first", "unicode/utf8.acceptRanges", "internal/bytealg.MaxLen"], apart := false, laid := [("unicode/utf8.acceptRanges", laid_unicode_utf8_acceptRanges), ("unicode/utf8.first", laid_unicode_utf8_first)], narrowed := true }
def MomentDaysUptoSaid : Prop := momentDaysUptoRow.holds Tryd.pinned (OpenSpec.upto momentDaysSpec)

/-- 'lanyardlaw10.MomentOrders', WHERE WHAT IT READS IS OF BULK AT MOST 1048576: true; the input reads as it did. -/
def momentOrdersUptoRow : OpenClaim := { program := "ytcikjghmelbkaaadoor", sum := "a6af37e56503bf94cc0ffe7575d962f40d98a5b6388757adcd4bd4825ef500ac", func := "lanyard/lanyardlaw10.MomentOrders", spec := "momentOrders", inPlace := ["internal/bytealg.CountString", "internal/bytealg.IndexByteString", "internal/bytealg.IndexString", "internal/abi.NoEscape", "internal/bytealg.MakeNoZero"], unfollowed := true, recurses := true, named := ["unicode/utf8.first", "unicode/utf8.acceptRanges", "internal/bytealg.MaxLen"], apart := false, laid := [("unicode/utf8.acceptRanges", laid_unicode_utf8_acceptRanges), ("unicode/utf8.first", laid_unicode_utf8_first)], narrowed := true }
def MomentOrdersUptoSaid : Prop := momentOrdersUptoRow.holds Tryd.pinned (OpenSpec.upto momentOrdersSpec)

/-- 'lanyardlaw10.MomentShifts', WHERE WHAT IT READS IS OF BULK AT MOST 1048576: true; the input reads as it did. -/
def momentShiftsUptoRow : OpenClaim := { program := "ytcikjghmelbkaaadoor", sum := "a6af37e56503bf94cc0ffe7575d962f40d98a5b6388757adcd4bd4825ef500ac", func := "lanyard/lanyardlaw10.MomentShifts", spec := "momentShifts", inPlace := ["internal/bytealg.CountString", "internal/bytealg.IndexByteString", "internal/bytealg.IndexString", "internal/abi.NoEscape", "internal/bytealg.MakeNoZero"], unfollowed := true, recurses := true, named := ["unicode/utf8.first", "unicode/utf8.acceptRanges", "internal/bytealg.MaxLen"], apart := false, laid := [("unicode/utf8.acceptRanges", laid_unicode_utf8_acceptRanges), ("unicode/utf8.first", laid_unicode_utf8_first)], narrowed := true }
def MomentShiftsUptoSaid : Prop := momentShiftsUptoRow.holds Tryd.pinned (OpenSpec.upto momentShiftsSpec)

/-- 'lanyardlaw10.MomentAdds', WHERE WHAT IT READS IS OF BULK AT MOST 1048576: true; the input reads as it did. -/
def momentAddsUptoRow : OpenClaim := { program := "ytcikjghmelbkaaadoor", sum := "a6af37e56503bf94cc0ffe7575d962f40d98a5b6388757adcd4bd4825ef500ac", func := "lanyard/lanyardlaw10.MomentAdds", spec := "momentAdds", inPlace := ["internal/bytealg.CountString", "internal/bytealg.IndexByteString", "internal/bytealg.IndexString", "internal/abi.NoEscape", "internal/bytealg.MakeNoZero"], unfollowed := true, recurses := true, named := ["unicode/utf8.first", "unicode/utf8.acceptRanges", "internal/bytealg.MaxLen"], apart := false, laid := [("unicode/utf8.acceptRanges", laid_unicode_utf8_acceptRanges), ("unicode/utf8.first", laid_unicode_utf8_first)], narrowed := true }
def MomentAddsUptoSaid : Prop := momentAddsUptoRow.holds Tryd.pinned (OpenSpec.upto momentAddsSpec)

end Rows
end Go.Proofs.YtcikjghmelbkaaaDoor
