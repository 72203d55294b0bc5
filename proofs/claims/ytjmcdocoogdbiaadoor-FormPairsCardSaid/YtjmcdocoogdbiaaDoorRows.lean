/-
  NARROWER THAN 'FOR EVERY INPUT', by the rows' own cells (each row's printed sentence says how): FormPercents: laid · FormQueries: laid · FormPairs: laid · FormTurns: laid · FormApart: laid.
  DERIVED. THE GIVEN ROWS OF THIS SEAT. 5 by the template 'for every input the law returns true; each argument reads behind the call as it read before'; 0 by the template 'total and deterministic' (their statements: YtjmcdocoogdbiaaDoorTotals.lean).
  GIVEN WITH THE SEED: the statements are not yours to turn. If you find one false, say at which input.
  Laid BY PROGRAM, IN A SANDBOX (cutbox-rows.mjs): the forced cells as the released guide's own fill.sh prints them over the translation bbdd58c9f2b50bb8… (all of the seat's roots in one cut). By AI agents, Wed Nov 11 2026. No macro, syntax, notation, axiom, sorry.
-/
import Derived.Test.YtjmcdocoogdbiaaDoorChecked
import GoSem.PinnedTables
import GoSem.Claim
import GoSem.ClaimJoined
import GoSem.ClaimMapViews
import Derived.JoinedTies
import Derived.KernelRfl
namespace Go.Proofs.YtjmcdocoogdbiaaDoor
/- THE CELL 'sum', in the pinned program and in every row, IS THE sha256 OF THE DUMP (.gsa) THAT YtjmcdocoogdbiaaDoorProg.lean LOADS. Nothing in Lean hashes anything: it is a label: what it is worth is what the hold of that sum in a sandbox is worth. -/
noncomputable def Tryd.pinned : Pinned := { name := "ytjmcdocoogdbiaadoor", sum := "bbdd58c9f2b50bb8d0bab8b5450b5e0dbbfa0300b2025557166c3c4652432bf6", checked := Tryd.checked }
namespace Rows
def none {H : Type} : Left H := { results := [], args := [] }

/- WHAT THE LISTED PACKAGE-LEVEL VARIABLES READ AS WHEN THE CALL BEGINS. Each datum BY PROGRAM (the guide's laid-datum.mjs) off the statement by which the dump's own 'gosem.cut.vars' lays the variable. In a bare row this is a premise. The card (YtjmcdocoogdbiaaDoorCards.lean) ties it to the program's text. -/
def laid_unicode_utf8_acceptRanges {H : Type} : DataW H := .agg [.agg [.lit (.int .u8 128), .lit (.int .u8 191)], .agg [.lit (.int .u8 160), .lit (.int .u8 191)], .agg [.lit (.int .u8 128), .lit (.int .u8 159)], .agg [.lit (.int .u8 144), .lit (.int .u8 191)], .agg [.lit (.int .u8 128), .lit (.int .u8 143)], .agg [.lit (.int .u8 0), .lit (.int .u8 0)], .agg [.lit (.int .u8 0), .lit (.int .u8 0)], .agg [.lit (.int .u8 0), .lit (.int .u8 0)], .agg [.lit (.int .u8 0), .lit (.int .u8 0)], .agg [.lit (.int .u8 0), .lit (.int .u8 0)], .agg [.lit (.int .u8 0), .lit (.int .u8 0)], .agg [.lit (.int .u8 0), .lit (.int .u8 0)], .agg [.lit (.int .u8 0), .lit (.int .u8 0)], .agg [.lit (.int .u8 0), .lit (.int .u8 0)], .agg [.lit (.int .u8 0), .lit (.int .u8 0)], .agg [.lit (.int .u8 0), .lit (.int .u8 0)]]
/-- One of Go's own tables, pinned by name: the form's constant. -/
def laid_unicode_utf8_first : DataW Unit := Go.Pinned.utf8First

/-- 'lanyardlaw03.FormPercents': WHATEVER THE INPUT: true; the input reads as it did. -/
def formPercentsSpec : ChangeSpec := { name := "formPercents", fn := fun _ => fun
  | [d1, d2] => { results := [.lit (.bool true)], args := [d1, d2] }
  | _ => none }
def formPercentsRow : OpenClaim := { program := "ytjmcdocoogdbiaadoor", sum := "bbdd58c9f2b50bb8d0bab8b5450b5e0dbbfa0300b2025557166c3c4652432bf6", func := "lanyard/lanyardlaw03.FormPercents", spec := "formPercents", inPlace := ["internal/bytealg.CountString", "internal/bytealg.IndexByteString", "internal/bytealg.IndexString", "internal/abi.NoEscape", "internal/bytealg.MakeNoZero"], unfollowed := true, recurses := true, named := ["unicode/utf8.first", "unicode/utf8.acceptRanges", "internal/bytealg.MaxLen"], apart := false, laid := [("unicode/utf8.acceptRanges", laid_unicode_utf8_acceptRanges), ("unicode/utf8.first", laid_unicode_utf8_first)] }
def FormPercentsSaid : Prop := formPercentsRow.holds Tryd.pinned (OpenSpec.ofChange formPercentsSpec)

/-- ITS FALSE NEIGHBOUR: 'it returns false'. Refute it at one input. -/
def formPercentsWrong : ChangeSpec := { name := "formPercents", fn := fun _ => fun
  | [d1, d2] => { results := [.lit (.bool false)], args := [d1, d2] }
  | _ => none }
def FormPercentsWrongFalsely : Prop := formPercentsRow.holds Tryd.pinned (OpenSpec.ofChange formPercentsWrong)

/-- 'lanyardlaw03.FormQueries': WHATEVER THE INPUT: true; the input reads as it did. -/
def formQueriesSpec : ChangeSpec := { name := "formQueries", fn := fun _ => fun
  | [d1, d2] => { results := [.lit (.bool true)], args := [d1, d2] }
  | _ => none }
def formQueriesRow : OpenClaim := { program := "ytjmcdocoogdbiaadoor", sum := "bbdd58c9f2b50bb8d0bab8b5450b5e0dbbfa0300b2025557166c3c4652432bf6", func := "lanyard/lanyardlaw03.FormQueries", spec := "formQueries", inPlace := ["internal/bytealg.CountString", "internal/bytealg.IndexByteString", "internal/bytealg.IndexString", "internal/abi.NoEscape", "internal/bytealg.MakeNoZero"], unfollowed := true, recurses := true, named := ["unicode/utf8.first", "unicode/utf8.acceptRanges", "internal/bytealg.MaxLen"], apart := false, laid := [("unicode/utf8.acceptRanges", laid_unicode_utf8_acceptRanges), ("unicode/utf8.first", laid_unicode_utf8_first)] }
def FormQueriesSaid : Prop := formQueriesRow.holds Tryd.pinned (OpenSpec.ofChange formQueriesSpec)

/-- ITS FALSE NEIGHBOUR: 'it returns false'. Refute it at one input. -/
def formQueriesWrong : ChangeSpec := { name := "formQueries", fn := fun _ => fun
  | [d1, d2] => { results := [.lit (.bool false)], args := [d1, d2] }
  | _ => none }
def FormQueriesWrongFalsely : Prop := formQueriesRow.holds Tryd.pinned (OpenSpec.ofChange formQueriesWrong)

/-- 'lanyardlaw03.FormPairs': WHATEVER THE INPUT: true; the input reads as it did. -/
def formPairsSpec : ChangeSpec := { name := "formPairs", fn := fun _ => fun
  | [d1, d2] => { results := [.lit (.bool true)], args := [d1, d2] }
  | _ => none }
def formPairsRow : OpenClaim := { program := "ytjmcdocoogdbiaadoor", sum := "bbdd58c9f2b50bb8d0bab8b5450b5e0dbbfa0300b2025557166c3c4652432bf6", func := "lanyard/lanyardlaw03.FormPairs", spec := "formPairs", inPlace := ["internal/bytealg.CountString", "internal/bytealg.IndexByteString", "internal/bytealg.IndexString", "internal/abi.NoEscape", "internal/bytealg.MakeNoZero"], unfollowed := true, recurses := true, named := ["unicode/utf8.first", "unicode/utf8.acceptRanges", "internal/bytealg.MaxLen"], apart := false, laid := [("unicode/utf8.acceptRanges", laid_unicode_utf8_acceptRanges), ("unicode/utf8.first", laid_unicode_utf8_first)] }
def FormPairsSaid : Prop := formPairsRow.holds Tryd.pinned (OpenSpec.ofChange formPairsSpec)

/-- ITS FALSE NEIGHBOUR: 'it returns false'. Refute it at one input. -/
def formPairsWrong : ChangeSpec := { name := "formPairs", fn := fun _ => fun
  | [d1, d2] => { results := [.lit (.bool false)], args := [d1, d2] }
  | _ => none }
def FormPairsWrongFalsely : Prop := formPairsRow.holds Tryd.pinned (OpenSpec.ofChange formPairsWrong)

/-- 'lanyardlaw03.FormTurns': WHATEVER THE INPUT: true; the input reads as it did. -/
def formTurnsSpec : ChangeSpec := { name := "formTurns", fn := fun _ => fun
  | [d] => { results := [.lit (.bool true)], args := [d] }
  | _ => none }
def formTurnsRow : OpenClaim := { program := "ytjmcdocoogdbiaadoor", sum := "bbdd58c9f2b50bb8d0bab8b5450b5e0dbbfa0300b2025557166c3c4652432bf6", func := "lanyard/lanyardlaw03.FormTurns", spec := "formTurns", inPlace := ["internal/bytealg.CountString", "internal/bytealg.IndexByteString", "internal/bytealg.IndexString", "internal/abi.NoEscape", "internal/bytealg.MakeNoZero"], unfollowed := true, recurses := true, named := ["unicode/utf8.first", "unicode/utf8.acceptRanges", "internal/bytealg.MaxLen"], apart := false, laid := [("unicode/utf8.acceptRanges", laid_unicode_utf8_acceptRanges), ("unicode/utf8.first", laid_unicode_utf8_first)] }
def FormTurnsSaid : Prop := formTurnsRow.holds Tryd.pinned (OpenSpec.ofChange formTurnsSpec)

/-- ITS FALSE NEIGHBOUR: 'it returns false'. Refute it at one input. -/
def formTurnsWrong : ChangeSpec := { name := "formTurns", fn := fun _ => fun
  | [d] => { results := [.lit (.bool false)], args := [d] }
  | _ => none }
def FormTurnsWrongFalsely : Prop := formTurnsRow.holds Tryd.pinned (OpenSpec.ofChange formTurnsWrong)

/-- 'lanyardlaw03.FormApart': WHATEVER THE INPUT: true; the input reads as it did. -/
def formApartSpec : ChangeSpec := { name := "formApart", fn := fun _ => fun
  | [d1, d2] => { results := [.lit (.bool true)], args := [d1, d2] }
  | _ => none }
def formApartRow : OpenClaim := { program := "ytjmcdocoogdbiaadoor", sum := "bbdd58c9f2b50bb8d0bab8b5450b5e0dbbfa0300b2025557166c3c4652432bf6", func := "lanyard/lanyardlaw03.FormApart", spec := "formApart", inPlace := ["internal/bytealg.CountString", "internal/bytealg.IndexByteString", "internal/bytealg.IndexString", "internal/abi.NoEscape", "internal/bytealg.MakeNoZero"], unfollowed := true, recurses := true, named := ["unicode/utf8.first", "unicode/utf8.acceptRanges", "internal/bytealg.MaxLen"], apart := false, laid := [("unicode/utf8.acceptRanges", laid_unicode_utf8_acceptRanges), ("unicode/utf8.first", laid_unicode_utf8_first)] }
def FormApartSaid : Prop := formApartRow.holds Tryd.pinned (OpenSpec.ofChange formApartSpec)

/-- ITS FALSE NEIGHBOUR: 'it returns false'. Refute it at one input. -/
def formApartWrong : ChangeSpec := { name := "formApart", fn := fun _ => fun
  | [d1, d2] => { results := [.lit (.bool false)], args := [d1, d2] }
  | _ => none }
def FormApartWrongFalsely : Prop := formApartRow.holds Tryd.pinned (OpenSpec.ofChange formApartWrong)

/- THE SECOND FORM. 'bulk': how many values and letters a reading holds, each counted each time it is reached (what is shared counts as often as it is met; a slice's spare places count too). A statement '..UptoSaid' is the law's where the arguments, and the package variables that the reading takes, are together of bulk at most 1048576: NARROWER than '..Said'. Prove '..Said' where nothing that the law and all that it calls make is longer than what came in: it says more and counts as full. Else prove '..UptoSaid'. A law counts once. -/
mutual
def uptoBulk {H : Type} : DataW H → Nat
  | .lit (.string bytes) => bytes.length + 1
  | .lit _ => 1
  | .nil => 1
  | .ptr d => uptoBulk d + 1
  | .slice elems spare => uptoBulkAll elems + uptoBulkAll spare + 1
  | .agg parts => uptoBulkAll parts + 1
  | .iface _ d => uptoBulk d + 1
  | .map entries => uptoBulkEntries entries + 1
  | .held _ => 1
def uptoBulkAll {H : Type} : List (DataW H) → Nat
  | [] => 0
  | d :: r => uptoBulk d + uptoBulkAll r
def uptoBulkEntries {H : Type} : List (Lit × DataW H) → Nat
  | [] => 0
  | x :: r => uptoBulkEntry x + uptoBulkEntries r
def uptoBulkEntry {H : Type} : Lit × DataW H → Nat
  | (.string bytes, d) => bytes.length + uptoBulk d + 1
  | (_, d) => uptoBulk d + 1
 end
def uptoSmall : (H : Type) → List (DataW H) → Bool := fun _ ds => decide (uptoBulkAll ds ≤ 1048576)
def OpenSpec.upto (s : _root_.Go.ChangeSpec) : _root_.Go.OpenSpec := { _root_.Go.OpenSpec.ofChange s with cond := some uptoSmall }

/-- 'lanyardlaw03.FormPercents', WHERE WHAT IT READS IS OF BULK AT MOST 1048576: true; the input reads as it did. -/
def formPercentsUptoRow : OpenClaim := { program := "ytjmcdocoogdbiaadoor", sum := "bbdd58c9f2b50bb8d0bab8b5450b5e0dbbfa0300b2025557166c3c4652432bf6", func := "lanyard/lanyardlaw03.FormPercents", spec := "formPercents", inPlace := ["internal/bytealg.CountString", "internal/bytealg.IndexByteString", "internal/bytealg.IndexString", "internal/abi.NoEscape", "internal/bytealg.MakeNoZero"], unfollowed := true, recurses := true, named := ["unicode/utf8.first", "unicode/utf8.acceptRanges", "internal/bytealg.MaxLen"], apart := false, laid := [("unicode/utf8.acceptRanges", laid_unicode_utf8_acceptRanges), ("unicode/utf8.first", laid_unicode_utf8_first)], narrowed := true }
def FormPercentsUptoSaid : Prop := formPercentsUptoRow.holds Tryd.pinned (OpenSpec.upto formPercentsSpec)

/-- 'lanyardlaw03.FormQueries', WHERE WHAT IT READS IS OF BULK AT MOST 1048576: true; the input reads as it did. -/
def formQueriesUptoRow : OpenClaim := { program := "ytjmcdocoogdbiaadoor", sum := "bbdd58c9f2b50bb8d0bab8b5450b5e0dbbfa0300b2025557166c3c4652432bf6", func := "lanyard/lanyardlaw03.FormQueries", spec := "formQueries", inPlace := ["internal/bytealg.CountString", "internal/bytealg.IndexByteString", "internal/bytealg.IndexString", "internal/abi.NoEscape", "internal/bytealg.MakeNoZero"], unfollowed := true, recurses := true, named := ["unicode/utf8.first", "unicode/utf8.acceptRanges", "internal/bytealg.MaxLen"], apart := false, laid := [("unicode/utf8.acceptRanges", laid_unicode_utf8_acceptRanges), ("unicode/utf8.first", laid_unicode_utf8_first)], narrowed := true }
def FormQueriesUptoSaid : Prop := formQueriesUptoRow.holds Tryd.pinned (OpenSpec.upto formQueriesSpec)

/-- 'lanyardlaw03.FormPairs', WHERE WHAT IT READS IS OF BULK AT MOST 1048576: true; the input reads as it did. -/
def formPairsUptoRow : OpenClaim := { program := "ytjmcdocoogdbiaadoor", sum := "bbdd58c9f2b50bb8d0bab8b5450b5e0dbbfa0300b2025557166c3c4652432bf6", func := "lanyard/lanyardlaw03.FormPairs", spec := "formPairs", inPlace := ["internal/bytealg.CountString", "internal/bytealg.IndexByteString", "internal/bytealg.IndexString", "internal/abi.NoEscape", "internal/bytealg.MakeNoZero"], unfollowed := true, recurses := true, named := ["unicode/utf8.first", "unicode/utf8.acceptRanges", "internal/bytealg.MaxLen"], apart := false, laid := [("unicode/utf8.acceptRanges", laid_unicode_utf8_acceptRanges), ("unicode/utf8.first", laid_unicode_utf8_first)], narrowed := true }
def FormPairsUptoSaid : Prop := formPairsUptoRow.holds Tryd.pinned (OpenSpec.upto formPairsSpec)

/-- 'lanyardlaw03.FormTurns', WHERE WHAT IT READS IS OF BULK AT MOST 1048576: true; the input reads as it did. -/
def formTurnsUptoRow : OpenClaim := { program := "ytjmcdocoogdbiaadoor", sum := "bbdd58c9f2b50bb8d0bab8b5450b5e0dbbfa0300b2025557166c3c4652432bf6", func := "lanyard/lanyardlaw03.FormTurns", spec := "formTurns", inPlace := ["internal/bytealg.CountString", "internal/bytealg.IndexByteString", "internal/bytealg.IndexString", "internal/abi.NoEscape", "internal/bytealg.MakeNoZero"], unfollowed := true, recurses := true, named := ["unicode/utf8.first", "unicode/utf8.acceptRanges", "internal/bytealg.MaxLen"], apart := false, laid := [("unicode/utf8.acceptRanges", laid_unicode_utf8_acceptRanges), ("unicode/utf8.first", laid_unicode_utf8_first)], narrowed := true }
def FormTurnsUptoSaid : Prop := formTurnsUptoRow.holds Tryd.pinned (OpenSpec.upto formTurnsSpec)

/-- 'lanyardlaw03.FormApart', WHERE WHAT IT READS IS OF BULK AT MOST 1048576: true; the input reads as it did. -/
def formApartUptoRow : OpenClaim := { program := "ytjmcdocoogdbiaadoor", sum := "bbdd58c9f2b50bb8d0bab8b5450b5e0dbbfa0300b2025557166c3c4652432bf6", func := "lanyard/lanyardlaw03.FormApart", spec := "formApart", inPlace := ["internal/bytealg.CountString", "internal/bytealg.IndexByteString", "internal/bytealg.IndexString", "internal/abi.NoEscape", "internal/bytealg.MakeNoZero"], unfollowed := true, recurses := true, named := ["unicode/utf8.first", "unicode/utf8.acceptRanges", "internal/bytealg.MaxLen"], apart := false, laid := [("unicode/utf8.acceptRanges", laid_unicode_utf8_acceptRanges), ("unicode/utf8.first", laid_unicode_utf8_first)], narrowed := true }
def FormApartUptoSaid : Prop := formApartUptoRow.holds Tryd.pinned (OpenSpec.upto formApartSpec)

end Rows
end Go.Proofs.YtjmcdocoogdbiaaDoor
