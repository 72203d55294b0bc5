/-
  NARROWER THAN 'FOR EVERY INPUT', by the rows' own cells (each row's printed sentence says how): CharsBad: laid · CharsNames: laid · CharsJoins: laid · CharsBlanks: laid · CharsAgain: laid.
  DERIVED. THE GIVEN ROWS OF THIS SEAT. 5 by the template 'for every input the law returns true; each argument reads behind the call as it read before'; 0 by the template 'total and deterministic' (their statements: YthakidcnlkbbgaaDoorTotals.lean).
  GIVEN WITH THE SEED: the statements are not yours to turn. If you find one false, say at which input.
  Laid BY PROGRAM, IN A SANDBOX (cutbox-rows.mjs): the forced cells as the released guide's own fill.sh prints them over the translation de448d7a935896a1… (all of the seat's roots in one cut). By AI agents, Wed Nov 11 2026. No macro, syntax, notation, axiom, sorry.
-/
import Derived.Test.YthakidcnlkbbgaaDoorChecked
import GoSem.PinnedTables
import GoSem.Claim
import GoSem.ClaimJoined
import GoSem.ClaimMapViews
import Derived.JoinedTies
import Derived.KernelRfl
namespace Go.Proofs.YthakidcnlkbbgaaDoor
/- THE CELL 'sum', in the pinned program and in every row, IS THE sha256 OF THE DUMP (.gsa) THAT YthakidcnlkbbgaaDoorProg.lean LOADS. Nothing in Lean hashes anything: it is a label: what it is worth is what the hold of that sum in a sandbox is worth. -/
noncomputable def Tryd.pinned : Pinned := { name := "ythakidcnlkbbgaadoor", sum := "de448d7a935896a118a2978fa35bc9f75576f6dffcb7abae5726c8c6f1cfba72", checked := Tryd.checked }
namespace Rows
def none {H : Type} : Left H := { results := [], args := [] }

/- WHAT THE LISTED PACKAGE-LEVEL VARIABLES READ AS WHEN THE CALL BEGINS. Each datum BY PROGRAM (the guide's laid-datum.mjs) off the statement by which the dump's own 'gosem.cut.vars' lays the variable. In a bare row this is a premise. The card (YthakidcnlkbbgaaDoorCards.lean) ties it to the program's text. -/
def laid_unicode_utf8_acceptRanges {H : Type} : DataW H := .agg [.agg [.lit (.int .u8 128), .lit (.int .u8 191)], .agg [.lit (.int .u8 160), .lit (.int .u8 191)], .agg [.lit (.int .u8 128), .lit (.int .u8 159)], .agg [.lit (.int .u8 144), .lit (.int .u8 191)], .agg [.lit (.int .u8 128), .lit (.int .u8 143)], .agg [.lit (.int .u8 0), .lit (.int .u8 0)], .agg [.lit (.int .u8 0), .lit (.int .u8 0)], .agg [.lit (.int .u8 0), .lit (.int .u8 0)], .agg [.lit (.int .u8 0), .lit (.int .u8 0)], .agg [.lit (.int .u8 0), .lit (.int .u8 0)], .agg [.lit (.int .u8 0), .lit (.int .u8 0)], .agg [.lit (.int .u8 0), .lit (.int .u8 0)], .agg [.lit (.int .u8 0), .lit (.int .u8 0)], .agg [.lit (.int .u8 0), .lit (.int .u8 0)], .agg [.lit (.int .u8 0), .lit (.int .u8 0)], .agg [.lit (.int .u8 0), .lit (.int .u8 0)]]
/-- One of Go's own tables, pinned by name: the form's constant. -/
def laid_unicode_utf8_first : DataW Unit := Go.Pinned.utf8First

/-- 'lanyardlaw01.CharsBad': WHATEVER THE INPUT: true; the input reads as it did. -/
def charsBadSpec : ChangeSpec := { name := "charsBad", fn := fun _ => fun
  | [d] => { results := [.lit (.bool true)], args := [d] }
  | _ => none }
def charsBadRow : OpenClaim := { program := "ythakidcnlkbbgaadoor", sum := "de448d7a935896a118a2978fa35bc9f75576f6dffcb7abae5726c8c6f1cfba72", func := "lanyard/lanyardlaw01.CharsBad", spec := "charsBad", inPlace := ["internal/bytealg.CountString", "internal/bytealg.IndexByteString", "internal/bytealg.IndexString", "internal/abi.NoEscape", "internal/bytealg.MakeNoZero"], unfollowed := true, recurses := true, named := ["unicode/utf8.first", "unicode/utf8.acceptRanges", "internal/bytealg.MaxLen"], apart := false, laid := [("unicode/utf8.acceptRanges", laid_unicode_utf8_acceptRanges), ("unicode/utf8.first", laid_unicode_utf8_first)] }
def CharsBadSaid : Prop := charsBadRow.holds Tryd.pinned (OpenSpec.ofChange charsBadSpec)

/-- ITS FALSE NEIGHBOUR: 'it returns false'. Refute it at one input. -/
def charsBadWrong : ChangeSpec := { name := "charsBad", fn := fun _ => fun
  | [d] => { results := [.lit (.bool false)], args := [d] }
  | _ => none }
def CharsBadWrongFalsely : Prop := charsBadRow.holds Tryd.pinned (OpenSpec.ofChange charsBadWrong)

/-- 'lanyardlaw01.CharsNames': WHATEVER THE INPUT: true; the input reads as it did. -/
def charsNamesSpec : ChangeSpec := { name := "charsNames", fn := fun _ => fun
  | [d] => { results := [.lit (.bool true)], args := [d] }
  | _ => none }
def charsNamesRow : OpenClaim := { program := "ythakidcnlkbbgaadoor", sum := "de448d7a935896a118a2978fa35bc9f75576f6dffcb7abae5726c8c6f1cfba72", func := "lanyard/lanyardlaw01.CharsNames", spec := "charsNames", inPlace := ["internal/bytealg.CountString", "internal/bytealg.IndexByteString", "internal/bytealg.IndexString", "internal/abi.NoEscape", "internal/bytealg.MakeNoZero"], unfollowed := true, recurses := true, named := ["unicode/utf8.first", "unicode/utf8.acceptRanges", "internal/bytealg.MaxLen"], apart := false, laid := [("unicode/utf8.acceptRanges", laid_unicode_utf8_acceptRanges), ("unicode/utf8.first", laid_unicode_utf8_first)] }
def CharsNamesSaid : Prop := charsNamesRow.holds Tryd.pinned (OpenSpec.ofChange charsNamesSpec)

/-- ITS FALSE NEIGHBOUR: 'it returns false'. Refute it at one input. -/
def charsNamesWrong : ChangeSpec := { name := "charsNames", fn := fun _ => fun
  | [d] => { results := [.lit (.bool false)], args := [d] }
  | _ => none }
def CharsNamesWrongFalsely : Prop := charsNamesRow.holds Tryd.pinned (OpenSpec.ofChange charsNamesWrong)

/-- 'lanyardlaw01.CharsJoins': WHATEVER THE INPUT: true; the input reads as it did. -/
def charsJoinsSpec : ChangeSpec := { name := "charsJoins", fn := fun _ => fun
  | [d1, d2, d3] => { results := [.lit (.bool true)], args := [d1, d2, d3] }
  | _ => none }
def charsJoinsRow : OpenClaim := { program := "ythakidcnlkbbgaadoor", sum := "de448d7a935896a118a2978fa35bc9f75576f6dffcb7abae5726c8c6f1cfba72", func := "lanyard/lanyardlaw01.CharsJoins", spec := "charsJoins", inPlace := ["internal/bytealg.CountString", "internal/bytealg.IndexByteString", "internal/bytealg.IndexString", "internal/abi.NoEscape", "internal/bytealg.MakeNoZero"], unfollowed := true, recurses := true, named := ["unicode/utf8.first", "unicode/utf8.acceptRanges", "internal/bytealg.MaxLen"], apart := false, laid := [("unicode/utf8.acceptRanges", laid_unicode_utf8_acceptRanges), ("unicode/utf8.first", laid_unicode_utf8_first)] }
def CharsJoinsSaid : Prop := charsJoinsRow.holds Tryd.pinned (OpenSpec.ofChange charsJoinsSpec)

/-- ITS FALSE NEIGHBOUR: 'it returns false'. Refute it at one input. -/
def charsJoinsWrong : ChangeSpec := { name := "charsJoins", fn := fun _ => fun
  | [d1, d2, d3] => { results := [.lit (.bool false)], args := [d1, d2, d3] }
  | _ => none }
def CharsJoinsWrongFalsely : Prop := charsJoinsRow.holds Tryd.pinned (OpenSpec.ofChange charsJoinsWrong)

/-- 'lanyardlaw01.CharsBlanks': WHATEVER THE INPUT: true; the input reads as it did. -/
def charsBlanksSpec : ChangeSpec := { name := "charsBlanks", fn := fun _ => fun
  | [d] => { results := [.lit (.bool true)], args := [d] }
  | _ => none }
def charsBlanksRow : OpenClaim := { program := "ythakidcnlkbbgaadoor", sum := "de448d7a935896a118a2978fa35bc9f75576f6dffcb7abae5726c8c6f1cfba72", func := "lanyard/lanyardlaw01.CharsBlanks", spec := "charsBlanks", inPlace := ["internal/bytealg.CountString", "internal/bytealg.IndexByteString", "internal/bytealg.IndexString", "internal/abi.NoEscape", "internal/bytealg.MakeNoZero"], unfollowed := true, recurses := true, named := ["unicode/utf8.first", "unicode/utf8.acceptRanges", "internal/bytealg.MaxLen"], apart := false, laid := [("unicode/utf8.acceptRanges", laid_unicode_utf8_acceptRanges), ("unicode/utf8.first", laid_unicode_utf8_first)] }
def CharsBlanksSaid : Prop := charsBlanksRow.holds Tryd.pinned (OpenSpec.ofChange charsBlanksSpec)

/-- ITS FALSE NEIGHBOUR: 'it returns false'. Refute it at one input. -/
def charsBlanksWrong : ChangeSpec := { name := "charsBlanks", fn := fun _ => fun
  | [d] => { results := [.lit (.bool false)], args := [d] }
  | _ => none }
def CharsBlanksWrongFalsely : Prop := charsBlanksRow.holds Tryd.pinned (OpenSpec.ofChange charsBlanksWrong)

/-- 'lanyardlaw01.CharsAgain': WHATEVER THE INPUT: true; the input reads as it did. -/
def charsAgainSpec : ChangeSpec := { name := "charsAgain", fn := fun _ => fun
  | [d1, d2] => { results := [.lit (.bool true)], args := [d1, d2] }
  | _ => none }
def charsAgainRow : OpenClaim := { program := "ythakidcnlkbbgaadoor", sum := "de448d7a935896a118a2978fa35bc9f75576f6dffcb7abae5726c8c6f1cfba72", func := "lanyard/lanyardlaw01.CharsAgain", spec := "charsAgain", inPlace := ["internal/bytealg.CountString", "internal/bytealg.IndexByteString", "internal/bytealg.IndexString", "internal/abi.NoEscape", "internal/bytealg.MakeNoZero"], unfollowed := true, recurses := true, named := ["unicode/utf8.first", "unicode/utf8.acceptRanges", "internal/bytealg.MaxLen"], apart := false, laid := [("unicode/utf8.acceptRanges", laid_unicode_utf8_acceptRanges), ("unicode/utf8.first", laid_unicode_utf8_first)] }
def CharsAgainSaid : Prop := charsAgainRow.holds Tryd.pinned (OpenSpec.ofChange charsAgainSpec)

/-- ITS FALSE NEIGHBOUR: 'it returns false'. Refute it at one input. -/
def charsAgainWrong : ChangeSpec := { name := "charsAgain", fn := fun _ => fun
  | [d1, d2] => { results := [.lit (.bool false)], args := [d1, d2] }
  | _ => none }
def CharsAgainWrongFalsely : Prop := charsAgainRow.holds Tryd.pinned (OpenSpec.ofChange charsAgainWrong)

/- THE SECOND FORM. 'bulk': how many values and letters a reading holds, each counted each time it is reached (what is shared counts as often as it is met; a slice's spare places count too). A statement '..UptoSaid' is the law's where the arguments, and the package variables that the reading takes, are together of bulk at most 1048576: NARROWER than '..Said'. Prove '..Said' where nothing that the law and all that it calls make is longer than what came in: it says more and counts as full. Else prove '..UptoSaid'. A law counts once. -/
mutual
def uptoBulk {H : Type} : DataW H → Nat
  | .lit (.string bytes) => bytes.length + 1
  | .lit _ => 1
  | .nil => 1
  | .ptr d => uptoBulk d + 1
  | .slice elems spare => uptoBulkAll elems + uptoBulkAll spare + 1
  | .agg parts => uptoBulkAll parts + 1
  | .iface _ d => uptoBulk d + 1
  | .map entries => uptoBulkEntries entries + 1
  | .held _ => 1
def uptoBulkAll {H : Type} : List (DataW H) → Nat
  | [] => 0
  | d :: r => uptoBulk d + uptoBulkAll r
def uptoBulkEntries {H : Type} : List (Lit × DataW H) → Nat
  | [] => 0
  | x :: r => uptoBulkEntry x + uptoBulkEntries r
def uptoBulkEntry {H : Type} : Lit × DataW H → Nat
  | (.string bytes, d) => bytes.length + uptoBulk d + 1
  | (_, d) => uptoBulk d + 1
 end
def uptoSmall : (H : Type) → List (DataW H) → Bool := fun _ ds => decide (uptoBulkAll ds ≤ 1048576)
def OpenSpec.upto (s : _root_.Go.ChangeSpec) : _root_.Go.OpenSpec := { _root_.Go.OpenSpec.ofChange s with cond := some uptoSmall }

/-- 'lanyardlaw01.CharsBad', WHERE WHAT IT READS IS OF BULK AT MOST 1048576: true; the input reads as it did. -/
def charsBadUptoRow : OpenClaim := { program := "ythakidcnlkbbgaadoor", sum := "de448d7a935896a118a2978fa35bc9f75576f6dffcb7abae5726c8c6f1cfba72", func := "lanyard/lanyardlaw01.CharsBad", spec := "charsBad", inPlace := ["internal/bytealg.CountString", "internal/bytealg.IndexByteString", "internal/bytealg.IndexString", "internal/abi.NoEscape", "internal/bytealg.MakeNoZero"], unfollowed := true, recurses := true, named := ["unicode/utf8.first", "unicode/utf8.acceptRanges", "internal/bytealg.MaxLen"], apart := false, laid := [("unicode/utf8.acceptRanges", laid_unicode_utf8_acceptRanges), ("unicode/utf8.first", laid_unicode_utf8_first)], narrowed := true }
def CharsBadUptoSaid : Prop := charsBadUptoRow.holds Tryd.pinned (OpenSpec.upto charsBadSpec)

/-- 'lanyardlaw01.CharsNames', WHERE WHAT IT READS IS OF BULK AT MOST 1048576: true; the input reads as it did. -/
def charsNamesUptoRow : OpenClaim := { program := "ythakidcnlkbbgaadoor", sum := "de448d7a935896a118a2978fa35bc9f75576f6dffcb7abae5726c8c6f1cfba72", func := "lanyard/lanyardlaw01.CharsNames", spec := "charsNames", inPlace := ["internal/bytealg.CountString", "internal/bytealg.IndexByteString", "internal/bytealg.IndexString", "internal/abi.NoEscape", "internal/bytealg.MakeNoZero"], unfollowed := true, recurses := true, named := ["unicode/utf8.first", "unicode/utf8.acceptRanges", "internal/bytealg.MaxLen"], apart := false, laid := [("unicode/utf8.acceptRanges", laid_unicode_utf8_acceptRanges), ("unicode/utf8.first", laid_unicode_utf8_first)], narrowed := true }
def CharsNamesUptoSaid : Prop := charsNamesUptoRow.holds Tryd.pinned (OpenSpec.upto charsNamesSpec)

/-- 'lanyardlaw01.CharsJoins', WHERE WHAT IT READS IS OF BULK AT MOST 1048576: true; the input reads as it did. -/
def charsJoinsUptoRow : OpenClaim := { program := "ythakidcnlkbbgaadoor", sum := "de448d7a935896a118a2978fa35bc9f75576f6dffcb7abae5726c8c6f1cfba72", func := "lanyard/lanyardlaw01.CharsJoins", spec := "charsJoins", inPlace := ["internal/bytealg.CountString", "internal/bytealg.IndexByteString", "internal/bytealg.IndexString", "internal/abi.NoEscape", "internal/bytealg.MakeNoZero"], unfollowed := true, recurses := true, named := ["unicode/utf8.first", "unicode/utf8.acceptRanges", "internal/bytealg.MaxLen"], apart := false, laid := [("unicode/utf8.acceptRanges", laid_unicode_utf8_acceptRanges), ("unicode/utf8.first", laid_unicode_utf8_first)], narrowed := true }
def CharsJoinsUptoSaid : Prop := charsJoinsUptoRow.holds Tryd.pinned (OpenSpec.upto charsJoinsSpec)

/-- 'lanyardlaw01.CharsBlanks', WHERE WHAT IT READS IS OF BULK AT MOST 1048576: true; the input reads as it did. -/
def charsBlanksUptoRow : OpenClaim := { program := "ythakidcnlkbbgaadoor", sum := "de448d7a935896a118a2978fa35bc9f75576f6dffcb7abae5726c8c6f1cfba72", func := "lanyard/lanyardlaw01.CharsBlanks", spec := "charsBlanks", inPlace := ["internal/bytealg.CountString", "internal/bytealg.IndexByteString", "internal/bytealg.IndexString", "internal/abi.NoEscape", "internal/bytealg.MakeNoZero"], unfollowed := true, recurses := true, named := ["unicode/utf8.first", "unicode/utf8.acceptRanges", "internal/bytealg.MaxLen"], apart := false, laid := [("unicode/utf8.acceptRanges", laid_unicode_utf8_acceptRanges), ("unicode/utf8.first", laid_unicode_utf8_first)], narrowed := true }
def CharsBlanksUptoSaid : Prop := charsBlanksUptoRow.holds Tryd.pinned (OpenSpec.upto charsBlanksSpec)

/-- 'lanyardlaw01.CharsAgain', WHERE WHAT IT READS IS OF BULK AT MOST 1048576: true; the input reads as it did. -/
def charsAgainUptoRow : OpenClaim := { program := "ythakidcnlkbbgaadoor", sum := "de448d7a935896a118a2978fa35bc9f75576f6dffcb7abae5726c8c6f1cfba72", func := "lanyard/lanyardlaw01.CharsAgain", spec := "charsAgain", inPlace := ["internal/bytealg.CountString", "internal/bytealg.IndexByteString", "internal/bytealg.IndexString", "internal/abi.NoEscape", "internal/bytealg.MakeNoZero"], unfollowed := true, recurses := true, named := ["unicode/utf8.first", "unicode/utf8.acceptRanges", "internal/bytealg.MaxLen"], apart := false, laid := [("unicode/utf8.acceptRanges", laid_unicode_utf8_acceptRanges), ("unicode/utf8.first", laid_unicode_utf8_first)], narrowed := true }
def CharsAgainUptoSaid : Prop := charsAgainUptoRow.holds Tryd.pinned (OpenSpec.upto charsAgainSpec)

end Rows
end Go.Proofs.YthakidcnlkbbgaaDoor
