/-
  NARROWER THAN 'FOR EVERY INPUT', by the rows' own cells (each row's printed sentence says how): BaseDecodes: laid · BaseApart: laid · BaseFolds: laid · BaseUnhex: laid · BaseEncodes: laid.
  DERIVED. THE GIVEN ROWS OF THIS SEAT. 5 by the template 'for every input the law returns true; each argument reads behind the call as it read before'; 0 by the template 'total and deterministic' (their statements: YtfphmpnkfjeceaaDoorTotals.lean).
  GIVEN WITH THE SEED: the statements are not yours to turn. If you find one false, say at which input.
  Laid BY PROGRAM, IN A SANDBOX (cutbox-rows.mjs): the forced cells as the released guide's own fill.sh prints them over the translation 4705357956b17321… (all of the seat's roots in one cut). By AI agents, Wed Nov 11 2026. No macro, syntax, notation, axiom, sorry.
-/
import Derived.Test.YtfphmpnkfjeceaaDoorChecked
import GoSem.PinnedTables
import GoSem.Claim
import GoSem.ClaimJoined
import GoSem.ClaimMapViews
import Derived.JoinedTies
import Derived.KernelRfl
namespace Go.Proofs.YtfphmpnkfjeceaaDoor
/- THE CELL 'sum', in the pinned program and in every row, IS THE sha256 OF THE DUMP (.gsa) THAT YtfphmpnkfjeceaaDoorProg.lean LOADS. Nothing in Lean hashes anything: it is a label: what it is worth is what the hold of that sum in a sandbox is worth. -/
noncomputable def Tryd.pinned : Pinned := { name := "ytfphmpnkfjeceaadoor", sum := "4705357956b173219d1a1f767926dcef43ad230c19670b614be4fa651af3b021", checked := Tryd.checked }
namespace Rows
def none {H : Type} : Left H := { results := [], args := [] }

/- WHAT THE LISTED PACKAGE-LEVEL VARIABLES READ AS WHEN THE CALL BEGINS. Each datum BY PROGRAM (the guide's laid-datum.mjs) off the statement by which the dump's own 'gosem.cut.vars' lays the variable. In a bare row this is a premise. The card (YtfphmpnkfjeceaaDoorCards.lean) ties it to the program's text. -/
def laid_unicode_utf8_acceptRanges {H : Type} : DataW H := .agg [.agg [.lit (.int .u8 128), .lit (.int .u8 191)], .agg [.lit (.int .u8 160), .lit (.int .u8 191)], .agg [.lit (.int .u8 128), .lit (.int .u8 159)], .agg [.lit (.int .u8 144), .lit (.int .u8 191)], .agg [.lit (.int .u8 128), .lit (.int .u8 143)], .agg [.lit (.int .u8 0), .lit (.int .u8 0)], .agg [.lit (.int .u8 0), .lit (.int .u8 0)], .agg [.lit (.int .u8 0), .lit (.int .u8 0)], .agg [.lit (.int .u8 0), .lit (.int .u8 0)], .agg [.lit (.int .u8 0), .lit (.int .u8 0)], .agg [.lit (.int .u8 0), .lit (.int .u8 0)], .agg [.lit (.int .u8 0), .lit (.int .u8 0)], .agg [.lit (.int .u8 0), .lit (.int .u8 0)], .agg [.lit (.int .u8 0), .lit (.int .u8 0)], .agg [.lit (.int .u8 0), .lit (.int .u8 0)], .agg [.lit (.int .u8 0), .lit (.int .u8 0)]]
/-- One of Go's own tables, pinned by name: the form's constant. -/
def laid_unicode_utf8_first : DataW Unit := Go.Pinned.utf8First

/-- 'lanyardlaw02.BaseDecodes': WHATEVER THE INPUT: true; the input reads as it did. -/
def baseDecodesSpec : ChangeSpec := { name := "baseDecodes", fn := fun _ => fun
  | [d] => { results := [.lit (.bool true)], args := [d] }
  | _ => none }
def baseDecodesRow : OpenClaim := { program := "ytfphmpnkfjeceaadoor", sum := "4705357956b173219d1a1f767926dcef43ad230c19670b614be4fa651af3b021", func := "lanyard/lanyardlaw02.BaseDecodes", spec := "baseDecodes", inPlace := ["internal/bytealg.CountString", "internal/bytealg.IndexByteString", "internal/bytealg.IndexString", "internal/abi.NoEscape", "internal/bytealg.MakeNoZero"], unfollowed := true, recurses := true, named := ["unicode/utf8.first", "unicode/utf8.acceptRanges", "internal/bytealg.MaxLen"], apart := false, laid := [("unicode/utf8.acceptRanges", laid_unicode_utf8_acceptRanges), ("unicode/utf8.first", laid_unicode_utf8_first)] }
def BaseDecodesSaid : Prop := baseDecodesRow.holds Tryd.pinned (OpenSpec.ofChange baseDecodesSpec)

/-- ITS FALSE NEIGHBOUR: 'it returns false'. Refute it at one input. -/
def baseDecodesWrong : ChangeSpec := { name := "baseDecodes", fn := fun _ => fun
  | [d] => { results := [.lit (.bool false)], args := [d] }
  | _ => none }
def BaseDecodesWrongFalsely : Prop := baseDecodesRow.holds Tryd.pinned (OpenSpec.ofChange baseDecodesWrong)

/-- 'lanyardlaw02.BaseApart': WHATEVER THE INPUT: true; the input reads as it did. -/
def baseApartSpec : ChangeSpec := { name := "baseApart", fn := fun _ => fun
  | [d1, d2] => { results := [.lit (.bool true)], args := [d1, d2] }
  | _ => none }
def baseApartRow : OpenClaim := { program := "ytfphmpnkfjeceaadoor", sum := "4705357956b173219d1a1f767926dcef43ad230c19670b614be4fa651af3b021", func := "lanyard/lanyardlaw02.BaseApart", spec := "baseApart", inPlace := ["internal/bytealg.CountString", "internal/bytealg.IndexByteString", "internal/bytealg.IndexString", "internal/abi.NoEscape", "internal/bytealg.MakeNoZero"], unfollowed := true, recurses := true, named := ["unicode/utf8.first", "unicode/utf8.acceptRanges", "internal/bytealg.MaxLen"], apart := false, laid := [("unicode/utf8.acceptRanges", laid_unicode_utf8_acceptRanges), ("unicode/utf8.first", laid_unicode_utf8_first)] }
def BaseApartSaid : Prop := baseApartRow.holds Tryd.pinned (OpenSpec.ofChange baseApartSpec)

/-- ITS FALSE NEIGHBOUR: 'it returns false'. Refute it at one input. -/
def baseApartWrong : ChangeSpec := { name := "baseApart", fn := fun _ => fun
  | [d1, d2] => { results := [.lit (.bool false)], args := [d1, d2] }
  | _ => none }
def BaseApartWrongFalsely : Prop := baseApartRow.holds Tryd.pinned (OpenSpec.ofChange baseApartWrong)

/-- 'lanyardlaw02.BaseFolds': WHATEVER THE INPUT: true; the input reads as it did. -/
def baseFoldsSpec : ChangeSpec := { name := "baseFolds", fn := fun _ => fun
  | [d1, d2] => { results := [.lit (.bool true)], args := [d1, d2] }
  | _ => none }
def baseFoldsRow : OpenClaim := { program := "ytfphmpnkfjeceaadoor", sum := "4705357956b173219d1a1f767926dcef43ad230c19670b614be4fa651af3b021", func := "lanyard/lanyardlaw02.BaseFolds", spec := "baseFolds", inPlace := ["internal/bytealg.CountString", "internal/bytealg.IndexByteString", "internal/bytealg.IndexString", "internal/abi.NoEscape", "internal/bytealg.MakeNoZero"], unfollowed := true, recurses := true, named := ["unicode/utf8.first", "unicode/utf8.acceptRanges", "internal/bytealg.MaxLen"], apart := false, laid := [("unicode/utf8.acceptRanges", laid_unicode_utf8_acceptRanges), ("unicode/utf8.first", laid_unicode_utf8_first)] }
def BaseFoldsSaid : Prop := baseFoldsRow.holds Tryd.pinned (OpenSpec.ofChange baseFoldsSpec)

/-- ITS FALSE NEIGHBOUR: 'it returns false'. Refute it at one input. -/
def baseFoldsWrong : ChangeSpec := { name := "baseFolds", fn := fun _ => fun
  | [d1, d2] => { results := [.lit (.bool false)], args := [d1, d2] }
  | _ => none }
def BaseFoldsWrongFalsely : Prop := baseFoldsRow.holds Tryd.pinned (OpenSpec.ofChange baseFoldsWrong)

/-- 'lanyardlaw02.BaseUnhex': WHATEVER THE INPUT: true; the input reads as it did. -/
def baseUnhexSpec : ChangeSpec := { name := "baseUnhex", fn := fun _ => fun
  | [d] => { results := [.lit (.bool true)], args := [d] }
  | _ => none }
def baseUnhexRow : OpenClaim := { program := "ytfphmpnkfjeceaadoor", sum := "4705357956b173219d1a1f767926dcef43ad230c19670b614be4fa651af3b021", func := "lanyard/lanyardlaw02.BaseUnhex", spec := "baseUnhex", inPlace := ["internal/bytealg.CountString", "internal/bytealg.IndexByteString", "internal/bytealg.IndexString", "internal/abi.NoEscape", "internal/bytealg.MakeNoZero"], unfollowed := true, recurses := true, named := ["unicode/utf8.first", "unicode/utf8.acceptRanges", "internal/bytealg.MaxLen"], apart := false, laid := [("unicode/utf8.acceptRanges", laid_unicode_utf8_acceptRanges), ("unicode/utf8.first", laid_unicode_utf8_first)] }
def BaseUnhexSaid : Prop := baseUnhexRow.holds Tryd.pinned (OpenSpec.ofChange baseUnhexSpec)

/-- ITS FALSE NEIGHBOUR: 'it returns false'. Refute it at one input. -/
def baseUnhexWrong : ChangeSpec := { name := "baseUnhex", fn := fun _ => fun
  | [d] => { results := [.lit (.bool false)], args := [d] }
  | _ => none }
def BaseUnhexWrongFalsely : Prop := baseUnhexRow.holds Tryd.pinned (OpenSpec.ofChange baseUnhexWrong)

/-- 'lanyardlaw02.BaseEncodes': WHATEVER THE INPUT: true; the input reads as it did. -/
def baseEncodesSpec : ChangeSpec := { name := "baseEncodes", fn := fun _ => fun
  | [d1, d2] => { results := [.lit (.bool true)], args := [d1, d2] }
  | _ => none }
def baseEncodesRow : OpenClaim := { program := "ytfphmpnkfjeceaadoor", sum := "4705357956b173219d1a1f767926dcef43ad230c19670b614be4fa651af3b021", func := "lanyard/lanyardlaw02.BaseEncodes", spec := "baseEncodes", inPlace := ["internal/bytealg.CountString", "internal/bytealg.IndexByteString", "internal/bytealg.IndexString", "internal/abi.NoEscape", "internal/bytealg.MakeNoZero"], unfollowed := true, recurses := true, named := ["unicode/utf8.first", "unicode/utf8.acceptRanges", "internal/bytealg.MaxLen"], apart := false, laid := [("unicode/utf8.acceptRanges", laid_unicode_utf8_acceptRanges), ("unicode/utf8.first", laid_unicode_utf8_first)] }
def BaseEncodesSaid : Prop := baseEncodesRow.holds Tryd.pinned (OpenSpec.ofChange baseEncodesSpec)

/-- ITS FALSE NEIGHBOUR: 'it returns false'. Refute it at one input. -/
def baseEncodesWrong : ChangeSpec := { name := "baseEncodes", fn := fun _ => fun
  | [d1, d2] => { results := [.lit (.bool false)], args := [d1, d2] }
  | _ => none }
def BaseEncodesWrongFalsely : Prop := baseEncodesRow.holds Tryd.pinned (OpenSpec.ofChange baseEncodesWrong)

/- THE SECOND FORM. 'bulk': how many values and letters a reading holds, each counted each time it is reached (what is shared counts as often as it is met; a slice's spare places count too). A statement '..UptoSaid' is the law's where the arguments, and the package variables that the reading takes, are together of bulk at most 1048576: NARROWER than '..Said'. Prove '..Said' where nothing that the law and all that it calls make is longer than what came in: it says more and counts as full. Else prove '..UptoSaid'. A law counts once. -/
mutual
def uptoBulk {H : Type} : DataW H → Nat
  | .lit (.string bytes) => bytes.length + 1
  | .lit _ => 1
  | .nil => 1
  | .ptr d => uptoBulk d + 1
  | .slice elems spare => uptoBulkAll elems + uptoBulkAll spare + 1
  | .agg parts => uptoBulkAll parts + 1
  | .iface _ d => uptoBulk d + 1
  | .map entries => uptoBulkEntries entries + 1
  | .held _ => 1
def uptoBulkAll {H : Type} : List (DataW H) → Nat
  | [] => 0
  | d :: r => uptoBulk d + uptoBulkAll r
def uptoBulkEntries {H : Type} : List (Lit × DataW H) → Nat
  | [] => 0
  | x :: r => uptoBulkEntry x + uptoBulkEntries r
def uptoBulkEntry {H : Type} : Lit × DataW H → Nat
  | (.string bytes, d) => bytes.length + uptoBulk d + 1
  | (_, d) => uptoBulk d + 1
 end
def uptoSmall : (H : Type) → List (DataW H) → Bool := fun _ ds => decide (uptoBulkAll ds ≤ 1048576)
def OpenSpec.upto (s : _root_.Go.ChangeSpec) : _root_.Go.OpenSpec := { _root_.Go.OpenSpec.ofChange s with cond := some uptoSmall }

/-- 'lanyardlaw02.BaseDecodes', WHERE WHAT IT READS IS OF BULK AT MOST 1048576: true; the input reads as it did. -/
def baseDecodesUptoRow : OpenClaim := { program := "ytfphmpnkfjeceaadoor", sum := "4705357956b173219d1a1f767926dcef43ad230c19670b614be4fa651af3b021", func := "lanyard/lanyardlaw02.BaseDecodes", spec := "baseDecodes", inPlace := ["internal/bytealg.CountString", "internal/bytealg.IndexByteString", "internal/bytealg.IndexString", "internal/abi.NoEscape", "internal/bytealg.MakeNoZero"], unfollowed := true, recurses := true, named := ["unicode/utf8.first", "unicode/utf8.acceptRanges", "internal/bytealg.MaxLen"], apart := false, laid := [("unicode/utf8.acceptRanges", laid_unicode_utf8_acceptRanges), ("unicode/utf8.first", laid_unicode_utf8_first)], narrowed := true }
def BaseDecodesUptoSaid : Prop := baseDecodesUptoRow.holds Tryd.pinned (OpenSpec.upto baseDecodesSpec)

/-- 'lanyardlaw02.BaseApart', WHERE WHAT IT READS IS OF BULK AT MOST 1048576: true; the input reads as it did. -/
def baseApartUptoRow : OpenClaim := { program := "ytfphmpnkfjeceaadoor", sum := "4705357956b173219d1a1f767926dcef43ad230c19670b614be4fa651af3b021", func := "lanyard/lanyardlaw02.BaseApart", spec := "baseApart", inPlace := ["internal/bytealg.CountString", "internal/bytealg.IndexByteString", "internal/bytealg.IndexString", "internal/abi.NoEscape", "internal/bytealg.MakeNoZero"], unfollowed := true, recurses := true, named := ["unicode/utf8.first", "unicode/utf8.acceptRanges", "internal/bytealg.MaxLen"], apart := false, laid := [("unicode/utf8.acceptRanges", laid_unicode_utf8_acceptRanges), ("unicode/utf8.first", laid_unicode_utf8_first)], narrowed := true }
def BaseApartUptoSaid : Prop := baseApartUptoRow.holds Tryd.pinned (OpenSpec.upto baseApartSpec)

/-- 'lanyardlaw02.BaseFolds', WHERE WHAT IT READS IS OF BULK AT MOST 1048576: true; the input reads as it did. -/
def baseFoldsUptoRow : OpenClaim := { program := "ytfphmpnkfjeceaadoor", sum := "4705357956b173219d1a1f767926dcef43ad230c19670b614be4fa651af3b021", func := "lanyard/lanyardlaw02.BaseFolds", spec := "baseFolds", inPlace := ["internal/bytealg.CountString", "internal/bytealg.IndexByteString", "internal/bytealg.IndexString", "internal/abi.NoEscape", "internal/bytealg.MakeNoZero"], unfollowed := true, recurses := true, named := ["unicode/utf8.first", "unicode/utf8.acceptRanges", "internal/bytealg.MaxLen"], apart := false, laid := [("unicode/utf8.acceptRanges", laid_unicode_utf8_acceptRanges), ("unicode/utf8.first", laid_unicode_utf8_first)], narrowed := true }
def BaseFoldsUptoSaid : Prop := baseFoldsUptoRow.holds Tryd.pinned (OpenSpec.upto baseFoldsSpec)

/-- 'lanyardlaw02.BaseUnhex', WHERE WHAT IT READS IS OF BULK AT MOST 1048576: true; the input reads as it did. -/
def baseUnhexUptoRow : OpenClaim := { program := "ytfphmpnkfjeceaadoor", sum := "4705357956b173219d1a1f767926dcef43ad230c19670b614be4fa651af3b021", func := "lanyard/lanyardlaw02.BaseUnhex", spec := "baseUnhex", inPlace := ["internal/bytealg.CountString", "internal/bytealg.IndexByteString", "internal/bytealg.IndexString", "internal/abi.NoEscape", "internal/bytealg.MakeNoZero"], unfollowed := true, recurses := true, named := ["unicode/utf8.first", "unicode/utf8.acceptRanges", "internal/bytealg.MaxLen"], apart := false, laid := [("unicode/utf8.acceptRanges", laid_unicode_utf8_acceptRanges), ("unicode/utf8.first", laid_unicode_utf8_first)], narrowed := true }
def BaseUnhexUptoSaid : Prop := baseUnhexUptoRow.holds Tryd.pinned (OpenSpec.upto baseUnhexSpec)

/-- 'lanyardlaw02.BaseEncodes', WHERE WHAT IT READS IS OF BULK AT MOST 1048576: true; the input reads as it did. -/
def baseEncodesUptoRow : OpenClaim := { program := "ytfphmpnkfjeceaadoor", sum := "4705357956b173219d1a1f767926dcef43ad230c19670b614be4fa651af3b021", func := "lanyard/lanyardlaw02.BaseEncodes", spec := "baseEncodes", inPlace := ["internal/bytealg.CountString", "internal/bytealg.IndexByteString", "internal/bytealg.IndexString", "internal/abi.NoEscape", "internal/bytealg.MakeNoZero"], unfollowed := true, recurses := true, named := ["unicode/utf8.first", "unicode/utf8.acceptRanges", "internal/bytealg.MaxLen"], apart := false, laid := [("unicode/utf8.acceptRanges", laid_unicode_utf8_acceptRanges), ("unicode/utf8.first", laid_unicode_utf8_first)], narrowed := true }
def BaseEncodesUptoSaid : Prop := baseEncodesUptoRow.holds Tryd.pinned (OpenSpec.upto baseEncodesSpec)

end Rows
end Go.Proofs.YtfphmpnkfjeceaaDoor
