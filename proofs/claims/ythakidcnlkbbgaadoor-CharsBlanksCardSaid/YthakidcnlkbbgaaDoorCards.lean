/-
  DERIVED. GIVEN WITH THE SEED: THE CARDS: each row of YthakidcnlkbbgaaDoorRows.lean that lists a variable, with what it lists TIED to the program's text (the seventh form; the later family's looks); each row that meets fmt, with fmt's text TOLD by the authors' own Lean function (tested against real Go, not proved from fmt's source: count such statements apart). THE CARD IS WHAT COUNTS. Prove the row's statement (the work); the ties are given (YthakidcnlkbbgaaDoorTie.lean); close each card by the builder's one call (the guide's Derived/Test/ToyasCard.lean, 'card_holds'). Laid BY PROGRAM, IN A SANDBOX (cutbox-door.mjs). By AI agents, Wed Nov 11 2026. No macro, syntax, notation, axiom, sorry.
-/
import Derived.Test.YthakidcnlkbbgaaDoorRows
import GoSem.ClaimSeven
namespace Go.Proofs.YthakidcnlkbbgaaDoor
namespace Rows

/-- THE TIED CARD OF 'lanyardlaw01.CharsBad'. -/
def charsBadCard : Claim7 := { stood := { row := charsBadRow, standIns := [], harness := (true, "9804452ef26be75b771d0a2637010047649b83c2dc27ff033d569d741569ccaf"), looks := false }, kinds := [], alts := [], laidByText := true, laidKinds := [.data, .pinned], laidTests := true, laidLooks := .later }
def CharsBadCardSaid : Prop := Claim7.holds Tryd.pinned (.plain (OpenSpec.ofChange charsBadSpec)) charsBadCard

/-- THE TIED CARD OF 'lanyardlaw01.CharsNames'. -/
def charsNamesCard : Claim7 := { stood := { row := charsNamesRow, standIns := [], harness := (true, "9804452ef26be75b771d0a2637010047649b83c2dc27ff033d569d741569ccaf"), looks := false }, kinds := [], alts := [], laidByText := true, laidKinds := [.data, .pinned], laidTests := true, laidLooks := .later }
def CharsNamesCardSaid : Prop := Claim7.holds Tryd.pinned (.plain (OpenSpec.ofChange charsNamesSpec)) charsNamesCard

/-- THE TIED CARD OF 'lanyardlaw01.CharsJoins'. -/
def charsJoinsCard : Claim7 := { stood := { row := charsJoinsRow, standIns := [], harness := (true, "9804452ef26be75b771d0a2637010047649b83c2dc27ff033d569d741569ccaf"), looks := false }, kinds := [], alts := [], laidByText := true, laidKinds := [.data, .pinned], laidTests := true, laidLooks := .later }
def CharsJoinsCardSaid : Prop := Claim7.holds Tryd.pinned (.plain (OpenSpec.ofChange charsJoinsSpec)) charsJoinsCard

/-- THE TIED CARD OF 'lanyardlaw01.CharsBlanks'. -/
def charsBlanksCard : Claim7 := { stood := { row := charsBlanksRow, standIns := [], harness := (true, "9804452ef26be75b771d0a2637010047649b83c2dc27ff033d569d741569ccaf"), looks := false }, kinds := [], alts := [], laidByText := true, laidKinds := [.data, .pinned], laidTests := true, laidLooks := .later }
def CharsBlanksCardSaid : Prop := Claim7.holds Tryd.pinned (.plain (OpenSpec.ofChange charsBlanksSpec)) charsBlanksCard

/-- THE TIED CARD OF 'lanyardlaw01.CharsAgain'. -/
def charsAgainCard : Claim7 := { stood := { row := charsAgainRow, standIns := [], harness := (true, "9804452ef26be75b771d0a2637010047649b83c2dc27ff033d569d741569ccaf"), looks := false }, kinds := [], alts := [], laidByText := true, laidKinds := [.data, .pinned], laidTests := true, laidLooks := .later }
def CharsAgainCardSaid : Prop := Claim7.holds Tryd.pinned (.plain (OpenSpec.ofChange charsAgainSpec)) charsAgainCard

/-- THE SECOND FORM's CARD OF 'lanyardlaw01.CharsBad'. -/
def charsBadUptoCard : Claim7 := { stood := { row := charsBadUptoRow, standIns := [], harness := (true, "9804452ef26be75b771d0a2637010047649b83c2dc27ff033d569d741569ccaf"), looks := false }, kinds := [], alts := [], laidByText := true, laidKinds := [.data, .pinned], laidTests := true, laidLooks := .later }
def CharsBadUptoCardSaid : Prop := Claim7.holds Tryd.pinned (.plain (OpenSpec.upto charsBadSpec)) charsBadUptoCard

/-- THE SECOND FORM's CARD OF 'lanyardlaw01.CharsNames'. -/
def charsNamesUptoCard : Claim7 := { stood := { row := charsNamesUptoRow, standIns := [], harness := (true, "9804452ef26be75b771d0a2637010047649b83c2dc27ff033d569d741569ccaf"), looks := false }, kinds := [], alts := [], laidByText := true, laidKinds := [.data, .pinned], laidTests := true, laidLooks := .later }
def CharsNamesUptoCardSaid : Prop := Claim7.holds Tryd.pinned (.plain (OpenSpec.upto charsNamesSpec)) charsNamesUptoCard

/-- THE SECOND FORM's CARD OF 'lanyardlaw01.CharsJoins'. -/
def charsJoinsUptoCard : Claim7 := { stood := { row := charsJoinsUptoRow, standIns := [], harness := (true, "9804452ef26be75b771d0a2637010047649b83c2dc27ff033d569d741569ccaf"), looks := false }, kinds := [], alts := [], laidByText := true, laidKinds := [.data, .pinned], laidTests := true, laidLooks := .later }
def CharsJoinsUptoCardSaid : Prop := Claim7.holds Tryd.pinned (.plain (OpenSpec.upto charsJoinsSpec)) charsJoinsUptoCard

/-- THE SECOND FORM's CARD OF 'lanyardlaw01.CharsBlanks'. -/
def charsBlanksUptoCard : Claim7 := { stood := { row := charsBlanksUptoRow, standIns := [], harness := (true, "9804452ef26be75b771d0a2637010047649b83c2dc27ff033d569d741569ccaf"), looks := false }, kinds := [], alts := [], laidByText := true, laidKinds := [.data, .pinned], laidTests := true, laidLooks := .later }
def CharsBlanksUptoCardSaid : Prop := Claim7.holds Tryd.pinned (.plain (OpenSpec.upto charsBlanksSpec)) charsBlanksUptoCard

/-- THE SECOND FORM's CARD OF 'lanyardlaw01.CharsAgain'. -/
def charsAgainUptoCard : Claim7 := { stood := { row := charsAgainUptoRow, standIns := [], harness := (true, "9804452ef26be75b771d0a2637010047649b83c2dc27ff033d569d741569ccaf"), looks := false }, kinds := [], alts := [], laidByText := true, laidKinds := [.data, .pinned], laidTests := true, laidLooks := .later }
def CharsAgainUptoCardSaid : Prop := Claim7.holds Tryd.pinned (.plain (OpenSpec.upto charsAgainSpec)) charsAgainUptoCard
end Rows
end Go.Proofs.YthakidcnlkbbgaaDoor
