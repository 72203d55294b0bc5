/-
  DERIVED. GIVEN WITH THE SEED: THE CARDS: each row of YtjmcdocoogdbiaaDoorRows.lean that lists a variable, with what it lists TIED to the program's text (the seventh form; the later family's looks); each row that meets fmt, with fmt's text TOLD by the authors' own Lean function (tested against real Go, not proved from fmt's source: count such statements apart). THE CARD IS WHAT COUNTS. Prove the row's statement (the work); the ties are given (YtjmcdocoogdbiaaDoorTie.lean); close each card by the builder's one call (the guide's Derived/Test/ToyasCard.lean, 'card_holds'). Laid BY PROGRAM, IN A SANDBOX (cutbox-door.mjs). By AI agents, Wed Nov 11 2026. No macro, syntax, notation, axiom, sorry.
-/
import Derived.Test.YtjmcdocoogdbiaaDoorRows
import GoSem.ClaimSeven
namespace Go.Proofs.YtjmcdocoogdbiaaDoor
namespace Rows

/-- THE TIED CARD OF 'lanyardlaw03.FormPercents'. -/
def formPercentsCard : Claim7 := { stood := { row := formPercentsRow, standIns := [], harness := (true, "3ca349e52cf04ba1b927a7651ff71aa6b5add6b30855cc9e1dc7104a162298c4"), looks := false }, kinds := [], alts := [], laidByText := true, laidKinds := [.data, .pinned], laidTests := true, laidLooks := .later }
def FormPercentsCardSaid : Prop := Claim7.holds Tryd.pinned (.plain (OpenSpec.ofChange formPercentsSpec)) formPercentsCard

/-- THE TIED CARD OF 'lanyardlaw03.FormQueries'. -/
def formQueriesCard : Claim7 := { stood := { row := formQueriesRow, standIns := [], harness := (true, "3ca349e52cf04ba1b927a7651ff71aa6b5add6b30855cc9e1dc7104a162298c4"), looks := false }, kinds := [], alts := [], laidByText := true, laidKinds := [.data, .pinned], laidTests := true, laidLooks := .later }
def FormQueriesCardSaid : Prop := Claim7.holds Tryd.pinned (.plain (OpenSpec.ofChange formQueriesSpec)) formQueriesCard

/-- THE TIED CARD OF 'lanyardlaw03.FormPairs'. -/
def formPairsCard : Claim7 := { stood := { row := formPairsRow, standIns := [], harness := (true, "3ca349e52cf04ba1b927a7651ff71aa6b5add6b30855cc9e1dc7104a162298c4"), looks := false }, kinds := [], alts := [], laidByText := true, laidKinds := [.data, .pinned], laidTests := true, laidLooks := .later }
def FormPairsCardSaid : Prop := Claim7.holds Tryd.pinned (.plain (OpenSpec.ofChange formPairsSpec)) formPairsCard

/-- THE TIED CARD OF 'lanyardlaw03.FormTurns'. -/
def formTurnsCard : Claim7 := { stood := { row := formTurnsRow, standIns := [], harness := (true, "3ca349e52cf04ba1b927a7651ff71aa6b5add6b30855cc9e1dc7104a162298c4"), looks := false }, kinds := [], alts := [], laidByText := true, laidKinds := [.data, .pinned], laidTests := true, laidLooks := .later }
def FormTurnsCardSaid : Prop := Claim7.holds Tryd.pinned (.plain (OpenSpec.ofChange formTurnsSpec)) formTurnsCard

/-- THE TIED CARD OF 'lanyardlaw03.FormApart'. -/
def formApartCard : Claim7 := { stood := { row := formApartRow, standIns := [], harness := (true, "3ca349e52cf04ba1b927a7651ff71aa6b5add6b30855cc9e1dc7104a162298c4"), looks := false }, kinds := [], alts := [], laidByText := true, laidKinds := [.data, .pinned], laidTests := true, laidLooks := .later }
def FormApartCardSaid : Prop := Claim7.holds Tryd.pinned (.plain (OpenSpec.ofChange formApartSpec)) formApartCard

/-- THE SECOND FORM's CARD OF 'lanyardlaw03.FormPercents'. -/
def formPercentsUptoCard : Claim7 := { stood := { row := formPercentsUptoRow, standIns := [], harness := (true, "3ca349e52cf04ba1b927a7651ff71aa6b5add6b30855cc9e1dc7104a162298c4"), looks := false }, kinds := [], alts := [], laidByText := true, laidKinds := [.data, .pinned], laidTests := true, laidLooks := .later }
def FormPercentsUptoCardSaid : Prop := Claim7.holds Tryd.pinned (.plain (OpenSpec.upto formPercentsSpec)) formPercentsUptoCard

/-- THE SECOND FORM's CARD OF 'lanyardlaw03.FormQueries'. -/
def formQueriesUptoCard : Claim7 := { stood := { row := formQueriesUptoRow, standIns := [], harness := (true, "3ca349e52cf04ba1b927a7651ff71aa6b5add6b30855cc9e1dc7104a162298c4"), looks := false }, kinds := [], alts := [], laidByText := true, laidKinds := [.data, .pinned], laidTests := true, laidLooks := .later }
def FormQueriesUptoCardSaid : Prop := Claim7.holds Tryd.pinned (.plain (OpenSpec.upto formQueriesSpec)) formQueriesUptoCard

/-- THE SECOND FORM's CARD OF 'lanyardlaw03.FormPairs'. -/
def formPairsUptoCard : Claim7 := { stood := { row := formPairsUptoRow, standIns := [], harness := (true, "3ca349e52cf04ba1b927a7651ff71aa6b5add6b30855cc9e1dc7104a162298c4"), looks := false }, kinds := [], alts := [], laidByText := true, laidKinds := [.data, .pinned], laidTests := true, laidLooks := .later }
def FormPairsUptoCardSaid : Prop := Claim7.holds Tryd.pinned (.plain (OpenSpec.upto formPairsSpec)) formPairsUptoCard

/-- THE SECOND FORM's CARD OF 'lanyardlaw03.FormTurns'. -/
def formTurnsUptoCard : Claim7 := { stood := { row := formTurnsUptoRow, standIns := [], harness := (true, "3ca349e52cf04ba1b927a7651ff71aa6b5add6b30855cc9e1dc7104a162298c4"), looks := false }, kinds := [], alts := [], laidByText := true, laidKinds := [.data, .pinned], laidTests := true, laidLooks := .later }
def FormTurnsUptoCardSaid : Prop := Claim7.holds Tryd.pinned (.plain (OpenSpec.upto formTurnsSpec)) formTurnsUptoCard

/-- THE SECOND FORM's CARD OF 'lanyardlaw03.FormApart'. -/
def formApartUptoCard : Claim7 := { stood := { row := formApartUptoRow, standIns := [], harness := (true, "3ca349e52cf04ba1b927a7651ff71aa6b5add6b30855cc9e1dc7104a162298c4"), looks := false }, kinds := [], alts := [], laidByText := true, laidKinds := [.data, .pinned], laidTests := true, laidLooks := .later }
def FormApartUptoCardSaid : Prop := Claim7.holds Tryd.pinned (.plain (OpenSpec.upto formApartSpec)) formApartUptoCard
end Rows
end Go.Proofs.YtjmcdocoogdbiaaDoor
