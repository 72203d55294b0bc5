/-
  DERIVED. GIVEN WITH THE SEED: THE CARDS: each row of YtfphmpnkfjeceaaDoorRows.lean that lists a variable, with what it lists TIED to the program's text (the seventh form; the later family's looks); each row that meets fmt, with fmt's text TOLD by the authors' own Lean function (tested against real Go, not proved from fmt's source: count such statements apart). THE CARD IS WHAT COUNTS. Prove the row's statement (the work); the ties are given (YtfphmpnkfjeceaaDoorTie.lean); close each card by the builder's one call (the guide's Derived/Test/ToyasCard.lean, 'card_holds'). Laid BY PROGRAM, IN A SANDBOX (cutbox-door.mjs). By AI agents, Wed Nov 11 2026. No macro, syntax, notation, axiom, sorry.
-/
import Derived.Test.YtfphmpnkfjeceaaDoorRows
import GoSem.ClaimSeven
namespace Go.Proofs.YtfphmpnkfjeceaaDoor
namespace Rows

/-- THE TIED CARD OF 'lanyardlaw02.BaseDecodes'. -/
def baseDecodesCard : Claim7 := { stood := { row := baseDecodesRow, standIns := [], harness := (true, "4804ecb48a24306c2aed7492ae7b44b22818b95f08dc9256ad17a63243fefeb1"), looks := false }, kinds := [], alts := [], laidByText := true, laidKinds := [.data, .pinned], laidTests := true, laidLooks := .later }
def BaseDecodesCardSaid : Prop := Claim7.holds Tryd.pinned (.plain (OpenSpec.ofChange baseDecodesSpec)) baseDecodesCard

/-- THE TIED CARD OF 'lanyardlaw02.BaseApart'. -/
def baseApartCard : Claim7 := { stood := { row := baseApartRow, standIns := [], harness := (true, "4804ecb48a24306c2aed7492ae7b44b22818b95f08dc9256ad17a63243fefeb1"), looks := false }, kinds := [], alts := [], laidByText := true, laidKinds := [.data, .pinned], laidTests := true, laidLooks := .later }
def BaseApartCardSaid : Prop := Claim7.holds Tryd.pinned (.plain (OpenSpec.ofChange baseApartSpec)) baseApartCard

/-- THE TIED CARD OF 'lanyardlaw02.BaseFolds'. -/
def baseFoldsCard : Claim7 := { stood := { row := baseFoldsRow, standIns := [], harness := (true, "4804ecb48a24306c2aed7492ae7b44b22818b95f08dc9256ad17a63243fefeb1"), looks := false }, kinds := [], alts := [], laidByText := true, laidKinds := [.data, .pinned], laidTests := true, laidLooks := .later }
def BaseFoldsCardSaid : Prop := Claim7.holds Tryd.pinned (.plain (OpenSpec.ofChange baseFoldsSpec)) baseFoldsCard

/-- THE TIED CARD OF 'lanyardlaw02.BaseUnhex'. -/
def baseUnhexCard : Claim7 := { stood := { row := baseUnhexRow, standIns := [], harness := (true, "4804ecb48a24306c2aed7492ae7b44b22818b95f08dc9256ad17a63243fefeb1"), looks := false }, kinds := [], alts := [], laidByText := true, laidKinds := [.data, .pinned], laidTests := true, laidLooks := .later }
def BaseUnhexCardSaid : Prop := Claim7.holds Tryd.pinned (.plain (OpenSpec.ofChange baseUnhexSpec)) baseUnhexCard

/-- THE TIED CARD OF 'lanyardlaw02.BaseEncodes'. -/
def baseEncodesCard : Claim7 := { stood := { row := baseEncodesRow, standIns := [], harness := (true, "4804ecb48a24306c2aed7492ae7b44b22818b95f08dc9256ad17a63243fefeb1"), looks := false }, kinds := [], alts := [], laidByText := true, laidKinds := [.data, .pinned], laidTests := true, laidLooks := .later }
def BaseEncodesCardSaid : Prop := Claim7.holds Tryd.pinned (.plain (OpenSpec.ofChange baseEncodesSpec)) baseEncodesCard

/-- THE SECOND FORM's CARD OF 'lanyardlaw02.BaseDecodes'. -/
def baseDecodesUptoCard : Claim7 := { stood := { row := baseDecodesUptoRow, standIns := [], harness := (true, "4804ecb48a24306c2aed7492ae7b44b22818b95f08dc9256ad17a63243fefeb1"), looks := false }, kinds := [], alts := [], laidByText := true, laidKinds := [.data, .pinned], laidTests := true, laidLooks := .later }
def BaseDecodesUptoCardSaid : Prop := Claim7.holds Tryd.pinned (.plain (OpenSpec.upto baseDecodesSpec)) baseDecodesUptoCard

/-- THE SECOND FORM's CARD OF 'lanyardlaw02.BaseApart'. -/
def baseApartUptoCard : Claim7 := { stood := { row := baseApartUptoRow, standIns := [], harness := (true, "4804ecb48a24306c2aed7492ae7b44b22818b95f08dc9256ad17a63243fefeb1"), looks := false }, kinds := [], alts := [], laidByText := true, laidKinds := [.data, .pinned], laidTests := true, laidLooks := .later }
def BaseApartUptoCardSaid : Prop := Claim7.holds Tryd.pinned (.plain (OpenSpec.upto baseApartSpec)) baseApartUptoCard

/-- THE SECOND FORM's CARD OF 'lanyardlaw02.BaseFolds'. -/
def baseFoldsUptoCard : Claim7 := { stood := { row := baseFoldsUptoRow, standIns := [], harness := (true, "4804ecb48a24306c2aed7492ae7b44b22818b95f08dc9256ad17a63243fefeb1"), looks := false }, kinds := [], alts := [], laidByText := true, laidKinds := [.data, .pinned], laidTests := true, laidLooks := .later }
def BaseFoldsUptoCardSaid : Prop := Claim7.holds Tryd.pinned (.plain (OpenSpec.upto baseFoldsSpec)) baseFoldsUptoCard

/-- THE SECOND FORM's CARD OF 'lanyardlaw02.BaseUnhex'. -/
def baseUnhexUptoCard : Claim7 := { stood := { row := baseUnhexUptoRow, standIns := [], harness := (true, "4804ecb48a24306c2aed7492ae7b44b22818b95f08dc9256ad17a63243fefeb1"), looks := false }, kinds := [], alts := [], laidByText := true, laidKinds := [.data, .pinned], laidTests := true, laidLooks := .later }
def BaseUnhexUptoCardSaid : Prop := Claim7.holds Tryd.pinned (.plain (OpenSpec.upto baseUnhexSpec)) baseUnhexUptoCard

/-- THE SECOND FORM's CARD OF 'lanyardlaw02.BaseEncodes'. -/
def baseEncodesUptoCard : Claim7 := { stood := { row := baseEncodesUptoRow, standIns := [], harness := (true, "4804ecb48a24306c2aed7492ae7b44b22818b95f08dc9256ad17a63243fefeb1"), looks := false }, kinds := [], alts := [], laidByText := true, laidKinds := [.data, .pinned], laidTests := true, laidLooks := .later }
def BaseEncodesUptoCardSaid : Prop := Claim7.holds Tryd.pinned (.plain (OpenSpec.upto baseEncodesSpec)) baseEncodesUptoCard
end Rows
end Go.Proofs.YtfphmpnkfjeceaaDoor
