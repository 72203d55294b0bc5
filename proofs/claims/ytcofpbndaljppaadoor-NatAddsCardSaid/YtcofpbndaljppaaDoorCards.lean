/-
  DERIVED. GIVEN WITH THE SEED: THE CARDS: each row of YtcofpbndaljppaaDoorRows.lean that lists a variable, with what it lists TIED to the program's text (the seventh form; the later family's looks); each row that meets fmt, with fmt's text TOLD by the authors' own Lean function (tested against real Go, not proved from fmt's source: count such statements apart). THE CARD IS WHAT COUNTS. Prove the row's statement (the work); the ties are given (YtcofpbndaljppaaDoorTie.lean); close each card by the builder's one call (the guide's Derived/Test/ToyasCard.lean, 'card_holds'). Laid BY PROGRAM, IN A SANDBOX (cutbox-door.mjs). By AI agents, Wed Nov 11 2026. No macro, syntax, notation, axiom, sorry.
-/
import Derived.Test.YtcofpbndaljppaaDoorRows
import GoSem.ClaimSeven
namespace Go.Proofs.YtcofpbndaljppaaDoor
namespace Rows

/-- THE TIED CARD OF 'lanyardlaw06.NatDivs'. -/
def natDivsCard : Claim7 := { stood := { row := natDivsRow, standIns := [], harness := (true, "a5619028d44e6bfd81e80d6720d9ff6c81dbac49e64830d44024a4f32dc3e7a4"), looks := false }, kinds := [], alts := [], laidByText := true, laidKinds := [.data, .pinned], laidTests := true, laidLooks := .later }
def NatDivsCardSaid : Prop := Claim7.holds Tryd.pinned (.plain (OpenSpec.ofChange natDivsSpec)) natDivsCard

/-- THE TIED CARD OF 'lanyardlaw06.NatPowers'. -/
def natPowersCard : Claim7 := { stood := { row := natPowersRow, standIns := [], harness := (true, "a5619028d44e6bfd81e80d6720d9ff6c81dbac49e64830d44024a4f32dc3e7a4"), looks := false }, kinds := [], alts := [], laidByText := true, laidKinds := [.data, .pinned], laidTests := true, laidLooks := .later }
def NatPowersCardSaid : Prop := Claim7.holds Tryd.pinned (.plain (OpenSpec.ofChange natPowersSpec)) natPowersCard

/-- THE TIED CARD OF 'lanyardlaw06.NatInverses'. -/
def natInversesCard : Claim7 := { stood := { row := natInversesRow, standIns := [], harness := (true, "a5619028d44e6bfd81e80d6720d9ff6c81dbac49e64830d44024a4f32dc3e7a4"), looks := false }, kinds := [], alts := [], laidByText := true, laidKinds := [.data, .pinned], laidTests := true, laidLooks := .later }
def NatInversesCardSaid : Prop := Claim7.holds Tryd.pinned (.plain (OpenSpec.ofChange natInversesSpec)) natInversesCard

/-- THE TIED CARD OF 'lanyardlaw06.NatBack'. -/
def natBackCard : Claim7 := { stood := { row := natBackRow, standIns := [], harness := (true, "a5619028d44e6bfd81e80d6720d9ff6c81dbac49e64830d44024a4f32dc3e7a4"), looks := false }, kinds := [], alts := [], laidByText := true, laidKinds := [.data, .pinned], laidTests := true, laidLooks := .later }
def NatBackCardSaid : Prop := Claim7.holds Tryd.pinned (.plain (OpenSpec.ofChange natBackSpec)) natBackCard

/-- THE TIED CARD OF 'lanyardlaw06.NatAdds'. -/
def natAddsCard : Claim7 := { stood := { row := natAddsRow, standIns := [], harness := (true, "a5619028d44e6bfd81e80d6720d9ff6c81dbac49e64830d44024a4f32dc3e7a4"), looks := false }, kinds := [], alts := [], laidByText := true, laidKinds := [.data, .pinned], laidTests := true, laidLooks := .later }
def NatAddsCardSaid : Prop := Claim7.holds Tryd.pinned (.plain (OpenSpec.ofChange natAddsSpec)) natAddsCard

/-- THE TIED CARD OF 'lanyardlaw06.NatSums'. -/
def natSumsCard : Claim7 := { stood := { row := natSumsRow, standIns := [], harness := (true, "a5619028d44e6bfd81e80d6720d9ff6c81dbac49e64830d44024a4f32dc3e7a4"), looks := false }, kinds := [], alts := [], laidByText := true, laidKinds := [.data, .pinned], laidTests := true, laidLooks := .later }
def NatSumsCardSaid : Prop := Claim7.holds Tryd.pinned (.plain (OpenSpec.ofChange natSumsSpec)) natSumsCard

/-- THE TIED CARD OF 'lanyardlaw06.NatRings'. -/
def natRingsCard : Claim7 := { stood := { row := natRingsRow, standIns := [], harness := (true, "a5619028d44e6bfd81e80d6720d9ff6c81dbac49e64830d44024a4f32dc3e7a4"), looks := false }, kinds := [], alts := [], laidByText := true, laidKinds := [.data, .pinned], laidTests := true, laidLooks := .later }
def NatRingsCardSaid : Prop := Claim7.holds Tryd.pinned (.plain (OpenSpec.ofChange natRingsSpec)) natRingsCard

/-- THE TIED CARD OF 'lanyardlaw06.NatLong'. -/
def natLongCard : Claim7 := { stood := { row := natLongRow, standIns := [], harness := (true, "a5619028d44e6bfd81e80d6720d9ff6c81dbac49e64830d44024a4f32dc3e7a4"), looks := false }, kinds := [], alts := [], laidByText := true, laidKinds := [.data, .pinned], laidTests := true, laidLooks := .later }
def NatLongCardSaid : Prop := Claim7.holds Tryd.pinned (.plain (OpenSpec.ofChange natLongSpec)) natLongCard

/-- THE SECOND FORM's CARD OF 'lanyardlaw06.NatDivs'. -/
def natDivsUptoCard : Claim7 := { stood := { row := natDivsUptoRow, standIns := [], harness := (true, "a5619028d44e6bfd81e80d6720d9ff6c81dbac49e64830d44024a4f32dc3e7a4"), looks := false }, kinds := [], alts := [], laidByText := true, laidKinds := [.data, .pinned], laidTests := true, laidLooks := .later }
def NatDivsUptoCardSaid : Prop := Claim7.holds Tryd.pinned (.plain (OpenSpec.upto natDivsSpec)) natDivsUptoCard

/-- THE SECOND FORM's CARD OF 'lanyardlaw06.NatPowers'. -/
def natPowersUptoCard : Claim7 := { stood := { row := natPowersUptoRow, standIns := [], harness := (true, "a5619028d44e6bfd81e80d6720d9ff6c81dbac49e64830d44024a4f32dc3e7a4"), looks := false }, kinds := [], alts := [], laidByText := true, laidKinds := [.data, .pinned], laidTests := true, laidLooks := .later }
def NatPowersUptoCardSaid : Prop := Claim7.holds Tryd.pinned (.plain (OpenSpec.upto natPowersSpec)) natPowersUptoCard

/-- THE SECOND FORM's CARD OF 'lanyardlaw06.NatInverses'. -/
def natInversesUptoCard : Claim7 := { stood := { row := natInversesUptoRow, standIns := [], harness := (true, "a5619028d44e6bfd81e80d6720d9ff6c81dbac49e64830d44024a4f32dc3e7a4"), looks := false }, kinds := [], alts := [], laidByText := true, laidKinds := [.data, .pinned], laidTests := true, laidLooks := .later }
def NatInversesUptoCardSaid : Prop := Claim7.holds Tryd.pinned (.plain (OpenSpec.upto natInversesSpec)) natInversesUptoCard

/-- THE SECOND FORM's CARD OF 'lanyardlaw06.NatBack'. -/
def natBackUptoCard : Claim7 := { stood := { row := natBackUptoRow, standIns := [], harness := (true, "a5619028d44e6bfd81e80d6720d9ff6c81dbac49e64830d44024a4f32dc3e7a4"), looks := false }, kinds := [], alts := [], laidByText := true, laidKinds := [.data, .pinned], laidTests := true, laidLooks := .later }
def NatBackUptoCardSaid : Prop := Claim7.holds Tryd.pinned (.plain (OpenSpec.upto natBackSpec)) natBackUptoCard

/-- THE SECOND FORM's CARD OF 'lanyardlaw06.NatAdds'. -/
def natAddsUptoCard : Claim7 := { stood := { row := natAddsUptoRow, standIns := [], harness := (true, "a5619028d44e6bfd81e80d6720d9ff6c81dbac49e64830d44024a4f32dc3e7a4"), looks := false }, kinds := [], alts := [], laidByText := true, laidKinds := [.data, .pinned], laidTests := true, laidLooks := .later }
def NatAddsUptoCardSaid : Prop := Claim7.holds Tryd.pinned (.plain (OpenSpec.upto natAddsSpec)) natAddsUptoCard

/-- THE SECOND FORM's CARD OF 'lanyardlaw06.NatSums'. -/
def natSumsUptoCard : Claim7 := { stood := { row := natSumsUptoRow, standIns := [], harness := (true, "a5619028d44e6bfd81e80d6720d9ff6c81dbac49e64830d44024a4f32dc3e7a4"), looks := false }, kinds := [], alts := [], laidByText := true, laidKinds := [.data, .pinned], laidTests := true, laidLooks := .later }
def NatSumsUptoCardSaid : Prop := Claim7.holds Tryd.pinned (.plain (OpenSpec.upto natSumsSpec)) natSumsUptoCard

/-- THE SECOND FORM's CARD OF 'lanyardlaw06.NatRings'. -/
def natRingsUptoCard : Claim7 := { stood := { row := natRingsUptoRow, standIns := [], harness := (true, "a5619028d44e6bfd81e80d6720d9ff6c81dbac49e64830d44024a4f32dc3e7a4"), looks := false }, kinds := [], alts := [], laidByText := true, laidKinds := [.data, .pinned], laidTests := true, laidLooks := .later }
def NatRingsUptoCardSaid : Prop := Claim7.holds Tryd.pinned (.plain (OpenSpec.upto natRingsSpec)) natRingsUptoCard

/-- THE SECOND FORM's CARD OF 'lanyardlaw06.NatLong'. -/
def natLongUptoCard : Claim7 := { stood := { row := natLongUptoRow, standIns := [], harness := (true, "a5619028d44e6bfd81e80d6720d9ff6c81dbac49e64830d44024a4f32dc3e7a4"), looks := false }, kinds := [], alts := [], laidByText := true, laidKinds := [.data, .pinned], laidTests := true, laidLooks := .later }
def NatLongUptoCardSaid : Prop := Claim7.holds Tryd.pinned (.plain (OpenSpec.upto natLongSpec)) natLongUptoCard
end Rows
end Go.Proofs.YtcofpbndaljppaaDoor
