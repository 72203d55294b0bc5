/-
  DERIVED. GIVEN WITH THE SEED: THE CARDS: each row of YtcikjghmelbkaaaDoorRows.lean that lists a variable, with what it lists TIED to the program's text (the seventh form; the later family's looks); each row that meets fmt, with fmt's text TOLD by the authors' own Lean function (tested against real Go, not proved from fmt's source: count such statements apart). THE CARD IS WHAT COUNTS. Prove the row's statement (the work); the ties are given (YtcikjghmelbkaaaDoorTie.lean); close each card by the builder's one call (the guide's Derived/Test/ToyasCard.lean, 'card_holds'). Laid BY PROGRAM, IN A SANDBOX (cutbox-door.mjs). By AI agents, Wed Nov 11 2026. No macro, syntax, notation, axiom, sorry.
-/
import Derived.Test.YtcikjghmelbkaaaDoorRows
import GoSem.ClaimSeven
namespace Go.Proofs.YtcikjghmelbkaaaDoor
namespace Rows

/-- THE TIED CARD OF 'lanyardlaw10.MomentPrints'. -/
def momentPrintsCard : Claim7 := { stood := { row := momentPrintsRow, standIns := [], harness := (true, "82fc39f7ffe54da971afb6f80734ef37e298680a78b5a246ec727132dd869485"), looks := true }, kinds := [], alts := [], laidByText := true, laidKinds := [.data, .pinned], laidTests := true, laidLooks := .later }
def MomentPrintsCardSaid : Prop := Claim7.holds Tryd.pinned (.plain (OpenSpec.ofChange momentPrintsSpec)) momentPrintsCard

/-- THE TIED CARD OF 'lanyardlaw10.MomentDays'. -/
def momentDaysCard : Claim7 := { stood := { row := momentDaysRow, standIns := [], harness := (true, "82fc39f7ffe54da971afb6f80734ef37e298680a78b5a246ec727132dd869485"), looks := true }, kinds := [], alts := [], laidByText := true, laidKinds := [.data, .pinned], laidTests := true, laidLooks := .later }
def MomentDaysCardSaid : Prop := Claim7.holds Tryd.pinned (.plain (OpenSpec.ofChange momentDaysSpec)) momentDaysCard

/-- THE TIED CARD OF 'lanyardlaw10.MomentOrders'. -/
def momentOrdersCard : Claim7 := { stood := { row := momentOrdersRow, standIns := [], harness := (true, "82fc39f7ffe54da971afb6f80734ef37e298680a78b5a246ec727132dd869485"), looks := true }, kinds := [], alts := [], laidByText := true, laidKinds := [.data, .pinned], laidTests := true, laidLooks := .later }
def MomentOrdersCardSaid : Prop := Claim7.holds Tryd.pinned (.plain (OpenSpec.ofChange momentOrdersSpec)) momentOrdersCard

/-- THE TIED CARD OF 'lanyardlaw10.MomentShifts'. -/
def momentShiftsCard : Claim7 := { stood := { row := momentShiftsRow, standIns := [], harness := (true, "82fc39f7ffe54da971afb6f80734ef37e298680a78b5a246ec727132dd869485"), looks := true }, kinds := [], alts := [], laidByText := true, laidKinds := [.data, .pinned], laidTests := true, laidLooks := .later }
def MomentShiftsCardSaid : Prop := Claim7.holds Tryd.pinned (.plain (OpenSpec.ofChange momentShiftsSpec)) momentShiftsCard

/-- THE TIED CARD OF 'lanyardlaw10.MomentAdds'. -/
def momentAddsCard : Claim7 := { stood := { row := momentAddsRow, standIns := [], harness := (true, "82fc39f7ffe54da971afb6f80734ef37e298680a78b5a246ec727132dd869485"), looks := true }, kinds := [], alts := [], laidByText := true, laidKinds := [.data, .pinned], laidTests := true, laidLooks := .later }
def MomentAddsCardSaid : Prop := Claim7.holds Tryd.pinned (.plain (OpenSpec.ofChange momentAddsSpec)) momentAddsCard

/-- THE SECOND FORM's CARD OF 'lanyardlaw10.MomentPrints'. -/
def momentPrintsUptoCard : Claim7 := { stood := { row := momentPrintsUptoRow, standIns := [], harness := (true, "82fc39f7ffe54da971afb6f80734ef37e298680a78b5a246ec727132dd869485"), looks := true }, kinds := [], alts := [], laidByText := true, laidKinds := [.data, .pinned], laidTests := true, laidLooks := .later }
def MomentPrintsUptoCardSaid : Prop := Claim7.holds Tryd.pinned (.plain (OpenSpec.upto momentPrintsSpec)) momentPrintsUptoCard

/-- THE SECOND FORM's CARD OF 'lanyardlaw10.MomentDays'. -/
def momentDaysUptoCard : Claim7 := { stood := { row := momentDaysUptoRow, standIns := [], harness := (true, "82fc39f7ffe54da971afb6f80734ef37e298680a78b5a246ec727132dd869485"), looks := true }, kinds := [], alts := [], laidByText := true, laidKinds := [.data, .pinned], laidTests := true, laidLooks := .later }
def MomentDaysUptoCardSaid : Prop := Claim7.holds Tryd.pinned (.plain (OpenSpec.upto momentDaysSpec)) momentDaysUptoCard

/-- THE SECOND FORM's CARD OF 'lanyardlaw10.MomentOrders'. -/
def momentOrdersUptoCard : Claim7 := { stood := { row := momentOrdersUptoRow, standIns := [], harness := (true, "82fc39f7ffe54da971afb6f80734ef37e298680a78b5a246ec727132dd869485"), looks := true }, kinds := [], alts := [], laidByText := true, laidKinds := [.data, .pinned], laidTests := true, laidLooks := .later }
def MomentOrdersUptoCardSaid : Prop := Claim7.holds Tryd.pinned (.plain (OpenSpec.upto momentOrdersSpec)) momentOrdersUptoCard

/-- THE SECOND FORM's CARD OF 'lanyardlaw10.MomentShifts'. -/
def momentShiftsUptoCard : Claim7 := { stood := { row := momentShiftsUptoRow, standIns := [], harness := (true, "82fc39f7ffe54da971afb6f80734ef37e298680a78b5a246ec727132dd869485"), looks := true }, kinds := [], alts := [], laidByText := true, laidKinds := [.data, .pinned], laidTests := true, laidLooks := .later }
def MomentShiftsUptoCardSaid : Prop := Claim7.holds Tryd.pinned (.plain (OpenSpec.upto momentShiftsSpec)) momentShiftsUptoCard

/-- THE SECOND FORM's CARD OF 'lanyardlaw10.MomentAdds'. -/
def momentAddsUptoCard : Claim7 := { stood := { row := momentAddsUptoRow, standIns := [], harness := (true, "82fc39f7ffe54da971afb6f80734ef37e298680a78b5a246ec727132dd869485"), looks := true }, kinds := [], alts := [], laidByText := true, laidKinds := [.data, .pinned], laidTests := true, laidLooks := .later }
def MomentAddsUptoCardSaid : Prop := Claim7.holds Tryd.pinned (.plain (OpenSpec.upto momentAddsSpec)) momentAddsUptoCard
end Rows
end Go.Proofs.YtcikjghmelbkaaaDoor
