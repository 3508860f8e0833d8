/-
  DERIVED. GIVEN WITH THE SEED: THE CARDS: each row of YtbfflffekdadnaaDoorRows.lean that lists a variable, with what it lists TIED to the program's text (the seventh form; the later family's looks); each row that meets fmt, with fmt's text TOLD by the authors' own Lean function (tested against real Go, not proved from fmt's source: count such statements apart). THE CARD IS WHAT COUNTS. Prove the row's statement (the work); the ties are given (YtbfflffekdadnaaDoorTie.lean); close each card by the builder's one call (the guide's Derived/Test/ToyasCard.lean, 'card_holds'). Laid BY PROGRAM, IN A SANDBOX (cutbox-door.mjs). By AI agents, Wed Nov 11 2026. No macro, syntax, notation, axiom, sorry.
-/
import Derived.Test.YtbfflffekdadnaaDoorRows
import GoSem.ClaimSeven
namespace Go.Proofs.YtbfflffekdadnaaDoor
namespace Rows

/-- THE TIED CARD OF 'leadlinelaw14.ClockRound'. -/
def clockRoundCard : Claim7 := { stood := { row := clockRoundRow, standIns := [], harness := (true, "6371e8f925ef26db9f6d98a21429ea5aa35858ab7567116c784454377b3701d6"), looks := true }, kinds := [], alts := [], laidByText := true, laidKinds := [.handle], laidTests := true, laidLooks := .later }
def ClockRoundCardSaid : Prop := Claim7.holds Tryd.pinned (.plain (OpenSpec.ofChange clockRoundSpec)) clockRoundCard

/-- THE TIED CARD OF 'leadlinelaw14.ClockTakes'. -/
def clockTakesCard : Claim7 := { stood := { row := clockTakesRow, standIns := [], harness := (true, "6371e8f925ef26db9f6d98a21429ea5aa35858ab7567116c784454377b3701d6"), looks := true }, kinds := [], alts := [], laidByText := true, laidKinds := [.handle], laidTests := true, laidLooks := .later }
def ClockTakesCardSaid : Prop := Claim7.holds Tryd.pinned (.plain (OpenSpec.ofChange clockTakesSpec)) clockTakesCard

/-- THE TIED CARD OF 'leadlinelaw27.ConfigTells'. -/
def configTellsCard : Claim7 := { stood := { row := configTellsRow, standIns := [], harness := (true, "6371e8f925ef26db9f6d98a21429ea5aa35858ab7567116c784454377b3701d6"), looks := true }, kinds := [], alts := [], laidByText := true, laidKinds := [.handle], laidTests := true, laidLooks := .later }
def ConfigTellsCardSaid : Prop := Claim7.holds Tryd.pinned (.plain (OpenSpec.ofChange configTellsSpec)) configTellsCard

/-- THE TIED CARD OF 'leadlinelaw27.ConfigDefault'. -/
def configDefaultCard : Claim7 := { stood := { row := configDefaultRow, standIns := [], harness := (true, "6371e8f925ef26db9f6d98a21429ea5aa35858ab7567116c784454377b3701d6"), looks := true }, kinds := [], alts := [], laidByText := true, laidKinds := [.handle], laidTests := true, laidLooks := .later }
def ConfigDefaultCardSaid : Prop := Claim7.holds Tryd.pinned (.plain (OpenSpec.ofChange configDefaultSpec)) configDefaultCard

/-- THE TIED CARD OF 'leadlinelaw25.StoreSizes'. -/
def storeSizesCard : Claim7 := { stood := { row := storeSizesRow, standIns := [], harness := (true, "6371e8f925ef26db9f6d98a21429ea5aa35858ab7567116c784454377b3701d6"), looks := true }, kinds := [], alts := [], laidByText := true, laidKinds := [.handle], laidTests := true, laidLooks := .later }
def StoreSizesCardSaid : Prop := Claim7.holds Tryd.pinned (.plain (OpenSpec.ofChange storeSizesSpec)) storeSizesCard

/-- THE TIED CARD OF 'leadlinelaw25.StoreTorn'. -/
def storeTornCard : Claim7 := { stood := { row := storeTornRow, standIns := [], harness := (true, "6371e8f925ef26db9f6d98a21429ea5aa35858ab7567116c784454377b3701d6"), looks := true }, kinds := [], alts := [], laidByText := true, laidKinds := [.handle], laidTests := true, laidLooks := .later }
def StoreTornCardSaid : Prop := Claim7.holds Tryd.pinned (.plain (OpenSpec.ofChange storeTornSpec)) storeTornCard

/-- THE SECOND FORM's CARD OF 'leadlinelaw14.ClockRound'. -/
def clockRoundUptoCard : Claim7 := { stood := { row := clockRoundUptoRow, standIns := [], harness := (true, "6371e8f925ef26db9f6d98a21429ea5aa35858ab7567116c784454377b3701d6"), looks := true }, kinds := [], alts := [], laidByText := true, laidKinds := [.handle], laidTests := true, laidLooks := .later }
def ClockRoundUptoCardSaid : Prop := Claim7.holds Tryd.pinned (.plain (OpenSpec.upto clockRoundSpec)) clockRoundUptoCard

/-- THE SECOND FORM's CARD OF 'leadlinelaw14.ClockTakes'. -/
def clockTakesUptoCard : Claim7 := { stood := { row := clockTakesUptoRow, standIns := [], harness := (true, "6371e8f925ef26db9f6d98a21429ea5aa35858ab7567116c784454377b3701d6"), looks := true }, kinds := [], alts := [], laidByText := true, laidKinds := [.handle], laidTests := true, laidLooks := .later }
def ClockTakesUptoCardSaid : Prop := Claim7.holds Tryd.pinned (.plain (OpenSpec.upto clockTakesSpec)) clockTakesUptoCard

/-- THE SECOND FORM's CARD OF 'leadlinelaw27.ConfigTells'. -/
def configTellsUptoCard : Claim7 := { stood := { row := configTellsUptoRow, standIns := [], harness := (true, "6371e8f925ef26db9f6d98a21429ea5aa35858ab7567116c784454377b3701d6"), looks := true }, kinds := [], alts := [], laidByText := true, laidKinds := [.handle], laidTests := true, laidLooks := .later }
def ConfigTellsUptoCardSaid : Prop := Claim7.holds Tryd.pinned (.plain (OpenSpec.upto configTellsSpec)) configTellsUptoCard

/-- THE SECOND FORM's CARD OF 'leadlinelaw27.ConfigDefault'. -/
def configDefaultUptoCard : Claim7 := { stood := { row := configDefaultUptoRow, standIns := [], harness := (true, "6371e8f925ef26db9f6d98a21429ea5aa35858ab7567116c784454377b3701d6"), looks := true }, kinds := [], alts := [], laidByText := true, laidKinds := [.handle], laidTests := true, laidLooks := .later }
def ConfigDefaultUptoCardSaid : Prop := Claim7.holds Tryd.pinned (.plain (OpenSpec.upto configDefaultSpec)) configDefaultUptoCard

/-- THE SECOND FORM's CARD OF 'leadlinelaw25.StoreSizes'. -/
def storeSizesUptoCard : Claim7 := { stood := { row := storeSizesUptoRow, standIns := [], harness := (true, "6371e8f925ef26db9f6d98a21429ea5aa35858ab7567116c784454377b3701d6"), looks := true }, kinds := [], alts := [], laidByText := true, laidKinds := [.handle], laidTests := true, laidLooks := .later }
def StoreSizesUptoCardSaid : Prop := Claim7.holds Tryd.pinned (.plain (OpenSpec.upto storeSizesSpec)) storeSizesUptoCard

/-- THE SECOND FORM's CARD OF 'leadlinelaw25.StoreTorn'. -/
def storeTornUptoCard : Claim7 := { stood := { row := storeTornUptoRow, standIns := [], harness := (true, "6371e8f925ef26db9f6d98a21429ea5aa35858ab7567116c784454377b3701d6"), looks := true }, kinds := [], alts := [], laidByText := true, laidKinds := [.handle], laidTests := true, laidLooks := .later }
def StoreTornUptoCardSaid : Prop := Claim7.holds Tryd.pinned (.plain (OpenSpec.upto storeTornSpec)) storeTornUptoCard
end Rows
end Go.Proofs.YtbfflffekdadnaaDoor
