/-
  DERIVED. GIVEN WITH THE SEED: THE CARDS: each row of YtaiolioggjknfaaDoorRows.lean that lists a variable, with what it lists TIED to the program's text (the seventh form; the later family's looks); each row that meets fmt, with fmt's text TOLD by the authors' own Lean function (tested against real Go, not proved from fmt's source: count such statements apart). THE CARD IS WHAT COUNTS. Prove the row's statement (the work); the ties are given (YtaiolioggjknfaaDoorTie.lean); close each card by the builder's one call (the guide's Derived/Test/ToyasCard.lean, 'card_holds'). Laid BY PROGRAM, IN A SANDBOX (cutbox-door.mjs). By AI agents, Wed Nov 11 2026. No macro, syntax, notation, axiom, sorry.
-/
import Derived.Test.YtaiolioggjknfaaDoorRows
import GoSem.ClaimSeven
namespace Go.Proofs.YtaiolioggjknfaaDoor
namespace Rows

/-- THE TIED CARD OF 'leadlinelaw13.SoundSlants'. -/
def soundSlantsCard : Claim7 := { stood := { row := soundSlantsRow, standIns := [], harness := (true, "cf1cd93ed22b7754dc73b5c40617a8d8a51ab6d08d28967bd7f4b9ac475f7174"), looks := true }, kinds := [], alts := [], laidByText := true, laidKinds := [.handle], laidTests := true, laidLooks := .later }
def SoundSlantsCardSaid : Prop := Claim7.holds Tryd.pinned (.plain (OpenSpec.ofChange soundSlantsSpec)) soundSlantsCard

/-- THE TIED CARD OF 'leadlinelaw13.SoundLine'. -/
def soundLineCard : Claim7 := { stood := { row := soundLineRow, standIns := [], harness := (true, "cf1cd93ed22b7754dc73b5c40617a8d8a51ab6d08d28967bd7f4b9ac475f7174"), looks := true }, kinds := [], alts := [], laidByText := true, laidKinds := [.handle], laidTests := true, laidLooks := .later }
def SoundLineCardSaid : Prop := Claim7.holds Tryd.pinned (.plain (OpenSpec.ofChange soundLineSpec)) soundLineCard

/-- THE TIED CARD OF 'leadlinelaw13.SoundWater'. -/
def soundWaterCard : Claim7 := { stood := { row := soundWaterRow, standIns := [], harness := (true, "cf1cd93ed22b7754dc73b5c40617a8d8a51ab6d08d28967bd7f4b9ac475f7174"), looks := true }, kinds := [], alts := [], laidByText := true, laidKinds := [.handle], laidTests := true, laidLooks := .later }
def SoundWaterCardSaid : Prop := Claim7.holds Tryd.pinned (.plain (OpenSpec.ofChange soundWaterSpec)) soundWaterCard

/-- THE TIED CARD OF 'leadlinelaw15.DeadBack'. -/
def deadBackCard : Claim7 := { stood := { row := deadBackRow, standIns := [], harness := (true, "cf1cd93ed22b7754dc73b5c40617a8d8a51ab6d08d28967bd7f4b9ac475f7174"), looks := true }, kinds := [], alts := [], laidByText := true, laidKinds := [.handle], laidTests := true, laidLooks := .later }
def DeadBackCardSaid : Prop := Claim7.holds Tryd.pinned (.plain (OpenSpec.ofChange deadBackSpec)) deadBackCard

/-- THE TIED CARD OF 'leadlinelaw16.LineUnits'. -/
def lineUnitsCard : Claim7 := { stood := { row := lineUnitsRow, standIns := [], harness := (true, "cf1cd93ed22b7754dc73b5c40617a8d8a51ab6d08d28967bd7f4b9ac475f7174"), looks := true }, kinds := [], alts := [], laidByText := true, laidKinds := [.handle], laidTests := true, laidLooks := .later }
def LineUnitsCardSaid : Prop := Claim7.holds Tryd.pinned (.plain (OpenSpec.ofChange lineUnitsSpec)) lineUnitsCard

/-- THE TIED CARD OF 'leadlinelaw16.RowSums'. -/
def rowSumsCard : Claim7 := { stood := { row := rowSumsRow, standIns := [], harness := (true, "cf1cd93ed22b7754dc73b5c40617a8d8a51ab6d08d28967bd7f4b9ac475f7174"), looks := true }, kinds := [], alts := [], laidByText := true, laidKinds := [.handle], laidTests := true, laidLooks := .later }
def RowSumsCardSaid : Prop := Claim7.holds Tryd.pinned (.plain (OpenSpec.ofChange rowSumsSpec)) rowSumsCard

/-- THE TIED CARD OF 'leadlinelaw16.LineSame'. -/
def lineSameCard : Claim7 := { stood := { row := lineSameRow, standIns := [], harness := (true, "cf1cd93ed22b7754dc73b5c40617a8d8a51ab6d08d28967bd7f4b9ac475f7174"), looks := true }, kinds := [], alts := [], laidByText := true, laidKinds := [.handle], laidTests := true, laidLooks := .later }
def LineSameCardSaid : Prop := Claim7.holds Tryd.pinned (.plain (OpenSpec.ofChange lineSameSpec)) lineSameCard

/-- THE TIED CARD OF 'leadlinelaw13.SoundTells'. -/
def soundTellsCard : Claim7 := { stood := { row := soundTellsRow, standIns := [], harness := (true, "cf1cd93ed22b7754dc73b5c40617a8d8a51ab6d08d28967bd7f4b9ac475f7174"), looks := true }, kinds := [], alts := [], laidByText := true, laidKinds := [.handle], laidTests := true, laidLooks := .later }
def SoundTellsCardSaid : Prop := Claim7.holds Tryd.pinned (.plain (OpenSpec.ofChange soundTellsSpec)) soundTellsCard

/-- THE TIED CARD OF 'leadlinelaw15.DeadTells'. -/
def deadTellsCard : Claim7 := { stood := { row := deadTellsRow, standIns := [], harness := (true, "cf1cd93ed22b7754dc73b5c40617a8d8a51ab6d08d28967bd7f4b9ac475f7174"), looks := true }, kinds := [], alts := [], laidByText := true, laidKinds := [.handle], laidTests := true, laidLooks := .later }
def DeadTellsCardSaid : Prop := Claim7.holds Tryd.pinned (.plain (OpenSpec.ofChange deadTellsSpec)) deadTellsCard

/-- THE TIED CARD OF 'leadlinelaw15.DeadFour'. -/
def deadFourCard : Claim7 := { stood := { row := deadFourRow, standIns := [], harness := (true, "cf1cd93ed22b7754dc73b5c40617a8d8a51ab6d08d28967bd7f4b9ac475f7174"), looks := true }, kinds := [], alts := [], laidByText := true, laidKinds := [.handle], laidTests := true, laidLooks := .later }
def DeadFourCardSaid : Prop := Claim7.holds Tryd.pinned (.plain (OpenSpec.ofChange deadFourSpec)) deadFourCard

/-- THE TIED CARD OF 'leadlinelaw16.LineTells'. -/
def lineTellsCard : Claim7 := { stood := { row := lineTellsRow, standIns := [], harness := (true, "cf1cd93ed22b7754dc73b5c40617a8d8a51ab6d08d28967bd7f4b9ac475f7174"), looks := true }, kinds := [], alts := [], laidByText := true, laidKinds := [.handle], laidTests := true, laidLooks := .later }
def LineTellsCardSaid : Prop := Claim7.holds Tryd.pinned (.plain (OpenSpec.ofChange lineTellsSpec)) lineTellsCard

/-- THE SECOND FORM's CARD OF 'leadlinelaw13.SoundSlants'. -/
def soundSlantsUptoCard : Claim7 := { stood := { row := soundSlantsUptoRow, standIns := [], harness := (true, "cf1cd93ed22b7754dc73b5c40617a8d8a51ab6d08d28967bd7f4b9ac475f7174"), looks := true }, kinds := [], alts := [], laidByText := true, laidKinds := [.handle], laidTests := true, laidLooks := .later }
def SoundSlantsUptoCardSaid : Prop := Claim7.holds Tryd.pinned (.plain (OpenSpec.upto soundSlantsSpec)) soundSlantsUptoCard

/-- THE SECOND FORM's CARD OF 'leadlinelaw13.SoundLine'. -/
def soundLineUptoCard : Claim7 := { stood := { row := soundLineUptoRow, standIns := [], harness := (true, "cf1cd93ed22b7754dc73b5c40617a8d8a51ab6d08d28967bd7f4b9ac475f7174"), looks := true }, kinds := [], alts := [], laidByText := true, laidKinds := [.handle], laidTests := true, laidLooks := .later }
def SoundLineUptoCardSaid : Prop := Claim7.holds Tryd.pinned (.plain (OpenSpec.upto soundLineSpec)) soundLineUptoCard

/-- THE SECOND FORM's CARD OF 'leadlinelaw13.SoundWater'. -/
def soundWaterUptoCard : Claim7 := { stood := { row := soundWaterUptoRow, standIns := [], harness := (true, "cf1cd93ed22b7754dc73b5c40617a8d8a51ab6d08d28967bd7f4b9ac475f7174"), looks := true }, kinds := [], alts := [], laidByText := true, laidKinds := [.handle], laidTests := true, laidLooks := .later }
def SoundWaterUptoCardSaid : Prop := Claim7.holds Tryd.pinned (.plain (OpenSpec.upto soundWaterSpec)) soundWaterUptoCard

/-- THE SECOND FORM's CARD OF 'leadlinelaw15.DeadBack'. -/
def deadBackUptoCard : Claim7 := { stood := { row := deadBackUptoRow, standIns := [], harness := (true, "cf1cd93ed22b7754dc73b5c40617a8d8a51ab6d08d28967bd7f4b9ac475f7174"), looks := true }, kinds := [], alts := [], laidByText := true, laidKinds := [.handle], laidTests := true, laidLooks := .later }
def DeadBackUptoCardSaid : Prop := Claim7.holds Tryd.pinned (.plain (OpenSpec.upto deadBackSpec)) deadBackUptoCard

/-- THE SECOND FORM's CARD OF 'leadlinelaw16.LineUnits'. -/
def lineUnitsUptoCard : Claim7 := { stood := { row := lineUnitsUptoRow, standIns := [], harness := (true, "cf1cd93ed22b7754dc73b5c40617a8d8a51ab6d08d28967bd7f4b9ac475f7174"), looks := true }, kinds := [], alts := [], laidByText := true, laidKinds := [.handle], laidTests := true, laidLooks := .later }
def LineUnitsUptoCardSaid : Prop := Claim7.holds Tryd.pinned (.plain (OpenSpec.upto lineUnitsSpec)) lineUnitsUptoCard

/-- THE SECOND FORM's CARD OF 'leadlinelaw16.RowSums'. -/
def rowSumsUptoCard : Claim7 := { stood := { row := rowSumsUptoRow, standIns := [], harness := (true, "cf1cd93ed22b7754dc73b5c40617a8d8a51ab6d08d28967bd7f4b9ac475f7174"), looks := true }, kinds := [], alts := [], laidByText := true, laidKinds := [.handle], laidTests := true, laidLooks := .later }
def RowSumsUptoCardSaid : Prop := Claim7.holds Tryd.pinned (.plain (OpenSpec.upto rowSumsSpec)) rowSumsUptoCard

/-- THE SECOND FORM's CARD OF 'leadlinelaw16.LineSame'. -/
def lineSameUptoCard : Claim7 := { stood := { row := lineSameUptoRow, standIns := [], harness := (true, "cf1cd93ed22b7754dc73b5c40617a8d8a51ab6d08d28967bd7f4b9ac475f7174"), looks := true }, kinds := [], alts := [], laidByText := true, laidKinds := [.handle], laidTests := true, laidLooks := .later }
def LineSameUptoCardSaid : Prop := Claim7.holds Tryd.pinned (.plain (OpenSpec.upto lineSameSpec)) lineSameUptoCard

/-- THE SECOND FORM's CARD OF 'leadlinelaw13.SoundTells'. -/
def soundTellsUptoCard : Claim7 := { stood := { row := soundTellsUptoRow, standIns := [], harness := (true, "cf1cd93ed22b7754dc73b5c40617a8d8a51ab6d08d28967bd7f4b9ac475f7174"), looks := true }, kinds := [], alts := [], laidByText := true, laidKinds := [.handle], laidTests := true, laidLooks := .later }
def SoundTellsUptoCardSaid : Prop := Claim7.holds Tryd.pinned (.plain (OpenSpec.upto soundTellsSpec)) soundTellsUptoCard

/-- THE SECOND FORM's CARD OF 'leadlinelaw15.DeadTells'. -/
def deadTellsUptoCard : Claim7 := { stood := { row := deadTellsUptoRow, standIns := [], harness := (true, "cf1cd93ed22b7754dc73b5c40617a8d8a51ab6d08d28967bd7f4b9ac475f7174"), looks := true }, kinds := [], alts := [], laidByText := true, laidKinds := [.handle], laidTests := true, laidLooks := .later }
def DeadTellsUptoCardSaid : Prop := Claim7.holds Tryd.pinned (.plain (OpenSpec.upto deadTellsSpec)) deadTellsUptoCard

/-- THE SECOND FORM's CARD OF 'leadlinelaw15.DeadFour'. -/
def deadFourUptoCard : Claim7 := { stood := { row := deadFourUptoRow, standIns := [], harness := (true, "cf1cd93ed22b7754dc73b5c40617a8d8a51ab6d08d28967bd7f4b9ac475f7174"), looks := true }, kinds := [], alts := [], laidByText := true, laidKinds := [.handle], laidTests := true, laidLooks := .later }
def DeadFourUptoCardSaid : Prop := Claim7.holds Tryd.pinned (.plain (OpenSpec.upto deadFourSpec)) deadFourUptoCard

/-- THE SECOND FORM's CARD OF 'leadlinelaw16.LineTells'. -/
def lineTellsUptoCard : Claim7 := { stood := { row := lineTellsUptoRow, standIns := [], harness := (true, "cf1cd93ed22b7754dc73b5c40617a8d8a51ab6d08d28967bd7f4b9ac475f7174"), looks := true }, kinds := [], alts := [], laidByText := true, laidKinds := [.handle], laidTests := true, laidLooks := .later }
def LineTellsUptoCardSaid : Prop := Claim7.holds Tryd.pinned (.plain (OpenSpec.upto lineTellsSpec)) lineTellsUptoCard
end Rows
end Go.Proofs.YtaiolioggjknfaaDoor
