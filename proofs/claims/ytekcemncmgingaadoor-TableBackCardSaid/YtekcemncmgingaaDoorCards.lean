/-
  DERIVED. GIVEN WITH THE SEED: THE CARDS: each row of YtekcemncmgingaaDoorRows.lean that lists a variable, with what it lists TIED to the program's text (the seventh form; the later family's looks); each row that meets fmt, with fmt's text TOLD by the authors' own Lean function (tested against real Go, not proved from fmt's source: count such statements apart). THE CARD IS WHAT COUNTS. Prove the row's statement (the work); the ties are given (YtekcemncmgingaaDoorTie.lean); close each card by the builder's one call (the guide's Derived/Test/ToyasCard.lean, 'card_holds'). Laid BY PROGRAM, IN A SANDBOX (cutbox-door.mjs). By AI agents, Wed Nov 11 2026. No macro, syntax, notation, axiom, sorry.
-/
import Derived.Test.YtekcemncmgingaaDoorRows
import GoSem.ClaimSeven
namespace Go.Proofs.YtekcemncmgingaaDoor
namespace Rows

/-- THE TIED CARD OF 'leadlinelaw24.TableScores'. -/
def tableScoresCard : Claim7 := { stood := { row := tableScoresRow, standIns := [], harness := (true, "cf55308e833daf8850cf1429ce2687a8a759a626257306e4522d9a67d8349051"), looks := true }, kinds := [], alts := [], laidByText := true, laidKinds := [.handle], laidTests := true, laidLooks := .later }
def TableScoresCardSaid : Prop := Claim7.holds Tryd.pinned (.plain (OpenSpec.ofChange tableScoresSpec)) tableScoresCard

/-- THE TIED CARD OF 'leadlinelaw24.TableFull'. -/
def tableFullCard : Claim7 := { stood := { row := tableFullRow, standIns := [], harness := (true, "cf55308e833daf8850cf1429ce2687a8a759a626257306e4522d9a67d8349051"), looks := true }, kinds := [], alts := [], laidByText := true, laidKinds := [.handle], laidTests := true, laidLooks := .later }
def TableFullCardSaid : Prop := Claim7.holds Tryd.pinned (.plain (OpenSpec.ofChange tableFullSpec)) tableFullCard

/-- THE TIED CARD OF 'leadlinelaw24.TableKeeps'. -/
def tableKeepsCard : Claim7 := { stood := { row := tableKeepsRow, standIns := [], harness := (true, "cf55308e833daf8850cf1429ce2687a8a759a626257306e4522d9a67d8349051"), looks := true }, kinds := [], alts := [], laidByText := true, laidKinds := [.handle], laidTests := true, laidLooks := .later }
def TableKeepsCardSaid : Prop := Claim7.holds Tryd.pinned (.plain (OpenSpec.ofChange tableKeepsSpec)) tableKeepsCard

/-- THE TIED CARD OF 'leadlinelaw24.TablePlays'. -/
def tablePlaysCard : Claim7 := { stood := { row := tablePlaysRow, standIns := [], harness := (true, "cf55308e833daf8850cf1429ce2687a8a759a626257306e4522d9a67d8349051"), looks := true }, kinds := [], alts := [], laidByText := true, laidKinds := [.handle], laidTests := true, laidLooks := .later }
def TablePlaysCardSaid : Prop := Claim7.holds Tryd.pinned (.plain (OpenSpec.ofChange tablePlaysSpec)) tablePlaysCard

/-- THE TIED CARD OF 'leadlinelaw24.TableBack'. -/
def tableBackCard : Claim7 := { stood := { row := tableBackRow, standIns := [], harness := (true, "cf55308e833daf8850cf1429ce2687a8a759a626257306e4522d9a67d8349051"), looks := true }, kinds := [], alts := [], laidByText := true, laidKinds := [.handle], laidTests := true, laidLooks := .later }
def TableBackCardSaid : Prop := Claim7.holds Tryd.pinned (.plain (OpenSpec.ofChange tableBackSpec)) tableBackCard

/-- THE SECOND FORM's CARD OF 'leadlinelaw24.TableScores'. -/
def tableScoresUptoCard : Claim7 := { stood := { row := tableScoresUptoRow, standIns := [], harness := (true, "cf55308e833daf8850cf1429ce2687a8a759a626257306e4522d9a67d8349051"), looks := true }, kinds := [], alts := [], laidByText := true, laidKinds := [.handle], laidTests := true, laidLooks := .later }
def TableScoresUptoCardSaid : Prop := Claim7.holds Tryd.pinned (.plain (OpenSpec.upto tableScoresSpec)) tableScoresUptoCard

/-- THE SECOND FORM's CARD OF 'leadlinelaw24.TableFull'. -/
def tableFullUptoCard : Claim7 := { stood := { row := tableFullUptoRow, standIns := [], harness := (true, "cf55308e833daf8850cf1429ce2687a8a759a626257306e4522d9a67d8349051"), looks := true }, kinds := [], alts := [], laidByText := true, laidKinds := [.handle], laidTests := true, laidLooks := .later }
def TableFullUptoCardSaid : Prop := Claim7.holds Tryd.pinned (.plain (OpenSpec.upto tableFullSpec)) tableFullUptoCard

/-- THE SECOND FORM's CARD OF 'leadlinelaw24.TableKeeps'. -/
def tableKeepsUptoCard : Claim7 := { stood := { row := tableKeepsUptoRow, standIns := [], harness := (true, "cf55308e833daf8850cf1429ce2687a8a759a626257306e4522d9a67d8349051"), looks := true }, kinds := [], alts := [], laidByText := true, laidKinds := [.handle], laidTests := true, laidLooks := .later }
def TableKeepsUptoCardSaid : Prop := Claim7.holds Tryd.pinned (.plain (OpenSpec.upto tableKeepsSpec)) tableKeepsUptoCard

/-- THE SECOND FORM's CARD OF 'leadlinelaw24.TablePlays'. -/
def tablePlaysUptoCard : Claim7 := { stood := { row := tablePlaysUptoRow, standIns := [], harness := (true, "cf55308e833daf8850cf1429ce2687a8a759a626257306e4522d9a67d8349051"), looks := true }, kinds := [], alts := [], laidByText := true, laidKinds := [.handle], laidTests := true, laidLooks := .later }
def TablePlaysUptoCardSaid : Prop := Claim7.holds Tryd.pinned (.plain (OpenSpec.upto tablePlaysSpec)) tablePlaysUptoCard

/-- THE SECOND FORM's CARD OF 'leadlinelaw24.TableBack'. -/
def tableBackUptoCard : Claim7 := { stood := { row := tableBackUptoRow, standIns := [], harness := (true, "cf55308e833daf8850cf1429ce2687a8a759a626257306e4522d9a67d8349051"), looks := true }, kinds := [], alts := [], laidByText := true, laidKinds := [.handle], laidTests := true, laidLooks := .later }
def TableBackUptoCardSaid : Prop := Claim7.holds Tryd.pinned (.plain (OpenSpec.upto tableBackSpec)) tableBackUptoCard
end Rows
end Go.Proofs.YtekcemncmgingaaDoor
