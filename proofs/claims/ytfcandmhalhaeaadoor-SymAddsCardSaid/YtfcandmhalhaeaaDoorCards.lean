/-
  DERIVED. GIVEN WITH THE SEED: THE CARDS: each row of YtfcandmhalhaeaaDoorRows.lean that lists a variable, with what it lists TIED to the program's text (the seventh form; the later family's looks); each row that meets fmt, with fmt's text TOLD by the authors' own Lean function (tested against real Go, not proved from fmt's source: count such statements apart). THE CARD IS WHAT COUNTS. Prove the row's statement (the work); the ties are given (YtfcandmhalhaeaaDoorTie.lean); close each card by the builder's one call (the guide's Derived/Test/ToyasCard.lean, 'card_holds'). Laid BY PROGRAM, IN A SANDBOX (cutbox-door.mjs). By AI agents, Wed Nov 11 2026. No macro, syntax, notation, axiom, sorry.
-/
import Derived.Test.YtfcandmhalhaeaaDoorRows
import GoSem.ClaimSeven
namespace Go.Proofs.YtfcandmhalhaeaaDoor
namespace Rows

/-- THE TIED CARD OF 'leadlinelaw5.SymTells'. -/
def symTellsCard : Claim7 := { stood := { row := symTellsRow, standIns := [], harness := (true, "a4a0a9bf3c1911d039b95059b85e5de6bf35592d9ed27a314a9327c1c887491f"), looks := true }, kinds := [], alts := [], laidByText := true, laidKinds := [.handle], laidTests := true, laidLooks := .later }
def SymTellsCardSaid : Prop := Claim7.holds Tryd.pinned (.plain (OpenSpec.ofChange symTellsSpec)) symTellsCard

/-- THE TIED CARD OF 'leadlinelaw5.SymRows'. -/
def symRowsCard : Claim7 := { stood := { row := symRowsRow, standIns := [], harness := (true, "a4a0a9bf3c1911d039b95059b85e5de6bf35592d9ed27a314a9327c1c887491f"), looks := true }, kinds := [], alts := [], laidByText := true, laidKinds := [.handle], laidTests := true, laidLooks := .later }
def SymRowsCardSaid : Prop := Claim7.holds Tryd.pinned (.plain (OpenSpec.ofChange symRowsSpec)) symRowsCard

/-- THE TIED CARD OF 'leadlinelaw5.SymKeeps'. -/
def symKeepsCard : Claim7 := { stood := { row := symKeepsRow, standIns := [], harness := (true, "a4a0a9bf3c1911d039b95059b85e5de6bf35592d9ed27a314a9327c1c887491f"), looks := true }, kinds := [], alts := [], laidByText := true, laidKinds := [.handle], laidTests := true, laidLooks := .later }
def SymKeepsCardSaid : Prop := Claim7.holds Tryd.pinned (.plain (OpenSpec.ofChange symKeepsSpec)) symKeepsCard

/-- THE TIED CARD OF 'leadlinelaw5.SymAdds'. -/
def symAddsCard : Claim7 := { stood := { row := symAddsRow, standIns := [], harness := (true, "a4a0a9bf3c1911d039b95059b85e5de6bf35592d9ed27a314a9327c1c887491f"), looks := true }, kinds := [], alts := [], laidByText := true, laidKinds := [.handle], laidTests := true, laidLooks := .later }
def SymAddsCardSaid : Prop := Claim7.holds Tryd.pinned (.plain (OpenSpec.ofChange symAddsSpec)) symAddsCard

/-- THE SECOND FORM's CARD OF 'leadlinelaw5.SymTells'. -/
def symTellsUptoCard : Claim7 := { stood := { row := symTellsUptoRow, standIns := [], harness := (true, "a4a0a9bf3c1911d039b95059b85e5de6bf35592d9ed27a314a9327c1c887491f"), looks := true }, kinds := [], alts := [], laidByText := true, laidKinds := [.handle], laidTests := true, laidLooks := .later }
def SymTellsUptoCardSaid : Prop := Claim7.holds Tryd.pinned (.plain (OpenSpec.upto symTellsSpec)) symTellsUptoCard

/-- THE SECOND FORM's CARD OF 'leadlinelaw5.SymRows'. -/
def symRowsUptoCard : Claim7 := { stood := { row := symRowsUptoRow, standIns := [], harness := (true, "a4a0a9bf3c1911d039b95059b85e5de6bf35592d9ed27a314a9327c1c887491f"), looks := true }, kinds := [], alts := [], laidByText := true, laidKinds := [.handle], laidTests := true, laidLooks := .later }
def SymRowsUptoCardSaid : Prop := Claim7.holds Tryd.pinned (.plain (OpenSpec.upto symRowsSpec)) symRowsUptoCard

/-- THE SECOND FORM's CARD OF 'leadlinelaw5.SymKeeps'. -/
def symKeepsUptoCard : Claim7 := { stood := { row := symKeepsUptoRow, standIns := [], harness := (true, "a4a0a9bf3c1911d039b95059b85e5de6bf35592d9ed27a314a9327c1c887491f"), looks := true }, kinds := [], alts := [], laidByText := true, laidKinds := [.handle], laidTests := true, laidLooks := .later }
def SymKeepsUptoCardSaid : Prop := Claim7.holds Tryd.pinned (.plain (OpenSpec.upto symKeepsSpec)) symKeepsUptoCard

/-- THE SECOND FORM's CARD OF 'leadlinelaw5.SymAdds'. -/
def symAddsUptoCard : Claim7 := { stood := { row := symAddsUptoRow, standIns := [], harness := (true, "a4a0a9bf3c1911d039b95059b85e5de6bf35592d9ed27a314a9327c1c887491f"), looks := true }, kinds := [], alts := [], laidByText := true, laidKinds := [.handle], laidTests := true, laidLooks := .later }
def SymAddsUptoCardSaid : Prop := Claim7.holds Tryd.pinned (.plain (OpenSpec.upto symAddsSpec)) symAddsUptoCard
end Rows
end Go.Proofs.YtfcandmhalhaeaaDoor
