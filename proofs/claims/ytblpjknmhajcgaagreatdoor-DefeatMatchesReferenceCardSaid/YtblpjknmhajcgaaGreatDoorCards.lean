/-
  DERIVED. GIVEN WITH THE SEED: THE CARDS: each row of YtblpjknmhajcgaaGreatDoorRows.lean that lists a variable, with what it lists TIED to the program's text (the seventh form; the later family's looks); each row that meets fmt, with fmt's text TOLD by the authors' own Lean function (tested against real Go, not proved from fmt's source: count such statements apart). THE CARD IS WHAT COUNTS. Prove the row's statement (the work); the ties are given (YtblpjknmhajcgaaGreatDoorTie.lean); close each card by the builder's one call (the guide's Derived/Test/ToyasCard.lean, 'card_holds'). Laid BY PROGRAM, IN A SANDBOX (cutbox-door.mjs). By AI agents, Wed Nov 11 2026. No macro, syntax, notation, axiom, sorry.
-/
import Derived.Test.YtblpjknmhajcgaaGreatDoorRows
import GoSem.ClaimSeven
namespace Go.Proofs.YtblpjknmhajcgaaGreatDoor
namespace Rows

/-- THE TIED CARD OF 'wageofficelaw11.DefeatMatchesReference'. -/
def defeatMatchesReferenceCard : Claim7 := { stood := { row := defeatMatchesReferenceRow, standIns := [], harness := (true, "1268f6ad1fe665c9a5fc6a03a75155660ac388fe22d74a9ee68f1cbecfeaf2c4"), looks := false }, kinds := [], alts := [], laidByText := true, laidKinds := [.data], laidTests := true, laidLooks := .later }
def DefeatMatchesReferenceCardSaid : Prop := Claim7.holds Tryz.pinned (.plain (OpenSpec.ofChange defeatMatchesReferenceSpec)) defeatMatchesReferenceCard

/-- THE TIED CARD OF 'wageofficelaw11.DefeatWitness'. -/
def defeatWitnessCard : Claim7 := { stood := { row := defeatWitnessRow, standIns := [], harness := (true, "1268f6ad1fe665c9a5fc6a03a75155660ac388fe22d74a9ee68f1cbecfeaf2c4"), looks := false }, kinds := [], alts := [], laidByText := true, laidKinds := [.data], laidTests := true, laidLooks := .later }
def DefeatWitnessCardSaid : Prop := Claim7.holds Tryz.pinned (.plain (OpenSpec.ofChange defeatWitnessSpec)) defeatWitnessCard

/-- THE TIED CARD OF 'wageofficelaw11.DefeatClash'. -/
def defeatClashCard : Claim7 := { stood := { row := defeatClashRow, standIns := [], harness := (true, "1268f6ad1fe665c9a5fc6a03a75155660ac388fe22d74a9ee68f1cbecfeaf2c4"), looks := false }, kinds := [], alts := [], laidByText := true, laidKinds := [.data], laidTests := true, laidLooks := .later }
def DefeatClashCardSaid : Prop := Claim7.holds Tryz.pinned (.plain (OpenSpec.ofChange defeatClashSpec)) defeatClashCard

/-- THE TIED CARD OF 'wageofficelaw11.DefeatDead'. -/
def defeatDeadCard : Claim7 := { stood := { row := defeatDeadRow, standIns := [], harness := (true, "1268f6ad1fe665c9a5fc6a03a75155660ac388fe22d74a9ee68f1cbecfeaf2c4"), looks := false }, kinds := [], alts := [], laidByText := true, laidKinds := [.data], laidTests := true, laidLooks := .later }
def DefeatDeadCardSaid : Prop := Claim7.holds Tryz.pinned (.plain (OpenSpec.ofChange defeatDeadSpec)) defeatDeadCard

/-- THE TIED CARD OF 'wageofficelaw11.DefeatMore'. -/
def defeatMoreCard : Claim7 := { stood := { row := defeatMoreRow, standIns := [], harness := (true, "1268f6ad1fe665c9a5fc6a03a75155660ac388fe22d74a9ee68f1cbecfeaf2c4"), looks := false }, kinds := [], alts := [], laidByText := true, laidKinds := [.data], laidTests := true, laidLooks := .later }
def DefeatMoreCardSaid : Prop := Claim7.holds Tryz.pinned (.plain (OpenSpec.ofChange defeatMoreSpec)) defeatMoreCard

/-- THE TIED CARD OF 'wageofficelaw11.DefeatRing'. -/
def defeatRingCard : Claim7 := { stood := { row := defeatRingRow, standIns := [], harness := (true, "1268f6ad1fe665c9a5fc6a03a75155660ac388fe22d74a9ee68f1cbecfeaf2c4"), looks := false }, kinds := [], alts := [], laidByText := true, laidKinds := [.data], laidTests := true, laidLooks := .later }
def DefeatRingCardSaid : Prop := Claim7.holds Tryz.pinned (.plain (OpenSpec.ofChange defeatRingSpec)) defeatRingCard

/-- THE SECOND FORM's CARD OF 'wageofficelaw11.DefeatMatchesReference'. -/
def defeatMatchesReferenceUptoCard : Claim7 := { stood := { row := defeatMatchesReferenceUptoRow, standIns := [], harness := (true, "1268f6ad1fe665c9a5fc6a03a75155660ac388fe22d74a9ee68f1cbecfeaf2c4"), looks := false }, kinds := [], alts := [], laidByText := true, laidKinds := [.data], laidTests := true, laidLooks := .later }
def DefeatMatchesReferenceUptoCardSaid : Prop := Claim7.holds Tryz.pinned (.plain (OpenSpec.upto defeatMatchesReferenceSpec)) defeatMatchesReferenceUptoCard

/-- THE SECOND FORM's CARD OF 'wageofficelaw11.DefeatWitness'. -/
def defeatWitnessUptoCard : Claim7 := { stood := { row := defeatWitnessUptoRow, standIns := [], harness := (true, "1268f6ad1fe665c9a5fc6a03a75155660ac388fe22d74a9ee68f1cbecfeaf2c4"), looks := false }, kinds := [], alts := [], laidByText := true, laidKinds := [.data], laidTests := true, laidLooks := .later }
def DefeatWitnessUptoCardSaid : Prop := Claim7.holds Tryz.pinned (.plain (OpenSpec.upto defeatWitnessSpec)) defeatWitnessUptoCard

/-- THE SECOND FORM's CARD OF 'wageofficelaw11.DefeatClash'. -/
def defeatClashUptoCard : Claim7 := { stood := { row := defeatClashUptoRow, standIns := [], harness := (true, "1268f6ad1fe665c9a5fc6a03a75155660ac388fe22d74a9ee68f1cbecfeaf2c4"), looks := false }, kinds := [], alts := [], laidByText := true, laidKinds := [.data], laidTests := true, laidLooks := .later }
def DefeatClashUptoCardSaid : Prop := Claim7.holds Tryz.pinned (.plain (OpenSpec.upto defeatClashSpec)) defeatClashUptoCard

/-- THE SECOND FORM's CARD OF 'wageofficelaw11.DefeatDead'. -/
def defeatDeadUptoCard : Claim7 := { stood := { row := defeatDeadUptoRow, standIns := [], harness := (true, "1268f6ad1fe665c9a5fc6a03a75155660ac388fe22d74a9ee68f1cbecfeaf2c4"), looks := false }, kinds := [], alts := [], laidByText := true, laidKinds := [.data], laidTests := true, laidLooks := .later }
def DefeatDeadUptoCardSaid : Prop := Claim7.holds Tryz.pinned (.plain (OpenSpec.upto defeatDeadSpec)) defeatDeadUptoCard

/-- THE SECOND FORM's CARD OF 'wageofficelaw11.DefeatMore'. -/
def defeatMoreUptoCard : Claim7 := { stood := { row := defeatMoreUptoRow, standIns := [], harness := (true, "1268f6ad1fe665c9a5fc6a03a75155660ac388fe22d74a9ee68f1cbecfeaf2c4"), looks := false }, kinds := [], alts := [], laidByText := true, laidKinds := [.data], laidTests := true, laidLooks := .later }
def DefeatMoreUptoCardSaid : Prop := Claim7.holds Tryz.pinned (.plain (OpenSpec.upto defeatMoreSpec)) defeatMoreUptoCard

/-- THE SECOND FORM's CARD OF 'wageofficelaw11.DefeatRing'. -/
def defeatRingUptoCard : Claim7 := { stood := { row := defeatRingUptoRow, standIns := [], harness := (true, "1268f6ad1fe665c9a5fc6a03a75155660ac388fe22d74a9ee68f1cbecfeaf2c4"), looks := false }, kinds := [], alts := [], laidByText := true, laidKinds := [.data], laidTests := true, laidLooks := .later }
def DefeatRingUptoCardSaid : Prop := Claim7.holds Tryz.pinned (.plain (OpenSpec.upto defeatRingSpec)) defeatRingUptoCard
end Rows
end Go.Proofs.YtblpjknmhajcgaaGreatDoor
