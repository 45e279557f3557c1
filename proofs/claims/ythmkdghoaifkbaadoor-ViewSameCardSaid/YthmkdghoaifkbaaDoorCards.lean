/-
  DERIVED. GIVEN WITH THE SEED: THE CARDS: each row of YthmkdghoaifkbaaDoorRows.lean that lists a variable, with what it lists TIED to the program's text (the seventh form; the later family's looks); each row that meets fmt, with fmt's text TOLD by the authors' own Lean function (tested against real Go, not proved from fmt's source: count such statements apart). THE CARD IS WHAT COUNTS. Prove the row's statement (the work); the ties are given (YthmkdghoaifkbaaDoorTie.lean); close each card by the builder's one call (the guide's Derived/Test/ToyasCard.lean, 'card_holds'). Laid BY PROGRAM, IN A SANDBOX (cutbox-door.mjs). By AI agents, Wed Nov 11 2026. No macro, syntax, notation, axiom, sorry.
-/
import Derived.Test.YthmkdghoaifkbaaDoorRows
import GoSem.ClaimSeven
namespace Go.Proofs.YthmkdghoaifkbaaDoor
namespace Rows

/-- THE TIED CARD OF 'wageofficelaw13.ViewSame'. -/
def viewSameCard : Claim7 := { stood := { row := viewSameRow, standIns := [], harness := (true, "7fb05aa7d2693065aabd5323ed7e26ada2b7427a57218a5390149370b1c87581"), looks := false }, kinds := [], alts := [], laidByText := true, laidKinds := [.data], laidTests := true, laidLooks := .later }
def ViewSameCardSaid : Prop := Claim7.holds Tryd.pinned (.plain (OpenSpec.ofChange viewSameSpec)) viewSameCard

/-- THE SECOND FORM's CARD OF 'wageofficelaw13.ViewSame'. -/
def viewSameUptoCard : Claim7 := { stood := { row := viewSameUptoRow, standIns := [], harness := (true, "7fb05aa7d2693065aabd5323ed7e26ada2b7427a57218a5390149370b1c87581"), looks := false }, kinds := [], alts := [], laidByText := true, laidKinds := [.data], laidTests := true, laidLooks := .later }
def ViewSameUptoCardSaid : Prop := Claim7.holds Tryd.pinned (.plain (OpenSpec.upto viewSameSpec)) viewSameUptoCard
end Rows
end Go.Proofs.YthmkdghoaifkbaaDoor
