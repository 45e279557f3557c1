/-
  DERIVED. GIVEN WITH THE SEED: THE CARDS: each row of YthmkdghoaifkbaaGreatDoorRows.lean that lists a variable, with what it lists TIED to the program's text (the seventh form; the later family's looks); each row that meets fmt, with fmt's text TOLD by the authors' own Lean function (tested against real Go, not proved from fmt's source: count such statements apart). THE CARD IS WHAT COUNTS. Prove the row's statement (the work); the ties are given (YthmkdghoaifkbaaGreatDoorTie.lean); close each card by the builder's one call (the guide's Derived/Test/ToyasCard.lean, 'card_holds'). Laid BY PROGRAM, IN A SANDBOX (cutbox-door.mjs). By AI agents, Wed Nov 11 2026. No macro, syntax, notation, axiom, sorry.
-/
import Derived.Test.YthmkdghoaifkbaaGreatDoorRows
import GoSem.ClaimSeven
namespace Go.Proofs.YthmkdghoaifkbaaGreatDoor
namespace Rows

/-- THE TIED CARD OF 'wageofficelaw13.ViewMatchesReference'. -/
def viewMatchesReferenceCard : Claim7 := { stood := { row := viewMatchesReferenceRow, standIns := [], harness := (true, "1efc989c12ebe33b872a31024c6925f59ee5b2a62a53a2b9ef8139d82ea28f1f"), looks := false }, kinds := [], alts := [], laidByText := true, laidKinds := [.data], laidTests := true, laidLooks := .later }
def ViewMatchesReferenceCardSaid : Prop := Claim7.holds Tryz.pinned (.plain (OpenSpec.ofChange viewMatchesReferenceSpec)) viewMatchesReferenceCard

/-- THE TIED CARD OF 'wageofficelaw13.ViewArticles'. -/
def viewArticlesCard : Claim7 := { stood := { row := viewArticlesRow, standIns := [], harness := (true, "1efc989c12ebe33b872a31024c6925f59ee5b2a62a53a2b9ef8139d82ea28f1f"), looks := false }, kinds := [], alts := [], laidByText := true, laidKinds := [.data], laidTests := true, laidLooks := .later }
def ViewArticlesCardSaid : Prop := Claim7.holds Tryz.pinned (.plain (OpenSpec.ofChange viewArticlesSpec)) viewArticlesCard

/-- THE TIED CARD OF 'wageofficelaw13.ViewPersons'. -/
def viewPersonsCard : Claim7 := { stood := { row := viewPersonsRow, standIns := [], harness := (true, "1efc989c12ebe33b872a31024c6925f59ee5b2a62a53a2b9ef8139d82ea28f1f"), looks := false }, kinds := [], alts := [], laidByText := true, laidKinds := [.data], laidTests := true, laidLooks := .later }
def ViewPersonsCardSaid : Prop := Claim7.holds Tryz.pinned (.plain (OpenSpec.ofChange viewPersonsSpec)) viewPersonsCard

/-- THE TIED CARD OF 'wageofficelaw13.ViewRuns'. -/
def viewRunsCard : Claim7 := { stood := { row := viewRunsRow, standIns := [], harness := (true, "1efc989c12ebe33b872a31024c6925f59ee5b2a62a53a2b9ef8139d82ea28f1f"), looks := false }, kinds := [], alts := [], laidByText := true, laidKinds := [.data], laidTests := true, laidLooks := .later }
def ViewRunsCardSaid : Prop := Claim7.holds Tryz.pinned (.plain (OpenSpec.ofChange viewRunsSpec)) viewRunsCard

/-- THE TIED CARD OF 'wageofficelaw13.ViewFacts'. -/
def viewFactsCard : Claim7 := { stood := { row := viewFactsRow, standIns := [], harness := (true, "1efc989c12ebe33b872a31024c6925f59ee5b2a62a53a2b9ef8139d82ea28f1f"), looks := false }, kinds := [], alts := [], laidByText := true, laidKinds := [.data], laidTests := true, laidLooks := .later }
def ViewFactsCardSaid : Prop := Claim7.holds Tryz.pinned (.plain (OpenSpec.ofChange viewFactsSpec)) viewFactsCard

/-- THE TIED CARD OF 'wageofficelaw13.ViewClocks'. -/
def viewClocksCard : Claim7 := { stood := { row := viewClocksRow, standIns := [], harness := (true, "1efc989c12ebe33b872a31024c6925f59ee5b2a62a53a2b9ef8139d82ea28f1f"), looks := false }, kinds := [], alts := [], laidByText := true, laidKinds := [.data], laidTests := true, laidLooks := .later }
def ViewClocksCardSaid : Prop := Claim7.holds Tryz.pinned (.plain (OpenSpec.ofChange viewClocksSpec)) viewClocksCard

/-- THE SECOND FORM's CARD OF 'wageofficelaw13.ViewMatchesReference'. -/
def viewMatchesReferenceUptoCard : Claim7 := { stood := { row := viewMatchesReferenceUptoRow, standIns := [], harness := (true, "1efc989c12ebe33b872a31024c6925f59ee5b2a62a53a2b9ef8139d82ea28f1f"), looks := false }, kinds := [], alts := [], laidByText := true, laidKinds := [.data], laidTests := true, laidLooks := .later }
def ViewMatchesReferenceUptoCardSaid : Prop := Claim7.holds Tryz.pinned (.plain (OpenSpec.upto viewMatchesReferenceSpec)) viewMatchesReferenceUptoCard

/-- THE SECOND FORM's CARD OF 'wageofficelaw13.ViewArticles'. -/
def viewArticlesUptoCard : Claim7 := { stood := { row := viewArticlesUptoRow, standIns := [], harness := (true, "1efc989c12ebe33b872a31024c6925f59ee5b2a62a53a2b9ef8139d82ea28f1f"), looks := false }, kinds := [], alts := [], laidByText := true, laidKinds := [.data], laidTests := true, laidLooks := .later }
def ViewArticlesUptoCardSaid : Prop := Claim7.holds Tryz.pinned (.plain (OpenSpec.upto viewArticlesSpec)) viewArticlesUptoCard

/-- THE SECOND FORM's CARD OF 'wageofficelaw13.ViewPersons'. -/
def viewPersonsUptoCard : Claim7 := { stood := { row := viewPersonsUptoRow, standIns := [], harness := (true, "1efc989c12ebe33b872a31024c6925f59ee5b2a62a53a2b9ef8139d82ea28f1f"), looks := false }, kinds := [], alts := [], laidByText := true, laidKinds := [.data], laidTests := true, laidLooks := .later }
def ViewPersonsUptoCardSaid : Prop := Claim7.holds Tryz.pinned (.plain (OpenSpec.upto viewPersonsSpec)) viewPersonsUptoCard

/-- THE SECOND FORM's CARD OF 'wageofficelaw13.ViewRuns'. -/
def viewRunsUptoCard : Claim7 := { stood := { row := viewRunsUptoRow, standIns := [], harness := (true, "1efc989c12ebe33b872a31024c6925f59ee5b2a62a53a2b9ef8139d82ea28f1f"), looks := false }, kinds := [], alts := [], laidByText := true, laidKinds := [.data], laidTests := true, laidLooks := .later }
def ViewRunsUptoCardSaid : Prop := Claim7.holds Tryz.pinned (.plain (OpenSpec.upto viewRunsSpec)) viewRunsUptoCard

/-- THE SECOND FORM's CARD OF 'wageofficelaw13.ViewFacts'. -/
def viewFactsUptoCard : Claim7 := { stood := { row := viewFactsUptoRow, standIns := [], harness := (true, "1efc989c12ebe33b872a31024c6925f59ee5b2a62a53a2b9ef8139d82ea28f1f"), looks := false }, kinds := [], alts := [], laidByText := true, laidKinds := [.data], laidTests := true, laidLooks := .later }
def ViewFactsUptoCardSaid : Prop := Claim7.holds Tryz.pinned (.plain (OpenSpec.upto viewFactsSpec)) viewFactsUptoCard

/-- THE SECOND FORM's CARD OF 'wageofficelaw13.ViewClocks'. -/
def viewClocksUptoCard : Claim7 := { stood := { row := viewClocksUptoRow, standIns := [], harness := (true, "1efc989c12ebe33b872a31024c6925f59ee5b2a62a53a2b9ef8139d82ea28f1f"), looks := false }, kinds := [], alts := [], laidByText := true, laidKinds := [.data], laidTests := true, laidLooks := .later }
def ViewClocksUptoCardSaid : Prop := Claim7.holds Tryz.pinned (.plain (OpenSpec.upto viewClocksSpec)) viewClocksUptoCard
end Rows
end Go.Proofs.YthmkdghoaifkbaaGreatDoor
