/-
  DERIVED. GIVEN WITH THE SEED: THE CARDS: each row of YtjnddlifnkgncaaGreatDoorRows.lean that lists a variable, with what it lists TIED to the program's text (the seventh form; the later family's looks); each row that meets fmt, with fmt's text TOLD by the authors' own Lean function (tested against real Go, not proved from fmt's source: count such statements apart). THE CARD IS WHAT COUNTS. Prove the row's statement (the work); the ties are given (YtjnddlifnkgncaaGreatDoorTie.lean); close each card by the builder's one call (the guide's Derived/Test/ToyasCard.lean, 'card_holds'). Laid BY PROGRAM, IN A SANDBOX (cutbox-door.mjs). By AI agents, Wed Nov 11 2026. No macro, syntax, notation, axiom, sorry.
-/
import Derived.Test.YtjnddlifnkgncaaGreatDoorRows
import GoSem.ClaimSeven
namespace Go.Proofs.YtjnddlifnkgncaaGreatDoor
namespace Rows

/-- THE TIED CARD OF 'wageofficelaw37.AuditorCompleteness'. -/
def auditorCompletenessCard : Claim7 := { stood := { row := auditorCompletenessRow, standIns := [], harness := (true, "0caaaf3b1424ed6c26aeb6d3de3d6241e7e8e98699853c51346a52abb8d27950"), looks := true }, kinds := [], alts := [], laidByText := true, laidKinds := [.data, .data, .data, .data, .data], laidTests := true, laidLooks := .later }
def AuditorCompletenessCardSaid : Prop := Claim7.holds Tryz.pinned (.plain (OpenSpec.ofChange auditorCompletenessSpec)) auditorCompletenessCard

/-- THE TIED CARD OF 'wageofficelaw37.AuditorSums'. -/
def auditorSumsCard : Claim7 := { stood := { row := auditorSumsRow, standIns := [], harness := (true, "0caaaf3b1424ed6c26aeb6d3de3d6241e7e8e98699853c51346a52abb8d27950"), looks := true }, kinds := [], alts := [], laidByText := true, laidKinds := [.data, .data, .data, .data, .data], laidTests := true, laidLooks := .later }
def AuditorSumsCardSaid : Prop := Claim7.holds Tryz.pinned (.plain (OpenSpec.ofChange auditorSumsSpec)) auditorSumsCard

/-- THE TIED CARD OF 'wageofficelaw37.AuditorKeys'. -/
def auditorKeysCard : Claim7 := { stood := { row := auditorKeysRow, standIns := [], harness := (true, "0caaaf3b1424ed6c26aeb6d3de3d6241e7e8e98699853c51346a52abb8d27950"), looks := true }, kinds := [], alts := [], laidByText := true, laidKinds := [.data, .data, .data, .data, .data], laidTests := true, laidLooks := .later }
def AuditorKeysCardSaid : Prop := Claim7.holds Tryz.pinned (.plain (OpenSpec.ofChange auditorKeysSpec)) auditorKeysCard

/-- THE TIED CARD OF 'wageofficelaw37.AuditorLocality'. -/
def auditorLocalityCard : Claim7 := { stood := { row := auditorLocalityRow, standIns := [], harness := (true, "0caaaf3b1424ed6c26aeb6d3de3d6241e7e8e98699853c51346a52abb8d27950"), looks := true }, kinds := [], alts := [], laidByText := true, laidKinds := [.data, .data, .data, .data, .data], laidTests := true, laidLooks := .later }
def AuditorLocalityCardSaid : Prop := Claim7.holds Tryz.pinned (.plain (OpenSpec.ofChange auditorLocalitySpec)) auditorLocalityCard

/-- THE TIED CARD OF 'wageofficelaw37.AuditorBinding'. -/
def auditorBindingCard : Claim7 := { stood := { row := auditorBindingRow, standIns := [], harness := (true, "0caaaf3b1424ed6c26aeb6d3de3d6241e7e8e98699853c51346a52abb8d27950"), looks := true }, kinds := [], alts := [], laidByText := true, laidKinds := [.data, .data, .data, .data, .data], laidTests := true, laidLooks := .later }
def AuditorBindingCardSaid : Prop := Claim7.holds Tryz.pinned (.plain (OpenSpec.ofChange auditorBindingSpec)) auditorBindingCard

/-- THE TIED CARD OF 'wageofficelaw37.AuditorTampering'. -/
def auditorTamperingCard : Claim7 := { stood := { row := auditorTamperingRow, standIns := [], harness := (true, "0caaaf3b1424ed6c26aeb6d3de3d6241e7e8e98699853c51346a52abb8d27950"), looks := true }, kinds := [], alts := [], laidByText := true, laidKinds := [.data, .data, .data, .data, .data], laidTests := true, laidLooks := .later }
def AuditorTamperingCardSaid : Prop := Claim7.holds Tryz.pinned (.plain (OpenSpec.ofChange auditorTamperingSpec)) auditorTamperingCard

/-- THE SECOND FORM's CARD OF 'wageofficelaw37.AuditorCompleteness'. -/
def auditorCompletenessUptoCard : Claim7 := { stood := { row := auditorCompletenessUptoRow, standIns := [], harness := (true, "0caaaf3b1424ed6c26aeb6d3de3d6241e7e8e98699853c51346a52abb8d27950"), looks := true }, kinds := [], alts := [], laidByText := true, laidKinds := [.data, .data, .data, .data, .data], laidTests := true, laidLooks := .later }
def AuditorCompletenessUptoCardSaid : Prop := Claim7.holds Tryz.pinned (.plain (OpenSpec.upto auditorCompletenessSpec)) auditorCompletenessUptoCard

/-- THE SECOND FORM's CARD OF 'wageofficelaw37.AuditorSums'. -/
def auditorSumsUptoCard : Claim7 := { stood := { row := auditorSumsUptoRow, standIns := [], harness := (true, "0caaaf3b1424ed6c26aeb6d3de3d6241e7e8e98699853c51346a52abb8d27950"), looks := true }, kinds := [], alts := [], laidByText := true, laidKinds := [.data, .data, .data, .data, .data], laidTests := true, laidLooks := .later }
def AuditorSumsUptoCardSaid : Prop := Claim7.holds Tryz.pinned (.plain (OpenSpec.upto auditorSumsSpec)) auditorSumsUptoCard

/-- THE SECOND FORM's CARD OF 'wageofficelaw37.AuditorKeys'. -/
def auditorKeysUptoCard : Claim7 := { stood := { row := auditorKeysUptoRow, standIns := [], harness := (true, "0caaaf3b1424ed6c26aeb6d3de3d6241e7e8e98699853c51346a52abb8d27950"), looks := true }, kinds := [], alts := [], laidByText := true, laidKinds := [.data, .data, .data, .data, .data], laidTests := true, laidLooks := .later }
def AuditorKeysUptoCardSaid : Prop := Claim7.holds Tryz.pinned (.plain (OpenSpec.upto auditorKeysSpec)) auditorKeysUptoCard

/-- THE SECOND FORM's CARD OF 'wageofficelaw37.AuditorLocality'. -/
def auditorLocalityUptoCard : Claim7 := { stood := { row := auditorLocalityUptoRow, standIns := [], harness := (true, "0caaaf3b1424ed6c26aeb6d3de3d6241e7e8e98699853c51346a52abb8d27950"), looks := true }, kinds := [], alts := [], laidByText := true, laidKinds := [.data, .data, .data, .data, .data], laidTests := true, laidLooks := .later }
def AuditorLocalityUptoCardSaid : Prop := Claim7.holds Tryz.pinned (.plain (OpenSpec.upto auditorLocalitySpec)) auditorLocalityUptoCard

/-- THE SECOND FORM's CARD OF 'wageofficelaw37.AuditorBinding'. -/
def auditorBindingUptoCard : Claim7 := { stood := { row := auditorBindingUptoRow, standIns := [], harness := (true, "0caaaf3b1424ed6c26aeb6d3de3d6241e7e8e98699853c51346a52abb8d27950"), looks := true }, kinds := [], alts := [], laidByText := true, laidKinds := [.data, .data, .data, .data, .data], laidTests := true, laidLooks := .later }
def AuditorBindingUptoCardSaid : Prop := Claim7.holds Tryz.pinned (.plain (OpenSpec.upto auditorBindingSpec)) auditorBindingUptoCard

/-- THE SECOND FORM's CARD OF 'wageofficelaw37.AuditorTampering'. -/
def auditorTamperingUptoCard : Claim7 := { stood := { row := auditorTamperingUptoRow, standIns := [], harness := (true, "0caaaf3b1424ed6c26aeb6d3de3d6241e7e8e98699853c51346a52abb8d27950"), looks := true }, kinds := [], alts := [], laidByText := true, laidKinds := [.data, .data, .data, .data, .data], laidTests := true, laidLooks := .later }
def AuditorTamperingUptoCardSaid : Prop := Claim7.holds Tryz.pinned (.plain (OpenSpec.upto auditorTamperingSpec)) auditorTamperingUptoCard
end Rows
end Go.Proofs.YtjnddlifnkgncaaGreatDoor
