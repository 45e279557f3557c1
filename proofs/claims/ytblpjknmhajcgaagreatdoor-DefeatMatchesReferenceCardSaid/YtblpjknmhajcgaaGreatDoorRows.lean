/-
  NARROWER THAN 'FOR EVERY INPUT', by the rows' own cells (each row's printed sentence says how): DefeatMatchesReference: loops, laid · DefeatWitness: loops, laid · DefeatClash: loops, laid · DefeatDead: loops, laid · DefeatMore: loops, laid · DefeatRing: loops, laid.
  DERIVED. THE GIVEN ROWS OF THIS SEAT. 6 by the template 'for every input the law returns true; each argument reads behind the call as it read before'; 0 by the template 'total and deterministic' (their statements: YtblpjknmhajcgaaGreatDoorTotals.lean).
  GIVEN WITH THE SEED: the statements are not yours to turn. If you find one false, say at which input.
  Laid BY PROGRAM, IN A SANDBOX (cutbox-rows.mjs): the forced cells as the released guide's own fill.sh prints them over the translation 55746657f09ac4e8… (all of the seat's roots in one cut). By AI agents, Wed Nov 11 2026. No macro, syntax, notation, axiom, sorry.
-/
import Derived.Test.YtblpjknmhajcgaaGreatDoorChecked
import GoSem.Claim
import GoSem.ClaimJoined
import GoSem.ClaimMapViews
import Derived.JoinedTies
import Derived.KernelRfl
namespace Go.Proofs.YtblpjknmhajcgaaGreatDoor
/- THE CELL 'sum', in the pinned program and in every row, IS THE sha256 OF THE DUMP (.gsa) THAT YtblpjknmhajcgaaGreatDoorProg.lean LOADS. Nothing in Lean hashes anything: it is a label: what it is worth is what the hold of that sum in a sandbox is worth. -/
noncomputable def Tryz.pinned : Pinned := { name := "ytblpjknmhajcgaagreatdoor", sum := "55746657f09ac4e89b2288bafecfec47183fb7cfda2993c446020263d33a8bf1", checked := Tryz.checked }
namespace Rows
def none {H : Type} : Left H := { results := [], args := [] }

/- WHAT THE LISTED PACKAGE-LEVEL VARIABLES READ AS WHEN THE CALL BEGINS. Each datum BY PROGRAM (the guide's laid-datum.mjs) off the statement by which the dump's own 'gosem.cut.vars' lays the variable. In a bare row this is a premise. The card (YtblpjknmhajcgaaGreatDoorCards.lean) ties it to the program's text. -/
def laid_wageoffice_calendar_before {H : Type} : DataW H := .agg [.lit (.int .i64 0), .lit (.int .i64 31), .lit (.int .i64 59), .lit (.int .i64 90), .lit (.int .i64 120), .lit (.int .i64 151), .lit (.int .i64 181), .lit (.int .i64 212), .lit (.int .i64 243), .lit (.int .i64 273), .lit (.int .i64 304), .lit (.int .i64 334), .lit (.int .i64 365)]

/-- 'wageofficelaw11.DefeatMatchesReference': WHATEVER THE INPUT: true; the input reads as it did. -/
def defeatMatchesReferenceSpec : ChangeSpec := { name := "defeatMatchesReference", fn := fun _ => fun
  | [d1, d2] => { results := [.lit (.bool true)], args := [d1, d2] }
  | _ => none }
def defeatMatchesReferenceRow : OpenClaim := { program := "ytblpjknmhajcgaagreatdoor", sum := "55746657f09ac4e89b2288bafecfec47183fb7cfda2993c446020263d33a8bf1", func := "wageoffice/wageofficelaw11.DefeatMatchesReference", spec := "defeatMatchesReference", unfollowed := true, recurses := true, named := ["wageoffice/calendar.before"], loops := true, apart := false, laid := [("wageoffice/calendar.before", laid_wageoffice_calendar_before)] }
def DefeatMatchesReferenceSaid : Prop := defeatMatchesReferenceRow.holds Tryz.pinned (OpenSpec.ofChange defeatMatchesReferenceSpec)

/-- ITS FALSE NEIGHBOUR: 'it returns false'. Refute it at one input. -/
def defeatMatchesReferenceWrong : ChangeSpec := { name := "defeatMatchesReference", fn := fun _ => fun
  | [d1, d2] => { results := [.lit (.bool false)], args := [d1, d2] }
  | _ => none }
def DefeatMatchesReferenceWrongFalsely : Prop := defeatMatchesReferenceRow.holds Tryz.pinned (OpenSpec.ofChange defeatMatchesReferenceWrong)

/-- 'wageofficelaw11.DefeatWitness': WHATEVER THE INPUT: true; the input reads as it did. -/
def defeatWitnessSpec : ChangeSpec := { name := "defeatWitness", fn := fun _ => fun
  | [d1, d2, d3, d4] => { results := [.lit (.bool true)], args := [d1, d2, d3, d4] }
  | _ => none }
def defeatWitnessRow : OpenClaim := { program := "ytblpjknmhajcgaagreatdoor", sum := "55746657f09ac4e89b2288bafecfec47183fb7cfda2993c446020263d33a8bf1", func := "wageoffice/wageofficelaw11.DefeatWitness", spec := "defeatWitness", unfollowed := true, recurses := true, named := ["wageoffice/calendar.before"], loops := true, apart := false, laid := [("wageoffice/calendar.before", laid_wageoffice_calendar_before)] }
def DefeatWitnessSaid : Prop := defeatWitnessRow.holds Tryz.pinned (OpenSpec.ofChange defeatWitnessSpec)

/-- ITS FALSE NEIGHBOUR: 'it returns false'. Refute it at one input. -/
def defeatWitnessWrong : ChangeSpec := { name := "defeatWitness", fn := fun _ => fun
  | [d1, d2, d3, d4] => { results := [.lit (.bool false)], args := [d1, d2, d3, d4] }
  | _ => none }
def DefeatWitnessWrongFalsely : Prop := defeatWitnessRow.holds Tryz.pinned (OpenSpec.ofChange defeatWitnessWrong)

/-- 'wageofficelaw11.DefeatClash': WHATEVER THE INPUT: true; the input reads as it did. -/
def defeatClashSpec : ChangeSpec := { name := "defeatClash", fn := fun _ => fun
  | [d1, d2, d3] => { results := [.lit (.bool true)], args := [d1, d2, d3] }
  | _ => none }
def defeatClashRow : OpenClaim := { program := "ytblpjknmhajcgaagreatdoor", sum := "55746657f09ac4e89b2288bafecfec47183fb7cfda2993c446020263d33a8bf1", func := "wageoffice/wageofficelaw11.DefeatClash", spec := "defeatClash", unfollowed := true, recurses := true, named := ["wageoffice/calendar.before"], loops := true, apart := false, laid := [("wageoffice/calendar.before", laid_wageoffice_calendar_before)] }
def DefeatClashSaid : Prop := defeatClashRow.holds Tryz.pinned (OpenSpec.ofChange defeatClashSpec)

/-- ITS FALSE NEIGHBOUR: 'it returns false'. Refute it at one input. -/
def defeatClashWrong : ChangeSpec := { name := "defeatClash", fn := fun _ => fun
  | [d1, d2, d3] => { results := [.lit (.bool false)], args := [d1, d2, d3] }
  | _ => none }
def DefeatClashWrongFalsely : Prop := defeatClashRow.holds Tryz.pinned (OpenSpec.ofChange defeatClashWrong)

/-- 'wageofficelaw11.DefeatDead': WHATEVER THE INPUT: true; the input reads as it did. -/
def defeatDeadSpec : ChangeSpec := { name := "defeatDead", fn := fun _ => fun
  | [d1, d2, d3] => { results := [.lit (.bool true)], args := [d1, d2, d3] }
  | _ => none }
def defeatDeadRow : OpenClaim := { program := "ytblpjknmhajcgaagreatdoor", sum := "55746657f09ac4e89b2288bafecfec47183fb7cfda2993c446020263d33a8bf1", func := "wageoffice/wageofficelaw11.DefeatDead", spec := "defeatDead", unfollowed := true, recurses := true, named := ["wageoffice/calendar.before"], loops := true, apart := false, laid := [("wageoffice/calendar.before", laid_wageoffice_calendar_before)] }
def DefeatDeadSaid : Prop := defeatDeadRow.holds Tryz.pinned (OpenSpec.ofChange defeatDeadSpec)

/-- ITS FALSE NEIGHBOUR: 'it returns false'. Refute it at one input. -/
def defeatDeadWrong : ChangeSpec := { name := "defeatDead", fn := fun _ => fun
  | [d1, d2, d3] => { results := [.lit (.bool false)], args := [d1, d2, d3] }
  | _ => none }
def DefeatDeadWrongFalsely : Prop := defeatDeadRow.holds Tryz.pinned (OpenSpec.ofChange defeatDeadWrong)

/-- 'wageofficelaw11.DefeatMore': WHATEVER THE INPUT: true; the input reads as it did. -/
def defeatMoreSpec : ChangeSpec := { name := "defeatMore", fn := fun _ => fun
  | [d1, d2, d3, d4] => { results := [.lit (.bool true)], args := [d1, d2, d3, d4] }
  | _ => none }
def defeatMoreRow : OpenClaim := { program := "ytblpjknmhajcgaagreatdoor", sum := "55746657f09ac4e89b2288bafecfec47183fb7cfda2993c446020263d33a8bf1", func := "wageoffice/wageofficelaw11.DefeatMore", spec := "defeatMore", unfollowed := true, recurses := true, named := ["wageoffice/calendar.before"], loops := true, apart := false, laid := [("wageoffice/calendar.before", laid_wageoffice_calendar_before)] }
def DefeatMoreSaid : Prop := defeatMoreRow.holds Tryz.pinned (OpenSpec.ofChange defeatMoreSpec)

/-- ITS FALSE NEIGHBOUR: 'it returns false'. Refute it at one input. -/
def defeatMoreWrong : ChangeSpec := { name := "defeatMore", fn := fun _ => fun
  | [d1, d2, d3, d4] => { results := [.lit (.bool false)], args := [d1, d2, d3, d4] }
  | _ => none }
def DefeatMoreWrongFalsely : Prop := defeatMoreRow.holds Tryz.pinned (OpenSpec.ofChange defeatMoreWrong)

/-- 'wageofficelaw11.DefeatRing': WHATEVER THE INPUT: true; the input reads as it did. -/
def defeatRingSpec : ChangeSpec := { name := "defeatRing", fn := fun _ => fun
  | [d] => { results := [.lit (.bool true)], args := [d] }
  | _ => none }
def defeatRingRow : OpenClaim := { program := "ytblpjknmhajcgaagreatdoor", sum := "55746657f09ac4e89b2288bafecfec47183fb7cfda2993c446020263d33a8bf1", func := "wageoffice/wageofficelaw11.DefeatRing", spec := "defeatRing", unfollowed := true, recurses := true, named := ["wageoffice/calendar.before"], loops := true, apart := false, laid := [("wageoffice/calendar.before", laid_wageoffice_calendar_before)] }
def DefeatRingSaid : Prop := defeatRingRow.holds Tryz.pinned (OpenSpec.ofChange defeatRingSpec)

/-- ITS FALSE NEIGHBOUR: 'it returns false'. Refute it at one input. -/
def defeatRingWrong : ChangeSpec := { name := "defeatRing", fn := fun _ => fun
  | [d] => { results := [.lit (.bool false)], args := [d] }
  | _ => none }
def DefeatRingWrongFalsely : Prop := defeatRingRow.holds Tryz.pinned (OpenSpec.ofChange defeatRingWrong)

/- THE SECOND FORM. 'bulk': how many values and letters a reading holds, each counted each time it is reached (what is shared counts as often as it is met; a slice's spare places count too). A statement '..UptoSaid' is the law's where the arguments, and the package variables that the reading takes, are together of bulk at most 1048576: NARROWER than '..Said'. Prove '..Said' where nothing that the law and all that it calls make is longer than what came in: it says more and counts as full. Else prove '..UptoSaid'. A law counts once. -/
mutual
def uptoBulk {H : Type} : DataW H → Nat
  | .lit (.string bytes) => bytes.length + 1
  | .lit _ => 1
  | .nil => 1
  | .ptr d => uptoBulk d + 1
  | .slice elems spare => uptoBulkAll elems + uptoBulkAll spare + 1
  | .agg parts => uptoBulkAll parts + 1
  | .iface _ d => uptoBulk d + 1
  | .map entries => uptoBulkEntries entries + 1
  | .held _ => 1
def uptoBulkAll {H : Type} : List (DataW H) → Nat
  | [] => 0
  | d :: r => uptoBulk d + uptoBulkAll r
def uptoBulkEntries {H : Type} : List (Lit × DataW H) → Nat
  | [] => 0
  | x :: r => uptoBulkEntry x + uptoBulkEntries r
def uptoBulkEntry {H : Type} : Lit × DataW H → Nat
  | (.string bytes, d) => bytes.length + uptoBulk d + 1
  | (_, d) => uptoBulk d + 1
 end
def uptoSmall : (H : Type) → List (DataW H) → Bool := fun _ ds => decide (uptoBulkAll ds ≤ 1048576)
def OpenSpec.upto (s : _root_.Go.ChangeSpec) : _root_.Go.OpenSpec := { _root_.Go.OpenSpec.ofChange s with cond := some uptoSmall }

/-- 'wageofficelaw11.DefeatMatchesReference', WHERE WHAT IT READS IS OF BULK AT MOST 1048576: true; the input reads as it did. -/
def defeatMatchesReferenceUptoRow : OpenClaim := { program := "ytblpjknmhajcgaagreatdoor", sum := "55746657f09ac4e89b2288bafecfec47183fb7cfda2993c446020263d33a8bf1", func := "wageoffice/wageofficelaw11.DefeatMatchesReference", spec := "defeatMatchesReference", unfollowed := true, recurses := true, named := ["wageoffice/calendar.before"], loops := true, apart := false, laid := [("wageoffice/calendar.before", laid_wageoffice_calendar_before)], narrowed := true }
def DefeatMatchesReferenceUptoSaid : Prop := defeatMatchesReferenceUptoRow.holds Tryz.pinned (OpenSpec.upto defeatMatchesReferenceSpec)

/-- 'wageofficelaw11.DefeatWitness', WHERE WHAT IT READS IS OF BULK AT MOST 1048576: true; the input reads as it did. -/
def defeatWitnessUptoRow : OpenClaim := { program := "ytblpjknmhajcgaagreatdoor", sum := "55746657f09ac4e89b2288bafecfec47183fb7cfda2993c446020263d33a8bf1", func := "wageoffice/wageofficelaw11.DefeatWitness", spec := "defeatWitness", unfollowed := true, recurses := true, named := ["wageoffice/calendar.before"], loops := true, apart := false, laid := [("wageoffice/calendar.before", laid_wageoffice_calendar_before)], narrowed := true }
def DefeatWitnessUptoSaid : Prop := defeatWitnessUptoRow.holds Tryz.pinned (OpenSpec.upto defeatWitnessSpec)

/-- 'wageofficelaw11.DefeatClash', WHERE WHAT IT READS IS OF BULK AT MOST 1048576: true; the input reads as it did. -/
def defeatClashUptoRow : OpenClaim := { program := "ytblpjknmhajcgaagreatdoor", sum := "55746657f09ac4e89b2288bafecfec47183fb7cfda2993c446020263d33a8bf1", func := "wageoffice/wageofficelaw11.DefeatClash", spec := "defeatClash", unfollowed := true, recurses := true, named := ["wageoffice/calendar.before"], loops := true, apart := false, laid := [("wageoffice/calendar.before", laid_wageoffice_calendar_before)], narrowed := true }
def DefeatClashUptoSaid : Prop := defeatClashUptoRow.holds Tryz.pinned (OpenSpec.upto defeatClashSpec)

/-- 'wageofficelaw11.DefeatDead', WHERE WHAT IT READS IS OF BULK AT MOST 1048576: true; the input reads as it did. -/
def defeatDeadUptoRow : OpenClaim := { program := "ytblpjknmhajcgaagreatdoor", sum := "55746657f09ac4e89b2288bafecfec47183fb7cfda2993c446020263d33a8bf1", func := "wageoffice/wageofficelaw11.DefeatDead", spec := "defeatDead", unfollowed := true, recurses := true, named := ["wageoffice/calendar.before"], loops := true, apart := false, laid := [("wageoffice/calendar.before", laid_wageoffice_calendar_before)], narrowed := true }
def DefeatDeadUptoSaid : Prop := defeatDeadUptoRow.holds Tryz.pinned (OpenSpec.upto defeatDeadSpec)

/-- 'wageofficelaw11.DefeatMore', WHERE WHAT IT READS IS OF BULK AT MOST 1048576: true; the input reads as it did. -/
def defeatMoreUptoRow : OpenClaim := { program := "ytblpjknmhajcgaagreatdoor", sum := "55746657f09ac4e89b2288bafecfec47183fb7cfda2993c446020263d33a8bf1", func := "wageoffice/wageofficelaw11.DefeatMore", spec := "defeatMore", unfollowed := true, recurses := true, named := ["wageoffice/calendar.before"], loops := true, apart := false, laid := [("wageoffice/calendar.before", laid_wageoffice_calendar_before)], narrowed := true }
def DefeatMoreUptoSaid : Prop := defeatMoreUptoRow.holds Tryz.pinned (OpenSpec.upto defeatMoreSpec)

/-- 'wageofficelaw11.DefeatRing', WHERE WHAT IT READS IS OF BULK AT MOST 1048576: true; the input reads as it did. -/
def defeatRingUptoRow : OpenClaim := { program := "ytblpjknmhajcgaagreatdoor", sum := "55746657f09ac4e89b2288bafecfec47183fb7cfda2993c446020263d33a8bf1", func := "wageoffice/wageofficelaw11.DefeatRing", spec := "defeatRing", unfollowed := true, recurses := true, named := ["wageoffice/calendar.before"], loops := true, apart := false, laid := [("wageoffice/calendar.before", laid_wageoffice_calendar_before)], narrowed := true }
def DefeatRingUptoSaid : Prop := defeatRingUptoRow.holds Tryz.pinned (OpenSpec.upto defeatRingSpec)

end Rows
end Go.Proofs.YtblpjknmhajcgaaGreatDoor
