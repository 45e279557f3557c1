/-
  NARROWER THAN 'FOR EVERY INPUT', by the rows' own cells (each row's printed sentence says how): ViewMatchesReference: loops, laid · ViewArticles: loops, laid · ViewPersons: loops, laid · ViewRuns: loops, laid · ViewFacts: loops, laid · ViewClocks: loops, laid.
  DERIVED. THE GIVEN ROWS OF THIS SEAT. 6 by the template 'for every input the law returns true; each argument reads behind the call as it read before'; 0 by the template 'total and deterministic' (their statements: YthmkdghoaifkbaaGreatDoorTotals.lean).
  GIVEN WITH THE SEED: the statements are not yours to turn. If you find one false, say at which input.
  Laid BY PROGRAM, IN A SANDBOX (cutbox-rows.mjs): the forced cells as the released guide's own fill.sh prints them over the translation 04b0333f0272b0e7… (all of the seat's roots in one cut). By AI agents, Wed Nov 11 2026. No macro, syntax, notation, axiom, sorry.
-/
import Derived.Test.YthmkdghoaifkbaaGreatDoorChecked
import GoSem.Claim
import GoSem.ClaimJoined
import GoSem.ClaimMapViews
import Derived.JoinedTies
import Derived.KernelRfl
namespace Go.Proofs.YthmkdghoaifkbaaGreatDoor
/- THE CELL 'sum', in the pinned program and in every row, IS THE sha256 OF THE DUMP (.gsa) THAT YthmkdghoaifkbaaGreatDoorProg.lean LOADS. Nothing in Lean hashes anything: it is a label: what it is worth is what the hold of that sum in a sandbox is worth. -/
noncomputable def Tryz.pinned : Pinned := { name := "ythmkdghoaifkbaagreatdoor", sum := "04b0333f0272b0e77476fcaeea7e11759e2da939d4827a9fd80e5df88b87ec82", checked := Tryz.checked }
namespace Rows
def none {H : Type} : Left H := { results := [], args := [] }

/- WHAT THE LISTED PACKAGE-LEVEL VARIABLES READ AS WHEN THE CALL BEGINS. Each datum BY PROGRAM (the guide's laid-datum.mjs) off the statement by which the dump's own 'gosem.cut.vars' lays the variable. In a bare row this is a premise. The card (YthmkdghoaifkbaaGreatDoorCards.lean) ties it to the program's text. -/
def laid_wageoffice_calendar_before {H : Type} : DataW H := .agg [.lit (.int .i64 0), .lit (.int .i64 31), .lit (.int .i64 59), .lit (.int .i64 90), .lit (.int .i64 120), .lit (.int .i64 151), .lit (.int .i64 181), .lit (.int .i64 212), .lit (.int .i64 243), .lit (.int .i64 273), .lit (.int .i64 304), .lit (.int .i64 334), .lit (.int .i64 365)]

/-- 'wageofficelaw13.ViewMatchesReference': WHATEVER THE INPUT: true; the input reads as it did. -/
def viewMatchesReferenceSpec : ChangeSpec := { name := "viewMatchesReference", fn := fun _ => fun
  | [d1, d2, d3, d4, d5, d6, d7] => { results := [.lit (.bool true)], args := [d1, d2, d3, d4, d5, d6, d7] }
  | _ => none }
def viewMatchesReferenceRow : OpenClaim := { program := "ythmkdghoaifkbaagreatdoor", sum := "04b0333f0272b0e77476fcaeea7e11759e2da939d4827a9fd80e5df88b87ec82", func := "wageoffice/wageofficelaw13.ViewMatchesReference", spec := "viewMatchesReference", unfollowed := true, recurses := true, named := ["wageoffice/calendar.before"], loops := true, apart := false, laid := [("wageoffice/calendar.before", laid_wageoffice_calendar_before)] }
def ViewMatchesReferenceSaid : Prop := viewMatchesReferenceRow.holds Tryz.pinned (OpenSpec.ofChange viewMatchesReferenceSpec)

/-- ITS FALSE NEIGHBOUR: 'it returns false'. Refute it at one input. -/
def viewMatchesReferenceWrong : ChangeSpec := { name := "viewMatchesReference", fn := fun _ => fun
  | [d1, d2, d3, d4, d5, d6, d7] => { results := [.lit (.bool false)], args := [d1, d2, d3, d4, d5, d6, d7] }
  | _ => none }
def ViewMatchesReferenceWrongFalsely : Prop := viewMatchesReferenceRow.holds Tryz.pinned (OpenSpec.ofChange viewMatchesReferenceWrong)

/-- 'wageofficelaw13.ViewArticles': WHATEVER THE INPUT: true; the input reads as it did. -/
def viewArticlesSpec : ChangeSpec := { name := "viewArticles", fn := fun _ => fun
  | [d1, d2, d3, d4, d5] => { results := [.lit (.bool true)], args := [d1, d2, d3, d4, d5] }
  | _ => none }
def viewArticlesRow : OpenClaim := { program := "ythmkdghoaifkbaagreatdoor", sum := "04b0333f0272b0e77476fcaeea7e11759e2da939d4827a9fd80e5df88b87ec82", func := "wageoffice/wageofficelaw13.ViewArticles", spec := "viewArticles", unfollowed := true, recurses := true, named := ["wageoffice/calendar.before"], loops := true, apart := false, laid := [("wageoffice/calendar.before", laid_wageoffice_calendar_before)] }
def ViewArticlesSaid : Prop := viewArticlesRow.holds Tryz.pinned (OpenSpec.ofChange viewArticlesSpec)

/-- ITS FALSE NEIGHBOUR: 'it returns false'. Refute it at one input. -/
def viewArticlesWrong : ChangeSpec := { name := "viewArticles", fn := fun _ => fun
  | [d1, d2, d3, d4, d5] => { results := [.lit (.bool false)], args := [d1, d2, d3, d4, d5] }
  | _ => none }
def ViewArticlesWrongFalsely : Prop := viewArticlesRow.holds Tryz.pinned (OpenSpec.ofChange viewArticlesWrong)

/-- 'wageofficelaw13.ViewPersons': WHATEVER THE INPUT: true; the input reads as it did. -/
def viewPersonsSpec : ChangeSpec := { name := "viewPersons", fn := fun _ => fun
  | [d1, d2, d3, d4, d5, d6] => { results := [.lit (.bool true)], args := [d1, d2, d3, d4, d5, d6] }
  | _ => none }
def viewPersonsRow : OpenClaim := { program := "ythmkdghoaifkbaagreatdoor", sum := "04b0333f0272b0e77476fcaeea7e11759e2da939d4827a9fd80e5df88b87ec82", func := "wageoffice/wageofficelaw13.ViewPersons", spec := "viewPersons", unfollowed := true, recurses := true, named := ["wageoffice/calendar.before"], loops := true, apart := false, laid := [("wageoffice/calendar.before", laid_wageoffice_calendar_before)] }
def ViewPersonsSaid : Prop := viewPersonsRow.holds Tryz.pinned (OpenSpec.ofChange viewPersonsSpec)

/-- ITS FALSE NEIGHBOUR: 'it returns false'. Refute it at one input. -/
def viewPersonsWrong : ChangeSpec := { name := "viewPersons", fn := fun _ => fun
  | [d1, d2, d3, d4, d5, d6] => { results := [.lit (.bool false)], args := [d1, d2, d3, d4, d5, d6] }
  | _ => none }
def ViewPersonsWrongFalsely : Prop := viewPersonsRow.holds Tryz.pinned (OpenSpec.ofChange viewPersonsWrong)

/-- 'wageofficelaw13.ViewRuns': WHATEVER THE INPUT: true; the input reads as it did. -/
def viewRunsSpec : ChangeSpec := { name := "viewRuns", fn := fun _ => fun
  | [d1, d2, d3, d4, d5] => { results := [.lit (.bool true)], args := [d1, d2, d3, d4, d5] }
  | _ => none }
def viewRunsRow : OpenClaim := { program := "ythmkdghoaifkbaagreatdoor", sum := "04b0333f0272b0e77476fcaeea7e11759e2da939d4827a9fd80e5df88b87ec82", func := "wageoffice/wageofficelaw13.ViewRuns", spec := "viewRuns", unfollowed := true, recurses := true, named := ["wageoffice/calendar.before"], loops := true, apart := false, laid := [("wageoffice/calendar.before", laid_wageoffice_calendar_before)] }
def ViewRunsSaid : Prop := viewRunsRow.holds Tryz.pinned (OpenSpec.ofChange viewRunsSpec)

/-- ITS FALSE NEIGHBOUR: 'it returns false'. Refute it at one input. -/
def viewRunsWrong : ChangeSpec := { name := "viewRuns", fn := fun _ => fun
  | [d1, d2, d3, d4, d5] => { results := [.lit (.bool false)], args := [d1, d2, d3, d4, d5] }
  | _ => none }
def ViewRunsWrongFalsely : Prop := viewRunsRow.holds Tryz.pinned (OpenSpec.ofChange viewRunsWrong)

/-- 'wageofficelaw13.ViewFacts': WHATEVER THE INPUT: true; the input reads as it did. -/
def viewFactsSpec : ChangeSpec := { name := "viewFacts", fn := fun _ => fun
  | [d1, d2, d3, d4, d5] => { results := [.lit (.bool true)], args := [d1, d2, d3, d4, d5] }
  | _ => none }
def viewFactsRow : OpenClaim := { program := "ythmkdghoaifkbaagreatdoor", sum := "04b0333f0272b0e77476fcaeea7e11759e2da939d4827a9fd80e5df88b87ec82", func := "wageoffice/wageofficelaw13.ViewFacts", spec := "viewFacts", unfollowed := true, recurses := true, named := ["wageoffice/calendar.before"], loops := true, apart := false, laid := [("wageoffice/calendar.before", laid_wageoffice_calendar_before)] }
def ViewFactsSaid : Prop := viewFactsRow.holds Tryz.pinned (OpenSpec.ofChange viewFactsSpec)

/-- ITS FALSE NEIGHBOUR: 'it returns false'. Refute it at one input. -/
def viewFactsWrong : ChangeSpec := { name := "viewFacts", fn := fun _ => fun
  | [d1, d2, d3, d4, d5] => { results := [.lit (.bool false)], args := [d1, d2, d3, d4, d5] }
  | _ => none }
def ViewFactsWrongFalsely : Prop := viewFactsRow.holds Tryz.pinned (OpenSpec.ofChange viewFactsWrong)

/-- 'wageofficelaw13.ViewClocks': WHATEVER THE INPUT: true; the input reads as it did. -/
def viewClocksSpec : ChangeSpec := { name := "viewClocks", fn := fun _ => fun
  | [d1, d2, d3, d4, d5, d6, d7] => { results := [.lit (.bool true)], args := [d1, d2, d3, d4, d5, d6, d7] }
  | _ => none }
def viewClocksRow : OpenClaim := { program := "ythmkdghoaifkbaagreatdoor", sum := "04b0333f0272b0e77476fcaeea7e11759e2da939d4827a9fd80e5df88b87ec82", func := "wageoffice/wageofficelaw13.ViewClocks", spec := "viewClocks", unfollowed := true, recurses := true, named := ["wageoffice/calendar.before"], loops := true, apart := false, laid := [("wageoffice/calendar.before", laid_wageoffice_calendar_before)] }
def ViewClocksSaid : Prop := viewClocksRow.holds Tryz.pinned (OpenSpec.ofChange viewClocksSpec)

/-- ITS FALSE NEIGHBOUR: 'it returns false'. Refute it at one input. -/
def viewClocksWrong : ChangeSpec := { name := "viewClocks", fn := fun _ => fun
  | [d1, d2, d3, d4, d5, d6, d7] => { results := [.lit (.bool false)], args := [d1, d2, d3, d4, d5, d6, d7] }
  | _ => none }
def ViewClocksWrongFalsely : Prop := viewClocksRow.holds Tryz.pinned (OpenSpec.ofChange viewClocksWrong)

/- THE SECOND FORM. 'bulk': how many values and letters a reading holds, each counted each time it is reached (what is shared counts as often as it is met; a slice's spare places count too). A statement '..UptoSaid' is the law's where the arguments, and the package variables that the reading takes, are together of bulk at most 1048576: NARROWER than '..Said'. Prove '..Said' where nothing that the law and all that it calls make is longer than what came in: it says more and counts as full. Else prove '..UptoSaid'. A law counts once. -/
mutual
def uptoBulk {H : Type} : DataW H → Nat
  | .lit (.string bytes) => bytes.length + 1
  | .lit _ => 1
  | .nil => 1
  | .ptr d => uptoBulk d + 1
  | .slice elems spare => uptoBulkAll elems + uptoBulkAll spare + 1
  | .agg parts => uptoBulkAll parts + 1
  | .iface _ d => uptoBulk d + 1
  | .map entries => uptoBulkEntries entries + 1
  | .held _ => 1
def uptoBulkAll {H : Type} : List (DataW H) → Nat
  | [] => 0
  | d :: r => uptoBulk d + uptoBulkAll r
def uptoBulkEntries {H : Type} : List (Lit × DataW H) → Nat
  | [] => 0
  | x :: r => uptoBulkEntry x + uptoBulkEntries r
def uptoBulkEntry {H : Type} : Lit × DataW H → Nat
  | (.string bytes, d) => bytes.length + uptoBulk d + 1
  | (_, d) => uptoBulk d + 1
 end
def uptoSmall : (H : Type) → List (DataW H) → Bool := fun _ ds => decide (uptoBulkAll ds ≤ 1048576)
def OpenSpec.upto (s : _root_.Go.ChangeSpec) : _root_.Go.OpenSpec := { _root_.Go.OpenSpec.ofChange s with cond := some uptoSmall }

/-- 'wageofficelaw13.ViewMatchesReference', WHERE WHAT IT READS IS OF BULK AT MOST 1048576: true; the input reads as it did. -/
def viewMatchesReferenceUptoRow : OpenClaim := { program := "ythmkdghoaifkbaagreatdoor", sum := "04b0333f0272b0e77476fcaeea7e11759e2da939d4827a9fd80e5df88b87ec82", func := "wageoffice/wageofficelaw13.ViewMatchesReference", spec := "viewMatchesReference", unfollowed := true, recurses := true, named := ["wageoffice/calendar.before"], loops := true, apart := false, laid := [("wageoffice/calendar.before", laid_wageoffice_calendar_before)], narrowed := true }
def ViewMatchesReferenceUptoSaid : Prop := viewMatchesReferenceUptoRow.holds Tryz.pinned (OpenSpec.upto viewMatchesReferenceSpec)

/-- 'wageofficelaw13.ViewArticles', WHERE WHAT IT READS IS OF BULK AT MOST 1048576: true; the input reads as it did. -/
def viewArticlesUptoRow : OpenClaim := { program := "ythmkdghoaifkbaagreatdoor", sum := "04b0333f0272b0e77476fcaeea7e11759e2da939d4827a9fd80e5df88b87ec82", func := "wageoffice/wageofficelaw13.ViewArticles", spec := "viewArticles", unfollowed := true, recurses := true, named := ["wageoffice/calendar.before"], loops := true, apart := false, laid := [("wageoffice/calendar.before", laid_wageoffice_calendar_before)], narrowed := true }
def ViewArticlesUptoSaid : Prop := viewArticlesUptoRow.holds Tryz.pinned (OpenSpec.upto viewArticlesSpec)

/-- 'wageofficelaw13.ViewPersons', WHERE WHAT IT READS IS OF BULK AT MOST 1048576: true; the input reads as it did. -/
def viewPersonsUptoRow : OpenClaim := { program := "ythmkdghoaifkbaagreatdoor", sum := "04b0333f0272b0e77476fcaeea7e11759e2da939d4827a9fd80e5df88b87ec82", func := "wageoffice/wageofficelaw13.ViewPersons", spec := "viewPersons", unfollowed := true, recurses := true, named := ["wageoffice/calendar.before"], loops := true, apart := false, laid := [("wageoffice/calendar.before", laid_wageoffice_calendar_before)], narrowed := true }
def ViewPersonsUptoSaid : Prop := viewPersonsUptoRow.holds Tryz.pinned (OpenSpec.upto viewPersonsSpec)

/-- 'wageofficelaw13.ViewRuns', WHERE WHAT IT READS IS OF BULK AT MOST 1048576: true; the input reads as it did. -/
def viewRunsUptoRow : OpenClaim := { program := "ythmkdghoaifkbaagreatdoor", sum := "04b0333f0272b0e77476fcaeea7e11759e2da939d4827a9fd80e5df88b87ec82", func := "wageoffice/wageofficelaw13.ViewRuns", spec := "viewRuns", unfollowed := true, recurses := true, named := ["wageoffice/calendar.before"], loops := true, apart := false, laid := [("wageoffice/calendar.before", laid_wageoffice_calendar_before)], narrowed := true }
def ViewRunsUptoSaid : Prop := viewRunsUptoRow.holds Tryz.pinned (OpenSpec.upto viewRunsSpec)

/-- 'wageofficelaw13.ViewFacts', WHERE WHAT IT READS IS OF BULK AT MOST 1048576: true; the input reads as it did. -/
def viewFactsUptoRow : OpenClaim := { program := "ythmkdghoaifkbaagreatdoor", sum := "04b0333f0272b0e77476fcaeea7e11759e2da939d4827a9fd80e5df88b87ec82", func := "wageoffice/wageofficelaw13.ViewFacts", spec := "viewFacts", unfollowed := true, recurses := true, named := ["wageoffice/calendar.before"], loops := true, apart := false, laid := [("wageoffice/calendar.before", laid_wageoffice_calendar_before)], narrowed := true }
def ViewFactsUptoSaid : Prop := viewFactsUptoRow.holds Tryz.pinned (OpenSpec.upto viewFactsSpec)

/-- 'wageofficelaw13.ViewClocks', WHERE WHAT IT READS IS OF BULK AT MOST 1048576: true; the input reads as it did. -/
def viewClocksUptoRow : OpenClaim := { program := "ythmkdghoaifkbaagreatdoor", sum := "04b0333f0272b0e77476fcaeea7e11759e2da939d4827a9fd80e5df88b87ec82", func := "wageoffice/wageofficelaw13.ViewClocks", spec := "viewClocks", unfollowed := true, recurses := true, named := ["wageoffice/calendar.before"], loops := true, apart := false, laid := [("wageoffice/calendar.before", laid_wageoffice_calendar_before)], narrowed := true }
def ViewClocksUptoSaid : Prop := viewClocksUptoRow.holds Tryz.pinned (OpenSpec.upto viewClocksSpec)

end Rows
end Go.Proofs.YthmkdghoaifkbaaGreatDoor
