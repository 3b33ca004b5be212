/-
  NARROWER THAN 'FOR EVERY INPUT', by the rows' own cells (each row's printed sentence says how): PlansCheck: laid · CentsKept: laid · RoundsLeast: laid · MarksApart: laid · RoundsCost: laid · MarksMatch: laid · ReportsTrace: laid · PricesBound: laid · MarksChange: laid · BlamesFall: laid · RepairsCost: laid · RepairsGroup: laid · RoundsAreShortest: laid.
  DERIVED. THE GIVEN ROWS OF THIS SEAT. 13 by the template 'for every input the law returns true; each argument reads behind the call as it read before'; 0 by the template 'total and deterministic' (their statements: YtnkdlkgannnfhaaGreatDoorTotals.lean).
  GIVEN WITH THE SEED: the statements are not yours to turn. If you find one false, say at which input.
  Laid BY PROGRAM, IN A SANDBOX (cutbox-rows.mjs): the forced cells as the released guide's own fill.sh prints them over the translation cceadbc785f9eb2e… (all of the seat's roots in one cut). By AI agents, Wed Nov 11 2026. No macro, syntax, notation, axiom, sorry.
-/
import Derived.Test.YtnkdlkgannnfhaaGreatDoorChecked
import GoSem.PinnedTables
import GoSem.Claim
import GoSem.ClaimJoined
import GoSem.ClaimMapViews
import Derived.JoinedTies
import Derived.KernelRfl
namespace Go.Proofs.YtnkdlkgannnfhaaGreatDoor
/- THE CELL 'sum', in the pinned program and in every row, IS THE sha256 OF THE DUMP (.gsa) THAT YtnkdlkgannnfhaaGreatDoorProg.lean LOADS. Nothing in Lean hashes anything: it is a label: what it is worth is what the hold of that sum in a sandbox is worth. -/
noncomputable def Tryz.pinned : Pinned := { name := "ytnkdlkgannnfhaagreatdoor", sum := "cceadbc785f9eb2e1f75c5ba943d182a09669c033a416657d636a65873db58ef", checked := Tryz.checked }
namespace Rows
def none {H : Type} : Left H := { results := [], args := [] }

/- WHAT THE LISTED PACKAGE-LEVEL VARIABLES READ AS WHEN THE CALL BEGINS. Each datum BY PROGRAM (the guide's laid-datum.mjs) off the statement by which the dump's own 'gosem.cut.vars' lays the variable. In a bare row this is a premise. The card (YtnkdlkgannnfhaaGreatDoorCards.lean) ties it to the program's text. -/
def laid_unicode_utf8_acceptRanges {H : Type} : DataW H := .agg [.agg [.lit (.int .u8 128), .lit (.int .u8 191)], .agg [.lit (.int .u8 160), .lit (.int .u8 191)], .agg [.lit (.int .u8 128), .lit (.int .u8 159)], .agg [.lit (.int .u8 144), .lit (.int .u8 191)], .agg [.lit (.int .u8 128), .lit (.int .u8 143)], .agg [.lit (.int .u8 0), .lit (.int .u8 0)], .agg [.lit (.int .u8 0), .lit (.int .u8 0)], .agg [.lit (.int .u8 0), .lit (.int .u8 0)], .agg [.lit (.int .u8 0), .lit (.int .u8 0)], .agg [.lit (.int .u8 0), .lit (.int .u8 0)], .agg [.lit (.int .u8 0), .lit (.int .u8 0)], .agg [.lit (.int .u8 0), .lit (.int .u8 0)], .agg [.lit (.int .u8 0), .lit (.int .u8 0)], .agg [.lit (.int .u8 0), .lit (.int .u8 0)], .agg [.lit (.int .u8 0), .lit (.int .u8 0)], .agg [.lit (.int .u8 0), .lit (.int .u8 0)]]
/-- One of Go's own tables, pinned by name: the form's constant. -/
def laid_unicode_utf8_first : DataW Unit := Go.Pinned.utf8First

/-- 'rentlaw2.PlansCheck': WHATEVER THE INPUT: true; the input reads as it did. -/
def plansCheckSpec : ChangeSpec := { name := "plansCheck", fn := fun _ => fun
  | [d] => { results := [.lit (.bool true)], args := [d] }
  | _ => none }
def plansCheckRow : OpenClaim := { program := "ytnkdlkgannnfhaagreatdoor", sum := "cceadbc785f9eb2e1f75c5ba943d182a09669c033a416657d636a65873db58ef", func := "forecourt/rentlaw2.PlansCheck", spec := "plansCheck", inPlace := ["internal/bytealg.IndexByteString", "internal/bytealg.IndexString", "internal/bytealg.abigen_runtime_cmpstring"], unfollowed := true, recurses := true, named := ["unicode/utf8.first", "unicode/utf8.acceptRanges", "internal/bytealg.MaxLen"], plainKeys := false, apart := false, laid := [("unicode/utf8.acceptRanges", laid_unicode_utf8_acceptRanges), ("unicode/utf8.first", laid_unicode_utf8_first)] }
def PlansCheckSaid : Prop := plansCheckRow.holds Tryz.pinned (OpenSpec.ofChange plansCheckSpec)

/-- ITS FALSE NEIGHBOUR: 'it returns false'. Refute it at one input. -/
def plansCheckWrong : ChangeSpec := { name := "plansCheck", fn := fun _ => fun
  | [d] => { results := [.lit (.bool false)], args := [d] }
  | _ => none }
def PlansCheckWrongFalsely : Prop := plansCheckRow.holds Tryz.pinned (OpenSpec.ofChange plansCheckWrong)

/-- 'rentkeep2.CentsKept': WHATEVER THE INPUT: true; the input reads as it did. -/
def centsKeptSpec : ChangeSpec := { name := "centsKept", fn := fun _ => fun
  | [d] => { results := [.lit (.bool true)], args := [d] }
  | _ => none }
def centsKeptRow : OpenClaim := { program := "ytnkdlkgannnfhaagreatdoor", sum := "cceadbc785f9eb2e1f75c5ba943d182a09669c033a416657d636a65873db58ef", func := "forecourt/rentkeep2.CentsKept", spec := "centsKept", inPlace := ["internal/bytealg.IndexByteString", "internal/bytealg.IndexString"], unfollowed := true, recurses := true, named := ["unicode/utf8.first", "unicode/utf8.acceptRanges", "internal/bytealg.MaxLen"], plainKeys := false, apart := false, laid := [("unicode/utf8.acceptRanges", laid_unicode_utf8_acceptRanges), ("unicode/utf8.first", laid_unicode_utf8_first)] }
def CentsKeptSaid : Prop := centsKeptRow.holds Tryz.pinned (OpenSpec.ofChange centsKeptSpec)

/-- ITS FALSE NEIGHBOUR: 'it returns false'. Refute it at one input. -/
def centsKeptWrong : ChangeSpec := { name := "centsKept", fn := fun _ => fun
  | [d] => { results := [.lit (.bool false)], args := [d] }
  | _ => none }
def CentsKeptWrongFalsely : Prop := centsKeptRow.holds Tryz.pinned (OpenSpec.ofChange centsKeptWrong)

/-- 'rentlaw2.RoundsLeast': WHATEVER THE INPUT: true; the input reads as it did. -/
def roundsLeastSpec : ChangeSpec := { name := "roundsLeast", fn := fun _ => fun
  | [d] => { results := [.lit (.bool true)], args := [d] }
  | _ => none }
def roundsLeastRow : OpenClaim := { program := "ytnkdlkgannnfhaagreatdoor", sum := "cceadbc785f9eb2e1f75c5ba943d182a09669c033a416657d636a65873db58ef", func := "forecourt/rentlaw2.RoundsLeast", spec := "roundsLeast", inPlace := ["internal/bytealg.IndexByteString", "internal/bytealg.IndexString", "internal/bytealg.abigen_runtime_cmpstring"], unfollowed := true, recurses := true, named := ["unicode/utf8.first", "unicode/utf8.acceptRanges", "internal/bytealg.MaxLen"], plainKeys := false, apart := false, laid := [("unicode/utf8.acceptRanges", laid_unicode_utf8_acceptRanges), ("unicode/utf8.first", laid_unicode_utf8_first)] }
def RoundsLeastSaid : Prop := roundsLeastRow.holds Tryz.pinned (OpenSpec.ofChange roundsLeastSpec)

/-- ITS FALSE NEIGHBOUR: 'it returns false'. Refute it at one input. -/
def roundsLeastWrong : ChangeSpec := { name := "roundsLeast", fn := fun _ => fun
  | [d] => { results := [.lit (.bool false)], args := [d] }
  | _ => none }
def RoundsLeastWrongFalsely : Prop := roundsLeastRow.holds Tryz.pinned (OpenSpec.ofChange roundsLeastWrong)

/-- 'rentlaw2.MarksApart': WHATEVER THE INPUT: true; the input reads as it did. -/
def marksApartSpec : ChangeSpec := { name := "marksApart", fn := fun _ => fun
  | [d] => { results := [.lit (.bool true)], args := [d] }
  | _ => none }
def marksApartRow : OpenClaim := { program := "ytnkdlkgannnfhaagreatdoor", sum := "cceadbc785f9eb2e1f75c5ba943d182a09669c033a416657d636a65873db58ef", func := "forecourt/rentlaw2.MarksApart", spec := "marksApart", inPlace := ["internal/bytealg.abigen_runtime_cmpstring", "internal/bytealg.IndexByteString", "internal/bytealg.IndexString"], unfollowed := true, recurses := true, named := ["unicode/utf8.first", "unicode/utf8.acceptRanges", "internal/bytealg.MaxLen"], plainKeys := false, apart := false, laid := [("unicode/utf8.acceptRanges", laid_unicode_utf8_acceptRanges), ("unicode/utf8.first", laid_unicode_utf8_first)] }
def MarksApartSaid : Prop := marksApartRow.holds Tryz.pinned (OpenSpec.ofChange marksApartSpec)

/-- ITS FALSE NEIGHBOUR: 'it returns false'. Refute it at one input. -/
def marksApartWrong : ChangeSpec := { name := "marksApart", fn := fun _ => fun
  | [d] => { results := [.lit (.bool false)], args := [d] }
  | _ => none }
def MarksApartWrongFalsely : Prop := marksApartRow.holds Tryz.pinned (OpenSpec.ofChange marksApartWrong)

/-- 'rentlaw2.RoundsCost': WHATEVER THE INPUT: true; the input reads as it did. -/
def roundsCostSpec : ChangeSpec := { name := "roundsCost", fn := fun _ => fun
  | [d] => { results := [.lit (.bool true)], args := [d] }
  | _ => none }
def roundsCostRow : OpenClaim := { program := "ytnkdlkgannnfhaagreatdoor", sum := "cceadbc785f9eb2e1f75c5ba943d182a09669c033a416657d636a65873db58ef", func := "forecourt/rentlaw2.RoundsCost", spec := "roundsCost", inPlace := ["internal/bytealg.IndexByteString", "internal/bytealg.IndexString", "internal/bytealg.abigen_runtime_cmpstring"], unfollowed := true, recurses := true, named := ["unicode/utf8.first", "unicode/utf8.acceptRanges", "internal/bytealg.MaxLen"], plainKeys := false, apart := false, laid := [("unicode/utf8.acceptRanges", laid_unicode_utf8_acceptRanges), ("unicode/utf8.first", laid_unicode_utf8_first)] }
def RoundsCostSaid : Prop := roundsCostRow.holds Tryz.pinned (OpenSpec.ofChange roundsCostSpec)

/-- ITS FALSE NEIGHBOUR: 'it returns false'. Refute it at one input. -/
def roundsCostWrong : ChangeSpec := { name := "roundsCost", fn := fun _ => fun
  | [d] => { results := [.lit (.bool false)], args := [d] }
  | _ => none }
def RoundsCostWrongFalsely : Prop := roundsCostRow.holds Tryz.pinned (OpenSpec.ofChange roundsCostWrong)

/-- 'rentlaw2.MarksMatch': WHATEVER THE INPUT: true; the input reads as it did. -/
def marksMatchSpec : ChangeSpec := { name := "marksMatch", fn := fun _ => fun
  | [d] => { results := [.lit (.bool true)], args := [d] }
  | _ => none }
def marksMatchRow : OpenClaim := { program := "ytnkdlkgannnfhaagreatdoor", sum := "cceadbc785f9eb2e1f75c5ba943d182a09669c033a416657d636a65873db58ef", func := "forecourt/rentlaw2.MarksMatch", spec := "marksMatch", inPlace := ["internal/bytealg.abigen_runtime_cmpstring", "internal/bytealg.IndexByteString", "internal/bytealg.IndexString"], unfollowed := true, recurses := true, named := ["unicode/utf8.first", "unicode/utf8.acceptRanges", "internal/bytealg.MaxLen"], plainKeys := false, apart := false, laid := [("unicode/utf8.acceptRanges", laid_unicode_utf8_acceptRanges), ("unicode/utf8.first", laid_unicode_utf8_first)] }
def MarksMatchSaid : Prop := marksMatchRow.holds Tryz.pinned (OpenSpec.ofChange marksMatchSpec)

/-- ITS FALSE NEIGHBOUR: 'it returns false'. Refute it at one input. -/
def marksMatchWrong : ChangeSpec := { name := "marksMatch", fn := fun _ => fun
  | [d] => { results := [.lit (.bool false)], args := [d] }
  | _ => none }
def MarksMatchWrongFalsely : Prop := marksMatchRow.holds Tryz.pinned (OpenSpec.ofChange marksMatchWrong)

/-- 'rentlaw2.ReportsTrace': WHATEVER THE INPUT: true; the input reads as it did. -/
def reportsTraceSpec : ChangeSpec := { name := "reportsTrace", fn := fun _ => fun
  | [d] => { results := [.lit (.bool true)], args := [d] }
  | _ => none }
def reportsTraceRow : OpenClaim := { program := "ytnkdlkgannnfhaagreatdoor", sum := "cceadbc785f9eb2e1f75c5ba943d182a09669c033a416657d636a65873db58ef", func := "forecourt/rentlaw2.ReportsTrace", spec := "reportsTrace", inPlace := ["internal/bytealg.abigen_runtime_cmpstring", "internal/bytealg.IndexByteString", "internal/bytealg.IndexString"], unfollowed := true, recurses := true, named := ["unicode/utf8.first", "unicode/utf8.acceptRanges", "internal/bytealg.MaxLen"], plainKeys := false, apart := false, laid := [("unicode/utf8.acceptRanges", laid_unicode_utf8_acceptRanges), ("unicode/utf8.first", laid_unicode_utf8_first)] }
def ReportsTraceSaid : Prop := reportsTraceRow.holds Tryz.pinned (OpenSpec.ofChange reportsTraceSpec)

/-- ITS FALSE NEIGHBOUR: 'it returns false'. Refute it at one input. -/
def reportsTraceWrong : ChangeSpec := { name := "reportsTrace", fn := fun _ => fun
  | [d] => { results := [.lit (.bool false)], args := [d] }
  | _ => none }
def ReportsTraceWrongFalsely : Prop := reportsTraceRow.holds Tryz.pinned (OpenSpec.ofChange reportsTraceWrong)

/-- 'rentlaw2.PricesBound': WHATEVER THE INPUT: true; the input reads as it did. -/
def pricesBoundSpec : ChangeSpec := { name := "pricesBound", fn := fun _ => fun
  | [d] => { results := [.lit (.bool true)], args := [d] }
  | _ => none }
def pricesBoundRow : OpenClaim := { program := "ytnkdlkgannnfhaagreatdoor", sum := "cceadbc785f9eb2e1f75c5ba943d182a09669c033a416657d636a65873db58ef", func := "forecourt/rentlaw2.PricesBound", spec := "pricesBound", inPlace := ["internal/bytealg.IndexByteString", "internal/bytealg.IndexString", "internal/bytealg.abigen_runtime_cmpstring"], unfollowed := true, recurses := true, named := ["unicode/utf8.first", "unicode/utf8.acceptRanges", "internal/bytealg.MaxLen"], plainKeys := false, apart := false, laid := [("unicode/utf8.acceptRanges", laid_unicode_utf8_acceptRanges), ("unicode/utf8.first", laid_unicode_utf8_first)] }
def PricesBoundSaid : Prop := pricesBoundRow.holds Tryz.pinned (OpenSpec.ofChange pricesBoundSpec)

/-- ITS FALSE NEIGHBOUR: 'it returns false'. Refute it at one input. -/
def pricesBoundWrong : ChangeSpec := { name := "pricesBound", fn := fun _ => fun
  | [d] => { results := [.lit (.bool false)], args := [d] }
  | _ => none }
def PricesBoundWrongFalsely : Prop := pricesBoundRow.holds Tryz.pinned (OpenSpec.ofChange pricesBoundWrong)

/-- 'rentlaw2.MarksChange': WHATEVER THE INPUT: true; the input reads as it did. -/
def marksChangeSpec : ChangeSpec := { name := "marksChange", fn := fun _ => fun
  | [d] => { results := [.lit (.bool true)], args := [d] }
  | _ => none }
def marksChangeRow : OpenClaim := { program := "ytnkdlkgannnfhaagreatdoor", sum := "cceadbc785f9eb2e1f75c5ba943d182a09669c033a416657d636a65873db58ef", func := "forecourt/rentlaw2.MarksChange", spec := "marksChange", inPlace := ["internal/bytealg.abigen_runtime_cmpstring", "internal/bytealg.IndexByteString", "internal/bytealg.IndexString"], unfollowed := true, recurses := true, named := ["unicode/utf8.first", "unicode/utf8.acceptRanges", "internal/bytealg.MaxLen"], plainKeys := false, apart := false, laid := [("unicode/utf8.acceptRanges", laid_unicode_utf8_acceptRanges), ("unicode/utf8.first", laid_unicode_utf8_first)] }
def MarksChangeSaid : Prop := marksChangeRow.holds Tryz.pinned (OpenSpec.ofChange marksChangeSpec)

/-- ITS FALSE NEIGHBOUR: 'it returns false'. Refute it at one input. -/
def marksChangeWrong : ChangeSpec := { name := "marksChange", fn := fun _ => fun
  | [d] => { results := [.lit (.bool false)], args := [d] }
  | _ => none }
def MarksChangeWrongFalsely : Prop := marksChangeRow.holds Tryz.pinned (OpenSpec.ofChange marksChangeWrong)

/-- 'rentlaw2.BlamesFall': WHATEVER THE INPUT: true; the input reads as it did. -/
def blamesFallSpec : ChangeSpec := { name := "blamesFall", fn := fun _ => fun
  | [d] => { results := [.lit (.bool true)], args := [d] }
  | _ => none }
def blamesFallRow : OpenClaim := { program := "ytnkdlkgannnfhaagreatdoor", sum := "cceadbc785f9eb2e1f75c5ba943d182a09669c033a416657d636a65873db58ef", func := "forecourt/rentlaw2.BlamesFall", spec := "blamesFall", inPlace := ["internal/bytealg.IndexByteString", "internal/bytealg.IndexString", "internal/bytealg.abigen_runtime_cmpstring"], unfollowed := true, recurses := true, named := ["unicode/utf8.first", "unicode/utf8.acceptRanges", "internal/bytealg.MaxLen"], plainKeys := false, apart := false, laid := [("unicode/utf8.acceptRanges", laid_unicode_utf8_acceptRanges), ("unicode/utf8.first", laid_unicode_utf8_first)] }
def BlamesFallSaid : Prop := blamesFallRow.holds Tryz.pinned (OpenSpec.ofChange blamesFallSpec)

/-- ITS FALSE NEIGHBOUR: 'it returns false'. Refute it at one input. -/
def blamesFallWrong : ChangeSpec := { name := "blamesFall", fn := fun _ => fun
  | [d] => { results := [.lit (.bool false)], args := [d] }
  | _ => none }
def BlamesFallWrongFalsely : Prop := blamesFallRow.holds Tryz.pinned (OpenSpec.ofChange blamesFallWrong)

/-- 'rentlaw2.RepairsCost': WHATEVER THE INPUT: true; the input reads as it did. -/
def repairsCostSpec : ChangeSpec := { name := "repairsCost", fn := fun _ => fun
  | [d] => { results := [.lit (.bool true)], args := [d] }
  | _ => none }
def repairsCostRow : OpenClaim := { program := "ytnkdlkgannnfhaagreatdoor", sum := "cceadbc785f9eb2e1f75c5ba943d182a09669c033a416657d636a65873db58ef", func := "forecourt/rentlaw2.RepairsCost", spec := "repairsCost", inPlace := ["internal/bytealg.abigen_runtime_cmpstring", "internal/bytealg.IndexByteString", "internal/bytealg.IndexString"], unfollowed := true, recurses := true, named := ["unicode/utf8.first", "unicode/utf8.acceptRanges", "internal/bytealg.MaxLen"], plainKeys := false, apart := false, laid := [("unicode/utf8.acceptRanges", laid_unicode_utf8_acceptRanges), ("unicode/utf8.first", laid_unicode_utf8_first)] }
def RepairsCostSaid : Prop := repairsCostRow.holds Tryz.pinned (OpenSpec.ofChange repairsCostSpec)

/-- ITS FALSE NEIGHBOUR: 'it returns false'. Refute it at one input. -/
def repairsCostWrong : ChangeSpec := { name := "repairsCost", fn := fun _ => fun
  | [d] => { results := [.lit (.bool false)], args := [d] }
  | _ => none }
def RepairsCostWrongFalsely : Prop := repairsCostRow.holds Tryz.pinned (OpenSpec.ofChange repairsCostWrong)

/-- 'rentlaw2.RepairsGroup': WHATEVER THE INPUT: true; the input reads as it did. -/
def repairsGroupSpec : ChangeSpec := { name := "repairsGroup", fn := fun _ => fun
  | [d] => { results := [.lit (.bool true)], args := [d] }
  | _ => none }
def repairsGroupRow : OpenClaim := { program := "ytnkdlkgannnfhaagreatdoor", sum := "cceadbc785f9eb2e1f75c5ba943d182a09669c033a416657d636a65873db58ef", func := "forecourt/rentlaw2.RepairsGroup", spec := "repairsGroup", inPlace := ["internal/bytealg.abigen_runtime_cmpstring", "internal/bytealg.IndexByteString", "internal/bytealg.IndexString"], unfollowed := true, recurses := true, named := ["unicode/utf8.first", "unicode/utf8.acceptRanges", "internal/bytealg.MaxLen"], plainKeys := false, apart := false, laid := [("unicode/utf8.acceptRanges", laid_unicode_utf8_acceptRanges), ("unicode/utf8.first", laid_unicode_utf8_first)] }
def RepairsGroupSaid : Prop := repairsGroupRow.holds Tryz.pinned (OpenSpec.ofChange repairsGroupSpec)

/-- ITS FALSE NEIGHBOUR: 'it returns false'. Refute it at one input. -/
def repairsGroupWrong : ChangeSpec := { name := "repairsGroup", fn := fun _ => fun
  | [d] => { results := [.lit (.bool false)], args := [d] }
  | _ => none }
def RepairsGroupWrongFalsely : Prop := repairsGroupRow.holds Tryz.pinned (OpenSpec.ofChange repairsGroupWrong)

/-- 'rentkeep2.RoundsAreShortest': WHATEVER THE INPUT: true; the input reads as it did. -/
def roundsAreShortestSpec : ChangeSpec := { name := "roundsAreShortest", fn := fun _ => fun
  | [d] => { results := [.lit (.bool true)], args := [d] }
  | _ => none }
def roundsAreShortestRow : OpenClaim := { program := "ytnkdlkgannnfhaagreatdoor", sum := "cceadbc785f9eb2e1f75c5ba943d182a09669c033a416657d636a65873db58ef", func := "forecourt/rentkeep2.RoundsAreShortest", spec := "roundsAreShortest", inPlace := ["internal/bytealg.IndexByteString", "internal/bytealg.IndexString", "internal/bytealg.abigen_runtime_cmpstring"], unfollowed := true, recurses := true, named := ["unicode/utf8.first", "unicode/utf8.acceptRanges", "internal/bytealg.MaxLen"], plainKeys := false, apart := false, laid := [("unicode/utf8.acceptRanges", laid_unicode_utf8_acceptRanges), ("unicode/utf8.first", laid_unicode_utf8_first)] }
def RoundsAreShortestSaid : Prop := roundsAreShortestRow.holds Tryz.pinned (OpenSpec.ofChange roundsAreShortestSpec)

/-- ITS FALSE NEIGHBOUR: 'it returns false'. Refute it at one input. -/
def roundsAreShortestWrong : ChangeSpec := { name := "roundsAreShortest", fn := fun _ => fun
  | [d] => { results := [.lit (.bool false)], args := [d] }
  | _ => none }
def RoundsAreShortestWrongFalsely : Prop := roundsAreShortestRow.holds Tryz.pinned (OpenSpec.ofChange roundsAreShortestWrong)

/- THE SECOND FORM. 'bulk': how many values and letters a reading holds, each counted each time it is reached (what is shared counts as often as it is met; a slice's spare places count too). A statement '..UptoSaid' is the law's where the arguments, and the package variables that the reading takes, are together of bulk at most 1048576: NARROWER than '..Said'. Prove '..Said' where nothing that the law and all that it calls make is longer than what came in: it says more and counts as full. Else prove '..UptoSaid'. A law counts once. -/
mutual
def uptoBulk {H : Type} : DataW H → Nat
  | .lit (.string bytes) => bytes.length + 1
  | .lit _ => 1
  | .nil => 1
  | .ptr d => uptoBulk d + 1
  | .slice elems spare => uptoBulkAll elems + uptoBulkAll spare + 1
  | .agg parts => uptoBulkAll parts + 1
  | .iface _ d => uptoBulk d + 1
  | .map entries => uptoBulkEntries entries + 1
  | .held _ => 1
def uptoBulkAll {H : Type} : List (DataW H) → Nat
  | [] => 0
  | d :: r => uptoBulk d + uptoBulkAll r
def uptoBulkEntries {H : Type} : List (Lit × DataW H) → Nat
  | [] => 0
  | x :: r => uptoBulkEntry x + uptoBulkEntries r
def uptoBulkEntry {H : Type} : Lit × DataW H → Nat
  | (.string bytes, d) => bytes.length + uptoBulk d + 1
  | (_, d) => uptoBulk d + 1
 end
def uptoSmall : (H : Type) → List (DataW H) → Bool := fun _ ds => decide (uptoBulkAll ds ≤ 1048576)
def OpenSpec.upto (s : _root_.Go.ChangeSpec) : _root_.Go.OpenSpec := { _root_.Go.OpenSpec.ofChange s with cond := some uptoSmall }

/-- 'rentlaw2.PlansCheck', WHERE WHAT IT READS IS OF BULK AT MOST 1048576: true; the input reads as it did. -/
def plansCheckUptoRow : OpenClaim := { program := "ytnkdlkgannnfhaagreatdoor", sum := "cceadbc785f9eb2e1f75c5ba943d182a09669c033a416657d636a65873db58ef", func := "forecourt/rentlaw2.PlansCheck", spec := "plansCheck", inPlace := ["internal/bytealg.IndexByteString", "internal/bytealg.IndexString", "internal/bytealg.abigen_runtime_cmpstring"], unfollowed := true, recurses := true, named := ["unicode/utf8.first", "unicode/utf8.acceptRanges", "internal/bytealg.MaxLen"], plainKeys := false, apart := false, laid := [("unicode/utf8.acceptRanges", laid_unicode_utf8_acceptRanges), ("unicode/utf8.first", laid_unicode_utf8_first)], narrowed := true }
def PlansCheckUptoSaid : Prop := plansCheckUptoRow.holds Tryz.pinned (OpenSpec.upto plansCheckSpec)

/-- 'rentkeep2.CentsKept', WHERE WHAT IT READS IS OF BULK AT MOST 1048576: true; the input reads as it did. -/
def centsKeptUptoRow : OpenClaim := { program := "ytnkdlkgannnfhaagreatdoor", sum := "cceadbc785f9eb2e1f75c5ba943d182a09669c033a416657d636a65873db58ef", func := "forecourt/rentkeep2.CentsKept", spec := "centsKept", inPlace := ["internal/bytealg.IndexByteString", "internal/bytealg.IndexString"], unfollowed := true, recurses := true, named := ["unicode/utf8.first", "unicode/utf8.acceptRanges", "internal/bytealg.MaxLen"], plainKeys := false, apart := false, laid := [("unicode/utf8.acceptRanges", laid_unicode_utf8_acceptRanges), ("unicode/utf8.first", laid_unicode_utf8_first)], narrowed := true }
def CentsKeptUptoSaid : Prop := centsKeptUptoRow.holds Tryz.pinned (OpenSpec.upto centsKeptSpec)

/-- 'rentlaw2.RoundsLeast', WHERE WHAT IT READS IS OF BULK AT MOST 1048576: true; the input reads as it did. -/
def roundsLeastUptoRow : OpenClaim := { program := "ytnkdlkgannnfhaagreatdoor", sum := "cceadbc785f9eb2e1f75c5ba943d182a09669c033a416657d636a65873db58ef", func := "forecourt/rentlaw2.RoundsLeast", spec := "roundsLeast", inPlace := ["internal/bytealg.IndexByteString", "internal/bytealg.IndexString", "internal/bytealg.abigen_runtime_cmpstring"], unfollowed := true, recurses := true, named := ["unicode/utf8.first", "unicode/utf8.acceptRanges", "internal/bytealg.MaxLen"], plainKeys := false, apart := false, laid := [("unicode/utf8.acceptRanges", laid_unicode_utf8_acceptRanges), ("unicode/utf8.first", laid_unicode_utf8_first)], narrowed := true }
def RoundsLeastUptoSaid : Prop := roundsLeastUptoRow.holds Tryz.pinned (OpenSpec.upto roundsLeastSpec)

/-- 'rentlaw2.MarksApart', WHERE WHAT IT READS IS OF BULK AT MOST 1048576: true; the input reads as it did. -/
def marksApartUptoRow : OpenClaim := { program := "ytnkdlkgannnfhaagreatdoor", sum := "cceadbc785f9eb2e1f75c5ba943d182a09669c033a416657d636a65873db58ef", func := "forecourt/rentlaw2.MarksApart", spec := "marksApart", inPlace := ["internal/bytealg.abigen_runtime_cmpstring", "internal/bytealg.IndexByteString", "internal/bytealg.IndexString"], unfollowed := true, recurses := true, named := ["unicode/utf8.first", "unicode/utf8.acceptRanges", "internal/bytealg.MaxLen"], plainKeys := false, apart := false, laid := [("unicode/utf8.acceptRanges", laid_unicode_utf8_acceptRanges), ("unicode/utf8.first", laid_unicode_utf8_first)], narrowed := true }
def MarksApartUptoSaid : Prop := marksApartUptoRow.holds Tryz.pinned (OpenSpec.upto marksApartSpec)

/-- 'rentlaw2.RoundsCost', WHERE WHAT IT READS IS OF BULK AT MOST 1048576: true; the input reads as it did. -/
def roundsCostUptoRow : OpenClaim := { program := "ytnkdlkgannnfhaagreatdoor", sum := "cceadbc785f9eb2e1f75c5ba943d182a09669c033a416657d636a65873db58ef", func := "forecourt/rentlaw2.RoundsCost", spec := "roundsCost", inPlace := ["internal/bytealg.IndexByteString", "internal/bytealg.IndexString", "internal/bytealg.abigen_runtime_cmpstring"], unfollowed := true, recurses := true, named := ["unicode/utf8.first", "unicode/utf8.acceptRanges", "internal/bytealg.MaxLen"], plainKeys := false, apart := false, laid := [("unicode/utf8.acceptRanges", laid_unicode_utf8_acceptRanges), ("unicode/utf8.first", laid_unicode_utf8_first)], narrowed := true }
def RoundsCostUptoSaid : Prop := roundsCostUptoRow.holds Tryz.pinned (OpenSpec.upto roundsCostSpec)

/-- 'rentlaw2.MarksMatch', WHERE WHAT IT READS IS OF BULK AT MOST 1048576: true; the input reads as it did. -/
def marksMatchUptoRow : OpenClaim := { program := "ytnkdlkgannnfhaagreatdoor", sum := "cceadbc785f9eb2e1f75c5ba943d182a09669c033a416657d636a65873db58ef", func := "forecourt/rentlaw2.MarksMatch", spec := "marksMatch", inPlace := ["internal/bytealg.abigen_runtime_cmpstring", "internal/bytealg.IndexByteString", "internal/bytealg.IndexString"], unfollowed := true, recurses := true, named := ["unicode/utf8.first", "unicode/utf8.acceptRanges", "internal/bytealg.MaxLen"], plainKeys := false, apart := false, laid := [("unicode/utf8.acceptRanges", laid_unicode_utf8_acceptRanges), ("unicode/utf8.first", laid_unicode_utf8_first)], narrowed := true }
def MarksMatchUptoSaid : Prop := marksMatchUptoRow.holds Tryz.pinned (OpenSpec.upto marksMatchSpec)

/-- 'rentlaw2.ReportsTrace', WHERE WHAT IT READS IS OF BULK AT MOST 1048576: true; the input reads as it did. -/
def reportsTraceUptoRow : OpenClaim := { program := "ytnkdlkgannnfhaagreatdoor", sum := "cceadbc785f9eb2e1f75c5ba943d182a09669c033a416657d636a65873db58ef", func := "forecourt/rentlaw2.ReportsTrace", spec := "reportsTrace", inPlace := ["internal/bytealg.abigen_runtime_cmpstring", "internal/bytealg.IndexByteString", "internal/bytealg.IndexString"], unfollowed := true, recurses := true, named := ["unicode/utf8.first", "unicode/utf8.acceptRanges", "internal/bytealg.MaxLen"], plainKeys := false, apart := false, laid := [("unicode/utf8.acceptRanges", laid_unicode_utf8_acceptRanges), ("unicode/utf8.first", laid_unicode_utf8_first)], narrowed := true }
def ReportsTraceUptoSaid : Prop := reportsTraceUptoRow.holds Tryz.pinned (OpenSpec.upto reportsTraceSpec)

/-- 'rentlaw2.PricesBound', WHERE WHAT IT READS IS OF BULK AT MOST 1048576: true; the input reads as it did. -/
def pricesBoundUptoRow : OpenClaim := { program := "ytnkdlkgannnfhaagreatdoor", sum := "cceadbc785f9eb2e1f75c5ba943d182a09669c033a416657d636a65873db58ef", func := "forecourt/rentlaw2.PricesBound", spec := "pricesBound", inPlace := ["internal/bytealg.IndexByteString", "internal/bytealg.IndexString", "internal/bytealg.abigen_runtime_cmpstring"], unfollowed := true, recurses := true, named := ["unicode/utf8.first", "unicode/utf8.acceptRanges", "internal/bytealg.MaxLen"], plainKeys := false, apart := false, laid := [("unicode/utf8.acceptRanges", laid_unicode_utf8_acceptRanges), ("unicode/utf8.first", laid_unicode_utf8_first)], narrowed := true }
def PricesBoundUptoSaid : Prop := pricesBoundUptoRow.holds Tryz.pinned (OpenSpec.upto pricesBoundSpec)

/-- 'rentlaw2.MarksChange', WHERE WHAT IT READS IS OF BULK AT MOST 1048576: true; the input reads as it did. -/
def marksChangeUptoRow : OpenClaim := { program := "ytnkdlkgannnfhaagreatdoor", sum := "cceadbc785f9eb2e1f75c5ba943d182a09669c033a416657d636a65873db58ef", func := "forecourt/rentlaw2.MarksChange", spec := "marksChange", inPlace := ["internal/bytealg.abigen_runtime_cmpstring", "internal/bytealg.IndexByteString", "internal/bytealg.IndexString"], unfollowed := true, recurses := true, named := ["unicode/utf8.first", "unicode/utf8.acceptRanges", "internal/bytealg.MaxLen"], plainKeys := false, apart := false, laid := [("unicode/utf8.acceptRanges", laid_unicode_utf8_acceptRanges), ("unicode/utf8.first", laid_unicode_utf8_first)], narrowed := true }
def MarksChangeUptoSaid : Prop := marksChangeUptoRow.holds Tryz.pinned (OpenSpec.upto marksChangeSpec)

/-- 'rentlaw2.BlamesFall', WHERE WHAT IT READS IS OF BULK AT MOST 1048576: true; the input reads as it did. -/
def blamesFallUptoRow : OpenClaim := { program := "ytnkdlkgannnfhaagreatdoor", sum := "cceadbc785f9eb2e1f75c5ba943d182a09669c033a416657d636a65873db58ef", func := "forecourt/rentlaw2.BlamesFall", spec := "blamesFall", inPlace := ["internal/bytealg.IndexByteString", "internal/bytealg.IndexString", "internal/bytealg.abigen_runtime_cmpstring"], unfollowed := true, recurses := true, named := ["unicode/utf8.first", "unicode/utf8.acceptRanges", "internal/bytealg.MaxLen"], plainKeys := false, apart := false, laid := [("unicode/utf8.acceptRanges", laid_unicode_utf8_acceptRanges), ("unicode/utf8.first", laid_unicode_utf8_first)], narrowed := true }
def BlamesFallUptoSaid : Prop := blamesFallUptoRow.holds Tryz.pinned (OpenSpec.upto blamesFallSpec)

/-- 'rentlaw2.RepairsCost', WHERE WHAT IT READS IS OF BULK AT MOST 1048576: true; the input reads as it did. -/
def repairsCostUptoRow : OpenClaim := { program := "ytnkdlkgannnfhaagreatdoor", sum := "cceadbc785f9eb2e1f75c5ba943d182a09669c033a416657d636a65873db58ef", func := "forecourt/rentlaw2.RepairsCost", spec := "repairsCost", inPlace := ["internal/bytealg.abigen_runtime_cmpstring", "internal/bytealg.IndexByteString", "internal/bytealg.IndexString"], unfollowed := true, recurses := true, named := ["unicode/utf8.first", "unicode/utf8.acceptRanges", "internal/bytealg.MaxLen"], plainKeys := false, apart := false, laid := [("unicode/utf8.acceptRanges", laid_unicode_utf8_acceptRanges), ("unicode/utf8.first", laid_unicode_utf8_first)], narrowed := true }
def RepairsCostUptoSaid : Prop := repairsCostUptoRow.holds Tryz.pinned (OpenSpec.upto repairsCostSpec)

/-- 'rentlaw2.RepairsGroup', WHERE WHAT IT READS IS OF BULK AT MOST 1048576: true; the input reads as it did. -/
def repairsGroupUptoRow : OpenClaim := { program := "ytnkdlkgannnfhaagreatdoor", sum := "cceadbc785f9eb2e1f75c5ba943d182a09669c033a416657d636a65873db58ef", func := "forecourt/rentlaw2.RepairsGroup", spec := "repairsGroup", inPlace := ["internal/bytealg.abigen_runtime_cmpstring", "internal/bytealg.IndexByteString", "internal/bytealg.IndexString"], unfollowed := true, recurses := true, named := ["unicode/utf8.first", "unicode/utf8.acceptRanges", "internal/bytealg.MaxLen"], plainKeys := false, apart := false, laid := [("unicode/utf8.acceptRanges", laid_unicode_utf8_acceptRanges), ("unicode/utf8.first", laid_unicode_utf8_first)], narrowed := true }
def RepairsGroupUptoSaid : Prop := repairsGroupUptoRow.holds Tryz.pinned (OpenSpec.upto repairsGroupSpec)

/-- 'rentkeep2.RoundsAreShortest', WHERE WHAT IT READS IS OF BULK AT MOST 1048576: true; the input reads as it did. -/
def roundsAreShortestUptoRow : OpenClaim := { program := "ytnkdlkgannnfhaagreatdoor", sum := "cceadbc785f9eb2e1f75c5ba943d182a09669c033a416657d636a65873db58ef", func := "forecourt/rentkeep2.RoundsAreShortest", spec := "roundsAreShortest", inPlace := ["internal/bytealg.IndexByteString", "internal/bytealg.IndexString", "internal/bytealg.abigen_runtime_cmpstring"], unfollowed := true, recurses := true, named := ["unicode/utf8.first", "unicode/utf8.acceptRanges", "internal/bytealg.MaxLen"], plainKeys := false, apart := false, laid := [("unicode/utf8.acceptRanges", laid_unicode_utf8_acceptRanges), ("unicode/utf8.first", laid_unicode_utf8_first)], narrowed := true }
def RoundsAreShortestUptoSaid : Prop := roundsAreShortestUptoRow.holds Tryz.pinned (OpenSpec.upto roundsAreShortestSpec)

end Rows
end Go.Proofs.YtnkdlkgannnfhaaGreatDoor
