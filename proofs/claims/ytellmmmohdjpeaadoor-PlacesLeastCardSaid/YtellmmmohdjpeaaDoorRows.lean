/-
  NARROWER THAN 'FOR EVERY INPUT', by the rows' own cells (each row's printed sentence says how): ChargesBilled: laid · PlansLeast: laid · CentsSplit: laid · PricesProve: laid · ServicesDue: laid · PassagesDouble: laid · PlacesLeast: laid · PlacesCheck: laid · PassagesMerge: laid · MarkChecks: laid.
  DERIVED. THE GIVEN ROWS OF THIS SEAT. 10 by the template 'for every input the law returns true; each argument reads behind the call as it read before'; 0 by the template 'total and deterministic' (their statements: YtellmmmohdjpeaaDoorTotals.lean).
  GIVEN WITH THE SEED: the statements are not yours to turn. If you find one false, say at which input.
  Laid BY PROGRAM, IN A SANDBOX (cutbox-rows.mjs): the forced cells as the released guide's own fill.sh prints them over the translation 94fa09f2cdd12a7c… (all of the seat's roots in one cut). By AI agents, Wed Nov 11 2026. No macro, syntax, notation, axiom, sorry.
-/
import Derived.Test.YtellmmmohdjpeaaDoorChecked
import GoSem.PinnedTables
import GoSem.Claim
import GoSem.ClaimJoined
import GoSem.ClaimMapViews
import Derived.JoinedTies
import Derived.KernelRfl
namespace Go.Proofs.YtellmmmohdjpeaaDoor
/- THE CELL 'sum', in the pinned program and in every row, IS THE sha256 OF THE DUMP (.gsa) THAT YtellmmmohdjpeaaDoorProg.lean LOADS. Nothing in Lean hashes anything: it is a label: what it is worth is what the hold of that sum in a sandbox is worth. -/
noncomputable def Tryd.pinned : Pinned := { name := "ytellmmmohdjpeaadoor", sum := "94fa09f2cdd12a7c81548d1170576665466456593e1c7dad75e206f0552a4e45", checked := Tryd.checked }
namespace Rows
def none {H : Type} : Left H := { results := [], args := [] }

/- WHAT THE LISTED PACKAGE-LEVEL VARIABLES READ AS WHEN THE CALL BEGINS. Each datum BY PROGRAM (the guide's laid-datum.mjs) off the statement by which the dump's own 'gosem.cut.vars' lays the variable. In a bare row this is a premise. The card (YtellmmmohdjpeaaDoorCards.lean) ties it to the program's text. -/
def laid_unicode_utf8_acceptRanges {H : Type} : DataW H := .agg [.agg [.lit (.int .u8 128), .lit (.int .u8 191)], .agg [.lit (.int .u8 160), .lit (.int .u8 191)], .agg [.lit (.int .u8 128), .lit (.int .u8 159)], .agg [.lit (.int .u8 144), .lit (.int .u8 191)], .agg [.lit (.int .u8 128), .lit (.int .u8 143)], .agg [.lit (.int .u8 0), .lit (.int .u8 0)], .agg [.lit (.int .u8 0), .lit (.int .u8 0)], .agg [.lit (.int .u8 0), .lit (.int .u8 0)], .agg [.lit (.int .u8 0), .lit (.int .u8 0)], .agg [.lit (.int .u8 0), .lit (.int .u8 0)], .agg [.lit (.int .u8 0), .lit (.int .u8 0)], .agg [.lit (.int .u8 0), .lit (.int .u8 0)], .agg [.lit (.int .u8 0), .lit (.int .u8 0)], .agg [.lit (.int .u8 0), .lit (.int .u8 0)], .agg [.lit (.int .u8 0), .lit (.int .u8 0)], .agg [.lit (.int .u8 0), .lit (.int .u8 0)]]
/-- One of Go's own tables, pinned by name: the form's constant. -/
def laid_unicode_utf8_first : DataW Unit := Go.Pinned.utf8First

/-- 'rentlaw2.ChargesBilled': WHATEVER THE INPUT: true; the input reads as it did. -/
def chargesBilledSpec : ChangeSpec := { name := "chargesBilled", fn := fun _ => fun
  | [d] => { results := [.lit (.bool true)], args := [d] }
  | _ => none }
def chargesBilledRow : OpenClaim := { program := "ytellmmmohdjpeaadoor", sum := "94fa09f2cdd12a7c81548d1170576665466456593e1c7dad75e206f0552a4e45", func := "forecourt/rentlaw2.ChargesBilled", spec := "chargesBilled", inPlace := ["internal/bytealg.IndexByteString", "internal/bytealg.IndexString"], unfollowed := true, recurses := true, named := ["unicode/utf8.first", "unicode/utf8.acceptRanges", "internal/bytealg.MaxLen"], plainKeys := false, apart := false, laid := [("unicode/utf8.acceptRanges", laid_unicode_utf8_acceptRanges), ("unicode/utf8.first", laid_unicode_utf8_first)] }
def ChargesBilledSaid : Prop := chargesBilledRow.holds Tryd.pinned (OpenSpec.ofChange chargesBilledSpec)

/-- ITS FALSE NEIGHBOUR: 'it returns false'. Refute it at one input. -/
def chargesBilledWrong : ChangeSpec := { name := "chargesBilled", fn := fun _ => fun
  | [d] => { results := [.lit (.bool false)], args := [d] }
  | _ => none }
def ChargesBilledWrongFalsely : Prop := chargesBilledRow.holds Tryd.pinned (OpenSpec.ofChange chargesBilledWrong)

/-- 'rentlaw2.PlansLeast': WHATEVER THE INPUT: true; the input reads as it did. -/
def plansLeastSpec : ChangeSpec := { name := "plansLeast", fn := fun _ => fun
  | [d] => { results := [.lit (.bool true)], args := [d] }
  | _ => none }
def plansLeastRow : OpenClaim := { program := "ytellmmmohdjpeaadoor", sum := "94fa09f2cdd12a7c81548d1170576665466456593e1c7dad75e206f0552a4e45", func := "forecourt/rentlaw2.PlansLeast", spec := "plansLeast", inPlace := ["internal/bytealg.IndexByteString", "internal/bytealg.IndexString"], unfollowed := true, recurses := true, named := ["unicode/utf8.first", "unicode/utf8.acceptRanges", "internal/bytealg.MaxLen"], plainKeys := false, apart := false, laid := [("unicode/utf8.acceptRanges", laid_unicode_utf8_acceptRanges), ("unicode/utf8.first", laid_unicode_utf8_first)] }
def PlansLeastSaid : Prop := plansLeastRow.holds Tryd.pinned (OpenSpec.ofChange plansLeastSpec)

/-- ITS FALSE NEIGHBOUR: 'it returns false'. Refute it at one input. -/
def plansLeastWrong : ChangeSpec := { name := "plansLeast", fn := fun _ => fun
  | [d] => { results := [.lit (.bool false)], args := [d] }
  | _ => none }
def PlansLeastWrongFalsely : Prop := plansLeastRow.holds Tryd.pinned (OpenSpec.ofChange plansLeastWrong)

/-- 'rentlaw2.CentsSplit': WHATEVER THE INPUT: true; the input reads as it did. -/
def centsSplitSpec : ChangeSpec := { name := "centsSplit", fn := fun _ => fun
  | [d] => { results := [.lit (.bool true)], args := [d] }
  | _ => none }
def centsSplitRow : OpenClaim := { program := "ytellmmmohdjpeaadoor", sum := "94fa09f2cdd12a7c81548d1170576665466456593e1c7dad75e206f0552a4e45", func := "forecourt/rentlaw2.CentsSplit", spec := "centsSplit", inPlace := ["internal/bytealg.IndexByteString", "internal/bytealg.IndexString"], unfollowed := true, recurses := true, named := ["unicode/utf8.first", "unicode/utf8.acceptRanges", "internal/bytealg.MaxLen"], plainKeys := false, apart := false, laid := [("unicode/utf8.acceptRanges", laid_unicode_utf8_acceptRanges), ("unicode/utf8.first", laid_unicode_utf8_first)] }
def CentsSplitSaid : Prop := centsSplitRow.holds Tryd.pinned (OpenSpec.ofChange centsSplitSpec)

/-- ITS FALSE NEIGHBOUR: 'it returns false'. Refute it at one input. -/
def centsSplitWrong : ChangeSpec := { name := "centsSplit", fn := fun _ => fun
  | [d] => { results := [.lit (.bool false)], args := [d] }
  | _ => none }
def CentsSplitWrongFalsely : Prop := centsSplitRow.holds Tryd.pinned (OpenSpec.ofChange centsSplitWrong)

/-- 'rentlaw2.PricesProve': WHATEVER THE INPUT: true; the input reads as it did. -/
def pricesProveSpec : ChangeSpec := { name := "pricesProve", fn := fun _ => fun
  | [d] => { results := [.lit (.bool true)], args := [d] }
  | _ => none }
def pricesProveRow : OpenClaim := { program := "ytellmmmohdjpeaadoor", sum := "94fa09f2cdd12a7c81548d1170576665466456593e1c7dad75e206f0552a4e45", func := "forecourt/rentlaw2.PricesProve", spec := "pricesProve", inPlace := ["internal/bytealg.IndexByteString", "internal/bytealg.IndexString"], unfollowed := true, recurses := true, named := ["unicode/utf8.first", "unicode/utf8.acceptRanges", "internal/bytealg.MaxLen"], plainKeys := false, apart := false, laid := [("unicode/utf8.acceptRanges", laid_unicode_utf8_acceptRanges), ("unicode/utf8.first", laid_unicode_utf8_first)] }
def PricesProveSaid : Prop := pricesProveRow.holds Tryd.pinned (OpenSpec.ofChange pricesProveSpec)

/-- ITS FALSE NEIGHBOUR: 'it returns false'. Refute it at one input. -/
def pricesProveWrong : ChangeSpec := { name := "pricesProve", fn := fun _ => fun
  | [d] => { results := [.lit (.bool false)], args := [d] }
  | _ => none }
def PricesProveWrongFalsely : Prop := pricesProveRow.holds Tryd.pinned (OpenSpec.ofChange pricesProveWrong)

/-- 'rentlaw2.ServicesDue': WHATEVER THE INPUT: true; the input reads as it did. -/
def servicesDueSpec : ChangeSpec := { name := "servicesDue", fn := fun _ => fun
  | [d] => { results := [.lit (.bool true)], args := [d] }
  | _ => none }
def servicesDueRow : OpenClaim := { program := "ytellmmmohdjpeaadoor", sum := "94fa09f2cdd12a7c81548d1170576665466456593e1c7dad75e206f0552a4e45", func := "forecourt/rentlaw2.ServicesDue", spec := "servicesDue", inPlace := ["internal/bytealg.IndexByteString", "internal/bytealg.IndexString"], named := ["unicode/utf8.first", "unicode/utf8.acceptRanges", "internal/bytealg.MaxLen"], plainKeys := false, apart := false, laid := [("unicode/utf8.acceptRanges", laid_unicode_utf8_acceptRanges), ("unicode/utf8.first", laid_unicode_utf8_first)] }
def ServicesDueSaid : Prop := servicesDueRow.holds Tryd.pinned (OpenSpec.ofChange servicesDueSpec)

/-- ITS FALSE NEIGHBOUR: 'it returns false'. Refute it at one input. -/
def servicesDueWrong : ChangeSpec := { name := "servicesDue", fn := fun _ => fun
  | [d] => { results := [.lit (.bool false)], args := [d] }
  | _ => none }
def ServicesDueWrongFalsely : Prop := servicesDueRow.holds Tryd.pinned (OpenSpec.ofChange servicesDueWrong)

/-- 'rentlaw2.PassagesDouble': WHATEVER THE INPUT: true; the input reads as it did. -/
def passagesDoubleSpec : ChangeSpec := { name := "passagesDouble", fn := fun _ => fun
  | [d] => { results := [.lit (.bool true)], args := [d] }
  | _ => none }
def passagesDoubleRow : OpenClaim := { program := "ytellmmmohdjpeaadoor", sum := "94fa09f2cdd12a7c81548d1170576665466456593e1c7dad75e206f0552a4e45", func := "forecourt/rentlaw2.PassagesDouble", spec := "passagesDouble", inPlace := ["internal/bytealg.IndexByteString", "internal/bytealg.IndexString"], unfollowed := true, recurses := true, named := ["unicode/utf8.first", "unicode/utf8.acceptRanges", "internal/bytealg.MaxLen"], plainKeys := false, apart := false, laid := [("unicode/utf8.acceptRanges", laid_unicode_utf8_acceptRanges), ("unicode/utf8.first", laid_unicode_utf8_first)] }
def PassagesDoubleSaid : Prop := passagesDoubleRow.holds Tryd.pinned (OpenSpec.ofChange passagesDoubleSpec)

/-- ITS FALSE NEIGHBOUR: 'it returns false'. Refute it at one input. -/
def passagesDoubleWrong : ChangeSpec := { name := "passagesDouble", fn := fun _ => fun
  | [d] => { results := [.lit (.bool false)], args := [d] }
  | _ => none }
def PassagesDoubleWrongFalsely : Prop := passagesDoubleRow.holds Tryd.pinned (OpenSpec.ofChange passagesDoubleWrong)

/-- 'rentlaw2.PlacesLeast': WHATEVER THE INPUT: true; the input reads as it did. -/
def placesLeastSpec : ChangeSpec := { name := "placesLeast", fn := fun _ => fun
  | [d] => { results := [.lit (.bool true)], args := [d] }
  | _ => none }
def placesLeastRow : OpenClaim := { program := "ytellmmmohdjpeaadoor", sum := "94fa09f2cdd12a7c81548d1170576665466456593e1c7dad75e206f0552a4e45", func := "forecourt/rentlaw2.PlacesLeast", spec := "placesLeast", inPlace := ["internal/bytealg.IndexByteString", "internal/bytealg.IndexString"], unfollowed := true, recurses := true, named := ["unicode/utf8.first", "unicode/utf8.acceptRanges", "internal/bytealg.MaxLen"], plainKeys := false, apart := false, laid := [("unicode/utf8.acceptRanges", laid_unicode_utf8_acceptRanges), ("unicode/utf8.first", laid_unicode_utf8_first)] }
def PlacesLeastSaid : Prop := placesLeastRow.holds Tryd.pinned (OpenSpec.ofChange placesLeastSpec)

/-- ITS FALSE NEIGHBOUR: 'it returns false'. Refute it at one input. -/
def placesLeastWrong : ChangeSpec := { name := "placesLeast", fn := fun _ => fun
  | [d] => { results := [.lit (.bool false)], args := [d] }
  | _ => none }
def PlacesLeastWrongFalsely : Prop := placesLeastRow.holds Tryd.pinned (OpenSpec.ofChange placesLeastWrong)

/-- 'rentlaw2.PlacesCheck': WHATEVER THE INPUT: true; the input reads as it did. -/
def placesCheckSpec : ChangeSpec := { name := "placesCheck", fn := fun _ => fun
  | [d] => { results := [.lit (.bool true)], args := [d] }
  | _ => none }
def placesCheckRow : OpenClaim := { program := "ytellmmmohdjpeaadoor", sum := "94fa09f2cdd12a7c81548d1170576665466456593e1c7dad75e206f0552a4e45", func := "forecourt/rentlaw2.PlacesCheck", spec := "placesCheck", inPlace := ["internal/bytealg.IndexByteString", "internal/bytealg.IndexString"], unfollowed := true, recurses := true, named := ["unicode/utf8.first", "unicode/utf8.acceptRanges", "internal/bytealg.MaxLen"], plainKeys := false, apart := false, laid := [("unicode/utf8.acceptRanges", laid_unicode_utf8_acceptRanges), ("unicode/utf8.first", laid_unicode_utf8_first)] }
def PlacesCheckSaid : Prop := placesCheckRow.holds Tryd.pinned (OpenSpec.ofChange placesCheckSpec)

/-- ITS FALSE NEIGHBOUR: 'it returns false'. Refute it at one input. -/
def placesCheckWrong : ChangeSpec := { name := "placesCheck", fn := fun _ => fun
  | [d] => { results := [.lit (.bool false)], args := [d] }
  | _ => none }
def PlacesCheckWrongFalsely : Prop := placesCheckRow.holds Tryd.pinned (OpenSpec.ofChange placesCheckWrong)

/-- 'rentlaw2.PassagesMerge': WHATEVER THE INPUT: true; the input reads as it did. -/
def passagesMergeSpec : ChangeSpec := { name := "passagesMerge", fn := fun _ => fun
  | [d] => { results := [.lit (.bool true)], args := [d] }
  | _ => none }
def passagesMergeRow : OpenClaim := { program := "ytellmmmohdjpeaadoor", sum := "94fa09f2cdd12a7c81548d1170576665466456593e1c7dad75e206f0552a4e45", func := "forecourt/rentlaw2.PassagesMerge", spec := "passagesMerge", inPlace := ["internal/bytealg.IndexByteString", "internal/bytealg.IndexString"], unfollowed := true, recurses := true, named := ["unicode/utf8.first", "unicode/utf8.acceptRanges", "internal/bytealg.MaxLen"], plainKeys := false, apart := false, laid := [("unicode/utf8.acceptRanges", laid_unicode_utf8_acceptRanges), ("unicode/utf8.first", laid_unicode_utf8_first)] }
def PassagesMergeSaid : Prop := passagesMergeRow.holds Tryd.pinned (OpenSpec.ofChange passagesMergeSpec)

/-- ITS FALSE NEIGHBOUR: 'it returns false'. Refute it at one input. -/
def passagesMergeWrong : ChangeSpec := { name := "passagesMerge", fn := fun _ => fun
  | [d] => { results := [.lit (.bool false)], args := [d] }
  | _ => none }
def PassagesMergeWrongFalsely : Prop := passagesMergeRow.holds Tryd.pinned (OpenSpec.ofChange passagesMergeWrong)

/-- 'rentlaw2.MarkChecks': WHATEVER THE INPUT: true; the input reads as it did. -/
def markChecksSpec : ChangeSpec := { name := "markChecks", fn := fun _ => fun
  | [d] => { results := [.lit (.bool true)], args := [d] }
  | _ => none }
def markChecksRow : OpenClaim := { program := "ytellmmmohdjpeaadoor", sum := "94fa09f2cdd12a7c81548d1170576665466456593e1c7dad75e206f0552a4e45", func := "forecourt/rentlaw2.MarkChecks", spec := "markChecks", inPlace := ["internal/bytealg.abigen_runtime_cmpstring", "internal/bytealg.IndexByteString", "internal/bytealg.IndexString"], unfollowed := true, recurses := true, named := ["unicode/utf8.first", "unicode/utf8.acceptRanges", "internal/bytealg.MaxLen"], plainKeys := false, apart := false, laid := [("unicode/utf8.acceptRanges", laid_unicode_utf8_acceptRanges), ("unicode/utf8.first", laid_unicode_utf8_first)] }
def MarkChecksSaid : Prop := markChecksRow.holds Tryd.pinned (OpenSpec.ofChange markChecksSpec)

/-- ITS FALSE NEIGHBOUR: 'it returns false'. Refute it at one input. -/
def markChecksWrong : ChangeSpec := { name := "markChecks", fn := fun _ => fun
  | [d] => { results := [.lit (.bool false)], args := [d] }
  | _ => none }
def MarkChecksWrongFalsely : Prop := markChecksRow.holds Tryd.pinned (OpenSpec.ofChange markChecksWrong)

/- THE SECOND FORM. 'bulk': how many values and letters a reading holds, each counted each time it is reached (what is shared counts as often as it is met; a slice's spare places count too). A statement '..UptoSaid' is the law's where the arguments, and the package variables that the reading takes, are together of bulk at most 1048576: NARROWER than '..Said'. Prove '..Said' where nothing that the law and all that it calls make is longer than what came in: it says more and counts as full. Else prove '..UptoSaid'. A law counts once. -/
mutual
def uptoBulk {H : Type} : DataW H → Nat
  | .lit (.string bytes) => bytes.length + 1
  | .lit _ => 1
  | .nil => 1
  | .ptr d => uptoBulk d + 1
  | .slice elems spare => uptoBulkAll elems + uptoBulkAll spare + 1
  | .agg parts => uptoBulkAll parts + 1
  | .iface _ d => uptoBulk d + 1
  | .map entries => uptoBulkEntries entries + 1
  | .held _ => 1
def uptoBulkAll {H : Type} : List (DataW H) → Nat
  | [] => 0
  | d :: r => uptoBulk d + uptoBulkAll r
def uptoBulkEntries {H : Type} : List (Lit × DataW H) → Nat
  | [] => 0
  | x :: r => uptoBulkEntry x + uptoBulkEntries r
def uptoBulkEntry {H : Type} : Lit × DataW H → Nat
  | (.string bytes, d) => bytes.length + uptoBulk d + 1
  | (_, d) => uptoBulk d + 1
 end
def uptoSmall : (H : Type) → List (DataW H) → Bool := fun _ ds => decide (uptoBulkAll ds ≤ 1048576)
def OpenSpec.upto (s : _root_.Go.ChangeSpec) : _root_.Go.OpenSpec := { _root_.Go.OpenSpec.ofChange s with cond := some uptoSmall }

/-- 'rentlaw2.ChargesBilled', WHERE WHAT IT READS IS OF BULK AT MOST 1048576: true; the input reads as it did. -/
def chargesBilledUptoRow : OpenClaim := { program := "ytellmmmohdjpeaadoor", sum := "94fa09f2cdd12a7c81548d1170576665466456593e1c7dad75e206f0552a4e45", func := "forecourt/rentlaw2.ChargesBilled", spec := "chargesBilled", inPlace := ["internal/bytealg.IndexByteString", "internal/bytealg.IndexString"], unfollowed := true, recurses := true, named := ["unicode/utf8.first", "unicode/utf8.acceptRanges", "internal/bytealg.MaxLen"], plainKeys := false, apart := false, laid := [("unicode/utf8.acceptRanges", laid_unicode_utf8_acceptRanges), ("unicode/utf8.first", laid_unicode_utf8_first)], narrowed := true }
def ChargesBilledUptoSaid : Prop := chargesBilledUptoRow.holds Tryd.pinned (OpenSpec.upto chargesBilledSpec)

/-- 'rentlaw2.PlansLeast', WHERE WHAT IT READS IS OF BULK AT MOST 1048576: true; the input reads as it did. -/
def plansLeastUptoRow : OpenClaim := { program := "ytellmmmohdjpeaadoor", sum := "94fa09f2cdd12a7c81548d1170576665466456593e1c7dad75e206f0552a4e45", func := "forecourt/rentlaw2.PlansLeast", spec := "plansLeast", inPlace := ["internal/bytealg.IndexByteString", "internal/bytealg.IndexString"], unfollowed := true, recurses := true, named := ["unicode/utf8.first", "unicode/utf8.acceptRanges", "internal/bytealg.MaxLen"], plainKeys := false, apart := false, laid := [("unicode/utf8.acceptRanges", laid_unicode_utf8_acceptRanges), ("unicode/utf8.first", laid_unicode_utf8_first)], narrowed := true }
def PlansLeastUptoSaid : Prop := plansLeastUptoRow.holds Tryd.pinned (OpenSpec.upto plansLeastSpec)

/-- 'rentlaw2.CentsSplit', WHERE WHAT IT READS IS OF BULK AT MOST 1048576: true; the input reads as it did. -/
def centsSplitUptoRow : OpenClaim := { program := "ytellmmmohdjpeaadoor", sum := "94fa09f2cdd12a7c81548d1170576665466456593e1c7dad75e206f0552a4e45", func := "forecourt/rentlaw2.CentsSplit", spec := "centsSplit", inPlace := ["internal/bytealg.IndexByteString", "internal/bytealg.IndexString"], unfollowed := true, recurses := true, named := ["unicode/utf8.first", "unicode/utf8.acceptRanges", "internal/bytealg.MaxLen"], plainKeys := false, apart := false, laid := [("unicode/utf8.acceptRanges", laid_unicode_utf8_acceptRanges), ("unicode/utf8.first", laid_unicode_utf8_first)], narrowed := true }
def CentsSplitUptoSaid : Prop := centsSplitUptoRow.holds Tryd.pinned (OpenSpec.upto centsSplitSpec)

/-- 'rentlaw2.PricesProve', WHERE WHAT IT READS IS OF BULK AT MOST 1048576: true; the input reads as it did. -/
def pricesProveUptoRow : OpenClaim := { program := "ytellmmmohdjpeaadoor", sum := "94fa09f2cdd12a7c81548d1170576665466456593e1c7dad75e206f0552a4e45", func := "forecourt/rentlaw2.PricesProve", spec := "pricesProve", inPlace := ["internal/bytealg.IndexByteString", "internal/bytealg.IndexString"], unfollowed := true, recurses := true, named := ["unicode/utf8.first", "unicode/utf8.acceptRanges", "internal/bytealg.MaxLen"], plainKeys := false, apart := false, laid := [("unicode/utf8.acceptRanges", laid_unicode_utf8_acceptRanges), ("unicode/utf8.first", laid_unicode_utf8_first)], narrowed := true }
def PricesProveUptoSaid : Prop := pricesProveUptoRow.holds Tryd.pinned (OpenSpec.upto pricesProveSpec)

/-- 'rentlaw2.ServicesDue', WHERE WHAT IT READS IS OF BULK AT MOST 1048576: true; the input reads as it did. -/
def servicesDueUptoRow : OpenClaim := { program := "ytellmmmohdjpeaadoor", sum := "94fa09f2cdd12a7c81548d1170576665466456593e1c7dad75e206f0552a4e45", func := "forecourt/rentlaw2.ServicesDue", spec := "servicesDue", inPlace := ["internal/bytealg.IndexByteString", "internal/bytealg.IndexString"], named := ["unicode/utf8.first", "unicode/utf8.acceptRanges", "internal/bytealg.MaxLen"], plainKeys := false, apart := false, laid := [("unicode/utf8.acceptRanges", laid_unicode_utf8_acceptRanges), ("unicode/utf8.first", laid_unicode_utf8_first)], narrowed := true }
def ServicesDueUptoSaid : Prop := servicesDueUptoRow.holds Tryd.pinned (OpenSpec.upto servicesDueSpec)

/-- 'rentlaw2.PassagesDouble', WHERE WHAT IT READS IS OF BULK AT MOST 1048576: true; the input reads as it did. -/
def passagesDoubleUptoRow : OpenClaim := { program := "ytellmmmohdjpeaadoor", sum := "94fa09f2cdd12a7c81548d1170576665466456593e1c7dad75e206f0552a4e45", func := "forecourt/rentlaw2.PassagesDouble", spec := "passagesDouble", inPlace := ["internal/bytealg.IndexByteString", "internal/bytealg.IndexString"], unfollowed := true, recurses := true, named := ["unicode/utf8.first", "unicode/utf8.acceptRanges", "internal/bytealg.MaxLen"], plainKeys := false, apart := false, laid := [("unicode/utf8.acceptRanges", laid_unicode_utf8_acceptRanges), ("unicode/utf8.first", laid_unicode_utf8_first)], narrowed := true }
def PassagesDoubleUptoSaid : Prop := passagesDoubleUptoRow.holds Tryd.pinned (OpenSpec.upto passagesDoubleSpec)

/-- 'rentlaw2.PlacesLeast', WHERE WHAT IT READS IS OF BULK AT MOST 1048576: true; the input reads as it did. -/
def placesLeastUptoRow : OpenClaim := { program := "ytellmmmohdjpeaadoor", sum := "94fa09f2cdd12a7c81548d1170576665466456593e1c7dad75e206f0552a4e45", func := "forecourt/rentlaw2.PlacesLeast", spec := "placesLeast", inPlace := ["internal/bytealg.IndexByteString", "internal/bytealg.IndexString"], unfollowed := true, recurses := true, named := ["unicode/utf8.first", "unicode/utf8.acceptRanges", "internal/bytealg.MaxLen"], plainKeys := false, apart := false, laid := [("unicode/utf8.acceptRanges", laid_unicode_utf8_acceptRanges), ("unicode/utf8.first", laid_unicode_utf8_first)], narrowed := true }
def PlacesLeastUptoSaid : Prop := placesLeastUptoRow.holds Tryd.pinned (OpenSpec.upto placesLeastSpec)

/-- 'rentlaw2.PlacesCheck', WHERE WHAT IT READS IS OF BULK AT MOST 1048576: true; the input reads as it did. -/
def placesCheckUptoRow : OpenClaim := { program := "ytellmmmohdjpeaadoor", sum := "94fa09f2cdd12a7c81548d1170576665466456593e1c7dad75e206f0552a4e45", func := "forecourt/rentlaw2.PlacesCheck", spec := "placesCheck", inPlace := ["internal/bytealg.IndexByteString", "internal/bytealg.IndexString"], unfollowed := true, recurses := true, named := ["unicode/utf8.first", "unicode/utf8.acceptRanges", "internal/bytealg.MaxLen"], plainKeys := false, apart := false, laid := [("unicode/utf8.acceptRanges", laid_unicode_utf8_acceptRanges), ("unicode/utf8.first", laid_unicode_utf8_first)], narrowed := true }
def PlacesCheckUptoSaid : Prop := placesCheckUptoRow.holds Tryd.pinned (OpenSpec.upto placesCheckSpec)

/-- 'rentlaw2.PassagesMerge', WHERE WHAT IT READS IS OF BULK AT MOST 1048576: true; the input reads as it did. -/
def passagesMergeUptoRow : OpenClaim := { program := "ytellmmmohdjpeaadoor", sum := "94fa09f2cdd12a7c81548d1170576665466456593e1c7dad75e206f0552a4e45", func := "forecourt/rentlaw2.PassagesMerge", spec := "passagesMerge", inPlace := ["internal/bytealg.IndexByteString", "internal/bytealg.IndexString"], unfollowed := true, recurses := true, named := ["unicode/utf8.first", "unicode/utf8.acceptRanges", "internal/bytealg.MaxLen"], plainKeys := false, apart := false, laid := [("unicode/utf8.acceptRanges", laid_unicode_utf8_acceptRanges), ("unicode/utf8.first", laid_unicode_utf8_first)], narrowed := true }
def PassagesMergeUptoSaid : Prop := passagesMergeUptoRow.holds Tryd.pinned (OpenSpec.upto passagesMergeSpec)

/-- 'rentlaw2.MarkChecks', WHERE WHAT IT READS IS OF BULK AT MOST 1048576: true; the input reads as it did. -/
def markChecksUptoRow : OpenClaim := { program := "ytellmmmohdjpeaadoor", sum := "94fa09f2cdd12a7c81548d1170576665466456593e1c7dad75e206f0552a4e45", func := "forecourt/rentlaw2.MarkChecks", spec := "markChecks", inPlace := ["internal/bytealg.abigen_runtime_cmpstring", "internal/bytealg.IndexByteString", "internal/bytealg.IndexString"], unfollowed := true, recurses := true, named := ["unicode/utf8.first", "unicode/utf8.acceptRanges", "internal/bytealg.MaxLen"], plainKeys := false, apart := false, laid := [("unicode/utf8.acceptRanges", laid_unicode_utf8_acceptRanges), ("unicode/utf8.first", laid_unicode_utf8_first)], narrowed := true }
def MarkChecksUptoSaid : Prop := markChecksUptoRow.holds Tryd.pinned (OpenSpec.upto markChecksSpec)

end Rows
end Go.Proofs.YtellmmmohdjpeaaDoor
