/-
  NARROWER THAN 'FOR EVERY INPUT', by the rows' own cells (each row's printed sentence says how): PlansCheck: laid · PricesBound: laid · PlansAreCheapest: laid.
  DERIVED. THE GIVEN ROWS OF THIS SEAT. 3 by the template 'for every input the law returns true; each argument reads behind the call as it read before'; 0 by the template 'total and deterministic' (their statements: YteehenjdddlnnaaGreatDoorTotals.lean).
  GIVEN WITH THE SEED: the statements are not yours to turn. If you find one false, say at which input.
  Laid BY PROGRAM, IN A SANDBOX (cutbox-rows.mjs): the forced cells as the released guide's own fill.sh prints them over the translation 5af7144ffd20a4e8… (all of the seat's roots in one cut). By AI agents, Wed Nov 11 2026. No macro, syntax, notation, axiom, sorry.
-/
import Derived.Test.YteehenjdddlnnaaGreatDoorChecked
import GoSem.PinnedTables
import GoSem.Claim
import GoSem.ClaimJoined
import GoSem.ClaimMapViews
import Derived.JoinedTies
import Derived.KernelRfl
namespace Go.Proofs.YteehenjdddlnnaaGreatDoor
/- THE CELL 'sum', in the pinned program and in every row, IS THE sha256 OF THE DUMP (.gsa) THAT YteehenjdddlnnaaGreatDoorProg.lean LOADS. Nothing in Lean hashes anything: it is a label: what it is worth is what the hold of that sum in a sandbox is worth. -/
noncomputable def Tryz.pinned : Pinned := { name := "yteehenjdddlnnaagreatdoor", sum := "5af7144ffd20a4e8b356a7c6d50e6facfc0480d0f0f4437d478ef0d8207c551f", checked := Tryz.checked }
namespace Rows
def none {H : Type} : Left H := { results := [], args := [] }

/- WHAT THE LISTED PACKAGE-LEVEL VARIABLES READ AS WHEN THE CALL BEGINS. Each datum BY PROGRAM (the guide's laid-datum.mjs) off the statement by which the dump's own 'gosem.cut.vars' lays the variable. In a bare row this is a premise. The card (YteehenjdddlnnaaGreatDoorCards.lean) ties it to the program's text. -/
def laid_unicode_utf8_acceptRanges {H : Type} : DataW H := .agg [.agg [.lit (.int .u8 128), .lit (.int .u8 191)], .agg [.lit (.int .u8 160), .lit (.int .u8 191)], .agg [.lit (.int .u8 128), .lit (.int .u8 159)], .agg [.lit (.int .u8 144), .lit (.int .u8 191)], .agg [.lit (.int .u8 128), .lit (.int .u8 143)], .agg [.lit (.int .u8 0), .lit (.int .u8 0)], .agg [.lit (.int .u8 0), .lit (.int .u8 0)], .agg [.lit (.int .u8 0), .lit (.int .u8 0)], .agg [.lit (.int .u8 0), .lit (.int .u8 0)], .agg [.lit (.int .u8 0), .lit (.int .u8 0)], .agg [.lit (.int .u8 0), .lit (.int .u8 0)], .agg [.lit (.int .u8 0), .lit (.int .u8 0)], .agg [.lit (.int .u8 0), .lit (.int .u8 0)], .agg [.lit (.int .u8 0), .lit (.int .u8 0)], .agg [.lit (.int .u8 0), .lit (.int .u8 0)], .agg [.lit (.int .u8 0), .lit (.int .u8 0)]]
/-- One of Go's own tables, pinned by name: the form's constant. -/
def laid_unicode_utf8_first : DataW Unit := Go.Pinned.utf8First

/-- 'rentlaw2.PlansCheck': WHATEVER THE INPUT: true; the input reads as it did. -/
def plansCheckSpec : ChangeSpec := { name := "plansCheck", fn := fun _ => fun
  | [d] => { results := [.lit (.bool true)], args := [d] }
  | _ => none }
def plansCheckRow : OpenClaim := { program := "yteehenjdddlnnaagreatdoor", sum := "5af7144ffd20a4e8b356a7c6d50e6facfc0480d0f0f4437d478ef0d8207c551f", func := "forecourt/rentlaw2.PlansCheck", spec := "plansCheck", inPlace := ["internal/bytealg.IndexByteString", "internal/bytealg.IndexString", "internal/bytealg.abigen_runtime_cmpstring"], unfollowed := true, recurses := true, named := ["unicode/utf8.first", "unicode/utf8.acceptRanges", "internal/bytealg.MaxLen"], plainKeys := false, apart := false, laid := [("unicode/utf8.acceptRanges", laid_unicode_utf8_acceptRanges), ("unicode/utf8.first", laid_unicode_utf8_first)] }
def PlansCheckSaid : Prop := plansCheckRow.holds Tryz.pinned (OpenSpec.ofChange plansCheckSpec)

/-- ITS FALSE NEIGHBOUR: 'it returns false'. Refute it at one input. -/
def plansCheckWrong : ChangeSpec := { name := "plansCheck", fn := fun _ => fun
  | [d] => { results := [.lit (.bool false)], args := [d] }
  | _ => none }
def PlansCheckWrongFalsely : Prop := plansCheckRow.holds Tryz.pinned (OpenSpec.ofChange plansCheckWrong)

/-- 'rentlaw2.PricesBound': WHATEVER THE INPUT: true; the input reads as it did. -/
def pricesBoundSpec : ChangeSpec := { name := "pricesBound", fn := fun _ => fun
  | [d] => { results := [.lit (.bool true)], args := [d] }
  | _ => none }
def pricesBoundRow : OpenClaim := { program := "yteehenjdddlnnaagreatdoor", sum := "5af7144ffd20a4e8b356a7c6d50e6facfc0480d0f0f4437d478ef0d8207c551f", func := "forecourt/rentlaw2.PricesBound", spec := "pricesBound", inPlace := ["internal/bytealg.IndexByteString", "internal/bytealg.IndexString", "internal/bytealg.abigen_runtime_cmpstring"], unfollowed := true, recurses := true, named := ["unicode/utf8.first", "unicode/utf8.acceptRanges", "internal/bytealg.MaxLen"], plainKeys := false, apart := false, laid := [("unicode/utf8.acceptRanges", laid_unicode_utf8_acceptRanges), ("unicode/utf8.first", laid_unicode_utf8_first)] }
def PricesBoundSaid : Prop := pricesBoundRow.holds Tryz.pinned (OpenSpec.ofChange pricesBoundSpec)

/-- ITS FALSE NEIGHBOUR: 'it returns false'. Refute it at one input. -/
def pricesBoundWrong : ChangeSpec := { name := "pricesBound", fn := fun _ => fun
  | [d] => { results := [.lit (.bool false)], args := [d] }
  | _ => none }
def PricesBoundWrongFalsely : Prop := pricesBoundRow.holds Tryz.pinned (OpenSpec.ofChange pricesBoundWrong)

/-- 'rentkeep2.PlansAreCheapest': WHATEVER THE INPUT: true; the input reads as it did. -/
def plansAreCheapestSpec : ChangeSpec := { name := "plansAreCheapest", fn := fun _ => fun
  | [d] => { results := [.lit (.bool true)], args := [d] }
  | _ => none }
def plansAreCheapestRow : OpenClaim := { program := "yteehenjdddlnnaagreatdoor", sum := "5af7144ffd20a4e8b356a7c6d50e6facfc0480d0f0f4437d478ef0d8207c551f", func := "forecourt/rentkeep2.PlansAreCheapest", spec := "plansAreCheapest", inPlace := ["internal/bytealg.IndexByteString", "internal/bytealg.IndexString", "internal/bytealg.abigen_runtime_cmpstring"], unfollowed := true, recurses := true, named := ["unicode/utf8.first", "unicode/utf8.acceptRanges", "internal/bytealg.MaxLen"], plainKeys := false, apart := false, laid := [("unicode/utf8.acceptRanges", laid_unicode_utf8_acceptRanges), ("unicode/utf8.first", laid_unicode_utf8_first)] }
def PlansAreCheapestSaid : Prop := plansAreCheapestRow.holds Tryz.pinned (OpenSpec.ofChange plansAreCheapestSpec)

/-- ITS FALSE NEIGHBOUR: 'it returns false'. Refute it at one input. -/
def plansAreCheapestWrong : ChangeSpec := { name := "plansAreCheapest", fn := fun _ => fun
  | [d] => { results := [.lit (.bool false)], args := [d] }
  | _ => none }
def PlansAreCheapestWrongFalsely : Prop := plansAreCheapestRow.holds Tryz.pinned (OpenSpec.ofChange plansAreCheapestWrong)

/- THE SECOND FORM. 'bulk': how many values and letters a reading holds, each counted each time it is reached (what is shared counts as often as it is met; a slice's spare places count too). A statement '..UptoSaid' is the law's where the arguments, and the package variables that the reading takes, are together of bulk at most 1048576: NARROWER than '..Said'. Prove '..Said' where nothing that the law and all that it calls make is longer than what came in: it says more and counts as full. Else prove '..UptoSaid'. A law counts once. -/
mutual
def uptoBulk {H : Type} : DataW H → Nat
  | .lit (.string bytes) => bytes.length + 1
  | .lit _ => 1
  | .nil => 1
  | .ptr d => uptoBulk d + 1
  | .slice elems spare => uptoBulkAll elems + uptoBulkAll spare + 1
  | .agg parts => uptoBulkAll parts + 1
  | .iface _ d => uptoBulk d + 1
  | .map entries => uptoBulkEntries entries + 1
  | .held _ => 1
def uptoBulkAll {H : Type} : List (DataW H) → Nat
  | [] => 0
  | d :: r => uptoBulk d + uptoBulkAll r
def uptoBulkEntries {H : Type} : List (Lit × DataW H) → Nat
  | [] => 0
  | x :: r => uptoBulkEntry x + uptoBulkEntries r
def uptoBulkEntry {H : Type} : Lit × DataW H → Nat
  | (.string bytes, d) => bytes.length + uptoBulk d + 1
  | (_, d) => uptoBulk d + 1
 end
def uptoSmall : (H : Type) → List (DataW H) → Bool := fun _ ds => decide (uptoBulkAll ds ≤ 1048576)
def OpenSpec.upto (s : _root_.Go.ChangeSpec) : _root_.Go.OpenSpec := { _root_.Go.OpenSpec.ofChange s with cond := some uptoSmall }

/-- 'rentlaw2.PlansCheck', WHERE WHAT IT READS IS OF BULK AT MOST 1048576: true; the input reads as it did. -/
def plansCheckUptoRow : OpenClaim := { program := "yteehenjdddlnnaagreatdoor", sum := "5af7144ffd20a4e8b356a7c6d50e6facfc0480d0f0f4437d478ef0d8207c551f", func := "forecourt/rentlaw2.PlansCheck", spec := "plansCheck", inPlace := ["internal/bytealg.IndexByteString", "internal/bytealg.IndexString", "internal/bytealg.abigen_runtime_cmpstring"], unfollowed := true, recurses := true, named := ["unicode/utf8.first", "unicode/utf8.acceptRanges", "internal/bytealg.MaxLen"], plainKeys := false, apart := false, laid := [("unicode/utf8.acceptRanges", laid_unicode_utf8_acceptRanges), ("unicode/utf8.first", laid_unicode_utf8_first)], narrowed := true }
def PlansCheckUptoSaid : Prop := plansCheckUptoRow.holds Tryz.pinned (OpenSpec.upto plansCheckSpec)

/-- 'rentlaw2.PricesBound', WHERE WHAT IT READS IS OF BULK AT MOST 1048576: true; the input reads as it did. -/
def pricesBoundUptoRow : OpenClaim := { program := "yteehenjdddlnnaagreatdoor", sum := "5af7144ffd20a4e8b356a7c6d50e6facfc0480d0f0f4437d478ef0d8207c551f", func := "forecourt/rentlaw2.PricesBound", spec := "pricesBound", inPlace := ["internal/bytealg.IndexByteString", "internal/bytealg.IndexString", "internal/bytealg.abigen_runtime_cmpstring"], unfollowed := true, recurses := true, named := ["unicode/utf8.first", "unicode/utf8.acceptRanges", "internal/bytealg.MaxLen"], plainKeys := false, apart := false, laid := [("unicode/utf8.acceptRanges", laid_unicode_utf8_acceptRanges), ("unicode/utf8.first", laid_unicode_utf8_first)], narrowed := true }
def PricesBoundUptoSaid : Prop := pricesBoundUptoRow.holds Tryz.pinned (OpenSpec.upto pricesBoundSpec)

/-- 'rentkeep2.PlansAreCheapest', WHERE WHAT IT READS IS OF BULK AT MOST 1048576: true; the input reads as it did. -/
def plansAreCheapestUptoRow : OpenClaim := { program := "yteehenjdddlnnaagreatdoor", sum := "5af7144ffd20a4e8b356a7c6d50e6facfc0480d0f0f4437d478ef0d8207c551f", func := "forecourt/rentkeep2.PlansAreCheapest", spec := "plansAreCheapest", inPlace := ["internal/bytealg.IndexByteString", "internal/bytealg.IndexString", "internal/bytealg.abigen_runtime_cmpstring"], unfollowed := true, recurses := true, named := ["unicode/utf8.first", "unicode/utf8.acceptRanges", "internal/bytealg.MaxLen"], plainKeys := false, apart := false, laid := [("unicode/utf8.acceptRanges", laid_unicode_utf8_acceptRanges), ("unicode/utf8.first", laid_unicode_utf8_first)], narrowed := true }
def PlansAreCheapestUptoSaid : Prop := plansAreCheapestUptoRow.holds Tryz.pinned (OpenSpec.upto plansAreCheapestSpec)

end Rows
end Go.Proofs.YteehenjdddlnnaaGreatDoor
