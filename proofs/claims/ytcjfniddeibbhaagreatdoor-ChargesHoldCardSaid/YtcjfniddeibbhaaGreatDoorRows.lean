/-
  NARROWER THAN 'FOR EVERY INPUT', by the rows' own cells (each row's printed sentence says how): NoticesName: laid · BlamesFall: laid · OwnersFound: laid · ClocksFound: laid · ChargesMade: laid · ClocksFollow: laid · ChargesHold: laid.
  DERIVED. THE GIVEN ROWS OF THIS SEAT. 7 by the template 'for every input the law returns true; each argument reads behind the call as it read before'; 0 by the template 'total and deterministic' (their statements: YtcjfniddeibbhaaGreatDoorTotals.lean).
  GIVEN WITH THE SEED: the statements are not yours to turn. If you find one false, say at which input.
  Laid BY PROGRAM, IN A SANDBOX (cutbox-rows.mjs): the forced cells as the released guide's own fill.sh prints them over the translation f99689a2e07c8cbe… (all of the seat's roots in one cut). By AI agents, Wed Nov 11 2026. No macro, syntax, notation, axiom, sorry.
-/
import Derived.Test.YtcjfniddeibbhaaGreatDoorChecked
import GoSem.PinnedTables
import GoSem.Claim
import GoSem.ClaimJoined
import GoSem.ClaimMapViews
import Derived.JoinedTies
import Derived.KernelRfl
namespace Go.Proofs.YtcjfniddeibbhaaGreatDoor
/- THE CELL 'sum', in the pinned program and in every row, IS THE sha256 OF THE DUMP (.gsa) THAT YtcjfniddeibbhaaGreatDoorProg.lean LOADS. Nothing in Lean hashes anything: it is a label: what it is worth is what the hold of that sum in a sandbox is worth. -/
noncomputable def Tryz.pinned : Pinned := { name := "ytcjfniddeibbhaagreatdoor", sum := "f99689a2e07c8cbedaf5ecd05047893f6fc4f5df050b66307ea8a19b1e552d44", checked := Tryz.checked }
namespace Rows
def none {H : Type} : Left H := { results := [], args := [] }

/- WHAT THE LISTED PACKAGE-LEVEL VARIABLES READ AS WHEN THE CALL BEGINS. Each datum BY PROGRAM (the guide's laid-datum.mjs) off the statement by which the dump's own 'gosem.cut.vars' lays the variable. In a bare row this is a premise. The card (YtcjfniddeibbhaaGreatDoorCards.lean) ties it to the program's text. -/
def laid_unicode_utf8_acceptRanges {H : Type} : DataW H := .agg [.agg [.lit (.int .u8 128), .lit (.int .u8 191)], .agg [.lit (.int .u8 160), .lit (.int .u8 191)], .agg [.lit (.int .u8 128), .lit (.int .u8 159)], .agg [.lit (.int .u8 144), .lit (.int .u8 191)], .agg [.lit (.int .u8 128), .lit (.int .u8 143)], .agg [.lit (.int .u8 0), .lit (.int .u8 0)], .agg [.lit (.int .u8 0), .lit (.int .u8 0)], .agg [.lit (.int .u8 0), .lit (.int .u8 0)], .agg [.lit (.int .u8 0), .lit (.int .u8 0)], .agg [.lit (.int .u8 0), .lit (.int .u8 0)], .agg [.lit (.int .u8 0), .lit (.int .u8 0)], .agg [.lit (.int .u8 0), .lit (.int .u8 0)], .agg [.lit (.int .u8 0), .lit (.int .u8 0)], .agg [.lit (.int .u8 0), .lit (.int .u8 0)], .agg [.lit (.int .u8 0), .lit (.int .u8 0)], .agg [.lit (.int .u8 0), .lit (.int .u8 0)]]
/-- One of Go's own tables, pinned by name: the form's constant. -/
def laid_unicode_utf8_first : DataW Unit := Go.Pinned.utf8First

/-- 'rentlaw2.NoticesName': WHATEVER THE INPUT: true; the input reads as it did. -/
def noticesNameSpec : ChangeSpec := { name := "noticesName", fn := fun _ => fun
  | [d] => { results := [.lit (.bool true)], args := [d] }
  | _ => none }
def noticesNameRow : OpenClaim := { program := "ytcjfniddeibbhaagreatdoor", sum := "f99689a2e07c8cbedaf5ecd05047893f6fc4f5df050b66307ea8a19b1e552d44", func := "forecourt/rentlaw2.NoticesName", spec := "noticesName", inPlace := ["internal/bytealg.abigen_runtime_cmpstring", "internal/bytealg.IndexByteString", "internal/bytealg.IndexString"], unfollowed := true, recurses := true, named := ["unicode/utf8.first", "unicode/utf8.acceptRanges", "internal/bytealg.MaxLen"], plainKeys := false, apart := false, laid := [("unicode/utf8.acceptRanges", laid_unicode_utf8_acceptRanges), ("unicode/utf8.first", laid_unicode_utf8_first)] }
def NoticesNameSaid : Prop := noticesNameRow.holds Tryz.pinned (OpenSpec.ofChange noticesNameSpec)

/-- ITS FALSE NEIGHBOUR: 'it returns false'. Refute it at one input. -/
def noticesNameWrong : ChangeSpec := { name := "noticesName", fn := fun _ => fun
  | [d] => { results := [.lit (.bool false)], args := [d] }
  | _ => none }
def NoticesNameWrongFalsely : Prop := noticesNameRow.holds Tryz.pinned (OpenSpec.ofChange noticesNameWrong)

/-- 'rentlaw2.BlamesFall': WHATEVER THE INPUT: true; the input reads as it did. -/
def blamesFallSpec : ChangeSpec := { name := "blamesFall", fn := fun _ => fun
  | [d] => { results := [.lit (.bool true)], args := [d] }
  | _ => none }
def blamesFallRow : OpenClaim := { program := "ytcjfniddeibbhaagreatdoor", sum := "f99689a2e07c8cbedaf5ecd05047893f6fc4f5df050b66307ea8a19b1e552d44", func := "forecourt/rentlaw2.BlamesFall", spec := "blamesFall", inPlace := ["internal/bytealg.IndexByteString", "internal/bytealg.IndexString", "internal/bytealg.abigen_runtime_cmpstring"], unfollowed := true, recurses := true, named := ["unicode/utf8.first", "unicode/utf8.acceptRanges", "internal/bytealg.MaxLen"], plainKeys := false, apart := false, laid := [("unicode/utf8.acceptRanges", laid_unicode_utf8_acceptRanges), ("unicode/utf8.first", laid_unicode_utf8_first)] }
def BlamesFallSaid : Prop := blamesFallRow.holds Tryz.pinned (OpenSpec.ofChange blamesFallSpec)

/-- ITS FALSE NEIGHBOUR: 'it returns false'. Refute it at one input. -/
def blamesFallWrong : ChangeSpec := { name := "blamesFall", fn := fun _ => fun
  | [d] => { results := [.lit (.bool false)], args := [d] }
  | _ => none }
def BlamesFallWrongFalsely : Prop := blamesFallRow.holds Tryz.pinned (OpenSpec.ofChange blamesFallWrong)

/-- 'rentlaw2.OwnersFound': WHATEVER THE INPUT: true; the input reads as it did. -/
def ownersFoundSpec : ChangeSpec := { name := "ownersFound", fn := fun _ => fun
  | [d] => { results := [.lit (.bool true)], args := [d] }
  | _ => none }
def ownersFoundRow : OpenClaim := { program := "ytcjfniddeibbhaagreatdoor", sum := "f99689a2e07c8cbedaf5ecd05047893f6fc4f5df050b66307ea8a19b1e552d44", func := "forecourt/rentlaw2.OwnersFound", spec := "ownersFound", inPlace := ["internal/bytealg.abigen_runtime_cmpstring", "internal/bytealg.IndexByteString", "internal/bytealg.IndexString"], unfollowed := true, recurses := true, named := ["unicode/utf8.first", "unicode/utf8.acceptRanges", "internal/bytealg.MaxLen"], plainKeys := false, apart := false, laid := [("unicode/utf8.acceptRanges", laid_unicode_utf8_acceptRanges), ("unicode/utf8.first", laid_unicode_utf8_first)] }
def OwnersFoundSaid : Prop := ownersFoundRow.holds Tryz.pinned (OpenSpec.ofChange ownersFoundSpec)

/-- ITS FALSE NEIGHBOUR: 'it returns false'. Refute it at one input. -/
def ownersFoundWrong : ChangeSpec := { name := "ownersFound", fn := fun _ => fun
  | [d] => { results := [.lit (.bool false)], args := [d] }
  | _ => none }
def OwnersFoundWrongFalsely : Prop := ownersFoundRow.holds Tryz.pinned (OpenSpec.ofChange ownersFoundWrong)

/-- 'rentlaw2.ClocksFound': WHATEVER THE INPUT: true; the input reads as it did. -/
def clocksFoundSpec : ChangeSpec := { name := "clocksFound", fn := fun _ => fun
  | [d] => { results := [.lit (.bool true)], args := [d] }
  | _ => none }
def clocksFoundRow : OpenClaim := { program := "ytcjfniddeibbhaagreatdoor", sum := "f99689a2e07c8cbedaf5ecd05047893f6fc4f5df050b66307ea8a19b1e552d44", func := "forecourt/rentlaw2.ClocksFound", spec := "clocksFound", inPlace := ["internal/bytealg.abigen_runtime_cmpstring", "internal/bytealg.IndexByteString", "internal/bytealg.IndexString"], unfollowed := true, recurses := true, named := ["unicode/utf8.first", "unicode/utf8.acceptRanges", "internal/bytealg.MaxLen"], plainKeys := false, apart := false, laid := [("unicode/utf8.acceptRanges", laid_unicode_utf8_acceptRanges), ("unicode/utf8.first", laid_unicode_utf8_first)] }
def ClocksFoundSaid : Prop := clocksFoundRow.holds Tryz.pinned (OpenSpec.ofChange clocksFoundSpec)

/-- ITS FALSE NEIGHBOUR: 'it returns false'. Refute it at one input. -/
def clocksFoundWrong : ChangeSpec := { name := "clocksFound", fn := fun _ => fun
  | [d] => { results := [.lit (.bool false)], args := [d] }
  | _ => none }
def ClocksFoundWrongFalsely : Prop := clocksFoundRow.holds Tryz.pinned (OpenSpec.ofChange clocksFoundWrong)

/-- 'rentlaw2.ChargesMade': WHATEVER THE INPUT: true; the input reads as it did. -/
def chargesMadeSpec : ChangeSpec := { name := "chargesMade", fn := fun _ => fun
  | [d] => { results := [.lit (.bool true)], args := [d] }
  | _ => none }
def chargesMadeRow : OpenClaim := { program := "ytcjfniddeibbhaagreatdoor", sum := "f99689a2e07c8cbedaf5ecd05047893f6fc4f5df050b66307ea8a19b1e552d44", func := "forecourt/rentlaw2.ChargesMade", spec := "chargesMade", inPlace := ["internal/bytealg.abigen_runtime_cmpstring", "internal/bytealg.IndexByteString", "internal/bytealg.IndexString"], unfollowed := true, recurses := true, named := ["unicode/utf8.first", "unicode/utf8.acceptRanges", "internal/bytealg.MaxLen"], plainKeys := false, apart := false, laid := [("unicode/utf8.acceptRanges", laid_unicode_utf8_acceptRanges), ("unicode/utf8.first", laid_unicode_utf8_first)] }
def ChargesMadeSaid : Prop := chargesMadeRow.holds Tryz.pinned (OpenSpec.ofChange chargesMadeSpec)

/-- ITS FALSE NEIGHBOUR: 'it returns false'. Refute it at one input. -/
def chargesMadeWrong : ChangeSpec := { name := "chargesMade", fn := fun _ => fun
  | [d] => { results := [.lit (.bool false)], args := [d] }
  | _ => none }
def ChargesMadeWrongFalsely : Prop := chargesMadeRow.holds Tryz.pinned (OpenSpec.ofChange chargesMadeWrong)

/-- 'rentkeep2.ClocksFollow': WHATEVER THE INPUT: true; the input reads as it did. -/
def clocksFollowSpec : ChangeSpec := { name := "clocksFollow", fn := fun _ => fun
  | [d] => { results := [.lit (.bool true)], args := [d] }
  | _ => none }
def clocksFollowRow : OpenClaim := { program := "ytcjfniddeibbhaagreatdoor", sum := "f99689a2e07c8cbedaf5ecd05047893f6fc4f5df050b66307ea8a19b1e552d44", func := "forecourt/rentkeep2.ClocksFollow", spec := "clocksFollow", inPlace := ["internal/bytealg.abigen_runtime_cmpstring", "internal/bytealg.IndexByteString", "internal/bytealg.IndexString"], unfollowed := true, recurses := true, named := ["unicode/utf8.first", "unicode/utf8.acceptRanges", "internal/bytealg.MaxLen"], plainKeys := false, apart := false, laid := [("unicode/utf8.acceptRanges", laid_unicode_utf8_acceptRanges), ("unicode/utf8.first", laid_unicode_utf8_first)] }
def ClocksFollowSaid : Prop := clocksFollowRow.holds Tryz.pinned (OpenSpec.ofChange clocksFollowSpec)

/-- ITS FALSE NEIGHBOUR: 'it returns false'. Refute it at one input. -/
def clocksFollowWrong : ChangeSpec := { name := "clocksFollow", fn := fun _ => fun
  | [d] => { results := [.lit (.bool false)], args := [d] }
  | _ => none }
def ClocksFollowWrongFalsely : Prop := clocksFollowRow.holds Tryz.pinned (OpenSpec.ofChange clocksFollowWrong)

/-- 'rentkeep2.ChargesHold': WHATEVER THE INPUT: true; the input reads as it did. -/
def chargesHoldSpec : ChangeSpec := { name := "chargesHold", fn := fun _ => fun
  | [d] => { results := [.lit (.bool true)], args := [d] }
  | _ => none }
def chargesHoldRow : OpenClaim := { program := "ytcjfniddeibbhaagreatdoor", sum := "f99689a2e07c8cbedaf5ecd05047893f6fc4f5df050b66307ea8a19b1e552d44", func := "forecourt/rentkeep2.ChargesHold", spec := "chargesHold", inPlace := ["internal/bytealg.abigen_runtime_cmpstring", "internal/bytealg.IndexByteString", "internal/bytealg.IndexString"], unfollowed := true, recurses := true, named := ["unicode/utf8.first", "unicode/utf8.acceptRanges", "internal/bytealg.MaxLen"], plainKeys := false, apart := false, laid := [("unicode/utf8.acceptRanges", laid_unicode_utf8_acceptRanges), ("unicode/utf8.first", laid_unicode_utf8_first)] }
def ChargesHoldSaid : Prop := chargesHoldRow.holds Tryz.pinned (OpenSpec.ofChange chargesHoldSpec)

/-- ITS FALSE NEIGHBOUR: 'it returns false'. Refute it at one input. -/
def chargesHoldWrong : ChangeSpec := { name := "chargesHold", fn := fun _ => fun
  | [d] => { results := [.lit (.bool false)], args := [d] }
  | _ => none }
def ChargesHoldWrongFalsely : Prop := chargesHoldRow.holds Tryz.pinned (OpenSpec.ofChange chargesHoldWrong)

/- THE SECOND FORM. 'bulk': how many values and letters a reading holds, each counted each time it is reached (what is shared counts as often as it is met; a slice's spare places count too). A statement '..UptoSaid' is the law's where the arguments, and the package variables that the reading takes, are together of bulk at most 1048576: NARROWER than '..Said'. Prove '..Said' where nothing that the law and all that it calls make is longer than what came in: it says more and counts as full. Else prove '..UptoSaid'. A law counts once. -/
mutual
def uptoBulk {H : Type} : DataW H → Nat
  | .lit (.string bytes) => bytes.length + 1
  | .lit _ => 1
  | .nil => 1
  | .ptr d => uptoBulk d + 1
  | .slice elems spare => uptoBulkAll elems + uptoBulkAll spare + 1
  | .agg parts => uptoBulkAll parts + 1
  | .iface _ d => uptoBulk d + 1
  | .map entries => uptoBulkEntries entries + 1
  | .held _ => 1
def uptoBulkAll {H : Type} : List (DataW H) → Nat
  | [] => 0
  | d :: r => uptoBulk d + uptoBulkAll r
def uptoBulkEntries {H : Type} : List (Lit × DataW H) → Nat
  | [] => 0
  | x :: r => uptoBulkEntry x + uptoBulkEntries r
def uptoBulkEntry {H : Type} : Lit × DataW H → Nat
  | (.string bytes, d) => bytes.length + uptoBulk d + 1
  | (_, d) => uptoBulk d + 1
 end
def uptoSmall : (H : Type) → List (DataW H) → Bool := fun _ ds => decide (uptoBulkAll ds ≤ 1048576)
def OpenSpec.upto (s : _root_.Go.ChangeSpec) : _root_.Go.OpenSpec := { _root_.Go.OpenSpec.ofChange s with cond := some uptoSmall }

/-- 'rentlaw2.NoticesName', WHERE WHAT IT READS IS OF BULK AT MOST 1048576: true; the input reads as it did. -/
def noticesNameUptoRow : OpenClaim := { program := "ytcjfniddeibbhaagreatdoor", sum := "f99689a2e07c8cbedaf5ecd05047893f6fc4f5df050b66307ea8a19b1e552d44", func := "forecourt/rentlaw2.NoticesName", spec := "noticesName", inPlace := ["internal/bytealg.abigen_runtime_cmpstring", "internal/bytealg.IndexByteString", "internal/bytealg.IndexString"], unfollowed := true, recurses := true, named := ["unicode/utf8.first", "unicode/utf8.acceptRanges", "internal/bytealg.MaxLen"], plainKeys := false, apart := false, laid := [("unicode/utf8.acceptRanges", laid_unicode_utf8_acceptRanges), ("unicode/utf8.first", laid_unicode_utf8_first)], narrowed := true }
def NoticesNameUptoSaid : Prop := noticesNameUptoRow.holds Tryz.pinned (OpenSpec.upto noticesNameSpec)

/-- 'rentlaw2.BlamesFall', WHERE WHAT IT READS IS OF BULK AT MOST 1048576: true; the input reads as it did. -/
def blamesFallUptoRow : OpenClaim := { program := "ytcjfniddeibbhaagreatdoor", sum := "f99689a2e07c8cbedaf5ecd05047893f6fc4f5df050b66307ea8a19b1e552d44", func := "forecourt/rentlaw2.BlamesFall", spec := "blamesFall", inPlace := ["internal/bytealg.IndexByteString", "internal/bytealg.IndexString", "internal/bytealg.abigen_runtime_cmpstring"], unfollowed := true, recurses := true, named := ["unicode/utf8.first", "unicode/utf8.acceptRanges", "internal/bytealg.MaxLen"], plainKeys := false, apart := false, laid := [("unicode/utf8.acceptRanges", laid_unicode_utf8_acceptRanges), ("unicode/utf8.first", laid_unicode_utf8_first)], narrowed := true }
def BlamesFallUptoSaid : Prop := blamesFallUptoRow.holds Tryz.pinned (OpenSpec.upto blamesFallSpec)

/-- 'rentlaw2.OwnersFound', WHERE WHAT IT READS IS OF BULK AT MOST 1048576: true; the input reads as it did. -/
def ownersFoundUptoRow : OpenClaim := { program := "ytcjfniddeibbhaagreatdoor", sum := "f99689a2e07c8cbedaf5ecd05047893f6fc4f5df050b66307ea8a19b1e552d44", func := "forecourt/rentlaw2.OwnersFound", spec := "ownersFound", inPlace := ["internal/bytealg.abigen_runtime_cmpstring", "internal/bytealg.IndexByteString", "internal/bytealg.IndexString"], unfollowed := true, recurses := true, named := ["unicode/utf8.first", "unicode/utf8.acceptRanges", "internal/bytealg.MaxLen"], plainKeys := false, apart := false, laid := [("unicode/utf8.acceptRanges", laid_unicode_utf8_acceptRanges), ("unicode/utf8.first", laid_unicode_utf8_first)], narrowed := true }
def OwnersFoundUptoSaid : Prop := ownersFoundUptoRow.holds Tryz.pinned (OpenSpec.upto ownersFoundSpec)

/-- 'rentlaw2.ClocksFound', WHERE WHAT IT READS IS OF BULK AT MOST 1048576: true; the input reads as it did. -/
def clocksFoundUptoRow : OpenClaim := { program := "ytcjfniddeibbhaagreatdoor", sum := "f99689a2e07c8cbedaf5ecd05047893f6fc4f5df050b66307ea8a19b1e552d44", func := "forecourt/rentlaw2.ClocksFound", spec := "clocksFound", inPlace := ["internal/bytealg.abigen_runtime_cmpstring", "internal/bytealg.IndexByteString", "internal/bytealg.IndexString"], unfollowed := true, recurses := true, named := ["unicode/utf8.first", "unicode/utf8.acceptRanges", "internal/bytealg.MaxLen"], plainKeys := false, apart := false, laid := [("unicode/utf8.acceptRanges", laid_unicode_utf8_acceptRanges), ("unicode/utf8.first", laid_unicode_utf8_first)], narrowed := true }
def ClocksFoundUptoSaid : Prop := clocksFoundUptoRow.holds Tryz.pinned (OpenSpec.upto clocksFoundSpec)

/-- 'rentlaw2.ChargesMade', WHERE WHAT IT READS IS OF BULK AT MOST 1048576: true; the input reads as it did. -/
def chargesMadeUptoRow : OpenClaim := { program := "ytcjfniddeibbhaagreatdoor", sum := "f99689a2e07c8cbedaf5ecd05047893f6fc4f5df050b66307ea8a19b1e552d44", func := "forecourt/rentlaw2.ChargesMade", spec := "chargesMade", inPlace := ["internal/bytealg.abigen_runtime_cmpstring", "internal/bytealg.IndexByteString", "internal/bytealg.IndexString"], unfollowed := true, recurses := true, named := ["unicode/utf8.first", "unicode/utf8.acceptRanges", "internal/bytealg.MaxLen"], plainKeys := false, apart := false, laid := [("unicode/utf8.acceptRanges", laid_unicode_utf8_acceptRanges), ("unicode/utf8.first", laid_unicode_utf8_first)], narrowed := true }
def ChargesMadeUptoSaid : Prop := chargesMadeUptoRow.holds Tryz.pinned (OpenSpec.upto chargesMadeSpec)

/-- 'rentkeep2.ClocksFollow', WHERE WHAT IT READS IS OF BULK AT MOST 1048576: true; the input reads as it did. -/
def clocksFollowUptoRow : OpenClaim := { program := "ytcjfniddeibbhaagreatdoor", sum := "f99689a2e07c8cbedaf5ecd05047893f6fc4f5df050b66307ea8a19b1e552d44", func := "forecourt/rentkeep2.ClocksFollow", spec := "clocksFollow", inPlace := ["internal/bytealg.abigen_runtime_cmpstring", "internal/bytealg.IndexByteString", "internal/bytealg.IndexString"], unfollowed := true, recurses := true, named := ["unicode/utf8.first", "unicode/utf8.acceptRanges", "internal/bytealg.MaxLen"], plainKeys := false, apart := false, laid := [("unicode/utf8.acceptRanges", laid_unicode_utf8_acceptRanges), ("unicode/utf8.first", laid_unicode_utf8_first)], narrowed := true }
def ClocksFollowUptoSaid : Prop := clocksFollowUptoRow.holds Tryz.pinned (OpenSpec.upto clocksFollowSpec)

/-- 'rentkeep2.ChargesHold', WHERE WHAT IT READS IS OF BULK AT MOST 1048576: true; the input reads as it did. -/
def chargesHoldUptoRow : OpenClaim := { program := "ytcjfniddeibbhaagreatdoor", sum := "f99689a2e07c8cbedaf5ecd05047893f6fc4f5df050b66307ea8a19b1e552d44", func := "forecourt/rentkeep2.ChargesHold", spec := "chargesHold", inPlace := ["internal/bytealg.abigen_runtime_cmpstring", "internal/bytealg.IndexByteString", "internal/bytealg.IndexString"], unfollowed := true, recurses := true, named := ["unicode/utf8.first", "unicode/utf8.acceptRanges", "internal/bytealg.MaxLen"], plainKeys := false, apart := false, laid := [("unicode/utf8.acceptRanges", laid_unicode_utf8_acceptRanges), ("unicode/utf8.first", laid_unicode_utf8_first)], narrowed := true }
def ChargesHoldUptoSaid : Prop := chargesHoldUptoRow.holds Tryz.pinned (OpenSpec.upto chargesHoldSpec)

end Rows
end Go.Proofs.YtcjfniddeibbhaaGreatDoor
