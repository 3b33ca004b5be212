/-
  No cell of these rows narrows 'for every input' (looked for: loops, veiled, ifaces, maps, wideKeys, modest, calm, conditions, laid).
  DERIVED. THE GIVEN ROWS OF THIS SEAT. 2 by the template 'for every input the law returns true; each argument reads behind the call as it read before'; 0 by the template 'total and deterministic' (their statements: YtnchgjpdggembaaGreatTotals.lean).
  GIVEN WITH THE SEED: the statements are not yours to turn. If you find one false, say at which input.
  Laid BY PROGRAM, IN A SANDBOX (cutbox-rows.mjs): the forced cells as the released guide's own fill.sh prints them over the translation 1612721791f164f3… (all of the seat's roots in one cut). By AI agents, Wed Nov 11 2026. No macro, syntax, notation, axiom, sorry.
-/
import Derived.Test.YtnchgjpdggembaaGreatChecked
import GoSem.Claim
import GoSem.ClaimJoined
import GoSem.ClaimMapViews
import Derived.JoinedTies
import Derived.KernelRfl
namespace Go.Proofs.YtnchgjpdggembaaGreat
/- THE CELL 'sum', in the pinned program and in every row, IS THE sha256 OF THE DUMP (.gsa) THAT YtnchgjpdggembaaGreatProg.lean LOADS. Nothing in Lean hashes anything: it is a label: what it is worth is what the hold of that sum in a sandbox is worth. -/
noncomputable def Tryz.pinned : Pinned := { name := "ytnchgjpdggembaagreat", sum := "1612721791f164f338aee1bc8cd1f7989ebae74ef35c1897abe0f990ad313702", checked := Tryz.checked }
namespace Rows
def none {H : Type} : Left H := { results := [], args := [] }

/-- 'rentkeep2.MatchesAreBest': WHATEVER THE INPUT: true; the input reads as it did. -/
def matchesAreBestSpec : ChangeSpec := { name := "matchesAreBest", fn := fun _ => fun
  | [d] => { results := [.lit (.bool true)], args := [d] }
  | _ => none }
def matchesAreBestRow : OpenClaim := { program := "ytnchgjpdggembaagreat", sum := "1612721791f164f338aee1bc8cd1f7989ebae74ef35c1897abe0f990ad313702", func := "forecourt/rentkeep2.MatchesAreBest", spec := "matchesAreBest", inPlace := ["internal/bytealg.abigen_runtime_cmpstring"], unfollowed := true, recurses := true, plainKeys := false, apart := false }
def MatchesAreBestSaid : Prop := matchesAreBestRow.holds Tryz.pinned (OpenSpec.ofChange matchesAreBestSpec)

/-- ITS FALSE NEIGHBOUR: 'it returns false'. Refute it at one input. -/
def matchesAreBestWrong : ChangeSpec := { name := "matchesAreBest", fn := fun _ => fun
  | [d] => { results := [.lit (.bool false)], args := [d] }
  | _ => none }
def MatchesAreBestWrongFalsely : Prop := matchesAreBestRow.holds Tryz.pinned (OpenSpec.ofChange matchesAreBestWrong)

/-- 'rentkeep2.MarksStay': WHATEVER THE INPUT: true; the input reads as it did. -/
def marksStaySpec : ChangeSpec := { name := "marksStay", fn := fun _ => fun
  | [d] => { results := [.lit (.bool true)], args := [d] }
  | _ => none }
def marksStayRow : OpenClaim := { program := "ytnchgjpdggembaagreat", sum := "1612721791f164f338aee1bc8cd1f7989ebae74ef35c1897abe0f990ad313702", func := "forecourt/rentkeep2.MarksStay", spec := "marksStay", inPlace := ["internal/bytealg.abigen_runtime_cmpstring"], unfollowed := true, recurses := true, plainKeys := false, apart := false }
def MarksStaySaid : Prop := marksStayRow.holds Tryz.pinned (OpenSpec.ofChange marksStaySpec)

/-- ITS FALSE NEIGHBOUR: 'it returns false'. Refute it at one input. -/
def marksStayWrong : ChangeSpec := { name := "marksStay", fn := fun _ => fun
  | [d] => { results := [.lit (.bool false)], args := [d] }
  | _ => none }
def MarksStayWrongFalsely : Prop := marksStayRow.holds Tryz.pinned (OpenSpec.ofChange marksStayWrong)

/- THE SECOND FORM. 'bulk': how many values and letters a reading holds, each counted each time it is reached (what is shared counts as often as it is met; a slice's spare places count too). A statement '..UptoSaid' is the law's where the arguments, and the package variables that the reading takes, are together of bulk at most 1048576: NARROWER than '..Said'. Prove '..Said' where nothing that the law and all that it calls make is longer than what came in: it says more and counts as full. Else prove '..UptoSaid'. A law counts once. -/
mutual
def uptoBulk {H : Type} : DataW H → Nat
  | .lit (.string bytes) => bytes.length + 1
  | .lit _ => 1
  | .nil => 1
  | .ptr d => uptoBulk d + 1
  | .slice elems spare => uptoBulkAll elems + uptoBulkAll spare + 1
  | .agg parts => uptoBulkAll parts + 1
  | .iface _ d => uptoBulk d + 1
  | .map entries => uptoBulkEntries entries + 1
  | .held _ => 1
def uptoBulkAll {H : Type} : List (DataW H) → Nat
  | [] => 0
  | d :: r => uptoBulk d + uptoBulkAll r
def uptoBulkEntries {H : Type} : List (Lit × DataW H) → Nat
  | [] => 0
  | x :: r => uptoBulkEntry x + uptoBulkEntries r
def uptoBulkEntry {H : Type} : Lit × DataW H → Nat
  | (.string bytes, d) => bytes.length + uptoBulk d + 1
  | (_, d) => uptoBulk d + 1
 end
def uptoSmall : (H : Type) → List (DataW H) → Bool := fun _ ds => decide (uptoBulkAll ds ≤ 1048576)
def OpenSpec.upto (s : _root_.Go.ChangeSpec) : _root_.Go.OpenSpec := { _root_.Go.OpenSpec.ofChange s with cond := some uptoSmall }

/-- 'rentkeep2.MatchesAreBest', WHERE WHAT IT READS IS OF BULK AT MOST 1048576: true; the input reads as it did. -/
def matchesAreBestUptoRow : OpenClaim := { program := "ytnchgjpdggembaagreat", sum := "1612721791f164f338aee1bc8cd1f7989ebae74ef35c1897abe0f990ad313702", func := "forecourt/rentkeep2.MatchesAreBest", spec := "matchesAreBest", inPlace := ["internal/bytealg.abigen_runtime_cmpstring"], unfollowed := true, recurses := true, plainKeys := false, apart := false, narrowed := true }
def MatchesAreBestUptoSaid : Prop := matchesAreBestUptoRow.holds Tryz.pinned (OpenSpec.upto matchesAreBestSpec)

/-- 'rentkeep2.MarksStay', WHERE WHAT IT READS IS OF BULK AT MOST 1048576: true; the input reads as it did. -/
def marksStayUptoRow : OpenClaim := { program := "ytnchgjpdggembaagreat", sum := "1612721791f164f338aee1bc8cd1f7989ebae74ef35c1897abe0f990ad313702", func := "forecourt/rentkeep2.MarksStay", spec := "marksStay", inPlace := ["internal/bytealg.abigen_runtime_cmpstring"], unfollowed := true, recurses := true, plainKeys := false, apart := false, narrowed := true }
def MarksStayUptoSaid : Prop := marksStayUptoRow.holds Tryz.pinned (OpenSpec.upto marksStaySpec)

end Rows
end Go.Proofs.YtnchgjpdggembaaGreat
