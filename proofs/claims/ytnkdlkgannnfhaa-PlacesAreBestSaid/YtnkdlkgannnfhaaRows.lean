/-
  No cell of these rows narrows 'for every input' (looked for: loops, veiled, ifaces, maps, wideKeys, modest, calm, conditions, laid).
  DERIVED. THE GIVEN ROWS OF THIS SEAT. 2 by the template 'for every input the law returns true; each argument reads behind the call as it read before'; 0 by the template 'total and deterministic' (their statements: YtnkdlkgannnfhaaTotals.lean).
  GIVEN WITH THE SEED: the statements are not yours to turn. If you find one false, say at which input.
  Laid BY PROGRAM, IN A SANDBOX (cutbox-rows.mjs): the forced cells as the released guide's own fill.sh prints them over the translation 99bc55998bc2d0e7… (all of the seat's roots in one cut). By AI agents, Wed Nov 11 2026. No macro, syntax, notation, axiom, sorry.
-/
import Derived.Test.YtnkdlkgannnfhaaChecked
import GoSem.Claim
import GoSem.ClaimJoined
import GoSem.ClaimMapViews
import Derived.JoinedTies
import Derived.KernelRfl
namespace Go.Proofs.Ytnkdlkgannnfhaa
/- THE CELL 'sum', in the pinned program and in every row, IS THE sha256 OF THE DUMP (.gsa) THAT YtnkdlkgannnfhaaProg.lean LOADS. Nothing in Lean hashes anything: it is a label: what it is worth is what the hold of that sum in a sandbox is worth. -/
noncomputable def Try.pinned : Pinned := { name := "ytnkdlkgannnfhaa", sum := "99bc55998bc2d0e73d7addfe08bb75ee52f136c1f07181047bb7ffabedb195d2", checked := Try.checked }
namespace Rows
def none {H : Type} : Left H := { results := [], args := [] }

/-- 'rentkeep2.NoticesGrow': WHATEVER THE INPUT: true; the input reads as it did. -/
def noticesGrowSpec : ChangeSpec := { name := "noticesGrow", fn := fun _ => fun
  | [d] => { results := [.lit (.bool true)], args := [d] }
  | _ => none }
def noticesGrowRow : OpenClaim := { program := "ytnkdlkgannnfhaa", sum := "99bc55998bc2d0e73d7addfe08bb75ee52f136c1f07181047bb7ffabedb195d2", func := "forecourt/rentkeep2.NoticesGrow", spec := "noticesGrow", unfollowed := true, recurses := true, plainKeys := false, apart := false }
def NoticesGrowSaid : Prop := noticesGrowRow.holds Try.pinned (OpenSpec.ofChange noticesGrowSpec)

/-- ITS FALSE NEIGHBOUR: 'it returns false'. Refute it at one input. -/
def noticesGrowWrong : ChangeSpec := { name := "noticesGrow", fn := fun _ => fun
  | [d] => { results := [.lit (.bool false)], args := [d] }
  | _ => none }
def NoticesGrowWrongFalsely : Prop := noticesGrowRow.holds Try.pinned (OpenSpec.ofChange noticesGrowWrong)

/-- 'rentkeep2.PlacesAreBest': WHATEVER THE INPUT: true; the input reads as it did. -/
def placesAreBestSpec : ChangeSpec := { name := "placesAreBest", fn := fun _ => fun
  | [d] => { results := [.lit (.bool true)], args := [d] }
  | _ => none }
def placesAreBestRow : OpenClaim := { program := "ytnkdlkgannnfhaa", sum := "99bc55998bc2d0e73d7addfe08bb75ee52f136c1f07181047bb7ffabedb195d2", func := "forecourt/rentkeep2.PlacesAreBest", spec := "placesAreBest", unfollowed := true, recurses := true, plainKeys := false, apart := false }
def PlacesAreBestSaid : Prop := placesAreBestRow.holds Try.pinned (OpenSpec.ofChange placesAreBestSpec)

/-- ITS FALSE NEIGHBOUR: 'it returns false'. Refute it at one input. -/
def placesAreBestWrong : ChangeSpec := { name := "placesAreBest", fn := fun _ => fun
  | [d] => { results := [.lit (.bool false)], args := [d] }
  | _ => none }
def PlacesAreBestWrongFalsely : Prop := placesAreBestRow.holds Try.pinned (OpenSpec.ofChange placesAreBestWrong)

/- THE SECOND FORM. 'bulk': how many values and letters a reading holds, each counted each time it is reached (what is shared counts as often as it is met; a slice's spare places count too). A statement '..UptoSaid' is the law's where the arguments, and the package variables that the reading takes, are together of bulk at most 1048576: NARROWER than '..Said'. Prove '..Said' where nothing that the law and all that it calls make is longer than what came in: it says more and counts as full. Else prove '..UptoSaid'. A law counts once. -/
mutual
def uptoBulk {H : Type} : DataW H → Nat
  | .lit (.string bytes) => bytes.length + 1
  | .lit _ => 1
  | .nil => 1
  | .ptr d => uptoBulk d + 1
  | .slice elems spare => uptoBulkAll elems + uptoBulkAll spare + 1
  | .agg parts => uptoBulkAll parts + 1
  | .iface _ d => uptoBulk d + 1
  | .map entries => uptoBulkEntries entries + 1
  | .held _ => 1
def uptoBulkAll {H : Type} : List (DataW H) → Nat
  | [] => 0
  | d :: r => uptoBulk d + uptoBulkAll r
def uptoBulkEntries {H : Type} : List (Lit × DataW H) → Nat
  | [] => 0
  | x :: r => uptoBulkEntry x + uptoBulkEntries r
def uptoBulkEntry {H : Type} : Lit × DataW H → Nat
  | (.string bytes, d) => bytes.length + uptoBulk d + 1
  | (_, d) => uptoBulk d + 1
 end
def uptoSmall : (H : Type) → List (DataW H) → Bool := fun _ ds => decide (uptoBulkAll ds ≤ 1048576)
def OpenSpec.upto (s : _root_.Go.ChangeSpec) : _root_.Go.OpenSpec := { _root_.Go.OpenSpec.ofChange s with cond := some uptoSmall }

/-- 'rentkeep2.NoticesGrow', WHERE WHAT IT READS IS OF BULK AT MOST 1048576: true; the input reads as it did. -/
def noticesGrowUptoRow : OpenClaim := { program := "ytnkdlkgannnfhaa", sum := "99bc55998bc2d0e73d7addfe08bb75ee52f136c1f07181047bb7ffabedb195d2", func := "forecourt/rentkeep2.NoticesGrow", spec := "noticesGrow", unfollowed := true, recurses := true, plainKeys := false, apart := false, narrowed := true }
def NoticesGrowUptoSaid : Prop := noticesGrowUptoRow.holds Try.pinned (OpenSpec.upto noticesGrowSpec)

/-- 'rentkeep2.PlacesAreBest', WHERE WHAT IT READS IS OF BULK AT MOST 1048576: true; the input reads as it did. -/
def placesAreBestUptoRow : OpenClaim := { program := "ytnkdlkgannnfhaa", sum := "99bc55998bc2d0e73d7addfe08bb75ee52f136c1f07181047bb7ffabedb195d2", func := "forecourt/rentkeep2.PlacesAreBest", spec := "placesAreBest", unfollowed := true, recurses := true, plainKeys := false, apart := false, narrowed := true }
def PlacesAreBestUptoSaid : Prop := placesAreBestUptoRow.holds Try.pinned (OpenSpec.upto placesAreBestSpec)

end Rows
end Go.Proofs.Ytnkdlkgannnfhaa
