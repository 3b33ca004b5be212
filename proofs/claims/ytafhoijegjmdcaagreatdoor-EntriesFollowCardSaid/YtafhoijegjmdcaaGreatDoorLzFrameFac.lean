/- EntriesFollow is proved: for every input the law returns true, and its argument reads afterwards as it read before. Conditions: those of the given row alone. -/
import Derived.Test.YtafhoijegjmdcaaGreatDoorLzFrameOne
set_option linter.unusedVariables false
set_option linter.unusedSimpArgs false
set_option maxRecDepth 100000
namespace Go.Proofs.YtafhoijegjmdcaaGreatDoor
open Go Go.Eng Go.ChangeShapes Go.WideShapes Go.ChangeAt Go.RowKit
theorem cg {a b : Bool} (h : a = true) (k : b = true) : (a && b) = true := by rw [h, k]; rfl
theorem Nh : Rows.entriesFollowRow.wf (OpenSpec.ofChange Rows.entriesFollowSpec) = true := by kernel_rfl
theorem MF : laidOutB Tryz.pinned.checked.prog = true := by kernel_rfl
theorem Ng : mapsRowed Tryz.pinned.checked.prog = true := by kernel_rfl
theorem MK : Tryz.f3.params.all (Tryz.pinned.checked.prog.readableRec ·) = true := by kernel_rfl
theorem Nb : namedTie Tryz.pinned.checked.prog Rows.entriesFollowRow.named Rows.entriesFollowSpec.vars = true := by kernel_rfl
theorem Ob : (Rows.entriesFollowRow.stops == []) = true := by kernel_rfl
theorem M7 : (Tryz.pinned.checked.prog.stops == []) = true := by kernel_rfl
theorem Mb : (Rows.entriesFollowRow.knobs == []) = true := by kernel_rfl
theorem Oc : (Tryz.pinned.checked.prog.stopKnobs == []) = true := by kernel_rfl
theorem Od : (Rows.entriesFollowRow.inPlace == Tryz.pinned.checked.prog.inPlace 3) = true := by kernel_rfl
theorem L1 : (Rows.entriesFollowRow.unfollowed == Tryz.pinned.checked.prog.unfollowed 3) = true := by kernel_rfl
theorem Oh : (Rows.entriesFollowRow.recurses == Tryz.pinned.checked.prog.recurses 3) = true := by kernel_rfl
theorem N6 : (Rows.entriesFollowRow.named == Tryz.pinned.checked.prog.varsNamed 3) = true := by kernel_rfl
theorem NJ : (Rows.entriesFollowRow.maps == (Tryz.f3.params.toList ++ Rows.entriesFollowSpec.plain.varTypes Tryz.pinned.checked.prog).any (Tryz.pinned.checked.prog.mapsRec ·)) = true := by kernel_rfl
theorem K1 : (Rows.entriesFollowRow.ifaces == (Tryz.f3.params.toList ++ Rows.entriesFollowSpec.plain.varTypes Tryz.pinned.checked.prog).any (Tryz.pinned.checked.prog.ifacesRec ·)) = true := by kernel_rfl
theorem MA : (Rows.entriesFollowRow.mapsOut == Tryz.pinned.checked.prog.mapsAmong Tryz.f3.resultTypes.toList) = true := by kernel_rfl
theorem NT : (Rows.entriesFollowRow.loops == (Tryz.f3.params.toList ++ Rows.entriesFollowSpec.plain.varTypes Tryz.pinned.checked.prog).any (Tryz.pinned.checked.prog.loopsFrom ·)) = true := by kernel_rfl
theorem L4 : (Rows.entriesFollowRow.wideKeys == (Tryz.f3.params.toList ++ Rows.entriesFollowSpec.plain.varTypes Tryz.pinned.checked.prog ++ Tryz.f3.resultTypes.toList).any (Tryz.pinned.checked.prog.wideKeysFrom ·)) = true := by kernel_rfl
theorem L8 : Rows.entriesFollowSpec.vars.all (Tryz.pinned.checked.prog.varReadable ·) = true := by kernel_rfl
theorem Mt : Tryz.f3.resultTypes.all (fun t => Tryz.pinned.checked.prog.readableRec t && decide (t < Tryz.pinned.checked.prog.types.size)) = true := by kernel_rfl
theorem NG : (Rows.entriesFollowRow.ifacesOut == Tryz.f3.resultTypes.toList.any (Tryz.pinned.checked.prog.ifacesRec ·)) = true := by kernel_rfl
theorem Lg : (Rows.entriesFollowRow.loopsOut == Tryz.f3.resultTypes.toList.any (Tryz.pinned.checked.prog.loopsFrom ·)) = true := by kernel_rfl
theorem Mm : (Rows.entriesFollowRow.plainKeys == Tryz.pinned.checked.prog.plainKeys) = true := by kernel_rfl
theorem NW : Rows.entriesFollowRow.shortTexts.isNone = true := by kernel_rfl
theorem N0 : Tryz.pinned.checked.prog.stopsHeard = true := by kernel_rfl
theorem Nn : Tryz.pinned.checked.prog.mayEnter = true := by kernel_rfl
theorem M4 : (Rows.entriesFollowRow.lifted == Tryz.pinned.checked.prog.liftsFinal) = true := by kernel_rfl
theorem Nx : (Tryz.pinned.checked.prog.make == some Rows.entriesFollowRow.make) = true := by kernel_rfl
theorem MQ : (Rows.entriesFollowRow.kinds == (if Rows.entriesFollowRow.domain.isEmpty then [] else Tryz.f3.params.toList.map fun t => match Tryz.pinned.checked.prog.underlying t with | some (.int k) => some k | _ => none)) = true := by kernel_rfl
theorem N5 : (Rows.entriesFollowRow.pinned == Rows.entriesFollowRow.pinnedBy) = true := by kernel_rfl
theorem Oe : (Rows.entriesFollowRow.veiled == (Tryz.f3.params.toList ++ Rows.entriesFollowSpec.plain.varTypes Tryz.pinned.checked.prog ++ Tryz.f3.resultTypes.toList).any (Tryz.pinned.checked.prog.veiledRec ·)) = true := by kernel_rfl
theorem Ma : Rows.entriesFollowRow.veiledFits Tryz.pinned.checked.prog Tryz.f3.params.toList (Tryz.f3.params.toList ++ Rows.entriesFollowSpec.plain.varTypes Tryz.pinned.checked.prog ++ Tryz.f3.resultTypes.toList) = true := by kernel_rfl
theorem GE : joinedFacts Tryz.pinned.checked.prog 3 Tryz.f3 Rows.entriesFollowSpec Rows.entriesFollowRow = true := by
 unfold joinedFacts; exact (cg (cg (cg (cg (cg (cg (cg (cg (cg (cg (cg (cg (cg (cg (cg (cg (cg (cg (cg (cg (cg (cg (cg (cg (cg (cg (cg (cg (cg (cg (cg Nh MF) Ng) MK) Nb) Ob) M7) Mb) Oc) Od) L1) Oh) N6) NJ) K1) MA) NT) L4) L8) Mt) NG) Lg) Mm) NW) N0) Nn) M4) Nx) MQ) N5) Oe) Ma)
end Go.Proofs.YtafhoijegjmdcaaGreatDoor
