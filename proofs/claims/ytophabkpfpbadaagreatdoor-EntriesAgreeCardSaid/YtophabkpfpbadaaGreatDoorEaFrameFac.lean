/- EntriesAgree is proved: for every input the law returns true, and its argument reads afterwards as it read before. Conditions: those of the given row alone. -/
import Derived.Test.YtophabkpfpbadaaGreatDoorEaFrameOne
set_option linter.unusedVariables false
set_option linter.unusedSimpArgs false
set_option maxRecDepth 100000
namespace Go.Proofs.YtophabkpfpbadaaGreatDoor
open Go Go.Eng Go.ChangeShapes Go.WideShapes Go.ChangeAt Go.RowKit
theorem and_in {a b : Bool} (h : a = true) (k : b = true) : (a && b) = true := by rw [h, k]; rfl
theorem j4wf : Rows.entriesAgreeRow.wf (OpenSpec.ofChange Rows.entriesAgreeSpec) = true := by kernel_rfl
theorem j4lo : laidOutB Tryz.pinned.checked.prog = true := by kernel_rfl
theorem j4mr : mapsRowed Tryz.pinned.checked.prog = true := by kernel_rfl
theorem j4rd : Tryz.f4.params.all (Tryz.pinned.checked.prog.readableRec ·) = true := by kernel_rfl
theorem j4nt : namedTie Tryz.pinned.checked.prog Rows.entriesAgreeRow.named Rows.entriesAgreeSpec.vars = true := by kernel_rfl
theorem j4k6 : (Rows.entriesAgreeRow.stops == []) = true := by kernel_rfl
theorem j4k7 : (Tryz.pinned.checked.prog.stops == []) = true := by kernel_rfl
theorem j4k8 : (Rows.entriesAgreeRow.knobs == []) = true := by kernel_rfl
theorem j4k9 : (Tryz.pinned.checked.prog.stopKnobs == []) = true := by kernel_rfl
theorem j4ip : (Rows.entriesAgreeRow.inPlace == Tryz.pinned.checked.prog.inPlace 4) = true := by kernel_rfl
theorem j4uf : (Rows.entriesAgreeRow.unfollowed == Tryz.pinned.checked.prog.unfollowed 4) = true := by kernel_rfl
theorem j4rc : (Rows.entriesAgreeRow.recurses == Tryz.pinned.checked.prog.recurses 4) = true := by kernel_rfl
theorem j4nm : (Rows.entriesAgreeRow.named == Tryz.pinned.checked.prog.varsNamed 4) = true := by kernel_rfl
theorem j4mp : (Rows.entriesAgreeRow.maps == (Tryz.f4.params.toList ++ Rows.entriesAgreeSpec.plain.varTypes Tryz.pinned.checked.prog).any (Tryz.pinned.checked.prog.mapsRec ·)) = true := by kernel_rfl
theorem j4ifc : (Rows.entriesAgreeRow.ifaces == (Tryz.f4.params.toList ++ Rows.entriesAgreeSpec.plain.varTypes Tryz.pinned.checked.prog).any (Tryz.pinned.checked.prog.ifacesRec ·)) = true := by kernel_rfl
theorem j4mo : (Rows.entriesAgreeRow.mapsOut == Tryz.pinned.checked.prog.mapsAmong Tryz.f4.resultTypes.toList) = true := by kernel_rfl
theorem j4lp : (Rows.entriesAgreeRow.loops == (Tryz.f4.params.toList ++ Rows.entriesAgreeSpec.plain.varTypes Tryz.pinned.checked.prog).any (Tryz.pinned.checked.prog.loopsFrom ·)) = true := by kernel_rfl
theorem j4wk : (Rows.entriesAgreeRow.wideKeys == (Tryz.f4.params.toList ++ Rows.entriesAgreeSpec.plain.varTypes Tryz.pinned.checked.prog ++ Tryz.f4.resultTypes.toList).any (Tryz.pinned.checked.prog.wideKeysFrom ·)) = true := by kernel_rfl
theorem j4vr : Rows.entriesAgreeSpec.vars.all (Tryz.pinned.checked.prog.varReadable ·) = true := by kernel_rfl
theorem j4rt : Tryz.f4.resultTypes.all (fun t => Tryz.pinned.checked.prog.readableRec t && decide (t < Tryz.pinned.checked.prog.types.size)) = true := by kernel_rfl
theorem j4io : (Rows.entriesAgreeRow.ifacesOut == Tryz.f4.resultTypes.toList.any (Tryz.pinned.checked.prog.ifacesRec ·)) = true := by kernel_rfl
theorem j4lpo : (Rows.entriesAgreeRow.loopsOut == Tryz.f4.resultTypes.toList.any (Tryz.pinned.checked.prog.loopsFrom ·)) = true := by kernel_rfl
theorem j4pk : (Rows.entriesAgreeRow.plainKeys == Tryz.pinned.checked.prog.plainKeys) = true := by kernel_rfl
theorem j4st : Rows.entriesAgreeRow.shortTexts.isNone = true := by kernel_rfl
theorem j4sh : Tryz.pinned.checked.prog.stopsHeard = true := by kernel_rfl
theorem j4me : Tryz.pinned.checked.prog.mayEnter = true := by kernel_rfl
theorem j4lf : (Rows.entriesAgreeRow.lifted == Tryz.pinned.checked.prog.liftsFinal) = true := by kernel_rfl
theorem j4mk : (Tryz.pinned.checked.prog.make == some Rows.entriesAgreeRow.make) = true := by kernel_rfl
theorem j4kd : (Rows.entriesAgreeRow.kinds == (if Rows.entriesAgreeRow.domain.isEmpty then [] else Tryz.f4.params.toList.map fun t => match Tryz.pinned.checked.prog.underlying t with | some (.int k) => some k | _ => none)) = true := by kernel_rfl
theorem j4pn : (Rows.entriesAgreeRow.pinned == Rows.entriesAgreeRow.pinnedBy) = true := by kernel_rfl
theorem j4ve : (Rows.entriesAgreeRow.veiled == (Tryz.f4.params.toList ++ Rows.entriesAgreeSpec.plain.varTypes Tryz.pinned.checked.prog ++ Tryz.f4.resultTypes.toList).any (Tryz.pinned.checked.prog.veiledRec ·)) = true := by kernel_rfl
theorem j4vf : Rows.entriesAgreeRow.veiledFits Tryz.pinned.checked.prog Tryz.f4.params.toList (Tryz.f4.params.toList ++ Rows.entriesAgreeSpec.plain.varTypes Tryz.pinned.checked.prog ++ Tryz.f4.resultTypes.toList) = true := by kernel_rfl
theorem closed4 : joinedFacts Tryz.pinned.checked.prog 4 Tryz.f4 Rows.entriesAgreeSpec Rows.entriesAgreeRow = true := by
 unfold joinedFacts; exact (and_in (and_in (and_in (and_in (and_in (and_in (and_in (and_in (and_in (and_in (and_in (and_in (and_in (and_in (and_in (and_in (and_in (and_in (and_in (and_in (and_in (and_in (and_in (and_in (and_in (and_in (and_in (and_in (and_in (and_in (and_in j4wf j4lo) j4mr) j4rd) j4nt) j4k6) j4k7) j4k8) j4k9) j4ip) j4uf) j4rc) j4nm) j4mp) j4ifc) j4mo) j4lp) j4wk) j4vr) j4rt) j4io) j4lpo) j4pk) j4st) j4sh) j4me) j4lf) j4mk) j4kd) j4pn) j4ve) j4vf)
end Go.Proofs.YtophabkpfpbadaaGreatDoor
