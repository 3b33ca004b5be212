/- MarkTexts is proved: for every input the law returns true, and its argument reads afterwards as it read before. Conditions: those of the given row alone. -/
import Derived.Test.YtgeakdcbpjmkbaaGreatDoorXmkFrameOne
set_option linter.unusedVariables false
set_option linter.unusedSimpArgs false
set_option maxRecDepth 100000
namespace Go.Proofs.YtgeakdcbpjmkbaaGreatDoor
open Go Go.Eng Go.ChangeShapes Go.WideShapes Go.ChangeAt Go.RowKit
theorem and_in {a b : Bool} (h : a = true) (k : b = true) : (a && b) = true := by rw [h, k]; rfl
theorem j7wf : Rows.markTextsRow.wf (OpenSpec.ofChange Rows.markTextsSpec) = true := by kernel_rfl
theorem j7lo : laidOutB Tryz.pinned.checked.prog = true := by kernel_rfl
theorem j7mr : mapsRowed Tryz.pinned.checked.prog = true := by kernel_rfl
theorem j7rd : Tryz.f7.params.all (Tryz.pinned.checked.prog.readableRec ·) = true := by kernel_rfl
theorem j7nt : namedTie Tryz.pinned.checked.prog Rows.markTextsRow.named Rows.markTextsSpec.vars = true := by kernel_rfl
theorem j7k6 : (Rows.markTextsRow.stops == []) = true := by kernel_rfl
theorem j7k7 : (Tryz.pinned.checked.prog.stops == []) = true := by kernel_rfl
theorem j7k8 : (Rows.markTextsRow.knobs == []) = true := by kernel_rfl
theorem j7k9 : (Tryz.pinned.checked.prog.stopKnobs == []) = true := by kernel_rfl
theorem j7ip : (Rows.markTextsRow.inPlace == Tryz.pinned.checked.prog.inPlace 7) = true := by kernel_rfl
theorem j7uf : (Rows.markTextsRow.unfollowed == Tryz.pinned.checked.prog.unfollowed 7) = true := by kernel_rfl
theorem j7rc : (Rows.markTextsRow.recurses == Tryz.pinned.checked.prog.recurses 7) = true := by kernel_rfl
theorem j7nm : (Rows.markTextsRow.named == Tryz.pinned.checked.prog.varsNamed 7) = true := by kernel_rfl
theorem j7mp : (Rows.markTextsRow.maps == (Tryz.f7.params.toList ++ Rows.markTextsSpec.plain.varTypes Tryz.pinned.checked.prog).any (Tryz.pinned.checked.prog.mapsRec ·)) = true := by kernel_rfl
theorem j7ifc : (Rows.markTextsRow.ifaces == (Tryz.f7.params.toList ++ Rows.markTextsSpec.plain.varTypes Tryz.pinned.checked.prog).any (Tryz.pinned.checked.prog.ifacesRec ·)) = true := by kernel_rfl
theorem j7mo : (Rows.markTextsRow.mapsOut == Tryz.pinned.checked.prog.mapsAmong Tryz.f7.resultTypes.toList) = true := by kernel_rfl
theorem j7lp : (Rows.markTextsRow.loops == (Tryz.f7.params.toList ++ Rows.markTextsSpec.plain.varTypes Tryz.pinned.checked.prog).any (Tryz.pinned.checked.prog.loopsFrom ·)) = true := by kernel_rfl
theorem j7wk : (Rows.markTextsRow.wideKeys == (Tryz.f7.params.toList ++ Rows.markTextsSpec.plain.varTypes Tryz.pinned.checked.prog ++ Tryz.f7.resultTypes.toList).any (Tryz.pinned.checked.prog.wideKeysFrom ·)) = true := by kernel_rfl
theorem j7vr : Rows.markTextsSpec.vars.all (Tryz.pinned.checked.prog.varReadable ·) = true := by kernel_rfl
theorem j7rt : Tryz.f7.resultTypes.all (fun t => Tryz.pinned.checked.prog.readableRec t && decide (t < Tryz.pinned.checked.prog.types.size)) = true := by kernel_rfl
theorem j7io : (Rows.markTextsRow.ifacesOut == Tryz.f7.resultTypes.toList.any (Tryz.pinned.checked.prog.ifacesRec ·)) = true := by kernel_rfl
theorem j7lpo : (Rows.markTextsRow.loopsOut == Tryz.f7.resultTypes.toList.any (Tryz.pinned.checked.prog.loopsFrom ·)) = true := by kernel_rfl
theorem j7pk : (Rows.markTextsRow.plainKeys == Tryz.pinned.checked.prog.plainKeys) = true := by kernel_rfl
theorem j7st : Rows.markTextsRow.shortTexts.isNone = true := by kernel_rfl
theorem j7sh : Tryz.pinned.checked.prog.stopsHeard = true := by kernel_rfl
theorem j7me : Tryz.pinned.checked.prog.mayEnter = true := by kernel_rfl
theorem j7lf : (Rows.markTextsRow.lifted == Tryz.pinned.checked.prog.liftsFinal) = true := by kernel_rfl
theorem j7mk : (Tryz.pinned.checked.prog.make == some Rows.markTextsRow.make) = true := by kernel_rfl
theorem j7kd : (Rows.markTextsRow.kinds == (if Rows.markTextsRow.domain.isEmpty then [] else Tryz.f7.params.toList.map fun t => match Tryz.pinned.checked.prog.underlying t with | some (.int k) => some k | _ => none)) = true := by kernel_rfl
theorem j7pn : (Rows.markTextsRow.pinned == Rows.markTextsRow.pinnedBy) = true := by kernel_rfl
theorem j7ve : (Rows.markTextsRow.veiled == (Tryz.f7.params.toList ++ Rows.markTextsSpec.plain.varTypes Tryz.pinned.checked.prog ++ Tryz.f7.resultTypes.toList).any (Tryz.pinned.checked.prog.veiledRec ·)) = true := by kernel_rfl
theorem j7vf : Rows.markTextsRow.veiledFits Tryz.pinned.checked.prog Tryz.f7.params.toList (Tryz.f7.params.toList ++ Rows.markTextsSpec.plain.varTypes Tryz.pinned.checked.prog ++ Tryz.f7.resultTypes.toList) = true := by kernel_rfl
theorem closed7 : joinedFacts Tryz.pinned.checked.prog 7 Tryz.f7 Rows.markTextsSpec Rows.markTextsRow = true := by
 unfold joinedFacts
 exact (and_in (and_in (and_in (and_in (and_in (and_in (and_in (and_in (and_in (and_in (and_in (and_in (and_in (and_in (and_in (and_in (and_in (and_in (and_in (and_in (and_in (and_in (and_in (and_in (and_in (and_in (and_in (and_in (and_in (and_in (and_in j7wf j7lo) j7mr) j7rd) j7nt) j7k6) j7k7) j7k8) j7k9) j7ip) j7uf) j7rc) j7nm) j7mp) j7ifc) j7mo) j7lp) j7wk) j7vr) j7rt) j7io) j7lpo) j7pk) j7st) j7sh) j7me) j7lf) j7mk) j7kd) j7pn) j7ve) j7vf)
end Go.Proofs.YtgeakdcbpjmkbaaGreatDoor
