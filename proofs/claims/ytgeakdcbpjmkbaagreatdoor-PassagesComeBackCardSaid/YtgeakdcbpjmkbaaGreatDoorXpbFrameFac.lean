/- PassagesComeBack is proved: for every input the law returns true, and its argument reads afterwards as it read before. Conditions: those of the given row alone. -/
import Derived.Test.YtgeakdcbpjmkbaaGreatDoorXpbFrameOne
set_option linter.unusedVariables false
set_option linter.unusedSimpArgs false
set_option maxRecDepth 100000
namespace Go.Proofs.YtgeakdcbpjmkbaaGreatDoor
open Go Go.Eng Go.ChangeShapes Go.WideShapes Go.ChangeAt Go.RowKit
theorem and_in {a b : Bool} (h : a = true) (k : b = true) : (a && b) = true := by rw [h, k]; rfl
theorem j5wf : Rows.passagesComeBackRow.wf (OpenSpec.ofChange Rows.passagesComeBackSpec) = true := by kernel_rfl
theorem j5lo : laidOutB Tryz.pinned.checked.prog = true := by kernel_rfl
theorem j5mr : mapsRowed Tryz.pinned.checked.prog = true := by kernel_rfl
theorem j5rd : Tryz.f5.params.all (Tryz.pinned.checked.prog.readableRec ·) = true := by kernel_rfl
theorem j5nt : namedTie Tryz.pinned.checked.prog Rows.passagesComeBackRow.named Rows.passagesComeBackSpec.vars = true := by kernel_rfl
theorem j5k6 : (Rows.passagesComeBackRow.stops == []) = true := by kernel_rfl
theorem j5k7 : (Tryz.pinned.checked.prog.stops == []) = true := by kernel_rfl
theorem j5k8 : (Rows.passagesComeBackRow.knobs == []) = true := by kernel_rfl
theorem j5k9 : (Tryz.pinned.checked.prog.stopKnobs == []) = true := by kernel_rfl
theorem j5ip : (Rows.passagesComeBackRow.inPlace == Tryz.pinned.checked.prog.inPlace 5) = true := by kernel_rfl
theorem j5uf : (Rows.passagesComeBackRow.unfollowed == Tryz.pinned.checked.prog.unfollowed 5) = true := by kernel_rfl
theorem j5rc : (Rows.passagesComeBackRow.recurses == Tryz.pinned.checked.prog.recurses 5) = true := by kernel_rfl
theorem j5nm : (Rows.passagesComeBackRow.named == Tryz.pinned.checked.prog.varsNamed 5) = true := by kernel_rfl
theorem j5mp : (Rows.passagesComeBackRow.maps == (Tryz.f5.params.toList ++ Rows.passagesComeBackSpec.plain.varTypes Tryz.pinned.checked.prog).any (Tryz.pinned.checked.prog.mapsRec ·)) = true := by kernel_rfl
theorem j5ifc : (Rows.passagesComeBackRow.ifaces == (Tryz.f5.params.toList ++ Rows.passagesComeBackSpec.plain.varTypes Tryz.pinned.checked.prog).any (Tryz.pinned.checked.prog.ifacesRec ·)) = true := by kernel_rfl
theorem j5mo : (Rows.passagesComeBackRow.mapsOut == Tryz.pinned.checked.prog.mapsAmong Tryz.f5.resultTypes.toList) = true := by kernel_rfl
theorem j5lp : (Rows.passagesComeBackRow.loops == (Tryz.f5.params.toList ++ Rows.passagesComeBackSpec.plain.varTypes Tryz.pinned.checked.prog).any (Tryz.pinned.checked.prog.loopsFrom ·)) = true := by kernel_rfl
theorem j5wk : (Rows.passagesComeBackRow.wideKeys == (Tryz.f5.params.toList ++ Rows.passagesComeBackSpec.plain.varTypes Tryz.pinned.checked.prog ++ Tryz.f5.resultTypes.toList).any (Tryz.pinned.checked.prog.wideKeysFrom ·)) = true := by kernel_rfl
theorem j5vr : Rows.passagesComeBackSpec.vars.all (Tryz.pinned.checked.prog.varReadable ·) = true := by kernel_rfl
theorem j5rt : Tryz.f5.resultTypes.all (fun t => Tryz.pinned.checked.prog.readableRec t && decide (t < Tryz.pinned.checked.prog.types.size)) = true := by kernel_rfl
theorem j5io : (Rows.passagesComeBackRow.ifacesOut == Tryz.f5.resultTypes.toList.any (Tryz.pinned.checked.prog.ifacesRec ·)) = true := by kernel_rfl
theorem j5lpo : (Rows.passagesComeBackRow.loopsOut == Tryz.f5.resultTypes.toList.any (Tryz.pinned.checked.prog.loopsFrom ·)) = true := by kernel_rfl
theorem j5pk : (Rows.passagesComeBackRow.plainKeys == Tryz.pinned.checked.prog.plainKeys) = true := by kernel_rfl
theorem j5st : Rows.passagesComeBackRow.shortTexts.isNone = true := by kernel_rfl
theorem j5sh : Tryz.pinned.checked.prog.stopsHeard = true := by kernel_rfl
theorem j5me : Tryz.pinned.checked.prog.mayEnter = true := by kernel_rfl
theorem j5lf : (Rows.passagesComeBackRow.lifted == Tryz.pinned.checked.prog.liftsFinal) = true := by kernel_rfl
theorem j5mk : (Tryz.pinned.checked.prog.make == some Rows.passagesComeBackRow.make) = true := by kernel_rfl
theorem j5kd : (Rows.passagesComeBackRow.kinds == (if Rows.passagesComeBackRow.domain.isEmpty then [] else Tryz.f5.params.toList.map fun t => match Tryz.pinned.checked.prog.underlying t with | some (.int k) => some k | _ => none)) = true := by kernel_rfl
theorem j5pn : (Rows.passagesComeBackRow.pinned == Rows.passagesComeBackRow.pinnedBy) = true := by kernel_rfl
theorem j5ve : (Rows.passagesComeBackRow.veiled == (Tryz.f5.params.toList ++ Rows.passagesComeBackSpec.plain.varTypes Tryz.pinned.checked.prog ++ Tryz.f5.resultTypes.toList).any (Tryz.pinned.checked.prog.veiledRec ·)) = true := by kernel_rfl
theorem j5vf : Rows.passagesComeBackRow.veiledFits Tryz.pinned.checked.prog Tryz.f5.params.toList (Tryz.f5.params.toList ++ Rows.passagesComeBackSpec.plain.varTypes Tryz.pinned.checked.prog ++ Tryz.f5.resultTypes.toList) = true := by kernel_rfl
theorem closed5 : joinedFacts Tryz.pinned.checked.prog 5 Tryz.f5 Rows.passagesComeBackSpec Rows.passagesComeBackRow = true := by
 unfold joinedFacts
 exact (and_in (and_in (and_in (and_in (and_in (and_in (and_in (and_in (and_in (and_in (and_in (and_in (and_in (and_in (and_in (and_in (and_in (and_in (and_in (and_in (and_in (and_in (and_in (and_in (and_in (and_in (and_in (and_in (and_in (and_in (and_in j5wf j5lo) j5mr) j5rd) j5nt) j5k6) j5k7) j5k8) j5k9) j5ip) j5uf) j5rc) j5nm) j5mp) j5ifc) j5mo) j5lp) j5wk) j5vr) j5rt) j5io) j5lpo) j5pk) j5st) j5sh) j5me) j5lf) j5mk) j5kd) j5pn) j5ve) j5vf)
end Go.Proofs.YtgeakdcbpjmkbaaGreatDoor
