/- MarksComeBack is proved: for every input the law returns true, and its argument reads afterwards as it read before. Conditions: those of the given row alone. -/
import Derived.Test.YtgeakdcbpjmkbaaGreatDoorXmbFrameOne
set_option linter.unusedVariables false
set_option linter.unusedSimpArgs false
set_option maxRecDepth 100000
namespace Go.Proofs.YtgeakdcbpjmkbaaGreatDoor
open Go Go.Eng Go.ChangeShapes Go.WideShapes Go.ChangeAt Go.RowKit
theorem and_in {a b : Bool} (h : a = true) (k : b = true) : (a && b) = true := by rw [h, k]; rfl
theorem j8wf : Rows.marksComeBackRow.wf (OpenSpec.ofChange Rows.marksComeBackSpec) = true := by kernel_rfl
theorem j8lo : laidOutB Tryz.pinned.checked.prog = true := by kernel_rfl
theorem j8mr : mapsRowed Tryz.pinned.checked.prog = true := by kernel_rfl
theorem j8rd : Tryz.f8.params.all (Tryz.pinned.checked.prog.readableRec ·) = true := by kernel_rfl
theorem j8nt : namedTie Tryz.pinned.checked.prog Rows.marksComeBackRow.named Rows.marksComeBackSpec.vars = true := by kernel_rfl
theorem j8k6 : (Rows.marksComeBackRow.stops == []) = true := by kernel_rfl
theorem j8k7 : (Tryz.pinned.checked.prog.stops == []) = true := by kernel_rfl
theorem j8k8 : (Rows.marksComeBackRow.knobs == []) = true := by kernel_rfl
theorem j8k9 : (Tryz.pinned.checked.prog.stopKnobs == []) = true := by kernel_rfl
theorem j8ip : (Rows.marksComeBackRow.inPlace == Tryz.pinned.checked.prog.inPlace 8) = true := by kernel_rfl
theorem j8uf : (Rows.marksComeBackRow.unfollowed == Tryz.pinned.checked.prog.unfollowed 8) = true := by kernel_rfl
theorem j8rc : (Rows.marksComeBackRow.recurses == Tryz.pinned.checked.prog.recurses 8) = true := by kernel_rfl
theorem j8nm : (Rows.marksComeBackRow.named == Tryz.pinned.checked.prog.varsNamed 8) = true := by kernel_rfl
theorem j8mp : (Rows.marksComeBackRow.maps == (Tryz.f8.params.toList ++ Rows.marksComeBackSpec.plain.varTypes Tryz.pinned.checked.prog).any (Tryz.pinned.checked.prog.mapsRec ·)) = true := by kernel_rfl
theorem j8ifc : (Rows.marksComeBackRow.ifaces == (Tryz.f8.params.toList ++ Rows.marksComeBackSpec.plain.varTypes Tryz.pinned.checked.prog).any (Tryz.pinned.checked.prog.ifacesRec ·)) = true := by kernel_rfl
theorem j8mo : (Rows.marksComeBackRow.mapsOut == Tryz.pinned.checked.prog.mapsAmong Tryz.f8.resultTypes.toList) = true := by kernel_rfl
theorem j8lp : (Rows.marksComeBackRow.loops == (Tryz.f8.params.toList ++ Rows.marksComeBackSpec.plain.varTypes Tryz.pinned.checked.prog).any (Tryz.pinned.checked.prog.loopsFrom ·)) = true := by kernel_rfl
theorem j8wk : (Rows.marksComeBackRow.wideKeys == (Tryz.f8.params.toList ++ Rows.marksComeBackSpec.plain.varTypes Tryz.pinned.checked.prog ++ Tryz.f8.resultTypes.toList).any (Tryz.pinned.checked.prog.wideKeysFrom ·)) = true := by kernel_rfl
theorem j8vr : Rows.marksComeBackSpec.vars.all (Tryz.pinned.checked.prog.varReadable ·) = true := by kernel_rfl
theorem j8rt : Tryz.f8.resultTypes.all (fun t => Tryz.pinned.checked.prog.readableRec t && decide (t < Tryz.pinned.checked.prog.types.size)) = true := by kernel_rfl
theorem j8io : (Rows.marksComeBackRow.ifacesOut == Tryz.f8.resultTypes.toList.any (Tryz.pinned.checked.prog.ifacesRec ·)) = true := by kernel_rfl
theorem j8lpo : (Rows.marksComeBackRow.loopsOut == Tryz.f8.resultTypes.toList.any (Tryz.pinned.checked.prog.loopsFrom ·)) = true := by kernel_rfl
theorem j8pk : (Rows.marksComeBackRow.plainKeys == Tryz.pinned.checked.prog.plainKeys) = true := by kernel_rfl
theorem j8st : Rows.marksComeBackRow.shortTexts.isNone = true := by kernel_rfl
theorem j8sh : Tryz.pinned.checked.prog.stopsHeard = true := by kernel_rfl
theorem j8me : Tryz.pinned.checked.prog.mayEnter = true := by kernel_rfl
theorem j8lf : (Rows.marksComeBackRow.lifted == Tryz.pinned.checked.prog.liftsFinal) = true := by kernel_rfl
theorem j8mk : (Tryz.pinned.checked.prog.make == some Rows.marksComeBackRow.make) = true := by kernel_rfl
theorem j8kd : (Rows.marksComeBackRow.kinds == (if Rows.marksComeBackRow.domain.isEmpty then [] else Tryz.f8.params.toList.map fun t => match Tryz.pinned.checked.prog.underlying t with | some (.int k) => some k | _ => none)) = true := by kernel_rfl
theorem j8pn : (Rows.marksComeBackRow.pinned == Rows.marksComeBackRow.pinnedBy) = true := by kernel_rfl
theorem j8ve : (Rows.marksComeBackRow.veiled == (Tryz.f8.params.toList ++ Rows.marksComeBackSpec.plain.varTypes Tryz.pinned.checked.prog ++ Tryz.f8.resultTypes.toList).any (Tryz.pinned.checked.prog.veiledRec ·)) = true := by kernel_rfl
theorem j8vf : Rows.marksComeBackRow.veiledFits Tryz.pinned.checked.prog Tryz.f8.params.toList (Tryz.f8.params.toList ++ Rows.marksComeBackSpec.plain.varTypes Tryz.pinned.checked.prog ++ Tryz.f8.resultTypes.toList) = true := by kernel_rfl
theorem closed8 : joinedFacts Tryz.pinned.checked.prog 8 Tryz.f8 Rows.marksComeBackSpec Rows.marksComeBackRow = true := by
 unfold joinedFacts
 exact (and_in (and_in (and_in (and_in (and_in (and_in (and_in (and_in (and_in (and_in (and_in (and_in (and_in (and_in (and_in (and_in (and_in (and_in (and_in (and_in (and_in (and_in (and_in (and_in (and_in (and_in (and_in (and_in (and_in (and_in (and_in j8wf j8lo) j8mr) j8rd) j8nt) j8k6) j8k7) j8k8) j8k9) j8ip) j8uf) j8rc) j8nm) j8mp) j8ifc) j8mo) j8lp) j8wk) j8vr) j8rt) j8io) j8lpo) j8pk) j8st) j8sh) j8me) j8lf) j8mk) j8kd) j8pn) j8ve) j8vf)
end Go.Proofs.YtgeakdcbpjmkbaaGreatDoor
