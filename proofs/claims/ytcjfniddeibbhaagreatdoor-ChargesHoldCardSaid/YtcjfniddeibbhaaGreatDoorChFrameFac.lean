/- ChargesHold is proved: for every input the law returns true, and its argument reads afterwards as it read before. Conditions: those of the given row alone. -/
import Derived.Test.YtcjfniddeibbhaaGreatDoorChFrameOne
set_option linter.unusedVariables false
set_option linter.unusedSimpArgs false
set_option maxRecDepth 100000
namespace Go.Proofs.YtcjfniddeibbhaaGreatDoor
open Go Go.Eng Go.ChangeShapes Go.WideShapes Go.ChangeAt Go.RowKit
theorem and_in {a b : Bool} (h : a = true) (k : b = true) : (a && b) = true := by rw [h, k]; rfl
theorem j9wf : Rows.chargesHoldRow.wf (OpenSpec.ofChange Rows.chargesHoldSpec) = true := by kernel_rfl
theorem j9lo : laidOutB Tryz.pinned.checked.prog = true := by kernel_rfl
theorem j9mr : mapsRowed Tryz.pinned.checked.prog = true := by kernel_rfl
theorem j9rd : Tryz.f9.params.all (Tryz.pinned.checked.prog.readableRec ·) = true := by kernel_rfl
theorem j9nt : namedTie Tryz.pinned.checked.prog Rows.chargesHoldRow.named Rows.chargesHoldSpec.vars = true := by kernel_rfl
theorem j9k6 : (Rows.chargesHoldRow.stops == []) = true := by kernel_rfl
theorem j9k7 : (Tryz.pinned.checked.prog.stops == []) = true := by kernel_rfl
theorem j9k8 : (Rows.chargesHoldRow.knobs == []) = true := by kernel_rfl
theorem j9k9 : (Tryz.pinned.checked.prog.stopKnobs == []) = true := by kernel_rfl
theorem j9ip : (Rows.chargesHoldRow.inPlace == Tryz.pinned.checked.prog.inPlace 9) = true := by kernel_rfl
theorem j9uf : (Rows.chargesHoldRow.unfollowed == Tryz.pinned.checked.prog.unfollowed 9) = true := by kernel_rfl
theorem j9rc : (Rows.chargesHoldRow.recurses == Tryz.pinned.checked.prog.recurses 9) = true := by kernel_rfl
theorem j9nm : (Rows.chargesHoldRow.named == Tryz.pinned.checked.prog.varsNamed 9) = true := by kernel_rfl
theorem j9mp : (Rows.chargesHoldRow.maps == (Tryz.f9.params.toList ++ Rows.chargesHoldSpec.plain.varTypes Tryz.pinned.checked.prog).any (Tryz.pinned.checked.prog.mapsRec ·)) = true := by kernel_rfl
theorem j9ifc : (Rows.chargesHoldRow.ifaces == (Tryz.f9.params.toList ++ Rows.chargesHoldSpec.plain.varTypes Tryz.pinned.checked.prog).any (Tryz.pinned.checked.prog.ifacesRec ·)) = true := by kernel_rfl
theorem j9mo : (Rows.chargesHoldRow.mapsOut == Tryz.pinned.checked.prog.mapsAmong Tryz.f9.resultTypes.toList) = true := by kernel_rfl
theorem j9lp : (Rows.chargesHoldRow.loops == (Tryz.f9.params.toList ++ Rows.chargesHoldSpec.plain.varTypes Tryz.pinned.checked.prog).any (Tryz.pinned.checked.prog.loopsFrom ·)) = true := by kernel_rfl
theorem j9wk : (Rows.chargesHoldRow.wideKeys == (Tryz.f9.params.toList ++ Rows.chargesHoldSpec.plain.varTypes Tryz.pinned.checked.prog ++ Tryz.f9.resultTypes.toList).any (Tryz.pinned.checked.prog.wideKeysFrom ·)) = true := by kernel_rfl
theorem j9vr : Rows.chargesHoldSpec.vars.all (Tryz.pinned.checked.prog.varReadable ·) = true := by kernel_rfl
theorem j9rt : Tryz.f9.resultTypes.all (fun t => Tryz.pinned.checked.prog.readableRec t && decide (t < Tryz.pinned.checked.prog.types.size)) = true := by kernel_rfl
theorem j9io : (Rows.chargesHoldRow.ifacesOut == Tryz.f9.resultTypes.toList.any (Tryz.pinned.checked.prog.ifacesRec ·)) = true := by kernel_rfl
theorem j9lpo : (Rows.chargesHoldRow.loopsOut == Tryz.f9.resultTypes.toList.any (Tryz.pinned.checked.prog.loopsFrom ·)) = true := by kernel_rfl
theorem j9pk : (Rows.chargesHoldRow.plainKeys == Tryz.pinned.checked.prog.plainKeys) = true := by kernel_rfl
theorem j9st : Rows.chargesHoldRow.shortTexts.isNone = true := by kernel_rfl
theorem j9sh : Tryz.pinned.checked.prog.stopsHeard = true := by kernel_rfl
theorem j9me : Tryz.pinned.checked.prog.mayEnter = true := by kernel_rfl
theorem j9lf : (Rows.chargesHoldRow.lifted == Tryz.pinned.checked.prog.liftsFinal) = true := by kernel_rfl
theorem j9mk : (Tryz.pinned.checked.prog.make == some Rows.chargesHoldRow.make) = true := by kernel_rfl
theorem j9kd : (Rows.chargesHoldRow.kinds == (if Rows.chargesHoldRow.domain.isEmpty then [] else Tryz.f9.params.toList.map fun t => match Tryz.pinned.checked.prog.underlying t with | some (.int k) => some k | _ => none)) = true := by kernel_rfl
theorem j9pn : (Rows.chargesHoldRow.pinned == Rows.chargesHoldRow.pinnedBy) = true := by kernel_rfl
theorem j9ve : (Rows.chargesHoldRow.veiled == (Tryz.f9.params.toList ++ Rows.chargesHoldSpec.plain.varTypes Tryz.pinned.checked.prog ++ Tryz.f9.resultTypes.toList).any (Tryz.pinned.checked.prog.veiledRec ·)) = true := by kernel_rfl
theorem j9vf : Rows.chargesHoldRow.veiledFits Tryz.pinned.checked.prog Tryz.f9.params.toList (Tryz.f9.params.toList ++ Rows.chargesHoldSpec.plain.varTypes Tryz.pinned.checked.prog ++ Tryz.f9.resultTypes.toList) = true := by kernel_rfl
theorem closed9 : joinedFacts Tryz.pinned.checked.prog 9 Tryz.f9 Rows.chargesHoldSpec Rows.chargesHoldRow = true := by
 unfold joinedFacts
 exact (and_in (and_in (and_in (and_in (and_in (and_in (and_in (and_in (and_in (and_in (and_in (and_in (and_in (and_in (and_in (and_in (and_in (and_in (and_in (and_in (and_in (and_in (and_in (and_in (and_in (and_in (and_in (and_in (and_in (and_in (and_in j9wf j9lo) j9mr) j9rd) j9nt) j9k6) j9k7) j9k8) j9k9) j9ip) j9uf) j9rc) j9nm) j9mp) j9ifc) j9mo) j9lp) j9wk) j9vr) j9rt) j9io) j9lpo) j9pk) j9st) j9sh) j9me) j9lf) j9mk) j9kd) j9pn) j9ve) j9vf)
end Go.Proofs.YtcjfniddeibbhaaGreatDoor
