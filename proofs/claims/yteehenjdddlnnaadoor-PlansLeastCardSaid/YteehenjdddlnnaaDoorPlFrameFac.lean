/- PlansLeast is proved: for every input the law returns true, and its argument reads afterwards as it read before. Conditions: those of the given row alone. -/
import Derived.Test.YteehenjdddlnnaaDoorPlFrameOne
set_option linter.unusedVariables false
set_option linter.unusedSimpArgs false
set_option maxRecDepth 100000
namespace Go.Proofs.YteehenjdddlnnaaDoor
open Go Go.Eng Go.ChangeShapes Go.WideShapes Go.ChangeAt Go.RowKit
theorem and_in {a b : Bool} (h : a = true) (k : b = true) : (a && b) = true := by rw [h, k]; rfl
theorem j3wf : Rows.plansLeastRow.wf (OpenSpec.ofChange Rows.plansLeastSpec) = true := by kernel_rfl
theorem j3lo : laidOutB Tryd.pinned.checked.prog = true := by kernel_rfl
theorem j3mr : mapsRowed Tryd.pinned.checked.prog = true := by kernel_rfl
theorem j3rd : Tryd.f3.params.all (Tryd.pinned.checked.prog.readableRec ·) = true := by kernel_rfl
theorem j3nt : namedTie Tryd.pinned.checked.prog Rows.plansLeastRow.named Rows.plansLeastSpec.vars = true := by kernel_rfl
theorem j3k6 : (Rows.plansLeastRow.stops == []) = true := by kernel_rfl
theorem j3k7 : (Tryd.pinned.checked.prog.stops == []) = true := by kernel_rfl
theorem j3k8 : (Rows.plansLeastRow.knobs == []) = true := by kernel_rfl
theorem j3k9 : (Tryd.pinned.checked.prog.stopKnobs == []) = true := by kernel_rfl
theorem j3ip : (Rows.plansLeastRow.inPlace == Tryd.pinned.checked.prog.inPlace 3) = true := by kernel_rfl
theorem j3uf : (Rows.plansLeastRow.unfollowed == Tryd.pinned.checked.prog.unfollowed 3) = true := by kernel_rfl
theorem j3rc : (Rows.plansLeastRow.recurses == Tryd.pinned.checked.prog.recurses 3) = true := by kernel_rfl
theorem j3nm : (Rows.plansLeastRow.named == Tryd.pinned.checked.prog.varsNamed 3) = true := by kernel_rfl
theorem j3mp : (Rows.plansLeastRow.maps == (Tryd.f3.params.toList ++ Rows.plansLeastSpec.plain.varTypes Tryd.pinned.checked.prog).any (Tryd.pinned.checked.prog.mapsRec ·)) = true := by kernel_rfl
theorem j3ifc : (Rows.plansLeastRow.ifaces == (Tryd.f3.params.toList ++ Rows.plansLeastSpec.plain.varTypes Tryd.pinned.checked.prog).any (Tryd.pinned.checked.prog.ifacesRec ·)) = true := by kernel_rfl
theorem j3mo : (Rows.plansLeastRow.mapsOut == Tryd.pinned.checked.prog.mapsAmong Tryd.f3.resultTypes.toList) = true := by kernel_rfl
theorem j3lp : (Rows.plansLeastRow.loops == (Tryd.f3.params.toList ++ Rows.plansLeastSpec.plain.varTypes Tryd.pinned.checked.prog).any (Tryd.pinned.checked.prog.loopsFrom ·)) = true := by kernel_rfl
theorem j3wk : (Rows.plansLeastRow.wideKeys == (Tryd.f3.params.toList ++ Rows.plansLeastSpec.plain.varTypes Tryd.pinned.checked.prog ++ Tryd.f3.resultTypes.toList).any (Tryd.pinned.checked.prog.wideKeysFrom ·)) = true := by kernel_rfl
theorem j3vr : Rows.plansLeastSpec.vars.all (Tryd.pinned.checked.prog.varReadable ·) = true := by kernel_rfl
theorem j3rt : Tryd.f3.resultTypes.all (fun t => Tryd.pinned.checked.prog.readableRec t && decide (t < Tryd.pinned.checked.prog.types.size)) = true := by kernel_rfl
theorem j3io : (Rows.plansLeastRow.ifacesOut == Tryd.f3.resultTypes.toList.any (Tryd.pinned.checked.prog.ifacesRec ·)) = true := by kernel_rfl
theorem j3lpo : (Rows.plansLeastRow.loopsOut == Tryd.f3.resultTypes.toList.any (Tryd.pinned.checked.prog.loopsFrom ·)) = true := by kernel_rfl
theorem j3pk : (Rows.plansLeastRow.plainKeys == Tryd.pinned.checked.prog.plainKeys) = true := by kernel_rfl
theorem j3st : Rows.plansLeastRow.shortTexts.isNone = true := by kernel_rfl
theorem j3sh : Tryd.pinned.checked.prog.stopsHeard = true := by kernel_rfl
theorem j3me : Tryd.pinned.checked.prog.mayEnter = true := by kernel_rfl
theorem j3lf : (Rows.plansLeastRow.lifted == Tryd.pinned.checked.prog.liftsFinal) = true := by kernel_rfl
theorem j3mk : (Tryd.pinned.checked.prog.make == some Rows.plansLeastRow.make) = true := by kernel_rfl
theorem j3kd : (Rows.plansLeastRow.kinds == (if Rows.plansLeastRow.domain.isEmpty then [] else Tryd.f3.params.toList.map fun t => match Tryd.pinned.checked.prog.underlying t with | some (.int k) => some k | _ => none)) = true := by kernel_rfl
theorem j3pn : (Rows.plansLeastRow.pinned == Rows.plansLeastRow.pinnedBy) = true := by kernel_rfl
theorem j3ve : (Rows.plansLeastRow.veiled == (Tryd.f3.params.toList ++ Rows.plansLeastSpec.plain.varTypes Tryd.pinned.checked.prog ++ Tryd.f3.resultTypes.toList).any (Tryd.pinned.checked.prog.veiledRec ·)) = true := by kernel_rfl
theorem j3vf : Rows.plansLeastRow.veiledFits Tryd.pinned.checked.prog Tryd.f3.params.toList (Tryd.f3.params.toList ++ Rows.plansLeastSpec.plain.varTypes Tryd.pinned.checked.prog ++ Tryd.f3.resultTypes.toList) = true := by kernel_rfl
theorem closed3 : joinedFacts Tryd.pinned.checked.prog 3 Tryd.f3 Rows.plansLeastSpec Rows.plansLeastRow = true := by
 unfold joinedFacts
 exact (and_in (and_in (and_in (and_in (and_in (and_in (and_in (and_in (and_in (and_in (and_in (and_in (and_in (and_in (and_in (and_in (and_in (and_in (and_in (and_in (and_in (and_in (and_in (and_in (and_in (and_in (and_in (and_in (and_in (and_in (and_in j3wf j3lo) j3mr) j3rd) j3nt) j3k6) j3k7) j3k8) j3k9) j3ip) j3uf) j3rc) j3nm) j3mp) j3ifc) j3mo) j3lp) j3wk) j3vr) j3rt) j3io) j3lpo) j3pk) j3st) j3sh) j3me) j3lf) j3mk) j3kd) j3pn) j3ve) j3vf)
end Go.Proofs.YteehenjdddlnnaaDoor
