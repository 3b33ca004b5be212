/- PlansAreCheapest is proved: for every input the law returns true, and its argument reads afterwards as it read before. Conditions: those of the given row alone. -/
import Derived.Test.YteehenjdddlnnaaGreatDoorPchFrameOne
set_option linter.unusedVariables false
set_option linter.unusedSimpArgs false
set_option maxRecDepth 100000
namespace Go.Proofs.YteehenjdddlnnaaGreatDoor
open Go Go.Eng Go.ChangeShapes Go.WideShapes Go.ChangeAt Go.RowKit
theorem and_in {a b : Bool} (h : a = true) (k : b = true) : (a && b) = true := by rw [h, k]; rfl
theorem j5wf : Rows.plansAreCheapestRow.wf (OpenSpec.ofChange Rows.plansAreCheapestSpec) = true := by kernel_rfl
theorem j5lo : laidOutB Tryz.pinned.checked.prog = true := by kernel_rfl
theorem j5mr : mapsRowed Tryz.pinned.checked.prog = true := by kernel_rfl
theorem j5rd : Tryz.f5.params.all (Tryz.pinned.checked.prog.readableRec ·) = true := by kernel_rfl
theorem j5nt : namedTie Tryz.pinned.checked.prog Rows.plansAreCheapestRow.named Rows.plansAreCheapestSpec.vars = true := by kernel_rfl
theorem j5k6 : (Rows.plansAreCheapestRow.stops == []) = true := by kernel_rfl
theorem j5k7 : (Tryz.pinned.checked.prog.stops == []) = true := by kernel_rfl
theorem j5k8 : (Rows.plansAreCheapestRow.knobs == []) = true := by kernel_rfl
theorem j5k9 : (Tryz.pinned.checked.prog.stopKnobs == []) = true := by kernel_rfl
theorem j5ip : (Rows.plansAreCheapestRow.inPlace == Tryz.pinned.checked.prog.inPlace 5) = true := by kernel_rfl
theorem j5uf : (Rows.plansAreCheapestRow.unfollowed == Tryz.pinned.checked.prog.unfollowed 5) = true := by kernel_rfl
theorem j5rc : (Rows.plansAreCheapestRow.recurses == Tryz.pinned.checked.prog.recurses 5) = true := by kernel_rfl
theorem j5nm : (Rows.plansAreCheapestRow.named == Tryz.pinned.checked.prog.varsNamed 5) = true := by kernel_rfl
theorem j5mp : (Rows.plansAreCheapestRow.maps == (Tryz.f5.params.toList ++ Rows.plansAreCheapestSpec.plain.varTypes Tryz.pinned.checked.prog).any (Tryz.pinned.checked.prog.mapsRec ·)) = true := by kernel_rfl
theorem j5ifc : (Rows.plansAreCheapestRow.ifaces == (Tryz.f5.params.toList ++ Rows.plansAreCheapestSpec.plain.varTypes Tryz.pinned.checked.prog).any (Tryz.pinned.checked.prog.ifacesRec ·)) = true := by kernel_rfl
theorem j5mo : (Rows.plansAreCheapestRow.mapsOut == Tryz.pinned.checked.prog.mapsAmong Tryz.f5.resultTypes.toList) = true := by kernel_rfl
theorem j5lp : (Rows.plansAreCheapestRow.loops == (Tryz.f5.params.toList ++ Rows.plansAreCheapestSpec.plain.varTypes Tryz.pinned.checked.prog).any (Tryz.pinned.checked.prog.loopsFrom ·)) = true := by kernel_rfl
theorem j5wk : (Rows.plansAreCheapestRow.wideKeys == (Tryz.f5.params.toList ++ Rows.plansAreCheapestSpec.plain.varTypes Tryz.pinned.checked.prog ++ Tryz.f5.resultTypes.toList).any (Tryz.pinned.checked.prog.wideKeysFrom ·)) = true := by kernel_rfl
theorem j5vr : Rows.plansAreCheapestSpec.vars.all (Tryz.pinned.checked.prog.varReadable ·) = true := by kernel_rfl
theorem j5rt : Tryz.f5.resultTypes.all (fun t => Tryz.pinned.checked.prog.readableRec t && decide (t < Tryz.pinned.checked.prog.types.size)) = true := by kernel_rfl
theorem j5io : (Rows.plansAreCheapestRow.ifacesOut == Tryz.f5.resultTypes.toList.any (Tryz.pinned.checked.prog.ifacesRec ·)) = true := by kernel_rfl
theorem j5lpo : (Rows.plansAreCheapestRow.loopsOut == Tryz.f5.resultTypes.toList.any (Tryz.pinned.checked.prog.loopsFrom ·)) = true := by kernel_rfl
theorem j5pk : (Rows.plansAreCheapestRow.plainKeys == Tryz.pinned.checked.prog.plainKeys) = true := by kernel_rfl
theorem j5st : Rows.plansAreCheapestRow.shortTexts.isNone = true := by kernel_rfl
theorem j5sh : Tryz.pinned.checked.prog.stopsHeard = true := by kernel_rfl
theorem j5me : Tryz.pinned.checked.prog.mayEnter = true := by kernel_rfl
theorem j5lf : (Rows.plansAreCheapestRow.lifted == Tryz.pinned.checked.prog.liftsFinal) = true := by kernel_rfl
theorem j5mk : (Tryz.pinned.checked.prog.make == some Rows.plansAreCheapestRow.make) = true := by kernel_rfl
theorem j5kd : (Rows.plansAreCheapestRow.kinds == (if Rows.plansAreCheapestRow.domain.isEmpty then [] else Tryz.f5.params.toList.map fun t => match Tryz.pinned.checked.prog.underlying t with | some (.int k) => some k | _ => none)) = true := by kernel_rfl
theorem j5pn : (Rows.plansAreCheapestRow.pinned == Rows.plansAreCheapestRow.pinnedBy) = true := by kernel_rfl
theorem j5ve : (Rows.plansAreCheapestRow.veiled == (Tryz.f5.params.toList ++ Rows.plansAreCheapestSpec.plain.varTypes Tryz.pinned.checked.prog ++ Tryz.f5.resultTypes.toList).any (Tryz.pinned.checked.prog.veiledRec ·)) = true := by kernel_rfl
theorem j5vf : Rows.plansAreCheapestRow.veiledFits Tryz.pinned.checked.prog Tryz.f5.params.toList (Tryz.f5.params.toList ++ Rows.plansAreCheapestSpec.plain.varTypes Tryz.pinned.checked.prog ++ Tryz.f5.resultTypes.toList) = true := by kernel_rfl
theorem closed5 : joinedFacts Tryz.pinned.checked.prog 5 Tryz.f5 Rows.plansAreCheapestSpec Rows.plansAreCheapestRow = true := by
 unfold joinedFacts
 exact (and_in (and_in (and_in (and_in (and_in (and_in (and_in (and_in (and_in (and_in (and_in (and_in (and_in (and_in (and_in (and_in (and_in (and_in (and_in (and_in (and_in (and_in (and_in (and_in (and_in (and_in (and_in (and_in (and_in (and_in (and_in j5wf j5lo) j5mr) j5rd) j5nt) j5k6) j5k7) j5k8) j5k9) j5ip) j5uf) j5rc) j5nm) j5mp) j5ifc) j5mo) j5lp) j5wk) j5vr) j5rt) j5io) j5lpo) j5pk) j5st) j5sh) j5me) j5lf) j5mk) j5kd) j5pn) j5ve) j5vf)
end Go.Proofs.YteehenjdddlnnaaGreatDoor
