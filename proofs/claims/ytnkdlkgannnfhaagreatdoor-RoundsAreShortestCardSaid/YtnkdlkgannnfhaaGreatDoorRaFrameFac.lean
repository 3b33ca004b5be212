/- RoundsAreShortest is proved: for every input the law returns true, and its argument reads afterwards as it read before. Conditions: those of the given row alone. -/
import Derived.Test.YtnkdlkgannnfhaaGreatDoorRaFrameOne
set_option linter.unusedVariables false
set_option linter.unusedSimpArgs false
set_option maxRecDepth 100000
namespace Go.Proofs.YtnkdlkgannnfhaaGreatDoor
open Go Go.Eng Go.ChangeShapes Go.WideShapes Go.ChangeAt Go.RowKit
theorem and_in {a b : Bool} (h : a = true) (k : b = true) : (a && b) = true := by rw [h, k]; rfl
theorem j15wf : Rows.roundsAreShortestRow.wf (OpenSpec.ofChange Rows.roundsAreShortestSpec) = true := by kernel_rfl
theorem j15lo : laidOutB Tryz.pinned.checked.prog = true := by kernel_rfl
theorem j15mr : mapsRowed Tryz.pinned.checked.prog = true := by kernel_rfl
theorem j15rd : Tryz.f15.params.all (Tryz.pinned.checked.prog.readableRec ·) = true := by kernel_rfl
theorem j15nt : namedTie Tryz.pinned.checked.prog Rows.roundsAreShortestRow.named Rows.roundsAreShortestSpec.vars = true := by kernel_rfl
theorem j15k6 : (Rows.roundsAreShortestRow.stops == []) = true := by kernel_rfl
theorem j15k7 : (Tryz.pinned.checked.prog.stops == []) = true := by kernel_rfl
theorem j15k8 : (Rows.roundsAreShortestRow.knobs == []) = true := by kernel_rfl
theorem j15k9 : (Tryz.pinned.checked.prog.stopKnobs == []) = true := by kernel_rfl
theorem j15ip : (Rows.roundsAreShortestRow.inPlace == Tryz.pinned.checked.prog.inPlace 15) = true := by kernel_rfl
theorem j15uf : (Rows.roundsAreShortestRow.unfollowed == Tryz.pinned.checked.prog.unfollowed 15) = true := by kernel_rfl
theorem j15rc : (Rows.roundsAreShortestRow.recurses == Tryz.pinned.checked.prog.recurses 15) = true := by kernel_rfl
theorem j15nm : (Rows.roundsAreShortestRow.named == Tryz.pinned.checked.prog.varsNamed 15) = true := by kernel_rfl
theorem j15mp : (Rows.roundsAreShortestRow.maps == (Tryz.f15.params.toList ++ Rows.roundsAreShortestSpec.plain.varTypes Tryz.pinned.checked.prog).any (Tryz.pinned.checked.prog.mapsRec ·)) = true := by kernel_rfl
theorem j15ifc : (Rows.roundsAreShortestRow.ifaces == (Tryz.f15.params.toList ++ Rows.roundsAreShortestSpec.plain.varTypes Tryz.pinned.checked.prog).any (Tryz.pinned.checked.prog.ifacesRec ·)) = true := by kernel_rfl
theorem j15mo : (Rows.roundsAreShortestRow.mapsOut == Tryz.pinned.checked.prog.mapsAmong Tryz.f15.resultTypes.toList) = true := by kernel_rfl
theorem j15lp : (Rows.roundsAreShortestRow.loops == (Tryz.f15.params.toList ++ Rows.roundsAreShortestSpec.plain.varTypes Tryz.pinned.checked.prog).any (Tryz.pinned.checked.prog.loopsFrom ·)) = true := by kernel_rfl
theorem j15wk : (Rows.roundsAreShortestRow.wideKeys == (Tryz.f15.params.toList ++ Rows.roundsAreShortestSpec.plain.varTypes Tryz.pinned.checked.prog ++ Tryz.f15.resultTypes.toList).any (Tryz.pinned.checked.prog.wideKeysFrom ·)) = true := by kernel_rfl
theorem j15vr : Rows.roundsAreShortestSpec.vars.all (Tryz.pinned.checked.prog.varReadable ·) = true := by kernel_rfl
theorem j15rt : Tryz.f15.resultTypes.all (fun t => Tryz.pinned.checked.prog.readableRec t && decide (t < Tryz.pinned.checked.prog.types.size)) = true := by kernel_rfl
theorem j15io : (Rows.roundsAreShortestRow.ifacesOut == Tryz.f15.resultTypes.toList.any (Tryz.pinned.checked.prog.ifacesRec ·)) = true := by kernel_rfl
theorem j15lpo : (Rows.roundsAreShortestRow.loopsOut == Tryz.f15.resultTypes.toList.any (Tryz.pinned.checked.prog.loopsFrom ·)) = true := by kernel_rfl
theorem j15pk : (Rows.roundsAreShortestRow.plainKeys == Tryz.pinned.checked.prog.plainKeys) = true := by kernel_rfl
theorem j15st : Rows.roundsAreShortestRow.shortTexts.isNone = true := by kernel_rfl
theorem j15sh : Tryz.pinned.checked.prog.stopsHeard = true := by kernel_rfl
theorem j15me : Tryz.pinned.checked.prog.mayEnter = true := by kernel_rfl
theorem j15lf : (Rows.roundsAreShortestRow.lifted == Tryz.pinned.checked.prog.liftsFinal) = true := by kernel_rfl
theorem j15mk : (Tryz.pinned.checked.prog.make == some Rows.roundsAreShortestRow.make) = true := by kernel_rfl
theorem j15kd : (Rows.roundsAreShortestRow.kinds == (if Rows.roundsAreShortestRow.domain.isEmpty then [] else Tryz.f15.params.toList.map fun t => match Tryz.pinned.checked.prog.underlying t with | some (.int k) => some k | _ => none)) = true := by kernel_rfl
theorem j15pn : (Rows.roundsAreShortestRow.pinned == Rows.roundsAreShortestRow.pinnedBy) = true := by kernel_rfl
theorem j15ve : (Rows.roundsAreShortestRow.veiled == (Tryz.f15.params.toList ++ Rows.roundsAreShortestSpec.plain.varTypes Tryz.pinned.checked.prog ++ Tryz.f15.resultTypes.toList).any (Tryz.pinned.checked.prog.veiledRec ·)) = true := by kernel_rfl
theorem j15vf : Rows.roundsAreShortestRow.veiledFits Tryz.pinned.checked.prog Tryz.f15.params.toList (Tryz.f15.params.toList ++ Rows.roundsAreShortestSpec.plain.varTypes Tryz.pinned.checked.prog ++ Tryz.f15.resultTypes.toList) = true := by kernel_rfl
theorem closed15 : joinedFacts Tryz.pinned.checked.prog 15 Tryz.f15 Rows.roundsAreShortestSpec Rows.roundsAreShortestRow = true := by
  unfold joinedFacts
  exact (and_in (and_in (and_in (and_in (and_in (and_in (and_in (and_in (and_in (and_in (and_in (and_in (and_in (and_in (and_in (and_in (and_in (and_in (and_in (and_in (and_in (and_in (and_in (and_in (and_in (and_in (and_in (and_in (and_in (and_in (and_in j15wf j15lo) j15mr) j15rd) j15nt) j15k6) j15k7) j15k8) j15k9) j15ip) j15uf) j15rc) j15nm) j15mp) j15ifc) j15mo) j15lp) j15wk) j15vr) j15rt) j15io) j15lpo) j15pk) j15st) j15sh) j15me) j15lf) j15mk) j15kd) j15pn) j15ve) j15vf)
end Go.Proofs.YtnkdlkgannnfhaaGreatDoor
