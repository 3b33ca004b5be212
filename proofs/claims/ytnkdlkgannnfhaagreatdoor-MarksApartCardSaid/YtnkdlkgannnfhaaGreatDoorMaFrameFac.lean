/- MarksApart is proved: for every input the law returns true, and its argument reads afterwards as it read before. Conditions: those of the given row alone. -/
import Derived.Test.YtnkdlkgannnfhaaGreatDoorMaFrameOne
set_option linter.unusedVariables false
set_option linter.unusedSimpArgs false
set_option maxRecDepth 100000
namespace Go.Proofs.YtnkdlkgannnfhaaGreatDoor
open Go Go.Eng Go.ChangeShapes Go.WideShapes Go.ChangeAt Go.RowKit
theorem and_in {a b : Bool} (h : a = true) (k : b = true) : (a && b) = true := by rw [h, k]; rfl
theorem j6wf : Rows.marksApartRow.wf (OpenSpec.ofChange Rows.marksApartSpec) = true := by kernel_rfl
theorem j6lo : laidOutB Tryz.pinned.checked.prog = true := by kernel_rfl
theorem j6mr : mapsRowed Tryz.pinned.checked.prog = true := by kernel_rfl
theorem j6rd : Tryz.f6.params.all (Tryz.pinned.checked.prog.readableRec ·) = true := by kernel_rfl
theorem j6nt : namedTie Tryz.pinned.checked.prog Rows.marksApartRow.named Rows.marksApartSpec.vars = true := by kernel_rfl
theorem j6k6 : (Rows.marksApartRow.stops == []) = true := by kernel_rfl
theorem j6k7 : (Tryz.pinned.checked.prog.stops == []) = true := by kernel_rfl
theorem j6k8 : (Rows.marksApartRow.knobs == []) = true := by kernel_rfl
theorem j6k9 : (Tryz.pinned.checked.prog.stopKnobs == []) = true := by kernel_rfl
theorem j6ip : (Rows.marksApartRow.inPlace == Tryz.pinned.checked.prog.inPlace 6) = true := by kernel_rfl
theorem j6uf : (Rows.marksApartRow.unfollowed == Tryz.pinned.checked.prog.unfollowed 6) = true := by kernel_rfl
theorem j6rc : (Rows.marksApartRow.recurses == Tryz.pinned.checked.prog.recurses 6) = true := by kernel_rfl
theorem j6nm : (Rows.marksApartRow.named == Tryz.pinned.checked.prog.varsNamed 6) = true := by kernel_rfl
theorem j6mp : (Rows.marksApartRow.maps == (Tryz.f6.params.toList ++ Rows.marksApartSpec.plain.varTypes Tryz.pinned.checked.prog).any (Tryz.pinned.checked.prog.mapsRec ·)) = true := by kernel_rfl
theorem j6ifc : (Rows.marksApartRow.ifaces == (Tryz.f6.params.toList ++ Rows.marksApartSpec.plain.varTypes Tryz.pinned.checked.prog).any (Tryz.pinned.checked.prog.ifacesRec ·)) = true := by kernel_rfl
theorem j6mo : (Rows.marksApartRow.mapsOut == Tryz.pinned.checked.prog.mapsAmong Tryz.f6.resultTypes.toList) = true := by kernel_rfl
theorem j6lp : (Rows.marksApartRow.loops == (Tryz.f6.params.toList ++ Rows.marksApartSpec.plain.varTypes Tryz.pinned.checked.prog).any (Tryz.pinned.checked.prog.loopsFrom ·)) = true := by kernel_rfl
theorem j6wk : (Rows.marksApartRow.wideKeys == (Tryz.f6.params.toList ++ Rows.marksApartSpec.plain.varTypes Tryz.pinned.checked.prog ++ Tryz.f6.resultTypes.toList).any (Tryz.pinned.checked.prog.wideKeysFrom ·)) = true := by kernel_rfl
theorem j6vr : Rows.marksApartSpec.vars.all (Tryz.pinned.checked.prog.varReadable ·) = true := by kernel_rfl
theorem j6rt : Tryz.f6.resultTypes.all (fun t => Tryz.pinned.checked.prog.readableRec t && decide (t < Tryz.pinned.checked.prog.types.size)) = true := by kernel_rfl
theorem j6io : (Rows.marksApartRow.ifacesOut == Tryz.f6.resultTypes.toList.any (Tryz.pinned.checked.prog.ifacesRec ·)) = true := by kernel_rfl
theorem j6lpo : (Rows.marksApartRow.loopsOut == Tryz.f6.resultTypes.toList.any (Tryz.pinned.checked.prog.loopsFrom ·)) = true := by kernel_rfl
theorem j6pk : (Rows.marksApartRow.plainKeys == Tryz.pinned.checked.prog.plainKeys) = true := by kernel_rfl
theorem j6st : Rows.marksApartRow.shortTexts.isNone = true := by kernel_rfl
theorem j6sh : Tryz.pinned.checked.prog.stopsHeard = true := by kernel_rfl
theorem j6me : Tryz.pinned.checked.prog.mayEnter = true := by kernel_rfl
theorem j6lf : (Rows.marksApartRow.lifted == Tryz.pinned.checked.prog.liftsFinal) = true := by kernel_rfl
theorem j6mk : (Tryz.pinned.checked.prog.make == some Rows.marksApartRow.make) = true := by kernel_rfl
theorem j6kd : (Rows.marksApartRow.kinds == (if Rows.marksApartRow.domain.isEmpty then [] else Tryz.f6.params.toList.map fun t => match Tryz.pinned.checked.prog.underlying t with | some (.int k) => some k | _ => none)) = true := by kernel_rfl
theorem j6pn : (Rows.marksApartRow.pinned == Rows.marksApartRow.pinnedBy) = true := by kernel_rfl
theorem j6ve : (Rows.marksApartRow.veiled == (Tryz.f6.params.toList ++ Rows.marksApartSpec.plain.varTypes Tryz.pinned.checked.prog ++ Tryz.f6.resultTypes.toList).any (Tryz.pinned.checked.prog.veiledRec ·)) = true := by kernel_rfl
theorem j6vf : Rows.marksApartRow.veiledFits Tryz.pinned.checked.prog Tryz.f6.params.toList (Tryz.f6.params.toList ++ Rows.marksApartSpec.plain.varTypes Tryz.pinned.checked.prog ++ Tryz.f6.resultTypes.toList) = true := by kernel_rfl
theorem closed6 : joinedFacts Tryz.pinned.checked.prog 6 Tryz.f6 Rows.marksApartSpec Rows.marksApartRow = true := by
  unfold joinedFacts
  exact (and_in (and_in (and_in (and_in (and_in (and_in (and_in (and_in (and_in (and_in (and_in (and_in (and_in (and_in (and_in (and_in (and_in (and_in (and_in (and_in (and_in (and_in (and_in (and_in (and_in (and_in (and_in (and_in (and_in (and_in (and_in j6wf j6lo) j6mr) j6rd) j6nt) j6k6) j6k7) j6k8) j6k9) j6ip) j6uf) j6rc) j6nm) j6mp) j6ifc) j6mo) j6lp) j6wk) j6vr) j6rt) j6io) j6lpo) j6pk) j6st) j6sh) j6me) j6lf) j6mk) j6kd) j6pn) j6ve) j6vf)
end Go.Proofs.YtnkdlkgannnfhaaGreatDoor
