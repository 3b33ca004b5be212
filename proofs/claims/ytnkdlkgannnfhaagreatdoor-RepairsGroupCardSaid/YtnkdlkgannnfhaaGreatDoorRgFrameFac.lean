/- RepairsGroup is proved: for every input the law returns true, and its argument reads afterwards as it read before. Conditions: those of the given row alone. -/
import Derived.Test.YtnkdlkgannnfhaaGreatDoorRgFrameOne
set_option linter.unusedVariables false
set_option linter.unusedSimpArgs false
set_option maxRecDepth 100000
namespace Go.Proofs.YtnkdlkgannnfhaaGreatDoor
open Go Go.Eng Go.ChangeShapes Go.WideShapes Go.ChangeAt Go.RowKit
theorem and_in {a b : Bool} (h : a = true) (k : b = true) : (a && b) = true := by rw [h, k]; rfl
theorem j14wf : Rows.repairsGroupRow.wf (OpenSpec.ofChange Rows.repairsGroupSpec) = true := by kernel_rfl
theorem j14lo : laidOutB Tryz.pinned.checked.prog = true := by kernel_rfl
theorem j14mr : mapsRowed Tryz.pinned.checked.prog = true := by kernel_rfl
theorem j14rd : Tryz.f14.params.all (Tryz.pinned.checked.prog.readableRec ·) = true := by kernel_rfl
theorem j14nt : namedTie Tryz.pinned.checked.prog Rows.repairsGroupRow.named Rows.repairsGroupSpec.vars = true := by kernel_rfl
theorem j14k6 : (Rows.repairsGroupRow.stops == []) = true := by kernel_rfl
theorem j14k7 : (Tryz.pinned.checked.prog.stops == []) = true := by kernel_rfl
theorem j14k8 : (Rows.repairsGroupRow.knobs == []) = true := by kernel_rfl
theorem j14k9 : (Tryz.pinned.checked.prog.stopKnobs == []) = true := by kernel_rfl
theorem j14ip : (Rows.repairsGroupRow.inPlace == Tryz.pinned.checked.prog.inPlace 14) = true := by kernel_rfl
theorem j14uf : (Rows.repairsGroupRow.unfollowed == Tryz.pinned.checked.prog.unfollowed 14) = true := by kernel_rfl
theorem j14rc : (Rows.repairsGroupRow.recurses == Tryz.pinned.checked.prog.recurses 14) = true := by kernel_rfl
theorem j14nm : (Rows.repairsGroupRow.named == Tryz.pinned.checked.prog.varsNamed 14) = true := by kernel_rfl
theorem j14mp : (Rows.repairsGroupRow.maps == (Tryz.f14.params.toList ++ Rows.repairsGroupSpec.plain.varTypes Tryz.pinned.checked.prog).any (Tryz.pinned.checked.prog.mapsRec ·)) = true := by kernel_rfl
theorem j14ifc : (Rows.repairsGroupRow.ifaces == (Tryz.f14.params.toList ++ Rows.repairsGroupSpec.plain.varTypes Tryz.pinned.checked.prog).any (Tryz.pinned.checked.prog.ifacesRec ·)) = true := by kernel_rfl
theorem j14mo : (Rows.repairsGroupRow.mapsOut == Tryz.pinned.checked.prog.mapsAmong Tryz.f14.resultTypes.toList) = true := by kernel_rfl
theorem j14lp : (Rows.repairsGroupRow.loops == (Tryz.f14.params.toList ++ Rows.repairsGroupSpec.plain.varTypes Tryz.pinned.checked.prog).any (Tryz.pinned.checked.prog.loopsFrom ·)) = true := by kernel_rfl
theorem j14wk : (Rows.repairsGroupRow.wideKeys == (Tryz.f14.params.toList ++ Rows.repairsGroupSpec.plain.varTypes Tryz.pinned.checked.prog ++ Tryz.f14.resultTypes.toList).any (Tryz.pinned.checked.prog.wideKeysFrom ·)) = true := by kernel_rfl
theorem j14vr : Rows.repairsGroupSpec.vars.all (Tryz.pinned.checked.prog.varReadable ·) = true := by kernel_rfl
theorem j14rt : Tryz.f14.resultTypes.all (fun t => Tryz.pinned.checked.prog.readableRec t && decide (t < Tryz.pinned.checked.prog.types.size)) = true := by kernel_rfl
theorem j14io : (Rows.repairsGroupRow.ifacesOut == Tryz.f14.resultTypes.toList.any (Tryz.pinned.checked.prog.ifacesRec ·)) = true := by kernel_rfl
theorem j14lpo : (Rows.repairsGroupRow.loopsOut == Tryz.f14.resultTypes.toList.any (Tryz.pinned.checked.prog.loopsFrom ·)) = true := by kernel_rfl
theorem j14pk : (Rows.repairsGroupRow.plainKeys == Tryz.pinned.checked.prog.plainKeys) = true := by kernel_rfl
theorem j14st : Rows.repairsGroupRow.shortTexts.isNone = true := by kernel_rfl
theorem j14sh : Tryz.pinned.checked.prog.stopsHeard = true := by kernel_rfl
theorem j14me : Tryz.pinned.checked.prog.mayEnter = true := by kernel_rfl
theorem j14lf : (Rows.repairsGroupRow.lifted == Tryz.pinned.checked.prog.liftsFinal) = true := by kernel_rfl
theorem j14mk : (Tryz.pinned.checked.prog.make == some Rows.repairsGroupRow.make) = true := by kernel_rfl
theorem j14kd : (Rows.repairsGroupRow.kinds == (if Rows.repairsGroupRow.domain.isEmpty then [] else Tryz.f14.params.toList.map fun t => match Tryz.pinned.checked.prog.underlying t with | some (.int k) => some k | _ => none)) = true := by kernel_rfl
theorem j14pn : (Rows.repairsGroupRow.pinned == Rows.repairsGroupRow.pinnedBy) = true := by kernel_rfl
theorem j14ve : (Rows.repairsGroupRow.veiled == (Tryz.f14.params.toList ++ Rows.repairsGroupSpec.plain.varTypes Tryz.pinned.checked.prog ++ Tryz.f14.resultTypes.toList).any (Tryz.pinned.checked.prog.veiledRec ·)) = true := by kernel_rfl
theorem j14vf : Rows.repairsGroupRow.veiledFits Tryz.pinned.checked.prog Tryz.f14.params.toList (Tryz.f14.params.toList ++ Rows.repairsGroupSpec.plain.varTypes Tryz.pinned.checked.prog ++ Tryz.f14.resultTypes.toList) = true := by kernel_rfl
theorem closed14 : joinedFacts Tryz.pinned.checked.prog 14 Tryz.f14 Rows.repairsGroupSpec Rows.repairsGroupRow = true := by
  unfold joinedFacts
  exact (and_in (and_in (and_in (and_in (and_in (and_in (and_in (and_in (and_in (and_in (and_in (and_in (and_in (and_in (and_in (and_in (and_in (and_in (and_in (and_in (and_in (and_in (and_in (and_in (and_in (and_in (and_in (and_in (and_in (and_in (and_in j14wf j14lo) j14mr) j14rd) j14nt) j14k6) j14k7) j14k8) j14k9) j14ip) j14uf) j14rc) j14nm) j14mp) j14ifc) j14mo) j14lp) j14wk) j14vr) j14rt) j14io) j14lpo) j14pk) j14st) j14sh) j14me) j14lf) j14mk) j14kd) j14pn) j14ve) j14vf)
end Go.Proofs.YtnkdlkgannnfhaaGreatDoor
