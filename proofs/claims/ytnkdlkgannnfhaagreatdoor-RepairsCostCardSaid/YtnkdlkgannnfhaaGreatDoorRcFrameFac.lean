/- RepairsCost is proved: for every input the law returns true, and its argument reads afterwards as it read before. Conditions: those of the given row alone. -/
import Derived.Test.YtnkdlkgannnfhaaGreatDoorRcFrameOne
set_option linter.unusedVariables false
set_option linter.unusedSimpArgs false
set_option maxRecDepth 100000
namespace Go.Proofs.YtnkdlkgannnfhaaGreatDoor
open Go Go.Eng Go.ChangeShapes Go.WideShapes Go.ChangeAt Go.RowKit
theorem and_in {a b : Bool} (h : a = true) (k : b = true) : (a && b) = true := by rw [h, k]; rfl
theorem j13wf : Rows.repairsCostRow.wf (OpenSpec.ofChange Rows.repairsCostSpec) = true := by kernel_rfl
theorem j13lo : laidOutB Tryz.pinned.checked.prog = true := by kernel_rfl
theorem j13mr : mapsRowed Tryz.pinned.checked.prog = true := by kernel_rfl
theorem j13rd : Tryz.f13.params.all (Tryz.pinned.checked.prog.readableRec ·) = true := by kernel_rfl
theorem j13nt : namedTie Tryz.pinned.checked.prog Rows.repairsCostRow.named Rows.repairsCostSpec.vars = true := by kernel_rfl
theorem j13k6 : (Rows.repairsCostRow.stops == []) = true := by kernel_rfl
theorem j13k7 : (Tryz.pinned.checked.prog.stops == []) = true := by kernel_rfl
theorem j13k8 : (Rows.repairsCostRow.knobs == []) = true := by kernel_rfl
theorem j13k9 : (Tryz.pinned.checked.prog.stopKnobs == []) = true := by kernel_rfl
theorem j13ip : (Rows.repairsCostRow.inPlace == Tryz.pinned.checked.prog.inPlace 13) = true := by kernel_rfl
theorem j13uf : (Rows.repairsCostRow.unfollowed == Tryz.pinned.checked.prog.unfollowed 13) = true := by kernel_rfl
theorem j13rc : (Rows.repairsCostRow.recurses == Tryz.pinned.checked.prog.recurses 13) = true := by kernel_rfl
theorem j13nm : (Rows.repairsCostRow.named == Tryz.pinned.checked.prog.varsNamed 13) = true := by kernel_rfl
theorem j13mp : (Rows.repairsCostRow.maps == (Tryz.f13.params.toList ++ Rows.repairsCostSpec.plain.varTypes Tryz.pinned.checked.prog).any (Tryz.pinned.checked.prog.mapsRec ·)) = true := by kernel_rfl
theorem j13ifc : (Rows.repairsCostRow.ifaces == (Tryz.f13.params.toList ++ Rows.repairsCostSpec.plain.varTypes Tryz.pinned.checked.prog).any (Tryz.pinned.checked.prog.ifacesRec ·)) = true := by kernel_rfl
theorem j13mo : (Rows.repairsCostRow.mapsOut == Tryz.pinned.checked.prog.mapsAmong Tryz.f13.resultTypes.toList) = true := by kernel_rfl
theorem j13lp : (Rows.repairsCostRow.loops == (Tryz.f13.params.toList ++ Rows.repairsCostSpec.plain.varTypes Tryz.pinned.checked.prog).any (Tryz.pinned.checked.prog.loopsFrom ·)) = true := by kernel_rfl
theorem j13wk : (Rows.repairsCostRow.wideKeys == (Tryz.f13.params.toList ++ Rows.repairsCostSpec.plain.varTypes Tryz.pinned.checked.prog ++ Tryz.f13.resultTypes.toList).any (Tryz.pinned.checked.prog.wideKeysFrom ·)) = true := by kernel_rfl
theorem j13vr : Rows.repairsCostSpec.vars.all (Tryz.pinned.checked.prog.varReadable ·) = true := by kernel_rfl
theorem j13rt : Tryz.f13.resultTypes.all (fun t => Tryz.pinned.checked.prog.readableRec t && decide (t < Tryz.pinned.checked.prog.types.size)) = true := by kernel_rfl
theorem j13io : (Rows.repairsCostRow.ifacesOut == Tryz.f13.resultTypes.toList.any (Tryz.pinned.checked.prog.ifacesRec ·)) = true := by kernel_rfl
theorem j13lpo : (Rows.repairsCostRow.loopsOut == Tryz.f13.resultTypes.toList.any (Tryz.pinned.checked.prog.loopsFrom ·)) = true := by kernel_rfl
theorem j13pk : (Rows.repairsCostRow.plainKeys == Tryz.pinned.checked.prog.plainKeys) = true := by kernel_rfl
theorem j13st : Rows.repairsCostRow.shortTexts.isNone = true := by kernel_rfl
theorem j13sh : Tryz.pinned.checked.prog.stopsHeard = true := by kernel_rfl
theorem j13me : Tryz.pinned.checked.prog.mayEnter = true := by kernel_rfl
theorem j13lf : (Rows.repairsCostRow.lifted == Tryz.pinned.checked.prog.liftsFinal) = true := by kernel_rfl
theorem j13mk : (Tryz.pinned.checked.prog.make == some Rows.repairsCostRow.make) = true := by kernel_rfl
theorem j13kd : (Rows.repairsCostRow.kinds == (if Rows.repairsCostRow.domain.isEmpty then [] else Tryz.f13.params.toList.map fun t => match Tryz.pinned.checked.prog.underlying t with | some (.int k) => some k | _ => none)) = true := by kernel_rfl
theorem j13pn : (Rows.repairsCostRow.pinned == Rows.repairsCostRow.pinnedBy) = true := by kernel_rfl
theorem j13ve : (Rows.repairsCostRow.veiled == (Tryz.f13.params.toList ++ Rows.repairsCostSpec.plain.varTypes Tryz.pinned.checked.prog ++ Tryz.f13.resultTypes.toList).any (Tryz.pinned.checked.prog.veiledRec ·)) = true := by kernel_rfl
theorem j13vf : Rows.repairsCostRow.veiledFits Tryz.pinned.checked.prog Tryz.f13.params.toList (Tryz.f13.params.toList ++ Rows.repairsCostSpec.plain.varTypes Tryz.pinned.checked.prog ++ Tryz.f13.resultTypes.toList) = true := by kernel_rfl
theorem closed13 : joinedFacts Tryz.pinned.checked.prog 13 Tryz.f13 Rows.repairsCostSpec Rows.repairsCostRow = true := by
  unfold joinedFacts
  exact (and_in (and_in (and_in (and_in (and_in (and_in (and_in (and_in (and_in (and_in (and_in (and_in (and_in (and_in (and_in (and_in (and_in (and_in (and_in (and_in (and_in (and_in (and_in (and_in (and_in (and_in (and_in (and_in (and_in (and_in (and_in j13wf j13lo) j13mr) j13rd) j13nt) j13k6) j13k7) j13k8) j13k9) j13ip) j13uf) j13rc) j13nm) j13mp) j13ifc) j13mo) j13lp) j13wk) j13vr) j13rt) j13io) j13lpo) j13pk) j13st) j13sh) j13me) j13lf) j13mk) j13kd) j13pn) j13ve) j13vf)
end Go.Proofs.YtnkdlkgannnfhaaGreatDoor
