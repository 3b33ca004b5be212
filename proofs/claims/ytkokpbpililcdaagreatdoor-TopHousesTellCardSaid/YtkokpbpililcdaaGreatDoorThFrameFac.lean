/- TopHousesTell is proved: for every input the law returns true, and its argument reads afterwards as it read before. Conditions: those of the given row alone. -/
import Derived.Test.YtkokpbpililcdaaGreatDoorThFrameOne
set_option linter.unusedVariables false
set_option linter.unusedSimpArgs false
set_option maxRecDepth 100000
namespace Go.Proofs.YtkokpbpililcdaaGreatDoor
open Go Go.Eng Go.ChangeShapes Go.WideShapes Go.ChangeAt Go.RowKit
theorem bY {a b : Bool} (h : a = true) (k : b = true) : (a && b) = true := by rw [h, k]; rfl
theorem OW : Rows.topHousesTellRow.wf (OpenSpec.ofChange Rows.topHousesTellSpec) = true := by kernel_rfl
theorem QK : laidOutB Tryz.pinned.checked.prog = true := by kernel_rfl
theorem Qt : mapsRowed Tryz.pinned.checked.prog = true := by kernel_rfl
theorem Qk : Tryz.f4.params.all (Tryz.pinned.checked.prog.readableRec ·) = true := by kernel_rfl
theorem PZ : namedTie Tryz.pinned.checked.prog Rows.topHousesTellRow.named Rows.topHousesTellSpec.vars = true := by kernel_rfl
theorem OX : (Rows.topHousesTellRow.stops == []) = true := by kernel_rfl
theorem PH : (Tryz.pinned.checked.prog.stops == []) = true := by kernel_rfl
theorem Qb : (Rows.topHousesTellRow.knobs == []) = true := by kernel_rfl
theorem QD : (Tryz.pinned.checked.prog.stopKnobs == []) = true := by kernel_rfl
theorem Pc : (Rows.topHousesTellRow.inPlace == Tryz.pinned.checked.prog.inPlace 4) = true := by kernel_rfl
theorem OK : (Rows.topHousesTellRow.unfollowed == Tryz.pinned.checked.prog.unfollowed 4) = true := by kernel_rfl
theorem OO : (Rows.topHousesTellRow.recurses == Tryz.pinned.checked.prog.recurses 4) = true := by kernel_rfl
theorem Qn : (Rows.topHousesTellRow.named == Tryz.pinned.checked.prog.varsNamed 4) = true := by kernel_rfl
theorem Ql : (Rows.topHousesTellRow.maps == (Tryz.f4.params.toList ++ Rows.topHousesTellSpec.plain.varTypes Tryz.pinned.checked.prog).any (Tryz.pinned.checked.prog.mapsRec ·)) = true := by kernel_rfl
theorem MP : (Rows.topHousesTellRow.ifaces == (Tryz.f4.params.toList ++ Rows.topHousesTellSpec.plain.varTypes Tryz.pinned.checked.prog).any (Tryz.pinned.checked.prog.ifacesRec ·)) = true := by kernel_rfl
theorem Qf : (Rows.topHousesTellRow.mapsOut == Tryz.pinned.checked.prog.mapsAmong Tryz.f4.resultTypes.toList) = true := by kernel_rfl
theorem Pt : (Rows.topHousesTellRow.loops == (Tryz.f4.params.toList ++ Rows.topHousesTellSpec.plain.varTypes Tryz.pinned.checked.prog).any (Tryz.pinned.checked.prog.loopsFrom ·)) = true := by kernel_rfl
theorem Qm : (Rows.topHousesTellRow.wideKeys == (Tryz.f4.params.toList ++ Rows.topHousesTellSpec.plain.varTypes Tryz.pinned.checked.prog ++ Tryz.f4.resultTypes.toList).any (Tryz.pinned.checked.prog.wideKeysFrom ·)) = true := by kernel_rfl
theorem PW : Rows.topHousesTellSpec.vars.all (Tryz.pinned.checked.prog.varReadable ·) = true := by kernel_rfl
theorem PN : Tryz.f4.resultTypes.all (fun t => Tryz.pinned.checked.prog.readableRec t && decide (t < Tryz.pinned.checked.prog.types.size)) = true := by kernel_rfl
theorem Pg : (Rows.topHousesTellRow.ifacesOut == Tryz.f4.resultTypes.toList.any (Tryz.pinned.checked.prog.ifacesRec ·)) = true := by kernel_rfl
theorem M5 : (Rows.topHousesTellRow.loopsOut == Tryz.f4.resultTypes.toList.any (Tryz.pinned.checked.prog.loopsFrom ·)) = true := by kernel_rfl
theorem QE : (Rows.topHousesTellRow.plainKeys == Tryz.pinned.checked.prog.plainKeys) = true := by kernel_rfl
theorem O8 : Rows.topHousesTellRow.shortTexts.isNone = true := by kernel_rfl
theorem Qy : Tryz.pinned.checked.prog.stopsHeard = true := by kernel_rfl
theorem Py : Tryz.pinned.checked.prog.mayEnter = true := by kernel_rfl
theorem Qg : (Rows.topHousesTellRow.lifted == Tryz.pinned.checked.prog.liftsFinal) = true := by kernel_rfl
theorem P7 : (Tryz.pinned.checked.prog.make == some Rows.topHousesTellRow.make) = true := by kernel_rfl
theorem P4 : (Rows.topHousesTellRow.kinds == (if Rows.topHousesTellRow.domain.isEmpty then [] else Tryz.f4.params.toList.map fun t => match Tryz.pinned.checked.prog.underlying t with | some (.int k) => some k | _ => none)) = true := by kernel_rfl
theorem OP : (Rows.topHousesTellRow.pinned == Rows.topHousesTellRow.pinnedBy) = true := by kernel_rfl
theorem OU : (Rows.topHousesTellRow.veiled == (Tryz.f4.params.toList ++ Rows.topHousesTellSpec.plain.varTypes Tryz.pinned.checked.prog ++ Tryz.f4.resultTypes.toList).any (Tryz.pinned.checked.prog.veiledRec ·)) = true := by kernel_rfl
theorem Qz : Rows.topHousesTellRow.veiledFits Tryz.pinned.checked.prog Tryz.f4.params.toList (Tryz.f4.params.toList ++ Rows.topHousesTellSpec.plain.varTypes Tryz.pinned.checked.prog ++ Tryz.f4.resultTypes.toList) = true := by kernel_rfl
theorem I6 : joinedFacts Tryz.pinned.checked.prog 4 Tryz.f4 Rows.topHousesTellSpec Rows.topHousesTellRow = true := by
 unfold joinedFacts; exact (bY (bY (bY (bY (bY (bY (bY (bY (bY (bY (bY (bY (bY (bY (bY (bY (bY (bY (bY (bY (bY (bY (bY (bY (bY (bY (bY (bY (bY (bY (bY OW QK) Qt) Qk) PZ) OX) PH) Qb) QD) Pc) OK) OO) Qn) Ql) MP) Qf) Pt) Qm) PW) PN) Pg) M5) QE) O8) Qy) Py) Qg) P7) P4) OP) OU) Qz)
end Go.Proofs.YtkokpbpililcdaaGreatDoor
