/- BooksBalance is proved: for every input the law returns true, and its argument reads afterwards as it read before. Conditions: those of the given row alone. -/
import Derived.Test.YtodakofifpaljaaGreatDoorBbFrameOne
set_option linter.unusedVariables false
set_option linter.unusedSimpArgs false
set_option maxRecDepth 100000
namespace Go.Proofs.YtodakofifpaljaaGreatDoor
open Go Go.Eng Go.ChangeShapes Go.WideShapes Go.ChangeAt Go.RowKit
theorem cd {a b : Bool} (h : a = true) (k : b = true) : (a && b) = true := by rw [h, k]; rfl
theorem Pk : Rows.booksBalanceRow.wf (OpenSpec.ofChange Rows.booksBalanceSpec) = true := by kernel_rfl
theorem Pm : laidOutB Tryz.pinned.checked.prog = true := by kernel_rfl
theorem PP : mapsRowed Tryz.pinned.checked.prog = true := by kernel_rfl
theorem OW : Tryz.f3.params.all (Tryz.pinned.checked.prog.readableRec ·) = true := by kernel_rfl
theorem PS : namedTie Tryz.pinned.checked.prog Rows.booksBalanceRow.named Rows.booksBalanceSpec.vars = true := by kernel_rfl
theorem Oo : (Rows.booksBalanceRow.stops == []) = true := by kernel_rfl
theorem QA : (Tryz.pinned.checked.prog.stops == []) = true := by kernel_rfl
theorem Pe : (Rows.booksBalanceRow.knobs == []) = true := by kernel_rfl
theorem OE : (Tryz.pinned.checked.prog.stopKnobs == []) = true := by kernel_rfl
theorem OS : (Rows.booksBalanceRow.inPlace == Tryz.pinned.checked.prog.inPlace 3) = true := by kernel_rfl
theorem OZ : (Rows.booksBalanceRow.unfollowed == Tryz.pinned.checked.prog.unfollowed 3) = true := by kernel_rfl
theorem Oj : (Rows.booksBalanceRow.recurses == Tryz.pinned.checked.prog.recurses 3) = true := by kernel_rfl
theorem PD : (Rows.booksBalanceRow.named == Tryz.pinned.checked.prog.varsNamed 3) = true := by kernel_rfl
theorem OT : (Rows.booksBalanceRow.maps == (Tryz.f3.params.toList ++ Rows.booksBalanceSpec.plain.varTypes Tryz.pinned.checked.prog).any (Tryz.pinned.checked.prog.mapsRec ·)) = true := by kernel_rfl
theorem M8 : (Rows.booksBalanceRow.ifaces == (Tryz.f3.params.toList ++ Rows.booksBalanceSpec.plain.varTypes Tryz.pinned.checked.prog).any (Tryz.pinned.checked.prog.ifacesRec ·)) = true := by kernel_rfl
theorem Oy : (Rows.booksBalanceRow.mapsOut == Tryz.pinned.checked.prog.mapsAmong Tryz.f3.resultTypes.toList) = true := by kernel_rfl
theorem Qx : (Rows.booksBalanceRow.loops == (Tryz.f3.params.toList ++ Rows.booksBalanceSpec.plain.varTypes Tryz.pinned.checked.prog).any (Tryz.pinned.checked.prog.loopsFrom ·)) = true := by kernel_rfl
theorem Oh : (Rows.booksBalanceRow.wideKeys == (Tryz.f3.params.toList ++ Rows.booksBalanceSpec.plain.varTypes Tryz.pinned.checked.prog ++ Tryz.f3.resultTypes.toList).any (Tryz.pinned.checked.prog.wideKeysFrom ·)) = true := by kernel_rfl
theorem PG : Rows.booksBalanceSpec.vars.all (Tryz.pinned.checked.prog.varReadable ·) = true := by kernel_rfl
theorem Qm : Tryz.f3.resultTypes.all (fun t => Tryz.pinned.checked.prog.readableRec t && decide (t < Tryz.pinned.checked.prog.types.size)) = true := by kernel_rfl
theorem Qd : (Rows.booksBalanceRow.ifacesOut == Tryz.f3.resultTypes.toList.any (Tryz.pinned.checked.prog.ifacesRec ·)) = true := by kernel_rfl
theorem Mn : (Rows.booksBalanceRow.loopsOut == Tryz.f3.resultTypes.toList.any (Tryz.pinned.checked.prog.loopsFrom ·)) = true := by kernel_rfl
theorem PY : (Rows.booksBalanceRow.plainKeys == Tryz.pinned.checked.prog.plainKeys) = true := by kernel_rfl
theorem Pt : Rows.booksBalanceRow.shortTexts.isNone = true := by kernel_rfl
theorem Qj : Tryz.pinned.checked.prog.stopsHeard = true := by kernel_rfl
theorem Pb : Tryz.pinned.checked.prog.mayEnter = true := by kernel_rfl
theorem Ow : (Rows.booksBalanceRow.lifted == Tryz.pinned.checked.prog.liftsFinal) = true := by kernel_rfl
theorem Of : (Tryz.pinned.checked.prog.make == some Rows.booksBalanceRow.make) = true := by kernel_rfl
theorem OM : (Rows.booksBalanceRow.kinds == (if Rows.booksBalanceRow.domain.isEmpty then [] else Tryz.f3.params.toList.map fun t => match Tryz.pinned.checked.prog.underlying t with | some (.int k) => some k | _ => none)) = true := by kernel_rfl
theorem Qv : (Rows.booksBalanceRow.pinned == Rows.booksBalanceRow.pinnedBy) = true := by kernel_rfl
theorem PN : (Rows.booksBalanceRow.veiled == (Tryz.f3.params.toList ++ Rows.booksBalanceSpec.plain.varTypes Tryz.pinned.checked.prog ++ Tryz.f3.resultTypes.toList).any (Tryz.pinned.checked.prog.veiledRec ·)) = true := by kernel_rfl
theorem PA : Rows.booksBalanceRow.veiledFits Tryz.pinned.checked.prog Tryz.f3.params.toList (Tryz.f3.params.toList ++ Rows.booksBalanceSpec.plain.varTypes Tryz.pinned.checked.prog ++ Tryz.f3.resultTypes.toList) = true := by kernel_rfl
theorem H0 : joinedFacts Tryz.pinned.checked.prog 3 Tryz.f3 Rows.booksBalanceSpec Rows.booksBalanceRow = true := by
 unfold joinedFacts; exact (cd (cd (cd (cd (cd (cd (cd (cd (cd (cd (cd (cd (cd (cd (cd (cd (cd (cd (cd (cd (cd (cd (cd (cd (cd (cd (cd (cd (cd (cd (cd Pk Pm) PP) OW) PS) Oo) QA) Pe) OE) OS) OZ) Oj) PD) OT) M8) Oy) Qx) Oh) PG) Qm) Qd) Mn) PY) Pt) Qj) Pb) Ow) Of) OM) Qv) PN) PA)
end Go.Proofs.YtodakofifpaljaaGreatDoor
