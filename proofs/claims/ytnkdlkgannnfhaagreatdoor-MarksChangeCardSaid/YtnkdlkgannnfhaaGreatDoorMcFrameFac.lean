/- MarksChange is proved: for every input the law returns true, and its argument reads afterwards as it read before. Conditions: those of the given row alone. -/
import Derived.Test.YtnkdlkgannnfhaaGreatDoorMcFrameOne
set_option linter.unusedVariables false
set_option linter.unusedSimpArgs false
set_option maxRecDepth 100000
namespace Go.Proofs.YtnkdlkgannnfhaaGreatDoor
open Go Go.Eng Go.ChangeShapes Go.WideShapes Go.ChangeAt Go.RowKit
theorem and_in {a b : Bool} (h : a = true) (k : b = true) : (a && b) = true := by rw [h, k]; rfl
theorem j11wf : Rows.marksChangeRow.wf (OpenSpec.ofChange Rows.marksChangeSpec) = true := by kernel_rfl
theorem j11lo : laidOutB Tryz.pinned.checked.prog = true := by kernel_rfl
theorem j11mr : mapsRowed Tryz.pinned.checked.prog = true := by kernel_rfl
theorem j11rd : Tryz.f11.params.all (Tryz.pinned.checked.prog.readableRec ·) = true := by kernel_rfl
theorem j11nt : namedTie Tryz.pinned.checked.prog Rows.marksChangeRow.named Rows.marksChangeSpec.vars = true := by kernel_rfl
theorem j11k6 : (Rows.marksChangeRow.stops == []) = true := by kernel_rfl
theorem j11k7 : (Tryz.pinned.checked.prog.stops == []) = true := by kernel_rfl
theorem j11k8 : (Rows.marksChangeRow.knobs == []) = true := by kernel_rfl
theorem j11k9 : (Tryz.pinned.checked.prog.stopKnobs == []) = true := by kernel_rfl
theorem j11ip : (Rows.marksChangeRow.inPlace == Tryz.pinned.checked.prog.inPlace 11) = true := by kernel_rfl
theorem j11uf : (Rows.marksChangeRow.unfollowed == Tryz.pinned.checked.prog.unfollowed 11) = true := by kernel_rfl
theorem j11rc : (Rows.marksChangeRow.recurses == Tryz.pinned.checked.prog.recurses 11) = true := by kernel_rfl
theorem j11nm : (Rows.marksChangeRow.named == Tryz.pinned.checked.prog.varsNamed 11) = true := by kernel_rfl
theorem j11mp : (Rows.marksChangeRow.maps == (Tryz.f11.params.toList ++ Rows.marksChangeSpec.plain.varTypes Tryz.pinned.checked.prog).any (Tryz.pinned.checked.prog.mapsRec ·)) = true := by kernel_rfl
theorem j11ifc : (Rows.marksChangeRow.ifaces == (Tryz.f11.params.toList ++ Rows.marksChangeSpec.plain.varTypes Tryz.pinned.checked.prog).any (Tryz.pinned.checked.prog.ifacesRec ·)) = true := by kernel_rfl
theorem j11mo : (Rows.marksChangeRow.mapsOut == Tryz.pinned.checked.prog.mapsAmong Tryz.f11.resultTypes.toList) = true := by kernel_rfl
theorem j11lp : (Rows.marksChangeRow.loops == (Tryz.f11.params.toList ++ Rows.marksChangeSpec.plain.varTypes Tryz.pinned.checked.prog).any (Tryz.pinned.checked.prog.loopsFrom ·)) = true := by kernel_rfl
theorem j11wk : (Rows.marksChangeRow.wideKeys == (Tryz.f11.params.toList ++ Rows.marksChangeSpec.plain.varTypes Tryz.pinned.checked.prog ++ Tryz.f11.resultTypes.toList).any (Tryz.pinned.checked.prog.wideKeysFrom ·)) = true := by kernel_rfl
theorem j11vr : Rows.marksChangeSpec.vars.all (Tryz.pinned.checked.prog.varReadable ·) = true := by kernel_rfl
theorem j11rt : Tryz.f11.resultTypes.all (fun t => Tryz.pinned.checked.prog.readableRec t && decide (t < Tryz.pinned.checked.prog.types.size)) = true := by kernel_rfl
theorem j11io : (Rows.marksChangeRow.ifacesOut == Tryz.f11.resultTypes.toList.any (Tryz.pinned.checked.prog.ifacesRec ·)) = true := by kernel_rfl
theorem j11lpo : (Rows.marksChangeRow.loopsOut == Tryz.f11.resultTypes.toList.any (Tryz.pinned.checked.prog.loopsFrom ·)) = true := by kernel_rfl
theorem j11pk : (Rows.marksChangeRow.plainKeys == Tryz.pinned.checked.prog.plainKeys) = true := by kernel_rfl
theorem j11st : Rows.marksChangeRow.shortTexts.isNone = true := by kernel_rfl
theorem j11sh : Tryz.pinned.checked.prog.stopsHeard = true := by kernel_rfl
theorem j11me : Tryz.pinned.checked.prog.mayEnter = true := by kernel_rfl
theorem j11lf : (Rows.marksChangeRow.lifted == Tryz.pinned.checked.prog.liftsFinal) = true := by kernel_rfl
theorem j11mk : (Tryz.pinned.checked.prog.make == some Rows.marksChangeRow.make) = true := by kernel_rfl
theorem j11kd : (Rows.marksChangeRow.kinds == (if Rows.marksChangeRow.domain.isEmpty then [] else Tryz.f11.params.toList.map fun t => match Tryz.pinned.checked.prog.underlying t with | some (.int k) => some k | _ => none)) = true := by kernel_rfl
theorem j11pn : (Rows.marksChangeRow.pinned == Rows.marksChangeRow.pinnedBy) = true := by kernel_rfl
theorem j11ve : (Rows.marksChangeRow.veiled == (Tryz.f11.params.toList ++ Rows.marksChangeSpec.plain.varTypes Tryz.pinned.checked.prog ++ Tryz.f11.resultTypes.toList).any (Tryz.pinned.checked.prog.veiledRec ·)) = true := by kernel_rfl
theorem j11vf : Rows.marksChangeRow.veiledFits Tryz.pinned.checked.prog Tryz.f11.params.toList (Tryz.f11.params.toList ++ Rows.marksChangeSpec.plain.varTypes Tryz.pinned.checked.prog ++ Tryz.f11.resultTypes.toList) = true := by kernel_rfl
theorem closed11 : joinedFacts Tryz.pinned.checked.prog 11 Tryz.f11 Rows.marksChangeSpec Rows.marksChangeRow = true := by
  unfold joinedFacts
  exact (and_in (and_in (and_in (and_in (and_in (and_in (and_in (and_in (and_in (and_in (and_in (and_in (and_in (and_in (and_in (and_in (and_in (and_in (and_in (and_in (and_in (and_in (and_in (and_in (and_in (and_in (and_in (and_in (and_in (and_in (and_in j11wf j11lo) j11mr) j11rd) j11nt) j11k6) j11k7) j11k8) j11k9) j11ip) j11uf) j11rc) j11nm) j11mp) j11ifc) j11mo) j11lp) j11wk) j11vr) j11rt) j11io) j11lpo) j11pk) j11st) j11sh) j11me) j11lf) j11mk) j11kd) j11pn) j11ve) j11vf)
end Go.Proofs.YtnkdlkgannnfhaaGreatDoor
