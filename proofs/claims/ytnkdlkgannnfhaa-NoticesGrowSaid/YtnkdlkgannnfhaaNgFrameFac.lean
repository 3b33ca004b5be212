/- NoticesGrow is proved: for every input the law returns true, and its argument reads afterwards as it read before. Conditions: those of the given row alone. -/
import Derived.Test.YtnkdlkgannnfhaaNgFrameOne
set_option linter.unusedVariables false
set_option linter.unusedSimpArgs false
set_option maxRecDepth 100000
namespace Go.Proofs.Ytnkdlkgannnfhaa
open Go Go.Eng Go.ChangeShapes Go.WideShapes Go.ChangeAt Go.RowKit
theorem and_in {a b : Bool} (h : a = true) (k : b = true) : (a && b) = true := by rw [h, k]; rfl
theorem j3wf : Rows.noticesGrowRow.wf (OpenSpec.ofChange Rows.noticesGrowSpec) = true := by kernel_rfl
theorem j3lo : laidOutB Try.pinned.checked.prog = true := by kernel_rfl
theorem j3mr : mapsRowed Try.pinned.checked.prog = true := by kernel_rfl
theorem j3rd : Try.f3.params.all (Try.pinned.checked.prog.readableRec ·) = true := by kernel_rfl
theorem j3nt : namedTie Try.pinned.checked.prog Rows.noticesGrowRow.named Rows.noticesGrowSpec.vars = true := by kernel_rfl
theorem j3k6 : (Rows.noticesGrowRow.stops == []) = true := by kernel_rfl
theorem j3k7 : (Try.pinned.checked.prog.stops == []) = true := by kernel_rfl
theorem j3k8 : (Rows.noticesGrowRow.knobs == []) = true := by kernel_rfl
theorem j3k9 : (Try.pinned.checked.prog.stopKnobs == []) = true := by kernel_rfl
theorem j3ip : (Rows.noticesGrowRow.inPlace == Try.pinned.checked.prog.inPlace 3) = true := by kernel_rfl
theorem j3uf : (Rows.noticesGrowRow.unfollowed == Try.pinned.checked.prog.unfollowed 3) = true := by kernel_rfl
theorem j3rc : (Rows.noticesGrowRow.recurses == Try.pinned.checked.prog.recurses 3) = true := by kernel_rfl
theorem j3nm : (Rows.noticesGrowRow.named == Try.pinned.checked.prog.varsNamed 3) = true := by kernel_rfl
theorem j3mp : (Rows.noticesGrowRow.maps == (Try.f3.params.toList ++ Rows.noticesGrowSpec.plain.varTypes Try.pinned.checked.prog).any (Try.pinned.checked.prog.mapsRec ·)) = true := by kernel_rfl
theorem j3ifc : (Rows.noticesGrowRow.ifaces == (Try.f3.params.toList ++ Rows.noticesGrowSpec.plain.varTypes Try.pinned.checked.prog).any (Try.pinned.checked.prog.ifacesRec ·)) = true := by kernel_rfl
theorem j3mo : (Rows.noticesGrowRow.mapsOut == Try.pinned.checked.prog.mapsAmong Try.f3.resultTypes.toList) = true := by kernel_rfl
theorem j3lp : (Rows.noticesGrowRow.loops == (Try.f3.params.toList ++ Rows.noticesGrowSpec.plain.varTypes Try.pinned.checked.prog).any (Try.pinned.checked.prog.loopsFrom ·)) = true := by kernel_rfl
theorem j3wk : (Rows.noticesGrowRow.wideKeys == (Try.f3.params.toList ++ Rows.noticesGrowSpec.plain.varTypes Try.pinned.checked.prog ++ Try.f3.resultTypes.toList).any (Try.pinned.checked.prog.wideKeysFrom ·)) = true := by kernel_rfl
theorem j3vr : Rows.noticesGrowSpec.vars.all (Try.pinned.checked.prog.varReadable ·) = true := by kernel_rfl
theorem j3rt : Try.f3.resultTypes.all (fun t => Try.pinned.checked.prog.readableRec t && decide (t < Try.pinned.checked.prog.types.size)) = true := by kernel_rfl
theorem j3io : (Rows.noticesGrowRow.ifacesOut == Try.f3.resultTypes.toList.any (Try.pinned.checked.prog.ifacesRec ·)) = true := by kernel_rfl
theorem j3lpo : (Rows.noticesGrowRow.loopsOut == Try.f3.resultTypes.toList.any (Try.pinned.checked.prog.loopsFrom ·)) = true := by kernel_rfl
theorem j3pk : (Rows.noticesGrowRow.plainKeys == Try.pinned.checked.prog.plainKeys) = true := by kernel_rfl
theorem j3st : Rows.noticesGrowRow.shortTexts.isNone = true := by kernel_rfl
theorem j3sh : Try.pinned.checked.prog.stopsHeard = true := by kernel_rfl
theorem j3me : Try.pinned.checked.prog.mayEnter = true := by kernel_rfl
theorem j3lf : (Rows.noticesGrowRow.lifted == Try.pinned.checked.prog.liftsFinal) = true := by kernel_rfl
theorem j3mk : (Try.pinned.checked.prog.make == some Rows.noticesGrowRow.make) = true := by kernel_rfl
theorem j3kd : (Rows.noticesGrowRow.kinds == (if Rows.noticesGrowRow.domain.isEmpty then [] else Try.f3.params.toList.map fun t => match Try.pinned.checked.prog.underlying t with | some (.int k) => some k | _ => none)) = true := by kernel_rfl
theorem j3pn : (Rows.noticesGrowRow.pinned == Rows.noticesGrowRow.pinnedBy) = true := by kernel_rfl
theorem j3ve : (Rows.noticesGrowRow.veiled == (Try.f3.params.toList ++ Rows.noticesGrowSpec.plain.varTypes Try.pinned.checked.prog ++ Try.f3.resultTypes.toList).any (Try.pinned.checked.prog.veiledRec ·)) = true := by kernel_rfl
theorem j3vf : Rows.noticesGrowRow.veiledFits Try.pinned.checked.prog Try.f3.params.toList (Try.f3.params.toList ++ Rows.noticesGrowSpec.plain.varTypes Try.pinned.checked.prog ++ Try.f3.resultTypes.toList) = true := by kernel_rfl
theorem closed3 : joinedFacts Try.pinned.checked.prog 3 Try.f3 Rows.noticesGrowSpec Rows.noticesGrowRow = true := by
  unfold joinedFacts
  exact (and_in (and_in (and_in (and_in (and_in (and_in (and_in (and_in (and_in (and_in (and_in (and_in (and_in (and_in (and_in (and_in (and_in (and_in (and_in (and_in (and_in (and_in (and_in (and_in (and_in (and_in (and_in (and_in (and_in (and_in (and_in j3wf j3lo) j3mr) j3rd) j3nt) j3k6) j3k7) j3k8) j3k9) j3ip) j3uf) j3rc) j3nm) j3mp) j3ifc) j3mo) j3lp) j3wk) j3vr) j3rt) j3io) j3lpo) j3pk) j3st) j3sh) j3me) j3lf) j3mk) j3kd) j3pn) j3ve) j3vf)
end Go.Proofs.Ytnkdlkgannnfhaa
