/- MoveTexts is proved: for every input the law returns true, and its argument reads afterwards as it read before. Conditions: those of the given row alone. -/
import Derived.Test.YtgeakdcbpjmkbaaGreatDoorXmtFrameOne
set_option linter.unusedVariables false
set_option linter.unusedSimpArgs false
set_option maxRecDepth 100000
namespace Go.Proofs.YtgeakdcbpjmkbaaGreatDoor
open Go Go.Eng Go.ChangeShapes Go.WideShapes Go.ChangeAt Go.RowKit
theorem and_in {a b : Bool} (h : a = true) (k : b = true) : (a && b) = true := by rw [h, k]; rfl
theorem j6wf : Rows.moveTextsRow.wf (OpenSpec.ofChange Rows.moveTextsSpec) = true := by kernel_rfl
theorem j6lo : laidOutB Tryz.pinned.checked.prog = true := by kernel_rfl
theorem j6mr : mapsRowed Tryz.pinned.checked.prog = true := by kernel_rfl
theorem j6rd : Tryz.f6.params.all (Tryz.pinned.checked.prog.readableRec ·) = true := by kernel_rfl
theorem j6nt : namedTie Tryz.pinned.checked.prog Rows.moveTextsRow.named Rows.moveTextsSpec.vars = true := by kernel_rfl
theorem j6k6 : (Rows.moveTextsRow.stops == []) = true := by kernel_rfl
theorem j6k7 : (Tryz.pinned.checked.prog.stops == []) = true := by kernel_rfl
theorem j6k8 : (Rows.moveTextsRow.knobs == []) = true := by kernel_rfl
theorem j6k9 : (Tryz.pinned.checked.prog.stopKnobs == []) = true := by kernel_rfl
theorem j6ip : (Rows.moveTextsRow.inPlace == Tryz.pinned.checked.prog.inPlace 6) = true := by kernel_rfl
theorem j6uf : (Rows.moveTextsRow.unfollowed == Tryz.pinned.checked.prog.unfollowed 6) = true := by kernel_rfl
theorem j6rc : (Rows.moveTextsRow.recurses == Tryz.pinned.checked.prog.recurses 6) = true := by kernel_rfl
theorem j6nm : (Rows.moveTextsRow.named == Tryz.pinned.checked.prog.varsNamed 6) = true := by kernel_rfl
theorem j6mp : (Rows.moveTextsRow.maps == (Tryz.f6.params.toList ++ Rows.moveTextsSpec.plain.varTypes Tryz.pinned.checked.prog).any (Tryz.pinned.checked.prog.mapsRec ·)) = true := by kernel_rfl
theorem j6ifc : (Rows.moveTextsRow.ifaces == (Tryz.f6.params.toList ++ Rows.moveTextsSpec.plain.varTypes Tryz.pinned.checked.prog).any (Tryz.pinned.checked.prog.ifacesRec ·)) = true := by kernel_rfl
theorem j6mo : (Rows.moveTextsRow.mapsOut == Tryz.pinned.checked.prog.mapsAmong Tryz.f6.resultTypes.toList) = true := by kernel_rfl
theorem j6lp : (Rows.moveTextsRow.loops == (Tryz.f6.params.toList ++ Rows.moveTextsSpec.plain.varTypes Tryz.pinned.checked.prog).any (Tryz.pinned.checked.prog.loopsFrom ·)) = true := by kernel_rfl
theorem j6wk : (Rows.moveTextsRow.wideKeys == (Tryz.f6.params.toList ++ Rows.moveTextsSpec.plain.varTypes Tryz.pinned.checked.prog ++ Tryz.f6.resultTypes.toList).any (Tryz.pinned.checked.prog.wideKeysFrom ·)) = true := by kernel_rfl
theorem j6vr : Rows.moveTextsSpec.vars.all (Tryz.pinned.checked.prog.varReadable ·) = true := by kernel_rfl
theorem j6rt : Tryz.f6.resultTypes.all (fun t => Tryz.pinned.checked.prog.readableRec t && decide (t < Tryz.pinned.checked.prog.types.size)) = true := by kernel_rfl
theorem j6io : (Rows.moveTextsRow.ifacesOut == Tryz.f6.resultTypes.toList.any (Tryz.pinned.checked.prog.ifacesRec ·)) = true := by kernel_rfl
theorem j6lpo : (Rows.moveTextsRow.loopsOut == Tryz.f6.resultTypes.toList.any (Tryz.pinned.checked.prog.loopsFrom ·)) = true := by kernel_rfl
theorem j6pk : (Rows.moveTextsRow.plainKeys == Tryz.pinned.checked.prog.plainKeys) = true := by kernel_rfl
theorem j6st : Rows.moveTextsRow.shortTexts.isNone = true := by kernel_rfl
theorem j6sh : Tryz.pinned.checked.prog.stopsHeard = true := by kernel_rfl
theorem j6me : Tryz.pinned.checked.prog.mayEnter = true := by kernel_rfl
theorem j6lf : (Rows.moveTextsRow.lifted == Tryz.pinned.checked.prog.liftsFinal) = true := by kernel_rfl
theorem j6mk : (Tryz.pinned.checked.prog.make == some Rows.moveTextsRow.make) = true := by kernel_rfl
theorem j6kd : (Rows.moveTextsRow.kinds == (if Rows.moveTextsRow.domain.isEmpty then [] else Tryz.f6.params.toList.map fun t => match Tryz.pinned.checked.prog.underlying t with | some (.int k) => some k | _ => none)) = true := by kernel_rfl
theorem j6pn : (Rows.moveTextsRow.pinned == Rows.moveTextsRow.pinnedBy) = true := by kernel_rfl
theorem j6ve : (Rows.moveTextsRow.veiled == (Tryz.f6.params.toList ++ Rows.moveTextsSpec.plain.varTypes Tryz.pinned.checked.prog ++ Tryz.f6.resultTypes.toList).any (Tryz.pinned.checked.prog.veiledRec ·)) = true := by kernel_rfl
theorem j6vf : Rows.moveTextsRow.veiledFits Tryz.pinned.checked.prog Tryz.f6.params.toList (Tryz.f6.params.toList ++ Rows.moveTextsSpec.plain.varTypes Tryz.pinned.checked.prog ++ Tryz.f6.resultTypes.toList) = true := by kernel_rfl
theorem closed6 : joinedFacts Tryz.pinned.checked.prog 6 Tryz.f6 Rows.moveTextsSpec Rows.moveTextsRow = true := by
 unfold joinedFacts
 exact (and_in (and_in (and_in (and_in (and_in (and_in (and_in (and_in (and_in (and_in (and_in (and_in (and_in (and_in (and_in (and_in (and_in (and_in (and_in (and_in (and_in (and_in (and_in (and_in (and_in (and_in (and_in (and_in (and_in (and_in (and_in j6wf j6lo) j6mr) j6rd) j6nt) j6k6) j6k7) j6k8) j6k9) j6ip) j6uf) j6rc) j6nm) j6mp) j6ifc) j6mo) j6lp) j6wk) j6vr) j6rt) j6io) j6lpo) j6pk) j6st) j6sh) j6me) j6lf) j6mk) j6kd) j6pn) j6ve) j6vf)
end Go.Proofs.YtgeakdcbpjmkbaaGreatDoor
