/- TopDamagePaid is proved: for every input the law returns true, and its argument reads afterwards as it read before. Conditions: those of the given row alone. -/
import Derived.Test.YtghhghijalcdfaaGreatDoorAdFrameOne
set_option linter.unusedVariables false
set_option linter.unusedSimpArgs false
set_option maxRecDepth 100000
namespace Go.Proofs.YtghhghijalcdfaaGreatDoor
open Go Go.Eng Go.ChangeShapes Go.WideShapes Go.ChangeAt Go.RowKit
theorem and_in {a b : Bool} (h : a = true) (k : b = true) : (a && b) = true := by rw [h, k]; rfl
theorem j3wf : Rows.topDamagePaidRow.wf (OpenSpec.ofChange Rows.topDamagePaidSpec) = true := by kernel_rfl
theorem j3lo : laidOutB Tryz.pinned.checked.prog = true := by kernel_rfl
theorem j3mr : mapsRowed Tryz.pinned.checked.prog = true := by kernel_rfl
theorem j3rd : Tryz.f3.params.all (Tryz.pinned.checked.prog.readableRec ·) = true := by kernel_rfl
theorem j3nt : namedTie Tryz.pinned.checked.prog Rows.topDamagePaidRow.named Rows.topDamagePaidSpec.vars = true := by kernel_rfl
theorem j3k6 : (Rows.topDamagePaidRow.stops == []) = true := by kernel_rfl
theorem j3k7 : (Tryz.pinned.checked.prog.stops == []) = true := by kernel_rfl
theorem j3k8 : (Rows.topDamagePaidRow.knobs == []) = true := by kernel_rfl
theorem j3k9 : (Tryz.pinned.checked.prog.stopKnobs == []) = true := by kernel_rfl
theorem j3ip : (Rows.topDamagePaidRow.inPlace == Tryz.pinned.checked.prog.inPlace 3) = true := by kernel_rfl
theorem j3uf : (Rows.topDamagePaidRow.unfollowed == Tryz.pinned.checked.prog.unfollowed 3) = true := by kernel_rfl
theorem j3rc : (Rows.topDamagePaidRow.recurses == Tryz.pinned.checked.prog.recurses 3) = true := by kernel_rfl
theorem j3nm : (Rows.topDamagePaidRow.named == Tryz.pinned.checked.prog.varsNamed 3) = true := by kernel_rfl
theorem j3mp : (Rows.topDamagePaidRow.maps == (Tryz.f3.params.toList ++ Rows.topDamagePaidSpec.plain.varTypes Tryz.pinned.checked.prog).any (Tryz.pinned.checked.prog.mapsRec ·)) = true := by kernel_rfl
theorem j3ifc : (Rows.topDamagePaidRow.ifaces == (Tryz.f3.params.toList ++ Rows.topDamagePaidSpec.plain.varTypes Tryz.pinned.checked.prog).any (Tryz.pinned.checked.prog.ifacesRec ·)) = true := by kernel_rfl
theorem j3mo : (Rows.topDamagePaidRow.mapsOut == Tryz.pinned.checked.prog.mapsAmong Tryz.f3.resultTypes.toList) = true := by kernel_rfl
theorem j3lp : (Rows.topDamagePaidRow.loops == (Tryz.f3.params.toList ++ Rows.topDamagePaidSpec.plain.varTypes Tryz.pinned.checked.prog).any (Tryz.pinned.checked.prog.loopsFrom ·)) = true := by kernel_rfl
theorem j3wk : (Rows.topDamagePaidRow.wideKeys == (Tryz.f3.params.toList ++ Rows.topDamagePaidSpec.plain.varTypes Tryz.pinned.checked.prog ++ Tryz.f3.resultTypes.toList).any (Tryz.pinned.checked.prog.wideKeysFrom ·)) = true := by kernel_rfl
theorem j3vr : Rows.topDamagePaidSpec.vars.all (Tryz.pinned.checked.prog.varReadable ·) = true := by kernel_rfl
theorem j3rt : Tryz.f3.resultTypes.all (fun t => Tryz.pinned.checked.prog.readableRec t && decide (t < Tryz.pinned.checked.prog.types.size)) = true := by kernel_rfl
theorem j3io : (Rows.topDamagePaidRow.ifacesOut == Tryz.f3.resultTypes.toList.any (Tryz.pinned.checked.prog.ifacesRec ·)) = true := by kernel_rfl
theorem j3lpo : (Rows.topDamagePaidRow.loopsOut == Tryz.f3.resultTypes.toList.any (Tryz.pinned.checked.prog.loopsFrom ·)) = true := by kernel_rfl
theorem j3pk : (Rows.topDamagePaidRow.plainKeys == Tryz.pinned.checked.prog.plainKeys) = true := by kernel_rfl
theorem j3st : Rows.topDamagePaidRow.shortTexts.isNone = true := by kernel_rfl
theorem j3sh : Tryz.pinned.checked.prog.stopsHeard = true := by kernel_rfl
theorem j3me : Tryz.pinned.checked.prog.mayEnter = true := by kernel_rfl
theorem j3lf : (Rows.topDamagePaidRow.lifted == Tryz.pinned.checked.prog.liftsFinal) = true := by kernel_rfl
theorem j3mk : (Tryz.pinned.checked.prog.make == some Rows.topDamagePaidRow.make) = true := by kernel_rfl
theorem j3kd : (Rows.topDamagePaidRow.kinds == (if Rows.topDamagePaidRow.domain.isEmpty then [] else Tryz.f3.params.toList.map fun t => match Tryz.pinned.checked.prog.underlying t with | some (.int k) => some k | _ => none)) = true := by kernel_rfl
theorem j3pn : (Rows.topDamagePaidRow.pinned == Rows.topDamagePaidRow.pinnedBy) = true := by kernel_rfl
theorem j3ve : (Rows.topDamagePaidRow.veiled == (Tryz.f3.params.toList ++ Rows.topDamagePaidSpec.plain.varTypes Tryz.pinned.checked.prog ++ Tryz.f3.resultTypes.toList).any (Tryz.pinned.checked.prog.veiledRec ·)) = true := by kernel_rfl
theorem j3vf : Rows.topDamagePaidRow.veiledFits Tryz.pinned.checked.prog Tryz.f3.params.toList (Tryz.f3.params.toList ++ Rows.topDamagePaidSpec.plain.varTypes Tryz.pinned.checked.prog ++ Tryz.f3.resultTypes.toList) = true := by kernel_rfl
theorem closed3 : joinedFacts Tryz.pinned.checked.prog 3 Tryz.f3 Rows.topDamagePaidSpec Rows.topDamagePaidRow = true := by
 unfold joinedFacts; exact (and_in (and_in (and_in (and_in (and_in (and_in (and_in (and_in (and_in (and_in (and_in (and_in (and_in (and_in (and_in (and_in (and_in (and_in (and_in (and_in (and_in (and_in (and_in (and_in (and_in (and_in (and_in (and_in (and_in (and_in (and_in j3wf j3lo) j3mr) j3rd) j3nt) j3k6) j3k7) j3k8) j3k9) j3ip) j3uf) j3rc) j3nm) j3mp) j3ifc) j3mo) j3lp) j3wk) j3vr) j3rt) j3io) j3lpo) j3pk) j3st) j3sh) j3me) j3lf) j3mk) j3kd) j3pn) j3ve) j3vf)
end Go.Proofs.YtghhghijalcdfaaGreatDoor
