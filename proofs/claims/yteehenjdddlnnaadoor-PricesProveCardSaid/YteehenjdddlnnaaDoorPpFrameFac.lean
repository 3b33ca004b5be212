/- PricesProve is proved: for every input the law returns true, and its argument reads afterwards as it read before. Conditions: those of the given row alone. -/
import Derived.Test.YteehenjdddlnnaaDoorPpFrameOne
set_option linter.unusedVariables false
set_option linter.unusedSimpArgs false
set_option maxRecDepth 100000
namespace Go.Proofs.YteehenjdddlnnaaDoor
open Go Go.Eng Go.ChangeShapes Go.WideShapes Go.ChangeAt Go.RowKit
theorem and_in {a b : Bool} (h : a = true) (k : b = true) : (a && b) = true := by rw [h, k]; rfl
theorem j4wf : Rows.pricesProveRow.wf (OpenSpec.ofChange Rows.pricesProveSpec) = true := by kernel_rfl
theorem j4lo : laidOutB Tryd.pinned.checked.prog = true := by kernel_rfl
theorem j4mr : mapsRowed Tryd.pinned.checked.prog = true := by kernel_rfl
theorem j4rd : Tryd.f4.params.all (Tryd.pinned.checked.prog.readableRec ·) = true := by kernel_rfl
theorem j4nt : namedTie Tryd.pinned.checked.prog Rows.pricesProveRow.named Rows.pricesProveSpec.vars = true := by kernel_rfl
theorem j4k6 : (Rows.pricesProveRow.stops == []) = true := by kernel_rfl
theorem j4k7 : (Tryd.pinned.checked.prog.stops == []) = true := by kernel_rfl
theorem j4k8 : (Rows.pricesProveRow.knobs == []) = true := by kernel_rfl
theorem j4k9 : (Tryd.pinned.checked.prog.stopKnobs == []) = true := by kernel_rfl
theorem j4ip : (Rows.pricesProveRow.inPlace == Tryd.pinned.checked.prog.inPlace 4) = true := by kernel_rfl
theorem j4uf : (Rows.pricesProveRow.unfollowed == Tryd.pinned.checked.prog.unfollowed 4) = true := by kernel_rfl
theorem j4rc : (Rows.pricesProveRow.recurses == Tryd.pinned.checked.prog.recurses 4) = true := by kernel_rfl
theorem j4nm : (Rows.pricesProveRow.named == Tryd.pinned.checked.prog.varsNamed 4) = true := by kernel_rfl
theorem j4mp : (Rows.pricesProveRow.maps == (Tryd.f4.params.toList ++ Rows.pricesProveSpec.plain.varTypes Tryd.pinned.checked.prog).any (Tryd.pinned.checked.prog.mapsRec ·)) = true := by kernel_rfl
theorem j4ifc : (Rows.pricesProveRow.ifaces == (Tryd.f4.params.toList ++ Rows.pricesProveSpec.plain.varTypes Tryd.pinned.checked.prog).any (Tryd.pinned.checked.prog.ifacesRec ·)) = true := by kernel_rfl
theorem j4mo : (Rows.pricesProveRow.mapsOut == Tryd.pinned.checked.prog.mapsAmong Tryd.f4.resultTypes.toList) = true := by kernel_rfl
theorem j4lp : (Rows.pricesProveRow.loops == (Tryd.f4.params.toList ++ Rows.pricesProveSpec.plain.varTypes Tryd.pinned.checked.prog).any (Tryd.pinned.checked.prog.loopsFrom ·)) = true := by kernel_rfl
theorem j4wk : (Rows.pricesProveRow.wideKeys == (Tryd.f4.params.toList ++ Rows.pricesProveSpec.plain.varTypes Tryd.pinned.checked.prog ++ Tryd.f4.resultTypes.toList).any (Tryd.pinned.checked.prog.wideKeysFrom ·)) = true := by kernel_rfl
theorem j4vr : Rows.pricesProveSpec.vars.all (Tryd.pinned.checked.prog.varReadable ·) = true := by kernel_rfl
theorem j4rt : Tryd.f4.resultTypes.all (fun t => Tryd.pinned.checked.prog.readableRec t && decide (t < Tryd.pinned.checked.prog.types.size)) = true := by kernel_rfl
theorem j4io : (Rows.pricesProveRow.ifacesOut == Tryd.f4.resultTypes.toList.any (Tryd.pinned.checked.prog.ifacesRec ·)) = true := by kernel_rfl
theorem j4lpo : (Rows.pricesProveRow.loopsOut == Tryd.f4.resultTypes.toList.any (Tryd.pinned.checked.prog.loopsFrom ·)) = true := by kernel_rfl
theorem j4pk : (Rows.pricesProveRow.plainKeys == Tryd.pinned.checked.prog.plainKeys) = true := by kernel_rfl
theorem j4st : Rows.pricesProveRow.shortTexts.isNone = true := by kernel_rfl
theorem j4sh : Tryd.pinned.checked.prog.stopsHeard = true := by kernel_rfl
theorem j4me : Tryd.pinned.checked.prog.mayEnter = true := by kernel_rfl
theorem j4lf : (Rows.pricesProveRow.lifted == Tryd.pinned.checked.prog.liftsFinal) = true := by kernel_rfl
theorem j4mk : (Tryd.pinned.checked.prog.make == some Rows.pricesProveRow.make) = true := by kernel_rfl
theorem j4kd : (Rows.pricesProveRow.kinds == (if Rows.pricesProveRow.domain.isEmpty then [] else Tryd.f4.params.toList.map fun t => match Tryd.pinned.checked.prog.underlying t with | some (.int k) => some k | _ => none)) = true := by kernel_rfl
theorem j4pn : (Rows.pricesProveRow.pinned == Rows.pricesProveRow.pinnedBy) = true := by kernel_rfl
theorem j4ve : (Rows.pricesProveRow.veiled == (Tryd.f4.params.toList ++ Rows.pricesProveSpec.plain.varTypes Tryd.pinned.checked.prog ++ Tryd.f4.resultTypes.toList).any (Tryd.pinned.checked.prog.veiledRec ·)) = true := by kernel_rfl
theorem j4vf : Rows.pricesProveRow.veiledFits Tryd.pinned.checked.prog Tryd.f4.params.toList (Tryd.f4.params.toList ++ Rows.pricesProveSpec.plain.varTypes Tryd.pinned.checked.prog ++ Tryd.f4.resultTypes.toList) = true := by kernel_rfl
theorem closed4 : joinedFacts Tryd.pinned.checked.prog 4 Tryd.f4 Rows.pricesProveSpec Rows.pricesProveRow = true := by
 unfold joinedFacts
 exact (and_in (and_in (and_in (and_in (and_in (and_in (and_in (and_in (and_in (and_in (and_in (and_in (and_in (and_in (and_in (and_in (and_in (and_in (and_in (and_in (and_in (and_in (and_in (and_in (and_in (and_in (and_in (and_in (and_in (and_in (and_in j4wf j4lo) j4mr) j4rd) j4nt) j4k6) j4k7) j4k8) j4k9) j4ip) j4uf) j4rc) j4nm) j4mp) j4ifc) j4mo) j4lp) j4wk) j4vr) j4rt) j4io) j4lpo) j4pk) j4st) j4sh) j4me) j4lf) j4mk) j4kd) j4pn) j4ve) j4vf)
end Go.Proofs.YteehenjdddlnnaaDoor
