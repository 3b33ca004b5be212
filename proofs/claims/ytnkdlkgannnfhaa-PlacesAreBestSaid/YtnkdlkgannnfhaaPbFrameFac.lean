/- PlacesAreBest is proved: for every input the law returns true, and its argument reads afterwards as it read before. Conditions: those of the given row alone. -/
import Derived.Test.YtnkdlkgannnfhaaPbFrameOne
set_option linter.unusedVariables false
set_option linter.unusedSimpArgs false
set_option maxRecDepth 100000
namespace Go.Proofs.Ytnkdlkgannnfhaa
open Go Go.Eng Go.ChangeShapes Go.WideShapes Go.ChangeAt Go.RowKit
theorem and_in {a b : Bool} (h : a = true) (k : b = true) : (a && b) = true := by rw [h, k]; rfl
theorem j4wf : Rows.placesAreBestRow.wf (OpenSpec.ofChange Rows.placesAreBestSpec) = true := by kernel_rfl
theorem j4lo : laidOutB Try.pinned.checked.prog = true := by kernel_rfl
theorem j4mr : mapsRowed Try.pinned.checked.prog = true := by kernel_rfl
theorem j4rd : Try.f4.params.all (Try.pinned.checked.prog.readableRec ·) = true := by kernel_rfl
theorem j4nt : namedTie Try.pinned.checked.prog Rows.placesAreBestRow.named Rows.placesAreBestSpec.vars = true := by kernel_rfl
theorem j4k6 : (Rows.placesAreBestRow.stops == []) = true := by kernel_rfl
theorem j4k7 : (Try.pinned.checked.prog.stops == []) = true := by kernel_rfl
theorem j4k8 : (Rows.placesAreBestRow.knobs == []) = true := by kernel_rfl
theorem j4k9 : (Try.pinned.checked.prog.stopKnobs == []) = true := by kernel_rfl
theorem j4ip : (Rows.placesAreBestRow.inPlace == Try.pinned.checked.prog.inPlace 4) = true := by kernel_rfl
theorem j4uf : (Rows.placesAreBestRow.unfollowed == Try.pinned.checked.prog.unfollowed 4) = true := by kernel_rfl
theorem j4rc : (Rows.placesAreBestRow.recurses == Try.pinned.checked.prog.recurses 4) = true := by kernel_rfl
theorem j4nm : (Rows.placesAreBestRow.named == Try.pinned.checked.prog.varsNamed 4) = true := by kernel_rfl
theorem j4mp : (Rows.placesAreBestRow.maps == (Try.f4.params.toList ++ Rows.placesAreBestSpec.plain.varTypes Try.pinned.checked.prog).any (Try.pinned.checked.prog.mapsRec ·)) = true := by kernel_rfl
theorem j4ifc : (Rows.placesAreBestRow.ifaces == (Try.f4.params.toList ++ Rows.placesAreBestSpec.plain.varTypes Try.pinned.checked.prog).any (Try.pinned.checked.prog.ifacesRec ·)) = true := by kernel_rfl
theorem j4mo : (Rows.placesAreBestRow.mapsOut == Try.pinned.checked.prog.mapsAmong Try.f4.resultTypes.toList) = true := by kernel_rfl
theorem j4lp : (Rows.placesAreBestRow.loops == (Try.f4.params.toList ++ Rows.placesAreBestSpec.plain.varTypes Try.pinned.checked.prog).any (Try.pinned.checked.prog.loopsFrom ·)) = true := by kernel_rfl
theorem j4wk : (Rows.placesAreBestRow.wideKeys == (Try.f4.params.toList ++ Rows.placesAreBestSpec.plain.varTypes Try.pinned.checked.prog ++ Try.f4.resultTypes.toList).any (Try.pinned.checked.prog.wideKeysFrom ·)) = true := by kernel_rfl
theorem j4vr : Rows.placesAreBestSpec.vars.all (Try.pinned.checked.prog.varReadable ·) = true := by kernel_rfl
theorem j4rt : Try.f4.resultTypes.all (fun t => Try.pinned.checked.prog.readableRec t && decide (t < Try.pinned.checked.prog.types.size)) = true := by kernel_rfl
theorem j4io : (Rows.placesAreBestRow.ifacesOut == Try.f4.resultTypes.toList.any (Try.pinned.checked.prog.ifacesRec ·)) = true := by kernel_rfl
theorem j4lpo : (Rows.placesAreBestRow.loopsOut == Try.f4.resultTypes.toList.any (Try.pinned.checked.prog.loopsFrom ·)) = true := by kernel_rfl
theorem j4pk : (Rows.placesAreBestRow.plainKeys == Try.pinned.checked.prog.plainKeys) = true := by kernel_rfl
theorem j4st : Rows.placesAreBestRow.shortTexts.isNone = true := by kernel_rfl
theorem j4sh : Try.pinned.checked.prog.stopsHeard = true := by kernel_rfl
theorem j4me : Try.pinned.checked.prog.mayEnter = true := by kernel_rfl
theorem j4lf : (Rows.placesAreBestRow.lifted == Try.pinned.checked.prog.liftsFinal) = true := by kernel_rfl
theorem j4mk : (Try.pinned.checked.prog.make == some Rows.placesAreBestRow.make) = true := by kernel_rfl
theorem j4kd : (Rows.placesAreBestRow.kinds == (if Rows.placesAreBestRow.domain.isEmpty then [] else Try.f4.params.toList.map fun t => match Try.pinned.checked.prog.underlying t with | some (.int k) => some k | _ => none)) = true := by kernel_rfl
theorem j4pn : (Rows.placesAreBestRow.pinned == Rows.placesAreBestRow.pinnedBy) = true := by kernel_rfl
theorem j4ve : (Rows.placesAreBestRow.veiled == (Try.f4.params.toList ++ Rows.placesAreBestSpec.plain.varTypes Try.pinned.checked.prog ++ Try.f4.resultTypes.toList).any (Try.pinned.checked.prog.veiledRec ·)) = true := by kernel_rfl
theorem j4vf : Rows.placesAreBestRow.veiledFits Try.pinned.checked.prog Try.f4.params.toList (Try.f4.params.toList ++ Rows.placesAreBestSpec.plain.varTypes Try.pinned.checked.prog ++ Try.f4.resultTypes.toList) = true := by kernel_rfl
theorem closed4 : joinedFacts Try.pinned.checked.prog 4 Try.f4 Rows.placesAreBestSpec Rows.placesAreBestRow = true := by
  unfold joinedFacts
  exact (and_in (and_in (and_in (and_in (and_in (and_in (and_in (and_in (and_in (and_in (and_in (and_in (and_in (and_in (and_in (and_in (and_in (and_in (and_in (and_in (and_in (and_in (and_in (and_in (and_in (and_in (and_in (and_in (and_in (and_in (and_in j4wf j4lo) j4mr) j4rd) j4nt) j4k6) j4k7) j4k8) j4k9) j4ip) j4uf) j4rc) j4nm) j4mp) j4ifc) j4mo) j4lp) j4wk) j4vr) j4rt) j4io) j4lpo) j4pk) j4st) j4sh) j4me) j4lf) j4mk) j4kd) j4pn) j4ve) j4vf)
end Go.Proofs.Ytnkdlkgannnfhaa
