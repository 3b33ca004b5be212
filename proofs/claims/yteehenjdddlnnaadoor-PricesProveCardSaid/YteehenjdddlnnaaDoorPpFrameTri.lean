/- PricesProve is proved: for every input the law returns true, and its argument reads afterwards as it read before. Conditions: those of the given row alone. -/
import Derived.Test.YteehenjdddlnnaaDoorPpFrameTwo
set_option linter.unusedVariables false
set_option linter.unusedSimpArgs false
set_option maxRecDepth 100000
namespace Go.Proofs.YteehenjdddlnnaaDoor
open Go Go.Eng Go.ChangeShapes Go.WideShapes Go.ChangeAt Go.RowKit
theorem row4 (hlaw : Law 4) : Rows.PricesProveSaid :=
 OpenClaim.holds_of_wide 4 Tryd.f4 rfl rfl rfl rfl rfl rfl rfl ⟨rfl, rfl, rfl, rfl, rfl⟩ rfl rfl rfl rfl rfl named4 Tryd.func4 closed4 inst4 wrap4
  (fun os started H enc _ => lift4 hlaw os started H enc)
end Go.Proofs.YteehenjdddlnnaaDoor
set_option maxRecDepth 100000
namespace Go.Proofs.YteehenjdddlnnaaDoor
open Go Go.Eng Go.ChangeShapes Go.WideShapes Go.ChangeAt Go.RowKit
theorem noStand22 : Tryd.pinned.checked.prog.wantsStandIn 22 = false := by kernel_rfl
theorem mainIs' : Tryd.pinned.checked.prog.mainIs = some (true, Rows.pricesProveCard.stood.harness.2.toList) := by kernel_rfl
theorem noLooks : false = Tryd.pinned.checked.prog.looks [] := by kernel_rfl
theorem wf4 : Rows.pricesProveRow.wfByText (OpenSpec.ofChange Rows.pricesProveSpec) = true := by kernel_rfl
theorem goes4 : false = Rows.pricesProveRow.goesBy Tryd.pinned.checked.prog := by kernel_rfl
theorem par4 (fn : Func) (hfn : Tryd.pinned.checked.prog.funcs[4]? = some fn) (j t : Nat) (ht : fn.params[j]? = some t) : t = 22 := by
 obtain rfl : fn = Tryd.f4 := (Option.some.inj (Tryd.func4.symm.trans hfn)).symm
 rw [Tryd.params4] at ht
 simpa using Array.mem_of_getElem? ht
theorem card4 (hlaw : Law 4) : Rows.PricesProveCardSaid :=
 Claim7.holds_tied_plain_at .later [] [.data, .pinned] true Rows.pricesProveCard.stood.harness false (row4 hlaw) (fun _ h => by cases h) wf4 (fun _ h => by cases h) pricesProve_row_tie rfl ⟨rfl, rfl⟩ mainIs' rfl
  (fun f fn hf hfn => by
    have e : f = 4 := Option.some.inj (hf.symm.trans named4)
    rw [e] at hfn
    exact ⟨noLooks, fun j t ht => by rw [par4 fn hfn j t ht]; exact noStand22⟩) goes4
end Go.Proofs.YteehenjdddlnnaaDoor
