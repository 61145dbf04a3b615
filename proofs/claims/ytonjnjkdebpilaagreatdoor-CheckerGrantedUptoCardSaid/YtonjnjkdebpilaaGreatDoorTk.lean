/-
  CheckerGranted: the card.
-/
import Derived.Test.YtonjnjkdebpilaaGreatDoorTg

set_option linter.unusedSimpArgs false
set_option linter.unusedVariables false
set_option maxRecDepth 100000
namespace Fw.Tz
open Go Go.Proofs Fw.X Go.ChangeShapes Go.WideShapes Go.ChangeAt Go.RowKit
open Go.Proofs.YtonjnjkdebpilaaGreatDoor
theorem card_hw_3 : Rows.checkerGrantedUptoRow.wfByText (Rows.OpenSpec.upto Rows.checkerGrantedSpec) = true := by kernel_rfl
theorem card_hm_3 : Tryz.pinned.checked.prog.mainIs = some (true, "ec9277052aeae87f76b444373fa973b406e156d0c23d8569b32ae81346eb29a9".toList) := by kernel_rfl
theorem card_lk_3 : true = Tryz.pinned.checked.prog.looks [] := by kernel_rfl
theorem card_ws_3 : ([24, 32].all fun u => !Tryz.prog.wantsStandIn u) = true := by kernel_rfl
theorem card_hg_3 : false = Rows.checkerGrantedUptoRow.goesBy Tryz.pinned.checked.prog := by kernel_rfl
theorem card_of_3 (hholds : Rows.CheckerGrantedUptoSaid) : Rows.CheckerGrantedUptoCardSaid :=
  Claim7.holds_tied_plain_at .later [] [.data, .data, .data, .data, .sentinel, .sentinel, .listed, .data, .pinned] true (true, "ec9277052aeae87f76b444373fa973b406e156d0c23d8569b32ae81346eb29a9") true
    hholds (fun _ h => by cases h) card_hw_3 (fun _ h => by cases h) checkerGrantedUpto_row_tie rfl ⟨rfl, rfl⟩ card_hm_3 rfl
    (fun f fn hf hfn => by
      obtain rfl : f = 3 := Option.some.inj ((show Tryz.prog.funcNamed "framewise/framewiselaw33.CheckerGranted" = some 3 by kernel_rfl).symm.trans hf) |>.symm
      obtain rfl : fn = Tryz.f3 := (Option.some.inj (Tryz.func3.symm.trans hfn)).symm
      exact ⟨card_lk_3, fun j t ht => by
        rw [Tryz.params3] at ht
        have hm : t ∈ [24, 32] := by simpa using Array.mem_of_getElem? ht
        have hall : ([24, 32].all fun u => !Tryz.prog.wantsStandIn u) = true := card_ws_3
        exact (show Tryz.prog.wantsStandIn t = false by simpa using List.all_eq_true.1 hall t hm)⟩)
    card_hg_3
end Fw.Tz
