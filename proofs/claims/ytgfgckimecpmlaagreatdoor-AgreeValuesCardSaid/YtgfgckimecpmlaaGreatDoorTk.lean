/-
  AgreeValues: the row and the card.
-/
import Derived.Test.YtgfgckimecpmlaaGreatDoorTg

set_option linter.unusedSimpArgs false
set_option maxRecDepth 100000
namespace Fw.Tz
open Go Go.Proofs Fw.X Go.ChangeShapes Go.WideShapes Go.ChangeAt Go.RowKit
open Go.Proofs.YtgfgckimecpmlaaGreatDoor
theorem card_hw_9 : Rows.agreeValuesRow.wfByText (OpenSpec.ofChange Rows.agreeValuesSpec) = true := by kernel_rfl
theorem card_hm_9 : Tryz.pinned.checked.prog.mainIs = some (true, "3ded135804764bd1d150cbd05cfce7aa3973edc858dd4c56c096dfa8fb0e30c4".toList) := by kernel_rfl
theorem card_lk_9 : true = Tryz.pinned.checked.prog.looks [] := by kernel_rfl
theorem card_ws_9 : ([32, 66].all fun u => !Tryz.prog.wantsStandIn u) = true := by kernel_rfl
theorem card_hg_9 : false = Rows.agreeValuesRow.goesBy Tryz.pinned.checked.prog := by kernel_rfl
theorem card_of_9 (hholds : Rows.AgreeValuesSaid) : Rows.AgreeValuesCardSaid :=
  Claim7.holds_tied_plain_at .later [] [.data, .data, .data, .data, .sentinel, .sentinel, .pinned] true (true, "3ded135804764bd1d150cbd05cfce7aa3973edc858dd4c56c096dfa8fb0e30c4") true
    hholds (fun _ h => by cases h) card_hw_9 (fun _ h => by cases h) agreeValues_row_tie rfl ⟨rfl, rfl⟩ card_hm_9 rfl
    (fun f fn hf hfn => by
      obtain rfl : f = 9 := Option.some.inj ((show Tryz.prog.funcNamed "framewise/framewiselaw14.AgreeValues" = some 9 by kernel_rfl).symm.trans hf) |>.symm
      obtain rfl : fn = Tryz.f9 := (Option.some.inj (Tryz.func9.symm.trans hfn)).symm
      exact ⟨card_lk_9, fun j t ht => by
        rw [Tryz.params9] at ht
        have hm : t ∈ [32, 66] := by simpa using Array.mem_of_getElem? ht
        have hall : ([32, 66].all fun u => !Tryz.prog.wantsStandIn u) = true := card_ws_9
        exact (show Tryz.prog.wantsStandIn t = false by simpa using List.all_eq_true.1 hall t hm)⟩)
    card_hg_9
end Fw.Tz
