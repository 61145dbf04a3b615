/-
  AgreeScalars: the row and the card.
-/
import Derived.Test.YtgfgckimecpmlaaGreatDoorTg

set_option linter.unusedSimpArgs false
set_option maxRecDepth 100000
namespace Fw.Tz
open Go Go.Proofs Fw.X Go.ChangeShapes Go.WideShapes Go.ChangeAt Go.RowKit
open Go.Proofs.YtgfgckimecpmlaaGreatDoor
theorem card_hw_7 : Rows.agreeScalarsRow.wfByText (OpenSpec.ofChange Rows.agreeScalarsSpec) = true := by kernel_rfl
theorem card_hm_7 : Tryz.pinned.checked.prog.mainIs = some (true, "3ded135804764bd1d150cbd05cfce7aa3973edc858dd4c56c096dfa8fb0e30c4".toList) := by kernel_rfl
theorem card_lk_7 : true = Tryz.pinned.checked.prog.looks [] := by kernel_rfl
theorem card_ws_7 : ([27].all fun u => !Tryz.prog.wantsStandIn u) = true := by kernel_rfl
theorem card_hg_7 : false = Rows.agreeScalarsRow.goesBy Tryz.pinned.checked.prog := by kernel_rfl
theorem card_of_7 (hholds : Rows.AgreeScalarsSaid) : Rows.AgreeScalarsCardSaid :=
  Claim7.holds_tied_plain_at .later [] [.data, .data, .data, .data, .sentinel, .sentinel, .pinned] true (true, "3ded135804764bd1d150cbd05cfce7aa3973edc858dd4c56c096dfa8fb0e30c4") true
    hholds (fun _ h => by cases h) card_hw_7 (fun _ h => by cases h) agreeScalars_row_tie rfl ⟨rfl, rfl⟩ card_hm_7 rfl
    (fun f fn hf hfn => by
      obtain rfl : f = 7 := Option.some.inj ((show Tryz.prog.funcNamed "framewise/framewiselaw14.AgreeScalars" = some 7 by kernel_rfl).symm.trans hf) |>.symm
      obtain rfl : fn = Tryz.f7 := (Option.some.inj (Tryz.func7.symm.trans hfn)).symm
      exact ⟨card_lk_7, fun j t ht => by
        rw [Tryz.params7] at ht
        have hm : t ∈ [27] := by simpa using Array.mem_of_getElem? ht
        have hall : ([27].all fun u => !Tryz.prog.wantsStandIn u) = true := card_ws_7
        exact (show Tryz.prog.wantsStandIn t = false by simpa using List.all_eq_true.1 hall t hm)⟩)
    card_hg_7
end Fw.Tz
