/-
  AgreeDims: the row and the card.
-/
import Derived.Test.YtgfgckimecpmlaaGreatDoorTg

set_option linter.unusedSimpArgs false
set_option maxRecDepth 100000
namespace Fw.Tz
open Go Go.Proofs Fw.X Go.ChangeShapes Go.WideShapes Go.ChangeAt Go.RowKit
open Go.Proofs.YtgfgckimecpmlaaGreatDoor
theorem card_hw_8 : Rows.agreeDimsRow.wfByText (OpenSpec.ofChange Rows.agreeDimsSpec) = true := by kernel_rfl
theorem card_hm_8 : Tryz.pinned.checked.prog.mainIs = some (true, "3ded135804764bd1d150cbd05cfce7aa3973edc858dd4c56c096dfa8fb0e30c4".toList) := by kernel_rfl
theorem card_lk_8 : true = Tryz.pinned.checked.prog.looks [] := by kernel_rfl
theorem card_ws_8 : ([60, 61].all fun u => !Tryz.prog.wantsStandIn u) = true := by kernel_rfl
theorem card_hg_8 : false = Rows.agreeDimsRow.goesBy Tryz.pinned.checked.prog := by kernel_rfl
theorem card_of_8 (hholds : Rows.AgreeDimsSaid) : Rows.AgreeDimsCardSaid :=
  Claim7.holds_tied_plain_at .later [] [.data, .data, .data, .data, .sentinel, .sentinel, .pinned] true (true, "3ded135804764bd1d150cbd05cfce7aa3973edc858dd4c56c096dfa8fb0e30c4") true
    hholds (fun _ h => by cases h) card_hw_8 (fun _ h => by cases h) agreeDims_row_tie rfl ⟨rfl, rfl⟩ card_hm_8 rfl
    (fun f fn hf hfn => by
      obtain rfl : f = 8 := Option.some.inj ((show Tryz.prog.funcNamed "framewise/framewiselaw14.AgreeDims" = some 8 by kernel_rfl).symm.trans hf) |>.symm
      obtain rfl : fn = Tryz.f8 := (Option.some.inj (Tryz.func8.symm.trans hfn)).symm
      exact ⟨card_lk_8, fun j t ht => by
        rw [Tryz.params8] at ht
        have hm : t ∈ [60, 61] := by simpa using Array.mem_of_getElem? ht
        have hall : ([60, 61].all fun u => !Tryz.prog.wantsStandIn u) = true := card_ws_8
        exact (show Tryz.prog.wantsStandIn t = false by simpa using List.all_eq_true.1 hall t hm)⟩)
    card_hg_8
end Fw.Tz
