/-
  AgreeValues: the row and the card.
-/
import Derived.Test.YtgfgckimecpmlaaGreatDoorTg
import Derived.Test.YtgfgckimecpmlaaGreatDoorTo

set_option linter.unusedSimpArgs false
set_option maxRecDepth 100000
namespace Fw.Tz
open Go Go.Proofs Fw.X Go.ChangeShapes Go.WideShapes Go.ChangeAt Go.RowKit
open Go.Proofs.YtgfgckimecpmlaaGreatDoor
theorem lifted_9 (os : Os) (started : os.Started) (H : Type) (enc : TypeId × Value → H) :
    ReturnsInHanded {} Tryz.checked os 9 .any (fun w args => (Rows.agreeValuesSpec.pre enc Tryz.prog Tryz.f9 [] false w args ∧ laidMetH Tryz.prog laidT w) ∧ sizedMet enc Tryz.prog Tryz.f9 (OpenSpec.ofChange Rows.agreeValuesSpec) false w args)
      (Rows.agreeValuesSpec.post enc Tryz.prog Tryz.f9 false true false false) := by
  refine wrap (C := Tryz.checked) (X := fun w _ => laidMetH Tryz.prog laidT w) (fun _ _ _ hh h => h.of_heap hh) own started (by kernel_rfl) Tryz.func9
    (ChangeSpec.witness_shaped (enc := enc) (C := Tryz.checked) (os := os) (X := fun w _ => laidMetH Tryz.prog laidT w) false (World.laidAll Tryz.prog os laidT) #[.agg #[.int .i64 0, .int .i64 0, .string ByteArray.empty, .string ByteArray.empty, .slice none 0 0, .string ByteArray.empty, .string ByteArray.empty, .slice none 0 0, .slice none 0 0, .slice none 0 0, .string ByteArray.empty, .string ByteArray.empty, .slice none 0 0, .string ByteArray.empty, .string ByteArray.empty, .slice none 0 0, .int .i64 0, .slice none 0 0], .slice none 0 0] 8 (World.laidAll_os _ _ _)
      (World.shaped_of_ZipB (by kernel_rfl) (by kernel_rfl)) (by kernel_rfl) (by kernel_rfl) (by kernel_rfl)
      (by rw [MakeChecks.laidMetH_plain _ _ _ (by kernel_rfl)]; exact laidMet_laidAll _ (by kernel_rfl) (by kernel_rfl))) ?_
  intro W base args ds gs before hval0 hW hsh hL
  have hval : ∀ (j : Nat) t v, Tryz.f9.params[j]? = some t → args[j]? = some v → Value.okWide Tryz.prog W .any base t v := hval0
  have hW' := hW
  obtain ⟨p, q, hA0, hV, rfl, _, _⟩ := hW
  have hA : DataW.TrodAll enc Tryz.prog W 0 (fun _ => true) true Tryz.f9.params.toList args.toList ds p := hA0
  have hA1 := hA
  rw [Tryz.params9] at hA hval
  obtain ⟨v0, v1, d0, d1, p0, p1, rfl, rfl, rfl, h0, h1⟩ := trodAll_two hA
  obtain ⟨rfl, rfl⟩ := trodVars_none hV
  obtain ⟨n0, k0⟩ := h0
  obtain ⟨cs, rfl, -⟩ := okWide_struct Tryz.underlying32 (hval 0 32 v0 rfl rfl)
  obtain ⟨c, hwd, r0⟩ := eCon n0 _ _ k0
  obtain ⟨n1, k1⟩ := h1
  obtain ⟨a0, a1, a2, rfl⟩ := okWide_slice Tryz.underlying66 (hval 1 66 v1 rfl rfl)
  obtain ⟨vals, g1, r1⟩ := eVals n1 _ _ k1
  simp only [List.append_nil] at hW'
  refine (calls_of_pc (Lv.law_values (w0_of hL hsh) c hwd vals (Nat.lt_of_le_of_lt g1.2 maxLen_lt)) (vs := #[.agg cs, .slice a0 a1 a2]) ?_).mono fun e W' hp => ?_
  · simp only [RVs, and_true]
    exact ⟨rv_agg r0 (Con.ds_cells c), rv_of_one rfl r1 rfl⟩
  · obtain ⟨x, rfl, hb, hx⟩ := hp
    rw [RV.bool hx]
    exact ⟨_, rfl, _, _, _, [], _, [], hW', trodAll_mk1 (shut_bool Tryz.underlying4 _), trodAll_again hb (by rw [Tryz.params9]; decide) hA1, rfl, hb.frame _, fun h => by cases h⟩
end Fw.Tz
