/-
  AgreeUnique: the row and the card.
-/
import Derived.Test.YtgfgckimecpmlaaGreatDoorTg
import Derived.Test.YtgfgckimecpmlaaGreatDoorTn

set_option linter.unusedSimpArgs false
set_option maxRecDepth 100000
namespace Fw.Tz
open Go Go.Proofs Fw.X Go.ChangeShapes Go.WideShapes Go.ChangeAt Go.RowKit
open Go.Proofs.YtgfgckimecpmlaaGreatDoor
theorem lifted_5 (os : Os) (started : os.Started) (H : Type) (enc : TypeId × Value → H) :
    ReturnsInHanded {} Tryz.checked os 5 .any (fun w args => (Rows.agreeUniqueSpec.pre enc Tryz.prog Tryz.f5 [] false w args ∧ laidMetH Tryz.prog laidT w) ∧ sizedMet enc Tryz.prog Tryz.f5 (OpenSpec.ofChange Rows.agreeUniqueSpec) false w args)
      (Rows.agreeUniqueSpec.post enc Tryz.prog Tryz.f5 false true false false) := by
  refine wrap (C := Tryz.checked) (X := fun w _ => laidMetH Tryz.prog laidT w) (fun _ _ _ hh h => h.of_heap hh) own started (by kernel_rfl) Tryz.func5
    (ChangeSpec.witness_shaped (enc := enc) (C := Tryz.checked) (os := os) (X := fun w _ => laidMetH Tryz.prog laidT w) false (World.laidAll Tryz.prog os laidT) #[.agg #[.int .i64 0, .int .i64 0, .string ByteArray.empty, .string ByteArray.empty, .slice none 0 0, .string ByteArray.empty, .string ByteArray.empty, .slice none 0 0, .slice none 0 0, .slice none 0 0, .string ByteArray.empty, .string ByteArray.empty, .slice none 0 0, .string ByteArray.empty, .string ByteArray.empty, .slice none 0 0, .int .i64 0, .slice none 0 0], .agg #[.string ByteArray.empty, .slice none 0 0], .slice none 0 0] 8 (World.laidAll_os _ _ _)
      (World.shaped_of_ZipB (by kernel_rfl) (by kernel_rfl)) (by kernel_rfl) (by kernel_rfl) (by kernel_rfl)
      (by rw [MakeChecks.laidMetH_plain _ _ _ (by kernel_rfl)]; exact laidMet_laidAll _ (by kernel_rfl) (by kernel_rfl))) ?_
  intro W base args ds gs before hval0 hW hsh hL
  have hval : ∀ (j : Nat) t v, Tryz.f5.params[j]? = some t → args[j]? = some v → Value.okWide Tryz.prog W .any base t v := hval0
  have hW' := hW
  obtain ⟨p, q, hA0, hV, rfl, _, _⟩ := hW
  have hA : DataW.TrodAll enc Tryz.prog W 0 (fun _ => true) true Tryz.f5.params.toList args.toList ds p := hA0
  have hA1 := hA
  rw [Tryz.params5] at hA hval
  obtain ⟨v0, v1, v2, d0, d1, d2, p0, p1, p2, rfl, rfl, rfl, h0, h1, h2⟩ := trodAll_three hA
  obtain ⟨rfl, rfl⟩ := trodVars_none hV
  obtain ⟨n0, k0⟩ := h0
  obtain ⟨cs, rfl, -⟩ := okWide_struct Tryz.underlying32 (hval 0 32 v0 rfl rfl)
  obtain ⟨c, hwd, r0⟩ := eCon n0 _ _ k0
  obtain ⟨n1, k1⟩ := h1
  obtain ⟨ss, rfl, -⟩ := okWide_struct Tryz.underlying24 (hval 1 24 v1 rfl rfl)
  obtain ⟨s, hs, r1⟩ := eShp n1 _ _ k1
  obtain ⟨n2, k2⟩ := h2
  obtain ⟨b0, b1, b2, rfl⟩ := okWide_slice Tryz.underlying35 (hval 2 35 v2 rfl rfl)
  obtain ⟨bs, g2, r2⟩ := eBools n2 _ _ k2
  simp only [List.append_nil] at hW'
  refine (calls_of_pc (Lu.law_unique (w0_of hL hsh) c hwd s.1 s.2 hs bs (Nat.lt_of_le_of_lt g2.2 maxLen_lt)) (vs := #[.agg cs, .agg ss, .slice b0 b1 b2]) ?_).mono fun e W' hp => ?_
  · simp only [RVs, and_true]
    exact ⟨rv_agg r0 (Con.ds_cells c), rv_agg r1 rfl, rv_of_one rfl r2 rfl⟩
  · obtain ⟨x, rfl, hb, hx⟩ := hp
    rw [RV.bool hx]
    exact ⟨_, rfl, _, _, _, [], _, [], hW', trodAll_mk1 (shut_bool Tryz.underlying4 _), trodAll_again hb (by rw [Tryz.params5]; decide) hA1, rfl, hb.frame _, fun h => by cases h⟩
end Fw.Tz
