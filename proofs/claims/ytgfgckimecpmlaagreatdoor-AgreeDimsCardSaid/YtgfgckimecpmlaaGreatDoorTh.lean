/-
  AgreeDims: the row and the card.
-/
import Derived.Test.YtgfgckimecpmlaaGreatDoorTg
import Derived.Test.YtgfgckimecpmlaaGreatDoorTf

set_option linter.unusedSimpArgs false
set_option maxRecDepth 100000
namespace Fw.Tz
open Go Go.Proofs Fw.X Go.ChangeShapes Go.WideShapes Go.ChangeAt Go.RowKit
open Go.Proofs.YtgfgckimecpmlaaGreatDoor
theorem lifted_8 (os : Os) (started : os.Started) (H : Type) (enc : TypeId × Value → H) :
    ReturnsInHanded {} Tryz.checked os 8 .any (fun w args => (Rows.agreeDimsSpec.pre enc Tryz.prog Tryz.f8 [] false w args ∧ laidMetH Tryz.prog laidT w) ∧ sizedMet enc Tryz.prog Tryz.f8 (OpenSpec.ofChange Rows.agreeDimsSpec) false w args)
      (Rows.agreeDimsSpec.post enc Tryz.prog Tryz.f8 false true false false) := by
  refine wrap (C := Tryz.checked) (X := fun w _ => laidMetH Tryz.prog laidT w) (fun _ _ _ hh h => h.of_heap hh) own started (by kernel_rfl) Tryz.func8
    (ChangeSpec.witness_shaped (enc := enc) (C := Tryz.checked) (os := os) (X := fun w _ => laidMetH Tryz.prog laidT w) false (World.laidAll Tryz.prog os laidT) #[.slice none 0 0, .slice none 0 0] 8 (World.laidAll_os _ _ _)
      (World.shaped_of_ZipB (by kernel_rfl) (by kernel_rfl)) (by kernel_rfl) (by kernel_rfl) (by kernel_rfl)
      (by rw [MakeChecks.laidMetH_plain _ _ _ (by kernel_rfl)]; exact laidMet_laidAll _ (by kernel_rfl) (by kernel_rfl))) ?_
  intro W base args ds gs before hval0 hW hsh hL
  have hval : ∀ (j : Nat) t v, Tryz.f8.params[j]? = some t → args[j]? = some v → Value.okWide Tryz.prog W .any base t v := hval0
  have hW' := hW
  obtain ⟨p, q, hA0, hV, rfl, _, _⟩ := hW
  have hA : DataW.TrodAll enc Tryz.prog W 0 (fun _ => true) true Tryz.f8.params.toList args.toList ds p := hA0
  have hA1 := hA
  rw [Tryz.params8] at hA hval
  obtain ⟨v0, v1, d0, d1, p0, p1, rfl, rfl, rfl, h0, h1⟩ := trodAll_two hA
  obtain ⟨rfl, rfl⟩ := trodVars_none hV
  obtain ⟨n0, k0⟩ := h0
  obtain ⟨n1, k1⟩ := h1
  obtain ⟨a0, a1, a2, rfl⟩ := okWide_slice Tryz.underlying60 (hval 0 60 v0 rfl rfl)
  obtain ⟨b0, b1, b2, rfl⟩ := okWide_slice Tryz.underlying61 (hval 1 61 v1 rfl rfl)
  obtain ⟨args, _, _, r0⟩ := open_rows Dm.encL (fun _ => True) (sz := 1) Tryz.underlying60 (by kernel_rfl) (by omega) (fun n cs x h => by
    obtain ⟨l, _, _, hl⟩ := open_rows Dm.encI (fun a => -9223372036854775808 ≤ a ∧ a ≤ 9223372036854775807) (sz := 1) Tryz.underlying61 (by kernel_rfl) (by omega) (fun n cs x h => el_i64 Tryz.underlying3 n cs x h) h
    exact ⟨l, trivial, hl⟩) k0
  obtain ⟨ranks, g1, _, r1⟩ := open_rows Dm.encI (fun a => -9223372036854775808 ≤ a ∧ a ≤ 9223372036854775807) (sz := 1) Tryz.underlying61 (by kernel_rfl) (by omega) (fun n cs x h => el_i64 Tryz.underlying3 n cs x h) k1
  simp only [List.append_nil] at hW'
  refine (calls_of_pc (Ld.law_dims (w0_of hL hsh) args ranks (fun k hk => (g1 k hk).2)) (vs := #[.slice a0 a1 a2, .slice b0 b1 b2]) ?_).mono fun e W' hp => ?_
  · simp only [RVs, and_true]
    exact ⟨rv_of_one rfl r0 rfl, rv_of_one rfl r1 rfl⟩
  · obtain ⟨x, rfl, hb, hx⟩ := hp
    rw [RV.bool hx]
    exact ⟨_, rfl, _, _, _, [], _, [], hW', trodAll_mk1 (shut_bool Tryz.underlying4 _), trodAll_again hb (by rw [Tryz.params8]; decide) hA1, rfl, hb.frame _, fun h => by cases h⟩
end Fw.Tz
