import Derived.Test.YtlgnmcfckgokdaaGreatDoorTe
import Derived.Test.YtlgnmcfckgokdaaGreatDoorTf
import Derived.Test.YtlgnmcfckgokdaaGreatDoorTg
/-
  PrimsLaws: the call returns true.
-/
set_option linter.unusedSimpArgs false
set_option maxRecDepth 100000
namespace Fw.Tz
open Go Go.Proofs Fw.X Go.ChangeShapes Go.WideShapes Go.ChangeAt Go.RowKit
open Go.Proofs.YtlgnmcfckgokdaaGreatDoor
variable {W : World}
theorem law9 (hW : W0 W) (s : List UInt8) (u : Bool) : PC P (gl W) 9 [.d (.str s), .d (.bool u)] (.d (.bool true)) := by
  cases h : nC s with
  | true => exact law9_unknown hW u h
  | false =>
    refine law9_known hW u ?_
    have : ¬ ∀ c ∈ known, (!Fw.bytesEq s c) = true := by
      intro hall
      have : nC s = true := List.all_eq_true.2 hall
      rw [h] at this; cases this
    simp only [Classical.not_forall] at this
    obtain ⟨c, hc, hn⟩ := this
    have : Fw.bytesEq s c = true := by simpa using hn
    rw [bytesEq_eq this]; exact hc

theorem law9_calls (hW : W0 W) (s : ByteArray) (u : Bool) : Calls Tryz.prog 9 #[.string s, .bool u] W fun e w' => e = .returned (.bool true) ∧ Below W.heap.size W w' := by
  refine (calls_of_pc (law9 hW s.data.toList u) (vs := #[.string s, .bool u]) (by simp [RVs, RV, Rd])).mono ?_
  rintro e w' ⟨x, rfl, hb, hx⟩
  exact ⟨by rw [RV.bool hx], hb⟩
end Fw.Tz

/-
  PrimsLaws: the row and the card.
-/
set_option linter.unusedSimpArgs false
set_option maxRecDepth 100000
namespace Fw.Tz
open Go Go.Proofs Fw.X Go.ChangeShapes Go.WideShapes Go.ChangeAt Go.RowKit
open Go.Proofs.YtlgnmcfckgokdaaGreatDoor

theorem lifted_9 (os : Os) (started : os.Started) (H : Type) (enc : TypeId × Value → H) :
    ReturnsInHanded {} Tryz.checked os 9 .any (fun w args => (Rows.primsLawsSpec.pre enc Tryz.prog Tryz.f9 [] false w args ∧ laidMetH Tryz.prog laidT w) ∧ sizedMet enc Tryz.prog Tryz.f9 (OpenSpec.ofChange Rows.primsLawsSpec) false w args)
      (Rows.primsLawsSpec.post enc Tryz.prog Tryz.f9 false true false false) := by
  refine wrap (C := Tryz.checked) (X := fun w _ => laidMetH Tryz.prog laidT w) (fun _ _ _ hh h => h.of_heap hh) own started (by kernel_rfl) Tryz.func9
    (ChangeSpec.witness_shaped (enc := enc) (C := Tryz.checked) (os := os) (X := fun w _ => laidMetH Tryz.prog laidT w) false (World.laidAll Tryz.prog os laidT) #[.string ⟨#[]⟩, .bool false] 8 (World.laidAll_os _ _ _)
      (World.shaped_of_ZipB (by kernel_rfl) (by kernel_rfl)) (by kernel_rfl) (by kernel_rfl) (by kernel_rfl)
      (by rw [MakeChecks.laidMetH_plain _ _ _ (by kernel_rfl)]; exact laidMet_laidAll _ (by kernel_rfl) (by kernel_rfl))) ?_
  intro W base args ds gs before hval0 hW hsh hL
  have hval : ∀ (j : Nat) t v, Tryz.f9.params[j]? = some t → args[j]? = some v → Value.okWide Tryz.prog W .any base t v := hval0
  have hW' := hW
  obtain ⟨p, q, hA0, hV, rfl, _, _⟩ := hW
  have hA : DataW.TrodAll enc Tryz.prog W 0 (fun _ => true) true Tryz.f9.params.toList args.toList ds p := hA0
  rw [Tryz.params9] at hA hval
  obtain ⟨v0, v1, d0, d1, p0, p1, rfl, rfl, rfl, h0, h1⟩ := trodAll_two hA
  obtain ⟨rfl, rfl⟩ := trodVars_none hV
  obtain ⟨x0, rfl, rfl, rfl, w0⟩ := Go.ChangeMaps.open_string Tryz.underlying9 (hval 0 9 v0 rfl rfl) h0
  obtain ⟨x1, rfl, rfl, rfl⟩ := open_bool Tryz.underlying4 (hval 1 4 v1 rfl rfl) h1
  simp only [List.append_nil] at hW'
  refine (law9_calls (w0_of hL hsh) x0 x1).mono fun e W' ⟨he, hb⟩ => ?_
  subst he
  exact ⟨_, rfl, _, _, _, [], [], [], hW', trodAll_mk1 (shut_bool Tryz.underlying4 _), trodAll_mk2 (Go.ChangeMaps.shut_string Tryz.underlying9 w0) (shut_bool Tryz.underlying4 x1), rfl, hb.frame _, fun h => by cases h⟩

end Fw.Tz
