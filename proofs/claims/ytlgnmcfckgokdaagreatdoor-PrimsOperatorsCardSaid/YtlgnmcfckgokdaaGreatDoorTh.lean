import Derived.Test.YtlgnmcfckgokdaaGreatDoorTf
import Derived.Test.YtlgnmcfckgokdaaGreatDoorTg
/-
  PrimsOperators: the call returns true.
-/
set_option linter.unusedSimpArgs false
set_option maxRecDepth 100000
namespace Fw.Tz
open Go Go.Proofs Fw.X Go.ChangeShapes Go.WideShapes Go.ChangeAt Go.RowKit
open Go.Proofs.YtlgnmcfckgokdaaGreatDoor
variable {W : World}
theorem wf_u8 {n : Int} (h : (Lit.int .u8 n).wf = true) : ∃ a : Nat, a < 256 ∧ n = Int.ofNat a := by
  have h1 : IntKind.u8.min ≤ n ∧ n ≤ IntKind.u8.max := by simp only [Lit.wf, Bool.and_eq_true, decide_eq_true_eq] at h; exact h
  have e1 : IntKind.u8.min = 0 := rfl
  have e2 : IntKind.u8.max = 255 := rfl
  rw [e1, e2] at h1
  exact ⟨n.toNat, by omega, by simp; omega⟩
theorem law8_calls (hW : W0 W) (s : ByteArray) (u : Bool) (n : Int) (hn : (Lit.int .u8 n).wf = true) : Calls Tryz.prog 8 #[.string s, .bool u, .int .u8 n] W fun e w' => e = .returned (.bool true) ∧ Below W.heap.size W w' := by
  obtain ⟨a, ha, rfl⟩ := wf_u8 hn
  refine (calls_of_pc (law8 hW s.data.toList u a ha) (vs := #[.string s, .bool u, .int .u8 (Int.ofNat a)]) (by simp [RVs, RV, Rd])).mono ?_
  rintro e w' ⟨x, rfl, hb, hx⟩
  exact ⟨by rw [RV.bool hx], hb⟩
end Fw.Tz

/-
  PrimsOperators: the row and the card.
-/
set_option linter.unusedSimpArgs false
set_option maxRecDepth 100000
namespace Fw.Tz
open Go Go.Proofs Fw.X Go.ChangeShapes Go.WideShapes Go.ChangeAt Go.RowKit
open Go.Proofs.YtlgnmcfckgokdaaGreatDoor

theorem lifted_8 (os : Os) (started : os.Started) (H : Type) (enc : TypeId × Value → H) :
    ReturnsInHanded {} Tryz.checked os 8 .any (fun w args => (Rows.primsOperatorsSpec.pre enc Tryz.prog Tryz.f8 [] false w args ∧ laidMetH Tryz.prog laidT w) ∧ sizedMet enc Tryz.prog Tryz.f8 (OpenSpec.ofChange Rows.primsOperatorsSpec) false w args)
      (Rows.primsOperatorsSpec.post enc Tryz.prog Tryz.f8 false true false false) := by
  refine wrap (C := Tryz.checked) (X := fun w _ => laidMetH Tryz.prog laidT w) (fun _ _ _ hh h => h.of_heap hh) own started (by kernel_rfl) Tryz.func8
    (ChangeSpec.witness_shaped (enc := enc) (C := Tryz.checked) (os := os) (X := fun w _ => laidMetH Tryz.prog laidT w) false (World.laidAll Tryz.prog os laidT) #[.string ⟨#[]⟩, .bool false, .int .u8 0] 8 (World.laidAll_os _ _ _)
      (World.shaped_of_ZipB (by kernel_rfl) (by kernel_rfl)) (by kernel_rfl) (by kernel_rfl) (by kernel_rfl)
      (by rw [MakeChecks.laidMetH_plain _ _ _ (by kernel_rfl)]; exact laidMet_laidAll _ (by kernel_rfl) (by kernel_rfl))) ?_
  intro W base args ds gs before hval0 hW hsh hL
  have hval : ∀ (j : Nat) t v, Tryz.f8.params[j]? = some t → args[j]? = some v → Value.okWide Tryz.prog W .any base t v := hval0
  have hW' := hW
  obtain ⟨p, q, hA0, hV, rfl, _, _⟩ := hW
  have hA : DataW.TrodAll enc Tryz.prog W 0 (fun _ => true) true Tryz.f8.params.toList args.toList ds p := hA0
  rw [Tryz.params8] at hA hval
  obtain ⟨v0, v1, v2, d0, d1, d2, p0, p1, p2, rfl, rfl, rfl, h0, h1, h2⟩ := trodAll_three hA
  obtain ⟨rfl, rfl⟩ := trodVars_none hV
  obtain ⟨x0, rfl, rfl, rfl, w0⟩ := Go.ChangeMaps.open_string Tryz.underlying9 (hval 0 9 v0 rfl rfl) h0
  obtain ⟨x1, rfl, rfl, rfl⟩ := open_bool Tryz.underlying4 (hval 1 4 v1 rfl rfl) h1
  obtain ⟨x2, rfl, rfl, rfl, w2⟩ := open_int Tryz.underlying5 (hval 2 5 v2 rfl rfl) h2
  simp only [List.append_nil] at hW'
  refine (law8_calls (w0_of hL hsh) x0 x1 x2 w2).mono fun e W' ⟨he, hb⟩ => ?_
  subst he
  exact ⟨_, rfl, _, _, _, [], [], [], hW', trodAll_mk1 (shut_bool Tryz.underlying4 _), trodAll_mk3 (Go.ChangeMaps.shut_string Tryz.underlying9 w0) (shut_bool Tryz.underlying4 x1) (shut_int Tryz.underlying5 w2), rfl, hb.frame _, fun h => by cases h⟩

end Fw.Tz
