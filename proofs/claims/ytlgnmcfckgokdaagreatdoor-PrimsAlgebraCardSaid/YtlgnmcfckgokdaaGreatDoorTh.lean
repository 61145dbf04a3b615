/-
  PrimsAlgebra: the call returns true; three numbers of an array.
-/
import Derived.Test.YtlgnmcfckgokdaaGreatDoorSh
import Derived.Test.YtlgnmcfckgokdaaGreatDoorTg

set_option linter.unusedSimpArgs false
set_option maxRecDepth 100000
namespace Fw.Tz
open Go Go.Proofs Fw.X Go.ChangeShapes Go.WideShapes Go.ChangeAt Go.RowKit
open Go.Proofs.YtlgnmcfckgokdaaGreatDoor
variable {W : World}
theorem law10_calls (hW : W0 W) (n : Int) (hn : (Lit.int .u8 n).wf = true) (x y z : Int) : Calls Tryz.prog 10 #[.int .u8 n, .agg #[.int .i64 x, .int .i64 y, .int .i64 z]] W fun e w' => e = .returned (.bool true) ∧ Below W.heap.size W w' := by
  obtain ⟨a, ha, rfl⟩ := wf_u8 hn
  refine (calls_of_pc (A10.law10 hW a ha x y z) (vs := #[.int .u8 (Int.ofNat a), .agg #[.int .i64 x, .int .i64 y, .int .i64 z]]) (by simp [RVs, RV, Rd])).mono ?_
  rintro e w' ⟨x, rfl, hb, hx⟩
  exact ⟨by rw [RV.bool hx], hb⟩
section
variable {P : Program} {H : Type} {enc : TypeId × Value → H} {w : World} {base : Nat} {spare : Nat → Bool} {held : Bool}
theorem open_int3 {t e : TypeId} (ht : P.underlying t = some (.array 3 e)) (he : P.underlying e = some (.int .i64)) (hc : P.cellsOf t = 3) (hce : P.cellsOf e = 1) {v : Value} {d : DataW H} {ps : List MemPlace} (hd : DataW.Trod enc P w base spare held t v d ps) :
    ∃ a b c, v = .agg #[.int .i64 a, .int .i64 b, .int .i64 c] ∧ d = .agg [.lit (.int .i64 a), .lit (.int .i64 b), .lit (.int .i64 c)] ∧ ps = [] ∧ (Lit.int .i64 a).wf = true ∧ (Lit.int .i64 b).wf = true ∧ (Lit.int .i64 c).wf = true := by
  obtain ⟨fuel, hf⟩ := hd
  cases fuel with
  | zero => simp [DataW.trod] at hf
  | succ m =>
    have hlen : v.cells.toList.length = 3 := by
      rw [DataW.trod_step] at hf
      unfold DataW.trodStep at hf
      simp only [ht] at hf
      split at hf
      · rename_i h; rw [hc] at h; exact h
      · cases hf
    obtain ⟨cs, hv⟩ : ∃ cs : Array Value, v = .agg cs := by
      cases v <;> first | exact ⟨_, rfl⟩ | (simp [Value.cells] at hlen)
    subst hv
    obtain ⟨l⟩ := cs
    simp only [Value.cells] at hlen hf
    match l, hlen with
    | [p, q, r], _ =>
      rw [DataW.trod_step] at hf
      unfold DataW.trodStep at hf
      simp only [ht] at hf
      rw [if_pos (by rw [hc]; rfl)] at hf
      simp only [hce, List.range, List.range.loop, List.mapM_cons, List.mapM_nil, Option.map_eq_some_iff, Option.bind_eq_bind, Option.bind_eq_some_iff, Option.pure_def, Option.some.injEq, Nat.mul_one, List.drop_zero, List.drop_succ_cons, List.take_succ_cons, List.take_zero] at hf
      obtain ⟨xs, ⟨y0, h0, ys, ⟨y1, h1, zs, ⟨y2, h2, us, rfl, rfl⟩, rfl⟩, rfl⟩, he2⟩ := hf
      obtain ⟨n0, e0, rfl, w0⟩ := DataW.trod_int he h0
      obtain ⟨n1, e1, rfl, w1⟩ := DataW.trod_int he h1
      obtain ⟨n2, e2, rfl, w2⟩ := DataW.trod_int he h2
      simp only [List.cons.injEq, and_true] at e0 e1 e2
      subst e0; subst e1; subst e2
      simp only [List.map_cons, List.map_nil, List.flatMap_cons, List.flatMap_nil, List.append_nil, Prod.mk.injEq] at he2
      exact ⟨n0, n1, n2, rfl, he2.1.symm, he2.2.symm, w0, w1, w2⟩
theorem shut_int3 {t e : TypeId} (ht : P.underlying t = some (.array 3 e)) (he : P.underlying e = some (.int .i64)) (hc : P.cellsOf t = 3) (hce : P.cellsOf e = 1) {a b c : Int} (w0 : (Lit.int .i64 a).wf = true) (w1 : (Lit.int .i64 b).wf = true) (w2 : (Lit.int .i64 c).wf = true) :
    DataW.Trod enc P w base spare held t (.agg #[.int .i64 a, .int .i64 b, .int .i64 c]) (.agg [.lit (.int .i64 a), .lit (.int .i64 b), .lit (.int .i64 c)]) [] :=
  ⟨2, by
    rw [DataW.trod_step]
    unfold DataW.trodStep
    simp only [ht]
    rw [if_pos (by rw [hc]; rfl)]
    simp [Value.cells, hce, List.range, List.range.loop, DataW.trod, he, w0, w1, w2]⟩
end
end Fw.Tz

/-
  PrimsAlgebra: the row and the card.
-/
set_option linter.unusedSimpArgs false
set_option maxRecDepth 100000
namespace Fw.Tz
open Go Go.Proofs Fw.X Go.ChangeShapes Go.WideShapes Go.ChangeAt Go.RowKit
open Go.Proofs.YtlgnmcfckgokdaaGreatDoor
theorem lifted_10 (os : Os) (started : os.Started) (H : Type) (enc : TypeId × Value → H) :
    ReturnsInHanded {} Tryz.checked os 10 .any (fun w args => (Rows.primsAlgebraSpec.pre enc Tryz.prog Tryz.f10 [] false w args ∧ laidMetH Tryz.prog laidT w) ∧ sizedMet enc Tryz.prog Tryz.f10 (OpenSpec.ofChange Rows.primsAlgebraSpec) false w args)
      (Rows.primsAlgebraSpec.post enc Tryz.prog Tryz.f10 false true false false) := by
  refine wrap (C := Tryz.checked) (X := fun w _ => laidMetH Tryz.prog laidT w) (fun _ _ _ hh h => h.of_heap hh) own started (by kernel_rfl) Tryz.func10
    (ChangeSpec.witness_shaped (enc := enc) (C := Tryz.checked) (os := os) (X := fun w _ => laidMetH Tryz.prog laidT w) false (World.laidAll Tryz.prog os laidT) #[.int .u8 0, .agg #[.int .i64 0, .int .i64 0, .int .i64 0]] 8 (World.laidAll_os _ _ _)
      (World.shaped_of_ZipB (by kernel_rfl) (by kernel_rfl)) (by kernel_rfl) (by kernel_rfl) (by kernel_rfl)
      (by rw [MakeChecks.laidMetH_plain _ _ _ (by kernel_rfl)]; exact laidMet_laidAll _ (by kernel_rfl) (by kernel_rfl))) ?_
  intro W base args ds gs before hval0 hW hsh hL
  have hval : ∀ (j : Nat) t v, Tryz.f10.params[j]? = some t → args[j]? = some v → Value.okWide Tryz.prog W .any base t v := hval0
  have hW' := hW
  obtain ⟨p, q, hA0, hV, rfl, _, _⟩ := hW
  have hA : DataW.TrodAll enc Tryz.prog W 0 (fun _ => true) true Tryz.f10.params.toList args.toList ds p := hA0
  rw [Tryz.params10] at hA hval
  obtain ⟨v0, v1, d0, d1, p0, p1, rfl, rfl, rfl, h0, h1⟩ := trodAll_two hA
  obtain ⟨rfl, rfl⟩ := trodVars_none hV
  obtain ⟨x0, rfl, rfl, rfl, w0⟩ := open_int Tryz.underlying5 (hval 0 5 v0 rfl rfl) h0
  obtain ⟨a1, b1, c1, rfl, rfl, rfl, wa1, wb1, wc1⟩ := open_int3 Tryz.underlying80 Tryz.underlying3 (by kernel_rfl) (by kernel_rfl) h1
  simp only [List.append_nil] at hW'
  refine (law10_calls (w0_of hL hsh) x0 w0 a1 b1 c1).mono fun e W' ⟨he, hb⟩ => ?_
  subst he
  exact ⟨_, rfl, _, _, _, [], [], [], hW', trodAll_mk1 (shut_bool Tryz.underlying4 _), trodAll_mk2 (shut_int Tryz.underlying5 w0) (shut_int3 Tryz.underlying80 Tryz.underlying3 (by kernel_rfl) (by kernel_rfl) wa1 wb1 wc1), rfl, hb.frame _, fun h => by cases h⟩
end Fw.Tz
