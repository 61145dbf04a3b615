/-
  From a call that touches nothing to the world's own call.
-/
import Derived.Test.YtlgnmcfckgokdaaGreatDoorTc
import Derived.Test.YtlgnmcfckgokdaaGreatDoorTie
import Derived.Test.YtlgnmcfckgokdaaGreatDoorCards
import Derived.ProofKit
import Derived.Handy
import Derived.Lay
import Derived.SevenTiedAt
import Derived.Shelf.Vars
import Derived.HandedShaped

set_option linter.unusedSimpArgs false
set_option maxRecDepth 100000
namespace Fw.Tz
open Go Go.Proofs Fw.X Go.ChangeShapes Go.WideShapes Go.ChangeAt Go.RowKit
open Go.Proofs.YtlgnmcfckgokdaaGreatDoor
variable {W : World}
theorem calls_of_pc {f : FuncId} {args : List V} {v : V} {vs : Array Value} (h : PC P (gl W) f args v) (hvs : RVs ⟨fun _ => False, fun _ => none, fun _ => False⟩ W args vs.toList) :
    Calls P f vs W fun e w' => ∃ x, e = .returned x ∧ Below W.heap.size W w' ∧ RV ⟨fun _ => False, fun _ => none, fun _ => False⟩ w' v x := by
  have hg : Globs (gl W) ⟨fun _ => False, fun _ => none, fun _ => False⟩ W := by
    refine ⟨fun n cs hn => (by cases hn), fun k hk => ⟨⟨hk, fun h => h, fun b x hx => (by cases hx)⟩, rfl⟩⟩
  refine (h.2 ⟨fun _ => False, fun _ => none, fun _ => False⟩ W vs hvs (fun k hk => hk.elim) (fun b y k hy => (by cases hy)) hg).mono ?_
  rintro e w' ⟨x, rfl, hx, he, _⟩
  exact ⟨x, rfl, ⟨he.os, he.tape, he.output, he.size, fun k hk => (he.keeps k ⟨hk, fun h => h, fun b x hx => (by cases hx)⟩).2⟩, hx⟩
end Fw.Tz

/-
  What the rows of this seat share: the first world, the wrap.
-/
set_option linter.unusedSimpArgs false
set_option maxRecDepth 100000
namespace Fw.Tz
open Go Go.Proofs Fw.X Go.ChangeShapes Go.WideShapes Go.ChangeAt Go.RowKit
open Go.Proofs.YtlgnmcfckgokdaaGreatDoor
abbrev laidT : List (String × DataW Unit) := Rows.primsLawsRow.laid
theorem tab_at {W : World} (h : laidMetH Tryz.prog laidT W) (name : String) (k : IntKind) (zs : List Int) (g : Nat) (t e : TypeId) (n : Nat)
    (hl : (laidT.filter fun x => x.1 == name) = [(name, Lib.tabData k zs)])
    (hg : Tryz.prog.globalNamed name = some g) (hty : (Tryz.prog.globals[g]?).map (·.type) = some t) (ht : Tryz.prog.underlying t = some (.array n e)) (he : Tryz.prog.underlying e = some (.int k)) (hce : Tryz.prog.cellsOf e = 1) (hct : Tryz.prog.cellsOf t = n)
    (hpl : ([(name, Lib.tabData k zs)].all fun (x : String × DataW Unit) => x.2.handleName?.isNone) = true) : Lib.TabIs Tryz.prog W name k zs := by
  have h2 := laidMetH.filter (fun x => x.1 == name) h
  rw [hl, MakeChecks.laidMetH_plain _ _ _ hpl] at h2
  exact Lib.tabIs_of_head hg hty ht he hce hct h2
theorem err_at {W : World} (h : laidMetH Tryz.prog laidT W) (name : String) (en : String) (d : DataW Unit) (g : Nat) (ms : Array (String × TypeId))
    (hl : (laidT.filter fun x => x.1 == name) = [(name, .iface en d)])
    (hg : Tryz.prog.globalNamed name = some g) (hty : (Tryz.prog.globals[g]?).map (·.type) = some 163) (ht : Tryz.prog.underlying 163 = some (.interface ms))
    (hpl : ([(name, DataW.iface en d)].all fun (x : String × DataW Unit) => x.2.handleName?.isNone) = true) : ∃ ev, W.cell? ⟨g, 0, none⟩ = some ev ∧ (ev = .nilIface ∨ ∃ te pe, ev = .iface te pe) := by
  have h2 := laidMetH.filter (fun x => x.1 == name) h
  rw [hl, MakeChecks.laidMetH_plain _ _ _ hpl] at h2
  obtain ⟨ps, ⟨g', t, cs, fuel, p, q, hg', ht', hv, hd, _, _⟩, _, _⟩ := h2
  obtain rfl := Option.some.inj (hg.symm.trans hg')
  obtain rfl := Option.some.inj (hty.symm.trans ht')
  obtain ⟨fuel', u, v, hcs, _, _⟩ := iface_of_trod ht hd
  refine ⟨.iface u v, ?_, .inr ⟨u, v, rfl⟩⟩
  rw [World.var?_cell hg hv 0, ← Array.getElem?_toList, hcs]
  rfl
def dbtab : List Int := [0, 1, 28, 2, 29, 14, 24, 3, 30, 22, 20, 15, 25, 17, 4, 8, 31, 27, 13, 23, 21, 19, 16, 7, 26, 12, 18, 6, 11, 5, 10, 9]
theorem w0_of {W : World} (h : laidMetH Tryz.prog laidT W) (hsh : W.ShapedOpen Tryz.prog) : W0 W := by
  have hdb := tab_at h "math/bits.deBruijn32tab" .u8 dbtab 8 297 5 32 (by kernel_rfl) (by kernel_rfl) (by kernel_rfl) (by kernel_rfl) (by kernel_rfl) (by kernel_rfl) (by kernel_rfl) (by kernel_rfl)
  have hc := hdb.cell (show Tryz.prog.globalNamed "math/bits.deBruijn32tab" = some 8 by kernel_rfl) 0 (by simp [dbtab])
  have hsize : 6 < W.heap.size := by
    rcases Nat.lt_or_ge 8 W.heap.size with h8 | h8
    · omega
    · exfalso
      have : W.heap[8]? = none := Array.getElem?_eq_none h8
      simp [World.cell?, this] at hc
  refine ⟨hsize, cell_of_shapedOpen_int (P := Tryz.prog) (g := 2) (t := 3) (zero := #[.int .i64 0]) hsh (of_decide_eq_true (by kernel_rfl)) (by kernel_rfl) rfl (by kernel_rfl) (by kernel_rfl) Tryz.underlying3, ?_, ?_, ?_, ?_⟩
  · exact tab_at h "strings.asciiSpace" .u8 Lib.asciiSpaceTab 0 130 5 256 (by kernel_rfl) (by kernel_rfl) (by kernel_rfl) (by kernel_rfl) (by kernel_rfl) (by kernel_rfl) (by kernel_rfl) (by kernel_rfl)
  · exact tab_at h "internal/strconv.uint64pow10" .u64 Lib.pow10Tab 3 274 192 20 (by kernel_rfl) (by kernel_rfl) (by kernel_rfl) (by kernel_rfl) (by kernel_rfl) (by kernel_rfl) (by kernel_rfl) (by kernel_rfl)
  · exact err_at h "strconv.ErrSyntax" "*errors.errorString" (.ptr (.agg [.lit (.string [105, 110, 118, 97, 108, 105, 100, 32, 115, 121, 110, 116, 97, 120])])) 4 _ (by kernel_rfl) (by kernel_rfl) (by kernel_rfl) Tryz.underlying163 (by kernel_rfl)
  · exact err_at h "strconv.ErrRange" "*errors.errorString" (.ptr (.agg [.lit (.string [118, 97, 108, 117, 101, 32, 111, 117, 116, 32, 111, 102, 32, 114, 97, 110, 103, 101])])) 5 _ (by kernel_rfl) (by kernel_rfl) (by kernel_rfl) Tryz.underlying163 (by kernel_rfl)
theorem own : ownKnob Tryz.prog.godebug = none := by kernel_rfl
theorem wf_u8 {n : Int} (h : (Lit.int .u8 n).wf = true) : ∃ a : Nat, a < 256 ∧ n = Int.ofNat a := by
  have h1 : IntKind.u8.min ≤ n ∧ n ≤ IntKind.u8.max := by simp only [Lit.wf, Bool.and_eq_true, decide_eq_true_eq] at h; exact h
  have e1 : IntKind.u8.min = 0 := rfl
  have e2 : IntKind.u8.max = 255 := rfl
  rw [e1, e2] at h1
  exact ⟨n.toNat, by omega, by simp; omega⟩
theorem wrap {H : Type} {enc : TypeId × Value → H} {a : Assume} {C : Checked} {os : Os} {f : FuncId} {fn : Func} {s : ChangeSpec} {conds : List PathCond} {apart fresh handsOn again : Bool} {X : World → Array Value → Prop}
    (hX : ∀ (w w' : World) (args : Array Value), w.heap = w'.heap → X w args → X w' args)
    (own : ownKnob C.prog.godebug = none) (started : os.Started) (noInit : C.prog.inits.idxOf? f = none) (hfn : C.prog.funcs[f]? = some fn)
    (witness : ∃ (w : World) (tape : Tape) (i : Input), w.os = os ∧ (w.forCall tape i).Shaped C.prog ∧ i.vars = [] ∧ Input.okWide C.prog (w.forCall tape i) .any w.heap.size f i ∧
      ((s.pre enc C.prog fn conds apart (w.forCall tape i).memory i.args ∧ X (w.forCall tape i).memory i.args) ∧ sizedMet enc C.prog fn (OpenSpec.ofChange s) apart (w.forCall tape i).memory i.args) ∧ a.holds C.prog (lone (Frame.enter C.prog f i.args .normal) [] (w.forCall tape i)))
    (contract : ∀ (W : World) (base : Nat) (args : Array Value) (ds gs : List (DataW H)) (before : List MemPlace),
      (∀ (j : Nat) t v, fn.params[j]? = some t → args[j]? = some v → Value.okWide C.prog W .any base t v) →
      DataW.Whole enc C.prog fn.params.toList s.vars apart W args.toList ds gs before → W.ShapedOpen C.prog → X W args →
      Calls C.prog f args W fun e W' => ∃ v, e = .returned v ∧ s.post enc C.prog fn apart fresh handsOn again W args v W') :
    ReturnsInHanded a C os f .any (fun w args => (s.pre enc C.prog fn conds apart w args ∧ X w args) ∧ sizedMet enc C.prog fn (OpenSpec.ofChange s) apart w args) (s.post enc C.prog fn apart fresh handsOn again) := by
  refine returnsInHanded_of_calls own started noInit witness ?_
  intro w tape i _ hsh _ hok hpre _
  obtain ⟨_, _, _, fn', hfn', _, _, _, _, hval⟩ := hok
  have e : fn' = fn := Option.some.inj (hfn'.symm.trans hfn)
  subst e
  obtain ⟨⟨⟨ds, gs, before, hw, hc⟩, hx⟩, hz⟩ := hpre
  have hw' := DataW.Whole.of_heap (w' := w.forCall tape i) (by rfl) hw
  refine (contract (w.forCall tape i) w.heap.size i.args ds gs before hval hw' hsh (hX _ _ _ (by rfl) hx)).mono fun e W' ⟨v, he, hp⟩ => ?_
  subst he
  exact ChangeSpec.post_blind hp
end Fw.Tz
