/-
  From a call that touches nothing to the world's own call.
-/
import Derived.Test.YtgfgckimecpmlaaGreatDoorTc
import Derived.Test.YtgfgckimecpmlaaGreatDoorTie
import Derived.Test.YtgfgckimecpmlaaGreatDoorCards
import Derived.ProofKit
import Derived.Handy
import Derived.Lay
import Derived.SevenTiedAt
import Derived.Shelf.Vars
import Derived.HandedShaped
import Derived.Test.YtgfgckimecpmlaaGreatDoorFg
import Derived.Deep.Slices
import Derived.ChangeStays
import Derived.ReadAgain
import Derived.ChangeOld
import Derived.Test.YtgfgckimecpmlaaGreatDoorTf

set_option linter.unusedSimpArgs false
set_option maxRecDepth 100000
namespace Fw.Tz
open Go Go.Proofs Fw.X Go.ChangeShapes Go.WideShapes Go.ChangeAt Go.RowKit
open Go.Proofs.YtgfgckimecpmlaaGreatDoor
variable {W : World}
theorem calls_of_pc {f : FuncId} {args : List V} {v : V} {vs : Array Value} (h : PC P (gl W) f args v) (hvs : RVs ⟨fun _ => False, fun _ => none, fun _ => False⟩ W args vs.toList) :
    Calls P f vs W fun e w' => ∃ x, e = .returned x ∧ Below W.heap.size W w' ∧ RV ⟨fun _ => False, fun _ => none, fun _ => False⟩ w' v x := by
  have hg : Globs (gl W) ⟨fun _ => False, fun _ => none, fun _ => False⟩ W := by
    refine ⟨fun n cs hn => (by cases hn), fun k hk => ⟨⟨hk, fun h => h, fun b x hx => (by cases hx)⟩, rfl⟩⟩
  refine (h.2 ⟨fun _ => False, fun _ => none, fun _ => False⟩ W vs hvs (fun k hk => hk.elim) (fun b y k hy => (by cases hy)) hg).mono ?_
  rintro e w' ⟨x, rfl, hx, he, _⟩
  exact ⟨x, rfl, ⟨he.os, he.tape, he.output, he.size, fun k hk => (he.keeps k ⟨hk, fun h => h, fun b x hx => (by cases hx)⟩).2⟩, hx⟩
end Fw.Tz

/-
  Arguments that are rows: read as data, and read again behind a call that writes nothing of theirs.
-/
set_option linter.unusedVariables false
namespace Fw.Tz
open Go Go.Proofs Fw.X Go.ChangeShapes Go.WideShapes Go.ChangeAt Go.RowKit
open Go.Proofs.YtgfgckimecpmlaaGreatDoor
abbrev gE : G := ⟨fun _ => False, fun _ => none, fun _ => False⟩
theorem imm_gE {W : World} {k : Nat} (h : k < W.heap.size) : imm gE W k := ⟨h, fun h => h, fun b x hx => by cases hx⟩
theorem kids : Kids Tryz.prog (· < Tryz.prog.types.size) := kids_rows (by kernel_rfl) (by kernel_rfl)
theorem slicesFull : ∀ t e, t < Tryz.prog.types.size → Tryz.prog.underlying t = some (.slice e) → 0 < Tryz.prog.cellsOf e := slices_full_of _ (by kernel_rfl)
section
variable {H : Type} {enc : TypeId × Value → H} {W W' : World}
theorem trod_again (hb : Below W.heap.size W W') {t : TypeId} {v : Value} {d : DataW H} {ps : List MemPlace} (ht : t < Tryz.prog.types.size) (h : DataW.Trod enc Tryz.prog W 0 (fun _ => true) true t v d ps) :
    DataW.Trod enc Tryz.prog W' 0 (fun b => decide (b < W.heap.size)) true t v d ps := by
  obtain ⟨n, hn⟩ := h
  have hlt := DataW.trod_lt n t _ _ hn
  refine ⟨n, DataW.trod_stays kids (fun {t e} ht hu => slicesFull t e ht hu) (fun h => by cases h) ht hn (fun p hp => ?_) (fun p hp => decide_eq_true (hlt p hp))⟩
  have hp' := hlt p hp
  cases p with
  | cell b off => exact World.cell?_of_block (w := W) (hb.block b hp')
  | map b => exact hb.block b hp'
theorem trodAll_again (hb : Below W.heap.size W W') : ∀ {ts : List TypeId} {vs : List Value} {ds : List (DataW H)} {ps : List MemPlace}, (∀ t ∈ ts, t < Tryz.prog.types.size) → DataW.TrodAll enc Tryz.prog W 0 (fun _ => true) true ts vs ds ps →
    DataW.TrodAll enc Tryz.prog W' 0 (fun b => decide (b < W.heap.size)) true ts vs ds ps
  | [], [], [], _, _, h => h
  | t :: ts, v :: vs, d :: ds, _, ht, ⟨p, q, h1, h2, e⟩ => ⟨p, q, trod_again hb (ht t List.mem_cons_self) h1, trodAll_again hb (fun t h => ht t (List.mem_cons_of_mem _ h)) h2, e⟩
end
theorem RdE_mk {w : World} {im : Nat → Prop} {blk sz : Nat} : ∀ (es : List (List D)) (off : Nat), (∀ (i : Nat) (e : List D), es[i]? = some e → e.length = sz ∧ RdC w im blk (off + i * sz) e) → RdE w im blk off sz es
  | [], _, _ => by simp only [RdE]
  | e :: es, off, h => by
    simp only [RdE]
    have h0 := h 0 e rfl
    refine ⟨h0.1, by simpa using h0.2, RdE_mk es (off + sz) fun i e' he => ?_⟩
    have := h (i + 1) e' (by simpa using he)
    rwa [show off + (i + 1) * sz = off + sz + i * sz by rw [Nat.add_mul]; omega] at this
section
variable {H : Type} {enc : TypeId × Value → H} {P : Program} {W : World} {base : Nat} {spare : Nat → Bool} {held : Bool}
def CsRd (W : World) (ds : List D) (cs : List Value) : Prop := ds.length = cs.length ∧ ∀ (j : Nat) (d : D) (v : Value), ds[j]? = some d → cs[j]? = some v → Rd W (imm gE W) d v
theorem CsRd.one {d : D} {v : Value} (h : Rd W (imm gE W) d v) : CsRd W [d] [v] := ⟨rfl, fun j d' v' h1 h2 => by
  cases j with
  | zero => simp at h1 h2; subst h1; subst h2; exact h
  | succ j => simp at h1⟩
theorem CsRd.app {a b : List D} {x y : List Value} (h : CsRd W a x) (k : CsRd W b y) : CsRd W (a ++ b) (x ++ y) := ⟨by simp [h.1, k.1], fun j d v h1 h2 => by
  by_cases hj : j < a.length
  · rw [List.getElem?_append_left hj] at h1
    rw [List.getElem?_append_left (by rw [← h.1]; exact hj)] at h2
    exact h.2 j d v h1 h2
  · rw [List.getElem?_append_right (by omega)] at h1
    rw [List.getElem?_append_right (by rw [← h.1]; omega), ← h.1] at h2
    exact k.2 _ d v h1 h2⟩
theorem open_rows {α : Type} (encA : α → List D) (good : α → Prop) {t e : TypeId} {sz : Nat} (ht : P.underlying t = some (.slice e)) (hc : P.cellsOf e = sz) (h0 : 0 < sz)
    (hel : ∀ (n : Nat) (cs : List Value) (x : DataW H × List MemPlace), DataW.trod enc P W base spare held n e cs = some x → ∃ a, good a ∧ CsRd W (encA a) cs) {fuel : Nat} {cs : List Value} {x : DataW H × List MemPlace} (h : DataW.trod enc P W base spare held fuel t cs = some x) :
    ∃ l : List α, (∀ a ∈ l, good a) ∧ l.length ≤ maxLen ∧ CsRd W [.list (l.map encA)] cs := by
  rcases Go.Deep.open_slice ht h with ⟨rfl, -⟩ | ⟨a, len, cap, m, n, D', Pl, rfl, hb, hl, hm, hmm, -, hx⟩
  · exact ⟨[], by simp, by simp, CsRd.one (by simp [Rd])⟩
  · rw [hc] at hx
    have hle : len ≤ m := by rw [hmm]; split <;> omega
    have hex : ∀ i : Fin len, ∃ a' : α, good a' ∧ ∃ cs', W.cells? base (a.add (i.1 * sz)) sz = some cs' ∧ CsRd W (encA a') cs' := by
      intro i
      obtain ⟨cs', h1, h2⟩ := hx i.1 (by have := i.2; omega)
      obtain ⟨a', k1, k2⟩ := hel _ _ _ h2
      exact ⟨a', k1, cs', h1, k2⟩
    let f : Fin len → α := fun i => Classical.choose (hex i)
    have hf : ∀ i, good (f i) ∧ ∃ cs', W.cells? base (a.add (i.1 * sz)) sz = some cs' ∧ CsRd W (encA (f i)) cs' := fun i => Classical.choose_spec (hex i)
    refine ⟨List.ofFn f, ?_, by simp; omega, ?_⟩
    · intro a' ha
      obtain ⟨i, rfl⟩ := List.mem_ofFn.1 ha
      exact (hf i).1
    · refine CsRd.one ?_
      simp only [Rd]
      by_cases h0l : len = 0
      · subst h0l
        exact .inl ⟨by simp, .inr ⟨a, cap, rfl⟩⟩
      · have hpos : 0 < len := by omega
        obtain ⟨-, cs', h1, -⟩ := hf ⟨0, hpos⟩
        obtain ⟨-, h2, h3⟩ := World.cells?_some h1
        have h4 := h3 0 h0
        have hcs : ∃ v, cs'[0]? = some v := ⟨_, List.getElem?_eq_getElem (by omega)⟩
        obtain ⟨v, hv⟩ := hcs
        rw [hv] at h4
        have hsp := World.cell?_spot h4
        have hblk : a.block < W.heap.size := by have := World.cells?_block h1 h0; simpa [Addr.add] using this
        have hspot : a.spot = none := by
          simpa [Addr.add] using hsp
        have hae : a = ⟨a.block, a.off, none⟩ := by cases a; simp at hspot; simp [hspot]
        refine .inr ⟨a.block, a.off, cap, sz, by rw [List.length_map, List.length_ofFn]; rw [← hae], by simp; exact hl, fun _ => imm_gE hblk, ?_⟩
        refine RdE_mk _ _ fun i e' he => ?_
        simp only [List.getElem?_map, Option.map_eq_some_iff] at he
        obtain ⟨a', ha', rfl⟩ := he
        obtain ⟨hi, hia⟩ := List.getElem?_eq_some_iff.1 ha'
        simp only [List.length_ofFn] at hi
        simp only [List.getElem_ofFn] at hia
        obtain ⟨-, cs2, k1, k2⟩ := hf ⟨i, hi⟩
        obtain ⟨-, k3, k4⟩ := World.cells?_some k1
        rw [← hia]
        refine ⟨by rw [k2.1, k3], RdC.of_vals (vs := cs2) k2.1 k2.2 fun j v' hv' => ?_⟩
        have hj : j < sz := by rw [← k3]; exact (List.getElem?_eq_some_iff.1 hv').1
        have := k4 j hj
        rw [hv'] at this
        rw [← this, hae, Addr.add_mk, Addr.add_mk]
theorem el_i64 {e : TypeId} (he : P.underlying e = some (.int .i64)) (n : Nat) (cs : List Value) (x : DataW H × List MemPlace) (h : DataW.trod enc P W base spare held n e cs = some x) : ∃ a : Int, (-9223372036854775808 ≤ a ∧ a ≤ 9223372036854775807) ∧ CsRd W [.int .i64 a] cs := by
  obtain ⟨k, rfl, -, hw⟩ := DataW.trod_int he h
  have h1 : IntKind.i64.min ≤ k ∧ k ≤ IntKind.i64.max := by simp only [Lit.wf, Bool.and_eq_true, decide_eq_true_eq] at hw; exact hw
  have e1 : IntKind.i64.min = -9223372036854775808 := rfl
  have e2 : IntKind.i64.max = 9223372036854775807 := rfl
  rw [e1, e2] at h1
  exact ⟨k, h1, CsRd.one (by simp only [Rd])⟩
theorem rv_of_one {d : D} {v : Value} {cs : List Value} (hcs : v.cells.toList = cs) (h : CsRd W [d] cs) (h1 : v.cells = #[v]) : RV gE W (.d d) v := by
  subst hcs
  rw [h1] at h
  simp only [RV]
  exact h.2 0 d v rfl rfl
end
end Fw.Tz

/-
  What the rows of this seat share: the first world, the wrap.
-/
namespace Fw.Tz
open Go Go.Proofs Fw.X Go.ChangeShapes Go.WideShapes Go.ChangeAt Go.RowKit
open Go.Proofs.YtgfgckimecpmlaaGreatDoor
abbrev laidT : List (String × DataW Unit) := Rows.agreeDimsRow.laid
theorem tab_at {W : World} (h : laidMetH Tryz.prog laidT W) (name : String) (k : IntKind) (zs : List Int) (g : Nat) (t e : TypeId) (n : Nat)
    (hl : (laidT.filter fun x => x.1 == name) = [(name, Lib.tabData k zs)])
    (hg : Tryz.prog.globalNamed name = some g) (hty : (Tryz.prog.globals[g]?).map (·.type) = some t) (ht : Tryz.prog.underlying t = some (.array n e)) (he : Tryz.prog.underlying e = some (.int k)) (hce : Tryz.prog.cellsOf e = 1) (hct : Tryz.prog.cellsOf t = n)
    (hpl : ([(name, Lib.tabData k zs)].all fun (x : String × DataW Unit) => x.2.handleName?.isNone) = true) : Lib.TabIs Tryz.prog W name k zs := by
  have h2 := laidMetH.filter (fun x => x.1 == name) h
  rw [hl, MakeChecks.laidMetH_plain _ _ _ hpl] at h2
  exact Lib.tabIs_of_head hg hty ht he hce hct h2
theorem err_at {W : World} (h : laidMetH Tryz.prog laidT W) (name : String) (en : String) (d : DataW Unit) (g : Nat) (ms : Array (String × TypeId))
    (hl : (laidT.filter fun x => x.1 == name) = [(name, .iface en d)])
    (hg : Tryz.prog.globalNamed name = some g) (hty : (Tryz.prog.globals[g]?).map (·.type) = some 226) (ht : Tryz.prog.underlying 226 = some (.interface ms))
    (hpl : ([(name, DataW.iface en d)].all fun (x : String × DataW Unit) => x.2.handleName?.isNone) = true) : ∃ ev, W.cell? ⟨g, 0, none⟩ = some ev ∧ (ev = .nilIface ∨ ∃ te pe, ev = .iface te pe) := by
  have h2 := laidMetH.filter (fun x => x.1 == name) h
  rw [hl, MakeChecks.laidMetH_plain _ _ _ hpl] at h2
  obtain ⟨ps, ⟨g', t, cs, fuel, p, q, hg', ht', hv, hd, _, _⟩, _, _⟩ := h2
  obtain rfl := Option.some.inj (hg.symm.trans hg')
  obtain rfl := Option.some.inj (hty.symm.trans ht')
  obtain ⟨fuel', u, v, hcs, _, _⟩ := iface_of_trod ht hd
  refine ⟨.iface u v, ?_, .inr ⟨u, v, rfl⟩⟩
  rw [World.var?_cell hg hv 0, ← Array.getElem?_toList, hcs]
  rfl
def dbtab : List Int := [0, 1, 28, 2, 29, 14, 24, 3, 30, 22, 20, 15, 25, 17, 4, 8, 31, 27, 13, 23, 21, 19, 16, 7, 26, 12, 18, 6, 11, 5, 10, 9]
theorem w0_of {W : World} (h : laidMetH Tryz.prog laidT W) (hsh : W.ShapedOpen Tryz.prog) : W0 W := by
  have hdb := tab_at h "math/bits.deBruijn32tab" .u8 dbtab 8 368 5 32 (by kernel_rfl) (by kernel_rfl) (by kernel_rfl) (by kernel_rfl) (by kernel_rfl) (by kernel_rfl) (by kernel_rfl) (by kernel_rfl)
  have hc := hdb.cell (show Tryz.prog.globalNamed "math/bits.deBruijn32tab" = some 8 by kernel_rfl) 0 (by simp [dbtab])
  have hsize : 6 < W.heap.size := by
    rcases Nat.lt_or_ge 8 W.heap.size with h8 | h8
    · omega
    · exfalso
      have : W.heap[8]? = none := Array.getElem?_eq_none h8
      simp [World.cell?, this] at hc
  refine ⟨hsize, cell_of_shapedOpen_int (P := Tryz.prog) (g := 2) (t := 3) (zero := #[.int .i64 0]) hsh (of_decide_eq_true (by kernel_rfl)) (by kernel_rfl) rfl (by kernel_rfl) (by kernel_rfl) Tryz.underlying3, ?_, ?_, ?_⟩
  · exact tab_at h "internal/strconv.uint64pow10" .u64 Lib.pow10Tab 3 346 272 20 (by kernel_rfl) (by kernel_rfl) (by kernel_rfl) (by kernel_rfl) (by kernel_rfl) (by kernel_rfl) (by kernel_rfl) (by kernel_rfl)
  · exact err_at h "strconv.ErrSyntax" "*errors.errorString" (.ptr (.agg [.lit (.string [105, 110, 118, 97, 108, 105, 100, 32, 115, 121, 110, 116, 97, 120])])) 4 _ (by kernel_rfl) (by kernel_rfl) (by kernel_rfl) Tryz.underlying226 (by kernel_rfl)
  · exact err_at h "strconv.ErrRange" "*errors.errorString" (.ptr (.agg [.lit (.string [118, 97, 108, 117, 101, 32, 111, 117, 116, 32, 111, 102, 32, 114, 97, 110, 103, 101])])) 5 _ (by kernel_rfl) (by kernel_rfl) (by kernel_rfl) Tryz.underlying226 (by kernel_rfl)
theorem own : ownKnob Tryz.prog.godebug = none := by kernel_rfl
theorem wrap {H : Type} {enc : TypeId × Value → H} {a : Assume} {C : Checked} {os : Os} {f : FuncId} {fn : Func} {s : ChangeSpec} {conds : List PathCond} {apart fresh handsOn again : Bool} {X : World → Array Value → Prop}
    (hX : ∀ (w w' : World) (args : Array Value), w.heap = w'.heap → X w args → X w' args)
    (own : ownKnob C.prog.godebug = none) (started : os.Started) (noInit : C.prog.inits.idxOf? f = none) (hfn : C.prog.funcs[f]? = some fn)
    (witness : ∃ (w : World) (tape : Tape) (i : Input), w.os = os ∧ (w.forCall tape i).Shaped C.prog ∧ i.vars = [] ∧ Input.okWide C.prog (w.forCall tape i) .any w.heap.size f i ∧
      ((s.pre enc C.prog fn conds apart (w.forCall tape i).memory i.args ∧ X (w.forCall tape i).memory i.args) ∧ sizedMet enc C.prog fn (OpenSpec.ofChange s) apart (w.forCall tape i).memory i.args) ∧ a.holds C.prog (lone (Frame.enter C.prog f i.args .normal) [] (w.forCall tape i)))
    (contract : ∀ (W : World) (base : Nat) (args : Array Value) (ds gs : List (DataW H)) (before : List MemPlace),
      (∀ (j : Nat) t v, fn.params[j]? = some t → args[j]? = some v → Value.okWide C.prog W .any base t v) →
      DataW.Whole enc C.prog fn.params.toList s.vars apart W args.toList ds gs before → W.ShapedOpen C.prog → X W args →
      Calls C.prog f args W fun e W' => ∃ v, e = .returned v ∧ s.post enc C.prog fn apart fresh handsOn again W args v W') :
    ReturnsInHanded a C os f .any (fun w args => (s.pre enc C.prog fn conds apart w args ∧ X w args) ∧ sizedMet enc C.prog fn (OpenSpec.ofChange s) apart w args) (s.post enc C.prog fn apart fresh handsOn again) := by
  refine returnsInHanded_of_calls own started noInit witness ?_
  intro w tape i _ hsh _ hok hpre _
  obtain ⟨_, _, _, fn', hfn', _, _, _, _, hval⟩ := hok
  have e : fn' = fn := Option.some.inj (hfn'.symm.trans hfn)
  subst e
  obtain ⟨⟨⟨ds, gs, before, hw, hc⟩, hx⟩, hz⟩ := hpre
  have hw' := DataW.Whole.of_heap (w' := w.forCall tape i) (by rfl) hw
  refine (contract (w.forCall tape i) w.heap.size i.args ds gs before hval hw' hsh (hX _ _ _ (by rfl) hx)).mono fun e W' ⟨v, he, hp⟩ => ?_
  subst he
  exact ChangeSpec.post_blind hp
end Fw.Tz

/-
  Arguments that are structs: their cells read field by field.
-/
namespace Fw.Tz
open Go Go.Proofs Fw.X Go.ChangeShapes Go.WideShapes Go.ChangeAt Go.RowKit Fw.Tz.Va Fw.Tz.Vb Fw.Tz.Vc Fw.Tz.Ve
section
variable {W : World}
theorem CsRd.two {a b : List D} {cs : List Value} {k1 k2 : Nat} (o : Nat) (h1 : CsRd W a ((cs.drop o).take k1)) (h2 : CsRd W b ((cs.drop (o + k1)).take k2)) : CsRd W (a ++ b) ((cs.drop o).take (k1 + k2)) := by
  rw [List.take_add, List.drop_drop]; exact h1.app h2
theorem CsRd.whole {a : List D} {cs : List Value} {n : Nat} (h : CsRd W a ((cs.drop 0).take n)) (hn : cs.length = n) : CsRd W a cs := by
  rwa [List.drop_zero, List.take_of_length_le (by omega)] at h
theorem CsRd.rvs : ∀ {ds : List D} {cs : List Value}, CsRd W ds cs → RVs gE W (ds.map .d) cs
  | [], [], _ => trivial
  | [], _ :: _, h => by have := h.1; simp at this
  | _ :: _, [], h => by have := h.1; simp at this
  | d :: ds, c :: cs, h => by
    simp only [List.map_cons, RVs]
    refine ⟨by simp only [RV]; exact h.2 0 d c rfl rfl, CsRd.rvs ⟨by have := h.1; simpa using this, fun j d' v' h1 h2 => h.2 (j + 1) d' v' (by simpa using h1) (by simpa using h2)⟩⟩
end
section
variable {H : Type} {enc : TypeId × Value → H} {P : Program} {W : World} {base : Nat} {spare : Nat → Bool} {held : Bool}
theorem open_struct {t : TypeId} {fs : Array Field} (ht : P.underlying t = some (.struct fs)) {fuel : Nat} {cs : List Value} {x : DataW H × List MemPlace} (h : DataW.trod enc P W base spare held fuel t cs = some x) :
    cs.length = P.cellsOf t ∧ ∀ (i : Nat) (f : Field), fs[i]? = some f → ∃ n y, DataW.trod enc P W base spare held n f.type ((cs.drop f.offset).take (P.cellsOf f.type)) = some y := by
  obtain ⟨xs, n, _, _, hl, hlen, hf⟩ := DataW.trod_struct ht h
  refine ⟨hl, fun i f hi => ?_⟩
  have hlt : i < xs.length := by rw [hlen]; exact (Array.getElem?_eq_some_iff.1 hi).1
  exact ⟨n, _, (hf i f hi).trans (List.getElem?_eq_getElem hlt)⟩
def El {α : Type} (enc : TypeId × Value → H) (P : Program) (W : World) (base : Nat) (spare : Nat → Bool) (held : Bool) (e : TypeId) (encA : α → List D) (good : α → Prop) : Prop :=
  ∀ (n : Nat) (cs : List Value) (x : DataW H × List MemPlace), DataW.trod enc P W base spare held n e cs = some x → ∃ a, good a ∧ CsRd W (encA a) cs
theorem El.str {e : TypeId} (he : P.underlying e = some .string) : El enc P W base spare held e (fun s : List UInt8 => [D.str s]) (fun _ => True) := fun n cs x h => by
  obtain ⟨s, rfl, _, _⟩ := DataW.trod_string he h
  exact ⟨s.data.toList, trivial, CsRd.one (by simp only [Rd]; exact ⟨s, rfl, rfl⟩)⟩
theorem El.int {e : TypeId} (he : P.underlying e = some (.int .i64)) : El enc P W base spare held e (fun k : Int => [D.int .i64 k]) (fun k => -9223372036854775808 ≤ k ∧ k ≤ 9223372036854775807) := fun n cs x h => el_i64 he n cs x h
theorem El.bool {e : TypeId} (he : P.underlying e = some .bool) : El enc P W base spare held e (fun b : Bool => [D.bool b]) (fun _ => True) := fun n cs x h => by
  obtain ⟨b, rfl, _⟩ := DataW.trod_bool he h
  exact ⟨b, trivial, CsRd.one (by simp only [Rd])⟩
theorem El.rows {α : Type} {encA : α → List D} {good : α → Prop} {t e : TypeId} {sz : Nat} (ht : P.underlying t = some (.slice e)) (hc : P.cellsOf e = sz) (h0 : 0 < sz) (hel : El enc P W base spare held e encA good) :
    El enc P W base spare held t (fun l : List α => [D.list (l.map encA)]) (fun l => (∀ a ∈ l, good a) ∧ l.length ≤ maxLen) := fun n cs x h => by
  obtain ⟨l, h1, h2, h3⟩ := open_rows encA good ht hc h0 hel h
  exact ⟨l, ⟨h1, h2⟩, h3⟩
theorem El.two {t : TypeId} {f0 f1 : Field} {k0 k1 : Nat} (ht : P.underlying t = some (.struct #[f0, f1])) (hc : P.cellsOf t = k0 + k1) (o0 : f0.offset = 0) (o1 : f1.offset = k0) (c0 : P.cellsOf f0.type = k0) (c1 : P.cellsOf f1.type = k1)
    {α β γ : Type} {ea : α → List D} {ga : α → Prop} {eb : β → List D} {gb : β → Prop} (h0 : El enc P W base spare held f0.type ea ga) (h1 : El enc P W base spare held f1.type eb gb) (mk : α → β → γ) {ec : γ → List D} {gc : γ → Prop}
    (he : ∀ a b, ec (mk a b) = ea a ++ eb b) (hg : ∀ a b, ga a → gb b → gc (mk a b)) : El enc P W base spare held t ec gc := fun n cs x h => by
  obtain ⟨hl, hf⟩ := open_struct ht h
  obtain ⟨n0, y0, r0⟩ := hf 0 f0 rfl
  obtain ⟨n1, y1, r1⟩ := hf 1 f1 rfl
  rw [o0, c0] at r0
  rw [o1, c1] at r1
  obtain ⟨a, g0, s0⟩ := h0 _ _ _ r0
  obtain ⟨b, g1, s1⟩ := h1 _ _ _ r1
  refine ⟨mk a b, hg a b g0 g1, ?_⟩
  rw [he]
  exact CsRd.whole (CsRd.two 0 s0 (by simpa using s1)) (by rw [hl, hc])
def Con.ds (c : Con) : List D := [.int .i64 c.k, c.s, .str c.ta.elem, .str c.ta.row, .list (c.ta.dims.map Lin.enc), .str c.tb.elem, .str c.tb.row, .list (c.tb.dims.map Lin.enc), .list (c.gs.map Ty.enc), .list (c.ws.map Ty.enc), .str c.r.elem, .str c.r.row, .list (c.r.dims.map Lin.enc), .str c.x.elem, .str c.x.row, .list (c.x.dims.map Lin.enc), .int .i64 c.lin.c, .list (c.lin.ts.map Cf.enc)]
theorem Con.ds_cells (c : Con) : (Con.ds c).map .d = Con.cells c := rfl
theorem El.con {t : TypeId} {f0 f1 f2 f3 f4 f5 f6 f7 f8 : Field} (ht : P.underlying t = some (.struct #[f0, f1, f2, f3, f4, f5, f6, f7, f8])) (hc : P.cellsOf t = 18)
    (o : [f0, f1, f2, f3, f4, f5, f6, f7, f8].map Field.offset = [0, 1, 2, 5, 8, 9, 10, 13, 16]) (k : [f0, f1, f2, f3, f4, f5, f6, f7, f8].map (fun f => P.cellsOf f.type) = [1, 1, 3, 3, 1, 1, 3, 3, 2])
    (h0 : El enc P W base spare held f0.type (fun k : Int => [D.int .i64 k]) (fun _ => True)) (h1 : El enc P W base spare held f1.type (fun k : Int => [D.int .i64 k]) (fun _ => True)) (h2 : El enc P W base spare held f2.type Ty.enc Ty.wd) (h3 : El enc P W base spare held f3.type Ty.enc Ty.wd)
    (h4 : El enc P W base spare held f4.type (fun l : List Ty => [D.list (l.map Ty.enc)]) (fun l => (∀ a ∈ l, Ty.wd a) ∧ l.length ≤ maxLen)) (h5 : El enc P W base spare held f5.type (fun l : List Ty => [D.list (l.map Ty.enc)]) (fun l => (∀ a ∈ l, Ty.wd a) ∧ l.length ≤ maxLen))
    (h6 : El enc P W base spare held f6.type Ty.enc Ty.wd) (h7 : El enc P W base spare held f7.type Ty.enc Ty.wd) (h8 : El enc P W base spare held f8.type Lin.enc Lin.wd) : El enc P W base spare held t Con.ds Con.wd := fun n cs x h => by
  simp only [List.map_cons, List.map_nil, List.cons.injEq, and_true] at o k
  obtain ⟨o0, o1, o2, o3, o4, o5, o6, o7, o8⟩ := o
  obtain ⟨k0, k1, k2, k3, k4, k5, k6, k7, k8⟩ := k
  obtain ⟨hl, hf⟩ := open_struct ht h
  obtain ⟨n0, y0, r0⟩ := hf 0 f0 rfl
  obtain ⟨n1, y1, r1⟩ := hf 1 f1 rfl
  obtain ⟨n2, y2, r2⟩ := hf 2 f2 rfl
  obtain ⟨n3, y3, r3⟩ := hf 3 f3 rfl
  obtain ⟨n4, y4, r4⟩ := hf 4 f4 rfl
  obtain ⟨n5, y5, r5⟩ := hf 5 f5 rfl
  obtain ⟨n6, y6, r6⟩ := hf 6 f6 rfl
  obtain ⟨n7, y7, r7⟩ := hf 7 f7 rfl
  obtain ⟨n8, y8, r8⟩ := hf 8 f8 rfl
  rw [o0, k0] at r0
  rw [o1, k1] at r1
  rw [o2, k2] at r2
  rw [o3, k3] at r3
  rw [o4, k4] at r4
  rw [o5, k5] at r5
  rw [o6, k6] at r6
  rw [o7, k7] at r7
  rw [o8, k8] at r8
  obtain ⟨a0, g0, s0⟩ := h0 _ _ _ r0
  obtain ⟨a1, g1, s1⟩ := h1 _ _ _ r1
  obtain ⟨a2, g2, s2⟩ := h2 _ _ _ r2
  obtain ⟨a3, g3, s3⟩ := h3 _ _ _ r3
  obtain ⟨a4, g4, s4⟩ := h4 _ _ _ r4
  obtain ⟨a5, g5, s5⟩ := h5 _ _ _ r5
  obtain ⟨a6, g6, s6⟩ := h6 _ _ _ r6
  obtain ⟨a7, g7, s7⟩ := h7 _ _ _ r7
  obtain ⟨a8, g8, s8⟩ := h8 _ _ _ r8
  have e : maxLen < 9223372036854775808 := by decide
  refine ⟨⟨a0, .int .i64 a1, a2, a3, a4, a5, a6, a7, a8⟩, ⟨Nat.lt_of_le_of_lt g4.2 e, Nat.lt_of_le_of_lt g5.2 e, g2, g3, g4.1, g5.1, g6, g7, g8⟩, ?_⟩
  exact CsRd.whole (CsRd.two 0 (CsRd.two 0 (CsRd.two 0 (CsRd.two 0 (CsRd.two 0 (CsRd.two 0 (CsRd.two 0 (CsRd.two 0 s0 s1) s2) s3) s4) s5) s6) s7) s8) (by rw [hl, hc])
end
end Fw.Tz

/-
  The types of this program's arguments, read as data.
-/
namespace Fw.Tz
open Go Go.Proofs Fw.X Go.ChangeShapes Go.WideShapes Go.ChangeAt Go.RowKit Fw.Tz.Va Fw.Tz.Vb Fw.Tz.Vc Fw.Tz.Ve
open Go.Proofs.YtgfgckimecpmlaaGreatDoor
section
variable {H : Type} {enc : TypeId × Value → H} {P : Program} {W : World} {base : Nat} {spare : Nat → Bool} {held : Bool}
theorem El.mono {α : Type} {e : TypeId} {encA : α → List D} {g g' : α → Prop} (h : El enc P W base spare held e encA g) (k : ∀ a, g a → g' a) : El enc P W base spare held e encA g' := fun n cs x hx => by
  obtain ⟨a, h1, h2⟩ := h n cs x hx
  exact ⟨a, k a h1, h2⟩
end
section
variable {H : Type} {enc : TypeId × Value → H} {W : World} {base : Nat} {spare : Nat → Bool} {held : Bool}
theorem maxLen_lt : maxLen < 9223372036854775808 := by decide
theorem eStr : El enc Tryz.prog W base spare held 9 (fun s : List UInt8 => [D.str s]) (fun _ => True) := El.str Tryz.underlying9
theorem eInt : El enc Tryz.prog W base spare held 3 (fun k : Int => [D.int .i64 k]) (fun k => -9223372036854775808 ≤ k ∧ k ≤ 9223372036854775807) := El.int Tryz.underlying3
theorem eInt0 : El enc Tryz.prog W base spare held 3 (fun k : Int => [D.int .i64 k]) (fun _ => True) := eInt.mono fun _ _ => trivial
theorem eCf : El enc Tryz.prog W base spare held 132 Cf.enc (fun _ => True) := El.two Tryz.underlying132 (k0 := 1) (k1 := 1) (by kernel_rfl) rfl rfl (by kernel_rfl) (by kernel_rfl) eStr eInt0 (fun s c => (⟨s, c⟩ : Cf)) (fun _ _ => rfl) (fun _ _ _ _ => trivial)
theorem eTs : El enc Tryz.prog W base spare held 28 (fun l : List Cf => [D.list (l.map Cf.enc)]) (fun l => (∀ a ∈ l, True) ∧ l.length ≤ maxLen) := El.rows (sz := 2) Tryz.underlying28 (by kernel_rfl) (by omega) eCf
theorem eLin : El enc Tryz.prog W base spare held 30 Lin.enc Lin.wd := El.two Tryz.underlying30 (k0 := 1) (k1 := 1) (by kernel_rfl) rfl rfl (by kernel_rfl) (by kernel_rfl) eInt0 eTs (fun c ts => (⟨c, ts⟩ : Lin)) (fun _ _ => rfl) (fun _ _ _ h => Nat.lt_of_le_of_lt h.2 maxLen_lt)
theorem eDims : El enc Tryz.prog W base spare held 22 (fun l : List Lin => [D.list (l.map Lin.enc)]) (fun l => (∀ a ∈ l, Lin.wd a) ∧ l.length ≤ maxLen) := El.rows (sz := 2) Tryz.underlying22 (by kernel_rfl) (by omega) eLin
def encS (s : List UInt8 × List Lin) : List D := [.str s.1, .list (s.2.map Lin.enc)]
def wdS (s : List UInt8 × List Lin) : Prop := s.2.length < 9223372036854775808 ∧ ∀ x ∈ s.2, Lin.wd x
theorem eShp : El enc Tryz.prog W base spare held 24 encS wdS := El.two Tryz.underlying24 (k0 := 1) (k1 := 1) (by kernel_rfl) rfl rfl (by kernel_rfl) (by kernel_rfl) eStr eDims (fun r d => (r, d)) (fun _ _ => rfl) (fun _ _ _ h => ⟨Nat.lt_of_le_of_lt h.2 maxLen_lt, h.1⟩)
theorem eTy : El enc Tryz.prog W base spare held 26 Ty.enc Ty.wd := El.two Tryz.underlying26 (k0 := 1) (k1 := 2) (by kernel_rfl) rfl rfl (by kernel_rfl) (by kernel_rfl) eStr eShp (fun e s => (⟨e, s.1, s.2⟩ : Ty)) (fun _ _ => rfl) (fun _ _ _ h => h)
theorem eTys : El enc Tryz.prog W base spare held 27 (fun l : List Ty => [D.list (l.map Ty.enc)]) (fun l => (∀ a ∈ l, Ty.wd a) ∧ l.length ≤ maxLen) := El.rows (sz := 3) Tryz.underlying27 (by kernel_rfl) (by omega) eTy
theorem eCon : El enc Tryz.prog W base spare held 32 Con.ds Con.wd := El.con Tryz.underlying32 (by kernel_rfl) rfl (by kernel_rfl) eInt0 eInt0 eTy eTy eTys eTys eTy eTy eLin
end
theorem rv_agg {W : World} {ds : List D} {cs : Array Value} {vs : List V} (h : CsRd W ds cs.toList) (e : ds.map .d = vs) : RV gE W (.agg vs) (.agg cs) := by
  subst e
  simp only [RV]
  exact ⟨cs, rfl, CsRd.rvs h⟩
end Fw.Tz

/-
  The list of values of AgreeValues, read as data.
-/
namespace Fw.Tz
open Go Go.Proofs Fw.X Go.ChangeShapes Go.WideShapes Go.ChangeAt Go.RowKit Fw.Tz.Va Fw.Tz.Vb Fw.Tz.Vc Fw.Tz.Ve
open Go.Proofs.YtgfgckimecpmlaaGreatDoor
theorem eVal {H : Type} {enc : TypeId × Value → H} {W : World} {base : Nat} {spare : Nat → Bool} {held : Bool} : El enc Tryz.prog W base spare held 193 Cf.enc (fun _ => True) := El.two Tryz.underlying193 (k0 := 1) (k1 := 1) (by kernel_rfl) rfl rfl (by kernel_rfl) (by kernel_rfl) eStr eInt0 (fun s c => (⟨s, c⟩ : Cf)) (fun _ _ => rfl) (fun _ _ _ _ => trivial)
theorem eVals {H : Type} {enc : TypeId × Value → H} {W : World} {base : Nat} {spare : Nat → Bool} {held : Bool} : El enc Tryz.prog W base spare held 66 (fun l : List Cf => [D.list (l.map Cf.enc)]) (fun l => (∀ a ∈ l, True) ∧ l.length ≤ maxLen) := El.rows (sz := 2) Tryz.underlying66 (by kernel_rfl) (by omega) eVal
end Fw.Tz
