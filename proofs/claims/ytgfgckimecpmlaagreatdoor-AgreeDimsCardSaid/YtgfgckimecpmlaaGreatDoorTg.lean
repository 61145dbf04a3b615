/-
  From a call that touches nothing to the world's own call.
-/
import Derived.Test.YtgfgckimecpmlaaGreatDoorTc
import Derived.Test.YtgfgckimecpmlaaGreatDoorTie
import Derived.Test.YtgfgckimecpmlaaGreatDoorCards
import Derived.ProofKit
import Derived.Handy
import Derived.Lay
import Derived.SevenTiedAt
import Derived.Shelf.Vars
import Derived.HandedShaped
import Derived.Test.YtgfgckimecpmlaaGreatDoorFg
import Derived.Deep.Slices
import Derived.ChangeStays
import Derived.ReadAgain
import Derived.ChangeOld

set_option linter.unusedSimpArgs false
set_option maxRecDepth 100000
namespace Fw.Tz
open Go Go.Proofs Fw.X Go.ChangeShapes Go.WideShapes Go.ChangeAt Go.RowKit
open Go.Proofs.YtgfgckimecpmlaaGreatDoor
variable {W : World}
theorem calls_of_pc {f : FuncId} {args : List V} {v : V} {vs : Array Value} (h : PC P (gl W) f args v) (hvs : RVs ⟨fun _ => False, fun _ => none, fun _ => False⟩ W args vs.toList) :
    Calls P f vs W fun e w' => ∃ x, e = .returned x ∧ Below W.heap.size W w' ∧ RV ⟨fun _ => False, fun _ => none, fun _ => False⟩ w' v x := by
  have hg : Globs (gl W) ⟨fun _ => False, fun _ => none, fun _ => False⟩ W := by
    refine ⟨fun n cs hn => (by cases hn), fun k hk => ⟨⟨hk, fun h => h, fun b x hx => (by cases hx)⟩, rfl⟩⟩
  refine (h.2 ⟨fun _ => False, fun _ => none, fun _ => False⟩ W vs hvs (fun k hk => hk.elim) (fun b y k hy => (by cases hy)) hg).mono ?_
  rintro e w' ⟨x, rfl, hx, he, _⟩
  exact ⟨x, rfl, ⟨he.os, he.tape, he.output, he.size, fun k hk => (he.keeps k ⟨hk, fun h => h, fun b x hx => (by cases hx)⟩).2⟩, hx⟩
end Fw.Tz

/-
  Arguments that are rows: read as data, and read again behind a call that writes nothing of theirs.
-/
set_option linter.unusedSimpArgs false
set_option linter.unusedVariables false
set_option maxRecDepth 100000
namespace Fw.Tz
open Go Go.Proofs Fw.X Go.ChangeShapes Go.WideShapes Go.ChangeAt Go.RowKit
open Go.Proofs.YtgfgckimecpmlaaGreatDoor
abbrev gE : G := ⟨fun _ => False, fun _ => none, fun _ => False⟩
theorem imm_gE {W : World} {k : Nat} (h : k < W.heap.size) : imm gE W k := ⟨h, fun h => h, fun b x hx => by cases hx⟩
theorem kids : Kids Tryz.prog (· < Tryz.prog.types.size) := kids_rows (by kernel_rfl) (by kernel_rfl)
theorem slicesFull : ∀ t e, t < Tryz.prog.types.size → Tryz.prog.underlying t = some (.slice e) → 0 < Tryz.prog.cellsOf e := slices_full_of _ (by kernel_rfl)
section
variable {H : Type} {enc : TypeId × Value → H} {W W' : World}
theorem trod_again (hb : Below W.heap.size W W') {t : TypeId} {v : Value} {d : DataW H} {ps : List MemPlace} (ht : t < Tryz.prog.types.size) (h : DataW.Trod enc Tryz.prog W 0 (fun _ => true) true t v d ps) :
    DataW.Trod enc Tryz.prog W' 0 (fun b => decide (b < W.heap.size)) true t v d ps := by
  obtain ⟨n, hn⟩ := h
  have hlt := DataW.trod_lt n t _ _ hn
  refine ⟨n, DataW.trod_stays kids (fun {t e} ht hu => slicesFull t e ht hu) (fun h => by cases h) ht hn (fun p hp => ?_) (fun p hp => decide_eq_true (hlt p hp))⟩
  have hp' := hlt p hp
  cases p with
  | cell b off => exact World.cell?_of_block (w := W) (hb.block b hp')
  | map b => exact hb.block b hp'
theorem trodAll_again (hb : Below W.heap.size W W') : ∀ {ts : List TypeId} {vs : List Value} {ds : List (DataW H)} {ps : List MemPlace}, (∀ t ∈ ts, t < Tryz.prog.types.size) → DataW.TrodAll enc Tryz.prog W 0 (fun _ => true) true ts vs ds ps →
    DataW.TrodAll enc Tryz.prog W' 0 (fun b => decide (b < W.heap.size)) true ts vs ds ps
  | [], [], [], _, _, h => h
  | t :: ts, v :: vs, d :: ds, _, ht, ⟨p, q, h1, h2, e⟩ => ⟨p, q, trod_again hb (ht t List.mem_cons_self) h1, trodAll_again hb (fun t h => ht t (List.mem_cons_of_mem _ h)) h2, e⟩
end
theorem RdE_mk {w : World} {im : Nat → Prop} {blk sz : Nat} : ∀ (es : List (List D)) (off : Nat), (∀ (i : Nat) (e : List D), es[i]? = some e → e.length = sz ∧ RdC w im blk (off + i * sz) e) → RdE w im blk off sz es
  | [], _, _ => by simp only [RdE]
  | e :: es, off, h => by
    simp only [RdE]
    have h0 := h 0 e rfl
    refine ⟨h0.1, by simpa using h0.2, RdE_mk es (off + sz) fun i e' he => ?_⟩
    have := h (i + 1) e' (by simpa using he)
    rwa [show off + (i + 1) * sz = off + sz + i * sz by rw [Nat.add_mul]; omega] at this
section
variable {H : Type} {enc : TypeId × Value → H} {P : Program} {W : World} {base : Nat} {spare : Nat → Bool} {held : Bool}
def CsRd (W : World) (ds : List D) (cs : List Value) : Prop := ds.length = cs.length ∧ ∀ (j : Nat) (d : D) (v : Value), ds[j]? = some d → cs[j]? = some v → Rd W (imm gE W) d v
theorem CsRd.one {d : D} {v : Value} (h : Rd W (imm gE W) d v) : CsRd W [d] [v] := ⟨rfl, fun j d' v' h1 h2 => by
  cases j with
  | zero => simp at h1 h2; subst h1; subst h2; exact h
  | succ j => simp at h1⟩
theorem open_rows {α : Type} (encA : α → List D) (good : α → Prop) {t e : TypeId} {sz : Nat} (ht : P.underlying t = some (.slice e)) (hc : P.cellsOf e = sz) (h0 : 0 < sz)
    (hel : ∀ (n : Nat) (cs : List Value) (x : DataW H × List MemPlace), DataW.trod enc P W base spare held n e cs = some x → ∃ a, good a ∧ CsRd W (encA a) cs) {fuel : Nat} {cs : List Value} {x : DataW H × List MemPlace} (h : DataW.trod enc P W base spare held fuel t cs = some x) :
    ∃ l : List α, (∀ a ∈ l, good a) ∧ l.length ≤ maxLen ∧ CsRd W [.list (l.map encA)] cs := by
  rcases Go.Deep.open_slice ht h with ⟨rfl, -⟩ | ⟨a, len, cap, m, n, D', Pl, rfl, hb, hl, hm, hmm, -, hx⟩
  · exact ⟨[], by simp, by simp, CsRd.one (by simp [Rd])⟩
  · rw [hc] at hx
    have hle : len ≤ m := by rw [hmm]; split <;> omega
    have hex : ∀ i : Fin len, ∃ a' : α, good a' ∧ ∃ cs', W.cells? base (a.add (i.1 * sz)) sz = some cs' ∧ CsRd W (encA a') cs' := by
      intro i
      obtain ⟨cs', h1, h2⟩ := hx i.1 (by have := i.2; omega)
      obtain ⟨a', k1, k2⟩ := hel _ _ _ h2
      exact ⟨a', k1, cs', h1, k2⟩
    let f : Fin len → α := fun i => Classical.choose (hex i)
    have hf : ∀ i, good (f i) ∧ ∃ cs', W.cells? base (a.add (i.1 * sz)) sz = some cs' ∧ CsRd W (encA (f i)) cs' := fun i => Classical.choose_spec (hex i)
    refine ⟨List.ofFn f, ?_, by simp; omega, ?_⟩
    · intro a' ha
      obtain ⟨i, rfl⟩ := List.mem_ofFn.1 ha
      exact (hf i).1
    · refine CsRd.one ?_
      simp only [Rd]
      by_cases h0l : len = 0
      · subst h0l
        exact .inl ⟨by simp, .inr ⟨a, cap, rfl⟩⟩
      · have hpos : 0 < len := by omega
        obtain ⟨-, cs', h1, -⟩ := hf ⟨0, hpos⟩
        obtain ⟨-, h2, h3⟩ := World.cells?_some h1
        have h4 := h3 0 h0
        have hcs : ∃ v, cs'[0]? = some v := ⟨_, List.getElem?_eq_getElem (by omega)⟩
        obtain ⟨v, hv⟩ := hcs
        rw [hv] at h4
        have hsp := World.cell?_spot h4
        have hblk : a.block < W.heap.size := by have := World.cells?_block h1 h0; simpa [Addr.add] using this
        have hspot : a.spot = none := by
          simpa [Addr.add] using hsp
        have hae : a = ⟨a.block, a.off, none⟩ := by cases a; simp at hspot; simp [hspot]
        refine .inr ⟨a.block, a.off, cap, sz, by rw [List.length_map, List.length_ofFn]; rw [← hae], by simp; exact hl, fun _ => imm_gE hblk, ?_⟩
        refine RdE_mk _ _ fun i e' he => ?_
        simp only [List.getElem?_map, Option.map_eq_some_iff] at he
        obtain ⟨a', ha', rfl⟩ := he
        obtain ⟨hi, hia⟩ := List.getElem?_eq_some_iff.1 ha'
        simp only [List.length_ofFn] at hi
        simp only [List.getElem_ofFn] at hia
        obtain ⟨-, cs2, k1, k2⟩ := hf ⟨i, hi⟩
        obtain ⟨-, k3, k4⟩ := World.cells?_some k1
        rw [← hia]
        refine ⟨by rw [k2.1, k3], RdC.of_vals (vs := cs2) k2.1 k2.2 fun j v' hv' => ?_⟩
        have hj : j < sz := by rw [← k3]; exact (List.getElem?_eq_some_iff.1 hv').1
        have := k4 j hj
        rw [hv'] at this
        rw [← this, hae, Addr.add_mk, Addr.add_mk]
theorem el_i64 {e : TypeId} (he : P.underlying e = some (.int .i64)) (n : Nat) (cs : List Value) (x : DataW H × List MemPlace) (h : DataW.trod enc P W base spare held n e cs = some x) : ∃ a : Int, (-9223372036854775808 ≤ a ∧ a ≤ 9223372036854775807) ∧ CsRd W [.int .i64 a] cs := by
  obtain ⟨k, rfl, -, hw⟩ := DataW.trod_int he h
  have h1 : IntKind.i64.min ≤ k ∧ k ≤ IntKind.i64.max := by simp only [Lit.wf, Bool.and_eq_true, decide_eq_true_eq] at hw; exact hw
  have e1 : IntKind.i64.min = -9223372036854775808 := rfl
  have e2 : IntKind.i64.max = 9223372036854775807 := rfl
  rw [e1, e2] at h1
  exact ⟨k, h1, CsRd.one (by simp only [Rd])⟩
theorem rv_of_one {d : D} {v : Value} {cs : List Value} (hcs : v.cells.toList = cs) (h : CsRd W [d] cs) (h1 : v.cells = #[v]) : RV gE W (.d d) v := by
  subst hcs
  rw [h1] at h
  simp only [RV]
  exact h.2 0 d v rfl rfl
end
end Fw.Tz

/-
  What the rows of this seat share: the first world, the wrap.
-/
set_option linter.unusedSimpArgs false
set_option maxRecDepth 100000
namespace Fw.Tz
open Go Go.Proofs Fw.X Go.ChangeShapes Go.WideShapes Go.ChangeAt Go.RowKit
open Go.Proofs.YtgfgckimecpmlaaGreatDoor
abbrev laidT : List (String × DataW Unit) := Rows.agreeDimsRow.laid
theorem tab_at {W : World} (h : laidMetH Tryz.prog laidT W) (name : String) (k : IntKind) (zs : List Int) (g : Nat) (t e : TypeId) (n : Nat)
    (hl : (laidT.filter fun x => x.1 == name) = [(name, Lib.tabData k zs)])
    (hg : Tryz.prog.globalNamed name = some g) (hty : (Tryz.prog.globals[g]?).map (·.type) = some t) (ht : Tryz.prog.underlying t = some (.array n e)) (he : Tryz.prog.underlying e = some (.int k)) (hce : Tryz.prog.cellsOf e = 1) (hct : Tryz.prog.cellsOf t = n)
    (hpl : ([(name, Lib.tabData k zs)].all fun (x : String × DataW Unit) => x.2.handleName?.isNone) = true) : Lib.TabIs Tryz.prog W name k zs := by
  have h2 := laidMetH.filter (fun x => x.1 == name) h
  rw [hl, MakeChecks.laidMetH_plain _ _ _ hpl] at h2
  exact Lib.tabIs_of_head hg hty ht he hce hct h2
theorem err_at {W : World} (h : laidMetH Tryz.prog laidT W) (name : String) (en : String) (d : DataW Unit) (g : Nat) (ms : Array (String × TypeId))
    (hl : (laidT.filter fun x => x.1 == name) = [(name, .iface en d)])
    (hg : Tryz.prog.globalNamed name = some g) (hty : (Tryz.prog.globals[g]?).map (·.type) = some 226) (ht : Tryz.prog.underlying 226 = some (.interface ms))
    (hpl : ([(name, DataW.iface en d)].all fun (x : String × DataW Unit) => x.2.handleName?.isNone) = true) : ∃ ev, W.cell? ⟨g, 0, none⟩ = some ev ∧ (ev = .nilIface ∨ ∃ te pe, ev = .iface te pe) := by
  have h2 := laidMetH.filter (fun x => x.1 == name) h
  rw [hl, MakeChecks.laidMetH_plain _ _ _ hpl] at h2
  obtain ⟨ps, ⟨g', t, cs, fuel, p, q, hg', ht', hv, hd, _, _⟩, _, _⟩ := h2
  obtain rfl := Option.some.inj (hg.symm.trans hg')
  obtain rfl := Option.some.inj (hty.symm.trans ht')
  obtain ⟨fuel', u, v, hcs, _, _⟩ := iface_of_trod ht hd
  refine ⟨.iface u v, ?_, .inr ⟨u, v, rfl⟩⟩
  rw [World.var?_cell hg hv 0, ← Array.getElem?_toList, hcs]
  rfl
def dbtab : List Int := [0, 1, 28, 2, 29, 14, 24, 3, 30, 22, 20, 15, 25, 17, 4, 8, 31, 27, 13, 23, 21, 19, 16, 7, 26, 12, 18, 6, 11, 5, 10, 9]
theorem w0_of {W : World} (h : laidMetH Tryz.prog laidT W) (hsh : W.ShapedOpen Tryz.prog) : W0 W := by
  have hdb := tab_at h "math/bits.deBruijn32tab" .u8 dbtab 8 368 5 32 (by kernel_rfl) (by kernel_rfl) (by kernel_rfl) (by kernel_rfl) (by kernel_rfl) (by kernel_rfl) (by kernel_rfl) (by kernel_rfl)
  have hc := hdb.cell (show Tryz.prog.globalNamed "math/bits.deBruijn32tab" = some 8 by kernel_rfl) 0 (by simp [dbtab])
  have hsize : 6 < W.heap.size := by
    rcases Nat.lt_or_ge 8 W.heap.size with h8 | h8
    · omega
    · exfalso
      have : W.heap[8]? = none := Array.getElem?_eq_none h8
      simp [World.cell?, this] at hc
  refine ⟨hsize, cell_of_shapedOpen_int (P := Tryz.prog) (g := 2) (t := 3) (zero := #[.int .i64 0]) hsh (of_decide_eq_true (by kernel_rfl)) (by kernel_rfl) rfl (by kernel_rfl) (by kernel_rfl) Tryz.underlying3, ?_, ?_, ?_⟩
  · exact tab_at h "internal/strconv.uint64pow10" .u64 Lib.pow10Tab 3 346 272 20 (by kernel_rfl) (by kernel_rfl) (by kernel_rfl) (by kernel_rfl) (by kernel_rfl) (by kernel_rfl) (by kernel_rfl) (by kernel_rfl)
  · exact err_at h "strconv.ErrSyntax" "*errors.errorString" (.ptr (.agg [.lit (.string [105, 110, 118, 97, 108, 105, 100, 32, 115, 121, 110, 116, 97, 120])])) 4 _ (by kernel_rfl) (by kernel_rfl) (by kernel_rfl) Tryz.underlying226 (by kernel_rfl)
  · exact err_at h "strconv.ErrRange" "*errors.errorString" (.ptr (.agg [.lit (.string [118, 97, 108, 117, 101, 32, 111, 117, 116, 32, 111, 102, 32, 114, 97, 110, 103, 101])])) 5 _ (by kernel_rfl) (by kernel_rfl) (by kernel_rfl) Tryz.underlying226 (by kernel_rfl)
theorem own : ownKnob Tryz.prog.godebug = none := by kernel_rfl
theorem wrap {H : Type} {enc : TypeId × Value → H} {a : Assume} {C : Checked} {os : Os} {f : FuncId} {fn : Func} {s : ChangeSpec} {conds : List PathCond} {apart fresh handsOn again : Bool} {X : World → Array Value → Prop}
    (hX : ∀ (w w' : World) (args : Array Value), w.heap = w'.heap → X w args → X w' args)
    (own : ownKnob C.prog.godebug = none) (started : os.Started) (noInit : C.prog.inits.idxOf? f = none) (hfn : C.prog.funcs[f]? = some fn)
    (witness : ∃ (w : World) (tape : Tape) (i : Input), w.os = os ∧ (w.forCall tape i).Shaped C.prog ∧ i.vars = [] ∧ Input.okWide C.prog (w.forCall tape i) .any w.heap.size f i ∧
      ((s.pre enc C.prog fn conds apart (w.forCall tape i).memory i.args ∧ X (w.forCall tape i).memory i.args) ∧ sizedMet enc C.prog fn (OpenSpec.ofChange s) apart (w.forCall tape i).memory i.args) ∧ a.holds C.prog (lone (Frame.enter C.prog f i.args .normal) [] (w.forCall tape i)))
    (contract : ∀ (W : World) (base : Nat) (args : Array Value) (ds gs : List (DataW H)) (before : List MemPlace),
      (∀ (j : Nat) t v, fn.params[j]? = some t → args[j]? = some v → Value.okWide C.prog W .any base t v) →
      DataW.Whole enc C.prog fn.params.toList s.vars apart W args.toList ds gs before → W.ShapedOpen C.prog → X W args →
      Calls C.prog f args W fun e W' => ∃ v, e = .returned v ∧ s.post enc C.prog fn apart fresh handsOn again W args v W') :
    ReturnsInHanded a C os f .any (fun w args => (s.pre enc C.prog fn conds apart w args ∧ X w args) ∧ sizedMet enc C.prog fn (OpenSpec.ofChange s) apart w args) (s.post enc C.prog fn apart fresh handsOn again) := by
  refine returnsInHanded_of_calls own started noInit witness ?_
  intro w tape i _ hsh _ hok hpre _
  obtain ⟨_, _, _, fn', hfn', _, _, _, _, hval⟩ := hok
  have e : fn' = fn := Option.some.inj (hfn'.symm.trans hfn)
  subst e
  obtain ⟨⟨⟨ds, gs, before, hw, hc⟩, hx⟩, hz⟩ := hpre
  have hw' := DataW.Whole.of_heap (w' := w.forCall tape i) (by rfl) hw
  refine (contract (w.forCall tape i) w.heap.size i.args ds gs before hval hw' hsh (hX _ _ _ (by rfl) hx)).mono fun e W' ⟨v, he, hp⟩ => ?_
  subst he
  exact ChangeSpec.post_blind hp
end Fw.Tz
