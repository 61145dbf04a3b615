/-
  From a call that touches nothing to the world's own call.
-/
import Derived.Test.YtonjnjkdebpilaaGreatDoorTc
import Derived.Test.YtonjnjkdebpilaaGreatDoorTie
import Derived.Test.YtonjnjkdebpilaaGreatDoorCards
import Derived.ProofKit
import Derived.Handy
import Derived.Lay
import Derived.SevenTiedAt
import Derived.Shelf.Vars
import Derived.HandedShaped
import Derived.Test.YtonjnjkdebpilaaGreatDoorFg
import Derived.Deep.Slices
import Derived.ChangeStays
import Derived.ReadAgain
import Derived.ChangeOld
import Derived.Test.YtonjnjkdebpilaaGreatDoorTf
import Derived.Handed

set_option linter.unusedSimpArgs false
set_option maxRecDepth 100000
namespace Fw.Tz
open Go Go.Proofs Fw.X Go.ChangeShapes Go.WideShapes Go.ChangeAt Go.RowKit
open Go.Proofs.YtonjnjkdebpilaaGreatDoor
variable {W : World}
theorem calls_of_pc {f : FuncId} {args : List V} {v : V} {vs : Array Value} (h : PC P (gl W) f args v) (hvs : RVs ⟨fun _ => False, fun _ => none, fun _ => False, 0⟩ W args vs.toList) :
    Calls P f vs W fun e w' => ∃ x, e = .returned x ∧ Below W.heap.size W w' ∧ RV ⟨fun _ => False, fun _ => none, fun _ => False, 0⟩ w' v x := by
  have hg : Globs (gl W) ⟨fun _ => False, fun _ => none, fun _ => False, 0⟩ W := by
    refine ⟨fun n cs hn => (by cases hn), fun k hk => ⟨⟨hk, fun h => h, fun b x hx => (by cases hx)⟩, rfl⟩⟩
  refine (h.2 ⟨fun _ => False, fun _ => none, fun _ => False, 0⟩ W vs hvs (fun k hk => hk.elim) (fun b y k hy => (by cases hy)) hg).mono ?_
  rintro e w' ⟨x, rfl, hx, he, _⟩
  exact ⟨x, rfl, ⟨he.os, he.tape, he.output, he.size, fun k hk => (he.keeps k ⟨hk, fun h => h, fun b x hx => (by cases hx)⟩).2⟩, hx⟩
end Fw.Tz

/-
  Arguments that are rows: read as data, and read again behind a call that writes nothing of theirs.
-/
set_option linter.unusedVariables false
namespace Fw.Tz
open Go Go.Proofs Fw.X Go.ChangeShapes Go.WideShapes Go.ChangeAt Go.RowKit
open Go.Proofs.YtonjnjkdebpilaaGreatDoor
abbrev gE : G := ⟨fun _ => False, fun _ => none, fun _ => False, 0⟩
theorem imm_gE {W : World} {k : Nat} (h : k < W.heap.size) : imm gE W k := ⟨h, fun h => h, fun b x hx => by cases hx⟩
theorem kids : Kids Tryz.prog (· < Tryz.prog.types.size) := kids_rows (by kernel_rfl) (by kernel_rfl)
theorem slicesFull : ∀ t e, t < Tryz.prog.types.size → Tryz.prog.underlying t = some (.slice e) → 0 < Tryz.prog.cellsOf e := slices_full_of _ (by kernel_rfl)
section
variable {H : Type} {enc : TypeId × Value → H} {W W' : World}
theorem trod_again (hb : Below W.heap.size W W') {t : TypeId} {v : Value} {d : DataW H} {ps : List MemPlace} (ht : t < Tryz.prog.types.size) (h : DataW.Trod enc Tryz.prog W 0 (fun _ => true) true t v d ps) :
    DataW.Trod enc Tryz.prog W' 0 (fun b => decide (b < W.heap.size)) true t v d ps := by
  obtain ⟨n, hn⟩ := h
  have hlt := DataW.trod_lt n t _ _ hn
  refine ⟨n, DataW.trod_stays kids (fun {t e} ht hu => slicesFull t e ht hu) (fun h => by cases h) ht hn (fun p hp => ?_) (fun p hp => decide_eq_true (hlt p hp))⟩
  have hp' := hlt p hp
  cases p with
  | cell b off => exact World.cell?_of_block (w := W) (hb.block b hp')
  | map b => exact hb.block b hp'
theorem trodAll_again (hb : Below W.heap.size W W') : ∀ {ts : List TypeId} {vs : List Value} {ds : List (DataW H)} {ps : List MemPlace}, (∀ t ∈ ts, t < Tryz.prog.types.size) → DataW.TrodAll enc Tryz.prog W 0 (fun _ => true) true ts vs ds ps →
    DataW.TrodAll enc Tryz.prog W' 0 (fun b => decide (b < W.heap.size)) true ts vs ds ps
  | [], [], [], _, _, h => h
  | t :: ts, v :: vs, d :: ds, _, ht, ⟨p, q, h1, h2, e⟩ => ⟨p, q, trod_again hb (ht t List.mem_cons_self) h1, trodAll_again hb (fun t h => ht t (List.mem_cons_of_mem _ h)) h2, e⟩
end
theorem RdE_mk {w : World} {im : Nat → Prop} {blk sz : Nat} : ∀ (es : List (List D)) (off : Nat), (∀ (i : Nat) (e : List D), es[i]? = some e → e.length = sz ∧ RdC w im blk (off + i * sz) e) → RdE w im blk off sz es
  | [], _, _ => by simp only [RdE]
  | e :: es, off, h => by
    simp only [RdE]
    have h0 := h 0 e rfl
    refine ⟨h0.1, by simpa using h0.2, RdE_mk es (off + sz) fun i e' he => ?_⟩
    have := h (i + 1) e' (by simpa using he)
    rwa [show off + (i + 1) * sz = off + sz + i * sz by rw [Nat.add_mul]; omega] at this
section
variable {H : Type} {enc : TypeId × Value → H} {P : Program} {W : World} {base : Nat} {spare : Nat → Bool} {held : Bool}
def CsRd (W : World) (ds : List D) (cs : List Value) : Prop := ds.length = cs.length ∧ ∀ (j : Nat) (d : D) (v : Value), ds[j]? = some d → cs[j]? = some v → Rd W (imm gE W) d v
theorem CsRd.one {d : D} {v : Value} (h : Rd W (imm gE W) d v) : CsRd W [d] [v] := ⟨rfl, fun j d' v' h1 h2 => by
  cases j with
  | zero => simp at h1 h2; subst h1; subst h2; exact h
  | succ j => simp at h1⟩
theorem CsRd.app {a b : List D} {x y : List Value} (h : CsRd W a x) (k : CsRd W b y) : CsRd W (a ++ b) (x ++ y) := ⟨by simp [h.1, k.1], fun j d v h1 h2 => by
  by_cases hj : j < a.length
  · rw [List.getElem?_append_left hj] at h1
    rw [List.getElem?_append_left (by rw [← h.1]; exact hj)] at h2
    exact h.2 j d v h1 h2
  · rw [List.getElem?_append_right (by omega)] at h1
    rw [List.getElem?_append_right (by rw [← h.1]; omega), ← h.1] at h2
    exact k.2 _ d v h1 h2⟩
theorem el_i64 {e : TypeId} (he : P.underlying e = some (.int .i64)) (n : Nat) (cs : List Value) (x : DataW H × List MemPlace) (h : DataW.trod enc P W base spare held n e cs = some x) : ∃ a : Int, (-9223372036854775808 ≤ a ∧ a ≤ 9223372036854775807) ∧ CsRd W [.int .i64 a] cs := by
  obtain ⟨k, rfl, -, hw⟩ := DataW.trod_int he h
  have h1 : IntKind.i64.min ≤ k ∧ k ≤ IntKind.i64.max := by simp only [Lit.wf, Bool.and_eq_true, decide_eq_true_eq] at hw; exact hw
  have e1 : IntKind.i64.min = -9223372036854775808 := rfl
  have e2 : IntKind.i64.max = 9223372036854775807 := rfl
  rw [e1, e2] at h1
  exact ⟨k, h1, CsRd.one (by simp only [Rd])⟩
end
end Fw.Tz

/-
  Arguments read as data, of small bulk.
-/
namespace Fw.Tz
open Go Go.Proofs Fw.X Go.ChangeShapes Go.WideShapes Go.ChangeAt Go.RowKit Fw.Tz.Va Fw.Tz.Vb Fw.Tz.Ga
open Go.Proofs.YtonjnjkdebpilaaGreatDoor
section
variable {W : World}
theorem CsRd.two {a b : List D} {cs : List Value} {k1 k2 : Nat} (o : Nat) (h1 : CsRd W a ((cs.drop o).take k1)) (h2 : CsRd W b ((cs.drop (o + k1)).take k2)) : CsRd W (a ++ b) ((cs.drop o).take (k1 + k2)) := by
  rw [List.take_add, List.drop_drop]; exact h1.app h2
theorem CsRd.whole {a : List D} {cs : List Value} {n : Nat} (h : CsRd W a ((cs.drop 0).take n)) (hn : cs.length = n) : CsRd W a cs := by
  rwa [List.drop_zero, List.take_of_length_le (by omega)] at h
theorem CsRd.rvs : ∀ {ds : List D} {cs : List Value}, CsRd W ds cs → RVs gE W (ds.map .d) cs
  | [], [], _ => trivial
  | [], _ :: _, h => by have := h.1; simp at this
  | _ :: _, [], h => by have := h.1; simp at this
  | d :: ds, c :: cs, h => by
    simp only [List.map_cons, RVs]
    refine ⟨by simp only [RV]; exact h.2 0 d c rfl rfl, CsRd.rvs ⟨by have := h.1; simpa using this, fun j d' v' h1 h2 => h.2 (j + 1) d' v' (by simpa using h1) (by simpa using h2)⟩⟩
end
section
variable {H : Type}
theorem bulk_one (d : DataW H) : 1 ≤ Rows.uptoBulk d := by
  cases d with
  | lit l => cases l <;> simp [Rows.uptoBulk]
  | _ => simp [Rows.uptoBulk]
theorem bulk_mem {d : DataW H} : ∀ {l : List (DataW H)}, d ∈ l → Rows.uptoBulk d ≤ Rows.uptoBulkAll l
  | [], h => by cases h
  | x :: r, h => by
    simp only [Rows.uptoBulkAll]
    rcases List.mem_cons.1 h with rfl | h
    · omega
    · have := bulk_mem h; omega
theorem bulk_len : ∀ l : List (DataW H), l.length ≤ Rows.uptoBulkAll l
  | [] => by simp [Rows.uptoBulkAll]
  | x :: r => by have := bulk_one x; have := bulk_len r; simp only [Rows.uptoBulkAll, List.length_cons]; omega
theorem bulk_slice (a b : List (DataW H)) : a.length + 1 ≤ Rows.uptoBulk (.slice a b) := by
  have := bulk_len a
  simp only [Rows.uptoBulk]; omega
theorem bulk_elems (a b : List (DataW H)) : Rows.uptoBulkAll a + 1 ≤ Rows.uptoBulk (.slice a b) := by
  simp only [Rows.uptoBulk]; omega
end
section
variable {H : Type} {enc : TypeId × Value → H} {P : Program} {W : World} {base : Nat} {spare : Nat → Bool} {held : Bool}
def Eb {α : Type} (enc : TypeId × Value → H) (P : Program) (W : World) (base : Nat) (spare : Nat → Bool) (held : Bool) (e : TypeId) (encA : α → List D) (good : α → Prop) : Prop :=
  ∀ (n : Nat) (cs : List Value) (x : DataW H × List MemPlace), DataW.trod enc P W base spare held n e cs = some x → Rows.uptoBulk x.1 ≤ 1048576 → ∃ a, good a ∧ CsRd W (encA a) cs
theorem Eb.str {e : TypeId} (he : P.underlying e = some .string) : Eb enc P W base spare held e (fun s : List UInt8 => [D.str s]) (fun s => s.length < 1048576) := fun n cs x h hw => by
  obtain ⟨s, rfl, rfl, _⟩ := DataW.trod_string he h
  refine ⟨s.data.toList, ?_, CsRd.one (by simp only [Rd]; exact ⟨s, rfl, rfl⟩)⟩
  simp only [Rows.uptoBulk] at hw
  omega
theorem Eb.int {e : TypeId} (he : P.underlying e = some (.int .i64)) : Eb enc P W base spare held e (fun k : Int => [D.int .i64 k]) (fun _ => True) := fun n cs x h _ => by
  obtain ⟨a, _, h2⟩ := el_i64 he n cs x h
  exact ⟨a, trivial, h2⟩
theorem open_rowsB {α : Type} (encA : α → List D) (good : α → Prop) {t e : TypeId} {sz : Nat} (ht : P.underlying t = some (.slice e)) (hc : P.cellsOf e = sz) (h0 : 0 < sz)
    (hel : Eb enc P W base spare held e encA good) {fuel : Nat} {cs : List Value} {x : DataW H × List MemPlace} (h : DataW.trod enc P W base spare held fuel t cs = some x) (hw : Rows.uptoBulk x.1 ≤ 1048576) :
    ∃ l : List α, (∀ a ∈ l, good a) ∧ l.length < 1048576 ∧ CsRd W [.list (l.map encA)] cs := by
  rcases Go.Deep.open_slice ht h with ⟨rfl, -⟩ | ⟨a, len, cap, m, n, D', Pl, rfl, hb, hl, hm, hmm, rfl, hx⟩
  · exact ⟨[], by simp, by simp, CsRd.one (by simp [Rd])⟩
  · rw [hc] at hx
    have hle : len ≤ m := by rw [hmm]; split <;> omega
    have hs1 := bulk_slice ((List.range len).map D') ((List.range (m - len)).map fun j => D' (len + j))
    have hs2 := bulk_elems ((List.range len).map D') ((List.range (m - len)).map fun j => D' (len + j))
    rw [List.length_map, List.length_range] at hs1
    have hbytes : len < 1048576 := by have := hw; dsimp only at this; omega
    have hwA : Rows.uptoBulkAll ((List.range len).map D') ≤ 1048576 := by have := hw; dsimp only at this; omega
    have hex : ∀ i : Fin len, ∃ a' : α, good a' ∧ ∃ cs', W.cells? base (a.add (i.1 * sz)) sz = some cs' ∧ CsRd W (encA a') cs' := by
      intro i
      obtain ⟨cs', h1, h2⟩ := hx i.1 (by have := i.2; omega)
      obtain ⟨a', k1, k2⟩ := hel _ _ _ h2 (Nat.le_trans (bulk_mem (List.mem_map.2 ⟨i.1, List.mem_range.2 i.2, rfl⟩)) hwA)
      exact ⟨a', k1, cs', h1, k2⟩
    let f : Fin len → α := fun i => Classical.choose (hex i)
    have hf : ∀ i, good (f i) ∧ ∃ cs', W.cells? base (a.add (i.1 * sz)) sz = some cs' ∧ CsRd W (encA (f i)) cs' := fun i => Classical.choose_spec (hex i)
    refine ⟨List.ofFn f, ?_, by simpa using hbytes, ?_⟩
    · intro a' ha
      obtain ⟨i, rfl⟩ := List.mem_ofFn.1 ha
      exact (hf i).1
    · refine CsRd.one ?_
      simp only [Rd]
      by_cases h0l : len = 0
      · subst h0l
        exact .inl ⟨by simp, .inr ⟨a, cap, rfl⟩⟩
      · have hpos : 0 < len := by omega
        obtain ⟨-, cs', h1, -⟩ := hf ⟨0, hpos⟩
        obtain ⟨-, h2, h3⟩ := World.cells?_some h1
        have h4 := h3 0 h0
        have hcs : ∃ v, cs'[0]? = some v := ⟨_, List.getElem?_eq_getElem (by omega)⟩
        obtain ⟨v, hv⟩ := hcs
        rw [hv] at h4
        have hsp := World.cell?_spot h4
        have hblk : a.block < W.heap.size := by have := World.cells?_block h1 h0; simpa [Addr.add] using this
        have hspot : a.spot = none := by
          simpa [Addr.add] using hsp
        have hae : a = ⟨a.block, a.off, none⟩ := by cases a; simp at hspot; simp [hspot]
        refine .inr ⟨a.block, a.off, cap, sz, by rw [List.length_map, List.length_ofFn]; rw [← hae], by simp; exact hl, fun _ => imm_gE hblk, ?_⟩
        refine RdE_mk _ _ fun i e' he => ?_
        simp only [List.getElem?_map, Option.map_eq_some_iff] at he
        obtain ⟨a', ha', rfl⟩ := he
        obtain ⟨hi, hia⟩ := List.getElem?_eq_some_iff.1 ha'
        simp only [List.length_ofFn] at hi
        simp only [List.getElem_ofFn] at hia
        obtain ⟨-, cs2, k1, k2⟩ := hf ⟨i, hi⟩
        obtain ⟨-, k3, k4⟩ := World.cells?_some k1
        rw [← hia]
        refine ⟨by rw [k2.1, k3], RdC.of_vals (vs := cs2) k2.1 k2.2 fun j v' hv' => ?_⟩
        have hj : j < sz := by rw [← k3]; exact (List.getElem?_eq_some_iff.1 hv').1
        have := k4 j hj
        rw [hv'] at this
        rw [← this, hae, Addr.add_mk, Addr.add_mk]
theorem Eb.rows {α : Type} {encA : α → List D} {good : α → Prop} {t e : TypeId} {sz : Nat} (ht : P.underlying t = some (.slice e)) (hc : P.cellsOf e = sz) (h0 : 0 < sz) (hel : Eb enc P W base spare held e encA good) :
    Eb enc P W base spare held t (fun l : List α => [D.list (l.map encA)]) (fun l => (∀ a ∈ l, good a) ∧ l.length < 1048576) := fun n cs x h hw => by
  obtain ⟨l, h1, h2, h3⟩ := open_rowsB encA good ht hc h0 hel h hw
  exact ⟨l, ⟨h1, h2⟩, h3⟩
theorem open_structB {t : TypeId} {fs : Array Field} (ht : P.underlying t = some (.struct fs)) {fuel : Nat} {cs : List Value} {x : DataW H × List MemPlace} (h : DataW.trod enc P W base spare held fuel t cs = some x) (hw : Rows.uptoBulk x.1 ≤ 1048576) :
    cs.length = P.cellsOf t ∧ ∀ (i : Nat) (f : Field), fs[i]? = some f → ∃ n y, DataW.trod enc P W base spare held n f.type ((cs.drop f.offset).take (P.cellsOf f.type)) = some y ∧ Rows.uptoBulk y.1 ≤ 1048576 := by
  obtain ⟨xs, n, _, rfl, hl, hlen, hf⟩ := DataW.trod_struct ht h
  refine ⟨hl, fun i f hi => ?_⟩
  have hlt : i < xs.length := by rw [hlen]; exact (Array.getElem?_eq_some_iff.1 hi).1
  refine ⟨n, _, (hf i f hi).trans (List.getElem?_eq_getElem hlt), ?_⟩
  have := bulk_mem (d := (xs[i]).1) (l := xs.map (·.1)) (List.mem_map.2 ⟨xs[i], List.getElem_mem hlt, rfl⟩)
  simp only [Rows.uptoBulk] at hw
  omega
theorem Eb.two {t : TypeId} {f0 f1 : Field} {k0 k1 : Nat} (ht : P.underlying t = some (.struct #[f0, f1])) (hc : P.cellsOf t = k0 + k1) (o0 : f0.offset = 0) (o1 : f1.offset = k0) (c0 : P.cellsOf f0.type = k0) (c1 : P.cellsOf f1.type = k1)
    {α β γ : Type} {ea : α → List D} {ga : α → Prop} {eb : β → List D} {gb : β → Prop} (h0 : Eb enc P W base spare held f0.type ea ga) (h1 : Eb enc P W base spare held f1.type eb gb) (mk : α → β → γ) {ec : γ → List D} {gc : γ → Prop}
    (he : ∀ a b, ec (mk a b) = ea a ++ eb b) (hg : ∀ a b, ga a → gb b → gc (mk a b)) : Eb enc P W base spare held t ec gc := fun n cs x h hw => by
  obtain ⟨hl, hf⟩ := open_structB ht h hw
  obtain ⟨n0, y0, r0, w0⟩ := hf 0 f0 rfl
  obtain ⟨n1, y1, r1, w1⟩ := hf 1 f1 rfl
  rw [o0, c0] at r0
  rw [o1, c1] at r1
  obtain ⟨a, g0, s0⟩ := h0 _ _ _ r0 w0
  obtain ⟨b, g1, s1⟩ := h1 _ _ _ r1 w1
  refine ⟨mk a b, hg a b g0 g1, ?_⟩
  rw [he]
  exact CsRd.whole (CsRd.two 0 s0 (by simpa using s1)) (by rw [hl, hc])
theorem Eb.three {t : TypeId} {f0 f1 f2 : Field} {k0 k1 k2 : Nat} (ht : P.underlying t = some (.struct #[f0, f1, f2])) (hc : P.cellsOf t = k0 + k1 + k2) (o0 : f0.offset = 0) (o1 : f1.offset = k0) (o2 : f2.offset = k0 + k1) (c0 : P.cellsOf f0.type = k0) (c1 : P.cellsOf f1.type = k1) (c2 : P.cellsOf f2.type = k2)
    {α β γ δ : Type} {ea : α → List D} {ga : α → Prop} {eb : β → List D} {gb : β → Prop} {ec : γ → List D} {gc : γ → Prop} (h0 : Eb enc P W base spare held f0.type ea ga) (h1 : Eb enc P W base spare held f1.type eb gb) (h2 : Eb enc P W base spare held f2.type ec gc) (mk : α → β → γ → δ) {ed : δ → List D} {gd : δ → Prop}
    (he : ∀ a b c, ed (mk a b c) = ea a ++ eb b ++ ec c) (hg : ∀ a b c, ga a → gb b → gc c → gd (mk a b c)) : Eb enc P W base spare held t ed gd := fun n cs x h hw => by
  obtain ⟨hl, hf⟩ := open_structB ht h hw
  obtain ⟨n0, y0, r0, w0⟩ := hf 0 f0 rfl
  obtain ⟨n1, y1, r1, w1⟩ := hf 1 f1 rfl
  obtain ⟨n2, y2, r2, w2⟩ := hf 2 f2 rfl
  rw [o0, c0] at r0
  rw [o1, c1] at r1
  rw [o2, c2] at r2
  obtain ⟨a, g0, s0⟩ := h0 _ _ _ r0 w0
  obtain ⟨b, g1, s1⟩ := h1 _ _ _ r1 w1
  obtain ⟨c, g2, s2⟩ := h2 _ _ _ r2 w2
  refine ⟨mk a b c, hg a b c g0 g1 g2, ?_⟩
  rw [he]
  exact CsRd.whole (CsRd.two 0 (CsRd.two 0 s0 (by simpa using s1)) (by simpa using s2)) (by rw [hl, hc])
end
section
variable {H : Type} {enc : TypeId × Value → H} {W : World} {base : Nat} {spare : Nat → Bool} {held : Bool}
theorem bStr : Eb enc Tryz.prog W base spare held 9 (fun s : List UInt8 => [D.str s]) (fun s => s.length < 1048576) := Eb.str Tryz.underlying9
theorem bInt : Eb enc Tryz.prog W base spare held 3 (fun k : Int => [D.int .i64 k]) (fun _ => True) := Eb.int Tryz.underlying3
theorem bCf : Eb enc Tryz.prog W base spare held 55 Cf.enc (fun c => c.var.length < 1099511627776) := Eb.two Tryz.underlying55 (k0 := 1) (k1 := 1) (by kernel_rfl) rfl rfl (by kernel_rfl) (by kernel_rfl) bStr bInt (fun s c => (⟨s, c⟩ : Cf)) (fun _ _ => rfl) (fun _ _ h _ => Nat.lt_trans h (by omega))
theorem bTs : Eb enc Tryz.prog W base spare held 22 (fun l : List Cf => [D.list (l.map Cf.enc)]) (fun l => (∀ a ∈ l, a.var.length < 1099511627776) ∧ l.length < 1048576) := Eb.rows (sz := 2) Tryz.underlying22 (by kernel_rfl) (by omega) bCf
theorem bLin : Eb enc Tryz.prog W base spare held 24 Lin.enc Lin.sm := Eb.two Tryz.underlying24 (k0 := 1) (k1 := 1) (by kernel_rfl) rfl rfl (by kernel_rfl) (by kernel_rfl) bInt bTs (fun c ts => (⟨c, ts⟩ : Lin)) (fun _ _ => rfl) (fun _ _ _ h => ⟨Nat.lt_trans h.2 (by omega), h.1⟩)
theorem bDims : Eb enc Tryz.prog W base spare held 26 (fun l : List Lin => [D.list (l.map Lin.enc)]) (fun l => (∀ a ∈ l, Lin.sm a) ∧ l.length < 1048576) := Eb.rows (sz := 2) Tryz.underlying26 (by kernel_rfl) (by omega) bLin
def encS (s : List UInt8 × List Lin) : List D := [.str s.1, .list (s.2.map Lin.enc)]
theorem bShp : Eb enc Tryz.prog W base spare held 28 encS (fun s => s.1.length < 1048576 ∧ s.2.length < 1048576 ∧ ∀ x ∈ s.2, Lin.sm x) := Eb.two Tryz.underlying28 (k0 := 1) (k1 := 1) (by kernel_rfl) rfl rfl (by kernel_rfl) (by kernel_rfl) bStr bDims (fun r d => (r, d)) (fun _ _ => rfl) (fun _ _ h k => ⟨h, k.2, k.1⟩)
theorem bTy : Eb enc Tryz.prog W base spare held 30 Ty.enc Ga.Ty.sm := Eb.two Tryz.underlying30 (k0 := 1) (k1 := 2) (by kernel_rfl) rfl rfl (by kernel_rfl) (by kernel_rfl) bStr bShp (fun e s => (⟨e, s.1, s.2⟩ : Ty)) (fun _ _ => rfl) (fun _ _ h k => ⟨Nat.lt_trans h (by omega), Nat.lt_trans k.1 (by omega), Nat.lt_trans k.2.1 (by omega), k.2.2⟩)
theorem bTys : Eb enc Tryz.prog W base spare held 25 (fun l : List Ty => [D.list (l.map Ty.enc)]) (fun l => (∀ a ∈ l, Ga.Ty.sm a) ∧ l.length < 1048576) := Eb.rows (sz := 3) Tryz.underlying25 (by kernel_rfl) (by omega) bTy
def encSc (s : Sch) : List D := [.list (s.ps.map Ty.enc), .str s.r.elem, .str s.r.row, .list (s.r.dims.map Lin.enc), .list (s.wh.map Lin.enc)]
theorem bSch : Eb enc Tryz.prog W base spare held 32 encSc (fun s => Sch.sm s ∧ s.ps.length < 1048576) := Eb.three Tryz.underlying32 (k0 := 1) (k1 := 3) (k2 := 1) (by kernel_rfl) rfl rfl rfl (by kernel_rfl) (by kernel_rfl) (by kernel_rfl) bTys bTy bDims (fun p r w => (⟨p, r, w⟩ : Sch)) (fun _ _ _ => rfl) (fun _ _ _ h k m => ⟨⟨Nat.lt_trans h.2 (by omega), Nat.lt_trans m.2 (by omega), h.1, k, m.1⟩, h.2⟩)
end
theorem rv_agg {W : World} {ds : List D} {cs : Array Value} {vs : List V} (h : CsRd W ds cs.toList) (e : ds.map .d = vs) : RV gE W (.agg vs) (.agg cs) := by
  subst e
  simp only [RV]
  exact ⟨cs, rfl, CsRd.rvs h⟩
end Fw.Tz

/-
  The first world of the law.
-/
namespace Fw.Tz
open Go Go.Proofs Fw.X Go.ChangeShapes Go.WideShapes Go.ChangeAt Go.RowKit
open Go.Proofs.YtonjnjkdebpilaaGreatDoor
abbrev laidT : List (String × DataW Unit) := Rows.checkerGrantedUptoRow.laid
theorem tab_atG {laid : List (String × DataW Unit)} {W : World} (h : laidMetH Tryz.prog laid W) (name : String) (k : IntKind) (zs : List Int) (g : Nat) (t e : TypeId) (n : Nat)
    (hl : (laid.filter fun x => x.1 == name) = [(name, Lib.tabData k zs)])
    (hg : Tryz.prog.globalNamed name = some g) (hty : (Tryz.prog.globals[g]?).map (·.type) = some t) (ht : Tryz.prog.underlying t = some (.array n e)) (he : Tryz.prog.underlying e = some (.int k)) (hce : Tryz.prog.cellsOf e = 1) (hct : Tryz.prog.cellsOf t = n)
    (hpl : ([(name, Lib.tabData k zs)].all fun (x : String × DataW Unit) => x.2.handleName?.isNone) = true) : Lib.TabIs Tryz.prog W name k zs := by
  have h2 := laidMetH.filter (fun x => x.1 == name) h
  rw [hl, MakeChecks.laidMetH_plain _ _ _ hpl] at h2
  exact Lib.tabIs_of_head hg hty ht he hce hct h2
theorem err_atG {laid : List (String × DataW Unit)} {W : World} (h : laidMetH Tryz.prog laid W) (name : String) (en : String) (d : DataW Unit) (g : Nat) (ms : Array (String × TypeId))
    (hl : (laid.filter fun x => x.1 == name) = [(name, .iface en d)])
    (hg : Tryz.prog.globalNamed name = some g) (hty : (Tryz.prog.globals[g]?).map (·.type) = some 118) (ht : Tryz.prog.underlying 118 = some (.interface ms))
    (hpl : ([(name, DataW.iface en d)].all fun (x : String × DataW Unit) => x.2.handleName?.isNone) = true) : ∃ ev, W.cell? ⟨g, 0, none⟩ = some ev ∧ (ev = .nilIface ∨ ∃ te pe, ev = .iface te pe) := by
  have h2 := laidMetH.filter (fun x => x.1 == name) h
  rw [hl, MakeChecks.laidMetH_plain _ _ _ hpl] at h2
  obtain ⟨ps, ⟨g', t, cs, fuel, p, q, hg', ht', hv, hd, _, _⟩, _, _⟩ := h2
  obtain rfl := Option.some.inj (hg.symm.trans hg')
  obtain rfl := Option.some.inj (hty.symm.trans ht')
  obtain ⟨fuel', u, v, hcs, _, _⟩ := iface_of_trod ht hd
  refine ⟨.iface u v, ?_, .inr ⟨u, v, rfl⟩⟩
  rw [World.var?_cell hg hv 0, ← Array.getElem?_toList, hcs]
  rfl
def dbtab : List Int := [0, 1, 28, 2, 29, 14, 24, 3, 30, 22, 20, 15, 25, 17, 4, 8, 31, 27, 13, 23, 21, 19, 16, 7, 26, 12, 18, 6, 11, 5, 10, 9]
theorem w0_of {W : World} (h : laidMetH Tryz.prog laidT W) (hsh : W.ShapedOpen Tryz.prog) : W0 W := by
  have hdb := tab_atG h "math/bits.deBruijn32tab" .u8 dbtab 8 342 5 32 (by kernel_rfl) (by kernel_rfl) (by kernel_rfl) (by kernel_rfl) (by kernel_rfl) (by kernel_rfl) (by kernel_rfl) (by kernel_rfl)
  have hc := hdb.cell (show Tryz.prog.globalNamed "math/bits.deBruijn32tab" = some 8 by kernel_rfl) 0 (by simp [dbtab])
  have hsize : 6 < W.heap.size := by
    rcases Nat.lt_or_ge 8 W.heap.size with h8 | h8
    · omega
    · exfalso
      have : W.heap[8]? = none := Array.getElem?_eq_none h8
      simp [World.cell?, this] at hc
  refine ⟨hsize, cell_of_shapedOpen_int (P := Tryz.prog) (g := 0) (t := 3) (zero := #[.int .i64 0]) hsh (of_decide_eq_true (by kernel_rfl)) (by kernel_rfl) rfl (by kernel_rfl) (by kernel_rfl) Tryz.underlying3, ?_, ?_, ?_, ?_⟩
  · exact tab_atG h "internal/strconv.uint64pow10" .u64 Lib.pow10Tab 5 296 246 20 (by kernel_rfl) (by kernel_rfl) (by kernel_rfl) (by kernel_rfl) (by kernel_rfl) (by kernel_rfl) (by kernel_rfl) (by kernel_rfl)
  · exact tab_atG h "strings.asciiSpace" .u8 Lib.asciiSpaceTab 1 225 5 256 (by kernel_rfl) (by kernel_rfl) (by kernel_rfl) (by kernel_rfl) (by kernel_rfl) (by kernel_rfl) (by kernel_rfl) (by kernel_rfl)
  · exact err_atG h "strconv.ErrSyntax" "*errors.errorString" (.ptr (.agg [.lit (.string [105, 110, 118, 97, 108, 105, 100, 32, 115, 121, 110, 116, 97, 120])])) 2 _ (by kernel_rfl) (by kernel_rfl) (by kernel_rfl) Tryz.underlying118 (by kernel_rfl)
  · exact err_atG h "strconv.ErrRange" "*errors.errorString" (.ptr (.agg [.lit (.string [118, 97, 108, 117, 101, 32, 111, 117, 116, 32, 111, 102, 32, 114, 97, 110, 103, 101])])) 3 _ (by kernel_rfl) (by kernel_rfl) (by kernel_rfl) Tryz.underlying118 (by kernel_rfl)
theorem own : ownKnob Tryz.prog.godebug = none := by kernel_rfl
end Fw.Tz
