/-
  The machine's steps, told for simp.
-/
import Derived.Test.YtonjnjkdebpilaaGreatDoorFd
import Derived.Below
import Derived.Sort.Grow
import Derived.Deep.Draws
import Derived.Sort.Row

namespace Fw
open Go
theorem get_cons (s t : Nat) (u : V) (l : List (Nat × V)) : get ((s, u) :: l) t = if s = t then u else get l t := by
  simp only [get]
  by_cases h : s = t
  · subst h; simp
  · rw [if_neg h]
    have : Nat.beq s t = false := by
      cases hb : Nat.beq s t with
      | false => rfl
      | true => exact absurd (Nat.eq_of_beq_eq_true hb) h
    rw [this]; rfl
theorem put_cons (s t : Nat) (u v : V) (l : List (Nat × V)) : put ((s, u) :: l) t v = if s = t then (t, v) :: l else if t ≤ s then (t, v) :: (s, u) :: l else (s, u) :: put l t v := by
  simp only [put]
  by_cases h : s = t
  · subst h; simp
  · rw [if_neg h]
    have : Nat.beq s t = false := by
      cases hb : Nat.beq s t with
      | false => rfl
      | true => exact absurd (Nat.eq_of_beq_eq_true hb) h
    rw [this]
    by_cases h2 : t ≤ s
    · rw [if_pos h2, Nat.ble_eq_true_of_le h2]; rfl
    · rw [if_neg h2]
      have : Nat.ble t s = false := by
        cases hb : Nat.ble t s with
        | false => rfl
        | true => exact absurd (Nat.le_of_ble_eq_true hb) h2
      rw [this]; rfl
theorem put_nil (t : Nat) (v : V) : put [] t v = [(t, v)] := rfl
theorem stput_some (n : Nat) (tm : List (Nat × V)) (H0 H : Heap) (d : Nat) (v : V) : St.put ⟨n, tm, H0⟩ (some d) v H = if d < n then some ⟨n, put tm d v, H⟩ else none := by
  simp only [St.put]
  by_cases h : d < n
  · rw [if_pos h]
    have : Nat.blt d n = true := by simpa [Nat.blt_eq] using h
    rw [this]; rfl
  · rw [if_neg h]
    have : Nat.blt d n = false := by
      cases hb : Nat.blt d n with
      | false => rfl
      | true => exact absurd (by simpa [Nat.blt_eq] using hb) h
    rw [this]; rfl
theorem stput_none (n : Nat) (tm : List (Nat × V)) (H0 H : Heap) (v : V) : St.put ⟨n, tm, H0⟩ none v H = some ⟨n, tm, H⟩ := rfl
theorem nbeq (a b : Nat) : Nat.beq a b = decide (a = b) := by
  cases hb : Nat.beq a b with
  | true => simp [Nat.eq_of_beq_eq_true hb]
  | false =>
    have : a ≠ b := by rintro rfl; simp at hb
    simp [this]
theorem nble (a b : Nat) : Nat.ble a b = decide (a ≤ b) := by
  cases hb : Nat.ble a b with
  | true => simp [Nat.le_of_ble_eq_true hb]
  | false =>
    have : ¬ a ≤ b := fun h => by rw [Nat.ble_eq_true_of_le h] at hb; cases hb
    simp [this]
theorem nblt (a b : Nat) : Nat.blt a b = decide (a < b) := by
  show Nat.ble (a + 1) b = _
  rw [nble]; rfl
section
variable {GL : GLT} {call : CallF}
end
end Fw

/-
  From the shelf's contracts to calls that touch nothing.
-/
namespace Fw
open Go Go.RowKit
section
variable {P : Program} {GL : GLT}
theorem PC.ofCalls {f : FuncId} {args : List V} {v : V} (hca : callable P f = true)
    (h : ∀ g w (vs : Array Value), RVs g w args vs.toList → Globs GL g w → Calls P f vs w fun e w' => ∃ x, e = .returned x ∧ Below w.heap.size w w' ∧
      ((∀ k, imm g w k → imm g w' k) → (∀ k, w.heap.size ≤ k → k < w'.heap.size → imm g w' k) → RV g w' v x)) : PC P GL f args v := by
  refine ⟨hca, fun g w vs hvs hfo hown hg => (h g w vs hvs hg).mono ?_⟩
  rintro e w' ⟨x, rfl, hb, hx⟩
  have hold : ∀ k, imm g w k → imm g w' k := fun k hk => ⟨Nat.lt_of_lt_of_le hk.1 hb.size, hk.2⟩
  have hnew : ∀ k, w.heap.size ≤ k → k < w'.heap.size → imm g w' k := fun k h1 h2 => ⟨h2, fun hf => by have := hfo k hf; omega, fun b y hy hk => by have := hown b y k hy hk; omega⟩
  exact ⟨x, rfl, hx hold hnew, ⟨hb.os, hb.tape, hb.output, hb.size, fun k hk => ⟨hold k hk, hb.block k hk.1⟩, fun _ h => h, fun _ _ => GB.step.refl _, rfl, rfl, fun k hk => hb.block k (hfo k hk)⟩, fun b y k hy hk => hb.block k (hown b y k hy hk)⟩
theorem Below.ofDrewN (w : World) (n : Nat) : Below w.heap.size w (w.drewN n) := ⟨rfl, rfl, rfl, Nat.le_refl _, fun _ _ => rfl⟩
theorem Below.ofGrow {w a : World} (h : Below w.heap.size w a) (os : Array Obj) : Below w.heap.size w (Go.Sort.grow a os) :=
  h.trans ⟨rfl, rfl, rfl, by simp [Go.Sort.grow], fun k hk => by
    have := h.size
    simp only [Go.Sort.grow]
    rw [Array.getElem?_append_left (by omega)]⟩
theorem RVs.nil_inv {g : G} {w : World} {l : List Value} (h : RVs g w [] l) : l = [] := by
  cases l with
  | nil => rfl
  | cons => simp only [RVs] at h
theorem RVs.cons_inv {g : G} {w : World} {u : V} {us : List V} {l : List Value} (h : RVs g w (u :: us) l) : ∃ v vs, l = v :: vs ∧ RV g w u v ∧ RVs g w us vs := by
  cases l with
  | nil => simp only [RVs] at h
  | cons v vs => simp only [RVs] at h; exact ⟨v, vs, rfl, h.1, h.2⟩
theorem RVs.one_inv {g : G} {w : World} {u : V} {vs : Array Value} (h : RVs g w [u] vs.toList) : ∃ x, vs = #[x] ∧ RV g w u x := by
  obtain ⟨x, l, e, h1, h2⟩ := h.cons_inv
  rw [h2.nil_inv] at e
  exact ⟨x, Array.toList_inj.1 (by simpa using e), h1⟩
theorem RVs.two_inv {g : G} {w : World} {u u' : V} {vs : Array Value} (h : RVs g w [u, u'] vs.toList) : ∃ x y, vs = #[x, y] ∧ RV g w u x ∧ RV g w u' y := by
  obtain ⟨x, l, e, h1, h2⟩ := h.cons_inv
  obtain ⟨y, l', e', h3, h4⟩ := h2.cons_inv
  rw [h4.nil_inv] at e'; rw [e'] at e
  exact ⟨x, y, Array.toList_inj.1 (by simpa using e), h1, h3⟩
theorem RV.str_inv {g : G} {w : World} {s : List UInt8} {x : Value} (h : RV g w (.d (.str s)) x) : ∃ b : ByteArray, x = .string b ∧ b.data.toList = s := by
  simpa only [RV, Rd] using h
theorem RV.int_inv {g : G} {w : World} {k : IntKind} {n : Int} {x : Value} (h : RV g w (.d (.int k n)) x) : x = .int k n := by
  simpa only [RV, Rd] using h
theorem RV.str_mk {g : G} {w : World} (l : List UInt8) : RV g w (.d (.str l)) (.string ⟨l.toArray⟩) := by
  simp only [RV, Rd]; exact ⟨_, rfl, by simp⟩
def strsD (l : List (List UInt8)) : D := .list (l.map fun s => [.str s])
theorem RdE.strs {w : World} {im : Nat → Prop} {blk sz : Nat} : ∀ {l : List (List UInt8)} {off : Nat}, RdE w im blk off sz (l.map fun s => [.str s]) → l ≠ [] → sz = 1 ∧
    ∃ xs : List ByteArray, xs.map (fun b => b.data.toList) = l ∧ ∀ (j : Nat) b, xs[j]? = some b → w.cell? ⟨blk, off + j, none⟩ = some (.string b)
  | [], _, _, h => absurd rfl h
  | s :: l, off, h, _ => by
    simp only [List.map_cons, RdE, List.length_cons, List.length_nil, RdC] at h
    obtain ⟨h1, ⟨⟨v, h2, h3⟩, -⟩, h4⟩ := h
    simp only [Rd] at h3
    obtain ⟨b, rfl, hb⟩ := h3
    obtain rfl : sz = 1 := by omega
    refine ⟨rfl, ?_⟩
    by_cases hl : l = []
    · subst hl
      refine ⟨[b], by simp [hb], fun j x hx => ?_⟩
      cases j with
      | zero => simp at hx; subst hx; simpa using h2
      | succ j => simp at hx
    · obtain ⟨-, xs, k1, k2⟩ := RdE.strs h4 hl
      refine ⟨b :: xs, by simp [hb, k1], fun j x hx => ?_⟩
      cases j with
      | zero => simp at hx; subst hx; simpa using h2
      | succ j => simp at hx; have := k2 j x hx; rwa [show off + 1 + j = off + (j + 1) by omega] at this
theorem RV.strs_inv {g : G} {w : World} {l : List (List UInt8)} {x : Value} (h : RV g w (.d (strsD l)) x) : (l = [] ∧ ∃ a c, x = .slice a 0 c) ∨
    ∃ blk off cap, ∃ xs : List ByteArray, l ≠ [] ∧ x = .slice (some ⟨blk, off, none⟩) xs.length cap ∧ xs.length ≤ cap ∧ blk < w.heap.size ∧ xs.map (fun b => b.data.toList) = l ∧ ∀ (j : Nat) b, xs[j]? = some b → w.cell? ⟨blk, off + j, none⟩ = some (.string b) := by
  simp only [RV, strsD, Rd, List.map_eq_nil_iff, List.length_map] at h
  rcases h with ⟨h1, h2 | ⟨_, _, h2⟩⟩ | ⟨blk, off, cap, sz, h1, h2, h3, h4⟩
  · exact .inl ⟨h1, _, _, h2⟩
  · exact .inl ⟨h1, _, _, h2⟩
  · by_cases hl : l = []
    · subst hl; exact .inl ⟨rfl, _, _, h1⟩
    · obtain ⟨rfl, xs, k1, k2⟩ := RdE.strs h4 hl
      have hlen : xs.length = l.length := by rw [← k1]; simp
      exact .inr ⟨blk, off, cap, xs, hl, by rw [hlen]; exact h1, by omega, (h3 (by simpa using hl)).1, k1, k2⟩
theorem RdE.strs_mk {w : World} {im : Nat → Prop} {blk : Nat} : ∀ {xs : List ByteArray} {off : Nat}, (∀ (j : Nat) b, xs[j]? = some b → w.cell? ⟨blk, off + j, none⟩ = some (.string b)) → RdE w im blk off 1 (xs.map fun b => [.str b.data.toList])
  | [], _, _ => by simp only [List.map_nil, RdE]
  | b :: xs, off, h => by
    simp only [List.map_cons, RdE, List.length_cons, List.length_nil, RdC, Rd]
    refine ⟨trivial, ⟨⟨_, by simpa using h 0 b rfl, b, rfl, rfl⟩, trivial⟩, RdE.strs_mk fun j x hx => ?_⟩
    have := h (j + 1) x (by simpa using hx)
    rwa [show off + 1 + j = off + (j + 1) by omega]
theorem RV.strs_new {g : G} {w : World} (xs : List ByteArray) (t : TypeId) (fz : Nat × Nat) (n : Nat) (hn : n = xs.length) (him : imm g (w.alloc (.cells (xs.map Value.string).toArray t fz)) w.heap.size) :
    RV g (w.alloc (.cells (xs.map Value.string).toArray t fz)) (.d (strsD (xs.map fun b => b.data.toList))) (.slice (some ⟨w.heap.size, 0, none⟩) n n) := by
  subst hn
  simp only [RV, strsD, Rd, List.map_map, List.length_map]
  refine .inr ⟨w.heap.size, 0, xs.length, 1, rfl, Nat.le_refl _, fun _ => him, ?_⟩
  refine RdE.strs_mk (xs := xs) fun j b hb => ?_
  simp only [World.cell?, heap_push_self]
  simp [hb]
end
end Fw

/-
  Operations up to a call; a sort of an own row of strings.
-/
set_option linter.unusedSimpArgs false
namespace Fw
open Go Go.RowKit
section
variable {P : Program} {GL : GLT}
theorem WO.pre {own : List Nat} {call : CallF} (hc : CallWF P GL call) : ∀ {l l2 : List IOper} {σ σ' : St} {Q : St → Prop}, runO own GL call l σ = some σ' → WO P GL l2 σ' Q → WO P GL (l ++ l2) σ Q
  | [], l2, σ, σ', Q, h, hq => by
    grind[runO,Option.some.injEq]
  | o :: l, l2, σ, σ', Q, h, hq => by
    rw [List.cons_append]
    simp only [runO] at h
    split at h
    · cases h
    · rename_i hg
      split at h
      · rename_i σ1 h1
        exact WO.skip hg h1 (WO.pre hc h hq)
      · cases h
    · rename_i hg
      split at h
      · rename_i f args ho
        split at h
        · rename_i v H' hcall
          split at h
          · rename_i σ1 h1
            refine WO.call ho hg ((hc _ _ _ _ _ hcall).mono ?_)
            rintro r hp ⟨rfl, rfl⟩
            exact ⟨σ1, h1, WO.pre hc h hq⟩
          · cases h
        · cases h
      · rename_i x args ho
        split at h
        · rename_i f first cap hx
          split at h
          · rename_i v H' hcall
            split at h
            · rename_i σ1 h1
              refine WO.callv ho hx hg ((hc _ _ _ _ _ hcall).mono ?_)
              rintro r hp ⟨rfl, rfl⟩
              exact ⟨σ1, h1, WO.pre hc h hq⟩
            · cases h
          · cases h
        · cases h
      · split at h
        · rename_i v he
          split at h
          · rename_i σ1 h1
            refine WO.effF hg ?_ h1 (WO.pre hc h hq)
            unfold asData at he
            grind
          · cases h
        · split at h
          · rename_i v wr he
            split at h
            · rename_i σ1 h1
              exact WO.eff hg he h1 (WO.pre hc h hq)
            · cases h
          · cases h
theorem WO.preN (k : Nat) {own : List Nat} {call : CallF} (hc : CallWF P GL call) {l : List IOper} {σ σ' : St} {Q : St → Prop} (h : runO own GL call (l.take k) σ = some σ') (h2 : WO P GL (l.drop k) σ' Q) : WO P GL l σ Q := by
  have := WO.pre hc h h2
  simp_all
def noC (_ : FuncId) (_ : List V) (_ : Heap) : Option (V × Heap) := none
theorem noC_ok : CallWF P GL noC := by intro f a H v H' h; cases h
theorem WC.reg {own : List Nat} {l : List IOper} {σ σ' : St} {Q : Ex → St → Prop} (h : runO own GL noC l σ = some σ') (hq : Q .normal σ') : WC P GL (.region l) σ Q :=
  WC.region (runO_ok noC_ok h hq)
theorem WC.regN (k : Nat) {own : List Nat} {l : List IOper} {σ σ' : St} {Q : Ex → St → Prop} (h : runO own GL noC (l.take k) σ = some σ') (hq : WO P GL (l.drop k) σ' fun σ => Q .normal σ) : WC P GL (.region l) σ Q :=
  WC.region (WO.preN k noC_ok h hq)
theorem WO.callPC {o : IOper} {l : List IOper} {σ σ' : St} {Q : St → Prop} {f : FuncId} {args : List Opd} {v : V} (ho : o.op = .call f args) (hg : guardB o.guard σ.tm = some true)
    (h : PC P GL f (mlist (evo GL σ.tm) args) v) (hp : σ.put o.dst v σ.hp = some σ') (hq : WO P GL l σ' Q) : WO P GL (o :: l) σ Q :=
  WO.call ho hg (WF.ofPC h ⟨σ', hp, hq⟩)
theorem hget_app (H : Heap) (l : Heap) (b : Nat) : hget (H ++ l) b = if b < H.length then hget H b else hget l (b - H.length) := by
  induction H generalizing b with
  | nil => simp
  | cons x H ih =>
    cases b with
    | zero => simp [hget]
    | succ b =>
      simp_all[List.cons_append,hget,List.length_cons,Nat.add_lt_add_iff_right,Nat.add_sub_add_right]
end
end Fw

/-
  A call that is handed some of the caller's boxes: proved over these boxes alone, it holds whatever other boxes there are.
-/
namespace Fw
open Go
mutual
def renV (S : List Nat) : V → V
  | .ptr c h off => .ptr (S.getD c 0) h off
  | .sl c h off len sz => .sl (S.getD c 0) h off len sz
  | .map c => .map (S.getD c 0)
  | .iter c m => .iter (S.getD c 0) (S.getD m 0)
  | .yld c => .yld (S.getD c 0)
  | .func f a c => .func f (renL S a) (renL S c)
  | .iface t v => .iface t (renV S v)
  | .agg cs => .agg (renL S cs)
  | .tuple vs => .tuple (renL S vs)
  | v => v
def renL (S : List Nat) : List V → List V
  | [] => []
  | v :: vs => renV S v :: renL S vs
end
def renBox (S : List Nat) : Box → Box
  | .cells cs => .cells (renL S cs)
  | .map es => .map (es.map fun p => (p.1, renV S p.2))
  | .miter m n seen => .miter (S.getD m 0) n seen
  | .loop n tm ps ca cb st => .loop n (tm.map fun p => (p.1, renV S p.2)) ps ca cb st
  | x => x
theorem renL_length (S : List Nat) : ∀ (l : List V), (renL S l).length = l.length
  | [] => rfl
  | _ :: l => by simp [renL, renL_length S l]
theorem renV_okC (S : List Nat) (u : V) : okC (renV S u) = okC u := by cases u <;> rfl
theorem renL_okC (S : List Nat) : ∀ (l : List V), (renL S l).all okC = l.all okC
  | [] => rfl
  | v :: l => by simp [renL, renV_okC, renL_okC S l]
structure Sub (S : List Nat) (g0 g : G) (w : World) : Prop where
  dom : ∀ i, i < S.length → (g0.dom i ↔ g.dom (S.getD i 0))
  γ : ∀ i, i < S.length → g0.γ i = g.γ (S.getD i 0)
  imm : ∀ k, imm g0 w k ↔ imm g w k
mutual
theorem RV.ren {S : List Nat} {g0 g : G} {w : World} (h : Sub S g0 g w) : ∀ (u : V) (v : Value), refsLt S.length u = true → (RV g w (renV S u) v ↔ RV g0 w u v)
  | .any, _, _ => by grind[renV,RV]
  | .d x, v, _ => by
    simp only [renV, RV]
    exact ⟨Rd.keeps (fun k hk => ⟨(h.imm k).2 hk, rfl⟩) _ _, Rd.keeps (fun k hk => ⟨(h.imm k).1 hk, rfl⟩) _ _⟩
  | .full es, v, _ => by
    simp only [renV, RV]
    exact ⟨fun ⟨h1, h2⟩ => ⟨Rd.keeps (fun k hk => ⟨(h.imm k).2 hk, rfl⟩) _ _ h1, h2⟩, fun ⟨h1, h2⟩ => ⟨Rd.keeps (fun k hk => ⟨(h.imm k).1 hk, rfl⟩) _ _ h1, h2⟩⟩
  | .nils, _, _ => by grind[renV,RV]
  | .ptr b hh off, v, hn => by
    simp only [refsLt, Nat.blt_eq] at hn
    simp only [renV, RV, h.dom b hn, h.γ b hn]
  | .nilp, _, _ => by grind[renV,RV]
  | .cptr cs, v, _ => by
    simp only [renV, RV]
    constructor
    · rintro ⟨blk, off, h1, h2, h3⟩
      refine ⟨blk, off, h1, fun hn => (h.imm _).2 (h2 hn), ?_⟩
      cases cs with
      | nil => simp only [RdC]
      | cons c cs => exact RdC.keeps (im := imm g w) (im' := imm g0 w) (fun k hk => ⟨(h.imm k).2 hk, rfl⟩) (h2 (by simp)) _ _ h3
    · rintro ⟨blk, off, h1, h2, h3⟩
      refine ⟨blk, off, h1, fun hn => (h.imm _).1 (h2 hn), ?_⟩
      cases cs with
      | nil => simp only [RdC]
      | cons c cs => exact RdC.keeps (im := imm g0 w) (im' := imm g w) (fun k hk => ⟨(h.imm k).1 hk, rfl⟩) (h2 (by simp)) _ _ h3
  | .sl b hh off len sz, v, hn => by
    simp only [refsLt, Nat.blt_eq] at hn
    simp only [renV, RV, h.dom b hn, h.γ b hn]
  | .map b, v, hn => by
    simp only [refsLt, Nat.blt_eq] at hn
    simp only [renV, RV, h.dom b hn, h.γ b hn]
  | .nilm, _, _ => by grind[renV,RV]
  | .func f a c, v, hn => by
    simp only [refsLt, Bool.and_eq_true] at hn
    simp only [renV, RV]
    constructor
    · rintro ⟨x, y, h1, h2, h3⟩; exact ⟨x, y, h1, (RVs.ren h _ _ hn.1).1 h2, (RVs.ren h _ _ hn.2).1 h3⟩
    · rintro ⟨x, y, h1, h2, h3⟩; exact ⟨x, y, h1, (RVs.ren h _ _ hn.1).2 h2, (RVs.ren h _ _ hn.2).2 h3⟩
  | .nilf, _, _ => by grind[renV,RV]
  | .iface t u, v, hn => by
    simp only [refsLt] at hn
    simp only [renV, RV]
    constructor
    · rintro ⟨x, h1, h2⟩; exact ⟨x, h1, (RV.ren h _ _ hn).1 h2⟩
    · rintro ⟨x, h1, h2⟩; exact ⟨x, h1, (RV.ren h _ _ hn).2 h2⟩
  | .someIface, _, _ => by grind[renV,RV]
  | .nili, _, _ => by grind[renV,RV]
  | .agg cs, v, hn => by
    simp only [refsLt] at hn
    simp only [renV, RV]
    constructor
    · rintro ⟨x, h1, h2⟩; exact ⟨x, h1, (RVs.ren h _ _ hn).1 h2⟩
    · rintro ⟨x, h1, h2⟩; exact ⟨x, h1, (RVs.ren h _ _ hn).2 h2⟩
  | .tuple vs, v, hn => by
    simp only [refsLt] at hn
    simp only [renV, RV]
    constructor
    · rintro ⟨x, h1, h2⟩; exact ⟨x, h1, (RVs.ren h _ _ hn).1 h2⟩
    · rintro ⟨x, h1, h2⟩; exact ⟨x, h1, (RVs.ren h _ _ hn).2 h2⟩
  | .iter b m, v, hn => by
    simp only [refsLt, Bool.and_eq_true, Nat.blt_eq] at hn
    simp only [renV, RV, h.dom b hn.1, h.γ b hn.1]
  | .yld b, v, hn => by
    simp only [refsLt, Nat.blt_eq] at hn
    simp only [renV, RV, h.dom b hn, h.γ b hn]
theorem RVs.ren {S : List Nat} {g0 g : G} {w : World} (h : Sub S g0 g w) : ∀ (us : List V) (vs : List Value), refsLtL S.length us = true → (RVs g w (renL S us) vs ↔ RVs g0 w us vs)
  | [], [], _ => by grind[renL,RVs]
  | u :: us, v :: vs, hn => by
    simp only [refsLtL, Bool.and_eq_true] at hn
    simp only [renL, RVs, RV.ren h _ _ hn.1, RVs.ren h _ _ hn.2]
  | [], _ :: _, _ => by grind[renL,RVs]
  | _ :: _, [], _ => by grind[renL,RVs]
end
theorem RB.ren {S : List Nat} {g0 g : G} {w : World} (h : Sub S g0 g w) {x : GB} {y : Box} (hy : boxLt S.length y = true) : RB g w x (renBox S y) ↔ RB g0 w x y := by
  cases x with
  | cells blk cp cur =>
    cases y with
    | cells cs =>
      simp only [boxLt] at hy
      simp only [renBox, RB, renL_length, renL_okC, RVs.ren h _ _ hy]
    | _ => grind[renBox,RB]
  | nil => cases y <;> simp only [renBox, RB]
  | obj blk =>
    cases y with
    | map es =>
      simp only [boxLt, List.all_eq_true] at hy
      simp only [renBox, RB, List.length_map]
      constructor
      · rintro ⟨ents, clock, h1, h2, h3, h4⟩
        refine ⟨ents, clock, h1, h2, fun i k v hi => ?_, h4⟩
        obtain ⟨z, z1, z2, z3, z4⟩ := h3 i k (renV S v) (by simp [hi])
        exact ⟨z, z1, z2, Rd.keeps (fun k hk => ⟨(h.imm k).2 hk, rfl⟩) _ _ z3, (RV.ren h _ _ (hy _ (List.mem_of_getElem? hi))).1 z4⟩
      · rintro ⟨ents, clock, h1, h2, h3, h4⟩
        refine ⟨ents, clock, h1, h2, fun i k v hi => ?_, h4⟩
        simp only [List.getElem?_map, Option.map_eq_some_iff, Prod.mk.injEq] at hi
        obtain ⟨⟨k', v'⟩, hi', rfl, rfl⟩ := hi
        obtain ⟨z, z1, z2, z3, z4⟩ := h3 i k' v' hi'
        exact ⟨z, z1, z2, Rd.keeps (fun k hk => ⟨(h.imm k).1 hk, rfl⟩) _ _ z3, (RV.ren h _ _ (hy _ (List.mem_of_getElem? hi'))).2 z4⟩
    | miter m n seen =>
      simp only [boxLt, Nat.blt_eq] at hy
      simp only [renBox, RB, h.dom m hy, h.γ m hy]
    | loop k tm ps ca cb st =>
      simp only [renBox, RB, get_map (renV S) rfl, fun t v => RV.ren (g := g) (w := w) h (get tm t) v (get_refs t hy)]
    | _ => grind[renBox,RB]
theorem getD_inj {S : List Nat} (hn : S.Nodup) {i j : Nat} (hi : i < S.length) (hj : j < S.length) (h : S.getD i 0 = S.getD j 0) : i = j := by
  rw [List.getD_eq_getElem?_getD, List.getD_eq_getElem?_getD, List.getElem?_eq_getElem hi, List.getElem?_eq_getElem hj] at h
  simp at h
  have hp := List.pairwise_iff_getElem.1 hn
  grind
def putBack (S : List Nat) (H' : Heap) (i : Nat) : List Nat → Heap → Heap
  | [], H => H
  | b :: bs, H => putBack S H' (i + 1) bs (match hget H' i with | some y => hput H b (renBox S y) | none => H.set b none)
theorem hget_set_none (H : Heap) (b c : Nat) : hget (H.set b none) c = if c = b then none else hget H c := by
  induction H generalizing b c with
  | nil => simp [hget]
  | cons z H ih =>
    cases b with
    | zero => cases c <;> simp [hget]
    | succ b => cases c <;> simp [hget, ih]
theorem hget_putBack (S : List Nat) (H' : Heap) : ∀ (bs : List Nat) (i : Nat) (H : Heap) (c : Nat), bs.Nodup → hget (putBack S H' i bs H) c = match bs.idxOf? c with | some j => (hget H' (i + j)).map (renBox S) | none => hget H c
  | [], i, H, c, _ => by simp [putBack]
  | b :: bs, i, H, c, hn => by
    simp only [putBack]
    rw [hget_putBack S H' bs (i + 1) _ c (List.nodup_cons.1 hn).2]
    by_cases hc : b = c
    · subst hc
      have : bs.idxOf? b = none := List.idxOf?_eq_none_iff.2 (List.nodup_cons.1 hn).1
      simp only [this, List.idxOf?_cons, beq_self_eq_true, if_true, Nat.add_zero]
      grind[hget_hput,hget_set_none]
    · have e : (b == c) = false := by grind
      simp only [List.idxOf?_cons, e, Bool.false_eq_true, if_false]
      grind[hget_hput,hget_set_none]
theorem putBack_length (S : List Nat) (H' : Heap) : ∀ (bs : List Nat) (i : Nat) (H : Heap), H.length ≤ (putBack S H' i bs H).length
  | [], _, _ => Nat.le_refl _
  | b :: bs, i, H => by
    simp only [putBack]
    refine Nat.le_trans ?_ (putBack_length S H' bs (i + 1) _)
    split
    · exact (length_hput H b _).1
    · simp
section
variable {P : Program} {GL : GLT}
theorem idxOf_spec {S : List Nat} {c j : Nat} (h : S.idxOf? c = some j) : j < S.length ∧ S.getD j 0 = c := by
  have h1 : S[j]? = some c := by
    induction S generalizing j<;>grind[Option.some.injEq,Option.map_eq_some_iff]
  grind
def subG (S : List Nat) (g : G) : G := ⟨fun i => i < S.length ∧ g.dom (S.getD i 0), fun i => if i < S.length then g.γ (S.getD i 0) else none, fun k => g.fo k ∨ ∃ b x, b ∉ S ∧ g.γ b = some x ∧ x.own = some k, g.base⟩
theorem getD_memS {S : List Nat} (i : Nat) (hi : i < S.length) : S.getD i 0 ∈ S := by grind
theorem mem_getDS {S : List Nat} (b : Nat) (hb : b ∈ S) : ∃ i, i < S.length ∧ S.getD i 0 = b := by
  obtain ⟨i, hi, rfl⟩ := List.getElem_of_mem hb
  exact ⟨i, hi, by grind⟩
theorem subG_γ {S : List Nat} {g : G} (i : Nat) (hi : i < S.length) : (subG S g).γ i = g.γ (S.getD i 0) := if_pos hi
theorem subG_ok {S : List Nat} {g : G} {w : World} {H H0 : Heap} (hn : S.Nodup) (hl : H0.length = S.length) (hh : HeapOK g w H) (hg : Globs GL g w)
    (hb : ∀ i, i < S.length → ∃ y z, hget H0 i = some y ∧ hget H (S.getD i 0) = some z ∧ ∀ x, Sub S (subG S g) g w → RB g w x z → RB (subG S g) w x y) : Sub S (subG S g) g w ∧ HeapOK (subG S g) w H0 ∧ Globs GL (subG S g) w := by
  have himm : ∀ k, imm (subG S g) w k ↔ imm g w k := by
    intro k
    constructor
    · rintro ⟨h1, h2, h3⟩
      refine ⟨h1, fun hf => h2 (Or.inl hf), fun b x hx hk => ?_⟩
      by_cases hbS : b ∈ S
      · obtain ⟨i, hi, rfl⟩ := mem_getDS b hbS
        exact h3 i x (by rw [subG_γ i hi]; exact hx) hk
      · exact h2 (Or.inr ⟨b, x, hbS, hx, hk⟩)
    · rintro ⟨h1, h2, h3⟩
      refine ⟨h1, ?_, fun i x hx hk => ?_⟩
      all_goals grind[subG]
  have hsub : Sub S (subG S g) g w := ⟨fun i hi => ⟨fun h => h.2, fun h => ⟨hi, h⟩⟩, subG_γ, himm⟩
  refine ⟨hsub, ⟨fun i hi => by rw [hl]; exact hi.1, fun i x hx => ?_, fun i y hy => ?_, fun i i' x x' k hx hx' hk hk' => ?_, fun k hk => ⟨?_, fun i x hx hk' => ?_⟩⟩, fun n cs hn => ⟨(himm n).2 (hg.rd n cs hn).1, RdC.keeps (im := imm g w) (im' := imm (subG S g) w) (fun k hk => ⟨(himm k).2 hk, rfl⟩) (hg.rd n cs hn).1 _ _ (hg.rd n cs hn).2⟩, fun k hk => ⟨(himm k).2 (hg.w0 k hk).1, (hg.w0 k hk).2⟩⟩
  · simp only [subG] at hx
    split at hx
    · rename_i hi
      obtain ⟨h1, y, h2, h3⟩ := hh.live _ x hx
      obtain ⟨y0, z, k1, k2, k3⟩ := hb i hi
      rw [h2] at k2; simp at k2; subst k2
      exact ⟨⟨hi, h1⟩, y0, k1, k3 x hsub h3⟩
    · cases hx
  · have hi : i < S.length := by rw [← hl]; exact hget_lt hy
    obtain ⟨y0, z, k1, k2, _⟩ := hb i hi
    obtain ⟨x, hx⟩ := hh.back _ _ k2
    exact ⟨x, by rw [subG_γ i hi]; exact hx⟩
  · simp only [subG] at hx hx'
    split at hx
    · rename_i hi
      split at hx'
      · rename_i hi'
        exact getD_inj hn hi hi' (hh.inj _ _ x x' k hx hx' hk hk')
      grind
    · cases hx
  · rcases hk with hk | ⟨b, x, _, hx, hk⟩
    · exact (hh.fo k hk).1
    · exact RV.owns hh b x k hx hk
  · simp only [subG] at hx
    split at hx
    · rename_i hi
      rcases hk with hk | ⟨b, x2, hbS, hx2, hk2⟩
      · exact (hh.fo k hk).2 _ x hx hk'
      · have := hh.inj _ b x x2 k hx hx2 hk' hk2
        grind
    · cases hx
theorem WF.frame {f : FuncId} {args0 : List V} {H0 : Heap} {Q0 : V → Heap → Prop} (S : List Nat) {H : Heap} {Q : V → Heap → Prop} (h : WF P GL f args0 H0 Q0) (hn : S.Nodup) (hl : H0.length = S.length) (ha : refsLtL S.length args0 = true) (hh0 : heapLt S.length H0 = true)
    (hb : ∀ i, i < S.length → ∃ y, hget H0 i = some y ∧ hget H (S.getD i 0) = some (renBox S y))
    (hq : ∀ v H', Q0 v H' → H'.length = S.length ∧ refsLt S.length v = true ∧ heapLt S.length H' = true ∧ Q (renV S v) (putBack S H' 0 S H)) : WF P GL f (renL S args0) H Q := by
  refine ⟨h.1, fun g w vs hvs hh hg => ?_⟩
  have hSlt : ∀ i, i < S.length → S.getD i 0 < H.length := fun i hi => by
    obtain ⟨y, _, h2⟩ := hb i hi
    exact hget_lt h2
  have hmem := @getD_memS S
  have hidx := @mem_getDS S
  obtain ⟨hsub, hH0, hG⟩ := subG_ok hn hl hh hg (fun i hi => by
    obtain ⟨y, k1, k2⟩ := hb i hi
    exact ⟨y, _, k1, k2, fun x hs h => (RB.ren hs (heapLt_get hh0 k1)).1 h⟩)
  have himm := hsub.imm
  refine (h.2 (subG S g) w vs ((RVs.ren hsub _ _ ha).1 hvs) hH0 hG).mono ?_
  rintro e w' ⟨x, v, g0', H', rfl, hq0, hx, hh', he⟩
  obtain ⟨q1, q2, q3, q4⟩ := hq v H' hq0
  let g' : G := ⟨g.dom, fun b => match S.idxOf? b with | some i => g0'.γ i | none => g.γ b, g.fo, g.base⟩
  have hγ : ∀ i, i < S.length → g'.γ (S.getD i 0) = g0'.γ i := fun i hi => by
    simp only [g']
    cases hc : S.idxOf? (S.getD i 0) with
    | none => grind
    | some j =>
      obtain ⟨k1, k2⟩ := idxOf_spec hc
      rw [getD_inj hn k1 hi k2]
  have hγn : ∀ b, b ∉ S → g'.γ b = g.γ b := fun b hbS => by
    grind
  have hfo0 : ∀ k, g0'.fo k ↔ (g.fo k ∨ ∃ b x, b ∉ S ∧ g.γ b = some x ∧ x.own = some k) := fun k => by rw [he.fo]; exact Iff.rfl
  have hdom' : ∀ i, i < S.length → g.dom (S.getD i 0) → g0'.dom i := fun i hi hd => he.dom i ⟨hi, hd⟩
  have hlive' : ∀ i x, g0'.γ i = some x → i < S.length := fun i x hx => by
    obtain ⟨_, y, h2, _⟩ := hh'.live i x hx
    rw [← q1]; exact hget_lt h2
  have himm' : ∀ k, imm g0' w' k ↔ imm g' w' k := by
    intro k
    constructor
    · rintro ⟨h1, h2, h3⟩
      rw [hfo0] at h2
      refine ⟨h1, fun hf => h2 (.inl hf), fun b x hx hk => ?_⟩
      grind
    · rintro ⟨h1, h2, h3⟩
      refine ⟨h1, ?_, fun i x hx hk => ?_⟩
      all_goals grind
  have hext : Ext g w g' w' := by
    refine ⟨he.os, he.tape, he.output, he.size, fun k hk => ?_, fun _ h => h, fun b hb => ?_, rfl, rfl, fun k hk => he.foreign k (Or.inl hk)⟩
    · obtain ⟨h1, h2⟩ := he.keeps k ((himm k).2 hk)
      grind
    · by_cases hbS : b ∈ S
      · obtain ⟨i, hi, rfl⟩ := hidx b hbS
        rw [hγ i hi]
        have := he.step i ⟨hi, hb⟩
        rw [subG_γ i hi] at this
        exact this
      · rw [hγn b hbS]; exact GB.step.refl _
  have hsub' : Sub S g0' g' w' := by
    refine ⟨fun i hi => ⟨fun hd => ?_, fun hd => hdom' i hi hd⟩, fun i hi => (hγ i hi).symm, himm'⟩
    obtain ⟨y, _, k2⟩ := hb i hi
    obtain ⟨x, hx⟩ := hh.back _ _ k2
    exact (hh.live _ x hx).1
  have hnot : ∀ b x k, b ∉ S → g.γ b = some x → x.own = some k → w'.heap[k]? = w.heap[k]? := fun b x k hbS hx hk => he.foreign k (Or.inr ⟨b, x, hbS, hx, hk⟩)
  refine ⟨x, renV S v, g', _, rfl, q4, (RV.ren hsub' _ _ q2).2 hx, ?_, hext⟩
  refine ⟨fun b hb => Nat.lt_of_lt_of_le (hh.dom b hb) (putBack_length S H' S 0 H), fun b x hx => ?_, fun b y hy => ?_, fun b b' x x' k hx hx' hk hk' => ?_, fun k hk => ⟨Nat.lt_of_lt_of_le (hh.fo k hk).1 he.size, fun b x hx hk' => ?_⟩⟩
  · by_cases hbS : b ∈ S
    · obtain ⟨i, hi, rfl⟩ := hidx b hbS
      rw [hγ i hi] at hx
      obtain ⟨h1, y, h2, h3⟩ := hh'.live i x hx
      have hd : g.dom (S.getD i 0) := (hsub'.dom i hi).1 h1
      have hix : S.idxOf? (S.getD i 0) = some i := by
        cases hc : S.idxOf? (S.getD i 0) with
        | none => grind
        | some j =>
          obtain ⟨k1, k2⟩ := idxOf_spec hc
          rw [getD_inj hn k1 hi k2]
      refine ⟨hd, renBox S y, ?_, (RB.ren hsub' (heapLt_get q3 h2)).2 h3⟩
      rw [hget_putBack S H' S 0 H _ hn, hix]
      simp [h2]
    · rw [hγn b hbS] at hx
      obtain ⟨h1, y, h2, h3⟩ := hh.live b x hx
      refine ⟨h1, y, ?_, RB.ext hext (fun k hk => hnot b x k hbS hx hk) h3⟩
      rw [hget_putBack S H' S 0 H _ hn, List.idxOf?_eq_none_iff.2 hbS]
      exact h2
  · rw [hget_putBack S H' S 0 H _ hn] at hy
    cases hc : S.idxOf? b with
    | some i =>
      rw [hc] at hy
      simp at hy
      obtain ⟨y0, hy0, rfl⟩ := hy
      obtain ⟨x, hx⟩ := hh'.back i y0 hy0
      grind
    | none =>
      rw [hc] at hy
      obtain ⟨x, hx⟩ := hh.back b y hy
      grind
  · by_cases hbS : b ∈ S
    · obtain ⟨i, hi, rfl⟩ := hidx b hbS
      rw [hγ i hi] at hx
      by_cases hbS' : b' ∈ S
      · obtain ⟨i', hi', rfl⟩ := hidx b' hbS'
        rw [hγ i' hi'] at hx'
        rw [hh'.inj i i' x x' k hx hx' hk hk']
      · rw [hγn b' hbS'] at hx'
        exact absurd hk ((hh'.fo k ((hfo0 k).2 (.inr ⟨b', x', hbS', hx', hk'⟩))).2 i x hx)
    · rw [hγn b hbS] at hx
      by_cases hbS' : b' ∈ S
      · obtain ⟨i', hi', rfl⟩ := hidx b' hbS'
        rw [hγ i' hi'] at hx'
        exact absurd hk' ((hh'.fo k ((hfo0 k).2 (.inr ⟨b, x, hbS, hx, hk⟩))).2 i' x' hx')
      · rw [hγn b' hbS'] at hx'
        exact hh.inj b b' x x' k hx hx' hk hk'
  · by_cases hbS : b ∈ S
    · obtain ⟨i, hi, rfl⟩ := hidx b hbS
      rw [hγ i hi] at hx
      exact (hh'.fo k ((hfo0 k).2 (.inl hk))).2 i x hx hk'
    · rw [hγn b hbS] at hx
      exact (hh.fo k hk).2 b x hx hk'
end
end Fw

/-
  Tidying: slots forgotten, boxes dropped or frozen; loops over tidied states.
-/
namespace Fw
open Go
def Tidy (m : Nat) (σ σ' : St) : Prop := ∀ (GL : GLT) (g : G) (w : World) (a : Act), R GL g w a σ → ∃ g', R GL g' w a σ' ∧ ∀ (g0 : G) (w0 : World), (∀ b, g0.dom b → b < m) → Ext g0 w0 g w → Ext g0 w0 g' w
theorem Tidy.refl (m : Nat) (σ : St) : Tidy m σ σ := fun _ g _ _ h => ⟨g, h, fun _ _ _ he => he⟩
theorem Tidy.trans {m : Nat} {a b c : St} (h : Tidy m a b) (k : Tidy m b c) : Tidy m a c := fun GL g w act hr => by
  obtain ⟨g1, h1, h2⟩ := h GL g w act hr
  obtain ⟨g2, h3, h4⟩ := k GL g1 w act h1
  grind
theorem Tidy.clean {m n : Nat} {keep : List Nat} {σ σ' : St} (hn : m ≤ n) (h : cleanSt keep n σ = some σ') : Tidy m σ σ' := fun _ g _ _ hr =>
  ⟨g.cut n, hr.clean h, fun _ _ hd he => he.cut fun b hb => Nat.lt_of_lt_of_le (hd b hb) hn⟩
theorem Tidy.frz {m b : Nat} {σ σ' : St} (h : frzSt b σ = some σ') : Tidy m σ σ' := fun _ g _ _ hr => ⟨g.del b, hr.frz h, fun g0 w0 _ he => Ext.frz g0 w0 he⟩
section
variable {P : Program} {GL : GLT}
theorem WC.tidy {c : IR} {σ σ' : St} {Q : Ex → St → Prop} (ht : Tidy σ.hp.length σ σ') (h : WC P GL c σ' Q) : WC P GL c σ Q := by
  intro code hcode ro hro g w a hr
  obtain ⟨g', h1, h2⟩ := ht GL g w a hr
  exact wpIn_mono (h code hcode ro hro g' w a h1) (postC.ext (h2 g w (fun b hb => hr.heap.dom b hb) (Ext.refl _ _)))
theorem WC.post {c : IR} {σ : St} {Q : Ex → St → Prop} (h : WC P GL c σ (fun e s => ∃ s', Tidy σ.hp.length s s' ∧ Q e s')) : WC P GL c σ Q := by
  intro code hc ro hro g w a hr
  refine wpIn_mono (h code hc ro hro g w a hr) fun e a' w' hp => ?_
  obtain ⟨g2, σ2, h1, h2, h3⟩ := hp
  have key : ∀ ex, (∃ s', Tidy σ.hp.length σ2 s' ∧ Q ex s') → ∃ g3 σ', R GL g3 w' a' σ' ∧ Ext g w g3 w' ∧ Q ex σ' := by
    rintro ex ⟨s', ht, hq⟩
    obtain ⟨g3, k1, k2⟩ := ht GL g2 w' a' h1
    exact ⟨g3, s', k1, k2 g w (fun b hb => hr.heap.dom b hb) h2, hq⟩
  cases e with
  | normal => exact key _ h3
  | exit i => exact key _ h3
  | ret => exact key _ h3
  | goto l => grind
  | panic c => grind
  | outgrown => grind
theorem WC.loopT {α : Type} (I : α → St) (μ : α → Nat) {b : IR} {Q : Ex → St → Prop}
    (h : ∀ a, WC P GL b (I a) (fun e σ' => match e with | .normal => ∃ a', μ a' < μ a ∧ Tidy (I a).hp.length σ' (I a') | e => Q e σ'))
    (a : α) {σ : St} (h0 : Tidy σ.hp.length σ (I a)) : WC P GL (.loop b) σ Q := by
  refine WC.tidy h0 (WC.loop (fun n s => ∃ a, μ a = n ∧ s = I a) ?_ ⟨a, rfl, rfl⟩)
  rintro n s ⟨a, rfl, rfl⟩
  refine WC.post ((h a).mono fun e s' hq => ?_)
  cases e with
  | normal =>
    grind
  | exit i => exact ⟨s', Tidy.refl _ _, hq⟩
  | ret => exact ⟨s', Tidy.refl _ _, hq⟩
theorem WF.tidyRes {f : FuncId} {args : List V} {H : Heap} {Q : V → Heap → Prop} (h : WF P GL f args H (fun v H' => ∃ σ', Tidy H.length ⟨1, [(0, v)], H'⟩ σ' ∧ Q (get σ'.tm 0) σ'.hp)) : WF P GL f args H Q := by
  refine ⟨h.1, fun g w vs hvs hh hg => (h.2 g w vs hvs hh hg).mono ?_⟩
  rintro e w' ⟨x, v, g', H', rfl, ⟨σ', ht, hq⟩, hx, hh', he⟩
  have hr : R GL (g'.rebase 0) w' ⟨#[x], []⟩ ⟨1, [(0, v)], H'⟩ := by
    refine ⟨Dfs.nil (Nat.zero_le _), rfl, fun t => ?_, hh'.rebase 0, (hg.ext he).rebase 0⟩
    cases t with
    | zero => exact RV.ext0 (Ext0.rebase g' w' 0) v x hx
    | succ t => rw [show get [(0, v)] (t + 1) = .any from rfl]; simp only [RV]
  obtain ⟨g2, k1, k2⟩ := ht GL (g'.rebase 0) w' _ hr
  have := k1.tmps 0
  exact ⟨x, _, g2.rebase g.base, _, rfl, hq, RV.ext0 (Ext0.rebase g2 w' _) _ _ (by simp_all), k1.heap.rebase _, (k2 (g.rebase 0) w (fun b hb => hh.dom b hb) (he.rebase 0)).rebase g.base⟩
end
end Fw

/-
  Drawn regions, for symbolic walks.
-/
namespace Fw
open Go
section
variable {P : Program} {GL : GLT}
theorem WO.callP {o : IOper} {l : List IOper} {σ σ' : St} {Q : St → Prop} {f : FuncId} {args : List Opd} {vs : List V} {v : V} (h : PC P GL f vs v) (ho : o.op = .call f args) (hg : guardB o.guard σ.tm = some true)
    (ha : mlist (evo GL σ.tm) args = vs) (hp : σ.put o.dst v σ.hp = some σ') (hq : WO P GL l σ' Q) : WO P GL (o :: l) σ Q := by
  subst ha
  exact WO.callPC ho hg h hp hq
theorem WC.once {b : IR} {σ : St} {Q : Ex → St → Prop} (h : WC P GL b σ (fun e s => match e with | .normal => False | e => Q e s)) : WC P GL (.loop b) σ Q :=
  WC.loop (fun n s => n = 0 ∧ s = σ) (by
    grind) ⟨rfl, rfl⟩
end
mutual
theorem refsLt_mono {n m : Nat} (h : n ≤ m) : ∀ {u : V}, refsLt n u = true → refsLt m u = true
  | .ptr b _ _, hh => by grind[refsLt,Nat.blt_eq]
  | .sl b _ _ _ _, hh => by grind[refsLt,Nat.blt_eq]
  | .map b, hh => by grind[refsLt,Nat.blt_eq]
  | .iter b _, hh => by simp only [refsLt, Bool.and_eq_true, Nat.blt_eq] at hh ⊢; omega
  | .yld b, hh => by grind[refsLt,Nat.blt_eq]
  | .func _ a c, hh => by simp only [refsLt, Bool.and_eq_true] at hh ⊢; exact ⟨refsLtL_mono h hh.1, refsLtL_mono h hh.2⟩
  | .iface _ v, hh => by simp only [refsLt] at hh ⊢; exact refsLt_mono h hh
  | .agg cs, hh => by simp only [refsLt] at hh ⊢; exact refsLtL_mono h hh
  | .tuple cs, hh => by simp only [refsLt] at hh ⊢; exact refsLtL_mono h hh
  | .any, _ => rfl
  | .d _, _ => rfl
  | .full _, _ => rfl
  | .nils, _ => rfl
  | .nilp, _ => rfl
  | .cptr _, _ => rfl
  | .nilm, _ => rfl
  | .nilf, _ => rfl
  | .someIface, _ => rfl
  | .nili, _ => rfl
theorem refsLtL_mono {n m : Nat} (h : n ≤ m) : ∀ {us : List V}, refsLtL n us = true → refsLtL m us = true
  | [], _ => rfl
  | v :: vs, hh => by simp only [refsLtL, Bool.and_eq_true] at hh ⊢; exact ⟨refsLt_mono h hh.1, refsLtL_mono h hh.2⟩
end
mutual
theorem renV_refs {S : List Nat} : ∀ {u : V}, refsLt 0 u = true → renV S u = u
  | .ptr b _ _, hh => by grind[refsLt,Nat.blt_eq]
  | .sl b _ _ _ _, hh => by grind[refsLt,Nat.blt_eq]
  | .map b, hh => by grind[refsLt,Nat.blt_eq]
  | .iter b _, hh => by simp [refsLt, Bool.and_eq_true, Nat.blt_eq] at hh
  | .yld b, hh => by grind[refsLt,Nat.blt_eq]
  | .func _ a c, hh => by simp only [refsLt, Bool.and_eq_true] at hh; simp only [renV, renL_refs hh.1, renL_refs hh.2]
  | .iface _ v, hh => by simp only [refsLt] at hh; simp only [renV, renV_refs hh]
  | .agg cs, hh => by simp only [refsLt] at hh; simp only [renV, renL_refs hh]
  | .tuple cs, hh => by simp only [refsLt] at hh; simp only [renV, renL_refs hh]
  | .any, _ => rfl
  | .d _, _ => rfl
  | .full _, _ => rfl
  | .nils, _ => rfl
  | .nilp, _ => rfl
  | .cptr _, _ => rfl
  | .nilm, _ => rfl
  | .nilf, _ => rfl
  | .someIface, _ => rfl
  | .nili, _ => rfl
theorem renL_refs {S : List Nat} : ∀ {us : List V}, refsLtL 0 us = true → renL S us = us
  | [], _ => rfl
  | v :: vs, hh => by simp only [refsLtL, Bool.and_eq_true] at hh; simp only [renL, renV_refs hh.1, renL_refs hh.2]
end
end Fw

/-
  A row of which nothing is kept but its room.
-/
namespace Fw
open Go
theorem Tidy.shrink {h sz : Nat} {cs : List V} : Tidy 0 ⟨1, [(0, .sl 0 h 0 0 sz)], [some (.cells cs)]⟩ ⟨1, [(0, .sl 1 0 0 0 sz)], [none, some (.cells [])]⟩ ∨ cs.length ≠ h := by
  by_cases hl : cs.length = h
  · left
    intro GL g w a hr
    have hg0 : hget [some (.cells cs)] 0 = some (.cells cs) := rfl
    obtain ⟨gb, hgb⟩ := hr.heap.back 0 _ hg0
    obtain ⟨hd, y, hy, hrb⟩ := hr.heap.live 0 gb hgb
    rw [hg0] at hy; simp only [Option.some.injEq] at hy; subst hy
    cases gb with
    | nil => simp only [RB] at hrb
    | obj => simp only [RB] at hrb
    | cells blk cp cur =>
      have hx := hr.tmps 0
      simp only [get, Nat.beq_refl, cond_true, RV] at hx
      have hx2 := hx.2 _ hgb
      have hlt := hrb.lt blk rfl
      simp only [RB] at hrb
      obtain ⟨r1, r2, r3, c, e, r4, r5, r6⟩ := hrb
      obtain ⟨cap, k1, k2, k3⟩ := hx2.2 (by omega)
      let g' : G := ⟨fun b => g.dom b ∨ b = 1, fun b => if b = 1 then some (.cells blk cp 0) else none, g.fo, g.base⟩
      have himm : ∀ k, imm g w k → imm g' w k := fun k hk => ⟨hk.1, hk.2.1, fun b x hx hk' => by
        simp only [g'] at hx
        split at hx
        · simp only [Option.some.injEq] at hx; subst hx
          exact hk.2.2 0 _ hgb hk'
        · cases hx⟩
      have hnodom : ∀ b, g.γ b = none ∨ b = 0 := fun b => by
        cases hb : g.γ b with
        | none => exact .inl rfl
        | some x =>
          obtain ⟨_, y, hy, _⟩ := hr.heap.live b x hb
          have := hget_lt hy
          simp at this
          exact .inr this
      refine ⟨g', ⟨⟨hr.defers.1, hr.defers.2.1, fun d hd => (hr.defers.2.2 d hd).imp fun D hD => ⟨hD.1, hD.2.1, himm _ hD.2.2.1, hD.2.2.2⟩⟩, hr.size, fun t => ?_, ⟨fun b hb => ?_, fun b x hx => ?_, fun b y hy => ?_, fun b b' x x' k hx hx' _ _ => ?_, fun k hk => ⟨(hr.heap.fo k hk).1, fun b x hx hk' => ?_⟩⟩, ⟨fun n cs hn => ⟨himm _ (hr.globs.rd n cs hn).1, RdC.keeps (im := imm g w) (im' := imm g' w) (fun k hk => ⟨himm k hk, rfl⟩) (hr.globs.rd n cs hn).1 _ _ (hr.globs.rd n cs hn).2⟩, fun k hk => ⟨himm _ (hr.globs.w0 k hk).1, (hr.globs.w0 k hk).2⟩⟩⟩, fun g0 w0 hdom he => ?_⟩
      · cases t with
        | zero =>
          simp only [get, Nat.beq_refl, cond_true, RV]
          refine ⟨⟨hx.1.1, .inr rfl⟩, fun x hx => ?_⟩
          simp only [g', if_true, Option.some.injEq] at hx; subst hx
          exact ⟨Nat.le_refl _, fun _ => ⟨cap, k1, k2, k3⟩⟩
        | succ t => rw [show get [(0, V.sl 1 0 0 0 sz)] (t + 1) = .any from rfl]; simp only [RV]
      · rcases hb with hb | rfl
        · have := hr.heap.dom b hb; simp at this ⊢; omega
        · simp
      · simp only [g'] at hx
        split at hx
        · rename_i hb1; subst hb1
          simp only [Option.some.injEq] at hx; subst hx
          refine ⟨.inr rfl, .cells [], rfl, ?_⟩
          simp only [RB, List.length_nil]
          exact ⟨trivial, rfl, Nat.zero_le _, c, e, r4, r5, by simp [RVs]⟩
        · cases hx
      · have hb1 : b = 1 := by
          match b, hy with
          | 0, hy => simp [hget] at hy
          | 1, _ => rfl
          | b + 2, hy => simp [hget] at hy
        subst hb1
        exact ⟨_, rfl⟩
      · simp only [g'] at hx hx'
        split at hx
        · split at hx'
          · omega
          · cases hx'
        · cases hx
      · simp only [g'] at hx
        split at hx
        · simp only [Option.some.injEq] at hx; subst hx
          exact (hr.heap.fo k hk).2 0 _ hgb hk'
        · cases hx
      · refine ⟨he.os, he.tape, he.output, he.size, fun k hk => ⟨himm k (he.keeps k hk).1, (he.keeps k hk).2⟩, fun b hb => absurd (hdom b hb) (by omega), fun b hb => absurd (hdom b hb) (by omega), he.fo, he.base, he.foreign⟩
  · exact .inr hl
end Fw

/-
  An empty row of data may be nil or not: a comparison with nil goes on for both answers.
-/
set_option maxHeartbeats 1000000
namespace Fw
open Go
section
variable {P : Program} {GL : GLT}
theorem PC.ofE {f : FuncId} {args : List V} {v : V} (hd : refsLtL 0 args = true) (h : WF P GL f args [] (fun r H' => (r = .nils ∧ v = .d (.list [])) ∨ deepV H' r = some v)) : PC P GL f args v := by
  refine PC.ofG hd h fun r H' g g' w x h1 h2 h3 h4 => ?_
  rcases h1 with ⟨rfl, rfl⟩ | h1
  · grind[RV,Rd]
  · exact deepV_ok h2 h3 h1 h4
theorem comp_eqSlice {op : Op} {x' y' : Opd} (h : compOp P op = some (.eq false .slice x' y')) : ∃ t x y yt e, op = .binOp .eql t x y yt ∧ P.underlying t = some (.slice e) ∧ compOpd x = some x' ∧ compOpd y = some y' := by
  cases op with
  | binOp op t x y yt =>
    simp only [compOp] at h
    split at h
    · rename_i x2 y2 hx hy
      split at h
      · split at h
        case h_4 e hu =>
          grind
        all_goals exfalso
        all_goals (repeat' split at h) <;> simp at h
      · exfalso; (repeat' split at h) <;> simp at h
      grind
    · cases h
  | call c =>
    exfalso
    simp only [compOp] at h
    unfold compCall at h
    (repeat' split at h) <;> simp at h
  | makeFunc fn a b => exfalso; cases fn <;> (grind[compOp])
  | makeMap t r => exfalso; cases r <;> (grind[compOp])
  | slice t x lo hi mx => exfalso; cases mx <;> cases lo <;> cases hi <;> (simp only [compOp] at h; (repeat' split at h) <;> simp at h)
  | _ => exfalso; simp only [compOp] at h; (repeat' split at h) <;> simp at h
theorem WO.eqEmpty {o : IOper} {l : List IOper} {σ : St} {Q : St → Prop} {x y : Opd} (ho : o.op = .eq false .slice x y) (hg : guardB o.guard σ.tm = some true)
    (hx : evo GL σ.tm x = .d (.list [])) (hy : evo GL σ.tm y = .nils) (h : ∀ b, ∃ σ', σ.put o.dst (.d (.bool b)) σ.hp = some σ' ∧ WO P GL l σ' Q) : WO P GL (o :: l) σ Q := by
  refine WO.step fun o' ops hop hgd hdst g w a hr K Q' hK => ?_
  rw [wanted_of hr hgd hg, if_pos rfl]
  obtain ⟨t, ox, oy, yt, e, hop2, hu, hcx, hcy⟩ := comp_eqSlice (comp_of (by rw [hop, ho]) (by simp))
  have hvx := hr.ev _ _ hcx
  have hvy := hr.ev _ _ hcy
  rw [hx] at hvx; rw [hy] at hvy
  simp only [RV, Rd] at hvx hvy
  have key : ∃ b, (execOp a.eval o').run P w = .ok (.value (.bool b)) w := by
    have hsl : ∃ p l c, a.eval ox = .slice p l c := by
      grind
    obtain ⟨p, ln, c, hs⟩ := hsl
    have heq : (Op.equal t (a.eval ox) (a.eval oy)).run P w = .ok p.isNone w := by
      rw [hs, hvy]
      exact eq_run fun d => by cases p <;> simp [Op.equalIn, run_underlying hu]
    have hgd2 : (eqGuard .eql t ox oy (a.eval ox) (a.eval oy)).run P w = .ok () w := by
      rw [hs, hvy]; unfold eqGuard; simp
    simp_all[execOp,binOp]
  obtain ⟨b, hb⟩ := key
  obtain ⟨σ', hp, hw⟩ := h b
  refine OW.of (comp_not_defer (comp_of (by rw [hop, ho]) (by simp))) hb ?_
  simp only [Oper.uponIn]
  rw [hdst]
  exact hK g w _ σ' (hr.stput (Ext.refl _ _) hr.heap hp (RV.mkB _)) (Ext.refl _ _) hw
end
end Fw
