/-
  Boxes that nothing refers to are dropped; slots are forgotten; what a row of boxes reads as, to the bottom; calls that touch nothing.
-/
import Derived.Test.YtonjnjkdebpilaaGreatDoorFc

set_option linter.unusedSimpArgs false
namespace Fw
open Go
mutual
def refsLt (n : Nat) : V → Bool
  | .ptr b _ _ => Nat.blt b n
  | .sl b _ _ _ _ => Nat.blt b n
  | .map b => Nat.blt b n
  | .iter b m => Nat.blt b n && Nat.blt m n
  | .yld b => Nat.blt b n
  | .func _ a c => refsLtL n a && refsLtL n c
  | .iface _ v => refsLt n v
  | .agg cs => refsLtL n cs
  | .tuple vs => refsLtL n vs
  | _ => true
def refsLtL (n : Nat) : List V → Bool
  | [] => true
  | v :: vs => refsLt n v && refsLtL n vs
end
def boxLt (n : Nat) : Box → Bool
  | .cells cs => refsLtL n cs
  | .map es => es.all fun p => refsLt n p.2
  | .miter m _ _ => Nat.blt m n
  | .loop _ tm _ _ _ _ => tm.all fun p => refsLt n p.2
  | _ => true
def heapLt (n : Nat) : Heap → Bool
  | [] => true
  | none :: H => heapLt n H
  | some b :: H => boxLt n b && heapLt n H
def G.cut (g : G) (n : Nat) : G := ⟨fun b => g.dom b ∧ b < n, fun b => if b < n then g.γ b else none, g.fo, g.base⟩
theorem imm_cut {g : G} {w : World} {n k : Nat} (h : imm g w k) : imm (g.cut n) w k := by
  refine ⟨h.1, h.2.1, fun b x hx => ?_⟩
  simp only [G.cut] at hx
  split at hx
  · exact h.2.2 b x hx
  · cases hx
structure Agree (n : Nat) (g g' : G) (w : World) : Prop where
  dom : ∀ b, b < n → g.dom b → g'.dom b
  γ : ∀ b, b < n → g'.γ b = g.γ b
  imm : ∀ k, imm g w k → imm g' w k
theorem Agree.keeps {n : Nat} {g g' : G} {w : World} (h : Agree n g g' w) : Keeps w w (Fw.imm g w) (Fw.imm g' w) := fun k hk => ⟨h.imm k hk, rfl⟩
mutual
theorem RV.agree {n : Nat} {g g' : G} {w : World} (h : Agree n g g' w) : ∀ (u : V) (v : Value), refsLt n u = true → RV g w u v → RV g' w u v
  | .any, _, _, _ => by simp only [RV]
  | .d x, v, _, hv => by simp only [RV] at hv ⊢; exact Rd.keeps h.keeps _ _ hv
  | .full es, v, _, hv => by simp only [RV] at hv ⊢; exact ⟨Rd.keeps h.keeps _ _ hv.1, hv.2⟩
  | .nils, _, _, hv => by grind[RV]
  | .ptr b hh off, v, hn, hv => by
    simp only [refsLt, Nat.blt_eq] at hn
    simp only [RV] at hv ⊢
    exact ⟨⟨hv.1.1, h.dom b hn hv.1.2⟩, fun x hx => hv.2 x (by rw [← h.γ b hn]; exact hx)⟩
  | .nilp, _, _, hv => by grind[RV]
  | .cptr cs, v, _, hv => by
    simp only [RV] at hv ⊢
    obtain ⟨blk, off, h1, h2, h3⟩ := hv
    refine ⟨blk, off, h1, fun hn => h.imm _ (h2 hn), ?_⟩
    cases cs with
    | nil => simp only [RdC]
    | cons c cs => exact RdC.keeps h.keeps (h2 (by simp)) _ _ h3
  | .sl b hh off len sz, v, hn, hv => by
    simp only [refsLt, Nat.blt_eq] at hn
    simp only [RV] at hv ⊢
    exact ⟨⟨hv.1.1, h.dom b hn hv.1.2⟩, fun x hx => hv.2 x (by rw [← h.γ b hn]; exact hx)⟩
  | .map b, v, hn, hv => by
    simp only [refsLt, Nat.blt_eq] at hn
    simp only [RV] at hv ⊢
    exact ⟨⟨hv.1.1, h.dom b hn hv.1.2⟩, fun x hx => hv.2 x (by rw [← h.γ b hn]; exact hx)⟩
  | .nilm, _, _, hv => by grind[RV]
  | .func f a c, v, hn, hv => by
    simp only [refsLt, Bool.and_eq_true] at hn
    simp only [RV] at hv ⊢
    obtain ⟨x, y, h1, h2, h3⟩ := hv
    exact ⟨x, y, h1, RVs.agree h _ _ hn.1 h2, RVs.agree h _ _ hn.2 h3⟩
  | .nilf, _, _, hv => by grind[RV]
  | .iface t u, v, hn, hv => by
    simp only [refsLt] at hn
    simp only [RV] at hv ⊢
    obtain ⟨x, h1, h2⟩ := hv
    exact ⟨x, h1, RV.agree h _ _ hn h2⟩
  | .someIface, _, _, hv => by grind[RV]
  | .nili, _, _, hv => by grind[RV]
  | .agg cs, v, hn, hv => by
    simp only [refsLt] at hn
    simp only [RV] at hv ⊢
    obtain ⟨x, h1, h2⟩ := hv
    exact ⟨x, h1, RVs.agree h _ _ hn h2⟩
  | .tuple vs, v, hn, hv => by
    simp only [refsLt] at hn
    simp only [RV] at hv ⊢
    obtain ⟨x, h1, h2⟩ := hv
    exact ⟨x, h1, RVs.agree h _ _ hn h2⟩
  | .iter b m, v, hn, hv => by
    simp only [refsLt, Bool.and_eq_true, Nat.blt_eq] at hn
    simp only [RV] at hv ⊢
    exact ⟨⟨hv.1.1, h.dom b hn.1 hv.1.2⟩, fun x hx => hv.2 x (by rw [← h.γ b hn.1]; exact hx)⟩
  | .yld b, v, hn, hv => by
    simp only [refsLt, Nat.blt_eq] at hn
    simp only [RV] at hv ⊢
    exact ⟨⟨hv.1.1, h.dom b hn hv.1.2⟩, fun x hx => hv.2 x (by rw [← h.γ b hn]; exact hx)⟩
theorem RVs.agree {n : Nat} {g g' : G} {w : World} (h : Agree n g g' w) : ∀ (us : List V) (vs : List Value), refsLtL n us = true → RVs g w us vs → RVs g' w us vs
  | [], [], _, _ => by simp only [RVs]
  | u :: us, v :: vs, hn, hv => by
    simp only [refsLtL, Bool.and_eq_true] at hn
    simp only [RVs] at hv ⊢
    exact ⟨RV.agree h _ _ hn.1 hv.1, RVs.agree h _ _ hn.2 hv.2⟩
  | [], _ :: _, _, hv => by grind[RVs]
  | _ :: _, [], _, hv => by grind[RVs]
end
theorem agree_cut (g : G) (w : World) (n : Nat) : Agree n g (g.cut n) w :=
  ⟨fun _ hb hd => ⟨hd, hb⟩, fun b hb => by simp [G.cut, hb], fun _ hk => imm_cut hk⟩
theorem heapLt_get {n : Nat} : ∀ {H : Heap} {b : Nat} {y : Box}, heapLt n H = true → hget H b = some y → boxLt n y = true
  | [], b, y, _, h => by simp [hget] at h
  | none :: H, 0, y, _, h => by simp [hget] at h
  | some x :: H, 0, y, hl, h => by
    simp_all[heapLt,Bool.and_eq_true,hget]
  | none :: H, b + 1, y, hl, h => by simp only [heapLt] at hl; exact heapLt_get hl h
  | some x :: H, b + 1, y, hl, h => by simp only [heapLt, Bool.and_eq_true] at hl; exact heapLt_get hl.2 h
theorem hget_take : ∀ (H : Heap) (n b : Nat), hget (H.take n) b = if b < n then hget H b else none
  | [], n, b => by simp [hget]
  | x :: H, 0, b => by simp [hget]
  | x :: H, n + 1, 0 => by simp [hget]
  | x :: H, n + 1, b + 1 => by simp [hget, hget_take H n b]
theorem get_refs {n : Nat} : ∀ {tm : List (Nat × V)} (t : Nat), (tm.all fun p => refsLt n p.2) = true → refsLt n (get tm t) = true
  | [], _, _ => rfl
  | (s, u) :: l, t, h => by
    simp only [List.all_cons, Bool.and_eq_true] at h
    simp only [get]
    cases Nat.beq s t
    · exact get_refs t h.2
    · exact h.1
theorem RB.agree {n : Nat} {g g' : G} {w : World} {x : GB} {y : Box} (h : Agree n g g' w) (hy : boxLt n y = true) (hr : RB g w x y) : RB g' w x y := by
  cases x with
  | cells blk cp cur =>
    cases y with
    | cells cs =>
      simp only [RB] at hr ⊢
      obtain ⟨h1, h2, h3, c, e, h4, h5, h6⟩ := hr
      exact ⟨h1, h2, h3, c, e, h4, h5, RVs.agree h _ _ hy h6⟩
    | _ => grind[RB]
  | nil => grind[RB]
  | obj blk =>
    cases y with
    | map es =>
      simp only [RB] at hr ⊢
      obtain ⟨ents, clock, h1, h2, h3, h4⟩ := hr
      refine ⟨ents, clock, h1, h2, fun i k v hi => ?_, h4⟩
      obtain ⟨z, hz1, hz2, hz3, hz4⟩ := h3 i k v hi
      have : refsLt n v = true := by
        grind[boxLt,List.all_eq_true]
      exact ⟨z, hz1, hz2, Rd.keeps h.keeps _ _ hz3, RV.agree h _ _ this hz4⟩
    | siter s pos => grind[RB]
    | loop k tm ps ca cb st =>
      simp only [RB] at hr ⊢
      obtain ⟨r, h1, h2, h3, h4⟩ := hr
      exact ⟨r, h1, h2, fun t => RV.agree h _ _ (get_refs t hy) (h3 t), h4⟩
    | miter m k seen =>
      simp only [RB] at hr ⊢
      obtain ⟨mb, sa, h1, h2, h3, h4⟩ := hr
      simp only [boxLt, Nat.blt_eq] at hy
      exact ⟨mb, sa, h1, h2, h.dom m hy h3, fun x hx => h4 x (by rw [← h.γ m hy]; exact hx)⟩
    | _ => grind[RB]
theorem HeapOK.cut {g : G} {w : World} {H : Heap} {n : Nat} (hh : HeapOK g w H) (hl : heapLt n (H.take n) = true) : HeapOK (g.cut n) w (H.take n) := by
  refine ⟨fun b hb => ?_, fun b x hx => ?_, fun b y hy => ?_, fun b b' x x' k hx hx' hk hk' => ?_, fun k hk => ⟨(hh.fo k hk).1, fun b x hx => ?_⟩⟩
  · have := hh.dom b hb.1
    have := hb.2
    simp; omega
  · simp only [G.cut] at hx
    split at hx
    · rename_i hb
      obtain ⟨h1, y, h2, h3⟩ := hh.live b x hx
      have hg : hget (H.take n) b = some y := by grind[hget_take]
      exact ⟨⟨h1, hb⟩, y, hg, RB.agree (agree_cut g w n) (heapLt_get hl hg) h3⟩
    · cases hx
  · rw [hget_take] at hy
    split at hy
    · rename_i hb
      obtain ⟨x, hx⟩ := hh.back b y hy
      grind[G.cut]
    · cases hy
  · simp only [G.cut] at hx hx'
    split at hx
    · split at hx'
      · exact hh.inj b b' x x' k hx hx' hk hk'
      grind
    · cases hx
  · simp only [G.cut] at hx
    split at hx
    · exact (hh.fo k hk).2 b x hx
    · cases hx
theorem Ext.cut {g0 g : G} {w0 w : World} {n : Nat} (h : Ext g0 w0 g w) (hn : ∀ b, g0.dom b → b < n) : Ext g0 w0 (g.cut n) w :=
  ⟨h.os, h.tape, h.output, h.size, fun k hk => ⟨imm_cut (h.keeps k hk).1, (h.keeps k hk).2⟩, fun b hb => ⟨h.dom b hb, hn b hb⟩,
   fun b hb => by simp only [G.cut, hn b hb, if_true]; exact h.step b hb, h.fo, h.base, h.foreign⟩
def keepTm (keep : List Nat) : List (Nat × V) → List (Nat × V)
  | [] => []
  | (t, v) :: l => bif keep.any (Nat.beq t) then (t, v) :: keepTm keep l else keepTm keep l
theorem get_keepTm (keep : List Nat) (t : Nat) : ∀ (l : List (Nat × V)), get (keepTm keep l) t = get l t ∨ get (keepTm keep l) t = .any
  | [] => .inl rfl
  | (s, v) :: l => by
    simp only [keepTm]
    cases hk : keep.any (Nat.beq s) with
    | true =>
      simp only [cond_true, get]
      cases Nat.beq s t with
      | true => grind
      | false => exact get_keepTm keep t l
    | false =>
      simp only [cond_false, get]
      cases hb : Nat.beq s t with
      | true =>
        have e := Nat.eq_of_beq_eq_true hb
        subst e
        right
        have hno : ∀ (l : List (Nat × V)), get (keepTm keep l) s = .any := by
          intro l
          induction l with
          | nil => rfl
          | cons p l ih =>
            obtain ⟨q, u⟩ := p
            simp only [keepTm]
            cases hq : keep.any (Nat.beq q) with
            | true =>
              simp only [cond_true, get]
              cases hqs : Nat.beq q s with
              | true => have := Nat.eq_of_beq_eq_true hqs; grind
              | false => exact ih
            | false => exact ih
        exact hno l
      | false => exact get_keepTm keep t l
def tmLt (n : Nat) : List (Nat × V) → Bool
  | [] => true
  | (_, v) :: l => refsLt n v && tmLt n l
theorem tmLt_get {n t : Nat} : ∀ {l : List (Nat × V)}, tmLt n l = true → refsLt n (get l t) = true
  | [], _ => rfl
  | (s, v) :: l, h => by
    simp only [tmLt, Bool.and_eq_true] at h
    simp only [get]
    cases Nat.beq s t with
    | true => exact h.1
    | false => exact tmLt_get h.2
def cleanSt (keep : List Nat) (n : Nat) (σ : St) : Option St :=
  let tm := keepTm keep σ.tm
  bif tmLt n tm && heapLt n (σ.hp.take n) then some ⟨σ.n, tm, σ.hp.take n⟩ else none
section
variable {P : Program} {GL : GLT}
theorem R.clean {keep : List Nat} {n : Nat} {g : G} {w : World} {a : Act} {σ σ' : St} (h : R GL g w a σ) (hc : cleanSt keep n σ = some σ') : R GL (g.cut n) w a σ' := by
  unfold cleanSt at hc
  simp only at hc
  cases hb : (tmLt n (keepTm keep σ.tm) && heapLt n (σ.hp.take n)) with
  | false => grind
  | true =>
    rw [hb] at hc
    simp at hc; subst hc
    simp at hb
    refine ⟨⟨h.defers.1, h.defers.2.1, fun d hd => (h.defers.2.2 d hd).imp fun D hD => ⟨hD.1, hD.2.1, imm_cut hD.2.2.1, hD.2.2.2⟩⟩, h.size, fun t => ?_, h.heap.cut hb.2, ⟨fun m cs hm => ⟨imm_cut (h.globs.rd m cs hm).1, RdC.keeps (agree_cut g w n).keeps (h.globs.rd m cs hm).1 _ _ (h.globs.rd m cs hm).2⟩, fun k hk => ⟨imm_cut (h.globs.w0 k hk).1, (h.globs.w0 k hk).2⟩⟩⟩
    have hlt := tmLt_get (t := t) hb.1
    rcases get_keepTm keep t σ.tm with e | e
    · rw [e] at hlt ⊢; exact RV.agree (agree_cut g w n) _ _ hlt (h.tmps t)
    grind[RV]
theorem WC.clean {c : IR} {σ : St} {Q : Ex → St → Prop} (n : Nat) (hn : σ.hp.length ≤ n) (h : WC P GL c σ (fun e σ' => Q e σ' ∨ ∃ keep σ'', cleanSt keep n σ' = some σ'' ∧ Q e σ'')) : WC P GL c σ Q := by
  intro code hc ro hro g w a hr
  refine wpIn_mono (h code hc ro hro g w a hr) fun e a' w' hp => ?_
  obtain ⟨g2, σ2, h1, h2, h3⟩ := hp
  have hdom : ∀ b, g.dom b → b < n := fun b hb => by have := hr.heap.dom b hb; omega
  have key : ∀ ex, (Q ex σ2 ∨ ∃ keep σ'', cleanSt keep n σ2 = some σ'' ∧ Q ex σ'') → ∃ g3 σ', R GL g3 w' a' σ' ∧ Ext g w g3 w' ∧ Q ex σ' := by
    intro ex hq
    rcases hq with hq | ⟨keep, σ'', hcl, hq⟩
    · grind
    · exact ⟨_, σ'', h1.clean hcl, h2.cut hdom, hq⟩
  cases e with
  | normal => exact key _ h3
  | exit i => exact key _ h3
  | ret => exact key _ h3
  | goto l => grind
  | panic c => grind
  | outgrown => grind
theorem WF.cut {f : FuncId} {args : List V} {H : Heap} {Q : V → Heap → Prop} (h : WF P GL f args H (fun v H' => Q v H' ∨ (refsLt H.length v = true ∧ heapLt H.length (H'.take H.length) = true ∧ Q v (H'.take H.length)))) : WF P GL f args H Q := by
  refine ⟨h.1, fun g w vs hvs hh hg => (h.2 g w vs hvs hh hg).mono ?_⟩
  rintro e w' ⟨x, v, g', H', rfl, hq, hx, hh', he⟩
  rcases hq with hq | ⟨h1, h2, h3⟩
  · grind
  · exact ⟨x, v, g'.cut H.length, _, rfl, h3, RV.agree (agree_cut g' w' _) _ _ h1 hx, hh'.cut h2, he.cut (fun b hb => hh.dom b hb)⟩
end
end Fw

/-
  What rows of own boxes read as, to the bottom; calls that touch nothing.
-/
namespace Fw
open Go
def ours (g : G) (w : World) (k : Nat) : Prop := k < w.heap.size ∧ ¬ g.fo k
theorem imm_ours {g : G} {w : World} {k : Nat} (h : imm g w k) : ours g w k := ⟨h.1, h.2.1⟩
theorem Keeps.of {w : World} {im im' : Nat → Prop} (h : ∀ k, im k → im' k) : Keeps w w im im' := fun k hk => ⟨h k hk, rfl⟩
theorem HeapOK.foreignOwn {g : G} {w : World} {H : Heap} (hh : HeapOK g w H) {b k : Nat} {x : GB} (hx : g.γ b = some x) (hk : x.own = some k) : ours g w k := by
  obtain ⟨_, y, _, h3⟩ := hh.live b x hx
  exact ⟨h3.lt k hk, hh.notFo hx hk⟩
theorem chunk_RdE {w : World} {im : Nat → Prop} {blk sz : Nat} : ∀ {n : Nat} {off : Nat} {l : List D}, l.length = n * sz → RdC w im blk off l → RdE w im blk off sz (chunk sz n l)
  | 0, _, _, _, _ => by grind[chunk,RdE]
  | n + 1, off, l, hl, h => by
    simp only [chunk, RdE]
    have hle : sz ≤ l.length := by grind
    refine ⟨by simp; omega, ?_, ?_⟩
    · have : ∀ (k : Nat) (ds : List D) (q : Nat), RdC w im blk q ds → RdC w im blk q (ds.take k) := by
        intro k ds
        induction ds generalizing k with
        | nil => grind
        | cons d ds ih =>
          intro q hq
          cases k<;>grind[RdC]
      grind
    · exact chunk_RdE (by grind) (RdC.drop sz h)
theorem deepC_ok {g : G} {w : World} {H : Heap} (hh : HeapOK g w H) : ∀ (f : Nat) (u : V) (v : Value) (d : D), deepC H f u = some d → RV g w u v → Rd w (ours g w) d v := by
  intro f
  induction f with
  | zero =>
    intro u v d hd hv
    cases u with
    | d x => simp only [deepC, Option.some.injEq] at hd; subst hd; simp only [RV] at hv; exact Rd.keeps (Keeps.of fun _ hk => imm_ours hk) _ _ hv
    | nils => grind[deepC,Option.some.injEq,RV,Rd]
    | _ => simp [deepC] at hd
  | succ f ih =>
    intro u v d hd hv
    cases u with
    | d x => grind[deepC,Option.some.injEq,RV]
    | nils => grind[deepC,Option.some.injEq,RV,Rd]
    | sl b hb off len sz =>
      simp only [deepC] at hd
      cases hg : hget H b with
      | none => grind
      | some y =>
        cases y with
        | cells cs =>
          simp only [hg] at hd
          cases hc : (Nat.beq cs.length hb && Nat.ble (off + len * sz) hb) with
          | false => grind
          | true =>
            rw [hc] at hd
            simp at hd
            split at hd
            · rename_i l hl
              simp at hd; subst hd
              simp only [Bool.and_eq_true] at hc
              have e2 := Nat.le_of_ble_eq_true hc.2
              obtain ⟨blk, cp, c, e, h1, h2, h3, h4, h5, h6, h7⟩ := live_cells hg hc.1 hh
              obtain ⟨cap, rfl, h8, h9⟩ := RV.slLive hv h1
              have hll := mapO_length hl
              have hlen : l.length = len * sz := by grind
              have hvs := (h7.drop off).take (len * sz)
              simp only [Rd]
              refine .inr ⟨blk, off, cap, sz, by rw [chunk_length], by grind[chunk_length], fun _ => hh.foreignOwn h1 rfl, chunk_RdE hlen (RdC.of_vals (vs := ((c.toList.take hb).drop off).take (len * sz)) (by grind) (fun j d' v' hd hv' => ?_) (fun j v' hv' => ?_))⟩
              · have hj : j < l.length := (List.getElem?_eq_some_iff.1 hd).1
                have hj2 : j < ((cs.drop off).take (len * sz)).length := by omega
                obtain ⟨d2, k1, k2⟩ := mapO_get j _ hl (List.getElem?_eq_getElem hj2)
                rw [hd] at k1; simp at k1; subst k1
                obtain ⟨x, k3, k4⟩ := hvs.get j (List.getElem?_eq_getElem hj2)
                grind
              grind[World.cell?]
            · cases hd
        | nil =>
          simp only [hg] at hd
          cases hc : Nat.beq len 0 with
          | false => grind
          | true =>
            rw [hc] at hd
            simp at hd; subst hd
            obtain ⟨x, hx⟩ := hh.back b _ hg
            obtain ⟨_, y, hy, hr⟩ := hh.live b x hx
            rw [hg] at hy; simp at hy; subst hy
            cases x with
            | cells => grind[RB]
            | obj => grind[RB]
            | nil =>
              obtain ⟨_, _, _, rfl⟩ := RV.slNil hv hx
              simp [Rd]
        | _ => grind
    | _ => grind[deepC]
def RVim (w : World) (im : Nat → Prop) : V → Value → Prop
  | .d x, v => Rd w im x v
  | .nili, v => v = .nilIface
  | .someIface, v => ∃ t x, v = .iface t x
  | .nilp, v => v = .pointer none
  | .agg cs, v => ∃ (x : Array Value) (ds : List D), v = .agg x ∧ cs = ds.map V.d ∧ ds.length = x.size ∧ ∀ (j : Nat) (d : D) (y : Value), ds[j]? = some d → x[j]? = some y → Rd w im d y
  | _, _ => False
theorem RVs.of_data {g : G} {w : World} {ds : List D} {vs : List Value} (hl : ds.length = vs.length) (h : ∀ (j : Nat) (d : D) (y : Value), ds[j]? = some d → vs[j]? = some y → Rd w (imm g w) d y) : RVs g w (ds.map V.d) vs := by
  refine RVs.of_get (by grind) fun i u v hu hv => ?_
  grind[Option.map_eq_some_iff,RV]
theorem RVim.rv {g : G} {w : World} {im : Nat → Prop} (him : ∀ k, im k → imm g w k) {u : V} {v : Value} (h : RVim w im u v) : RV g w u v := by
  cases u with
  | d x => simp only [RVim] at h; simp only [RV]; exact Rd.keeps (Keeps.of him) _ _ h
  | nili => grind[RVim,RV]
  | someIface => grind[RVim,RV]
  | nilp => grind[RVim,RV]
  | agg cs =>
    simp only [RVim] at h
    obtain ⟨x, ds, rfl, rfl, h1, h2⟩ := h
    simp only [RV]
    exact ⟨x, rfl, RVs.of_data (by grind) (fun j d y hd hy => Rd.keeps (Keeps.of him) _ _ (h2 j d y hd (by grind)))⟩
  | _ => grind[RVim]
theorem deepA_ok {g : G} {w : World} {H : Heap} (hh : HeapOK g w H) {u r : V} {v : Value} (h : deepA H u = some r) (hv : RV g w u v) : RVim w (ours g w) r v := by
  unfold deepA at h
  split at h
  · rename_i cs
    split at h
    · rename_i l hl
      simp at h; subst h
      simp only [RV] at hv
      obtain ⟨x, rfl, hx⟩ := hv
      have hlen := mapO_length hl
      have hlx := hx.length
      simp at hlx
      simp only [RVim]
      refine ⟨x, l, rfl, rfl, by omega, fun j d y hd hy => ?_⟩
      have hj : j < cs.length := by grind
      obtain ⟨d2, k1, k2⟩ := mapO_get j _ hl (List.getElem?_eq_getElem hj)
      rw [hd] at k1; simp at k1; subst k1
      obtain ⟨z, k3, k4⟩ := hx.get j (List.getElem?_eq_getElem hj)
      have : z = y := by
        grind
      subst this
      exact deepC_ok hh _ _ _ _ k2 k4
    · cases h
  · grind[Option.some.injEq,RV,RVim]
  · grind[Option.some.injEq,RV,RVim]
  · grind[Option.some.injEq,RV,RVim]
  · split at h
    · rename_i x hx
      simp at h; subst h
      simp only [RVim]
      exact deepC_ok hh _ _ _ _ hx hv
    · cases h
theorem deepV_ok {g g' : G} {w : World} {H : Heap} (hh : HeapOK g w H) (him : ∀ k, ours g w k → imm g' w k) {u r : V} {v : Value} (h : deepV H u = some r) (hv : RV g w u v) : RV g' w r v := by
  unfold deepV at h
  split at h
  · rename_i vs
    split at h
    · rename_i l hl
      simp at h; subst h
      simp only [RV] at hv ⊢
      obtain ⟨x, rfl, hx⟩ := hv
      refine ⟨x, rfl, RVs.of_get (by have := mapO_length hl; have := hx.length; omega) fun i u y hu hy => ?_⟩
      have hi : i < vs.length := by have := (List.getElem?_eq_some_iff.1 hu).1; have := mapO_length hl; omega
      obtain ⟨u2, k1, k2⟩ := mapO_get i _ hl (List.getElem?_eq_getElem hi)
      rw [hu] at k1; simp at k1; subst k1
      obtain ⟨z, k3, k4⟩ := hx.get i (List.getElem?_eq_getElem hi)
      rw [hy] at k3; simp at k3; subst k3
      exact (deepA_ok hh k2 k4).rv him
    · cases h
  · exact (deepA_ok hh h hv).rv him
section
variable {P : Program} {GL : GLT}
theorem PC.ofG {f : FuncId} {args : List V} {v : V} {R : V → Heap → Prop} (hd : refsLtL 0 args = true) (h : WF P GL f args [] R) (hr : ∀ r H' g g' w x, R r H' → HeapOK g' w H' → (∀ k, ours g' w k → imm g w k) → RV g' w r x → RV g w v x) : PC P GL f args v := by
  refine ⟨h.1, fun g w vs hvs hfo hown hg => ?_⟩
  let g0 : G := ⟨fun _ => False, fun _ => none, fun k => g.fo k ∨ ∃ b x, g.γ b = some x ∧ x.own = some k, g.base⟩
  have himm : ∀ k, imm g w k ↔ imm g0 w k := by
    intro k
    constructor
    · rintro ⟨h1, h2, h3⟩
      refine ⟨h1, ?_, fun b x hx => by cases hx⟩
      grind
    · rintro ⟨h1, h2, _⟩
      exact ⟨h1, fun h4 => h2 (.inl h4), fun b x hx hk => h2 (.inr ⟨b, x, hx, hk⟩)⟩
  have hag : Agree 0 g g0 w := ⟨fun b hb => by omega, fun b hb => by omega, fun k hk => (himm k).1 hk⟩
  have hH : HeapOK g0 w [] := by
    refine ⟨fun b hb => hb.elim, fun b x hx => (by cases hx), fun b y hy => (by grind[hget]), fun b b' x x' k hx => (by cases hx), fun k hk => ⟨?_, fun b x hx => (by cases hx)⟩⟩
    grind
  have hG : Globs GL g0 w := ⟨fun n cs hn => ⟨(himm n).1 (hg.rd n cs hn).1, RdC.keeps hag.keeps (hg.rd n cs hn).1 _ _ (hg.rd n cs hn).2⟩, fun k hk => ⟨(himm k).1 (hg.w0 k hk).1, (hg.w0 k hk).2⟩⟩
  refine (h.2 g0 w vs (RVs.agree hag _ _ hd hvs) hH hG).mono ?_
  rintro e w' ⟨x, r, g', H', rfl, hdeep, hx, hh', he⟩
  have himm' : ∀ k, ours g' w' k → imm g w' k := by
    rintro k ⟨h1, h2⟩
    rw [he.fo] at h2
    exact ⟨h1, fun h3 => h2 (.inl h3), fun b x hx hk => h2 (.inr ⟨b, x, hx, hk⟩)⟩
  refine ⟨x, rfl, hr _ _ _ _ _ _ hdeep hh' himm' hx, ⟨he.os, he.tape, he.output, he.size, fun k hk => ?_, fun _ h => h, fun _ _ => GB.step.refl _, rfl, rfl, fun k hk => he.foreign k (.inl hk)⟩, fun b y k hy hk => he.foreign k (.inr ⟨b, y, hy, hk⟩)⟩
  obtain ⟨h1, h2⟩ := he.keeps k ((himm k).1 hk)
  exact ⟨⟨h1.1, hk.2.1, hk.2.2⟩, h2⟩
theorem PC.of {f : FuncId} {args : List V} {v : V} (hd : refsLtL 0 args = true) (h : WF P GL f args [] (fun r H' => deepV H' r = some v)) : PC P GL f args v := PC.ofG hd h fun _ _ _ _ _ _ h1 h2 h3 h4 => deepV_ok h2 h3 h1 h4
theorem WF.ofPC {f : FuncId} {args : List V} {v : V} {H : Heap} {Q : V → Heap → Prop} (h : PC P GL f args v) (hq : Q v H) : WF P GL f args H Q := by
  refine ⟨h.1, fun g w vs hvs hh hg => (h.2 g w vs hvs (fun k hk => (hh.fo k hk).1) (RV.owns hh) hg).mono ?_⟩
  rintro e w' ⟨x, rfl, hx, he, hown⟩
  exact ⟨x, v, g, H, rfl, hq, hx, hh.ext he hown, he⟩
end
end Fw

/-
  Running code of the abstract machine, for what is known whole; and that the model does the same.
-/
namespace Fw
open Go
abbrev CallF := FuncId → List V → Heap → Option (V × Heap)
abbrev PCallF := FuncId → List V → Option V
def asData (own : List Nat) (GL : GLT) (tm : List (Nat × V)) (o : IOper) : Option V :=
  match o.op with
  | .mkSlice _ _ _ _ => bif inO o.dst own then none else effF (evo GL tm) o.op
  | _ => none
def runO (own : List Nat) (GL : GLT) (call : CallF) : List IOper → St → Option St
  | [], σ => some σ
  | o :: l, σ => match guardB o.guard σ.tm with
    | none => none
    | some false => match σ.put o.dst (.tuple []) σ.hp with
      | some σ' => runO own GL call l σ'
      | none => none
    | some true => match o.op with
      | .call f args => match call f (mlist (evo GL σ.tm) args) σ.hp with
        | some (v, H') => match σ.put o.dst v H' with
          | some σ' => runO own GL call l σ'
          | none => none
        | none => none
      | .callv x args => match evo GL σ.tm x with
        | .func f first cap => match call f (first ++ mlist (evo GL σ.tm) args ++ cap) σ.hp with
          | some (v, H') => match σ.put o.dst v H' with
            | some σ' => runO own GL call l σ'
            | none => none
          | none => none
        | _ => none
      | op => match asData own GL σ.tm o with
        | some v => match σ.put o.dst v σ.hp with
          | some σ' => runO own GL call l σ'
          | none => none
        | none => match eff (evo GL σ.tm) σ.hp σ.hp.length op with
          | some (v, wr) => match σ.put o.dst v (happ σ.hp wr) with
            | some σ' => runO own GL call l σ'
            | none => none
          | none => none
def runQ (GL : GLT) (pcall : PCallF) (base : Nat) : Nat → List IOper → St → Option (List (((V × Wr) × List Nat) × Option V))
  | _, [], _ => some []
  | i, o :: l, σ =>
    let cv : Option V := match callE (evo GL σ.tm) o.op with
      | some (f, args) => pcall f args
      | none => effF (evo GL σ.tm) o.op
    match oneD GL σ.tm σ.hp (base + i) o cv with
    | none => none
    | some r => match runQ GL pcall base (i + 1) l (σ.putT o.dst r.1 (happ σ.hp r.2)) with
      | none => none
      | some rs => some (((r, rds (evo GL σ.tm) o.op), cv) :: rs)
def runDraw (GL : GLT) (pcall : PCallF) (l : List IOper) (σ : St) : Option St :=
  match runQ GL pcall σ.hp.length 0 l (padSt σ l.length) with
  | none => none
  | some qs =>
    let rs := qs.map (·.1)
    bif drawOk l rs && dstOk σ.n l && slotOk (σ.hp.length + l.length) rs then
      some (foldK (fun _ => true) 0 l rs (padSt σ l.length))
    else none
def tailOk (l : List IOper) (ot : IOper) : Bool := match ot.guard with
  | some _ => false
  | none => ot.after.all (fun e => Nat.blt e l.length) && (List.range l.length).all (fun j => ot.after.any fun e => Nat.beq j e || Nat.testBit ((reaches 0 [] l).getD e 0) j)
def runTail (GL : GLT) (call : CallF) (pcall : PCallF) (l : List IOper) (σ : St) : Option St :=
  match l.getLast? with
  | none => none
  | some ot => match ot.op with
    | .call f args => match tailOk l.dropLast ot with
      | false => none
      | true => match runDraw GL pcall l.dropLast σ with
        | none => none
        | some σ1 => match call f (mlist (evo GL σ1.tm) args) σ1.hp with
          | none => none
          | some (v, H') => σ1.put ot.dst v H'
    | _ => none
def runDrawT (GL : GLT) (call : CallF) (pcall : PCallF) (l : List IOper) (σ : St) : Option St :=
  match runDraw GL pcall l σ with
  | some σ' => some σ'
  | none => runTail GL call pcall l σ
def loopN (step : St → Option (Ex × St)) : Nat → St → Option (Ex × St)
  | 0, _ => none
  | n + 1, σ => match step σ with
    | some (.normal, σ') => loopN step n σ'
    | r => r
def runC (own : List Nat) (GL : GLT) (call : CallF) (pcall : PCallF) (n : Nat) : IR → St → Option (Ex × St)
  | .skip, σ => some (.normal, σ)
  | .region l, σ => match runO own GL call l σ with
    | some σ' => some (.normal, σ')
    | none => none
  | .draw l, σ => match runDrawT GL call pcall l σ with
    | some σ' => some (.normal, σ')
    | none => none
  | .seq a b, σ => match runC own GL call pcall n a σ with
    | some (.normal, σ') => runC own GL call pcall n b σ'
    | r => r
  | .cond c a b, σ => match evo GL σ.tm c with
    | .d (.bool true) => runC own GL call pcall n a σ
    | .d (.bool false) => runC own GL call pcall n b σ
    | _ => none
  | .block id b, σ => match runC own GL call pcall n b σ with
    | some (.exit i, σ') => if i = id then some (.normal, σ') else some (.exit i, σ')
    | r => r
  | .loop b, σ => loopN (runC own GL call pcall n b) n σ
  | .exit id, σ => some (.exit id, σ)
  | .ret, σ => some (.ret, σ)
  | .rangef _ _ _ _, _ => none
def cutRes (n : Nat) (v : V) (H : Heap) : V × Heap :=
  bif refsLt n v && heapLt n (H.take n) then (v, H.take n) else (v, H)
def yldId : FuncId := 1000000000000
def callG (call : CallF) : CallF := fun f args H => bif Nat.beq f yldId then none else call f args H
def pcallOf (prim : PCallF) (raw : CallF) : PCallF := fun f args =>
  match prim f args with
  | some v => some v
  | none => bif refsLtL 0 args then (match callG raw f args [] with
    | some (r, H) => deepV H r
    | none => none) else none
def callOf0 (rf : FuncId → Bool) (prim : PCallF) (raw : CallF) : CallF := fun f args H =>
  bif Nat.beq f yldId then raw f args H else match (bif rf f then none else pcallOf prim raw f args) with
  | some v => some (v, H)
  | none => match raw f args H with
    | some (v, H') => some (cutRes H.length v H')
    | none => none
abbrev Hook := PCallF → CallF
def callOf (rf : FuncId → Bool) (hook : Hook) (prim : PCallF) (raw : CallF) : CallF := fun f args H =>
  bif Nat.beq f yldId then raw f args H else match hook (pcallOf prim raw) f args H with
  | some r => some r
  | none => callOf0 rf prim raw f args H
section
variable {P : Program} {GL : GLT}
def CallWF (P : Program) (GL : GLT) (call : CallF) : Prop := ∀ f args H v H', call f args H = some (v, H') → WF P GL f args H (fun r h => r = v ∧ h = H')
structure CallOk (P : Program) (GL : GLT) (call : CallF) : Prop where
  fn : ∀ f args H v H', Nat.beq f yldId = false → call f args H = some (v, H') → WF P GL f args H (fun r h => r = v ∧ h = H')
  yl : ∀ args H v H', call yldId args H = some (v, H') → ∃ b as, args = .yld b :: as ∧ (∃ n tm ps ca cb st, hget H b = some (.loop n tm ps ca cb st)) ∧ WY P GL b as H (fun r h => r = v ∧ h = H')
theorem CallOk.g {call : CallF} (hc : CallOk P GL call) : CallWF P GL (callG call) := by
  intro f args H v H' h
  unfold callG at h
  cases hb : Nat.beq f yldId with
  | true => rw [hb] at h; cases h
  | false => rw [hb] at h; exact hc.fn _ _ _ _ _ hb h
def PCallOk (P : Program) (GL : GLT) (pcall : PCallF) : Prop := ∀ f args v, pcall f args = some v → PC P GL f args v
theorem runO_ok {own : List Nat} {call : CallF} (hc : CallWF P GL call) : ∀ {l : List IOper} {σ σ' : St} {Q : St → Prop}, runO own GL call l σ = some σ' → Q σ' → WO P GL l σ Q
  | [], σ, σ', Q, h, hq => by
    simp only [runO, Option.some.injEq] at h; subst h
    exact WO.nil hq
  | o :: l, σ, σ', Q, h, hq => by
    simp only [runO] at h
    split at h
    · cases h
    · rename_i hg
      split at h
      · rename_i σ1 h1
        exact WO.skip hg h1 (runO_ok hc h hq)
      · cases h
    · rename_i hg
      split at h
      · rename_i f args ho
        split at h
        · rename_i v H' hcall
          split at h
          · rename_i σ1 h1
            refine WO.call ho hg ((hc _ _ _ _ _ hcall).mono ?_)
            rintro r hp ⟨rfl, rfl⟩
            exact ⟨σ1, h1, runO_ok hc h hq⟩
          · cases h
        · cases h
      · rename_i x args ho
        split at h
        · rename_i f first cap hx
          split at h
          · rename_i v H' hcall
            split at h
            · rename_i σ1 h1
              refine WO.callv ho hx hg ((hc _ _ _ _ _ hcall).mono ?_)
              rintro r hp ⟨rfl, rfl⟩
              exact ⟨σ1, h1, runO_ok hc h hq⟩
            · cases h
          · cases h
        · cases h
      · split at h
        · rename_i v he
          split at h
          · rename_i σ1 h1
            refine WO.effF hg ?_ h1 (runO_ok hc h hq)
            unfold asData at he
            grind
          · cases h
        · split at h
          · rename_i v wr he
            split at h
            · rename_i σ1 h1
              exact WO.eff hg he h1 (runO_ok hc h hq)
            · cases h
          · cases h
theorem runQ_ok {pcall : PCallF} {base : Nat} : ∀ {l : List IOper} {i : Nat} {σ : St} {qs : List (((V × Wr) × List Nat) × Option V)}, runQ GL pcall base i l σ = some qs →
    ∀ qc : Nat → Option CV, (∀ j q, qs[j]? = some q → qc (i + j) = q.2.map .v) → runD GL base qc i l σ = some (qs.map (·.1)) ∧ qs.length = l.length ∧
      ∀ k o q, l[k]? = some o → qs[k]? = some q → ∀ f args, callE (evo GL (foldK (fun j => decide (j < i + k)) i l (qs.map (·.1)) σ).tm) o.op = some (f, args) → q.2 = pcall f args ∧
        (guardB o.guard (foldK (fun j => decide (j < i + k)) i l (qs.map (·.1)) σ).tm = some true → q.2 = some q.1.1.1 ∧ q.1.1.2 = none)
  | [], i, σ, qs, h, qc, hq => by
    simp only [runQ, Option.some.injEq] at h; subst h
    exact ⟨rfl, rfl, by simp⟩
  | o :: l, i, σ, qs, h, qc, hq => by
    simp only [runQ] at h
    split at h
    · cases h
    · rename_i r hr
      split at h
      · cases h
      · rename_i rs hrs
        simp only [Option.some.injEq] at h; subst h
        have h0 := hq 0 _ rfl
        simp only [Nat.add_zero] at h0
        obtain ⟨k1, k2, k3⟩ := runQ_ok hrs qc (fun j q hj => by have := hq (j + 1) q (by grind); grind)
        have hnone : ∀ (l : List IOper) (rs : List ((V × Wr) × List Nat)) (k : Nat) (σ : St), i ≤ k → foldK (fun j => decide (j < i)) k l rs σ = σ := by
          intro l rs k σ hk
          rw [foldK_congr (K' := fun _ => false) (fun j _ => by simp; omega)]
          have : ∀ (l : List IOper) (rs : List ((V × Wr) × List Nat)) (i : Nat) (s : St), foldK (fun _ => false) i l rs s = s := by
            intro l
            induction l with
            | nil => grind[foldK]
            | cons o l ih =>
              intro rs i s
              cases rs with
              | nil => simp [foldK]
              | cons r rs => simp_all[foldK,cond_false]
          grind
        refine ⟨?_, by simp [k2], fun k o' q ho' hq' f args hcl => ?_⟩
        · simp only [runD, h0, oneX_v, hr, k1, List.map_cons]
        · cases k with
          | zero =>
            simp at ho' hq'; subst ho'; subst hq'
            simp only [Nat.add_zero, List.map_cons] at hcl ⊢
            rw [hnone _ _ _ _ (Nat.le_refl _)] at hcl ⊢
            refine ⟨by simp only [hcl], fun hg => ?_⟩
            simp only [hcl] at hr ⊢
            unfold oneD at hr
            rw [hg] at hr
            simp only [hcl] at hr
            cases hp : pcall f args<;>grind
          | succ k =>
            simp at ho' hq'
            have e : i + (k + 1) = i + 1 + k := by omega
            simp only [List.map_cons, foldK, e, show decide (i < i + 1 + k) = true by simp; omega, cond_true] at hcl ⊢
            exact k3 k o' q ho' hq' f args hcl
theorem runDraw_ok {pcall : PCallF} (hm : P.follows .mixedOrders = true) (hp : PCallOk P GL pcall) {l : List IOper} {σ σ' : St} {Q : Ex → St → Prop} (h : runDraw GL pcall l σ = some σ') (hq : Q .normal σ') : WC P GL (.draw l) σ Q := by
  unfold runDraw at h
  split at h
  · cases h
  · rename_i qs hqs
    simp only at h
    cases hb : (drawOk l (qs.map (·.1)) && dstOk σ.n l && slotOk (σ.hp.length + l.length) (qs.map (·.1))) with
    | false => grind
    | true =>
      rw [hb] at h
      simp at h; subst h
      simp at hb
      obtain ⟨k1, k2, k3⟩ := runQ_ok hqs (fun i => ((qs[i]?).bind (·.2)).map .v) (fun j q hj => by simp [hj])
      refine WC.draw hm k1 hb.1.1 hb.1.2 hb.2 (fun i o r ho hr f args hcl hg => ?_) hq
      simp only [List.getElem?_map, Option.map_eq_some_iff] at hr
      obtain ⟨q, hq1, rfl⟩ := hr
      obtain ⟨e1, e2⟩ := k3 i o q ho hq1 f args (by rw [Nat.zero_add]; exact hcl)
      simp at e1 e2
      have e3 := (e2 hg).1
      rw [e1] at e3
      rw [show q.1.1 = (q.1.1.1, none) from Prod.ext rfl (e2 hg).2]
      exact (hp _ _ _ e3).callD.toR _
theorem last_eq {α : Type} : ∀ {l : List α} {a : α}, l.getLast? = some a → l = l.dropLast ++ [a]
  | [], a, h => by simp at h
  | [x], a, h => by grind
  | x :: y :: l, a, h => by
    have : (y :: l).getLast? = some a := by grind
    have := last_eq this
    grind
theorem runTail_ok {call : CallF} {pcall : PCallF} (hm : P.follows .mixedOrders = true) (hc : CallWF P GL call) (hp : PCallOk P GL pcall) {l : List IOper} {σ σ' : St} {Q : Ex → St → Prop} (h : runTail GL call pcall l σ = some σ') (hq : Q .normal σ') : WC P GL (.draw l) σ Q := by
  unfold runTail at h
  split at h
  · cases h
  · rename_i ot hlast
    split at h
    · rename_i ft argst hot
      split at h
      · cases h
      · rename_i htail
        split at h
        · cases h
        · rename_i σ1 hdr
          split at h
          · cases h
          · rename_i v H' hcall
            have hl : l = l.dropLast ++ [ot] := last_eq hlast
            rw [hl]
            unfold tailOk at htail
            split at htail
            · cases htail
            · rename_i hotg
              simp only [Bool.and_eq_true, List.all_eq_true] at htail
              obtain ⟨t1, t2⟩ := htail
              unfold runDraw at hdr
              split at hdr
              · cases hdr
              · rename_i qs hqs
                simp only at hdr
                cases hb : (drawOk l.dropLast (qs.map (·.1)) && dstOk σ.n l.dropLast && slotOk (σ.hp.length + l.dropLast.length) (qs.map (·.1))) with
                | false => grind
                | true =>
                  rw [hb] at hdr
                  simp only [cond_true, Option.some.injEq] at hdr; subst hdr
                  simp only [Bool.and_eq_true] at hb
                  obtain ⟨k1, k2, k3⟩ := runQ_ok hqs (fun i => ((qs[i]?).bind (·.2)).map .v) (fun j q hj => by simp [hj])
                  refine WC.drawTail hm k1 hb.1.1 hb.1.2 hb.2 (fun i o r ho hr f args hcl hg => ?_) hot hotg (fun e he => by grind[Nat.blt_eq]) (fun j hj => ?_) ((hc _ _ _ _ _ hcall).mono ?_)
                  · simp only [List.getElem?_map, Option.map_eq_some_iff] at hr
                    obtain ⟨q, hq1, rfl⟩ := hr
                    obtain ⟨e1, e2⟩ := k3 i o q ho hq1 f args (by rw [Nat.zero_add]; exact hcl)
                    simp only [Nat.zero_add] at e1 e2
                    have e3 := (e2 hg).1
                    rw [e1] at e3
                    rw [show q.1.1 = (q.1.1.1, none) from Prod.ext rfl (e2 hg).2]
                    exact (hp _ _ _ e3).callD.toR _
                  · have := t2 j (List.mem_range.2 hj)
                    rw [List.any_eq_true] at this
                    obtain ⟨e, he, h2⟩ := this
                    refine ⟨e, he, ?_⟩
                    rw [Bool.or_eq_true] at h2
                    rcases h2 with h2 | h2
                    · exact .inl (Nat.eq_of_beq_eq_true h2)
                    grind
                  grind
    · cases h
theorem runDrawT_ok {call : CallF} {pcall : PCallF} (hm : P.follows .mixedOrders = true) (hc : CallWF P GL call) (hp : PCallOk P GL pcall) {l : List IOper} {σ σ' : St} {Q : Ex → St → Prop} (h : runDrawT GL call pcall l σ = some σ') (hq : Q .normal σ') : WC P GL (.draw l) σ Q := by
  unfold runDrawT at h
  split at h
  · rename_i s1 h1
    simp at h; subst h
    exact runDraw_ok hm hp h1 hq
  · exact runTail_ok hm hc hp h hq
theorem loopN_ok {b : IR} {step : St → Option (Ex × St)} (hs : ∀ σ e σ', step σ = some (e, σ') → WC P GL b σ (fun e' s => e' = e ∧ s = σ')) {n : Nat} {σ : St} {e : Ex} {σ' : St} (h : loopN step n σ = some (e, σ')) :
    WC P GL (.loop b) σ (fun e' s => e' = e ∧ s = σ') := by
  refine WC.loop (fun m s => loopN step m s = some (e, σ')) (fun m s hm => ?_) h
  cases m with
  | zero => grind[loopN]
  | succ m =>
    simp only [loopN] at hm
    split at hm
    · rename_i s1 h1
      refine (hs _ _ _ h1).mono ?_
      grind
    · rename_i r hne
      refine (hs _ _ _ hm).mono ?_
      simp_all
theorem runC_ok {own : List Nat} {call : CallF} {pcall : PCallF} (hm : P.follows .mixedOrders = true) (hc : CallWF P GL call) (hp : PCallOk P GL pcall) {n : Nat} : ∀ {c : IR} {σ : St} {e : Ex} {σ' : St}, runC own GL call pcall n c σ = some (e, σ') → WC P GL c σ (fun e' s => e' = e ∧ s = σ')
  | .skip, σ, e, σ', h => by simp only [runC, Option.some.injEq, Prod.mk.injEq] at h; obtain ⟨rfl, rfl⟩ := h; exact WC.skip ⟨rfl, rfl⟩
  | .region l, σ, e, σ', h => by
    simp only [runC] at h
    split at h
    · rename_i s1 h1
      simp at h; obtain ⟨rfl, rfl⟩ := h
      exact WC.region (runO_ok hc h1 ⟨rfl, rfl⟩)
    · cases h
  | .draw l, σ, e, σ', h => by
    simp only [runC] at h
    split at h
    · rename_i s1 h1
      simp at h; obtain ⟨rfl, rfl⟩ := h
      exact runDrawT_ok hm hc hp h1 ⟨rfl, rfl⟩
    · cases h
  | .seq a b, σ, e, σ', h => by
    simp only [runC] at h
    split at h
    · rename_i s1 h1
      refine WC.seq ((runC_ok hm hc hp h1).mono ?_)
      rintro e' s' ⟨rfl, rfl⟩
      exact runC_ok hm hc hp h
    · rename_i r hne
      refine WC.seq ((runC_ok hm hc hp h).mono ?_)
      simp_all
  | .cond c a b, σ, e, σ', h => by
    simp only [runC] at h
    split at h
    · rename_i ht; exact WC.cond ht (runC_ok hm hc hp h)
    · rename_i ht; exact WC.cond ht (runC_ok hm hc hp h)
    · cases h
  | .block id b, σ, e, σ', h => by
    simp only [runC] at h
    split at h
    · rename_i i s1 h1
      refine WC.block ((runC_ok hm hc hp h1).mono ?_)
      grind
    · rename_i r hne
      refine WC.block ((runC_ok hm hc hp h).mono ?_)
      simp_all
  | .loop b, σ, e, σ', h => by
    simp only [runC] at h
    exact loopN_ok (fun s e' s' hs => runC_ok hm hc hp hs) h
  | .exit id, σ, e, σ', h => by simp only [runC, Option.some.injEq, Prod.mk.injEq] at h; obtain ⟨rfl, rfl⟩ := h; exact WC.exit ⟨rfl, rfl⟩
  | .ret, σ, e, σ', h => by simp only [runC, Option.some.injEq, Prod.mk.injEq] at h; obtain ⟨rfl, rfl⟩ := h; exact WC.ret ⟨rfl, rfl⟩
  | .rangef _ _ _ _, σ, e, σ', h => by simp only [runC] at h; cases h
theorem pcallOf_ok {prim : PCallF} {raw : CallF} (hp : PCallOk P GL prim) (hr : CallOk P GL raw) : PCallOk P GL (pcallOf prim raw) := by
  intro f args v h
  unfold pcallOf at h
  split at h
  · rename_i u hu
    simp at h; subst h
    exact hp _ _ _ hu
  · cases hb : refsLtL 0 args with
    | false => grind
    | true =>
      rw [hb] at h
      simp at h
      split at h
      · rename_i r H hraw
        refine PC.of hb ((hr.g _ _ _ _ _ hraw).mono ?_)
        grind
      · cases h
theorem callOf0_ok {rf : FuncId → Bool} {prim : PCallF} {raw : CallF} (hp : PCallOk P GL prim) (hr : CallOk P GL raw) : CallOk P GL (callOf0 rf prim raw) := by
  refine ⟨fun f args H v H' hf h => ?_, fun args H v H' h => hr.yl _ _ _ _ h⟩
  unfold callOf0 at h
  rw [hf, cond_false] at h
  split at h
  · rename_i u hu
    simp at h
    obtain ⟨rfl, rfl⟩ := h
    cases hrf : rf f with
    | true => grind
    | false => rw [hrf] at hu; exact WF.ofPC (pcallOf_ok hp hr _ _ _ hu) ⟨rfl, rfl⟩
  · split at h
    · rename_i u H1 hraw
      simp at h
      refine WF.cut ((hr.fn _ _ _ _ _ hf hraw).mono ?_)
      rintro r' H2 ⟨rfl, rfl⟩
      unfold cutRes at h
      grind
    · cases h
def HookOk (P : Program) (GL : GLT) (hook : Hook) : Prop := ∀ pcall, PCallOk P GL pcall → CallWF P GL (hook pcall)
theorem callOf_ok {rf : FuncId → Bool} {hook : Hook} {prim : PCallF} {raw : CallF} (hh : HookOk P GL hook) (hp : PCallOk P GL prim) (hr : CallOk P GL raw) : CallOk P GL (callOf rf hook prim raw) := by
  refine ⟨fun f args H v H' hf h => ?_, fun args H v H' h => hr.yl _ _ _ _ h⟩
  unfold callOf at h
  rw [hf, cond_false] at h
  split at h
  · rename_i r hr'
    simp at h; subst h
    exact hh _ (pcallOf_ok hp hr) _ _ _ _ _ hr'
  · exact (callOf0_ok hp hr).fn _ _ _ _ _ hf h
end
end Fw

/-
  A call that touches nothing, handed memory of an own box to read: the answer is bools, numbers and strings.
-/
namespace Fw
open Go
def scal1 : V → Bool
  | .d (.bool _) => true
  | .d (.int _ _) => true
  | .d (.str _) => true
  | .nili => true
  | .someIface => true
  | _ => false
def scalV : V → Bool
  | .tuple vs => vs.all scal1
  | v => scal1 v
theorem scal1_rv {g g' : G} {w w' : World} {u : V} {x : Value} (h : scal1 u = true) (hx : RV g w u x) : RV g' w' u x := by
  unfold scal1 at h
  split at h
  · simpa only [RV, Rd] using hx
  · simpa only [RV, Rd] using hx
  · simpa only [RV, Rd] using hx
  · simpa only [RV] using hx
  · simpa only [RV] using hx
  · cases h
theorem scals_rv {g g' : G} {w w' : World} : ∀ {us : List V} {xs : List Value}, us.all scal1 = true → RVs g w us xs → RVs g' w' us xs
  | [], [], _, _ => by simp only [RVs]
  | [], _ :: _, _, h => by simp only [RVs] at h
  | _ :: _, [], _, h => by simp only [RVs] at h
  | u :: us, x :: xs, ha, h => by
    simp only [List.all_cons, Bool.and_eq_true] at ha
    simp only [RVs] at h ⊢
    exact ⟨scal1_rv ha.1 h.1, scals_rv ha.2 h.2⟩
theorem scalV_rv {g g' : G} {w w' : World} {u : V} {x : Value} (h : scalV u = true) (hx : RV g w u x) : RV g' w' u x := by
  unfold scalV at h
  split at h
  · simp only [RV] at hx ⊢
    obtain ⟨y, rfl, hy⟩ := hx
    exact ⟨y, rfl, scals_rv h hy⟩
  · exact scal1_rv h hx
section
variable {P : Program} {GL : GLT}
theorem WF.borrow {f : FuncId} {args dargs : List V} {v : V} {H : Heap} {Q : V → Heap → Prop} (hd : mapO (deepA H) args = some dargs) (h : PC P GL f dargs v) (hs : scalV v = true) (hq : Q v H) : WF P GL f args H Q := by
  refine ⟨h.1, fun g w vs hvs hh hg => ?_⟩
  let g0 : G := ⟨g.dom, fun _ => none, g.fo, g.base⟩
  have him : ∀ k, ours g w k → imm g0 w k := fun k hk => ⟨hk.1, hk.2, fun b x hx => by cases hx⟩
  have hdl := mapO_length hd
  have hvl := hvs.length
  have hvs' : RVs g0 w dargs vs.toList := RVs.of_get (by omega) fun i u y hu hy => by
    have hi : i < args.length := by have := (List.getElem?_eq_some_iff.1 hu).1; omega
    obtain ⟨u2, k1, k2⟩ := mapO_get i _ hd (List.getElem?_eq_getElem hi)
    rw [hu] at k1; simp only [Option.some.injEq] at k1; subst k1
    obtain ⟨z, k3, k4⟩ := hvs.get i (List.getElem?_eq_getElem hi)
    rw [hy] at k3; simp only [Option.some.injEq] at k3; subst k3
    exact (deepA_ok hh k2 k4).rv him
  have hG : Globs GL g0 w := ⟨fun n cs hn => ⟨him _ (imm_ours (hg.rd n cs hn).1), RdC.keeps (show Keeps w w (imm g w) (imm g0 w) from Keeps.of fun k hk => him k (imm_ours hk)) (hg.rd n cs hn).1 _ _ (hg.rd n cs hn).2⟩, fun k hk => ⟨him _ (imm_ours (hg.w0 k hk).1), (hg.w0 k hk).2⟩⟩
  refine (h.2 g0 w vs hvs' (fun k hk => (hh.fo k hk).1) (fun b x k hx => by cases hx) hG).mono ?_
  rintro e w' ⟨x, rfl, hx, he, -⟩
  have hown : ∀ b y k, g.γ b = some y → y.own = some k → w'.heap[k]? = w.heap[k]? := fun b y k hy hk => (he.keeps k (him k (hh.foreignOwn hy hk))).2
  have hext : Ext g w g w' := ⟨he.os, he.tape, he.output, he.size, fun k hk => ⟨⟨Nat.lt_of_lt_of_le hk.1 he.size, hk.2⟩, (he.keeps k (him k (imm_ours hk))).2⟩, fun _ h => h, fun _ _ => GB.step.refl _, rfl, rfl, he.foreign⟩
  exact ⟨x, v, g, H, rfl, hq, scalV_rv hs hx, hh.ext hext hown, hext⟩
end
end Fw

/-
  Rules for symbolic proofs: a run's answer, a loop over a row of states, a function's body; summaries of callees in a table.
-/
namespace Fw
open Go
section
variable {P : Program} {GL : GLT}
theorem WC.run {own : List Nat} {call : CallF} {pcall : PCallF} (hm : P.follows .mixedOrders = true) (hc : CallWF P GL call) (hp : PCallOk P GL pcall) {n : Nat} {c : IR} {σ : St} {e : Ex} {σ' : St} {Q : Ex → St → Prop}
    (h : runC own GL call pcall n c σ = some (e, σ')) (hq : Q e σ') : WC P GL c σ Q :=
  (runC_ok hm hc hp h).mono fun _ _ ⟨h1, h2⟩ => by subst h1; subst h2; exact hq
theorem WC.pre {c : IR} {σ σ' : St} {Q : Ex → St → Prop} (keep : List Nat) (hc : cleanSt keep σ.hp.length σ = some σ') (h : WC P GL c σ' Q) : WC P GL c σ Q := by
  intro code hcode ro hro g w a hr
  have hdom : ∀ b, g.dom b → b < σ.hp.length := fun b hb => hr.heap.dom b hb
  have he : Ext g w (g.cut σ.hp.length) w := (Ext.refl g w).cut hdom
  exact wpIn_mono (h code hcode ro hro _ w a (hr.clean hc)) (postC.ext he)
theorem PC.body {f : FuncId} {fn : IFn} {args : List V} {v : V} (hf : compFn P f = some fn) (hca : callable P f = true) (hn : args.length ≤ fn.ntmps) (hd : refsLtL 0 args = true)
    (h : WC P GL fn.body ⟨fn.ntmps, mkTm 0 args, []⟩ (fun e σ => match e with | .exit _ => False | _ => (resV fn.res σ).bind (deepV σ.hp) = some v)) : PC P GL f args v :=
  PC.of hd (WF.body hf hca hn (h.mono fun e s hq => by
    have key : ∀ {r : Option V}, r.bind (deepV s.hp) = some v → ∃ x, r = some x ∧ deepV s.hp x = some v := by
      intro r hr
      cases r with
      | none => simp at hr
      | some x => exact ⟨x, rfl, by simpa using hr⟩
    cases e with
    | exit i => exact hq
    | normal => exact key hq
    | ret => exact key hq))
abbrev Sums := List (FuncId × (List V → Option V))
def pr : Sums → PCallF
  | [], _, _ => none
  | (k, s) :: l, f, args => bif Nat.beq k f then s args else pr l f args
theorem pr_ok {l : Sums} (h : ∀ p ∈ l, ∀ args v, p.2 args = some v → PC P GL p.1 args v) : PCallOk P GL (pr l) := by
  induction l with
  | nil => intro f args v hv; simp [pr] at hv
  | cons p l ih =>
    intro f args v hv
    obtain ⟨k, s⟩ := p
    simp only [pr] at hv
    cases hb : Nat.beq k f with
    | true =>
      rw [hb] at hv
      have := Nat.eq_of_beq_eq_true hb; subst this
      exact h _ List.mem_cons_self _ _ hv
    | false =>
      rw [hb] at hv
      exact ih (fun q hq => h q (List.mem_cons_of_mem _ hq)) _ _ _ hv
end
end Fw
namespace Fw
open Go
end Fw
