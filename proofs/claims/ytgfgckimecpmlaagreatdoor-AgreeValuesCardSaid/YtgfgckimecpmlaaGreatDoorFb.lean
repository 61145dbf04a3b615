/-
 Operations, further: fields, indexes, lengths, append, maps, functions.
-/
import Derived.Test.YtgfgckimecpmlaaGreatDoorFa
import Derived.Laws.StructEq

set_option linter.unusedSimpArgs false
namespace Fw
open Go
section
variable {P : Program} {a : Act} {o : Oper} {g : G} {w : World} {ρ : Opd → V} {H : Heap} {ns : Nat}
theorem run_part {t : TypeId} {n : Nat} {b : Bool} {cs : Array Value} {us : List V} {v : V} {off : Nat} (hn : szOf P t = some n) (hb : aggOf P t = some b) (hl : off + n ≤ us.length) (hv : RVs g w us cs.toList) (hm : mkV b ((us.drop off).take n) = some v) (h1 : b = true ∨ n = 1) :
  ∃ x, (part t cs off).run P w = .ok x w ∧ RV g w v x := by
 have hvs := (hv.drop off).take n
 obtain ⟨k1, k2⟩ := mkV_RV hm hvs
 have hlen := hv.length
 simp at hlen
 cases b with
 | true =>
  refine ⟨_, ?_, k1⟩
  simp only [part, Sem.run_bind, run_agg hb, Result.andThen_ok, if_true, run_size hn, Sem.run_pure, Sem.run_map]
  congr 2
  apply Array.ext'
  simp only [Array.toList_extract, List.extract_eq_take_drop]
  rw [show off + n - off = n by omega]
 | false =>
  have hn1 : n = 1 := by simpa using h1
  subst hn1
  have : off < cs.size := by omega
  refine ⟨cs[off], ?_, ?_⟩
  ·simp [part, run_agg hb, Array.getElem?_eq_getElem this]
  ·have e : (cs.toList.drop off).take 1 = [cs[off]] := by
    rw [List.drop_eq_getElem_cons (by simpa using this)]
    simp
   rw [e] at k1
   simpa using k1
theorem g_fld {t : TypeId} {x : Operand} {x' : Opd} {f n : Nat} {b : Bool} {fs : Array Field} {fd : Field} {cs : List V} {v : V} (ho : o.op = .field t x f) (ht : P.underlying t = some (.struct fs)) (hf : fs[f]? = some fd) (hn : szOf P fd.type = some n) (hb : aggOf P fd.type = some b) (h1 : b = true ∨ n = 1)
  (hx : compOpd x = some x') (e : ρ x' = .agg cs) (hl : fd.offset + n ≤ cs.length) (hm : mkV b ((cs.drop fd.offset).take n) = some v) (ev : Ev ρ a g w) (hh : HeapOK g w H) : Good P a o g w ns v H := by
 have hv := ev _ _ hx
 rw [e] at hv
 simp only [RV] at hv
 obtain ⟨z, h2, h3⟩ := hv
 obtain ⟨y, h4, h5⟩ := run_part (P := P) hn hb hl h3 hm h1
 exact Good.val hh (by simp [execOp, ho, h2, Instr.field, run_underlying ht, hf, asAgg, h4]) h5
theorem g_faddr {t : TypeId} {x : Operand} {x' : Opd} {f off n : Nat} {fs : Array Field} {v : V} (ho : o.op = .fieldAddr t x f) (ht : P.underlying t = some (.struct fs)) (hf : fieldPlaceOf P fs f = some (off, n)) (h0 : 0 < n)
  (hx : compOpd x = some x') (h : eff ρ H ns (.faddr off n x') = some (v, none)) (ev : Ev ρ a g w) (hh : HeapOK g w H) : Good P a o g w ns v H := by
 have hv := ev _ _ hx
 simp only [fieldPlaceOf, Option.bind_eq_some_iff, Option.map_eq_some_iff, Prod.mk.injEq] at hf
 obtain ⟨fd, hfd, s, hs, rfl, rfl⟩ := hf
 have hsz := run_size (P := P) hs w
 have hne : s ≠ 0 := by omega
 have hrun : ∀ blk off, a.eval x = .pointer (some ⟨blk, off, none⟩) → (execOp a.eval o).run P w = .ok (.value (.pointer (some ⟨blk, off + fd.offset, none⟩))) w := by
  intro blk off he
  simp [execOp, ho, he, Instr.fieldAt, run_underlying ht, hfd, Instr.sureAddr, fieldPlace, hsz, hne, Addr.add_mk]
 simp only [eff] at h
 split at h <;> simp only [Option.some.injEq, Prod.mk.injEq, reduceCtorEq] at h
 ·rename_i b hb q e
  obtain ⟨rfl, _⟩ := h
  rw [e] at hv
  simp only [RV] at hv
  obtain ⟨⟨⟨blk, off, h1⟩, hd⟩, h2⟩ := hv
  refine Good.val hh (hrun _ _ h1) ?_
  simp only [RV]
  refine ⟨⟨⟨_, _, rfl⟩, hd⟩, fun y hy => ?_⟩
  obtain ⟨blk', cp, cur, rfl, h3, h4⟩ := h2 y hy
  refine ⟨blk', cp, cur, rfl, fun ec => ?_, h4⟩
  have := h3 ec
  rw [h1] at this
  simp only [Value.pointer.injEq, Option.some.injEq, Addr.mk.injEq, and_true] at this
  rw [this.1, this.2]
 ·rename_i cs e
  obtain ⟨rfl, _⟩ := h
  rw [e] at hv
  simp only [RV] at hv
  obtain ⟨blk, off, h1, h2, h3⟩ := hv
  refine Good.val hh (hrun _ _ h1) ?_
  simp only [RV]
  refine ⟨_, _, rfl, fun hn => h2 (by rintro rfl; simp at hn), ?_⟩
  clear h1 hrun h2 e
  suffices h : ∀ (k : Nat) (ds : List D) (q : Nat), RdC w (imm g w) blk q ds → RdC w (imm g w) blk (q + k) (ds.drop k) ∧ RdC w (imm g w) blk q (ds.take k) from
   (h s _ _ (h fd.offset _ _ h3).1).2
  intro k ds
  induction ds generalizing k with
  | nil => intro q _; simp [RdC]
  | cons d ds ih =>
   intro q hq
   cases k with
   | zero => simp only [List.drop_zero, List.take_zero, RdC, and_true, Nat.add_zero]; simpa only [RdC] using hq
   | succ k =>
    simp only [RdC] at hq
    obtain ⟨h4, h5⟩ := ih k (q + 1) hq.2
    simp only [List.drop_succ_cons, List.take_succ_cons, RdC]
    refine ⟨?_, hq.1, h5⟩
    rw [show q + (k + 1) = q + 1 + k by omega]
    exact h4
theorem RdC.drop {im : Nat → Prop} {blk : Nat} : ∀ {ds : List D} {q : Nat} (k : Nat), RdC w im blk q ds → RdC w im blk (q + k) (ds.drop k)
 | [], _, k, _ => by simp [RdC]
 | d :: ds, q, 0, h => by simpa using h
 | d :: ds, q, k + 1, h => by
  simp only [RdC] at h
  simp only [List.drop_succ_cons]
  rw [show q + (k + 1) = q + 1 + k by omega]
  exact RdC.drop k h.2
theorem g_iaddr {t el : TypeId} {x i : Operand} {x' i' : Opd} {sz : Nat} {v : V} (ho : o.op = .indexAddr t x i) (ht : P.underlying t = some (.slice el)) (hs : szOf P el = some sz) (hx : compOpd x = some x') (hi : compOpd i = some i')
  (h : eff ρ H ns (.iaddr sz x' i') = some (v, none)) (ev : Ev ρ a g w) (hh : HeapOK g w H) : Good P a o g w ns v H := by
 have hv := ev _ _ hx
 simp only [eff] at h
 split at h
 ·cases h
 ·rename_i j ej
  obtain ⟨k, hk⟩ := natOf_ok ej (ev _ _ hi)
  have hrun : ∀ blk off len cap, a.eval x = .slice (some ⟨blk, off, none⟩) len cap → j < len → (execOp a.eval o).run P w = .ok (.value (.pointer (some ⟨blk, off + j * sz, none⟩))) w := by
   intro blk off len cap he hj
   have : ((j : Int) < (len : Int)) := by omega
   simp [execOp, ho, he, Instr.indexAt, hk, asIntOf, run_underlying ht, hj, run_size hs, Addr.add_mk]
  split at h
  ·rename_i es e
   split at h
   ·rename_i d hd
    cases hb : Nat.beq d.length sz with
    | false => rw [hb] at h; cases h
    | true =>
     rw [hb] at h
     simp only [cond_true, Option.some.injEq, Prod.mk.injEq] at h
     obtain ⟨rfl, _⟩ := h
     rw [e] at hv
     simp only [RV, Rd] at hv
     have hj : j < es.length := (List.getElem?_eq_some_iff.1 hd).1
     rcases hv with ⟨rfl, _⟩ | ⟨blk, off, cap, sz', h1, h2, h3, h4⟩
     ·simp at hj
     ·obtain ⟨h5, h6⟩ := RdE.get j h4 hd
      have : sz' = sz := by rw [← h5]; exact Nat.eq_of_beq_eq_true hb
      subst this
      refine Good.val hh (hrun _ _ _ _ h1 hj) ?_
      simp only [RV]
      exact ⟨_, _, rfl, fun _ => h3 (by rintro rfl; simp at hj), h6⟩
   ·cases h
  ·rename_i b hb off len sz' e
   cases hc : (Nat.beq sz sz' && Nat.blt j len && liveB H b hb) with
   | false => rw [hc] at h; cases h
   | true =>
    rw [hc] at h
    simp only [cond_true, Option.some.injEq, Prod.mk.injEq] at h
    obtain ⟨rfl, _⟩ := h
    simp only [Bool.and_eq_true] at hc
    have e1 := Nat.eq_of_beq_eq_true hc.1.1
    subst e1
    have hj : j < len := by have := hc.1.2; rwa [Nat.blt_eq] at this
    rw [e] at hv
    rcases liveB_cases hc.2 hh with ⟨blk, cp, hg⟩ | ⟨rfl, hg⟩
    ·obtain ⟨cap, h1, h2, h3⟩ := RV.slLive hv hg
     refine Good.val hh (hrun _ _ _ _ h1 hj) ?_
     simp only [RV]
     refine ⟨⟨⟨_, _, rfl⟩, RV.dom hv⟩, fun y hy => ?_⟩
     rw [hg] at hy; simp only [Option.some.injEq] at hy; subst hy
     exact ⟨_, _, _, rfl, fun _ => rfl, Nat.le_refl _⟩
    ·obtain ⟨_, rfl, _⟩ := RV.slNil hv hg
     omega
  ·cases h
theorem g_iaddrA {t el : TypeId} {x i : Operand} {x' i' : Opd} {len sz : Nat} {v : V} (ho : o.op = .indexAddr t x i) (ht : P.underlying t = some (.array len el)) (hs : szOf P el = some sz) (hx : compOpd x = some x') (hi : compOpd i = some i')
  (h : eff ρ H ns (.iaddrA len sz x' i') = some (v, none)) (ev : Ev ρ a g w) (hh : HeapOK g w H) : Good P a o g w ns v H := by
 have hv := ev _ _ hx
 simp only [eff] at h
 split at h
 ·cases h
 ·rename_i j ej
  obtain ⟨k, hk⟩ := natOf_ok ej (ev _ _ hi)
  cases hc : Nat.blt j len with
  | false => rw [hc] at h; cases h
  | true =>
   rw [hc] at h
   simp only [cond_true] at h
   have hj : j < len := by rwa [Nat.blt_eq] at hc
   have hrun : ∀ blk off, a.eval x = .pointer (some ⟨blk, off, none⟩) → (execOp a.eval o).run P w = .ok (.value (.pointer (some ⟨blk, off + j * sz, none⟩))) w := by
    intro blk off he
    simp [execOp, ho, he, Instr.indexAt, hk, asIntOf, run_underlying ht, hj, run_size hs, Addr.add_mk, Instr.sureAddr]
   split at h <;> simp only [Option.some.injEq, Prod.mk.injEq, reduceCtorEq] at h
   ·rename_i b hb q e
    obtain ⟨rfl, _⟩ := h
    rw [e] at hv
    simp only [RV] at hv
    obtain ⟨⟨⟨blk, off, h1⟩, hd⟩, h2⟩ := hv
    refine Good.val hh (hrun _ _ h1) ?_
    simp only [RV]
    refine ⟨⟨⟨_, _, rfl⟩, hd⟩, fun y hy => ?_⟩
    obtain ⟨blk', cp, cur, rfl, h3, h4⟩ := h2 y hy
    refine ⟨blk', cp, cur, rfl, fun ec => ?_, h4⟩
    have := h3 ec
    rw [h1] at this
    simp only [Value.pointer.injEq, Option.some.injEq, Addr.mk.injEq, and_true] at this
    rw [this.1, this.2]
   ·rename_i cs e
    obtain ⟨rfl, _⟩ := h
    rw [e] at hv
    simp only [RV] at hv
    obtain ⟨blk, off, h1, h2, h3⟩ := hv
    refine Good.val hh (hrun _ _ h1) ?_
    simp only [RV]
    exact ⟨_, _, rfl, fun hn => h2 (by rintro rfl; simp at hn), RdC.drop _ h3⟩
theorem g_idxS {t : TypeId} {x i : Operand} {x' i' : Opd} {v : V} (ho : o.op = .index t x i) (ht : P.underlying t = some .string) (hx : compOpd x = some x') (hi : compOpd i = some i') (h : eff ρ H ns (.idxS x' i') = some (v, none)) (ev : Ev ρ a g w) (hh : HeapOK g w H) :
  Good P a o g w ns v H := by
 have hv := ev _ _ hx
 simp only [eff] at h
 split at h
 ·cases h
 ·rename_i j ej
  obtain ⟨k, hk⟩ := natOf_ok ej (ev _ _ hi)
  split at h
  ·rename_i s e
   split at h
   ·rename_i b hb
    simp only [Option.some.injEq, Prod.mk.injEq] at h
    obtain ⟨rfl, _⟩ := h
    rw [e] at hv
    obtain ⟨bs, h1, rfl⟩ := RV.str hv
    refine Good.val (x := .int .u8 b.toNat) hh ?_ (RV.mkI _ _)
    have hb2 : bs[j]? = some b := by
     have hlt := (List.getElem?_eq_some_iff.1 hb).1
     have hlt' : j < bs.size := by simpa using hlt
     rw [getElem?_pos bs j hlt']
     have := (List.getElem?_eq_some_iff.1 hb).2
     rw [← this]
     rfl
    simp [execOp, ho, h1, Instr.index, hk, asIntOf, run_underlying ht, hb2]
   ·cases h
  ·cases h
theorem g_idxA {t el : TypeId} {x i : Operand} {x' i' : Opd} {len sz j : Nat} {b : Bool} {cs : List V} {v : V} (ho : o.op = .index t x i) (ht : P.underlying t = some (.array len el)) (hs : szOf P el = some sz) (hb : aggOf P el = some b) (h1 : b = true ∨ sz = 1)
  (hx : compOpd x = some x') (hi : compOpd i = some i') (ej : natOf (ρ i') = some j) (e : ρ x' = .agg cs) (hj : j < len) (hl : len * sz ≤ cs.length) (hm : mkV b ((cs.drop (j * sz)).take sz) = some v) (ev : Ev ρ a g w) (hh : HeapOK g w H) : Good P a o g w ns v H := by
 have hv := ev _ _ hx
 rw [e] at hv
 simp only [RV] at hv
 obtain ⟨z, h2, h3⟩ := hv
 obtain ⟨k, hk⟩ := natOf_ok ej (ev _ _ hi)
 have hle : j * sz + sz ≤ cs.length := by
  have : (j + 1) * sz ≤ len * sz := Nat.mul_le_mul_right _ hj
  rw [Nat.add_mul] at this; omega
 obtain ⟨y, h4, h5⟩ := run_part (P := P) hs hb hle h3 hm h1
 exact Good.val hh (by simp [execOp, ho, h2, Instr.index, hk, asIntOf, run_underlying ht, hj, run_size hs, h4]) h5
theorem g_ext {x : Operand} {x' : Opd} {i : Nat} {vs : List V} {v : V} (ho : o.op = .extract x i) (hx : compOpd x = some x') (e : ρ x' = .tuple vs) (hi : vs[i]? = some v) (ev : Ev ρ a g w) (hh : HeapOK g w H) : Good P a o g w ns v H := by
 have hv := ev _ _ hx
 rw [e] at hv
 simp only [RV] at hv
 obtain ⟨z, h2, h3⟩ := hv
 obtain ⟨y, h4, h5⟩ := h3.get i hi
 have h4' : z[i]? = some y := by simpa using h4
 exact Good.val hh (by simp [execOp, ho, h2, Instr.extract, h4']) h5
theorem mapOpds (ev : Ev ρ a g w) : ∀ {l : List Operand} {l' : List Opd}, mapO compOpd l = some l' → RVs g w (mlist ρ l') (l.map a.eval)
 | [], l', h => by simp [mapO] at h; subst h; simp [mlist, RVs]
 | x :: xs, l', h => by
  simp only [mapO] at h
  split at h
  ·cases h
  ·rename_i y hy
   split at h
   ·cases h
   ·rename_i ys hys
    simp only [Option.some.injEq] at h; subst h
    simp only [mlist, List.map_cons, RVs]
    exact ⟨ev _ _ hy, mapOpds ev hys⟩
theorem g_mkfunc {f : FuncId} {p q : Array Operand} {p' q' : List Opd} (ho : o.op = .makeFunc (.func f) p q) (hp : mapO compOpd p.toList = some p') (hq : mapO compOpd q.toList = some q') (ev : Ev ρ a g w) (hh : HeapOK g w H) :
  Good P a o g w ns (.func f (mlist ρ p') (mlist ρ q')) H := by
 refine Good.val (x := .func (.func f) (p.map a.eval) (q.map a.eval)) hh (by simp [execOp, ho, Instr.makeFunc]) ?_
 simp only [RV]
 exact ⟨_, _, rfl, by simpa using mapOpds ev hp, by simpa using mapOpds ev hq⟩
theorem g_mkmap {t : TypeId} (ho : o.op = .makeMap t none) (hh : HeapOK g w H) (hns : Fresh g ns) : Good P a o g w ns (.map ns) (hput H ns (.map [])) := by
 have he := Ext.new hh hns (.map #[] 0) (.obj w.heap.size) rfl
 have h2 : HeapOK (g.add ns (.obj w.heap.size)) (w.alloc (.map #[] 0)) (hput H ns (.map [])) := by
  refine HeapOK.new hh hns _ _ _ rfl ?_
  simp only [RB]
  exact ⟨#[], 0, heap_push_self _ _, rfl, by simp, by simp, rfl⟩
 refine ⟨_, _, .value (.map (some w.heap.size)), ?_, .inl ⟨_, rfl, ?_⟩, h2, he, fun _ h => h⟩
 ·simp [execOp, ho, Instr.makeMap]
 ·simp only [RV]
  refine ⟨⟨rfl, .inr rfl⟩, fun x hx => ?_⟩
  simp [G.add] at hx; subst hx
  exact ⟨_, rfl, rfl⟩
theorem g_range {t kt el : TypeId} {x : Operand} {x' : Opd} {v : V} {wr : Wr} (ho : o.op = .range t x) (ht : P.underlying t = some (.map kt el)) (hx : compOpd x = some x') (h : eff ρ H ns (.range true x') = some (v, wr)) (ev : Ev ρ a g w) (hh : HeapOK g w H) (hns : Fresh g ns) :
  Good P a o g w ns v (happ H wr) := by
 have hv := ev _ _ hx
 simp only [eff, cond_true] at h
 split at h
 ·rename_i b eb
  rw [eb] at hv
  simp only [RV] at hv
  split at h
  ·rename_i es hg
   simp only [Option.some.injEq, Prod.mk.injEq] at h
   obtain ⟨rfl, rfl⟩ := h
   obtain ⟨xb, hxb⟩ := hh.back b _ hg
   obtain ⟨hd, y, hy, hr⟩ := hh.live b xb hxb
   rw [hg] at hy; simp only [Option.some.injEq] at hy; subst hy
   obtain ⟨blk, rfl, hv2⟩ := hv.2 xb hxb
   simp only [RB] at hr
   obtain ⟨ents, clock, h1, h2, h3, h4, h5⟩ := hr
   have he := Ext.new hh hns (.mapIter (some blk) clock #[] clock) (.obj w.heap.size) rfl
   have hbn : b ≠ ns := by rintro rfl; exact hns hd
   have h2' : HeapOK (g.add ns (.obj w.heap.size)) (w.alloc (.mapIter (some blk) clock #[] clock)) (hput H ns (.miter b es.length [])) := by
    refine HeapOK.new hh hns _ _ _ rfl ?_
    simp only [RB]
    refine ⟨blk, #[], by rw [← h2, ← h5]; exact heap_push_self _ _, rfl, .inl hd, fun x hx => ?_⟩
    simp only [G.add, hbn, if_false] at hx
    rw [hxb] at hx; simp only [Option.some.injEq] at hx; exact hx.symm
   refine ⟨_, _, .value (.pointer (some ⟨w.heap.size, 0, none⟩)), ?_, .inl ⟨_, rfl, ?_⟩, h2', he, fun _ h => h⟩
   ·simp [execOp, ho, Instr.range, run_underlying ht, hv2, getObj, Sem.run, h1]
   ·simp only [RV]
    refine ⟨⟨rfl, .inr rfl⟩, fun x hx => ?_⟩
    simp [G.add] at hx; subst hx
    exact ⟨_, rfl, rfl⟩
  ·cases h
 ·cases h
theorem g_entry {x : Operand} {x' : Opd} {v : V} {wr : Wr} (ho : o.op = .entry x) (hx : compOpd x = some x') (h : eff ρ H ns (.entry x') = some (v, wr)) (ev : Ev ρ a g w) (hh : HeapOK g w H) :
  Good P a o g w ns v (happ H wr) := by
 have hv := ev _ _ hx
 simp only [eff] at h
 split at h
 ·rename_i b m eb
  rw [eb] at hv
  simp only [RV] at hv
  split at h
  ·rename_i m' n seen hgb
   split at h
   ·rename_i es hgm
    cases hc : (Nat.beq m' m && Nat.beq es.length n) with
    | false => rw [hc] at h; cases h
    | true =>
     rw [hc] at h
     simp only [cond_true] at h
     simp only [Bool.and_eq_true] at hc
     obtain rfl := Nat.eq_of_beq_eq_true hc.1
     have hn := Nat.eq_of_beq_eq_true hc.2
     split at h
     ·rename_i i hi
      split at h
      ·rename_i k u hk
       simp only [Option.some.injEq, Prod.mk.injEq] at h
       obtain ⟨rfl, rfl⟩ := h
       obtain ⟨xb, hxb⟩ := hh.back b _ hgb
       obtain ⟨_, y, hy, hr⟩ := hh.live b xb hxb
       rw [hgb] at hy; simp only [Option.some.injEq] at hy; subst hy
       obtain ⟨blk, rfl, hv2⟩ := hv.2 xb hxb
       simp only [RB] at hr
       obtain ⟨mb, sa, k1, k2, k3, k4⟩ := hr
       obtain ⟨xm, hxm⟩ := hh.back m' _ hgm
       obtain ⟨_, y, hy, hrm⟩ := hh.live m' xm hxm
       rw [hgm] at hy; simp only [Option.some.injEq] at hy; subst hy
       obtain rfl := k4 xm hxm
       simp only [RB] at hrm
       obtain ⟨ents, clock, m1, m2, m3, m4, m5⟩ := hrm
       obtain ⟨z, z1, z2, z3, z4⟩ := m3 i k u hk
       have hback : sa.back? = some i := by
        rw [← Array.getLast?_toList, k2]; exact hi
       have hfind : ents.find? (fun e => e.born == i) = some z := by
        have hb := m4 i z z1
        rw [Array.find?_eq_some_iff_getElem]
        obtain ⟨hlt, hz⟩ := Array.getElem?_eq_some_iff.1 z1
        refine ⟨by simp [hb], i, hlt, hz, fun j hj => ?_⟩
        have := m4 j _ (Array.getElem?_eq_getElem (by omega))
        simp [this]; omega
       have hck : (clock != n) = false := by simp; omega
       refine Good.val (x := .tuple #[z.key, z.val]) hh ?_ ?_
       ·have hnp : clock = n := by omega
        subst hnp
        simp [execOp, ho, Instr.entry, hv2, getObj, Sem.run, k1, hback, m1, hfind]
       ·simp only [RV]
        exact ⟨_, rfl, by simp only [RVs, RV]; exact ⟨z3, z4, trivial⟩⟩
      ·cases h
     ·cases h
   ·cases h
  ·cases h
 ·cases h
theorem g_mkiface {t : TypeId} {d : TypeDesc} {x : Operand} {x' : Opd} (ho : o.op = .makeInterface t x) (ht : P.underlying t = some d) (hd : ∀ m, d ≠ .interface m) (hx : compOpd x = some x') (ev : Ev ρ a g w) (hh : HeapOK g w H) :
  Good P a o g w ns (.iface t (ρ x')) H := by
 refine Good.val (x := .iface t (a.eval x)) hh ?_ (by simp only [RV]; exact ⟨_, rfl, ev _ _ hx⟩)
 cases d <;> simp_all [execOp, Instr.makeInterface, run_underlying ht]
def LenTy (P : Program) (t : TypeId) : LenKind → Prop
 | .str => P.underlying t = some .string
 | .slice => ∃ e, P.underlying t = some (.slice e)
 | .map => ∃ k e, P.underlying t = some (.map k e)
 | .arr _ => False
theorem lenV_ok {u : V} {v : Value} {k : LenKind} {n : Nat} {t ty : TypeId} (h : lenV H k u = some n) (hv : RV g w u v) (hh : HeapOK g w H) (hk : LenTy P t k) :
  (Builtin.len_ #[t] ty #[v]).run P w = .ok (goInt n) w := by
 cases k with
 | str =>
  simp only [LenTy] at hk
  cases u with
  | d x =>
   cases x with
   | str s =>
    simp only [lenV, Option.some.injEq] at h
    subst h
    obtain ⟨b, rfl, rfl⟩ := RV.str hv
    simp [Builtin.len_, run_underlying hk]
   | _ => simp [lenV] at h
  | _ => simp [lenV] at h
 | slice =>
  obtain ⟨e, he⟩ := hk
  cases u with
  | d x =>
   cases x with
   | list es =>
    simp only [lenV, Option.some.injEq] at h
    subst h
    simp only [RV, Rd] at hv
    rcases hv with ⟨rfl, rfl | ⟨_, _, rfl⟩⟩ | ⟨blk, off, cap, sz, rfl, _⟩ <;> simp [Builtin.len_, run_underlying he]
   | _ => simp [lenV] at h
  | nils =>
   simp only [lenV, Option.some.injEq] at h
   subst h
   simp only [RV] at hv
   subst hv
   simp [Builtin.len_, run_underlying he]
  | sl b hb off len sz =>
   simp only [lenV] at h
   cases hl : liveB H b hb with
   | false => rw [hl] at h; cases h
   | true =>
    rw [hl] at h
    simp only [cond_true, Option.some.injEq] at h; subst h
    rcases liveB_cases hl hh with ⟨blk, cp, hg⟩ | ⟨rfl, hg⟩
    ·obtain ⟨cap, rfl, _⟩ := RV.slLive hv hg
     simp [Builtin.len_, run_underlying he]
    ·obtain ⟨_, rfl, _, rfl⟩ := RV.slNil hv hg
     simp [Builtin.len_, run_underlying he]
  | _ => simp [lenV] at h
 | map =>
  obtain ⟨kt, e, he⟩ := hk
  cases u with
  | d x => cases x <;> simp [lenV] at h
  | nilm =>
   simp only [lenV, Option.some.injEq] at h
   subst h
   simp only [RV] at hv
   subst hv
   simp [Builtin.len_, run_underlying he]
  | map b =>
   simp only [lenV] at h
   split at h
   ·rename_i es hg
    simp only [Option.some.injEq] at h; subst h
    obtain ⟨x, hx⟩ := hh.back b _ hg
    obtain ⟨_, y, hy, hr⟩ := hh.live b x hx
    rw [hg] at hy; simp only [Option.some.injEq] at hy; subst hy
    simp only [RV] at hv
    obtain ⟨blk, rfl, rfl⟩ := hv.2 x hx
    simp only [RB] at hr
    obtain ⟨ents, clock, h1, h2, _⟩ := hr
    simp [Builtin.len_, run_underlying he, getObj, Sem.run, h1, h2]
   ·cases h
  | _ => simp [lenV] at h
 | arr => exact hk.elim
theorem sliceC_ok {sz : Nat} {u : V} {v : Value} {xs : List V} (h : sliceC H sz u = some xs) (hv : RV g w u v) (hh : HeapOK g w H) (hsz : 0 < sz) :
  ∃ n vs, (Builtin.lenOf v).run P w = .ok n w ∧ (Builtin.firstCells sz n v).run P w = .ok vs.toArray w ∧ RVs g w xs vs ∧ vs.length = n * sz := by
 cases u with
 | nils =>
  simp only [sliceC, Option.some.injEq] at h; subst h
  simp only [RV] at hv; subst hv
  exact ⟨0, [], by simp [Builtin.lenOf], by simp [Builtin.firstCells], by simp [RVs], by simp⟩
 | d x =>
  cases x with
  | list es =>
   simp only [sliceC] at h
   cases hc : es.all (fun e => Nat.beq e.length sz) with
   | false => rw [hc] at h; cases h
   | true =>
    rw [hc] at h
    simp only [cond_true, Option.some.injEq] at h; subst h
    rcases RV.list hv (all_len hc) with ⟨rfl, rfl | ⟨_, _, rfl⟩⟩ | ⟨blk, off, cap, rfl, _, _, h4⟩
    ·exact ⟨0, [], by simp [Builtin.lenOf], by simp [Builtin.firstCells], by simp [RVs], by simp⟩
    ·exact ⟨0, [], by simp [Builtin.lenOf], by simp [Builtin.firstCells, loadCells, loadCellsFrom], by simp [RVs], by simp⟩
    ·have hflat : ∀ (es : List (List D)) (off : Nat), RdE w (imm g w) blk off sz es → RdC w (imm g w) blk off es.flatten := by
      intro es
      induction es with
      | nil => intro off _; simp [RdC]
      | cons e es ih =>
       intro off h
       simp only [RdE] at h
       obtain ⟨q1, q2, q3⟩ := h
       have happ : ∀ (ds es' : List D) (q : Nat), RdC w (imm g w) blk q ds → RdC w (imm g w) blk (q + ds.length) es' → RdC w (imm g w) blk q (ds ++ es') := by
        intro ds es'
        induction ds with
        | nil => intro q _ h; simpa using h
        | cons d ds ih =>
         intro q h1 h2
         simp only [RdC] at h1
         simp only [List.cons_append, RdC]
         refine ⟨h1.1, ih (q + 1) h1.2 ?_⟩
         rw [show q + 1 + ds.length = q + (d :: ds).length by simp; omega]
         exact h2
       simp only [List.flatten_cons]
       exact happ _ _ _ q2 (by rw [q1]; exact ih _ q3)
     obtain ⟨vs, k1, k2⟩ := RdC.vals (hflat es off h4)
     have hlen : vs.length = es.length * sz := by
      have := k1.length
      simp only [List.length_map] at this
      rw [← this]
      have hgen : ∀ (es : List (List D)), es.all (fun e => Nat.beq e.length sz) = true → es.flatten.length = es.length * sz := by
       clear this k1 k2 vs hv h4 hflat hc
       intro es hc
       induction es with
       | nil => simp
       | cons e es ih =>
        simp only [List.all_cons, Bool.and_eq_true] at hc
        simp only [List.flatten_cons, List.length_append, List.length_cons]
        rw [ih hc.2, Nat.eq_of_beq_eq_true hc.1, Nat.add_mul]; omega
      exact hgen es hc
     have := run_loadCells_list (P := P) w ⟨blk, off, none⟩ vs (fun j x hj => by rw [Addr.add_mk]; exact k2 j x hj)
     exact ⟨es.length, vs, by simp [Builtin.lenOf], by simp only [Builtin.firstCells]; rw [← hlen]; exact this, k1, hlen⟩
  | str s =>
   simp only [sliceC] at h
   cases hq : Nat.beq sz 1 with
   | false => rw [hq] at h; cases h
   | true =>
   rw [hq] at h
   have := Nat.eq_of_beq_eq_true hq
   subst this
   simp only [cond_true, Option.some.injEq] at h; subst h
   obtain ⟨b, rfl, rfl⟩ := RV.str hv
   refine ⟨b.size, b.data.toList.map (fun x => .int .u8 x.toNat), by simp [Builtin.lenOf], ?_, ?_, by simp⟩
   ·have e : b.extract 0 b.size = b := by
     apply ByteArray.ext
     rw [ByteArray.data_extract]
     apply Array.ext'
     simp only [Array.toList_extract, List.extract_eq_take_drop, List.drop_zero, Nat.sub_zero]
     exact List.take_of_length_le (by simp)
    simp only [Builtin.firstCells, e, Sem.run_pure]
    congr 1
    apply Array.ext'
    simp
   ·generalize b.data.toList = l
    induction l with
    | nil => simp [RVs]
    | cons x l ih => simp only [List.map_cons, RVs]; exact ⟨RV.mkI _ _, ih⟩
  | _ => simp [sliceC] at h
 | sl b hb off len sz' =>
  simp only [sliceC] at h
  cases hq : Nat.beq sz sz' with
  | false => rw [hq] at h; cases h
  | true =>
   have e1 := Nat.eq_of_beq_eq_true hq
   subst e1
   rw [hq] at h
   simp only [cond_true] at h
   cases hg : hget H b with
   | none => simp [hg] at h
   | some y =>
    cases y with
    | cells cs =>
     simp only [hg] at h
     cases hc : (Nat.beq cs.length hb && Nat.ble (off + len * sz) hb) with
     | false => rw [hc] at h; cases h
     | true =>
      rw [hc] at h
      simp only [cond_true, Option.some.injEq] at h; subst h
      simp only [Bool.and_eq_true] at hc
      have e2 := Nat.le_of_ble_eq_true hc.2
      obtain ⟨blk, cp, c, e, h1, h2, h3, h4, h5, h6, h7⟩ := live_cells hg hc.1 hh
      obtain ⟨cap, rfl, h8, h9⟩ := RV.slLive hv h1
      refine ⟨len, ((c.toList.take hb).drop off).take (len * sz), by simp [Builtin.lenOf], ?_, (h7.drop off).take _, by simp; omega⟩
      have hlen : (((c.toList.take hb).drop off).take (len * sz)).length = len * sz := by simp; omega
      have := run_loadCells_list (P := P) w ⟨blk, off, none⟩ (((c.toList.take hb).drop off).take (len * sz)) (fun j x hj => by
       rw [Addr.add_mk]
       rw [List.getElem?_take] at hj
       split at hj
       ·rw [List.getElem?_drop, List.getElem?_take] at hj
        split at hj
        ·simp only [World.cell?, h5]; simpa using hj
        ·cases hj
       ·cases hj)
      simp only [Builtin.firstCells]
      rw [hlen] at this
      exact this
    | nil =>
     simp only [hg] at h
     cases hc : Nat.beq len 0 with
     | false => rw [hc] at h; cases h
     | true =>
      rw [hc] at h
      simp only [cond_true, Option.some.injEq] at h; subst h
      obtain ⟨x, hx⟩ := hh.back b _ hg
      obtain ⟨_, y, hy, hr⟩ := hh.live b x hx
      rw [hg] at hy; simp only [Option.some.injEq] at hy; subst hy
      cases x with
      | cells => simp only [RB] at hr
      | obj => simp only [RB] at hr
      | nil =>
       obtain ⟨_, rfl, _, rfl⟩ := RV.slNil hv hx
       exact ⟨0, [], by simp [Builtin.lenOf], by simp [Builtin.firstCells], by simp [RVs], by simp⟩
    | _ => simp [hg] at h
 | _ => simp [sliceC] at h
end
end Fw

/-
 Operations, further: append.
-/
namespace Fw
open Go
section
variable {P : Program} {a : Act} {o : Oper} {g : G} {w : World} {ρ : Opd → V} {H : Heap} {ns : Nat}
theorem run_app_room {t u e ty : TypeId} {i : TypeInfo} {base : Option Addr} {sLen sCap n : Nat} {v : Value} {news : List Value} {w' : World} (ht : P.underlying t = some (.slice e)) (hu : (∃ e2, P.underlying u = some (.slice e2)) ∨ P.underlying u = some .string) (hi : P.info? e = some i)
  (hlen : (Builtin.lenOf v).run P w = .ok n w) (hfirst : (Builtin.firstCells i.size n v).run P w = .ok news.toArray w) (hroom : sLen + n ≤ sCap)
  (hst : ∀ a, base = some a → (storeCells (a.add (sLen * i.size)) news).run P w = .ok () w') (hn : base = none → w' = w) :
  (Builtin.append_ #[t, u] ty #[.slice base sLen sCap, v]).run P w = .ok (.slice base (sLen + n) sCap) w' := by
 cases base with
 | none =>
  have := hn rfl; subst this
  rcases hu with ⟨e2, hu⟩ | hu <;> simp [Builtin.append_, run_underlying ht, run_underlying hu, Go.sizeOf, typeInfo, hi, hlen, hroom, hfirst]
 | some b =>
  have := hst b rfl
  rcases hu with ⟨e2, hu⟩ | hu <;> simp [Builtin.append_, run_underlying ht, run_underlying hu, Go.sizeOf, typeInfo, hi, hlen, hroom, hfirst, this]
theorem run_app_grow {t u e ty : TypeId} {i : TypeInfo} {z : Value} {base : Option Addr} {sLen sCap n : Nat} {v : Value} {olds news : List Value} (ht : P.underlying t = some (.slice e)) (hu : (∃ e2, P.underlying u = some (.slice e2)) ∨ P.underlying u = some .string) (hi : P.info? e = some i) (hz : i.zero = some z)
  (hlen : (Builtin.lenOf v).run P w = .ok n w) (hfirst : (Builtin.firstCells i.size n v).run P w.drew = .ok news.toArray w.drew) (hold : (Builtin.firstCells i.size sLen (.slice base sLen sCap)).run P w.drew = .ok olds.toArray w.drew)
  (hg : sCap < sLen + n) (h63 : ((sLen + n : Nat) : Int) ≤ 9223372036854775807) (hfit : Builtin.nextslicecap (sLen + n) sCap * i.bytes ≤ 281474976710656) :
  (Builtin.append_ #[t, u] ty #[.slice base sLen sCap, v]).run P w =
   .ok (.slice (some ⟨w.heap.size, 0, none⟩) (sLen + n) (grownCap w (sLen + n) sCap e))
    (w.drew.alloc (.cells (olds.toArray ++ news.toArray ++ Builtin.zeroCells z.cells (grownCap w (sLen + n) sCap e - (sLen + n))) e)) := by
 have hn : ¬ (sLen + n ≤ sCap) := by omega
 have h63' : ¬ (9223372036854775807 < ((sLen : Int) + (n : Int))) := by omega
 have h48' : ¬ (281474976710656 < Builtin.nextslicecap (sLen + n) sCap * i.bytes) := by omega
 rcases hu with ⟨e2, hu⟩ | hu <;> simp [Builtin.append_, run_underlying ht, run_underlying hu, Go.sizeOf, typeInfo, zeroValue, hi, hz, hlen, hn, h63', h48', Question.forced, hfirst, hold, newRow, grownCap] <;> (congr 2; apply Array.ext'; simp)
theorem drewExt (g : G) (w : World) : Ext g w g w.drew := ⟨rfl, rfl, rfl, Nat.le_refl _, fun _ h => ⟨h, rfl⟩, fun _ h => h, fun _ _ => GB.step.refl _, rfl, fun _ _ => rfl⟩
theorem HeapOK.drew (hh : HeapOK g w H) : HeapOK g w.drew H := hh.ext (drewExt g w) (fun _ _ _ _ _ => rfl)
theorem g_append {t u e ty : TypeId} {i : TypeInfo} {zs : List V} {x y : Operand} {x' y' : Opd} {xs : List V} {v : V} {wr : Wr} (ho : o.op = .call { callee := .builtin .append, args := #[x, y], argTypes := #[t, u] }) (hty : o.type = ty)
  (ht : P.underlying t = some (.slice e)) (hu : (∃ e2, P.underlying u = some (.slice e2)) ∨ P.underlying u = some .string) (hi : P.info? e = some i) (hz : zeroOf P e = some zs) (h0 : 0 < i.size) (hzl : zs.length = i.size)
  (hx : compOpd x = some x') (hy : compOpd y = some y') (hs : sliceC H i.size (ρ y') = some xs) (ha : appendV H ns i.size i.bytes (ρ x') xs = some (v, wr)) (ev : Ev ρ a g w) (hh : HeapOK g w H) (hns : Fresh g ns) : Good P a o g w ns v (happ H wr) := by
 have hvx := ev _ _ hx
 have hvy := ev _ _ hy
 simp only [zeroOf, Option.bind_eq_some_iff] at hz
 obtain ⟨z, ⟨i', hi', hzv⟩, hm⟩ := hz
 rw [hi] at hi'
 simp only [Option.some.injEq] at hi'; subst hi'
 have hzs : z.cells.size = i.size := by have := mapO_length hm; simp at this; omega
 obtain ⟨n, news, f1, f2, f3, f4⟩ := sliceC_ok (P := P) hs hvy hh h0
 obtain ⟨n', news', f1', f2', f3', f4'⟩ := sliceC_ok (P := P) hs (RV.ext (drewExt g w) _ _ hvy) hh.drew h0
 have hnn : n' = n := by
  have e1 := f3'.length; have e2 := f3.length
  have : n' * i.size = n * i.size := by omega
  exact Nat.eq_of_mul_eq_mul_right h0 this
 subst hnn
 have hxl : xs.length = n' * i.size := by rw [f3.length, f4]
 have hdiv : xs.length / i.size = n' := by rw [hxl]; exact Nat.mul_div_cancel _ h0
 unfold appendV at ha
 cases hb0 : Nat.beq i.size 0 with
 | true => rw [hb0] at ha; cases ha
 | false =>
 rw [hb0] at ha
 simp only [cond_false] at ha
 cases hb1 : Nat.beq (xs.length % i.size) 0 with
 | false => rw [hb1] at ha; cases ha
 | true =>
 rw [hb1] at ha
 simp only [Bool.not_true, cond_false] at ha
 cases hok : xs.all okC with
 | false => rw [hok] at ha; cases ha
 | true =>
 rw [hok] at ha
 simp only [Bool.not_true, cond_false] at ha
 have exec : ∀ (vx : Value) (r : Value) (w' : World), a.eval x = vx → (Builtin.append_ #[t, u] ty #[vx, a.eval y]).run P w = .ok r w' → (execOp a.eval o).run P w = .ok (.value r) w' := by
  intro vx r w' e1 e2
  subst hty
  simp [execOp, ho, resolve, invoke, builtin, e1, e2]
 have grown : ∀ (blkv : Option Addr) (sLen sCap : Nat) (olds : List Value) (ocs : List V), a.eval x = .slice blkv sLen sCap → RVs g w ocs olds → ocs.all okC = true → olds.length = sLen * i.size →
   (Builtin.firstCells i.size sLen (.slice blkv sLen sCap)).run P w.drew = .ok olds.toArray w.drew → sCap < sLen + n' → ((ocs.length + xs.length) * (i.bytes + 1) ≤ roomB) →
   ∃ w' cap, (execOp a.eval o).run P w = .ok (.value (.slice (some ⟨w.heap.size, 0, none⟩) (sLen + n') cap)) w' ∧ w' = w.drew.alloc (.cells (olds.toArray ++ news'.toArray ++ Builtin.zeroCells z.cells (cap - (sLen + n'))) e) ∧ sLen + n' ≤ cap ∧
    (olds.toArray ++ news'.toArray ++ Builtin.zeroCells z.cells (cap - (sLen + n'))).size = cap * i.size := by
  intro blkv sLen sCap olds ocs e1 e2 e3 e4 e5 e6 e7
  have hol : ocs.length = sLen * i.size := by rw [e2.length, e4]
  have hneed : (sLen + n') * i.size = ocs.length + xs.length := by rw [Nat.add_mul]; omega
  have hle : sLen + n' ≤ ocs.length + xs.length := by rw [← hneed]; exact Nat.le_mul_of_pos_right _ h0
  have hb : (sLen + n') * i.bytes ≤ 140737488355328 := by
   have e1 : (sLen + n') * i.bytes ≤ (ocs.length + xs.length) * (i.bytes + 1) := Nat.mul_le_mul hle (by omega)
   have e2 : roomB ≤ 140737488355328 := by decide
   omega
  have h63 : sLen + n' ≤ 140737488355328 := by
   have e1 : sLen + n' ≤ (ocs.length + xs.length) * (i.bytes + 1) := Nat.le_trans hle (Nat.le_mul_of_pos_right _ (by omega))
   have e2 : roomB ≤ 140737488355328 := by decide
   omega
  have hr := run_app_grow (ty := ty) ht hu hi hzv f1 f2' e5 e6 (by omega) (growslice_fits e6 hb)
  refine ⟨_, _, exec _ _ _ e1 hr, rfl, grownCap_ge _ _ _ _, ?_⟩
  have hge := grownCap_ge w (sLen + n') sCap e
  simp only [Array.size_append, List.size_toArray, size_zeroCells, hzs, e4, f4', ← Nat.add_mul]
  congr 1
  omega
 split at ha
 ·
  rename_i ex
  rw [ex] at hvx
  simp only [RV] at hvx
  split at ha
  ·simp only [Option.some.injEq, Prod.mk.injEq] at ha
   obtain ⟨rfl, rfl⟩ := ha
   have hn0 : n' = 0 := by
        have hm0 : n' * i.size = 0 := by rw [← hxl]; rfl
        rcases Nat.mul_eq_zero.1 hm0 with h | h <;> omega
   subst hn0
   have hr := run_app_room (ty := ty) (base := none) (sLen := 0) (sCap := 0) ht hu hi f1 f2 (Nat.le_refl _) (fun a h => by cases h) (fun _ => rfl)
   exact Good.val (x := .slice none 0 0) hh (exec _ _ _ hvx hr) (by simp only [RV])
  ·rename_i hne
   cases hc : Nat.ble (xs.length * (i.bytes + 1)) roomB with
   | false => rw [hc] at ha; cases ha
   | true =>
    rw [hc] at ha
    simp only [cond_true, Option.some.injEq, Prod.mk.injEq] at ha
    obtain ⟨rfl, rfl⟩ := ha
    have hpos : 0 < n' := by
     rcases Nat.eq_zero_or_pos n' with h | h
     ·subst h; simp at hxl; exact absurd hxl hne
     ·exact h
    obtain ⟨w', cap, k1, rfl, k3, k4⟩ := grown none 0 0 [] [] hvx (by simp [RVs]) rfl (by simp) (by simp [Builtin.firstCells]) (by omega) (by simpa using Nat.le_of_ble_eq_true hc)
    have he := Ext.new (w := w.drew) hh.drew hns (.cells (([] : List Value).toArray ++ news'.toArray ++ Builtin.zeroCells z.cells (cap - (0 + n'))) e) (.cells w.heap.size (cap * i.size) xs.length) rfl
    refine ⟨_, _, _, k1, .inl ⟨_, rfl, ?_⟩, HeapOK.new hh.drew hns _ _ _ rfl ?_, (drewExt g w).trans he, fun _ h => h⟩
    ·rw [hdiv, Nat.zero_add]
     refine RV.mkSl (cp := cap * i.size) (.inr rfl) (by simp [G.add]) (by omega) (by omega)
    ·simp only [RB]
     refine ⟨trivial, hok, by rw [hxl]; exact Nat.mul_le_mul_right _ (by omega), _, e, heap_push_self _ _, by rw [k4]; exact Nat.le_refl _, ?_⟩
     have : ((([] : List Value).toArray ++ news'.toArray ++ Builtin.zeroCells z.cells (cap - (0 + n'))).toList).take xs.length = news' := by
      simp only [List.nil_append, Array.toList_append, List.toList_toArray]
      rw [show xs.length = news'.length by rw [f3'.length], List.take_left]
     rw [this]
     exact RVs.ext he _ _ f3'
 ·
  rename_i b hb off len sz' ex
  cases hq : Nat.beq i.size sz' with
  | false => rw [hq] at ha; cases ha
  | true =>
   have e1 := Nat.eq_of_beq_eq_true hq
   rw [hq] at ha
   simp only [cond_true] at ha
   rw [ex] at hvx
   rw [← e1] at hvx
   split at ha
   ·rename_i cs hg
    cases hc : (Nat.beq cs.length hb && Nat.beq off 0 && Nat.beq (len * i.size) hb && Nat.ble ((hb + xs.length) * (i.bytes + 1)) roomB) with
    | false => rw [hc] at ha; cases ha
    | true =>
     rw [hc] at ha
     simp only [cond_true, Option.some.injEq, Prod.mk.injEq] at ha
     obtain ⟨rfl, rfl⟩ := ha
     simp only [Bool.and_eq_true] at hc
     have e2 := Nat.eq_of_beq_eq_true hc.1.1.2
     subst e2
     have e3 := Nat.eq_of_beq_eq_true hc.1.2
     obtain ⟨blk, cp, c, ce, h1', h2, h3, h4, h5, h6, h7⟩ := live_cells hg hc.1.1.1 hh
     obtain ⟨cap, h8, h9, h10⟩ := RV.slLive hvx h1'
     have hdom := RV.dom hvx
     by_cases hroom : len + n' ≤ cap
     ·have hfit : hb + xs.length ≤ cp := by
       have : (len + n') * i.size ≤ cap * i.size := Nat.mul_le_mul_right _ hroom
       rw [Nat.add_mul] at this; omega
      have hst := run_storeCells_at P blk (len * i.size) ce news 0 c w h5 (by rw [f4]; simp; omega) (RVs.one hok f3)
      simp only [Nat.add_zero] at hst
      rw [← putCells_eq _ _ _ (by rw [f4]; simp; omega), e3] at hst
      have hr := run_app_room (ty := ty) (base := some ⟨blk, 0, none⟩) ht hu hi f1 f2 hroom (fun q hq => by simp only [Option.some.injEq] at hq; subst hq; rw [Addr.add_mk, Nat.zero_add, e3]; exact hst) (fun h => by cases h)
      have hw : ∀ j, j ≠ blk → (w.setRow blk (putCells c.toList hb news).toArray).heap[j]? = w.heap[j]? := fun j hj => setRow_other w blk j _ hj
      have hstep : GB.step (some (.cells blk cp hb)) (some (.cells blk cp (hb + xs.length))) := by
       by_cases hz : xs.length = 0
       ·left; rw [hz]; rfl
       ·right; exact ⟨_, _, _, rfl, by omega⟩
      have hwb : ∀ j, j < w.heap.size → some j ≠ some blk → (w.setRow blk (putCells c.toList hb news).toArray).heap[j]? = w.heap[j]? := fun j _ hj => hw j (fun e => hj (by rw [e]))
      have he : Ext g w (g.set b (.cells blk cp (hb + xs.length))) (w.setRow blk (putCells c.toList hb news).toArray) := Ext.grow (hh.foOf h1' rfl) h1' rfl hstep (.inl rfl) rfl rfl rfl (by simp) hwb
      refine ⟨_, _, _, exec _ _ _ h8 hr, .inl ⟨_, rfl, ?_⟩, HeapOK.grow (x' := .cells blk cp (hb + xs.length)) hh _ h1' rfl (.inl rfl) he hwb ?_, he, fun _ h => .inl h⟩
      ·rw [hdiv]
       refine RV.mkSl (cp := cp) hdom (by simp [G.set]) (by omega) (by omega)
      ·simp only [RB]
       have hpl : ∀ (l : List Value) (i : Nat) (vs : List Value), (putCells l i vs).length = l.length := by
        intro l i vs
        induction vs generalizing l i with
        | nil => rfl
        | cons v vs ih => simp [putCells, ih]
       refine ⟨by simp; omega, by simp only [List.all_append, h2, hok, Bool.and_self], by simp; omega, _, ce, setRow_heap w blk c _ ce _ h5, by simp [hpl]; omega, ?_⟩
       have e5 : (putCells c.toList hb news).take (cs ++ xs).length = c.toList.take hb ++ news := by
        rw [putCells_eq _ _ _ (by rw [f4]; simp; omega)]
        have : (cs ++ xs).length = (c.toList.take hb ++ news).length := by simp [f4, hxl]; omega
        rw [this, List.take_left]
       rw [List.toList_toArray, e5]
       exact RVs.append (RVs.ext he _ _ h7) (RVs.ext he _ _ f3)
     ·have hold : (Builtin.firstCells i.size len (.slice (some ⟨blk, 0, none⟩) len cap)).run P w.drew = .ok (c.toList.take hb).toArray w.drew := by
       have hl : (c.toList.take hb).length = len * i.size := by simp; omega
       have := run_loadCells_list (P := P) w.drew ⟨blk, 0, none⟩ (c.toList.take hb) (fun j x hj => by
        rw [Addr.add_mk, Nat.zero_add]
        rw [List.getElem?_take] at hj
        split at hj
        ·have h5' : w.drew.heap[blk]? = some (.cells c ce (0, 0)) := h5
         simp only [World.cell?, h5']; simpa using hj
        ·cases hj)
       rw [hl] at this
       simpa [Builtin.firstCells] using this
      obtain ⟨w', cap', k1, rfl, k3, k4⟩ := grown (some ⟨blk, 0, none⟩) len cap (c.toList.take hb) cs h8 h7 h2 (by simp; omega) hold (by omega) (by rw [h3]; exact Nat.le_of_ble_eq_true hc.2)
      have hstep : GB.step (some (.cells blk cp hb)) (some (.cells w.heap.size (cap' * i.size) (hb + xs.length))) := by
       right
       refine ⟨_, _, _, rfl, ?_⟩
       have : 0 < xs.length := by
        rw [hxl]; exact Nat.mul_pos (by omega) h0
       omega
      have hwb : ∀ j, j < w.drew.heap.size → some j ≠ some blk → (w.drew.alloc (.cells ((c.toList.take hb).toArray ++ news'.toArray ++ Builtin.zeroCells z.cells (cap' - (len + n'))) e)).heap[j]? = w.drew.heap[j]? := fun j hj _ => heap_push_lt _ _ hj
      have he : Ext g w.drew (g.set b (.cells w.heap.size (cap' * i.size) (hb + xs.length))) (w.drew.alloc (.cells ((c.toList.take hb).toArray ++ news'.toArray ++ Builtin.zeroCells z.cells (cap' - (len + n'))) e)) :=
       Ext.grow (hh.drew.foOf h1' rfl) h1' rfl hstep (.inr ⟨_, rfl, Nat.le_refl _⟩) rfl rfl rfl (by simp) hwb
      refine ⟨_, _, _, k1, .inl ⟨_, rfl, ?_⟩, HeapOK.grow hh.drew _ h1' rfl (.inr ⟨_, rfl, Nat.le_refl _⟩) he hwb ?_, (drewExt g w).trans he, fun _ h => .inl h⟩
      ·rw [hdiv]
       refine RV.mkSl (cp := cap' * i.size) hdom (by simp [G.set]) (by omega) (by omega)
      ·simp only [RB]
       refine ⟨by simp; omega, by simp only [List.all_append, h2, hok, Bool.and_self], ?_, _, e, heap_push_self _ _, by rw [k4]; exact Nat.le_refl _, ?_⟩
       ·have : (len + n') * i.size ≤ cap' * i.size := Nat.mul_le_mul_right _ k3
        rw [Nat.add_mul] at this
        simp; omega
       ·have e5 : ((c.toList.take hb).toArray ++ news'.toArray ++ Builtin.zeroCells z.cells (cap' - (len + n'))).toList.take (cs ++ xs).length = c.toList.take hb ++ news' := by
         simp only [Array.toList_append, List.toList_toArray]
         have : (cs ++ xs).length = (c.toList.take hb ++ news').length := by simp [f4', hxl]; omega
         rw [this, List.take_left]
        rw [e5]
        exact RVs.append (RVs.ext ((drewExt g w).trans he) _ _ h7) (RVs.ext he _ _ f3')
   ·rename_i hg
    cases hc : (Nat.beq hb 0 && Nat.beq off 0 && Nat.beq len 0) with
    | false => rw [hc] at ha; cases ha
    | true =>
     rw [hc] at ha
     simp only [cond_true] at ha
     simp only [Bool.and_eq_true] at hc
     have q1 := Nat.eq_of_beq_eq_true hc.1.1
     have q2 := Nat.eq_of_beq_eq_true hc.1.2
     have q3 := Nat.eq_of_beq_eq_true hc.2
     subst q1; subst q2; subst q3
     obtain ⟨xb, hxb⟩ := hh.back b _ hg
     obtain ⟨_, yb, hyb, hr⟩ := hh.live b xb hxb
     rw [hg] at hyb; simp only [Option.some.injEq] at hyb; subst hyb
     cases xb with
     | cells => simp only [RB] at hr
     | obj => simp only [RB] at hr
     | nil =>
      have hdom := RV.dom hvx
      obtain ⟨_, _, _, hvn⟩ := RV.slNil hvx hxb
      split at ha
      ·simp only [Option.some.injEq, Prod.mk.injEq] at ha
       obtain ⟨rfl, rfl⟩ := ha
       have hn0 : n' = 0 := by
        have hm0 : n' * i.size = 0 := by rw [← hxl]; rfl
        rcases Nat.mul_eq_zero.1 hm0 with h | h <;> omega
       subst hn0
       have hrr := run_app_room (ty := ty) (base := none) (sLen := 0) (sCap := 0) ht hu hi f1 f2 (Nat.le_refl _) (fun a h => by cases h) (fun _ => rfl)
       refine Good.val (x := .slice none 0 0) hh (exec _ _ _ hvn hrr) ?_
       rw [hvn] at hvx
       rw [e1] at hvx
       rw [ex]
       exact hvx
      ·rename_i hne
       cases hcc : Nat.ble (xs.length * (i.bytes + 1)) roomB with
       | false => rw [hcc] at ha; cases ha
       | true =>
        rw [hcc] at ha
        simp only [cond_true, Option.some.injEq, Prod.mk.injEq] at ha
        obtain ⟨rfl, rfl⟩ := ha
        have hpos : 0 < n' := by
         rcases Nat.eq_zero_or_pos n' with h | h
         ·subst h; simp at hxl; exact absurd hxl hne
         ·exact h
        obtain ⟨w', cap, k1, rfl, k3, k4⟩ := grown none 0 0 [] [] hvn (by simp [RVs]) rfl (by simp) (by simp [Builtin.firstCells]) (by omega) (by simpa using Nat.le_of_ble_eq_true hcc)
        have hxpos : 0 < xs.length := by rw [hxl]; exact Nat.mul_pos hpos h0
        have hwb : ∀ j, j < w.drew.heap.size → some j ≠ none → (w.drew.alloc (.cells (([] : List Value).toArray ++ news'.toArray ++ Builtin.zeroCells z.cells (cap - (0 + n'))) e)).heap[j]? = w.drew.heap[j]? := fun j hj _ => heap_push_lt _ _ hj
        have he : Ext g w.drew (g.set b (.cells w.heap.size (cap * i.size) xs.length)) (w.drew.alloc (.cells (([] : List Value).toArray ++ news'.toArray ++ Builtin.zeroCells z.cells (cap - (0 + n'))) e)) :=
         Ext.grow (hh.drew.foOf hxb rfl) hxb rfl (.inr ⟨_, _, _, rfl, hxpos⟩) (.inr ⟨_, rfl, Nat.le_refl _⟩) rfl rfl rfl (by simp) hwb
        refine ⟨_, _, _, k1, .inl ⟨_, rfl, ?_⟩, HeapOK.grow hh.drew _ hxb rfl (.inr ⟨_, rfl, Nat.le_refl _⟩) he hwb ?_, (drewExt g w).trans he, fun _ h => .inl h⟩
        ·rw [hdiv, Nat.zero_add]
         refine RV.mkSl (cp := cap * i.size) hdom (by simp [G.set]) (by omega) (by omega)
        ·simp only [RB]
         refine ⟨trivial, hok, by rw [hxl]; exact Nat.mul_le_mul_right _ (by omega), _, e, heap_push_self _ _, by rw [k4]; exact Nat.le_refl _, ?_⟩
         have : ((([] : List Value).toArray ++ news'.toArray ++ Builtin.zeroCells z.cells (cap - (0 + n'))).toList).take xs.length = news' := by
          simp only [List.nil_append, Array.toList_append, List.toList_toArray]
          rw [show xs.length = news'.length by rw [f3'.length], List.take_left]
         rw [this]
         exact RVs.ext he _ _ f3'
   ·cases ha
 ·cases ha
end
end Fw

/-
 Operations, further: maps, min and max; all together.
-/
namespace Fw
open Go
section
variable {P : Program} {a : Act} {o : Oper} {g : G} {w : World} {ρ : Opd → V} {H : Heap} {ns : Nat}
def KeyTy (P : Program) (t : TypeId) : KeyKind → Prop
 | .int => ∃ k, P.underlying t = some (.int k)
 | .str => P.underlying t = some .string
 | .bool => P.underlying t = some .bool
theorem checkKey_run {kk : KeyKind} {t : TypeId} (h : KeyTy P t kk) (e : Bool) (v : Value) : (Instr.checkKey e 10000 t v).run P w = .ok () w := by
 have key : ∀ n, (Instr.checkKey e (n + 1) t v).run P w = .ok () w := by
  intro n
  cases kk with
  | int => obtain ⟨k, hk⟩ := h; simp [Instr.checkKey, run_underlying hk]
  | str => simp only [KeyTy] at h; simp [Instr.checkKey, run_underlying h]
  | bool => simp only [KeyTy] at h; simp [Instr.checkKey, run_underlying h]
 exact key 9999
theorem ba_beq (s t : ByteArray) : (s == t) = Fw.bytesEq s.data.toList t.data.toList := by
 have e : (s == t) = (s.data == t.data) := by cases s; cases t; rfl
 rw [e, bytesEq_iff]
 by_cases h : s.data = t.data
 ·simp [h]
 ·have : ¬ s.data.toList = t.data.toList := fun e => h (Array.ext' e)
  simp [h]
theorem sameNow_eq {kk : KeyKind} {t : TypeId} {d : TypeDesc} {k x : D} {kv xv : Value} {im : Nat → Prop} (ht : KeyTy P t kk) (hd : P.underlying t = some d) (hk : keyIs kk k = true) (h1 : Rd w im k kv) (h2 : Rd w im x xv) {b : Bool} (h : dEq k x = some b) :
  Instr.sameNow d kv xv = some b := by
 cases kk with
 | int =>
  obtain ⟨ik, hik⟩ := ht
  rw [hd] at hik; simp only [Option.some.injEq] at hik; subst hik
  cases k with
  | int k1 n1 =>
   cases x with
   | int k2 n2 =>
    simp only [Rd] at h1 h2; subst h1; subst h2
    simpa [dEq, Instr.sameNow] using h
   | _ => simp [dEq] at h
  | _ => simp [keyIs] at hk
 | str =>
  simp only [KeyTy] at ht
  rw [hd] at ht; simp only [Option.some.injEq] at ht; subst ht
  cases k with
  | str k1 =>
   cases x with
   | str k2 =>
    simp only [Rd] at h1 h2
    obtain ⟨s1, rfl, rfl⟩ := h1
    obtain ⟨s2, rfl, rfl⟩ := h2
    simp only [dEq, Option.some.injEq] at h
    simp [Instr.sameNow, ba_beq, h]
   | _ => simp [dEq] at h
  | _ => simp [keyIs] at hk
 | bool =>
  simp only [KeyTy] at ht
  rw [hd] at ht; simp only [Option.some.injEq] at ht; subst ht
  cases k with
  | bool k1 =>
   cases x with
   | bool k2 =>
    simp only [Rd] at h1 h2; subst h1; subst h2
    simpa [dEq, Instr.sameNow] using h
   | _ => simp [dEq] at h
  | _ => simp [keyIs] at hk
def RM (g : G) (w : World) : List (D × V) → List MapEntry → Prop
 | [], [] => True
 | (k, v) :: es, x :: xs => (Rd w (imm g w) k x.key ∧ RV g w v x.val) ∧ RM g w es xs
 | _, _ => False
theorem mfind_ok {kk : KeyKind} {t : TypeId} {d : TypeDesc} {k : D} {kv : Value} (ht : KeyTy P t kk) (hd : P.underlying t = some d) (hk : keyIs kk k = true) (h1 : Rd w (imm g w) k kv) :
  ∀ {es : List (D × V)} {xs : List MapEntry} {i : Nat} {r : Option (Nat × V)}, RM g w es xs → mfind k es i = some r →
   (r = none ∧ Instr.findNow d kv xs i = some none) ∨ ∃ j v x, r = some (i + j, v) ∧ xs[j]? = some x ∧ Instr.findNow d kv xs i = some (some (i + j, x.val)) ∧ RV g w v x.val ∧ Instr.sameNow d kv x.key = some true ∧ j < es.length
 | [], [], i, r, _, h => by simp [mfind] at h; subst h; exact .inl ⟨rfl, rfl⟩
 | (k2, v2) :: es, x :: xs, i, r, hm, h => by
  simp only [RM] at hm
  simp only [mfind] at h
  cases hb : dEq k k2 with
  | none => simp [hb] at h
  | some b =>
   have hs := sameNow_eq ht hd hk h1 hm.1.1 hb
   cases b with
   | true =>
    simp [hb] at h; subst h
    exact .inr ⟨0, v2, x, rfl, rfl, by simp [Instr.findNow, hs], hm.1.2, hs, by simp⟩
   | false =>
    simp only [hb] at h
    rcases mfind_ok ht hd hk h1 hm.2 h with ⟨e1, e2⟩ | ⟨j, v, y, e1, e2, e3, e4, e5, e6⟩
    ·exact .inl ⟨e1, by simp [Instr.findNow, hs, e2]⟩
    ·refine .inr ⟨j + 1, v, y, by rw [e1]; congr 2; omega, by simpa using e2, ?_, e4, e5, by simp; omega⟩
     simp only [Instr.findNow, hs, e3]
     congr 3; omega
 | [], _ :: _, _, _, h, _ => by simp only [RM] at h
 | _ :: _, [], _, _, h, _ => by simp only [RM] at h
theorem RM.of {es : List (D × V)} {ents : Array MapEntry} (hs : ents.size = es.length) (h : ∀ (i : Nat) (k : D) (v : V), es[i]? = some (k, v) → ∃ x, ents[i]? = some x ∧ Rd w (imm g w) k x.key ∧ RV g w v x.val) : RM g w es ents.toList := by
 have hl : es.length = ents.toList.length := by simp [hs]
 have h' : ∀ (i : Nat) (k : D) (v : V), es[i]? = some (k, v) → ∃ x, ents.toList[i]? = some x ∧ Rd w (imm g w) k x.key ∧ RV g w v x.val := by
  intro i k v hi
  obtain ⟨x, hx, hr⟩ := h i k v hi
  exact ⟨x, by simpa using hx, hr⟩
 clear h hs
 generalize ents.toList = xs at *
 induction es generalizing xs with
 | nil =>
  cases xs with
  | nil => simp only [RM]
  | cons => simp at hl
 | cons e es ih =>
  obtain ⟨k, v⟩ := e
  cases xs with
  | nil => simp at hl
  | cons x xs =>
   simp only [RM]
   obtain ⟨y, hy, h1, h2⟩ := h' 0 k v rfl
   simp at hy; subst hy
   exact ⟨⟨h1, h2⟩, ih xs (by simpa using hl) (fun i k v hi => h' (i + 1) k v (by simpa using hi))⟩
theorem g_lookup {t kt el : TypeId} {m k : Operand} {m' k' : Opd} {kk : KeyKind} {z : V} {ok : Bool} {v : V} (ho : o.op = .lookup t m k ok) (ht : P.underlying t = some (.map kt el)) (hkt : KeyTy P kt kk) (hz : zeroV P el = some z)
  (hm : compOpd m = some m') (hk : compOpd k = some k') (h : eff ρ H ns (.lookup kk z ok m' k') = some (v, none)) (ev : Ev ρ a g w) (hh : HeapOK g w H) : Good P a o g w ns v H := by
 have hvm := ev _ _ hm
 have hvk := ev _ _ hk
 simp only [zeroV, Option.bind_eq_some_iff] at hz
 obtain ⟨zv, ⟨i, hi, hzi⟩, hzv⟩ := hz
 have hzrv : RV g w z zv := toV_RV hzv
 simp only [eff] at h
 split at h
 ·rename_i kd ek
  cases hki : keyIs kk kd with
  | false => rw [hki] at h; cases h
  | true =>
   rw [hki] at h
   simp only [cond_true] at h
   split at h
   ·rename_i es hes
    rw [ek] at hvk
    simp only [RV] at hvk
    have hd : ∃ d, P.underlying kt = some d := by
     cases kk with
     | int => obtain ⟨q, hq⟩ := hkt; exact ⟨_, hq⟩
     | str => exact ⟨_, hkt⟩
     | bool => exact ⟨_, hkt⟩
    obtain ⟨d, hd⟩ := hd
    have hent : ∃ xs : Array MapEntry, RM g w es xs.toList ∧ ((a.eval m = .map none ∧ xs = #[]) ∨ ∃ r clock, a.eval m = .map (some r) ∧ w.heap[r]? = some (.map xs clock)) := by
     cases hmv : ρ m' with
     | nilm =>
      rw [hmv] at hvm hes
      simp only [RV] at hvm
      simp only [mapEs, Option.some.injEq] at hes; subst hes
      exact ⟨#[], by simp [RM], .inl ⟨hvm, rfl⟩⟩
     | map b =>
      rw [hmv] at hvm hes
      simp only [mapEs] at hes
      split at hes
      ·rename_i es' hg
       simp only [Option.some.injEq] at hes; subst hes
       obtain ⟨x, hx⟩ := hh.back b _ hg
       obtain ⟨_, y, hy, hr⟩ := hh.live b x hx
       rw [hg] at hy; simp only [Option.some.injEq] at hy; subst hy
       simp only [RV] at hvm
       obtain ⟨blk, rfl, hvm2⟩ := hvm.2 x hx
       simp only [RB] at hr
       obtain ⟨ents, clock, h1, h2, h3, h4, h5⟩ := hr
       exact ⟨ents, RM.of h2 (fun i k v hi => by obtain ⟨x, e1, e2, e3, e4⟩ := h3 i k v hi; exact ⟨x, e1, e3, e4⟩), .inr ⟨blk, clock, hvm2, h1⟩⟩
      ·cases hes
     | _ => rw [hmv] at hes; simp [mapEs] at hes
    obtain ⟨xs, hrm, hxs⟩ := hent
    have hck := fun b => checkKey_run (P := P) (w := w) hkt b (a.eval k)
    split at h
    ·rename_i j u hf
     simp only [Option.some.injEq, Prod.mk.injEq, and_true] at h
     rcases mfind_ok hkt hd hki hvk hrm hf with ⟨e1, _⟩ | ⟨j', v', x, e1, e2, e3, e4, _⟩
     ·cases e1
     ·simp only [Option.some.injEq, Prod.mk.injEq] at e1
      obtain ⟨_, rfl⟩ := e1
      refine Good.val (x := if ok then .tuple #[x.val, .bool true] else x.val) hh ?_ ?_
      ·rcases hxs with ⟨q1, rfl⟩ | ⟨r, clock, q1, q2⟩
       ·simp [Instr.findNow] at e3
       ·simp [execOp, ho, Instr.lookup, run_underlying ht, q1, getObj, Sem.run, q2, hck, Instr.findKey, run_underlying hd, e3]
      ·rw [← h]
       cases ok with
       | true => simp only [cond_true, if_true, RV]; exact ⟨_, rfl, by simp only [RVs]; exact ⟨e4, RV.mkB _, trivial⟩⟩
       | false => simpa using e4
    ·rename_i hf
     simp only [Option.some.injEq, Prod.mk.injEq, and_true] at h
     rcases mfind_ok hkt hd hki hvk hrm hf with ⟨_, e3⟩ | ⟨j', v', x, e1, _⟩
     ·refine Good.val (x := if ok then .tuple #[zv, .bool false] else zv) hh ?_ ?_
      ·rcases hxs with ⟨q1, rfl⟩ | ⟨r, clock, q1, q2⟩
       ·have hckt := hck true
        simp [execOp, ho, Instr.lookup, run_underlying ht, q1, hckt, Instr.findKey, run_underlying hd, Instr.findNow, run_zero hi hzi]
       ·simp [execOp, ho, Instr.lookup, run_underlying ht, q1, getObj, Sem.run, q2, hck, Instr.findKey, run_underlying hd, e3, run_zero hi hzi]
      ·rw [← h]
       cases ok with
       | true => simp only [cond_true, if_true, RV]; exact ⟨_, rfl, by simp only [RVs]; exact ⟨hzrv, RV.mkB _, trivial⟩⟩
       | false => simpa using hzrv
     ·cases e1
    ·cases h
   ·cases h
 ·cases h
theorem heap_set_self (w : World) (k : Nat) (x : Obj) (h : k < w.heap.size) : ({ w with heap := w.heap.setIfInBounds k x } : World).heap[k]? = some x := by
 simp [h]
theorem heap_set_ne (w : World) (k j : Nat) (x : Obj) (h : j ≠ k) : ({ w with heap := w.heap.setIfInBounds k x } : World).heap[j]? = w.heap[j]? := by
 simp only [Array.getElem?_setIfInBounds_ne (Ne.symm h)]
theorem sameBits_of {kk : KeyKind} {t : TypeId} {d : TypeDesc} {kv xv : Value} (ht : KeyTy P t kk) (hd : P.underlying t = some d) (h : Instr.sameNow d kv xv = some true) : Instr.sameBits 10000 xv kv = true := by
 have hcases : (∃ q, d = .int q) ∨ d = .string ∨ d = .bool := by
  cases kk with
  | int => obtain ⟨k, hk⟩ := ht; rw [hd] at hk; simp only [Option.some.injEq] at hk; exact .inl ⟨k, hk⟩
  | str => simp only [KeyTy] at ht; rw [hd] at ht; simp only [Option.some.injEq] at ht; exact .inr (.inl ht)
  | bool => simp only [KeyTy] at ht; rw [hd] at ht; simp only [Option.some.injEq] at ht; exact .inr (.inr ht)
 rcases hcases with ⟨q, rfl⟩ | rfl | rfl
 ·cases kv <;> cases xv <;> simp [Instr.sameNow] at h
  obtain ⟨rfl, rfl⟩ := h
  simp [Instr.sameBits]
 ·cases kv <;> cases xv <;> simp [Instr.sameNow] at h
  rename_i s t
  have e : s = t := by
   rw [ba_beq, bytesEq_iff] at h
   exact ByteArray.ext (Array.ext' (by simpa using h))
  subst e
  have e2 : (s == s) = true := by rw [ba_beq, bytesEq_iff]; simp
  simpa [Instr.sameBits] using e2
 ·cases kv <;> cases xv <;> simp [Instr.sameNow] at h
  subst h
  simp [Instr.sameBits]
theorem g_mapUpd {t kt el : TypeId} {m k x : Operand} {m' k' x' : Opd} {kk : KeyKind} {v : V} {wr : Wr} (ho : o.op = .mapUpdate t m k x) (ht : P.underlying t = some (.map kt el)) (hkt : KeyTy P kt kk)
  (hm : compOpd m = some m') (hk : compOpd k = some k') (hx : compOpd x = some x') (h : eff ρ H ns (.mapUpd kk m' k' x') = some (v, wr)) (ev : Ev ρ a g w) (hh : HeapOK g w H) : Good P a o g w ns v (happ H wr) := by
 have hvm := ev _ _ hm
 have hvk := ev _ _ hk
 have hvx := ev _ _ hx
 simp only [eff] at h
 split at h
 ·rename_i b kd em ek
  cases hki : keyIs kk kd with
  | false => rw [hki] at h; cases h
  | true =>
   rw [hki] at h
   simp only [cond_true] at h
   split at h
   ·rename_i es hg
    rw [ek] at hvk
    rw [em] at hvm
    simp only [RV] at hvk hvm
    have hd : ∃ d, P.underlying kt = some d := by
     cases kk with
     | int => obtain ⟨q, hq⟩ := hkt; exact ⟨_, hq⟩
     | str => exact ⟨_, hkt⟩
     | bool => exact ⟨_, hkt⟩
    obtain ⟨d, hd⟩ := hd
    obtain ⟨xb, hxb⟩ := hh.back b _ hg
    obtain ⟨_, y, hy, hr⟩ := hh.live b xb hxb
    rw [hg] at hy; simp only [Option.some.injEq] at hy; subst hy
    obtain ⟨blk, rfl, hvm2⟩ := hvm.2 xb hxb
    simp only [RB] at hr
    obtain ⟨ents, clock, h1, h2, h3, h4, h5⟩ := hr
    have hlt : blk < w.heap.size := (Array.getElem?_eq_some_iff.1 h1).1
    have hrm : RM g w es ents.toList := RM.of h2 (fun i k v hi => by obtain ⟨x, e1, e2, e3, e4⟩ := h3 i k v hi; exact ⟨x, e1, e3, e4⟩)
    have hck := fun b => checkKey_run (P := P) (w := w) hkt b (a.eval k)
    have exts : ∀ o', Ext g w g { w with heap := w.heap.setIfInBounds blk o' } := fun o' =>
     Ext.write hxb rfl (hh.notFo hxb rfl) rfl rfl rfl (by simp) (fun j hj => heap_set_ne w blk j o' hj)
    split at h
    ·rename_i j u hf
     simp only [Option.some.injEq, Prod.mk.injEq] at h
     obtain ⟨rfl, rfl⟩ := h
     rcases mfind_ok hkt hd hki hvk hrm hf with ⟨e1, _⟩ | ⟨j', v', x0, e1, e2, e3, e4, e5, e6⟩
     ·cases e1
     ·simp only [Option.some.injEq, Prod.mk.injEq, Nat.zero_add] at e1
      obtain ⟨rfl, rfl⟩ := e1
      rw [Nat.zero_add] at e3
      have e2' : ents[j]? = some x0 := by simpa using e2
      have hsb := sameBits_of hkt hd e5
      refine ⟨g, _, .skip, ?_, .inr ⟨rfl, rfl⟩, ?_, exts (.map (ents.modify j fun e => { e with key := a.eval k, val := a.eval x }) clock), fun _ h => .inl h⟩
      ·simp [execOp, ho, Instr.mapUpdate, run_underlying ht, hvm2, getObj, setObj, Sem.run, h1, hck, Instr.findKey, run_underlying hd, e3, e2', Instr.keyThatStays, hsb]
      ·refine HeapOK.write hh _ hxb rfl (exts _) (fun q hq => heap_set_ne w blk q _ hq) ?_
       simp only [RB]
       refine ⟨_, clock, heap_set_self w blk _ hlt, by simp [h2], fun i k2 v2 hi => ?_, ?_⟩
       ·by_cases hij : i = j
        ·subst hij
         rw [List.getElem?_set_self (by omega)] at hi
         simp only [Option.some.injEq, Prod.mk.injEq] at hi
         obtain ⟨rfl, rfl⟩ := hi
         refine ⟨{ x0 with key := a.eval k, val := a.eval x }, by simp [Array.getElem?_modify, e2'], ?_, Rd.keeps (exts _).keeps _ _ hvk, RV.ext (exts _) _ _ hvx⟩
         obtain ⟨z, z1, z2, _⟩ := h3 i (es[i]'e6).1 (es[i]'e6).2 (List.getElem?_eq_getElem e6)
         rw [e2'] at z1; simp only [Option.some.injEq] at z1; subst z1
         exact z2
        ·rw [List.getElem?_set_ne (by omega)] at hi
         obtain ⟨z, z1, z2, z3, z4⟩ := h3 i k2 v2 hi
         exact ⟨z, by simp [Array.getElem?_modify, Ne.symm hij, z1], z2, Rd.keeps (exts _).keeps _ _ z3, RV.ext (exts _) _ _ z4⟩
       ·have hborn : ∀ (i : Nat) (p : MapEntry), (ents.modify j fun e => { e with key := a.eval k, val := a.eval x })[i]? = some p → ∃ q, ents[i]? = some q ∧ q.born = p.born := by
         intro i p hp
         rw [Array.getElem?_modify] at hp
         split at hp
         ·rename_i hij; subst hij
          rw [e2'] at hp
          simp at hp; subst hp
          exact ⟨x0, e2', rfl⟩
         ·exact ⟨p, hp, rfl⟩
        refine ⟨fun i p hp => ?_, by simp [h5]⟩
        obtain ⟨q, q1, q2⟩ := hborn i p hp
        rw [← q2]; exact h4 i q q1
    ·rename_i hf
     simp only [Option.some.injEq, Prod.mk.injEq] at h
     obtain ⟨rfl, rfl⟩ := h
     rcases mfind_ok hkt hd hki hvk hrm hf with ⟨_, e3⟩ | ⟨j', v', x0, e1, _⟩
     ·refine ⟨g, _, .skip, ?_, .inr ⟨rfl, rfl⟩, ?_, exts (.map (ents.push { key := a.eval k, val := a.eval x, born := clock }) (clock + 1)), fun _ h => .inl h⟩
      ·simp [execOp, ho, Instr.mapUpdate, run_underlying ht, hvm2, getObj, setObj, Sem.run, h1, hck, Instr.findKey, run_underlying hd, e3]
      ·refine HeapOK.write hh _ hxb rfl (exts _) (fun q hq => heap_set_ne w blk q _ hq) ?_
       simp only [RB]
       refine ⟨_, clock + 1, heap_set_self w blk _ hlt, by simp [h2], fun i k2 v2 hi => ?_, ?_⟩
       ·by_cases hij : i < es.length
        ·rw [List.getElem?_append_left hij] at hi
         obtain ⟨z, z1, z2, z3, z4⟩ := h3 i k2 v2 hi
         have hil : i < ents.size := by omega
         exact ⟨z, by rw [Array.getElem?_push, if_neg (by omega)]; exact z1, by omega, Rd.keeps (exts _).keeps _ _ z3, RV.ext (exts _) _ _ z4⟩
        ·have hie : i = es.length := by
          have := (List.getElem?_eq_some_iff.1 hi).1
          simp at this; omega
         subst hie
         rw [List.getElem?_append_right (Nat.le_refl _)] at hi
         simp at hi
         obtain ⟨rfl, rfl⟩ := hi
         exact ⟨{ key := a.eval k, val := a.eval x, born := clock }, by rw [Array.getElem?_push, if_pos h2.symm], by simp, Rd.keeps (exts _).keeps _ _ hvk, RV.ext (exts _) _ _ hvx⟩
       ·refine ⟨fun i p hp => ?_, by simp [h5]⟩
        rw [Array.getElem?_push] at hp
        split at hp
        ·rename_i hi
         simp only [Option.some.injEq] at hp; subst hp
         simp [h5, hi]
        ·exact h4 i p hp
     ·cases e1
    ·cases h
   ·cases h
 ·cases h
theorem foldMM_ok {isMax : Bool} {k : IntKind} : ∀ {l : List V} {xs : List Value} {n r : Int}, RVs g w l xs → foldMM isMax n l k = some r →
  (xs.foldlM (if isMax then Builtin.max2 else Builtin.min2) (.int k n)).run P w = .ok (.int k r) w
 | [], [], n, r, _, h => by simp [foldMM] at h; subst h; simp
 | v :: l, x :: xs, n, r, hv, h => by
  simp only [RVs] at hv
  cases v with
  | d y =>
   cases y with
   | int k2 m =>
    simp only [foldMM] at h
    split at h
    ·rename_i hk; subst hk
     have hx := RV.int hv.1
     subst hx
     have ih := foldMM_ok hv.2 h
     simp only [List.foldlM_cons, Sem.run_bind]
     cases isMax with
     | true =>
      simp only [if_true] at ih ⊢
      simp only [Builtin.max2, Sem.run_pure, Result.andThen_ok]
      have e : (if m > n then m else n) = (if n < m then m else n) := rfl
      rw [e]; exact ih
     | false =>
      simp only [Bool.false_eq_true, if_false] at ih ⊢
      simp only [Builtin.min2, Sem.run_pure, Result.andThen_ok]
      exact ih
    ·cases h
   | _ => simp [foldMM] at h
  | _ => simp [foldMM] at h
 | [], _ :: _, _, _, h, _ => by simp only [RVs] at h
 | _ :: _, [], _, _, h, _ => by simp only [RVs] at h
theorem g_minmax {isMax : Bool} {args : Array Operand} {ts : Array TypeId} {l : List Opd} {v : V} (ho : o.op = .call { callee := .builtin (if isMax then .max else .min), args := args, argTypes := ts }) (hl : mapO compOpd args.toList = some l) (h : eff ρ H ns (.minmax isMax l) = some (v, none)) (ev : Ev ρ a g w) (hh : HeapOK g w H) :
  Good P a o g w ns v H := by
 have hvs := mapOpds ev hl
 simp only [eff] at h
 split at h
 ·rename_i k n rest e
  simp only [Option.map_eq_some_iff, Prod.mk.injEq, and_true] at h
  obtain ⟨r, hr, rfl⟩ := h
  rw [e] at hvs
  cases hx : args.toList.map a.eval with
  | nil => rw [hx] at hvs; simp only [RVs] at hvs
  | cons x xs =>
   rw [hx] at hvs
   simp only [RVs] at hvs
   have hx0 := RV.int hvs.1
   subst hx0
   have hf := foldMM_ok (P := P) hvs.2 hr
   have hargs : (args.map a.eval).toList = .int k n :: xs := by rw [Array.toList_map, hx]
   refine Good.val hh ?_ (RV.mkI k r)
   cases isMax with
   | true =>
    have e2 : (Builtin.max_ ts o.type (args.map a.eval)).run P w = .ok (.int k r) w := by
     simp only [Builtin.max_, hargs]; exact hf
    simp [execOp, ho, resolve, invoke, builtin, e2]
   | false =>
    have e2 : (Builtin.min_ ts o.type (args.map a.eval)).run P w = .ok (.int k r) w := by
     simp only [Builtin.min_, hargs]; exact hf
    simp [execOp, ho, resolve, invoke, builtin, e2]
 ·cases h
end
end Fw

/-
 Operations, further: structs held against structs, the bytes of a string, make.
-/
namespace Fw
open Go
section
variable {P : Program} {a : Act} {o : Oper} {g : G} {w : World} {ρ : Opd → V} {H : Heap} {ns : Nat}
theorem keyKind_ty {t : TypeId} {k : KeyKind} (h : keyKind P t = some k) : KeyTy P t k := by
 unfold keyKind at h
 split at h <;> simp only [Option.some.injEq, reduceCtorEq] at h <;> subst h
 ·rename_i q hq; exact ⟨q, hq⟩
 ·rename_i hq; exact hq
 ·rename_i hq; exact hq
theorem equalIn_plain {k : KeyKind} {t : TypeId} {x y : D} {vx vy : Value} {im : Nat → Prop} {b : Bool} (ht : KeyTy P t k) (hk : keyIs k x = true) (h : dEq x y = some b) (h1 : Rd w im x vx) (h2 : Rd w im y vy) (d : Nat) :
  (Op.equalIn (d + 1) t vx vy).run P w = .ok b w := by
 cases k with
 | int =>
  obtain ⟨q, hq⟩ := ht
  cases x <;> simp [keyIs] at hk
  cases y <;> simp [dEq] at h
  obtain ⟨rfl, rfl⟩ := h
  simp only [Rd] at h1 h2; subst h1; subst h2
  simp [Op.equalIn, run_underlying hq]
 | str =>
  simp only [KeyTy] at ht
  cases x <;> simp [keyIs] at hk
  cases y <;> simp [dEq] at h
  simp only [Rd] at h1 h2
  obtain ⟨s1, rfl, rfl⟩ := h1
  obtain ⟨s2, rfl, rfl⟩ := h2
  have := ba_beq s1 s2
  rw [h] at this
  simp [Op.equalIn, run_underlying ht, this]
 | bool =>
  simp only [KeyTy] at ht
  cases x <;> simp [keyIs] at hk
  cases y <;> simp [dEq] at h
  subst h
  simp only [Rd] at h1 h2; subst h1; subst h2
  simp [Op.equalIn, run_underlying ht]
theorem aggOf_plain {t : TypeId} {k : KeyKind} (h : KeyTy P t k) : (isAgg t).run P w = .ok false w := by
 cases k with
 | int => obtain ⟨q, hq⟩ := h; simp [isAgg, run_underlying hq]
 | str => simp only [KeyTy] at h; simp [isAgg, run_underlying h]
 | bool => simp only [KeyTy] at h; simp [isAgg, run_underlying h]
theorem eqFields_ok (d : Nat) {xs ys : Array Value} : ∀ {fs : List Field} {n : Nat} {ks : List KeyKind} {us vs : List V} {b : Bool}, plainFields P n fs = some ks → eqRow ks us vs = some b → RVs g w us (xs.toList.drop n) → RVs g w vs (ys.toList.drop n) →
  (Op.eqFields (d + 1) xs ys fs).run P w = .ok b w
 | [], n, ks, us, vs, b, h1, h2, _, _ => by
  simp only [plainFields, Option.some.injEq] at h1; subst h1
  cases us <;> cases vs <;> simp [eqRow] at h2
  subst h2
  simp [Op.eqFields]
 | f :: fs, n, ks, us, vs, b, h1, h2, h3, h4 => by
  simp only [plainFields] at h1
  split at h1
  ·rename_i hc
   split at h1
   ·rename_i k ks' hk hks
    simp only [Option.some.injEq] at h1; subst h1
    cases us with
    | nil => simp [eqRow] at h2
    | cons u us =>
     obtain ⟨x, rfl⟩ : ∃ x, u = .d x := by
      cases u <;> first | exact ⟨_, rfl⟩ | simp [eqRow] at h2
     cases vs with
     | nil => simp [eqRow] at h2
     | cons v vs =>
      obtain ⟨y, rfl⟩ : ∃ y, v = .d y := by
       cases v <;> first | exact ⟨_, rfl⟩ | simp [eqRow] at h2
      simp only [eqRow] at h2
      cases hki : keyIs k x with
      | false => rw [hki] at h2; cases h2
      | true =>
       rw [hki] at h2
       simp only [cond_true] at h2
       have hkt := keyKind_ty hk
       have cell : ∀ (zs : Array Value) (z : D) (ws : List V), RVs g w (.d z :: ws) (zs.toList.drop n) → ∃ c, zs[n]? = some c ∧ Rd w (imm g w) z c ∧ RVs g w ws (zs.toList.drop (n + 1)) := by
        intro zs z ws h
        cases hd : zs.toList.drop n with
        | nil => rw [hd] at h; simp only [RVs] at h
        | cons c cs =>
         rw [hd] at h
         simp only [RVs, RV] at h
         refine ⟨c, ?_, h.1, ?_⟩
         ·have : (zs.toList.drop n)[0]? = some c := by rw [hd]; rfl
          rw [List.getElem?_drop] at this
          simpa using this
         ·have : zs.toList.drop (n + 1) = cs := by rw [← List.drop_drop, hd]; rfl
          rw [this]; exact h.2
       obtain ⟨c1, a1, a2, a3⟩ := cell xs x us h3
       obtain ⟨c2, b1, b2, b3⟩ := cell ys y vs h4
       have hag := aggOf_plain (P := P) (w := w) hkt
       have p1 : (part f.type xs f.offset).run P w = .ok c1 w := by rw [hc.1]; simp [part, hag, a1]
       have p2 : (part f.type ys f.offset).run P w = .ok c2 w := by rw [hc.1]; simp [part, hag, b1]
       simp only [Op.eqFields, hc.2, ne_eq, not_false_eq_true, if_true, Sem.run_bind, p1, p2, Result.andThen_ok]
       cases hde : dEq x y with
       | none => rw [hde] at h2; cases h2
       | some r =>
        rw [equalIn_plain hkt hki hde a2 b2 d]
        rw [hde] at h2
        cases r with
        | true =>
         simp only at h2
         simp only [Result.andThen_ok, Bool.not_true, Bool.false_eq_true, if_false]
         exact eqFields_ok d hks h2 a3 b3
        | false =>
         simp only [Option.some.injEq] at h2; subst h2
         simp
   ·cases h1
  ·cases h1
theorem g_eqS {op : BinOp} {t yt : TypeId} {x y : Operand} {x' y' : Opd} {ks : List KeyKind} {us vs : List V} {b neg : Bool} (ho : o.op = .binOp op t x y yt) (hop : (op = .eql ∧ neg = false) ∨ (op = .neq ∧ neg = true)) (hp : plainStruct P t = some ks)
  (hx : compOpd x = some x') (hy : compOpd y = some y') (e1 : ρ x' = .agg us) (e2 : ρ y' = .agg vs) (h : eqRow ks us vs = some b) (ev : Ev ρ a g w) (hh : HeapOK g w H) :
  Good P a o g w ns (.d (.bool (bif neg then !b else b))) H := by
 have hvx := ev _ _ hx
 have hvy := ev _ _ hy
 rw [e1] at hvx; rw [e2] at hvy
 simp only [RV] at hvx hvy
 obtain ⟨xs, f1, r1⟩ := hvx
 obtain ⟨ys, f2, r2⟩ := hvy
 unfold plainStruct at hp
 split at hp
 ·rename_i fs hu
  split at hp
  ·rename_i hc
   have hfo : P.fieldsOf t = fs := by simp [Program.fieldsOf, hu]
   have key : ∀ d, (Op.equalIn (d + 2) t (.agg xs) (.agg ys)).run P w = .ok b w := by
    intro d
    rw [run_equalIn_struct w (d + 1) t xs ys (by rw [hfo]; exact hu) hc.1, hfo]
    exact eqFields_ok d hp h (by simpa using r1) (by simpa using r2)
   have heq : (Op.equal t (.agg xs) (.agg ys)).run P w = .ok b w := key 9998
   have hgd : (eqGuard op t x y (.agg xs) (.agg ys)).run P w = .ok () w := run_eqGuard_agg w op t x y xs ys hc.2
   refine Good.val (x := .bool (bif neg then !b else b)) hh ?_ (RV.mkB _)
   rcases hop with ⟨rfl, rfl⟩ | ⟨rfl, rfl⟩ <;> simp [execOp, ho, f1, f2, hgd, binOp, heq]
  ·cases hp
 ·cases hp
theorem freeze_block {w : World} {b o n k : Nat} (h : k ≠ b) : (w.freeze ⟨b, o, none⟩ n).heap[k]? = w.heap[k]? := by
 unfold World.freeze
 split
 ·rfl
 ·simp only [Array.getElem?_modify]
  rw [if_neg (by omega)]
theorem freeze_size {w : World} {a : Addr} {n : Nat} : (w.freeze a n).heap.size = w.heap.size := by
 unfold World.freeze
 split <;> simp
theorem Ext.newFrozen {g : G} {w : World} {H : Heap} (hh : HeapOK g w H) (o : Obj) (q n : Nat) : Ext g w g ((w.alloc o).freeze ⟨w.heap.size, q, none⟩ n) := by
 have hk : ∀ k, k < w.heap.size → ((w.alloc o).freeze ⟨w.heap.size, q, none⟩ n).heap[k]? = w.heap[k]? := by
  intro k hk
  rw [freeze_block (by omega), heap_push_lt _ _ hk]
 have h1 : ∀ (w' : World) (a : Addr), (w'.freeze a n).os = w'.os ∧ (w'.freeze a n).tape = w'.tape ∧ (w'.freeze a n).output = w'.output := by
  intro w' a; unfold World.freeze; split <;> exact ⟨rfl, rfl, rfl⟩
 obtain ⟨e1, e2, e3⟩ := h1 (w.alloc o) ⟨w.heap.size, q, none⟩
 refine ⟨e1, e2, e3, by rw [freeze_size]; simp, fun k hk2 => ⟨⟨by rw [freeze_size]; have := hk2.1; simp; omega, hk2.2⟩, hk k hk2.1⟩, fun _ h => h, fun _ _ => GB.step.refl _, rfl, fun k hk2 => hk k (hh.fo k hk2).1⟩
theorem run_mark (c : Array Value) (e : TypeId) (w : World) : (markStringish ⟨w.heap.size, 0, none⟩).run P (w.alloc (.cells c e)) = .ok () ((w.alloc (.cells c e)).freeze ⟨w.heap.size, c.size, none⟩ 1) := by
 have h : (w.alloc (.cells c e)).shape? w.heap.size = some (e, c.size) := by
  unfold World.shape?
  rw [heap_push_self]
 simp only [markStringish, Sem.run_bind, run_shape, h, Result.andThen_ok, run_freeze]
theorem g_strBytes {s d e : TypeId} {x : Operand} {x' : Opd} {l : List UInt8} (ho : o.op = .convert s d x) (hs : P.underlying s = some .string) (hd : P.underlying d = some (.slice e)) (he : P.underlying e = some (.int .u8)) (hx : compOpd x = some x') (ex : ρ x' = .d (.str l)) (ev : Ev ρ a g w) (hh : HeapOK g w H) :
  Good P a o g w ns (.d (.list (l.map fun b => [.int .u8 b.toNat]))) H := by
 have hv := ev _ _ hx
 rw [ex] at hv
 obtain ⟨b, hb, rfl⟩ := RV.str hv
 have hrun : ∃ (cap : Nat) (fz : Nat), b.size ≤ cap ∧ (execOp a.eval o).run P w = .ok (.value (.slice (some ⟨w.heap.size, 0, none⟩) b.size cap))
   ((w.drew.alloc (.cells ((b.data.map fun x => (Value.int .u8 x.toNat)) ++ Array.replicate (cap - b.size) (.int .u8 0)) e)).freeze ⟨w.heap.size, fz, none⟩ 1) := by
  have hm := run_mark (P := P) ((b.data.map fun (x : UInt8) => (Value.int .u8 x.toNat)) ++ Array.replicate ((Question.appendCap b.size 0 e).cut (w.tape w.drawn (.appendCap b.size 0 e)) - b.size) (Value.int .u8 0)) e w.drew
  refine ⟨(Question.appendCap b.size 0 e).cut (w.tape w.drawn (.appendCap b.size 0 e)), ((b.data.map fun (x : UInt8) => (Value.int .u8 x.toNat)) ++ Array.replicate ((Question.appendCap b.size 0 e).cut (w.tape w.drawn (.appendCap b.size 0 e)) - b.size) (Value.int .u8 0)).size, ?_, ?_⟩
  ·simp [Question.cut]
  ·have hd0 : w.drew.heap.size = w.heap.size := rfl
   rw [hd0] at hm
   simp only [execOp, ho, hb, convert, Sem.run_bind, run_underlying hs, run_underlying hd, run_underlying he, Result.andThen_ok, Conv.stringToBytes, run_choose, Question.forced, newRow, run_newObj, Sem.run_pure, Bool.false_eq_true, if_false]
   erw [hm]
   rfl
 obtain ⟨cap, fz, hcap, hr⟩ := hrun
 have hhd := hh.drew
 have he2 := Ext.newFrozen (w := w.drew) hhd (.cells ((b.data.map fun x => (Value.int .u8 x.toNat)) ++ Array.replicate (cap - b.size) (.int .u8 0)) e) fz 1
 have hext := (drewExt g w).trans he2
 have hown : ∀ c y k, g.γ c = some y → y.own = some k → ((w.drew.alloc (.cells ((b.data.map fun x => (Value.int .u8 x.toNat)) ++ Array.replicate (cap - b.size) (.int .u8 0)) e)).freeze ⟨w.heap.size, fz, none⟩ 1).heap[k]? = w.heap[k]? := by
  intro c y k hy hk
  obtain ⟨_, z, _, h3⟩ := hh.live c y hy
  have := h3.lt k hk
  rw [freeze_block (by omega)]
  exact heap_push_lt w.drew _ this
 refine ⟨g, _, _, hr, .inl ⟨_, rfl, ?_⟩, hh.ext hext hown, hext, fun _ h => .inl h⟩
 have hcell : ∀ j, j < b.size → ((w.drew.alloc (.cells ((b.data.map fun x => (Value.int .u8 x.toNat)) ++ Array.replicate (cap - b.size) (.int .u8 0)) e)).freeze ⟨w.heap.size, fz, none⟩ 1).cell? ⟨w.heap.size, j, none⟩ = (b.data.toList[j]?).map fun x => Value.int .u8 x.toNat := by
  intro j hj
  have hlt : w.drew.heap.size < (w.drew.alloc (.cells ((b.data.map fun x => (Value.int .u8 x.toNat)) ++ Array.replicate (cap - b.size) (.int .u8 0)) e)).heap.size := by simp
  have hobj := heap_push_self w.drew (.cells ((b.data.map fun x => (Value.int .u8 x.toNat)) ++ Array.replicate (cap - b.size) (.int .u8 0)) e)
  have hfr : ∃ fr, ((w.drew.alloc (.cells ((b.data.map fun x => (Value.int .u8 x.toNat)) ++ Array.replicate (cap - b.size) (.int .u8 0)) e)).freeze ⟨w.heap.size, fz, none⟩ 1).heap[w.heap.size]? = some (.cells ((b.data.map fun x => (Value.int .u8 x.toNat)) ++ Array.replicate (cap - b.size) (.int .u8 0)) e fr) := by
   unfold World.freeze
   rw [if_neg (by omega)]
   simp only [Array.getElem?_modify, if_true]
   have : w.drew.heap.size = w.heap.size := rfl
   rw [← this, hobj]
   simp
  obtain ⟨fr, hfr⟩ := hfr
  simp only [World.cell?, hfr]
  have hj2 : j < b.data.size := hj
  rw [Array.getElem?_append_left (by simpa using hj2)]
  simp
 simp only [RV, Rd]
 refine .inr ⟨w.heap.size, 0, cap, 1, by simp, by simpa using hcap, fun _ => ⟨by rw [freeze_size]; simp, fun hf => by have := (hh.fo _ hf).1; omega, fun c y hy hk => ?_⟩, RdE.of_get fun i e' he' => ?_⟩
 ·obtain ⟨_, z, _, h3⟩ := hh.live c y hy
  have := h3.lt _ hk; omega
 ·simp only [List.getElem?_map, Option.map_eq_some_iff] at he'
  obtain ⟨c, hc, rfl⟩ := he'
  have hi : i < b.size := by have := (List.getElem?_eq_some_iff.1 hc).1; simpa using this
  refine ⟨rfl, ?_⟩
  simp only [RdC, and_true, Nat.zero_add, Nat.mul_one]
  refine ⟨.int .u8 c.toNat, ?_, by simp only [Rd]⟩
  rw [hcell i hi, hc]; rfl
theorem wrap_small {n : Nat} (h : n ≤ roomB) : IntKind.i64.wrap (n : Int) = n := by
 have h2 : roomB = 1099511627776 := by decide
 unfold IntKind.wrap
 have e1 : (2 : Int) ^ IntKind.i64.bits = 18446744073709551616 := by decide
 have e2 : (2 : Int) ^ (IntKind.i64.bits - 1) = 9223372036854775808 := by decide
 rw [e1, e2]
 have : (n : Int) % 18446744073709551616 = n := Int.emod_eq_of_lt (by omega) (by omega)
 rw [this]
 have : ¬ ((n : Int) ≥ 9223372036854775808) := by omega
 simp [this]
theorem g_mkRow {t e : TypeId} {i : TypeInfo} {zs : List V} {l c : Operand} {l' c' : Opd} {v : V} {wr : Wr} (ho : o.op = .makeSlice t l c) (ht : P.underlying t = some (.slice e)) (hi : P.info? e = some i) (hz : zeroOf P e = some zs) (hl : compOpd l = some l') (hc : compOpd c = some c')
  (h : eff ρ H ns (.mkRow i.size i.bytes zs l' c') = some (v, wr)) (ev : Ev ρ a g w) (hh : HeapOK g w H) (hns : Fresh g ns) : Good P a o g w ns v (happ H wr) := by
 simp only [zeroOf, Option.bind_eq_some_iff] at hz
 obtain ⟨zv, ⟨i2, hi2, hzv⟩, hm⟩ := hz
 rw [hi] at hi2; simp only [Option.some.injEq] at hi2; subst hi2
 obtain ⟨hv, hok⟩ := mapO_toC (g := g) (w := w) hm
 simp only [eff] at h
 split at h
 ·rename_i ln cn el ec
  cases hb : (Nat.ble ln cn && Nat.ble (cn * (i.bytes + 1)) roomB && Nat.ble cn roomB && zs.all okC && Nat.beq zs.length i.size && Nat.blt 0 i.size) with
  | false => rw [hb] at h; cases h
  | true =>
   rw [hb] at h
   simp only [cond_true, Option.some.injEq, Prod.mk.injEq] at h
   obtain ⟨rfl, rfl⟩ := h
   simp only [Bool.and_eq_true] at hb
   have b1 := Nat.le_of_ble_eq_true hb.1.1.1.1.1
   have b2 := Nat.le_of_ble_eq_true hb.1.1.1.1.2
   have b3 := Nat.le_of_ble_eq_true hb.1.1.1.2
   have b4 := Nat.eq_of_beq_eq_true hb.1.2
   have b5 : 0 < i.size := by have := hb.2; rwa [Nat.blt_eq] at this
   have hr2 : roomB = 1099511627776 := by decide
   obtain ⟨kl, hkl⟩ := natOf_ok el (ev _ _ hl)
   obtain ⟨kc, hkc⟩ := natOf_ok ec (ev _ _ hc)
   have hzs : zv.cells.size = i.size := by have := hv.length; simp at this; omega
   have w1 := wrap_small (n := ln) (by omega)
   have w2 := wrap_small (n := cn) b3
   have hcb : i.bytes * cn ≤ 1099511627776 := by
    have : cn * i.bytes ≤ cn * (i.bytes + 1) := Nat.mul_le_mul_left _ (by omega)
    rw [Nat.mul_comm]; omega
   have hbig : ¬ ((cn : Int) < 0) := by omega
   have hrun : (execOp a.eval o).run P w = .ok (.value (.slice (some ⟨w.heap.size, 0, none⟩) ln cn)) (w.alloc (.cells ((Array.range (cn * i.size)).map (zv.cells[· % zv.cells.size]!)) e)) := by
    have hl0 : ¬ ((ln : Int) < 0) := by omega
    have hlc : ¬ ((ln : Int) > (cn : Int)) := by omega
    by_cases hn0 : cn = 0
    ·subst hn0
     have : ln = 0 := by omega
     subst this
     have w0 : IntKind.i64.wrap 0 = 0 := by decide
     simp [execOp, ho, Instr.makeSlice, run_underlying ht, hkl, hkc, asInt, asIntOf, typeInfo, hi, w0, Go.sizeOf, newRow, show Array.range 0 = #[] from rfl]
    ·have hn1 : ¬ (cn = 0 ∨ i.size = 0) := by omega
     have hcb2 : ¬ (281474976710656 < (i.bytes : Int) * (cn : Int)) := by rw [← Int.natCast_mul]; omega
     have hcz : ¬ (cn * i.size = 0) := by rw [Nat.mul_eq_zero]; omega
     have hlc2 : ¬ ((cn : Int) < (ln : Int)) := by omega
     simp [execOp, ho, Instr.makeSlice, run_underlying ht, hkl, hkc, asInt, asIntOf, typeInfo, hi, w1, w2, hcb2, hl0, hlc2, hbig, Go.sizeOf, hn1, hcz, zeroValue, hzv, newRow]
   have hns' := hns
   let g' := g.add ns (.cells w.heap.size (cn * i.size) (ln * i.size))
   have he := Ext.new hh hns (.cells ((Array.range (cn * i.size)).map (zv.cells[· % zv.cells.size]!)) e) (.cells w.heap.size (cn * i.size) (ln * i.size)) rfl
   have hle : ln * i.size ≤ cn * i.size := Nat.mul_le_mul_right _ b1
   refine ⟨g', _, _, hrun, .inl ⟨_, rfl, ?_⟩, HeapOK.new hh hns _ _ _ rfl ?_, he, fun _ h => h⟩
   ·exact RV.mkSl (cp := cn * i.size) (.inr rfl) (by simp [g', G.add]) b1 (by omega)
   ·simp only [RB]
    have hallok : ((List.range (ln * i.size)).map fun j => zs.getD (j % i.size) .any).all okC = true := by
     simp only [List.all_eq_true, List.mem_map, List.mem_range]
     rintro x ⟨j, _, rfl⟩
     have := Nat.mod_lt j b5
     rw [List.getD_eq_getElem?_getD, List.getElem?_eq_getElem (by omega)]
     exact (List.all_eq_true.1 hok) _ (List.getElem_mem _)
    refine ⟨by simp, hallok, by simpa using hle, _, e, heap_push_self _ _, by simp, ?_⟩
    refine RVs.ext he _ _ (RVs.of_get (by simp [Nat.min_eq_left hle]) fun j u x hu hx => ?_)
    simp only [List.length_map, List.length_range] at hx
    rw [List.getElem?_take] at hx
    split at hx
    ·rename_i hj
     rw [zeros_eq _ (by omega)] at hx
     have hj2 : j < cn * i.size := by omega
     rw [if_pos hj2, hzs] at hx
     simp [hj] at hu
     subst hu
     have hjm := Nat.mod_lt j b5
     have hg : zs[j % i.size]? = some (zs[j % i.size]'(by omega)) := List.getElem?_eq_getElem _
     rw [hg, Option.getD_some]
     obtain ⟨v', h5, h6⟩ := RVs.get (j % i.size) hv hg
     simp at h5 hx
     rw [hx] at h5
     simp only [Option.some.injEq] at h5; subst h5
     exact h6
    ·cases hx
 ·cases h
theorem g_cap {t e : TypeId} {x : Operand} {x' : Opd} {v : V} {wr : Wr} (ho : o.op = .call { callee := .builtin .cap, args := #[x], argTypes := #[t] }) (ht : P.underlying t = some (.slice e)) (hx : compOpd x = some x')
  (h : eff ρ H ns (.cap x') = some (v, wr)) (ev : Ev ρ a g w) (hh : HeapOK g w H) : Good P a o g w ns v (happ H wr) := by
 have hvx := ev _ _ hx
 simp only [eff] at h
 split at h
 ·rename_i e1
  rw [e1] at hvx
  simp only [RV] at hvx
  simp only [Option.some.injEq, Prod.mk.injEq] at h
  obtain ⟨rfl, rfl⟩ := h
  refine Good.val (x := .int .i64 0) hh ?_ (RV.mkI _ _)
  simp [execOp, ho, resolve, invoke, builtin, Builtin.cap_, run_underlying ht, hvx, goInt]
 ·cases h
theorem g_appendN {t u e : TypeId} {k : IntKind} {i : TypeInfo} {zs : List V} {x y : Operand} {x' y' : Opd} {v : V} {wr : Wr} (ho : o.op = .call { callee := .builtin .append, args := #[x, y], argTypes := #[t, u] })
  (ht : P.underlying t = some (.slice e)) (hu : P.underlying u = some (.int k)) (hi : P.info? e = some i) (hz : zeroOf P e = some zs)
  (hx : compOpd x = some x') (hy : compOpd y = some y') (h : eff ρ H ns (.appendN i.size i.bytes zs x' y') = some (v, wr)) (ev : Ev ρ a g w) (hh : HeapOK g w H) (hns : Fresh g ns) : Good P a o g w ns v (happ H wr) := by
 simp only [zeroOf, Option.bind_eq_some_iff] at hz
 obtain ⟨zv, ⟨i2, hi2, hzv⟩, hm⟩ := hz
 rw [hi] at hi2; simp only [Option.some.injEq] at hi2; subst hi2
 obtain ⟨hv, hok⟩ := mapO_toC (g := g) (w := w) hm
 have hvx := ev _ _ hx
 simp only [eff] at h
 split at h
 ·rename_i n e1 en
  rw [e1] at hvx
  simp only [RV] at hvx
  cases hb : (Nat.blt 0 n && Nat.ble (n * (i.bytes + 1)) roomB && Nat.ble n roomB && zs.all okC && Nat.beq zs.length i.size && Nat.blt 0 i.size) with
  | false => rw [hb] at h; cases h
  | true =>
   rw [hb] at h
   simp only [cond_true, Option.some.injEq, Prod.mk.injEq] at h
   obtain ⟨rfl, rfl⟩ := h
   simp only [Bool.and_eq_true] at hb
   have b0 : 0 < n := by have := hb.1.1.1.1.1; rwa [Nat.blt_eq] at this
   have b2 := Nat.le_of_ble_eq_true hb.1.1.1.1.2
   have b3 := Nat.le_of_ble_eq_true hb.1.1.1.2
   have b4 := Nat.eq_of_beq_eq_true hb.1.2
   have b5 : 0 < i.size := by have := hb.2; rwa [Nat.blt_eq] at this
   have hr2 : roomB = 1099511627776 := by decide
   obtain ⟨kn, hkn⟩ := natOf_ok en (ev _ _ hy)
   have hzs : zv.cells.size = i.size := by have := hv.length; simp at this; omega
   have w1 := wrap_small (n := n) b3
   have hcb : n * i.bytes ≤ 1099511627776 := by
    have : n * i.bytes ≤ n * (i.bytes + 1) := Nat.mul_le_mul_left _ (by omega)
    omega
   have hl0 : ¬ ((n : Int) < 0) := by omega
   have hcb2 : ¬ (281474976710656 < (n : Int) * (i.bytes : Int)) := by rw [← Int.natCast_mul]; omega
   have hcz : ¬ (n * i.size = 0) := by rw [Nat.mul_eq_zero]; omega
   have hn0 : ¬ (n = 0 ∨ i.size = 0) := by omega
   have hn00 : ¬ n = 0 := by omega
   have h63 : ¬ (9223372036854775807 < (n : Int)) := by omega
   have hnx : Builtin.nextslicecap n 0 = n := by simp [Builtin.nextslicecap, b0]
   have hfit : ¬ (281474976710656 < n * i.bytes) := by omega
   have hrun : (execOp a.eval o).run P w = .ok (.value (.slice (some ⟨w.heap.size, 0, none⟩) n (grownCap w n 0 e))) (w.drew.alloc (.cells (Builtin.zeroCells zv.cells n ++ Builtin.zeroCells zv.cells (grownCap w n 0 e - n)) e)) := by
    simp [execOp, ho, resolve, invoke, builtin, Builtin.append_, run_underlying ht, run_underlying hu, hvx, hkn, asInt, asIntOf, w1, hl0, hcb2, hcz, hn0, hn00, h63, hnx, hfit, Go.sizeOf, typeInfo, zeroValue, hi, hzv, Question.forced, Builtin.firstCells, newRow, grownCap]
   have hge := grownCap_ge w n 0 e
   have hsz : (Builtin.zeroCells zv.cells n ++ Builtin.zeroCells zv.cells (grownCap w n 0 e - n)).size = grownCap w n 0 e * i.size := by
    simp only [Array.size_append, size_zeroCells, hzs, ← Nat.add_mul]
    congr 1; omega
   have hle : n * i.size ≤ grownCap w n 0 e * i.size := Nat.mul_le_mul_right _ hge
   let g' := g.add ns (.cells w.heap.size (grownCap w n 0 e * i.size) (n * i.size))
   have hd := drewExt g w
   have he := Ext.new hh.drew hns (.cells (Builtin.zeroCells zv.cells n ++ Builtin.zeroCells zv.cells (grownCap w n 0 e - n)) e) (.cells w.heap.size (grownCap w n 0 e * i.size) (n * i.size)) rfl
   refine ⟨g', _, _, hrun, .inl ⟨_, rfl, ?_⟩, HeapOK.new hh.drew hns _ _ _ rfl ?_, hd.trans he, fun _ h => h⟩
   ·exact RV.mkSl (cp := grownCap w n 0 e * i.size) (.inr rfl) (by simp [g', G.add]) hge (by omega)
   ·simp only [RB]
    have hallok : ((List.range (n * i.size)).map fun j => zs.getD (j % i.size) .any).all okC = true := by
     simp only [List.all_eq_true, List.mem_map, List.mem_range]
     rintro x ⟨j, _, rfl⟩
     have := Nat.mod_lt j b5
     rw [List.getD_eq_getElem?_getD, List.getElem?_eq_getElem (by omega)]
     exact (List.all_eq_true.1 hok) _ (List.getElem_mem _)
    refine ⟨by simp, hallok, by simpa using hle, _, e, heap_push_self _ _, by rw [hsz]; exact Nat.le_refl _, ?_⟩
    refine RVs.ext he _ _ (RVs.ext hd _ _ (RVs.of_get ?_ fun j u x hu hx => ?_))
    ·simp only [List.length_map, List.length_range, List.length_take, Array.length_toList, hsz]
     omega
    ·simp only [List.length_map, List.length_range] at hx
     rw [List.getElem?_take] at hx
     split at hx
     ·rename_i hj
      simp [hj] at hu
      subst hu
      have hj3 : j < (Builtin.zeroCells zv.cells n).size := by rw [size_zeroCells, hzs]; exact hj
      have hx2 : (Builtin.zeroCells zv.cells n)[j]? = some x := by
       rw [Array.toList_append, List.getElem?_append_left (by simpa using hj3)] at hx
       simpa using hx
      have hx3 : ((Array.range (n * i.size)).map (zv.cells[· % zv.cells.size]!)).toList[j]? = some x := by
       have : Builtin.zeroCells zv.cells n = (Array.range (n * i.size)).map (zv.cells[· % zv.cells.size]!) := by simp only [Builtin.zeroCells, hzs]
       rw [← this]; simpa using hx2
      rw [zeros_eq _ (by omega), if_pos hj, hzs] at hx3
      have hjm := Nat.mod_lt j b5
      have hg : zs[j % i.size]? = some (zs[j % i.size]'(by omega)) := List.getElem?_eq_getElem _
      rw [hg, Option.getD_some]
      obtain ⟨v', h5, h6⟩ := RVs.get (j % i.size) hv hg
      simp at h5 hx3
      rw [hx3] at h5
      simp only [Option.some.injEq] at h5; subst h5
      exact h6
     ·cases hx
 ·cases h
end
end Fw

/-
 Every operation that calls nothing.
-/
namespace Fw
open Go
section
variable {P : Program} {a : Act} {o : Oper} {g : G} {w : World} {ρ : Opd → V} {H : Heap} {ns : Nat}
theorem g_len {t : TypeId} {x : Operand} {x' : Opd} {k : LenKind} {v : V} {c : Call} (ho : o.op = .call c) (hc : c.callee = .builtin .len) (hargs : c.args.toList = [x]) (hts : c.argTypes.toList = [t]) (hx : compOpd x = some x')
  (hk : LenTy P t k ∨ ∃ n e, k = .arr n ∧ P.underlying t = some (.array n e)) {wr : Wr} (h : eff ρ H ns (.len k x') = some (v, wr)) (ev : Ev ρ a g w) (hh : HeapOK g w H) : Good P a o g w ns v (happ H wr) := by
 obtain ⟨callee, args, ts⟩ := c
 have e1 : args = #[x] := Array.toList_inj.1 (by simpa using hargs)
 have e2 : ts = #[t] := Array.toList_inj.1 (by simpa using hts)
 simp only at hc
 subst hc; subst e1; subst e2
 have exec : ∀ n : Int, (Builtin.len_ #[t] o.type #[a.eval x]).run P w = .ok (goInt n) w → (execOp a.eval o).run P w = .ok (.value (goInt n)) w := by
  intro n hn
  simp [execOp, ho, resolve, invoke, builtin, hn]
 have fin : ∀ n : Nat, (Builtin.len_ #[t] o.type #[a.eval x]).run P w = .ok (goInt n) w → Good P a o g w ns (.d (.int .i64 n)) H := fun n hn =>
  Good.val hh (exec _ hn) (RV.mkI _ _)
 rcases hk with hk | ⟨n, e, rfl, hn⟩
 ·cases k with
  | arr => exact hk.elim
  | str =>
   simp only [eff] at h
   split at h
   ·rename_i n hn
    simp only [Option.some.injEq, Prod.mk.injEq] at h
    obtain ⟨rfl, rfl⟩ := h
    exact fin n (lenV_ok hn (ev _ _ hx) hh hk)
   ·cases h
  | slice =>
   simp only [eff] at h
   split at h
   ·rename_i n hn
    simp only [Option.some.injEq, Prod.mk.injEq] at h
    obtain ⟨rfl, rfl⟩ := h
    exact fin n (lenV_ok hn (ev _ _ hx) hh hk)
   ·cases h
  | map =>
   simp only [eff] at h
   split at h
   ·rename_i n hn
    simp only [Option.some.injEq, Prod.mk.injEq] at h
    obtain ⟨rfl, rfl⟩ := h
    exact fin n (lenV_ok hn (ev _ _ hx) hh hk)
   ·cases h
 ·simp only [eff, Option.some.injEq, Prod.mk.injEq] at h
  obtain ⟨rfl, rfl⟩ := h
  exact fin n (by simp [Builtin.len_, run_underlying hn])
theorem eff_call {c : Call} {io : IOp} {v : V} {wr : Wr} (ho : o.op = .call c) (hc : compCall P c = some io) (he : eff ρ H ns io = some (v, wr)) (ev : Ev ρ a g w) (hh : HeapOK g w H) (hns : Fresh g ns) : Good P a o g w ns v (happ H wr) := by
 unfold compCall at hc
 split at hc
 ·rename_i hcal
  split at hc
  ·rename_i x t hargs hts
   split at hc
   ·rename_i hu
    simp only [Option.map_eq_some_iff] at hc
    obtain ⟨x', hx, rfl⟩ := hc
    exact g_len (k := .str) ho hcal hargs hts hx (.inl hu) he ev hh
   ·rename_i e hu
    simp only [Option.map_eq_some_iff] at hc
    obtain ⟨x', hx, rfl⟩ := hc
    exact g_len (k := .slice) ho hcal hargs hts hx (.inl ⟨e, hu⟩) he ev hh
   ·rename_i k e hu
    simp only [Option.map_eq_some_iff] at hc
    obtain ⟨x', hx, rfl⟩ := hc
    exact g_len (k := .map) ho hcal hargs hts hx (.inl ⟨k, e, hu⟩) he ev hh
   ·rename_i n e hu
    simp only [Option.map_eq_some_iff] at hc
    obtain ⟨x', hx, rfl⟩ := hc
    exact g_len ho hcal hargs hts hx (.inr ⟨n, e, rfl, hu⟩) he ev hh
   ·cases hc
  ·cases hc
 ·rename_i hcal
  split at hc
  ·rename_i x y t u hargs hts
   split at hc
   ·rename_i e k hu hu2
    split at hc
    ·rename_i i z x' y' hi hz hx hy
     simp only [Option.some.injEq] at hc; subst hc
     obtain ⟨callee, args, ts⟩ := c
     have e1 : args = #[x, y] := Array.toList_inj.1 (by simpa using hargs)
     have e2 : ts = #[t, u] := Array.toList_inj.1 (by simpa using hts)
     simp only at hcal
     subst hcal; subst e1; subst e2
     exact g_appendN ho hu hu2 hi hz hx hy he ev hh hns
    ·cases hc
   ·rename_i e d hni hu hu2
    split at hc
    ·rename_i i z x' y' hd hi hz hx hy
     split at hc
     ·rename_i hcond
      simp only [Option.some.injEq] at hc; subst hc
      simp only [eff] at he
      split at he
      ·rename_i xs hxs
       obtain ⟨callee, args, ts⟩ := c
       have e1 : args = #[x, y] := Array.toList_inj.1 (by simpa using hargs)
       have e2 : ts = #[t, u] := Array.toList_inj.1 (by simpa using hts)
       simp only at hcal
       subst hcal; subst e1; subst e2
       refine g_append ho rfl hu ?_ hi hz hcond.1 hcond.2 hx hy hxs he ev hh hns
       cases d <;> simp [isSS] at hd
       ·exact .inr hu2
       ·exact .inl ⟨_, hu2⟩
      ·cases he
     ·cases hc
    ·cases hc
   ·cases hc
  ·cases hc
 ·rename_i hcal
  split at hc
  ·rename_i x t hargs hts
   split at hc
   ·rename_i e hu
    simp only [Option.map_eq_some_iff] at hc
    obtain ⟨x', hx, rfl⟩ := hc
    obtain ⟨callee, args, ts⟩ := c
    have e1 : args = #[x] := Array.toList_inj.1 (by simpa using hargs)
    have e2 : ts = #[t] := Array.toList_inj.1 (by simpa using hts)
    simp only at hcal
    subst hcal; subst e1; subst e2
    exact g_cap ho hu hx he ev hh
   ·cases hc
  ·cases hc
 ·rename_i hcal
  simp only [Option.map_eq_some_iff] at hc
  obtain ⟨l, hl, rfl⟩ := hc
  have hH : wr = none := by
   simp only [eff] at he
   split at he
   ·simp only [Option.map_eq_some_iff, Prod.mk.injEq] at he; obtain ⟨_, _, _, h⟩ := he; exact h.symm
   ·cases he
  subst hH
  obtain ⟨callee, args, ts⟩ := c
  simp only at hcal; subst hcal
  exact g_minmax (isMax := false) ho hl he ev hh
 ·rename_i hcal
  simp only [Option.map_eq_some_iff] at hc
  obtain ⟨l, hl, rfl⟩ := hc
  have hH : wr = none := by
   simp only [eff] at he
   split at he
   ·simp only [Option.map_eq_some_iff, Prod.mk.injEq] at he; obtain ⟨_, _, _, h⟩ := he; exact h.symm
   ·cases he
  subst hH
  obtain ⟨callee, args, ts⟩ := c
  simp only at hcal; subst hcal
  exact g_minmax (isMax := true) ho hl he ev hh
 ·split at hc
  ·simp only [Option.map_eq_some_iff] at hc
   obtain ⟨l, hl, rfl⟩ := hc
   simp [eff] at he
  ·cases hc
 ·simp only [Option.map_eq_some_iff] at hc
  obtain ⟨l, hl, rfl⟩ := hc
  simp [eff] at he
 ·cases hc
theorem eff_good {io : IOp} {v : V} {wr : Wr} (hc : compOp P o.op = some io) (he : eff ρ H ns io = some (v, wr)) (ev : Ev ρ a g w) (hh : HeapOK g w H) (hns : Fresh g ns) : Good P a o g w ns v (happ H wr) := by
 unfold compOp at hc
 split at hc
 ·rename_i x ho
  simp only [Option.map_eq_some_iff] at hc
  obtain ⟨x', hx, rfl⟩ := hc
  simp only [eff, Option.some.injEq, Prod.mk.injEq] at he
  obtain ⟨rfl, rfl⟩ := he
  exact g_mv (.inl ho) hx ev hh
 ·rename_i x ho
  simp only [Option.map_eq_some_iff] at hc
  obtain ⟨x', hx, rfl⟩ := hc
  simp only [eff, Option.some.injEq, Prod.mk.injEq] at he
  obtain ⟨rfl, rfl⟩ := he
  exact g_mv (.inr ho) hx ev hh
 ·rename_i c x y ho
  split at hc
  ·rename_i c' x' y' h1 h2 h3
   simp only [Option.some.injEq] at hc; subst hc
   simp only [eff] at he
   split at he
   ·rename_i b hb
    simp only [Option.some.injEq, Prod.mk.injEq] at he
    obtain ⟨rfl, rfl⟩ := he
    exact g_pick ho h1 h2 h3 hb ev hh
   ·cases he
  ·cases hc
 ·rename_i t ho
  simp only [Option.map_eq_some_iff] at hc
  obtain ⟨z, hz, rfl⟩ := hc
  simp only [eff, Option.some.injEq, Prod.mk.injEq] at he
  obtain ⟨rfl, rfl⟩ := he
  exact g_alloc ho hz hh hns
 ·rename_i t x ho
  split at hc
  ·rename_i n x' hn hx
   simp only [Option.some.injEq] at hc; subst hc
   simp only [eff] at he
   cases hcond : (Nat.beq (cellsV (ρ x')).length n && (cellsV (ρ x')).all okC) with
   | false => rw [hcond] at he; cases he
   | true =>
    rw [hcond] at he
    simp only [cond_true, Option.some.injEq, Prod.mk.injEq] at he
    simp only [Bool.and_eq_true] at hcond
    obtain ⟨rfl, rfl⟩ := he
    rw [← Nat.eq_of_beq_eq_true hcond.1]
    exact g_box ho hx hcond.2 ev hh hns
  ·cases hc
 ·rename_i t ps ho
  split at hc
  ·rename_i fs z ht hz
   split at hc
   ·rename_i places hpl
    simp only [Option.map_eq_some_iff] at hc
    obtain ⟨qs, hq, rfl⟩ := hc
    simp only [eff, Option.map_eq_some_iff, Prod.mk.injEq] at he
    obtain ⟨cs, hcs, rfl, rfl⟩ := he
    refine g_build ho hz (fun i zv parts hi hzv => ?_) hq hcs ev hh
    simp only [Program.built, hi, ht, hzv, hpl]
   ·cases hc
  ·rename_i n e z ht hz
   split at hc
   ·rename_i ie hie
    simp only [Option.map_eq_some_iff] at hc
    obtain ⟨qs, hq, rfl⟩ := hc
    simp only [eff, Option.map_eq_some_iff, Prod.mk.injEq] at he
    obtain ⟨cs, hcs, rfl, rfl⟩ := he
    refine g_build ho hz (fun i zv parts hi hzv => ?_) hq hcs ev hh
    simp only [Program.built, hi, ht, hzv, hie]
   ·cases hc
  ·cases hc
 ·rename_i t len ps ho
  split at hc
  ·rename_i e ht
   split at hc
   ·rename_i s z hs hz
    split at hc
    ·rename_i hcond
     simp only [Option.map_eq_some_iff] at hc
     obtain ⟨qs, hq, rfl⟩ := hc
     simp only [eff] at he
     cases hc2 : (Nat.beq ((List.range (len * s)).map fun i => z.getD (i % s) .any).length (len * s) && ((List.range (len * s)).map fun i => z.getD (i % s) .any).all okC) with
     | false => rw [hc2] at he; cases he
     | true =>
      rw [hc2] at he
      simp only [cond_true, Option.map_eq_some_iff, Prod.mk.injEq] at he
      obtain ⟨cs, hcs, rfl, rfl⟩ := he
      obtain ⟨k1, k2⟩ := g_mkSlice ho ht hs hz hcond.1 hcond.2.1 hcond.2.2 hq hcs ev hh hns
      rw [k2] at k1
      exact k1
    ·cases hc
   ·cases hc
  ·cases hc
 ·rename_i t x ho
  split at hc
  ·rename_i n b x' hn hb hx
   split at hc
   ·simp only [Option.some.injEq] at hc; subst hc
    simp only [eff] at he
    split at he
    ·rename_i cs hcs
     simp only [Option.map_eq_some_iff, Prod.mk.injEq] at he
     obtain ⟨v', hv', rfl, rfl⟩ := he
     exact g_load ho hn hb hx hcs hv' ev hh
    ·cases he
   ·cases hc
  ·cases hc
 ·rename_i t x y ho
  split at hc
  ·rename_i n x' y' hn hx hy
   simp only [Option.some.injEq] at hc; subst hc
   simp only [eff, Option.map_eq_some_iff, Prod.mk.injEq] at he
   obtain ⟨H2, h2, rfl, rfl⟩ := he
   exact g_store ho hn hx hy h2 ev hh
  ·cases hc
 ·rename_i x ho
  simp only [Option.map_eq_some_iff] at hc
  obtain ⟨x', hx, rfl⟩ := hc
  have hH : wr = none := by
   simp only [eff] at he
   split at he <;> simp only [Option.some.injEq, Prod.mk.injEq, reduceCtorEq] at he <;> exact he.2.symm
  subst hH
  exact g_nilchk ho hx he ev hh
 ·rename_i op t x y yt ho
  split at hc
  ·rename_i x' y' hx hy
   have hbin : ∀ {io : IOp}, io = .bin op x' y' → eff ρ H ns io = some (v, wr) → Good P a o g w ns v (happ H wr) := by
    rintro io rfl he
    simp only [eff, Option.map_eq_some_iff, Prod.mk.injEq] at he
    obtain ⟨v', hv', rfl, rfl⟩ := he
    exact g_bin ho hx hy hv' ev hh
   have heq : ∀ {io : IOp} {k : EqKind} {neg : Bool}, io = .eq neg k x' y' → eff ρ H ns io = some (v, wr) → ((op = .eql ∧ neg = false) ∨ (op = .neq ∧ neg = true)) →
     (match k with | .bool => P.underlying t = some .bool | .ptr => ∃ e, P.underlying t = some (.pointer e) | .iface => (∃ e, P.underlying t = some (.interface e)) ∧ ((∃ c, x = .const c) ∨ ∃ c, y = .const c) | .slice => ∃ e, P.underlying t = some (.slice e) | .func => ∃ s : Array TypeId × Array TypeId × Bool, P.underlying t = some (.func s.1 s.2.1 s.2.2)) → Good P a o g w ns v (happ H wr) := by
    rintro io k neg rfl he hop hk
    simp only [eff, Option.map_eq_some_iff, Prod.mk.injEq] at he
    obtain ⟨b, hb, rfl, rfl⟩ := he
    exact g_eq ho hop hk hx hy hb ev hh
   split at hc
   ·split at hc
    ·simp only [Option.some.injEq] at hc; exact hbin hc.symm he
    ·simp only [Option.some.injEq] at hc; exact hbin hc.symm he
    ·rename_i hu; simp only [Option.some.injEq] at hc; exact heq hc.symm he (.inl ⟨rfl, rfl⟩) hu
    ·rename_i e hu; simp only [Option.some.injEq] at hc; exact heq hc.symm he (.inl ⟨rfl, rfl⟩) ⟨e, hu⟩
    ·rename_i e hu; simp only [Option.some.injEq] at hc; exact heq hc.symm he (.inl ⟨rfl, rfl⟩) ⟨e, hu⟩
    ·rename_i p q r hu; simp only [Option.some.injEq] at hc; exact heq hc.symm he (.inl ⟨rfl, rfl⟩) ⟨(p, q, r), hu⟩
    ·rename_i fs hu
     simp only [Option.map_eq_some_iff] at hc
     obtain ⟨ks, hks, rfl⟩ := hc
     simp only [eff] at he
     split at he
     ·rename_i us e1
      split at he
      ·rename_i vs e2
       split at he
       ·rename_i r hrow
        simp only [Option.some.injEq, Prod.mk.injEq] at he
        obtain ⟨rfl, rfl⟩ := he
        exact g_eqS ho (.inl ⟨rfl, rfl⟩) hks hx hy e1 e2 hrow ev hh
       ·cases he
      ·cases he
     ·cases he
    ·rename_i e hu
     split at hc
     ·simp only [Option.some.injEq] at hc; exact heq hc.symm he (.inl ⟨rfl, rfl⟩) ⟨⟨e, hu⟩, .inl ⟨_, rfl⟩⟩
     ·simp only [Option.some.injEq] at hc; exact heq hc.symm he (.inl ⟨rfl, rfl⟩) ⟨⟨e, hu⟩, .inr ⟨_, rfl⟩⟩
     ·cases hc
    ·cases hc
   ·split at hc
    ·simp only [Option.some.injEq] at hc; exact hbin hc.symm he
    ·simp only [Option.some.injEq] at hc; exact hbin hc.symm he
    ·rename_i hu; simp only [Option.some.injEq] at hc; exact heq hc.symm he (.inr ⟨rfl, rfl⟩) hu
    ·rename_i e hu; simp only [Option.some.injEq] at hc; exact heq hc.symm he (.inr ⟨rfl, rfl⟩) ⟨e, hu⟩
    ·rename_i e hu; simp only [Option.some.injEq] at hc; exact heq hc.symm he (.inr ⟨rfl, rfl⟩) ⟨e, hu⟩
    ·rename_i p q r hu; simp only [Option.some.injEq] at hc; exact heq hc.symm he (.inr ⟨rfl, rfl⟩) ⟨(p, q, r), hu⟩
    ·rename_i fs hu
     simp only [Option.map_eq_some_iff] at hc
     obtain ⟨ks, hks, rfl⟩ := hc
     simp only [eff] at he
     split at he
     ·rename_i us e1
      split at he
      ·rename_i vs e2
       split at he
       ·rename_i r hrow
        simp only [Option.some.injEq, Prod.mk.injEq] at he
        obtain ⟨rfl, rfl⟩ := he
        exact g_eqS ho (.inr ⟨rfl, rfl⟩) hks hx hy e1 e2 hrow ev hh
       ·cases he
      ·cases he
     ·cases he
    ·rename_i e hu
     split at hc
     ·simp only [Option.some.injEq] at hc; exact heq hc.symm he (.inr ⟨rfl, rfl⟩) ⟨⟨e, hu⟩, .inl ⟨_, rfl⟩⟩
     ·simp only [Option.some.injEq] at hc; exact heq hc.symm he (.inr ⟨rfl, rfl⟩) ⟨⟨e, hu⟩, .inr ⟨_, rfl⟩⟩
     ·cases hc
    ·cases hc
   ·simp only [Option.some.injEq] at hc; exact hbin hc.symm he
  ·cases hc
 ·rename_i op t x ho
  simp only [Option.map_eq_some_iff] at hc
  obtain ⟨x', hx, rfl⟩ := hc
  simp only [eff, Option.map_eq_some_iff, Prod.mk.injEq] at he
  obtain ⟨v', hv', rfl, rfl⟩ := he
  exact g_un ho hx hv' ev hh
 ·rename_i s d x ho
  split at hc
  ·rename_i k0 k x' hs hd hx
   simp only [Option.some.injEq] at hc; subst hc
   simp only [eff] at he
   split at he
   ·rename_i k1 n e
    simp only [Option.some.injEq, Prod.mk.injEq] at he
    obtain ⟨rfl, rfl⟩ := he
    exact g_conv ho hs hd hx e ev hh
   ·cases he
  ·rename_i x' hs hd hx
   simp only [Option.some.injEq] at hc; subst hc
   simp only [eff] at he
   split at he
   ·rename_i l e
    simp only [Option.some.injEq, Prod.mk.injEq] at he
    obtain ⟨rfl, rfl⟩ := he
    exact g_same ho hs hd hx e ev hh
   ·cases he
  ·rename_i el x' hs hd hx
   split at hc
   ·rename_i hel
    simp only [Option.some.injEq] at hc; subst hc
    simp only [eff] at he
    split at he
    ·rename_i l e
     simp only [Option.some.injEq, Prod.mk.injEq] at he
     obtain ⟨rfl, rfl⟩ := he
     exact g_strBytes ho hs hd hel hx e ev hh
    ·cases he
   ·cases hc
  ·cases hc
 ·rename_i f p q ho
  split at hc
  ·rename_i p' q' hp hq
   simp only [Option.some.injEq] at hc; subst hc
   simp only [eff, Option.some.injEq, Prod.mk.injEq] at he
   obtain ⟨rfl, rfl⟩ := he
   exact g_mkfunc ho hp hq ev hh
  ·cases hc
 ·rename_i t ho
  simp only [Option.some.injEq] at hc; subst hc
  simp only [eff, Option.some.injEq, Prod.mk.injEq] at he
  obtain ⟨rfl, rfl⟩ := he
  exact g_mkmap ho hh hns
 ·rename_i t l c ho
  split at hc
  ·rename_i e l' c' ht hl hc2
   split at hc
   ·rename_i i z hi hz
    simp only [Option.some.injEq] at hc; subst hc
    exact g_mkRow ho ht hi hz hl hc2 he ev hh hns
   ·cases hc
  ·cases hc
 ·rename_i t x lo hi ho
  split at hc
  ·rename_i x' lo' hi' hx hlo hhi
   split at hc
   ·rename_i ht
    simp only [Option.some.injEq] at hc; subst hc
    simp only [eff] at he
    split at he
    ·rename_i s e
     simp only [Option.map_eq_some_iff] at he
     obtain ⟨⟨l, h⟩, hb, he⟩ := he
     simp only [Prod.mk.injEq] at he
     obtain ⟨rfl, rfl⟩ := he
     exact g_sslice ho ht hx hlo hhi e hb ev hh
    ·cases he
   ·rename_i el ht
    simp only [Option.map_eq_some_iff] at hc
    obtain ⟨s, hs, rfl⟩ := hc
    simp only [eff] at he
    split at he
    ·rename_i es e
     cases hl : es.all (fun e => Nat.beq e.length s) with
     | false => rw [hl] at he; cases he
     | true =>
      rw [hl] at he
      simp only [cond_true, Option.map_eq_some_iff] at he
      obtain ⟨⟨l, h⟩, hb, he⟩ := he
      simp only [Prod.mk.injEq] at he
      obtain ⟨rfl, rfl⟩ := he
      exact g_lslice ho ht hs hx hlo hhi e hl hb ev hh
    ·rename_i b hb' off len sz' e
     cases hl : (Nat.beq s sz' && liveB H b hb') with
     | false => rw [hl] at he; cases he
     | true =>
      rw [hl] at he
      simp only [cond_true, Option.map_eq_some_iff] at he
      obtain ⟨⟨l, h⟩, hbd, he⟩ := he
      simp only [Prod.mk.injEq] at he
      obtain ⟨rfl, rfl⟩ := he
      simp only [Bool.and_eq_true] at hl
      have := Nat.eq_of_beq_eq_true hl.1
      subst this
      exact g_lsliceO ho ht hs hx hlo hhi e hl.2 hbd ev hh
    ·rename_i e
     simp only [Option.map_eq_some_iff] at he
     obtain ⟨⟨l, h⟩, hbd, he⟩ := he
     simp only [Prod.mk.injEq] at he
     obtain ⟨rfl, rfl⟩ := he
     exact g_lsliceN ho ht hs hx hlo hhi e hbd ev hh
    ·cases he
   ·rename_i n el ht
    simp only [Option.map_eq_some_iff] at hc
    obtain ⟨s, hs, rfl⟩ := hc
    simp only [eff] at he
    split at he
    ·rename_i b hb' off e
     cases hl : (liveB H b hb' && Nat.ble (off + n * s) hb' && Nat.blt 0 hb') with
     | false => rw [hl] at he; cases he
     | true =>
      rw [hl] at he
      simp only [cond_true, Option.map_eq_some_iff] at he
      obtain ⟨⟨l, h⟩, hbd, he⟩ := he
      simp only [Prod.mk.injEq] at he
      obtain ⟨rfl, rfl⟩ := he
      simp only [Bool.and_eq_true] at hl
      exact g_aslice ho ht hs hx hlo hhi e hl.1.1 (Nat.le_of_ble_eq_true hl.1.2) (by have := hl.2; rwa [Nat.blt_eq] at this) hbd ev hh
    ·cases he
   ·cases hc
  ·cases hc
 ·rename_i s x f ho
  split at hc
  ·rename_i fs x' ht hx
   split at hc
   ·rename_i off n hf
    split at hc
    ·rename_i h0
     simp only [Option.some.injEq] at hc; subst hc
     have hH : wr = none := by
      simp only [eff] at he
      split at he <;> simp only [Option.some.injEq, Prod.mk.injEq, reduceCtorEq] at he <;> exact he.2.symm
     subst hH
     exact g_faddr ho ht hf h0 hx he ev hh
    ·cases hc
   ·cases hc
  ·cases hc
 ·rename_i s x f ho
  split at hc
  ·rename_i fs x' ht hx
   split at hc
   ·rename_i fd hfd
    split at hc
    ·rename_i n b hn hb
     split at hc
     ·rename_i h1
      simp only [Option.some.injEq] at hc; subst hc
      simp only [eff] at he
      split at he
      ·rename_i cs e
       cases hl : Nat.ble (fd.offset + n) cs.length with
       | false => rw [hl] at he; cases he
       | true =>
        rw [hl] at he
        simp only [cond_true, Option.map_eq_some_iff, Prod.mk.injEq] at he
        obtain ⟨v', hv', rfl, rfl⟩ := he
        exact g_fld ho ht hfd hn hb h1 hx e (Nat.le_of_ble_eq_true hl) hv' ev hh
      ·cases he
     ·cases hc
    ·cases hc
   ·cases hc
  ·cases hc
 ·rename_i t x i ho
  split at hc
  ·rename_i x' i' hx hi
   split at hc
   ·rename_i e ht
    simp only [Option.map_eq_some_iff] at hc
    obtain ⟨s, hs, rfl⟩ := hc
    have hH : wr = none := by
     simp only [eff] at he
     split at he
     ·cases he
     ·split at he
      ·split at he
       ·rename_i d _
        cases hq : Nat.beq d.length s <;> simp [hq] at he
        exact he.2.symm
       ·cases he
      ·rename_i b hb off len sz' _
       cases hq : (Nat.beq s sz' && Nat.blt _ len && liveB H b hb) <;> rw [hq] at he <;> simp at he
       exact he.2.symm
      ·cases he
    subst hH
    exact g_iaddr ho ht hs hx hi he ev hh
   ·rename_i n e ht
    simp only [Option.map_eq_some_iff] at hc
    obtain ⟨s, hs, rfl⟩ := hc
    have hH : wr = none := by
     simp only [eff] at he
     split at he
     ·cases he
     ·rename_i j _
      cases hq : Nat.blt j n with
      | false => rw [hq] at he; cases he
      | true =>
       rw [hq] at he
       simp only [cond_true] at he
       split at he <;> simp only [Option.some.injEq, Prod.mk.injEq, reduceCtorEq] at he <;> exact he.2.symm
    subst hH
    exact g_iaddrA ho ht hs hx hi he ev hh
   ·cases hc
  ·cases hc
 ·rename_i t x i ho
  split at hc
  ·rename_i x' i' hx hi
   split at hc
   ·rename_i ht
    simp only [Option.some.injEq] at hc; subst hc
    have hH : wr = none := by
     simp only [eff] at he
     split at he
     ·cases he
     ·split at he
      ·split at he <;> simp only [Option.some.injEq, Prod.mk.injEq, reduceCtorEq] at he
       exact he.2.symm
      ·cases he
    subst hH
    exact g_idxS ho ht hx hi he ev hh
   ·rename_i n e ht
    split at hc
    ·rename_i s b hs hb
     split at hc
     ·rename_i h1
      simp only [Option.some.injEq] at hc; subst hc
      simp only [eff] at he
      split at he
      ·cases he
      ·rename_i j ej
       split at he
       ·rename_i cs e'
        cases hl : (Nat.blt j n && Nat.ble (n * s) cs.length) with
        | false => rw [hl] at he; cases he
        | true =>
         rw [hl] at he
         simp only [cond_true, Option.map_eq_some_iff, Prod.mk.injEq] at he
         simp only [Bool.and_eq_true] at hl
         obtain ⟨v', hv', rfl, rfl⟩ := he
         exact g_idxA ho ht hs hb h1 hx hi ej e' (by have := hl.1; rwa [Nat.blt_eq] at this) (Nat.le_of_ble_eq_true hl.2) hv' ev hh
       ·cases he
     ·cases hc
    ·cases hc
   ·cases hc
  ·cases hc
 ·rename_i x i ho
  simp only [Option.map_eq_some_iff] at hc
  obtain ⟨x', hx, rfl⟩ := hc
  simp only [eff] at he
  split at he
  ·rename_i vs e
   simp only [Option.map_eq_some_iff, Prod.mk.injEq] at he
   obtain ⟨v', hv', rfl, rfl⟩ := he
   exact g_ext ho hx e hv' ev hh
  ·cases he
 ·rename_i t x ho
  split at hc
  ·cases hc
  ·rename_i d x' hni ht hx
   simp only [Option.some.injEq] at hc; subst hc
   simp only [eff, Option.some.injEq, Prod.mk.injEq] at he
   obtain ⟨rfl, rfl⟩ := he
   exact g_mkiface ho ht (fun m hm => hni m hm) hx ev hh
  ·cases hc
 ·rename_i t m k ok ho
  have hl : ∀ {kk : KeyKind} {z : V} {m' k' : Opd}, eff ρ H ns (.lookup kk z ok m' k') = some (v, wr) → wr = none := by
   intro kk z m' k' he
   simp only [eff] at he
   split at he
   ·rename_i kd _
    cases hq : keyIs kk kd with
    | false => rw [hq] at he; cases he
    | true =>
     rw [hq] at he
     simp only [cond_true] at he
     split at he
     ·split at he <;> simp only [Option.some.injEq, Prod.mk.injEq, reduceCtorEq] at he <;> exact he.2.symm
     ·cases he
   ·cases he
  split at hc
  ·rename_i kt e m' k' ht hm hk
   split at hc
   ·rename_i z q hz hkt
    simp only [Option.some.injEq] at hc; subst hc
    have := hl he; subst this
    exact g_lookup (kk := .int) ho ht ⟨q, hkt⟩ hz hm hk he ev hh
   ·rename_i z hz hkt
    simp only [Option.some.injEq] at hc; subst hc
    have := hl he; subst this
    exact g_lookup (kk := .str) ho ht hkt hz hm hk he ev hh
   ·rename_i z hz hkt
    simp only [Option.some.injEq] at hc; subst hc
    have := hl he; subst this
    exact g_lookup (kk := .bool) ho ht hkt hz hm hk he ev hh
   ·cases hc
  ·cases hc
 ·rename_i t m k x ho
  split at hc
  ·rename_i kt e m' k' x' ht hm hk hx
   split at hc
   ·rename_i q hkt
    simp only [Option.some.injEq] at hc; subst hc
    exact g_mapUpd (kk := .int) ho ht ⟨q, hkt⟩ hm hk hx he ev hh
   ·rename_i hkt
    simp only [Option.some.injEq] at hc; subst hc
    exact g_mapUpd (kk := .str) ho ht hkt hm hk hx he ev hh
   ·rename_i hkt
    simp only [Option.some.injEq] at hc; subst hc
    exact g_mapUpd (kk := .bool) ho ht hkt hm hk hx he ev hh
   ·cases hc
  ·cases hc
 ·rename_i t x ho
  split at hc
  ·rename_i kt el ht
   simp only [Option.map_eq_some_iff] at hc
   obtain ⟨x', hx, rfl⟩ := hc
   exact g_range ho ht hx he ev hh hns
  ·cases hc
 ·rename_i it s ho
  split at hc
  ·cases hc
  ·simp only [Option.map_eq_some_iff] at hc
   obtain ⟨x', hx, rfl⟩ := hc
   simp [eff] at he
 ·rename_i it ho
  simp only [Option.map_eq_some_iff] at hc
  obtain ⟨x', hx, rfl⟩ := hc
  exact g_entry ho hx he ev hh
 ·rename_i c ho
  exact eff_call ho hc he ev hh hns
 ·cases hc
end
end Fw

/-
 A box that nobody writes any more is known as data from then on.
-/
namespace Fw
open Go
theorem chunk_length (sz n : Nat) (l : List D) : (chunk sz n l).length = n := by
 induction n generalizing l with
 | zero => rfl
 | succ n ih => simp [chunk, ih]
theorem RdC.of_vals {w : World} {im : Nat → Prop} {blk : Nat} : ∀ {ds : List D} {vs : List Value} {off : Nat}, ds.length = vs.length → (∀ (j : Nat) (d : D) (v : Value), ds[j]? = some d → vs[j]? = some v → Rd w im d v) →
  (∀ (j : Nat) (v : Value), vs[j]? = some v → w.cell? ⟨blk, off + j, none⟩ = some v) → RdC w im blk off ds
 | [], _, _, _, _, _ => by simp only [RdC]
 | d :: ds, [], _, hl, _, _ => by simp at hl
 | d :: ds, v :: vs, off, hl, h1, h2 => by
  simp only [RdC]
  refine ⟨⟨v, by have := h2 0 v rfl; simpa using this, h1 0 d v rfl rfl⟩, RdC.of_vals (vs := vs) (by simpa using hl) (fun j d' v' hd hv => h1 (j + 1) d' v' (by simpa using hd) (by simpa using hv)) (fun j v' hv => ?_)⟩
  have := h2 (j + 1) v' (by simpa using hv)
  rwa [show off + (j + 1) = off + 1 + j by omega] at this
theorem RdC.take {w : World} {im : Nat → Prop} {blk : Nat} : ∀ (k : Nat) (ds : List D) (q : Nat), RdC w im blk q ds → RdC w im blk q (ds.take k) := by
 intro k ds
 induction ds generalizing k with
 | nil => intro q _; simp [RdC]
 | cons d ds ih =>
  intro q hq
  cases k with
  | zero => simp [RdC]
  | succ k => simp only [List.take_succ_cons, RdC] at hq ⊢; exact ⟨hq.1, ih k _ hq.2⟩
theorem chunk_RdE' {w : World} {im : Nat → Prop} {blk sz : Nat} : ∀ {n : Nat} {off : Nat} {l : List D}, n * sz ≤ l.length → RdC w im blk off l → RdE w im blk off sz (chunk sz n l)
 | 0, _, _, _, _ => by simp only [chunk, RdE]
 | n + 1, off, l, hl, h => by
  simp only [chunk, RdE]
  have hle : sz ≤ l.length := by rw [Nat.add_mul] at hl; omega
  refine ⟨by simp; omega, RdC.take _ _ _ h, ?_⟩
  exact chunk_RdE' (by simp; rw [Nat.add_mul] at hl; omega) (RdC.drop sz h)
mutual
def frzV (b : Nat) (ds : List D) : V → V
 | .ptr c h off => bif Nat.beq c b then (bif Nat.beq h ds.length then .cptr (ds.drop off) else .any) else .ptr c h off
 | .sl c h off len sz => bif Nat.beq c b then (bif Nat.beq h ds.length && Nat.ble (off + len * sz) h then .d (.list (chunk sz len (ds.drop off))) else .any) else .sl c h off len sz
 | .map c => bif Nat.beq c b then .any else .map c
 | .iter c m => bif Nat.beq c b then .any else .iter c m
 | .func f a c => .func f (frzL b ds a) (frzL b ds c)
 | .iface t v => .iface t (frzV b ds v)
 | .agg cs => .agg (frzL b ds cs)
 | .tuple vs => .tuple (frzL b ds vs)
 | v => v
def frzL (b : Nat) (ds : List D) : List V → List V
 | [] => []
 | v :: vs => frzV b ds v :: frzL b ds vs
end
def frzBox (b : Nat) (ds : List D) : Box → Box
 | .cells cs => .cells (frzL b ds cs)
 | .map es => .map (es.map fun p => (p.1, frzV b ds p.2))
 | x => x
def frzH (b : Nat) (ds : List D) (n : Nat) : Heap → Heap
 | [] => []
 | x :: H => (bif Nat.beq n b then none else x.map (frzBox b ds)) :: frzH b ds (n + 1) H
def okBox : Option Box → Bool
 | some (.cells cs) => cs.all okC
 | _ => true
def boxD (H : Heap) (b : Nat) : Option (List D) :=
 match hget H b with
 | some (.cells cs) => dcells cs
 | some .nil => some []
 | _ => none
def G.del (g : G) (b : Nat) : G := ⟨g.dom, fun c => if c = b then none else g.γ c, g.fo⟩
theorem hget_frzH (b : Nat) (ds : List D) : ∀ (H : Heap) (n c : Nat), hget (frzH b ds n H) c = if n + c = b then none else (hget H c).map (frzBox b ds)
 | [], n, c => by simp [frzH, hget]
 | x :: H, n, 0 => by
  simp only [frzH, hget, Nat.add_zero]
  by_cases h : n = b
  ·subst h; simp
  ·simp [h, beq_ff h]
 | x :: H, n, c + 1 => by
  simp only [frzH, hget]
  rw [hget_frzH b ds H (n + 1) c]
  simp only [show n + 1 + c = n + (c + 1) by omega]
theorem length_frzH (b : Nat) (ds : List D) : ∀ (H : Heap) (n : Nat), (frzH b ds n H).length = H.length
 | [], _ => rfl
 | x :: H, n => by simp [frzH, length_frzH b ds H (n + 1)]
theorem imm_del {g : G} {w : World} {b k : Nat} (h : imm g w k) : imm (g.del b) w k := by
 refine ⟨h.1, h.2.1, fun c x hx => ?_⟩
 simp only [G.del] at hx
 split at hx
 ·cases hx
 ·exact h.2.2 c x hx
theorem dcells_get : ∀ {cs : List V} {ds : List D}, dcells cs = some ds → cs.length = ds.length ∧ ∀ (i : Nat) (d : D), ds[i]? = some d → cs[i]? = some (.d d) ∨ (cs[i]? = some .nils ∧ d = .list [])
 | [], ds, h => by simp only [dcells, Option.some.injEq] at h; subst h; simp
 | c :: cs, ds, h => by
  cases c with
  | d x =>
   simp only [dcells, Option.map_eq_some_iff] at h
   obtain ⟨ds', h1, rfl⟩ := h
   obtain ⟨h2, h3⟩ := dcells_get h1
   refine ⟨by simp [h2], fun i d hd => ?_⟩
   cases i with
   | zero => simp at hd; subst hd; left; rfl
   | succ i => simp at hd ⊢; exact h3 i d hd
  | nils =>
   simp only [dcells, Option.map_eq_some_iff] at h
   obtain ⟨ds', h1, rfl⟩ := h
   obtain ⟨h2, h3⟩ := dcells_get h1
   refine ⟨by simp [h2], fun i d hd => ?_⟩
   cases i with
   | zero => simp at hd; subst hd; right; exact ⟨rfl, rfl⟩
   | succ i => simp at hd ⊢; exact h3 i d hd
  | _ => simp [dcells] at h
def FrzAt (g : G) (w : World) (b : Nat) (ds : List D) : Prop :=
 match g.γ b with
 | some (.cells blk _ cur) => cur = ds.length ∧ imm (g.del b) w blk ∧ RdC w (imm (g.del b) w) blk 0 ds
 | some .nil => ds = []
 | _ => False
theorem frzAt {g : G} {w : World} {H : Heap} {b : Nat} {ds : List D} (hh : HeapOK g w H) (h : boxD H b = some ds) : FrzAt g w b ds := by
 unfold boxD at h
 split at h
 ·rename_i cs hg
  obtain ⟨x, hx⟩ := hh.back b _ hg
  obtain ⟨_, y, hy, hr⟩ := hh.live b x hx
  rw [hg] at hy; simp only [Option.some.injEq] at hy; subst hy
  obtain ⟨hl, hds⟩ := dcells_get h
  unfold FrzAt
  rw [hx]
  cases x with
  | cells blk cp cur =>
   have hlt := hr.lt blk rfl
   have hfo := hh.notFo hx rfl
   simp only [RB] at hr
   obtain ⟨r1, r2, r3, c, e, r4, r5, r6⟩ := hr
   have him : imm (g.del b) w blk := by
    refine ⟨hlt, hfo, fun c' x' hx' hk => ?_⟩
    simp only [G.del] at hx'
    split at hx'
    ·cases hx'
    ·rename_i hne
     exact hne (hh.inj c' b x' _ blk hx' hx hk rfl)
   refine ⟨by omega, him, ?_⟩
   have hvl := r6.length
   refine RdC.of_vals (vs := c.toList.take cs.length) (by omega) (fun j d v hd hv => ?_) (fun j v hv => ?_)
   ·rcases hds j d hd with hc | ⟨hc, rfl⟩
    ·obtain ⟨v', hv', hrv⟩ := RVs.get j r6 hc
     rw [hv] at hv'; simp only [Option.some.injEq] at hv'; subst hv'
     simp only [RV] at hrv
     exact Rd.keeps (fun k hk => ⟨imm_del hk, rfl⟩) _ _ hrv
    ·obtain ⟨v', hv', hrv⟩ := RVs.get j r6 hc
     rw [hv] at hv'; simp only [Option.some.injEq] at hv'; subst hv'
     simp only [RV] at hrv
     subst hrv
     simp [Rd]
   ·rw [List.getElem?_take] at hv
    split at hv
    ·simp only [World.cell?, r4]
     simpa using hv
    ·cases hv
  | nil => simp only [RB] at hr
  | obj => simp only [RB] at hr
 ·rename_i hg
  simp only [Option.some.injEq] at h; subst h
  obtain ⟨x, hx⟩ := hh.back b _ hg
  obtain ⟨_, y, hy, hr⟩ := hh.live b x hx
  rw [hg] at hy; simp only [Option.some.injEq] at hy; subst hy
  unfold FrzAt
  rw [hx]
  cases x <;> simp [RB] at hr ⊢
 ·cases h
mutual
theorem RV.frz {g : G} {w : World} {b : Nat} {ds : List D} (hf : FrzAt g w b ds) : ∀ (u : V) (v : Value), RV g w u v → RV (g.del b) w (frzV b ds u) v
 | .any, _, _ => by simp only [frzV, RV]
 | .d x, v, hv => by
  simp only [frzV, RV] at hv ⊢
  exact Rd.keeps (fun k hk => ⟨imm_del hk, rfl⟩) _ _ hv
 | .nils, _, hv => by simpa only [frzV, RV] using hv
 | .ptr c h off, v, hv => by
  simp only [frzV]
  by_cases hc : c = b
  ·subst hc
   simp only [Nat.beq_refl, cond_true]
   cases hb : Nat.beq h ds.length with
   | false => simp only [cond_false, RV]
   | true =>
    simp only [cond_true]
    have he := Nat.eq_of_beq_eq_true hb
    simp only [RV] at hv ⊢
    unfold FrzAt at hf
    split at hf
    ·rename_i blk cp cur hγ
     obtain ⟨f1, f2, f3⟩ := hf
     obtain ⟨blk', cp', cur', e1, e2, e3⟩ := hv.2 _ hγ
     simp only [GB.cells.injEq] at e1
     obtain ⟨rfl, rfl, rfl⟩ := e1
     exact ⟨blk, off, e2 (by omega), fun _ => f2, by simpa using RdC.drop off f3⟩
    ·rename_i hγ
     obtain ⟨blk', cp', cur', e1, e2, e3⟩ := hv.2 _ hγ
     cases e1
    ·exact hf.elim
  ·rw [beq_ff hc, cond_false]
   simp only [RV] at hv ⊢
   exact ⟨hv.1, fun x hx => hv.2 x (by simpa [G.del, hc] using hx)⟩
 | .nilp, _, hv => by simpa only [frzV, RV] using hv
 | .cptr cs, v, hv => by
  simp only [frzV, RV] at hv ⊢
  obtain ⟨blk, off, h1, h2, h3⟩ := hv
  refine ⟨blk, off, h1, fun hn => imm_del (h2 hn), ?_⟩
  cases cs with
  | nil => simp only [RdC]
  | cons c cs => exact RdC.keeps (im := imm g w) (im' := imm (g.del b) w) (fun k hk => ⟨imm_del hk, rfl⟩) (h2 (by simp)) _ _ h3
 | .sl c h off len sz, v, hv => by
  simp only [frzV]
  by_cases hc : c = b
  ·subst hc
   simp only [Nat.beq_refl, cond_true]
   cases hb : (Nat.beq h ds.length && Nat.ble (off + len * sz) h) with
   | false => simp only [cond_false, RV]
   | true =>
    simp only [cond_true]
    simp only [Bool.and_eq_true] at hb
    have he := Nat.eq_of_beq_eq_true hb.1
    have hle := Nat.le_of_ble_eq_true hb.2
    simp only [RV, Rd, chunk_length] at hv ⊢
    unfold FrzAt at hf
    split at hf
    ·rename_i blk cp cur hγ
     obtain ⟨f1, f2, f3⟩ := hf
     have hx := hv.2 _ hγ
     obtain ⟨cap, k1, k2, k3⟩ := hx.2 (by omega)
     right
     exact ⟨blk, off, cap, sz, k1, k2, fun _ => f2, chunk_RdE' (by simp; omega) (by simpa using RdC.drop off f3)⟩
    ·rename_i hγ
     have hx := hv.2 _ hγ
     obtain ⟨rfl, rfl, rfl, rfl⟩ := hx
     left
     exact ⟨rfl, .inl rfl⟩
    ·exact hf.elim
  ·rw [beq_ff hc, cond_false]
   simp only [RV] at hv ⊢
   exact ⟨hv.1, fun x hx => hv.2 x (by simpa [G.del, hc] using hx)⟩
 | .map c, v, hv => by
  simp only [frzV]
  by_cases hc : c = b
  ·subst hc; simp only [Nat.beq_refl, cond_true, RV]
  ·rw [beq_ff hc, cond_false]
   simp only [RV] at hv ⊢
   exact ⟨hv.1, fun x hx => hv.2 x (by simpa [G.del, hc] using hx)⟩
 | .nilm, _, hv => by simpa only [frzV, RV] using hv
 | .func f a c, v, hv => by
  simp only [frzV, RV] at hv ⊢
  obtain ⟨x, y, h1, h2, h3⟩ := hv
  exact ⟨x, y, h1, RVs.frz hf _ _ h2, RVs.frz hf _ _ h3⟩
 | .nilf, _, hv => by simpa only [frzV, RV] using hv
 | .iface t u, v, hv => by
  simp only [frzV, RV] at hv ⊢
  obtain ⟨x, h1, h2⟩ := hv
  exact ⟨x, h1, RV.frz hf _ _ h2⟩
 | .someIface, _, hv => by simpa only [frzV, RV] using hv
 | .nili, _, hv => by simpa only [frzV, RV] using hv
 | .agg cs, v, hv => by
  simp only [frzV, RV] at hv ⊢
  obtain ⟨x, h1, h2⟩ := hv
  exact ⟨x, h1, RVs.frz hf _ _ h2⟩
 | .tuple vs, v, hv => by
  simp only [frzV, RV] at hv ⊢
  obtain ⟨x, h1, h2⟩ := hv
  exact ⟨x, h1, RVs.frz hf _ _ h2⟩
 | .iter c _, v, hv => by
  simp only [frzV]
  by_cases hc : c = b
  ·subst hc; simp only [Nat.beq_refl, cond_true, RV]
  ·rw [beq_ff hc, cond_false]
   simp only [RV] at hv ⊢
   exact ⟨hv.1, fun x hx => hv.2 x (by simpa [G.del, hc] using hx)⟩
theorem RVs.frz {g : G} {w : World} {b : Nat} {ds : List D} (hf : FrzAt g w b ds) : ∀ (us : List V) (vs : List Value), RVs g w us vs → RVs (g.del b) w (frzL b ds us) vs
 | [], [], _ => by simp only [frzL, RVs]
 | u :: us, v :: vs, hv => by
  simp only [frzL, RVs] at hv ⊢
  exact ⟨RV.frz hf _ _ hv.1, RVs.frz hf _ _ hv.2⟩
 | [], _ :: _, hv => by simp only [RVs] at hv
 | _ :: _, [], hv => by simp only [RVs] at hv
end
theorem frzL_length (b : Nat) (ds : List D) : ∀ (l : List V), (frzL b ds l).length = l.length
 | [] => rfl
 | _ :: l => by simp [frzL, frzL_length b ds l]
theorem Ext.frz {g : G} {w : World} {b : Nat} (g0 : G) (w0 : World) (h : Ext g0 w0 g w) : Ext g0 w0 (g.del b) w :=
 ⟨h.os, h.tape, h.output, h.size, fun k hk => ⟨imm_del (h.keeps k hk).1, (h.keeps k hk).2⟩, h.dom,
  fun c hc => by
  simp only [G.del]
  split
  ·cases g0.γ c with
   | none => simp only [GB.step]
   | some x => cases x <;> simp only [GB.step]
  ·exact h.step c hc, h.fo, h.foreign⟩
theorem HeapOK.frz {g : G} {w : World} {H : Heap} {b : Nat} {ds : List D} (hh : HeapOK g w H) (h : boxD H b = some ds) (hok : (frzH b ds 0 H).all okBox = true) : HeapOK (g.del b) w (frzH b ds 0 H) := by
 have hf := frzAt hh h
 refine ⟨fun c hc => by rw [length_frzH]; exact hh.dom c hc, fun c x hx => ?_, fun c y hy => ?_, fun c c' x x' k hx hx' hk hk' => ?_, fun k hk => ⟨(hh.fo k hk).1, fun c x hx => ?_⟩⟩
 ·simp only [G.del] at hx
  split at hx
  ·cases hx
  ·rename_i hcb
   obtain ⟨h1, y, h2, h3⟩ := hh.live c x hx
   have hg : hget (frzH b ds 0 H) c = some (frzBox b ds y) := by rw [hget_frzH, if_neg (by omega), h2]; rfl
   refine ⟨h1, _, hg, ?_⟩
   cases x with
   | cells blk cp cur =>
    cases y with
    | cells cs =>
     simp only [RB, frzBox] at h3 ⊢
     obtain ⟨r1, r2, r3, cc, e, r4, r5, r6⟩ := h3
     refine ⟨by rw [frzL_length]; exact r1, ?_, by rw [frzL_length]; exact r3, cc, e, r4, r5, ?_⟩
     ·have hm : some (Box.cells (frzL b ds cs)) ∈ frzH b ds 0 H := by
       have : ∀ (H : Heap) (c : Nat) (y : Box), hget H c = some y → some y ∈ H := by
        intro H
        induction H with
        | nil => intro c y hy; simp [hget] at hy
        | cons z H ih =>
         intro c y hy
         cases c with
         | zero => simp only [hget] at hy; subst hy; simp
         | succ c => simp only [hget] at hy; exact List.mem_cons_of_mem _ (ih c y hy)
       exact this _ _ _ hg
      have := List.all_eq_true.1 hok _ hm
      simpa [okBox] using this
     ·rw [frzL_length]; exact RVs.frz hf _ _ r6
    | _ => simp only [RB] at h3
   | nil => cases y <;> simp only [RB, frzBox] at h3 ⊢
   | obj blk =>
    cases y with
    | map es =>
     simp only [RB, frzBox] at h3 ⊢
     obtain ⟨ents, clock, e1, e2, e3, e4, e5⟩ := h3
     refine ⟨ents, clock, e1, by simp [e2], fun i k v hi => ?_, e4, e5⟩
     simp only [List.getElem?_map, Option.map_eq_some_iff, Prod.mk.injEq] at hi
     obtain ⟨⟨k', v'⟩, hi', rfl, rfl⟩ := hi
     obtain ⟨z, z1, z2, z3, z4⟩ := e3 i k' v' hi'
     exact ⟨z, z1, z2, Rd.keeps (fun k hk => ⟨imm_del hk, rfl⟩) _ _ z3, RV.frz hf _ _ z4⟩
    | siter s pos => simpa only [RB, frzBox] using h3
    | miter m n seen =>
     simp only [RB, frzBox] at h3 ⊢
     obtain ⟨mb, sa, e1, e2, e3, e4⟩ := h3
     refine ⟨mb, sa, e1, e2, e3, fun x hx => e4 x ?_⟩
     simp only [G.del] at hx
     split at hx
     ·cases hx
     ·exact hx
    | _ => simp only [RB] at h3
 ·rw [hget_frzH] at hy
  split at hy
  ·cases hy
  ·rename_i hcb
   simp only [Option.map_eq_some_iff] at hy
   obtain ⟨y', hy', rfl⟩ := hy
   obtain ⟨x, hx⟩ := hh.back c y' hy'
   exact ⟨x, by simp only [G.del]; rw [if_neg (by omega)]; exact hx⟩
 ·simp only [G.del] at hx hx'
  split at hx
  ·cases hx
  ·split at hx'
   ·cases hx'
   ·exact hh.inj c c' x x' k hx hx' hk hk'
 ·simp only [G.del] at hx
  split at hx
  ·cases hx
  ·exact (hh.fo k hk).2 c x hx
def frzSt (b : Nat) (σ : St) : Option St :=
 match boxD σ.hp b with
 | some ds => bif (frzH b ds 0 σ.hp).all okBox then some ⟨σ.n, σ.tm.map fun p => (p.1, frzV b ds p.2), frzH b ds 0 σ.hp⟩ else none
 | none => none
theorem get_map (f : V → V) (hf : f .any = .any) : ∀ (l : List (Nat × V)) (t : Nat), get (l.map fun p => (p.1, f p.2)) t = f (get l t)
 | [], t => by simp [get, hf]
 | (s, u) :: l, t => by
  simp only [List.map_cons, get, get_map f hf l t]
  cases Nat.beq s t <;> rfl
theorem R.frz {GL : GLT} {g : G} {w : World} {a : Act} {σ σ' : St} {b : Nat} (h : R GL g w a σ) (hc : frzSt b σ = some σ') : R GL (g.del b) w a σ' := by
 unfold frzSt at hc
 split at hc
 ·rename_i ds hds
  cases hok : (frzH b ds 0 σ.hp).all okBox with
  | false => rw [hok] at hc; cases hc
  | true =>
   rw [hok] at hc
   simp only [cond_true, Option.some.injEq] at hc; subst hc
   refine ⟨h.defers, h.size, fun t => ?_, h.heap.frz hds hok, h.globs.ext (Ext.frz _ _ (Ext.refl _ _))⟩
   simp only
   rw [get_map (frzV b ds) (by simp only [frzV])]
   exact RV.frz (frzAt h.heap hds) _ _ (h.tmps t)
 ·cases hc
def effF (ρ : Opd → V) : IOp → Option V
 | .mkSlice sz len z ps =>
  match fillC ρ z ps with
  | some cs => match dcells cs with
   | some ds => some (.d (.list (chunk sz len ds)))
   | none => none
  | none => none
 | _ => none
section
variable {P : Program} {a : Act} {o : Oper} {g : G} {w : World} {ρ : Opd → V} {H : Heap} {ns : Nat}
theorem comp_mkSlice {op : Op} {sz len : Nat} {z : List V} {ps : List (Nat × Nat × Opd)} (h : compOp P op = some (.mkSlice sz len z ps)) : ∃ t e z0 qs, op = .buildSlice t len qs ∧ P.underlying t = some (.slice e) ∧ szOf P e = some sz ∧ zeroOf P e = some z0 ∧
  len * sz ≤ 2 ^ 24 ∧ z0.length = sz ∧ 0 < sz ∧ compParts (fun i => some (i * sz, sz)) qs.toList = some ps ∧ z = (List.range (len * sz)).map fun i => z0.getD (i % sz) .any := by
 cases op with
 | buildSlice t len' qs =>
  simp only [compOp] at h
  split at h
  ·rename_i e ht
   split at h
   ·rename_i s z0 hs hz
    split at h
    ·rename_i hc
     simp only [Option.map_eq_some_iff, IOp.mkSlice.injEq] at h
     obtain ⟨q, hq, rfl, rfl, rfl, rfl⟩ := h
     exact ⟨t, e, z0, qs, rfl, ht, hs, hz, hc.1, hc.2.1, hc.2.2, hq, rfl⟩
    ·cases h
   ·cases h
  ·cases h
 | makeFunc fn a b => exfalso; cases fn <;> (simp only [compOp] at h; (repeat' split at h) <;> simp at h)
 | makeMap t r => exfalso; cases r <;> (simp only [compOp] at h; simp at h)
 | slice t x lo hi mx => exfalso; cases mx <;> (simp only [compOp] at h; (repeat' split at h) <;> simp at h)
 | call c => exfalso; simp only [compOp, compCall] at h; (repeat' split at h) <;> simp at h
 | _ => exfalso; simp only [compOp] at h; (repeat' split at h) <;> simp at h
theorem Ext.newImm {g : G} {w : World} {H : Heap} (hh : HeapOK g w H) (o : Obj) : Ext g w g (w.alloc o) ∧ HeapOK g (w.alloc o) H ∧ imm g (w.alloc o) w.heap.size := by
 have he : Ext g w g (w.alloc o) := ⟨rfl, rfl, rfl, by simp, fun k hk => ⟨⟨by have := hk.1; simp; omega, hk.2⟩, heap_push_lt _ _ hk.1⟩, fun _ h => h, fun _ _ => GB.step.refl _, rfl, fun k hk => heap_push_lt _ _ (hh.fo k hk).1⟩
 have hown : ∀ b x k, g.γ b = some x → x.own = some k → k < w.heap.size := fun b x k hx hk => by
  obtain ⟨_, y, _, hr⟩ := hh.live b x hx
  exact hr.lt k hk
 refine ⟨he, hh.ext he (fun b x k hx hk => heap_push_lt _ _ (hown b x k hx hk)), by simp, fun h => ?_, fun b x hx hk => ?_⟩
 ·have := (hh.fo _ h).1; omega
 ·have := hown b x _ hx hk; omega
theorem effF_good {io : IOp} {v : V} (hop : compOp P o.op = some io) (he : effF ρ io = some v) (ev : Ev ρ a g w) (hh : HeapOK g w H) :
  ∃ w' x, (execOp a.eval o).run P w = .ok (.value x) w' ∧ RV g w' v x ∧ HeapOK g w' H ∧ Ext g w g w' := by
 cases io with
 | mkSlice sz len z ps =>
  simp only [effF] at he
  split at he
  ·rename_i cs hcs
   split at he
   ·rename_i ds hds
    simp only [Option.some.injEq] at he; subst he
    obtain ⟨t, e, z0, qs, ho, hu, hs, hz, h1, h2, h3, hq, rfl⟩ := comp_mkSlice hop
    obtain ⟨c', k1, k2, k3, k4⟩ := run_mkSlice ho hu hs hz h1 h2 h3 hq hcs ev
    obtain ⟨f1, f2, f3⟩ := Ext.newImm hh (.cells c' e)
    refine ⟨_, _, k4, ?_, f2, f1⟩
    simp only [RV, Rd, chunk_length]
    right
    obtain ⟨hl, hget⟩ := dcells_get hds
    have hk := k1.length
    refine ⟨_, 0, len, sz, rfl, Nat.le_refl _, fun _ => f3, chunk_RdE' (by omega) ?_⟩
    refine RdC.of_vals (vs := c'.toList) (by omega) (fun j d v hd hv => ?_) (fun j v hv => ?_)
    ·rcases hget j d hd with hc | ⟨hc, rfl⟩
     ·obtain ⟨v', hv', hrv⟩ := RVs.get j k1 hc
      rw [hv] at hv'; simp only [Option.some.injEq] at hv'; subst hv'
      simp only [RV] at hrv
      exact Rd.keeps f1.keeps _ _ hrv
     ·obtain ⟨v', hv', hrv⟩ := RVs.get j k1 hc
      rw [hv] at hv'; simp only [Option.some.injEq] at hv'; subst hv'
      simp only [RV] at hrv
      subst hrv
      simp [Rd]
    ·simp only [World.cell?, heap_push_self]
     simpa using hv
   ·cases he
  ·cases he
 | _ => simp [effF] at he
end
end Fw
