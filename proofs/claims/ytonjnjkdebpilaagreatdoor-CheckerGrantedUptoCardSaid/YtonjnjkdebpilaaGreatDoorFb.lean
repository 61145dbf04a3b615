/-
  Operations, further: fields, indexes, lengths, append, maps, functions.
-/
import Derived.Test.YtonjnjkdebpilaaGreatDoorFa
import Derived.Laws.StructEq

set_option linter.unusedSimpArgs false
namespace Fw
open Go
section
variable {P : Program} {a : Act} {o : Oper} {g : G} {w : World} {ρ : Opd → V} {H : Heap} {ns : Nat}
theorem run_part {t : TypeId} {n : Nat} {b : Bool} {cs : Array Value} {us : List V} {v : V} {off : Nat} (hn : szOf P t = some n) (hb : aggOf P t = some b) (hl : off + n ≤ us.length) (hv : RVs g w us cs.toList) (hm : mkV b ((us.drop off).take n) = some v) (h1 : b = true ∨ n = 1) :
    ∃ x, (part t cs off).run P w = .ok x w ∧ RV g w v x := by
  have hvs := (hv.drop off).take n
  obtain ⟨k1, k2⟩ := mkV_RV hm hvs
  have hlen := hv.length
  simp at hlen
  cases b with
  | true =>
    refine ⟨_, ?_, k1⟩
    simp only [part, Sem.run_bind, run_agg hb, Result.andThen_ok, if_true, run_size hn, Sem.run_pure]
    congr 2
    grind
  | false =>
    have hn1 : n = 1 := by grind
    subst hn1
    have : off < cs.size := by omega
    refine ⟨cs[off], ?_, ?_⟩
    · simp [part, run_agg hb, Array.getElem?_eq_getElem this]
    · have e : (cs.toList.drop off).take 1 = [cs[off]] := by
        rw [List.drop_eq_getElem_cons (by grind)]
        simp
      grind
theorem g_faddr {t : TypeId} {x : Operand} {x' : Opd} {f off n : Nat} {fs : Array Field} {v : V} (ho : o.op = .fieldAddr t x f) (ht : P.underlying t = some (.struct fs)) (hf : fieldPlaceOf P fs f = some (off, n)) (h0 : 0 < n)
    (hx : compOpd x = some x') (h : eff ρ H ns (.faddr off n x') = some (v, none)) (ev : Ev ρ a g w) (hh : HeapOK g w H) : Good P a o g w ns v H := by
  have hv := ev _ _ hx
  simp only [fieldPlaceOf, Option.bind_eq_some_iff, Option.map_eq_some_iff, Prod.mk.injEq] at hf
  obtain ⟨fd, hfd, s, hs, rfl, rfl⟩ := hf
  have hsz := run_size (P := P) hs w
  have hne : s ≠ 0 := by omega
  have hrun : ∀ blk off, a.eval x = .pointer (some ⟨blk, off, none⟩) → (execOp a.eval o).run P w = .ok (.value (.pointer (some ⟨blk, off + fd.offset, none⟩))) w := by
    intro blk off he
    simp [execOp, ho, he, Instr.fieldAt, run_underlying ht, hfd, Instr.sureAddr, fieldPlace, hsz, hne, Addr.add_mk]
  simp only [eff] at h
  split at h <;> simp only [Option.some.injEq, Prod.mk.injEq, reduceCtorEq] at h
  · rename_i b hb q e
    obtain ⟨rfl, _⟩ := h
    rw [e] at hv
    simp only [RV] at hv
    obtain ⟨⟨⟨blk, off, h1⟩, hd⟩, h2⟩ := hv
    refine Good.val hh (hrun _ _ h1) ?_
    simp_all[RV,Value.pointer.injEq,Option.some.injEq,Addr.mk.injEq,and_true]
  · rename_i cs e
    obtain ⟨rfl, _⟩ := h
    rw [e] at hv
    simp only [RV] at hv
    obtain ⟨blk, off, h1, h2, h3⟩ := hv
    refine Good.val hh (hrun _ _ h1) ?_
    simp only [RV]
    refine ⟨_, _, rfl, fun hn => h2 (by grind), ?_⟩
    clear h1 hrun h2 e
    suffices h : ∀ (k : Nat) (ds : List D) (q : Nat), RdC w (imm g w) blk q ds → RdC w (imm g w) blk (q + k) (ds.drop k) ∧ RdC w (imm g w) blk q (ds.take k) from
      (h s _ _ (h fd.offset _ _ h3).1).2
    intro k ds
    induction ds generalizing k with
    | nil => grind[RdC]
    | cons d ds ih =>
      intro q hq
      cases k with
      | zero => simp_all[List.drop_zero,List.take_zero,RdC,Nat.add_zero]
      | succ k =>
        grind[RdC]
theorem RdC.drop {im : Nat → Prop} {blk : Nat} : ∀ {ds : List D} {q : Nat} (k : Nat), RdC w im blk q ds → RdC w im blk (q + k) (ds.drop k)
  | [], _, k, _ => by simp [RdC]
  | d :: ds, q, 0, h => by grind
  | d :: ds, q, k + 1, h => by
    simp only [RdC] at h
    simp
    rw [show q + (k + 1) = q + 1 + k by omega]
    exact RdC.drop k h.2
theorem g_iaddr {t el : TypeId} {x i : Operand} {x' i' : Opd} {sz : Nat} {v : V} (ho : o.op = .indexAddr t x i) (ht : P.underlying t = some (.slice el)) (hs : szOf P el = some sz) (hx : compOpd x = some x') (hi : compOpd i = some i')
    (h : eff ρ H ns (.iaddr sz x' i') = some (v, none)) (ev : Ev ρ a g w) (hh : HeapOK g w H) : Good P a o g w ns v H := by
  have hv := ev _ _ hx
  simp only [eff] at h
  split at h
  · cases h
  · rename_i j ej
    obtain ⟨k, hk⟩ := natOf_ok ej (ev _ _ hi)
    have hrun : ∀ blk off len cap, a.eval x = .slice (some ⟨blk, off, none⟩) len cap → j < len → (execOp a.eval o).run P w = .ok (.value (.pointer (some ⟨blk, off + j * sz, none⟩))) w := by
      intro blk off len cap he hj
      have : ((j : Int) < (len : Int)) := by omega
      simp [execOp, ho, he, Instr.indexAt, hk, asIntOf, run_underlying ht, hj, run_size hs, Addr.add_mk]
    split at h
    · rename_i es e
      split at h
      · rename_i d hd
        cases hb : Nat.beq d.length sz with
        | false => grind
        | true =>
          rw [hb] at h
          simp at h
          obtain ⟨rfl, _⟩ := h
          rw [e] at hv
          simp only [RV, Rd] at hv
          have hj : j < es.length := (List.getElem?_eq_some_iff.1 hd).1
          rcases hv with ⟨rfl, _⟩ | ⟨blk, off, cap, sz', h1, h2, h3, h4⟩
          · simp at hj
          · obtain ⟨h5, h6⟩ := RdE.get j h4 hd
            have : sz' = sz := by simp_all
            subst this
            refine Good.val hh (hrun _ _ _ _ h1 hj) ?_
            grind[RV]
      · cases h
    · rename_i b hb off len sz' e
      cases hc : (Nat.beq sz sz' && Nat.blt j len && liveB H b hb) with
      | false => grind
      | true =>
        rw [hc] at h
        simp at h
        obtain ⟨rfl, _⟩ := h
        simp only [Bool.and_eq_true] at hc
        have e1 := Nat.eq_of_beq_eq_true hc.1.1
        subst e1
        have hj : j < len := by simp_all
        rw [e] at hv
        rcases liveB_cases hc.2 hh with ⟨blk, cp, hg⟩ | ⟨rfl, hg⟩
        · obtain ⟨cap, h1, h2, h3⟩ := RV.slLive hv hg
          refine Good.val hh (hrun _ _ _ _ h1 hj) ?_
          grind[RV,Option.some.injEq]
        · obtain ⟨_, rfl, _⟩ := RV.slNil hv hg
          omega
    · cases h
theorem g_iaddrA {t el : TypeId} {x i : Operand} {x' i' : Opd} {len sz : Nat} {v : V} (ho : o.op = .indexAddr t x i) (ht : P.underlying t = some (.array len el)) (hs : szOf P el = some sz) (hx : compOpd x = some x') (hi : compOpd i = some i')
    (h : eff ρ H ns (.iaddrA len sz x' i') = some (v, none)) (ev : Ev ρ a g w) (hh : HeapOK g w H) : Good P a o g w ns v H := by
  have hv := ev _ _ hx
  simp only [eff] at h
  split at h
  · cases h
  · rename_i j ej
    obtain ⟨k, hk⟩ := natOf_ok ej (ev _ _ hi)
    cases hc : Nat.blt j len with
    | false => grind
    | true =>
      rw [hc] at h
      simp at h
      have hj : j < len := by simp_all
      have hrun : ∀ blk off, a.eval x = .pointer (some ⟨blk, off, none⟩) → (execOp a.eval o).run P w = .ok (.value (.pointer (some ⟨blk, off + j * sz, none⟩))) w := by
        intro blk off he
        simp [execOp, ho, he, Instr.indexAt, hk, asIntOf, run_underlying ht, hj, run_size hs, Addr.add_mk, Instr.sureAddr]
      split at h <;> simp only [Option.some.injEq, Prod.mk.injEq, reduceCtorEq] at h
      · rename_i b hb q e
        obtain ⟨rfl, _⟩ := h
        rw [e] at hv
        simp only [RV] at hv
        obtain ⟨⟨⟨blk, off, h1⟩, hd⟩, h2⟩ := hv
        refine Good.val hh (hrun _ _ h1) ?_
        simp_all[RV,Value.pointer.injEq,Option.some.injEq,Addr.mk.injEq,and_true]
      · rename_i cs e
        obtain ⟨rfl, _⟩ := h
        rw [e] at hv
        simp only [RV] at hv
        obtain ⟨blk, off, h1, h2, h3⟩ := hv
        refine Good.val hh (hrun _ _ h1) ?_
        simp only [RV]
        exact ⟨_, _, rfl, fun hn => h2 (by grind), RdC.drop _ h3⟩
theorem g_idxS {t : TypeId} {x i : Operand} {x' i' : Opd} {v : V} (ho : o.op = .index t x i) (ht : P.underlying t = some .string) (hx : compOpd x = some x') (hi : compOpd i = some i') (h : eff ρ H ns (.idxS x' i') = some (v, none)) (ev : Ev ρ a g w) (hh : HeapOK g w H) :
    Good P a o g w ns v H := by
  have hv := ev _ _ hx
  simp only [eff] at h
  split at h
  · cases h
  · rename_i j ej
    obtain ⟨k, hk⟩ := natOf_ok ej (ev _ _ hi)
    split at h
    · rename_i s e
      split at h
      · rename_i b hb
        simp at h
        obtain ⟨rfl, _⟩ := h
        rw [e] at hv
        obtain ⟨bs, h1, rfl⟩ := RV.str hv
        refine Good.val (x := .int .u8 b.toNat) hh ?_ (RV.mkI _ _)
        have hb2 : bs[j]? = some b := by
          have hlt := (List.getElem?_eq_some_iff.1 hb).1
          have hlt' : j < bs.size := by simp_all
          rw [getElem?_pos bs j hlt']
          have := (List.getElem?_eq_some_iff.1 hb).2
          rw [← this]
          rfl
        simp [execOp, ho, h1, Instr.index, hk, asIntOf, run_underlying ht, hb2]
      · cases h
    · cases h
theorem g_idxA {t el : TypeId} {x i : Operand} {x' i' : Opd} {len sz j : Nat} {b : Bool} {cs : List V} {v : V} (ho : o.op = .index t x i) (ht : P.underlying t = some (.array len el)) (hs : szOf P el = some sz) (hb : aggOf P el = some b) (h1 : b = true ∨ sz = 1)
    (hx : compOpd x = some x') (hi : compOpd i = some i') (ej : natOf (ρ i') = some j) (e : ρ x' = .agg cs) (hj : j < len) (hl : len * sz ≤ cs.length) (hm : mkV b ((cs.drop (j * sz)).take sz) = some v) (ev : Ev ρ a g w) (hh : HeapOK g w H) : Good P a o g w ns v H := by
  have hv := ev _ _ hx
  rw [e] at hv
  simp only [RV] at hv
  obtain ⟨z, h2, h3⟩ := hv
  obtain ⟨k, hk⟩ := natOf_ok ej (ev _ _ hi)
  have hle : j * sz + sz ≤ cs.length := by
    have : (j + 1) * sz ≤ len * sz := Nat.mul_le_mul_right _ hj
    grind
  obtain ⟨y, h4, h5⟩ := run_part (P := P) hs hb hle h3 hm h1
  exact Good.val hh (by simp [execOp, ho, h2, Instr.index, hk, asIntOf, run_underlying ht, hj, run_size hs, h4]) h5
theorem g_ext {x : Operand} {x' : Opd} {i : Nat} {vs : List V} {v : V} (ho : o.op = .extract x i) (hx : compOpd x = some x') (e : ρ x' = .tuple vs) (hi : vs[i]? = some v) (ev : Ev ρ a g w) (hh : HeapOK g w H) : Good P a o g w ns v H := by
  have hv := ev _ _ hx
  rw [e] at hv
  simp only [RV] at hv
  obtain ⟨z, h2, h3⟩ := hv
  obtain ⟨y, h4, h5⟩ := h3.get i hi
  have h4' : z[i]? = some y := by grind
  exact Good.val hh (by simp_all[execOp,Instr.extract]) h5
theorem mapOpds (ev : Ev ρ a g w) : ∀ {l : List Operand} {l' : List Opd}, mapO compOpd l = some l' → RVs g w (mlist ρ l') (l.map a.eval)
  | [], l', h => by grind[mapO,mlist,RVs]
  | x :: xs, l', h => by
    simp only [mapO] at h
    split at h
    · cases h
    · rename_i y hy
      split at h
      · cases h
      · rename_i ys hys
        simp at h; subst h
        simp
        exact ⟨ev _ _ hy, mapOpds ev hys⟩
theorem g_mkfunc {f : FuncId} {p q : Array Operand} {p' q' : List Opd} (ho : o.op = .makeFunc (.func f) p q) (hp : mapO compOpd p.toList = some p') (hq : mapO compOpd q.toList = some q') (ev : Ev ρ a g w) (hh : HeapOK g w H) :
    Good P a o g w ns (.func f (mlist ρ p') (mlist ρ q')) H := by
  refine Good.val (x := .func (.func f) (p.map a.eval) (q.map a.eval)) hh (by simp [execOp, ho, Instr.makeFunc]) ?_
  simp only [RV]
  exact ⟨_, _, rfl, by simpa using mapOpds ev hp, by simpa using mapOpds ev hq⟩
theorem g_mkmap {t : TypeId} (ho : o.op = .makeMap t none) (hh : HeapOK g w H) (hns : Fresh g ns) : Good P a o g w ns (.map ns) (hput H ns (.map [])) := by
  have he := Ext.new hh hns (.map #[] 0) (.obj w.heap.size) rfl
  have h2 : HeapOK (g.add ns (.obj w.heap.size)) (w.alloc (.map #[] 0)) (hput H ns (.map [])) := by
    refine HeapOK.new hh hns _ _ _ rfl ?_
    simp only [RB]
    exact ⟨#[], 0, heap_push_self _ _, rfl, by simp, by simp, rfl⟩
  refine ⟨_, _, .value (.map (some w.heap.size)), ?_, .inl ⟨_, rfl, ?_⟩, h2, he, fun _ h => h⟩
  · simp [execOp, ho, Instr.makeMap]
  · simp only [RV]
    refine ⟨⟨rfl, .inr rfl⟩, fun x hx => ?_⟩
    grind[G.add]
theorem g_range {t kt el : TypeId} {x : Operand} {x' : Opd} {v : V} {wr : Wr} (ho : o.op = .range t x) (ht : P.underlying t = some (.map kt el)) (hx : compOpd x = some x') (h : eff ρ H ns (.range true x') = some (v, wr)) (ev : Ev ρ a g w) (hh : HeapOK g w H) (hns : Fresh g ns) :
    Good P a o g w ns v (happ H wr) := by
  have hv := ev _ _ hx
  simp only [eff, cond_true] at h
  split at h
  · rename_i b eb
    rw [eb] at hv
    simp only [RV] at hv
    split at h
    · rename_i es hg
      simp at h
      obtain ⟨rfl, rfl⟩ := h
      obtain ⟨xb, hxb⟩ := hh.back b _ hg
      obtain ⟨hd, y, hy, hr⟩ := hh.live b xb hxb
      rw [hg] at hy; simp at hy; subst hy
      obtain ⟨blk, rfl, hv2⟩ := hv.2 xb hxb
      simp only [RB] at hr
      obtain ⟨ents, clock, h1, h2, h3, h4, h5⟩ := hr
      have he := Ext.new hh hns (.mapIter (some blk) clock #[] clock) (.obj w.heap.size) rfl
      have hbn : b ≠ ns := by rintro rfl; exact hns hd
      have h2' : HeapOK (g.add ns (.obj w.heap.size)) (w.alloc (.mapIter (some blk) clock #[] clock)) (hput H ns (.miter b es.length [])) := by
        refine HeapOK.new hh hns _ _ _ rfl ?_
        simp only [RB]
        refine ⟨blk, #[], by rw [← h2, ← h5]; exact heap_push_self _ _, rfl, .inl hd, fun x hx => ?_⟩
        simp_all[G.add,Option.some.injEq]
      refine ⟨_, _, .value (.pointer (some ⟨w.heap.size, 0, none⟩)), ?_, .inl ⟨_, rfl, ?_⟩, h2', he, fun _ h => h⟩
      · simp [execOp, ho, Instr.range, run_underlying ht, hv2, getObj, Sem.run, h1]
      · simp only [RV]
        refine ⟨⟨rfl, .inr rfl⟩, fun x hx => ?_⟩
        grind[G.add]
    · cases h
  · cases h
theorem g_entry {x : Operand} {x' : Opd} {v : V} {wr : Wr} (ho : o.op = .entry x) (hx : compOpd x = some x') (h : eff ρ H ns (.entry x') = some (v, wr)) (ev : Ev ρ a g w) (hh : HeapOK g w H) :
    Good P a o g w ns v (happ H wr) := by
  have hv := ev _ _ hx
  simp only [eff] at h
  split at h
  · rename_i b m eb
    rw [eb] at hv
    simp only [RV] at hv
    split at h
    · rename_i m' n seen hgb
      split at h
      · rename_i es hgm
        cases hc : (Nat.beq m' m && Nat.beq es.length n) with
        | false => grind
        | true =>
          rw [hc] at h
          simp at h
          simp only [Bool.and_eq_true] at hc
          obtain rfl := Nat.eq_of_beq_eq_true hc.1
          have hn := Nat.eq_of_beq_eq_true hc.2
          split at h
          · rename_i i hi
            split at h
            · rename_i k u hk
              simp at h
              obtain ⟨rfl, rfl⟩ := h
              obtain ⟨xb, hxb⟩ := hh.back b _ hgb
              obtain ⟨_, y, hy, hr⟩ := hh.live b xb hxb
              rw [hgb] at hy; simp at hy; subst hy
              obtain ⟨blk, rfl, hv2⟩ := hv.2 xb hxb
              simp only [RB] at hr
              obtain ⟨mb, sa, k1, k2, k3, k4⟩ := hr
              obtain ⟨xm, hxm⟩ := hh.back m' _ hgm
              obtain ⟨_, y, hy, hrm⟩ := hh.live m' xm hxm
              rw [hgm] at hy; simp at hy; subst hy
              obtain rfl := k4 xm hxm
              simp only [RB] at hrm
              obtain ⟨ents, clock, m1, m2, m3, m4, m5⟩ := hrm
              obtain ⟨z, z1, z2, z3, z4⟩ := m3 i k u hk
              have hback : sa.back? = some i := by
                grind
              have hfind : ents.find? (fun e => e.born == i) = some z := by
                have hb := m4 i z z1
                rw [Array.find?_eq_some_iff_getElem]
                obtain ⟨hlt, hz⟩ := Array.getElem?_eq_some_iff.1 z1
                refine ⟨by simp [hb], i, hlt, hz, fun j hj => ?_⟩
                have := m4 j _ (Array.getElem?_eq_getElem (by omega))
                grind
              have hck : (clock != n) = false := by simp; omega
              refine Good.val (x := .tuple #[z.key, z.val]) hh ?_ ?_
              all_goals simp_all[execOp,Instr.entry,getObj,Sem.run,RV,RVs]
            · cases h
          · cases h
      · cases h
    · cases h
  · cases h
theorem g_mkiface {t : TypeId} {d : TypeDesc} {x : Operand} {x' : Opd} (ho : o.op = .makeInterface t x) (ht : P.underlying t = some d) (hd : ∀ m, d ≠ .interface m) (hx : compOpd x = some x') (ev : Ev ρ a g w) (hh : HeapOK g w H) :
    Good P a o g w ns (.iface t (ρ x')) H := by
  refine Good.val (x := .iface t (a.eval x)) hh ?_ (by simp only [RV]; exact ⟨_, rfl, ev _ _ hx⟩)
  cases d <;> simp_all [execOp, Instr.makeInterface, run_underlying ht]
def LenTy (P : Program) (t : TypeId) : LenKind → Prop
  | .str => P.underlying t = some .string
  | .slice => ∃ e, P.underlying t = some (.slice e)
  | .map => ∃ k e, P.underlying t = some (.map k e)
  | .arr _ => False
theorem lenV_ok {u : V} {v : Value} {k : LenKind} {n : Nat} {t ty : TypeId} (h : lenV H k u = some n) (hv : RV g w u v) (hh : HeapOK g w H) (hk : LenTy P t k) :
    (Builtin.len_ #[t] ty #[v]).run P w = .ok (goInt n) w := by
  cases k with
  | str =>
    simp only [LenTy] at hk
    cases u with
    | d x =>
      cases x with
      | str s =>
        simp only [lenV, Option.some.injEq] at h
        subst h
        obtain ⟨b, rfl, rfl⟩ := RV.str hv
        simp [Builtin.len_, run_underlying hk]
      | _ => simp [lenV] at h
    | _ => simp [lenV] at h
  | slice =>
    obtain ⟨e, he⟩ := hk
    cases u with
    | d x =>
      cases x with
      | list es =>
        simp only [lenV, Option.some.injEq] at h
        subst h
        simp only [RV, Rd] at hv
        rcases hv with ⟨rfl, rfl | ⟨_, _, rfl⟩⟩ | ⟨blk, off, cap, sz, rfl, _⟩ <;> simp [Builtin.len_, run_underlying he]
      | _ => simp [lenV] at h
    | nils =>
      simp only [lenV, Option.some.injEq] at h
      subst h
      simp only [RV] at hv
      subst hv
      simp [Builtin.len_, run_underlying he]
    | sl b hb off len sz =>
      simp only [lenV] at h
      cases hl : liveB H b hb with
      | false => grind
      | true =>
        rw [hl] at h
        simp at h; subst h
        rcases liveB_cases hl hh with ⟨blk, cp, hg⟩ | ⟨rfl, hg⟩
        · obtain ⟨cap, rfl, _⟩ := RV.slLive hv hg
          simp [Builtin.len_, run_underlying he]
        · obtain ⟨_, rfl, _, rfl⟩ := RV.slNil hv hg
          simp [Builtin.len_, run_underlying he]
    | _ => simp [lenV] at h
  | map =>
    obtain ⟨kt, e, he⟩ := hk
    cases u with
    | d x => cases x <;> simp [lenV] at h
    | nilm =>
      simp only [lenV, Option.some.injEq] at h
      subst h
      simp only [RV] at hv
      subst hv
      simp [Builtin.len_, run_underlying he]
    | map b =>
      simp only [lenV] at h
      split at h
      · rename_i es hg
        simp at h; subst h
        obtain ⟨x, hx⟩ := hh.back b _ hg
        obtain ⟨_, y, hy, hr⟩ := hh.live b x hx
        rw [hg] at hy; simp at hy; subst hy
        simp only [RV] at hv
        obtain ⟨blk, rfl, rfl⟩ := hv.2 x hx
        simp only [RB] at hr
        obtain ⟨ents, clock, h1, h2, _⟩ := hr
        simp [Builtin.len_, run_underlying he, getObj, Sem.run, h1, h2]
      · cases h
    | _ => simp [lenV] at h
  | arr => exact hk.elim
theorem sliceC_ok {sz : Nat} {u : V} {v : Value} {xs : List V} (h : sliceC H sz u = some xs) (hv : RV g w u v) (hh : HeapOK g w H) (hsz : 0 < sz) :
    ∃ n vs, (Builtin.lenOf v).run P w = .ok n w ∧ (Builtin.firstCells sz n v).run P w = .ok vs.toArray w ∧ RVs g w xs vs ∧ vs.length = n * sz := by
  cases u with
  | nils =>
    simp_all[sliceC,Option.some.injEq,RV,Builtin.lenOf,Builtin.firstCells,RVs]
  | d x =>
    cases x with
    | list es =>
      simp only [sliceC] at h
      cases hc : es.all (fun e => Nat.beq e.length sz) with
      | false => grind
      | true =>
        rw [hc] at h
        simp at h; subst h
        rcases RV.list hv (all_len hc) with ⟨rfl, rfl | ⟨_, _, rfl⟩⟩ | ⟨blk, off, cap, rfl, _, _, h4⟩
        · simp_all[Builtin.lenOf,Builtin.firstCells,RVs]
        · simp_all[Builtin.lenOf,Builtin.firstCells,loadCells,loadCellsFrom,RVs]
        · have hflat : ∀ (es : List (List D)) (off : Nat), RdE w (imm g w) blk off sz es → RdC w (imm g w) blk off es.flatten := by
            intro es
            induction es with
            | nil => grind[RdC]
            | cons e es ih =>
              intro off h
              simp only [RdE] at h
              obtain ⟨q1, q2, q3⟩ := h
              have happ : ∀ (ds es' : List D) (q : Nat), RdC w (imm g w) blk q ds → RdC w (imm g w) blk (q + ds.length) es' → RdC w (imm g w) blk q (ds ++ es') := by
                intro ds es'
                induction ds<;>grind[RdC]
              grind
          obtain ⟨vs, k1, k2⟩ := RdC.vals (hflat es off h4)
          have hlen : vs.length = es.length * sz := by
            have := k1.length
            simp only [List.length_map] at this
            rw [← this]
            have hgen : ∀ (es : List (List D)), es.all (fun e => Nat.beq e.length sz) = true → es.flatten.length = es.length * sz := by
             clear this k1 k2 vs hv h4 hflat hc
             intro es hc
             induction es with
             | nil => simp
             | cons e es ih =>
               simp only [List.all_cons, Bool.and_eq_true] at hc
               simp only [List.flatten_cons, List.length_append, List.length_cons]
               rw [ih hc.2, Nat.eq_of_beq_eq_true hc.1, Nat.add_mul]; omega
            grind
          have := run_loadCells_list (P := P) w ⟨blk, off, none⟩ vs (fun j x hj => by grind[Addr.add_mk])
          simp_all[Builtin.lenOf,Builtin.firstCells]
    | str s =>
      simp only [sliceC] at h
      cases hq : Nat.beq sz 1 with
      | false => grind
      | true =>
      rw [hq] at h
      have := Nat.eq_of_beq_eq_true hq
      subst this
      simp at h; subst h
      obtain ⟨b, rfl, rfl⟩ := RV.str hv
      refine ⟨b.size, b.data.toList.map (fun x => .int .u8 x.toNat), by simp [Builtin.lenOf], ?_, ?_, by simp⟩
      · have e : b.extract 0 b.size = b := by
          simp_all
        simp only [Builtin.firstCells, e, Sem.run_pure]
        congr 1
        grind
      · generalize b.data.toList = l
        induction l with
        | nil => simp [RVs]
        | cons x l ih => simp; exact ⟨RV.mkI _ _, ih⟩
    | _ => simp [sliceC] at h
  | sl b hb off len sz' =>
    simp only [sliceC] at h
    cases hq : Nat.beq sz sz' with
    | false => grind
    | true =>
      have e1 := Nat.eq_of_beq_eq_true hq
      subst e1
      rw [hq] at h
      simp at h
      cases hg : hget H b with
      | none => grind
      | some y =>
        cases y with
        | cells cs =>
          simp only [hg] at h
          cases hc : (Nat.beq cs.length hb && Nat.ble (off + len * sz) hb) with
          | false => grind
          | true =>
            rw [hc] at h
            simp at h; subst h
            simp only [Bool.and_eq_true] at hc
            have e2 := Nat.le_of_ble_eq_true hc.2
            obtain ⟨blk, cp, c, e, h1, h2, h3, h4, h5, h6, h7⟩ := live_cells hg hc.1 hh
            obtain ⟨cap, rfl, h8, h9⟩ := RV.slLive hv h1
            refine ⟨len, ((c.toList.take hb).drop off).take (len * sz), by simp [Builtin.lenOf], ?_, (h7.drop off).take _, by simp; omega⟩
            have hlen : (((c.toList.take hb).drop off).take (len * sz)).length = len * sz := by simp; omega
            have := run_loadCells_list (P := P) w ⟨blk, off, none⟩ (((c.toList.take hb).drop off).take (len * sz)) (fun j x hj => by
              grind[Addr.add_mk,World.cell?])
            grind[Builtin.firstCells]
        | nil =>
          simp only [hg] at h
          cases hc : Nat.beq len 0 with
          | false => grind
          | true =>
            rw [hc] at h
            simp at h; subst h
            obtain ⟨x, hx⟩ := hh.back b _ hg
            obtain ⟨_, y, hy, hr⟩ := hh.live b x hx
            rw [hg] at hy; simp at hy; subst hy
            cases x with
            | cells => grind[RB]
            | obj => grind[RB]
            | nil =>
              obtain ⟨_, rfl, _, rfl⟩ := RV.slNil hv hx
              simp_all[Builtin.lenOf,Builtin.firstCells,RVs]
        | _ => grind
  | _ => simp [sliceC] at h
end
end Fw

/-
  Operations, further: append.
-/
namespace Fw
open Go
section
variable {P : Program} {a : Act} {o : Oper} {g : G} {w : World} {ρ : Opd → V} {H : Heap} {ns : Nat}
theorem run_app_room {t u e ty : TypeId} {i : TypeInfo} {base : Option Addr} {sLen sCap n : Nat} {v : Value} {news : List Value} {w' : World} (ht : P.underlying t = some (.slice e)) (hu : (∃ e2, P.underlying u = some (.slice e2)) ∨ P.underlying u = some .string) (hi : P.info? e = some i)
    (hlen : (Builtin.lenOf v).run P w = .ok n w) (hfirst : (Builtin.firstCells i.size n v).run P w = .ok news.toArray w) (hroom : sLen + n ≤ sCap)
    (hst : ∀ a, base = some a → (storeCells (a.add (sLen * i.size)) news).run P w = .ok () w') (hn : base = none → w' = w) :
    (Builtin.append_ #[t, u] ty #[.slice base sLen sCap, v]).run P w = .ok (.slice base (sLen + n) sCap) w' := by
  cases base with
  | none =>
    have := hn rfl; subst this
    rcases hu with ⟨e2, hu⟩ | hu <;> simp [Builtin.append_, run_underlying ht, run_underlying hu, Go.sizeOf, typeInfo, hi, hlen, hroom, hfirst]
  | some b =>
    have := hst b rfl
    rcases hu with ⟨e2, hu⟩ | hu <;> simp [Builtin.append_, run_underlying ht, run_underlying hu, Go.sizeOf, typeInfo, hi, hlen, hroom, hfirst, this]
theorem run_app_grow {t u e ty : TypeId} {i : TypeInfo} {z : Value} {base : Option Addr} {sLen sCap n : Nat} {v : Value} {olds news : List Value} (ht : P.underlying t = some (.slice e)) (hu : (∃ e2, P.underlying u = some (.slice e2)) ∨ P.underlying u = some .string) (hi : P.info? e = some i) (hz : i.zero = some z)
    (hlen : (Builtin.lenOf v).run P w = .ok n w) (hfirst : (Builtin.firstCells i.size n v).run P w.drew = .ok news.toArray w.drew) (hold : (Builtin.firstCells i.size sLen (.slice base sLen sCap)).run P w.drew = .ok olds.toArray w.drew)
    (hg : sCap < sLen + n) (h63 : ((sLen + n : Nat) : Int) ≤ 9223372036854775807) (hfit : Builtin.nextslicecap (sLen + n) sCap * i.bytes ≤ 281474976710656) :
    (Builtin.append_ #[t, u] ty #[.slice base sLen sCap, v]).run P w =
      .ok (.slice (some ⟨w.heap.size, 0, none⟩) (sLen + n) (grownCap w (sLen + n) sCap e))
        (w.drew.alloc (.cells (olds.toArray ++ news.toArray ++ Builtin.zeroCells z.cells (grownCap w (sLen + n) sCap e - (sLen + n))) e)) := by
  have hn : ¬ (sLen + n ≤ sCap) := by omega
  have h63' : ¬ (9223372036854775807 < ((sLen : Int) + (n : Int))) := by omega
  have h48' : ¬ (281474976710656 < Builtin.nextslicecap (sLen + n) sCap * i.bytes) := by omega
  rcases hu with ⟨e2, hu⟩ | hu <;> simp [Builtin.append_, run_underlying ht, run_underlying hu, Go.sizeOf, typeInfo, zeroValue, hi, hz, hlen, hn, h63', h48', Question.forced, hfirst, hold, newRow, grownCap] <;> (grind)
theorem drewExt (g : G) (w : World) : Ext g w g w.drew := ⟨rfl, rfl, rfl, Nat.le_refl _, fun _ h => ⟨h, rfl⟩, fun _ h => h, fun _ _ => GB.step.refl _, rfl, rfl, fun _ _ => rfl⟩
theorem HeapOK.drew (hh : HeapOK g w H) : HeapOK g w.drew H := hh.ext (drewExt g w) (fun _ _ _ _ _ => rfl)
theorem g_append {t u e ty : TypeId} {i : TypeInfo} {zs : List V} {x y : Operand} {x' y' : Opd} {xs : List V} {v : V} {wr : Wr} (ho : o.op = .call { callee := .builtin .append, args := #[x, y], argTypes := #[t, u] }) (hty : o.type = ty)
    (ht : P.underlying t = some (.slice e)) (hu : (∃ e2, P.underlying u = some (.slice e2)) ∨ P.underlying u = some .string) (hi : P.info? e = some i) (hz : zeroOf P e = some zs) (h0 : 0 < i.size) (hzl : zs.length = i.size)
    (hx : compOpd x = some x') (hy : compOpd y = some y') (hs : sliceC H i.size (ρ y') = some xs) (ha : appendV H ns i.size i.bytes (ρ x') xs = some (v, wr)) (ev : Ev ρ a g w) (hh : HeapOK g w H) (hns : Fresh g ns) : Good P a o g w ns v (happ H wr) := by
  have hvx := ev _ _ hx
  have hvy := ev _ _ hy
  simp only [zeroOf, Option.bind_eq_some_iff] at hz
  obtain ⟨z, ⟨i', hi', hzv⟩, hm⟩ := hz
  rw [hi] at hi'
  simp only [Option.some.injEq] at hi'; subst hi'
  have hzs : z.cells.size = i.size := by have := mapO_length hm; grind
  obtain ⟨n, news, f1, f2, f3, f4⟩ := sliceC_ok (P := P) hs hvy hh h0
  obtain ⟨n', news', f1', f2', f3', f4'⟩ := sliceC_ok (P := P) hs (RV.ext (drewExt g w) _ _ hvy) hh.drew h0
  have hnn : n' = n := by
    have e1 := f3'.length; have e2 := f3.length
    have : n' * i.size = n * i.size := by omega
    exact Nat.eq_of_mul_eq_mul_right h0 this
  subst hnn
  have hxl : xs.length = n' * i.size := by rw [f3.length, f4]
  have hdiv : xs.length / i.size = n' := by simp_all
  unfold appendV at ha
  cases hb0 : Nat.beq i.size 0 with
  | true => grind
  | false =>
  rw [hb0] at ha
  simp only [cond_false] at ha
  cases hb1 : Nat.beq (xs.length % i.size) 0 with
  | false => grind
  | true =>
  rw [hb1] at ha
  simp only [Bool.not_true, cond_false] at ha
  cases hok : xs.all okC with
  | false => grind
  | true =>
  rw [hok] at ha
  simp only [Bool.not_true, cond_false] at ha
  have exec : ∀ (vx : Value) (r : Value) (w' : World), a.eval x = vx → (Builtin.append_ #[t, u] ty #[vx, a.eval y]).run P w = .ok r w' → (execOp a.eval o).run P w = .ok (.value r) w' := by
    simp_all[execOp,resolve,invoke,builtin]
  have grown : ∀ (blkv : Option Addr) (sLen sCap : Nat) (olds : List Value) (ocs : List V), a.eval x = .slice blkv sLen sCap → ocs.length = olds.length → ocs.all okC = true → olds.length = sLen * i.size →
      (Builtin.firstCells i.size sLen (.slice blkv sLen sCap)).run P w.drew = .ok olds.toArray w.drew → sCap < sLen + n' → ((ocs.length + xs.length) * (i.bytes + 1) ≤ roomB) →
      ∃ w' cap, (execOp a.eval o).run P w = .ok (.value (.slice (some ⟨w.heap.size, 0, none⟩) (sLen + n') cap)) w' ∧ w' = w.drew.alloc (.cells (olds.toArray ++ news'.toArray ++ Builtin.zeroCells z.cells (cap - (sLen + n'))) e) ∧ sLen + n' ≤ cap ∧
        (olds.toArray ++ news'.toArray ++ Builtin.zeroCells z.cells (cap - (sLen + n'))).size = cap * i.size := by
    intro blkv sLen sCap olds ocs e1 e2 e3 e4 e5 e6 e7
    have hol : ocs.length = sLen * i.size := by rw [e2, e4]
    have hneed : (sLen + n') * i.size = ocs.length + xs.length := by grind
    have hle : sLen + n' ≤ ocs.length + xs.length := by rw [← hneed]; exact Nat.le_mul_of_pos_right _ h0
    have hb : (sLen + n') * i.bytes ≤ 140737488355328 := by
      have e1 : (sLen + n') * i.bytes ≤ (ocs.length + xs.length) * (i.bytes + 1) := Nat.mul_le_mul hle (by omega)
      have e2 : roomB ≤ 140737488355328 := by decide
      omega
    have h63 : sLen + n' ≤ 140737488355328 := by
      have e1 : sLen + n' ≤ (ocs.length + xs.length) * (i.bytes + 1) := Nat.le_trans hle (Nat.le_mul_of_pos_right _ (by omega))
      have e2 : roomB ≤ 140737488355328 := by decide
      omega
    have hr := run_app_grow (ty := ty) ht hu hi hzv f1 f2' e5 e6 (by omega) (growslice_fits e6 hb)
    refine ⟨_, _, exec _ _ _ e1 hr, rfl, grownCap_ge _ _ _ _, ?_⟩
    have hge := grownCap_ge w (sLen + n') sCap e
    simp only [Array.size_append, List.size_toArray, size_zeroCells, hzs, e4, f4', ← Nat.add_mul]
    grind
  split at ha
  ·
    rename_i ex
    rw [ex] at hvx
    simp only [RV] at hvx
    split at ha
    · simp at ha
      obtain ⟨rfl, rfl⟩ := ha
      have hn0 : n' = 0 := by
                have hm0 : n' * i.size = 0 := by grind
                simp_all
      subst hn0
      have hr := run_app_room (ty := ty) (base := none) (sLen := 0) (sCap := 0) ht hu hi f1 f2 (Nat.le_refl _) (fun a h => by cases h) (fun _ => rfl)
      exact Good.val (x := .slice none 0 0) hh (exec _ _ _ hvx hr) (by simp only [RV])
    · rename_i hne
      cases hc : Nat.ble (xs.length * (i.bytes + 1)) roomB with
      | false => grind
      | true =>
        rw [hc] at ha
        simp at ha
        obtain ⟨rfl, rfl⟩ := ha
        have hpos : 0 < n' := by
          grind
        obtain ⟨w', cap, k1, rfl, k3, k4⟩ := grown none 0 0 [] [] hvx rfl rfl (by simp) (by simp [Builtin.firstCells]) (by omega) (by simp_all)
        have he := Ext.new (w := w.drew) hh.drew hns (.cells (([] : List Value).toArray ++ news'.toArray ++ Builtin.zeroCells z.cells (cap - (0 + n'))) e) (.cells w.heap.size (cap * i.size) xs.length) rfl
        refine ⟨_, _, _, k1, .inl ⟨_, rfl, ?_⟩, HeapOK.new hh.drew hns _ _ _ rfl ?_, (drewExt g w).trans he, fun _ h => h⟩
        · rw [hdiv, Nat.zero_add]
          refine RV.mkSl (cp := cap * i.size) (.inr rfl) (by simp [G.add]) (by omega) (by omega)
        · simp only [RB]
          refine ⟨trivial, hok, by grind, _, e, heap_push_self _ _, by grind, ?_⟩
          have : ((([] : List Value).toArray ++ news'.toArray ++ Builtin.zeroCells z.cells (cap - (0 + n'))).toList).take xs.length = news' := by
            grind
          rw [this]
          exact RVs.ext he _ _ f3'
  ·
    rename_i b hb off len sz' ex
    cases hq : Nat.beq i.size sz' with
    | false => grind
    | true =>
      have e1 := Nat.eq_of_beq_eq_true hq
      rw [hq] at ha
      simp only [cond_true] at ha
      rw [ex] at hvx
      rw [← e1] at hvx
      split at ha
      · rename_i cs hg
        cases hc : (Nat.beq cs.length hb && Nat.beq off 0 && Nat.beq (len * i.size) hb && Nat.ble ((hb + xs.length) * (i.bytes + 1)) roomB) with
        | false => grind
        | true =>
          rw [hc] at ha
          simp only [cond_true, Option.some.injEq, Prod.mk.injEq] at ha
          obtain ⟨rfl, rfl⟩ := ha
          simp only [Bool.and_eq_true] at hc
          have e2 := Nat.eq_of_beq_eq_true hc.1.1.2
          subst e2
          have e3 := Nat.eq_of_beq_eq_true hc.1.2
          obtain ⟨blk, cp, c, ce, h1', h2, h3, h4, h5, h6, h7⟩ := live_cells hg hc.1.1.1 hh
          obtain ⟨cap, h8, h9, h10⟩ := RV.slLive hvx h1'
          have hdom := RV.dom hvx
          by_cases hroom : len + n' ≤ cap
          · have hfit : hb + xs.length ≤ cp := by
              have : (len + n') * i.size ≤ cap * i.size := Nat.mul_le_mul_right _ hroom
              grind
            have hst := run_storeCells_at P blk (len * i.size) ce news 0 c w h5 (by grind) (RVs.one hok f3)
            simp only [Nat.add_zero] at hst
            rw [← putCells_eq _ _ _ (by grind), e3] at hst
            have hr := run_app_room (ty := ty) (base := some ⟨blk, 0, none⟩) ht hu hi f1 f2 hroom (fun q hq => by simp at hq; subst hq; rw [Addr.add_mk, Nat.zero_add, e3]; exact hst) (fun h => by cases h)
            have hw : ∀ j, j ≠ blk → (w.setRow blk (putCells c.toList hb news).toArray).heap[j]? = w.heap[j]? := fun j hj => setRow_other w blk j _ hj
            have hstep : GB.step (some (.cells blk cp hb)) (some (.cells blk cp (hb + xs.length))) := by
              by_cases hz : xs.length = 0
              · left; grind
              · right; grind
            have hwb : ∀ j, j < w.heap.size → some j ≠ some blk → (w.setRow blk (putCells c.toList hb news).toArray).heap[j]? = w.heap[j]? := fun j _ hj => hw j (fun e => hj (by rw [e]))
            have he : Ext g w (g.set b (.cells blk cp (hb + xs.length))) (w.setRow blk (putCells c.toList hb news).toArray) := Ext.grow (hh.foOf h1' rfl) h1' rfl hstep (.inl rfl) rfl rfl rfl (by simp) hwb
            refine ⟨_, _, _, exec _ _ _ h8 hr, .inl ⟨_, rfl, ?_⟩, HeapOK.grow (x' := .cells blk cp (hb + xs.length)) hh _ h1' rfl (.inl rfl) he hwb ?_, he, fun _ h => .inl h⟩
            · rw [hdiv]
              refine RV.mkSl (cp := cp) hdom (by simp [G.set]) (by omega) (by omega)
            · simp only [RB]
              have hpl : ∀ (l : List Value) (i : Nat) (vs : List Value), (putCells l i vs).length = l.length := by
                intro l i vs
                induction vs generalizing l i<;>grind[putCells]
              refine ⟨by simp; omega, by grind, by simp; omega, _, ce, setRow_heap w blk c _ ce _ h5, by grind, ?_⟩
              have e5 : (putCells c.toList hb news).take (cs ++ xs).length = c.toList.take hb ++ news := by
                rw [putCells_eq _ _ _ (by grind)]
                grind
              rw [List.toList_toArray, e5]
              exact RVs.append (RVs.ext he _ _ h7) (RVs.ext he _ _ f3)
          · have hold : (Builtin.firstCells i.size len (.slice (some ⟨blk, 0, none⟩) len cap)).run P w.drew = .ok (c.toList.take hb).toArray w.drew := by
              have hl : (c.toList.take hb).length = len * i.size := by simp; omega
              have := run_loadCells_list (P := P) w.drew ⟨blk, 0, none⟩ (c.toList.take hb) (fun j x hj => by
                rw [Addr.add_mk, Nat.zero_add]
                rw [List.getElem?_take] at hj
                split at hj
                · have h5' : w.drew.heap[blk]? = some (.cells c ce (0, 0)) := h5
                  grind[World.cell?]
                · cases hj)
              grind[Builtin.firstCells]
            obtain ⟨w', cap', k1, rfl, k3, k4⟩ := grown (some ⟨blk, 0, none⟩) len cap (c.toList.take hb) cs h8 h7.length h2 (by simp; omega) hold (by omega) (by simp_all)
            have hstep : GB.step (some (.cells blk cp hb)) (some (.cells w.heap.size (cap' * i.size) (hb + xs.length))) := by
              right
              refine ⟨_, _, _, rfl, ?_⟩
              have : 0 < xs.length := by
                rw [hxl]; exact Nat.mul_pos (by omega) h0
              omega
            have hwb : ∀ j, j < w.drew.heap.size → some j ≠ some blk → (w.drew.alloc (.cells ((c.toList.take hb).toArray ++ news'.toArray ++ Builtin.zeroCells z.cells (cap' - (len + n'))) e)).heap[j]? = w.drew.heap[j]? := fun j hj _ => heap_push_lt _ _ hj
            have he : Ext g w.drew (g.set b (.cells w.heap.size (cap' * i.size) (hb + xs.length))) (w.drew.alloc (.cells ((c.toList.take hb).toArray ++ news'.toArray ++ Builtin.zeroCells z.cells (cap' - (len + n'))) e)) :=
              Ext.grow (hh.drew.foOf h1' rfl) h1' rfl hstep (.inr ⟨_, rfl, Nat.le_refl _⟩) rfl rfl rfl (by simp) hwb
            refine ⟨_, _, _, k1, .inl ⟨_, rfl, ?_⟩, HeapOK.grow hh.drew _ h1' rfl (.inr ⟨_, rfl, Nat.le_refl _⟩) he hwb ?_, (drewExt g w).trans he, fun _ h => .inl h⟩
            · rw [hdiv]
              refine RV.mkSl (cp := cap' * i.size) hdom (by simp [G.set]) (by omega) (by omega)
            · simp only [RB]
              refine ⟨by simp; omega, by grind, ?_, _, e, heap_push_self _ _, by grind, ?_⟩
              · grind
              · have e5 : ((c.toList.take hb).toArray ++ news'.toArray ++ Builtin.zeroCells z.cells (cap' - (len + n'))).toList.take (cs ++ xs).length = c.toList.take hb ++ news' := by
                  grind
                rw [e5]
                exact RVs.append (RVs.ext ((drewExt g w).trans he) _ _ h7) (RVs.ext he _ _ f3')
      · rename_i hg
        cases hc : (Nat.beq hb 0 && Nat.beq off 0 && Nat.beq len 0) with
        | false => grind
        | true =>
          rw [hc] at ha
          simp at ha
          simp only [Bool.and_eq_true] at hc
          have q1 := Nat.eq_of_beq_eq_true hc.1.1
          have q2 := Nat.eq_of_beq_eq_true hc.1.2
          have q3 := Nat.eq_of_beq_eq_true hc.2
          subst q1; subst q2; subst q3
          obtain ⟨xb, hxb⟩ := hh.back b _ hg
          obtain ⟨_, yb, hyb, hr⟩ := hh.live b xb hxb
          rw [hg] at hyb; simp at hyb; subst hyb
          cases xb with
          | cells => grind[RB]
          | obj => grind[RB]
          | nil =>
            have hdom := RV.dom hvx
            obtain ⟨_, _, _, hvn⟩ := RV.slNil hvx hxb
            split at ha
            · simp at ha
              obtain ⟨rfl, rfl⟩ := ha
              have hn0 : n' = 0 := by
                have hm0 : n' * i.size = 0 := by grind
                rcases Nat.mul_eq_zero.1 hm0 with h | h <;> omega
              subst hn0
              have hrr := run_app_room (ty := ty) (base := none) (sLen := 0) (sCap := 0) ht hu hi f1 f2 (Nat.le_refl _) (fun a h => by cases h) (fun _ => rfl)
              refine Good.val (x := .slice none 0 0) hh (exec _ _ _ hvn hrr) ?_
              grind
            · rename_i hne
              cases hcc : Nat.ble (xs.length * (i.bytes + 1)) roomB with
              | false => grind
              | true =>
                rw [hcc] at ha
                simp at ha
                obtain ⟨rfl, rfl⟩ := ha
                have hpos : 0 < n' := by
                  grind
                obtain ⟨w', cap, k1, rfl, k3, k4⟩ := grown none 0 0 [] [] hvn rfl rfl (by simp) (by simp [Builtin.firstCells]) (by omega) (by simp_all)
                have hxpos : 0 < xs.length := by grind
                have hwb : ∀ j, j < w.drew.heap.size → some j ≠ none → (w.drew.alloc (.cells (([] : List Value).toArray ++ news'.toArray ++ Builtin.zeroCells z.cells (cap - (0 + n'))) e)).heap[j]? = w.drew.heap[j]? := fun j hj _ => heap_push_lt _ _ hj
                have he : Ext g w.drew (g.set b (.cells w.heap.size (cap * i.size) xs.length)) (w.drew.alloc (.cells (([] : List Value).toArray ++ news'.toArray ++ Builtin.zeroCells z.cells (cap - (0 + n'))) e)) :=
                  Ext.grow (hh.drew.foOf hxb rfl) hxb rfl (.inr ⟨_, _, _, rfl, hxpos⟩) (.inr ⟨_, rfl, Nat.le_refl _⟩) rfl rfl rfl (by simp) hwb
                refine ⟨_, _, _, k1, .inl ⟨_, rfl, ?_⟩, HeapOK.grow hh.drew _ hxb rfl (.inr ⟨_, rfl, Nat.le_refl _⟩) he hwb ?_, (drewExt g w).trans he, fun _ h => .inl h⟩
                · rw [hdiv, Nat.zero_add]
                  refine RV.mkSl (cp := cap * i.size) hdom (by simp [G.set]) (by omega) (by omega)
                · simp only [RB]
                  refine ⟨trivial, hok, by grind, _, e, heap_push_self _ _, by grind, ?_⟩
                  have : ((([] : List Value).toArray ++ news'.toArray ++ Builtin.zeroCells z.cells (cap - (0 + n'))).toList).take xs.length = news' := by
                    grind
                  rw [this]
                  exact RVs.ext he _ _ f3'
      · cases ha
  ·
    rename_i es ex
    cases hc : (es.all (fun e => Nat.beq e.length i.size) && !xs.isEmpty && Nat.ble ((es.flatten.length + xs.length) * (i.bytes + 1)) roomB) with
    | false => grind
    | true =>
      rw [hc] at ha
      simp only [cond_true, Option.some.injEq, Prod.mk.injEq] at ha
      obtain ⟨rfl, rfl⟩ := ha
      simp only [Bool.and_eq_true] at hc
      rw [ex] at hvx
      simp only [RV] at hvx
      obtain ⟨hd, a0, hv⟩ := hvx
      have hd1 : RV g w (.d (.list es)) (a.eval x) := by grind[RV]
      have hsc : sliceC H i.size (.d (.list es)) = some (es.flatten.map .d) := by simp only [sliceC, hc.1.1, cond_true]
      obtain ⟨m, olds, q1, q2, q3, q4⟩ := sliceC_ok (P := P) hsc (RV.ext (drewExt g w) _ _ hd1) hh.drew h0
      rw [hv] at q1 q2
      have hm : m = es.length := by
        simp_all[Builtin.lenOf]
      subst hm
      have hlf : es.flatten.length = es.length * i.size := by
        have := q3.length
        grind
      have hpos : 0 < n' := by
        rcases Nat.eq_zero_or_pos n' with h | h
        all_goals simp_all
      obtain ⟨w', cap, k1, rfl, k3, k4⟩ := grown a0 es.length es.length olds (es.flatten.map .d) hv q3.length (by simp [okC]) q4 q2 (by omega) (by rw [List.length_map]; simp_all)
      have he := Ext.new (w := w.drew) hh.drew hns (.cells (olds.toArray ++ news'.toArray ++ Builtin.zeroCells z.cells (cap - (es.length + n'))) e) (.cells w.heap.size (cap * i.size) (es.flatten.length + xs.length)) rfl
      have hcapm : (es.length + n') * i.size ≤ cap * i.size := Nat.mul_le_mul_right _ k3
      rw [Nat.add_mul] at hcapm
      refine ⟨_, _, _, k1, .inl ⟨_, rfl, ?_⟩, HeapOK.new hh.drew hns _ _ _ rfl ?_, (drewExt g w).trans he, fun _ h => h⟩
      · rw [hdiv]
        refine RV.mkSl (cp := cap * i.size) (.inr rfl) (by simp [G.add]) (by omega) (by omega)
      · have hL : (es.flatten.map V.d ++ xs).length = es.flatten.length + xs.length := by grind
        simp only [RB, hL]
        refine ⟨trivial, by simp_all[List.all_append,okC], by omega, _, e, heap_push_self _ _, by grind, ?_⟩
        have e5 : (olds.toArray ++ news'.toArray ++ Builtin.zeroCells z.cells (cap - (es.length + n'))).toList.take (es.flatten.length + xs.length) = olds ++ news' := by
          grind
        rw [e5]
        exact RVs.append (RVs.ext he _ _ q3) (RVs.ext he _ _ f3')
  · cases ha
end
end Fw

/-
  Operations, further: maps, min and max; all together.
-/
namespace Fw
open Go
section
variable {P : Program} {a : Act} {o : Oper} {g : G} {w : World} {ρ : Opd → V} {H : Heap} {ns : Nat}
def KeyTy (P : Program) (t : TypeId) : KeyKind → Prop
  | .int => ∃ k, P.underlying t = some (.int k)
  | .str => P.underlying t = some .string
  | .bool => P.underlying t = some .bool
theorem checkKey_run {kk : KeyKind} {t : TypeId} (h : KeyTy P t kk) (e : Bool) (v : Value) : (Instr.checkKey e 10000 t v).run P w = .ok () w := by
  have key : ∀ n, (Instr.checkKey e (n + 1) t v).run P w = .ok () w := by
    intro n
    cases kk with
    | int => obtain ⟨k, hk⟩ := h; simp [Instr.checkKey, run_underlying hk]
    | str => simp only [KeyTy] at h; simp [Instr.checkKey, run_underlying h]
    | bool => simp only [KeyTy] at h; simp [Instr.checkKey, run_underlying h]
  grind
theorem ba_beq (s t : ByteArray) : (s == t) = Fw.bytesEq s.data.toList t.data.toList := by
  have e : (s == t) = (s.data == t.data) := by cases s; cases t; rfl
  rw [e, bytesEq_iff]
  by_cases h : s.data = t.data
  all_goals simp_all
theorem sameNow_eq {kk : KeyKind} {t : TypeId} {d : TypeDesc} {k x : D} {kv xv : Value} {im : Nat → Prop} (ht : KeyTy P t kk) (hd : P.underlying t = some d) (hk : keyIs kk k = true) (h1 : Rd w im k kv) (h2 : Rd w im x xv) {b : Bool} (h : dEq k x = some b) :
    Instr.sameNow d kv xv = some b := by
  cases kk with
  | int =>
    obtain ⟨ik, hik⟩ := ht
    rw [hd] at hik; simp at hik; subst hik
    cases k with
    | int k1 n1 =>
      cases x<;>grind[Rd,dEq,Instr.sameNow]
    | _ => grind[keyIs]
  | str =>
    simp only [KeyTy] at ht
    rw [hd] at ht; simp at ht; subst ht
    cases k with
    | str k1 =>
      cases x<;>grind[Rd,dEq,Option.some.injEq,Instr.sameNow,ba_beq]
    | _ => grind[keyIs]
  | bool =>
    simp only [KeyTy] at ht
    rw [hd] at ht; simp at ht; subst ht
    cases k with
    | bool k1 =>
      cases x<;>grind[Rd,dEq,Instr.sameNow]
    | _ => grind[keyIs]
def RM (g : G) (w : World) : List (D × V) → List MapEntry → Prop
  | [], [] => True
  | (k, v) :: es, x :: xs => (Rd w (imm g w) k x.key ∧ RV g w v x.val) ∧ RM g w es xs
  | _, _ => False
theorem mfind_ok {kk : KeyKind} {t : TypeId} {d : TypeDesc} {k : D} {kv : Value} (ht : KeyTy P t kk) (hd : P.underlying t = some d) (hk : keyIs kk k = true) (h1 : Rd w (imm g w) k kv) :
    ∀ {es : List (D × V)} {xs : List MapEntry} {i : Nat} {r : Option (Nat × V)}, RM g w es xs → mfind k es i = some r →
      (r = none ∧ Instr.findNow d kv xs i = some none) ∨ ∃ j v x, r = some (i + j, v) ∧ xs[j]? = some x ∧ Instr.findNow d kv xs i = some (some (i + j, x.val)) ∧ RV g w v x.val ∧ Instr.sameNow d kv x.key = some true ∧ j < es.length
  | [], [], i, r, _, h => by simp [mfind] at h; subst h; exact .inl ⟨rfl, rfl⟩
  | (k2, v2) :: es, x :: xs, i, r, hm, h => by
    simp only [RM] at hm
    simp only [mfind] at h
    cases hb : dEq k k2 with
    | none => grind
    | some b =>
      have hs := sameNow_eq ht hd hk h1 hm.1.1 hb
      cases b with
      | true =>
        simp [hb] at h; subst h
        exact .inr ⟨0, v2, x, rfl, rfl, by simp [Instr.findNow, hs], hm.1.2, hs, by simp⟩
      | false =>
        simp only [hb] at h
        rcases mfind_ok ht hd hk h1 hm.2 h with ⟨e1, e2⟩ | ⟨j, v, y, e1, e2, e3, e4, e5, e6⟩
        · grind[Instr.findNow]
        · refine .inr ⟨j + 1, v, y, by grind, by grind, ?_, e4, e5, by simp; omega⟩
          grind[Instr.findNow]
  | [], _ :: _, _, _, h, _ => by grind[RM]
  | _ :: _, [], _, _, h, _ => by grind[RM]
theorem RM.of {es : List (D × V)} {ents : Array MapEntry} (hs : ents.size = es.length) (h : ∀ (i : Nat) (k : D) (v : V), es[i]? = some (k, v) → ∃ x, ents[i]? = some x ∧ Rd w (imm g w) k x.key ∧ RV g w v x.val) : RM g w es ents.toList := by
  have hl : es.length = ents.toList.length := by simp [hs]
  have h' : ∀ (i : Nat) (k : D) (v : V), es[i]? = some (k, v) → ∃ x, ents.toList[i]? = some x ∧ Rd w (imm g w) k x.key ∧ RV g w v x.val := by
    grind
  clear h hs
  generalize ents.toList = xs at *
  induction es generalizing xs with
  | nil =>
    grind[RM]
  | cons e es ih =>
    obtain ⟨k, v⟩ := e
    cases xs with
    | nil => simp at hl
    | cons x xs =>
      simp only [RM]
      obtain ⟨y, hy, h1, h2⟩ := h' 0 k v rfl
      simp at hy; subst hy
      exact ⟨⟨h1, h2⟩, ih xs (by grind) (fun i k v hi => h' (i + 1) k v (by grind))⟩
theorem g_lookup {t kt el : TypeId} {m k : Operand} {m' k' : Opd} {kk : KeyKind} {z : V} {ok : Bool} {v : V} (ho : o.op = .lookup t m k ok) (ht : P.underlying t = some (.map kt el)) (hkt : KeyTy P kt kk) (hz : zeroV P el = some z)
    (hm : compOpd m = some m') (hk : compOpd k = some k') (h : eff ρ H ns (.lookup kk z ok m' k') = some (v, none)) (ev : Ev ρ a g w) (hh : HeapOK g w H) : Good P a o g w ns v H := by
  have hvm := ev _ _ hm
  have hvk := ev _ _ hk
  simp only [zeroV, Option.bind_eq_some_iff] at hz
  obtain ⟨zv, ⟨i, hi, hzi⟩, hzv⟩ := hz
  have hzrv : RV g w z zv := toV_RV hzv
  simp only [eff] at h
  split at h
  · rename_i kd ek
    cases hki : keyIs kk kd with
    | false => grind
    | true =>
      rw [hki] at h
      simp at h
      split at h
      · rename_i es hes
        rw [ek] at hvk
        simp only [RV] at hvk
        have hd : ∃ d, P.underlying kt = some d := by
          cases kk with
          | int => obtain ⟨q, hq⟩ := hkt; grind
          | str => exact ⟨_, hkt⟩
          | bool => exact ⟨_, hkt⟩
        obtain ⟨d, hd⟩ := hd
        have hent : ∃ xs : Array MapEntry, RM g w es xs.toList ∧ ((a.eval m = .map none ∧ xs = #[]) ∨ ∃ r clock, a.eval m = .map (some r) ∧ w.heap[r]? = some (.map xs clock)) := by
          cases hmv : ρ m' with
          | nilm =>
            grind[RV,mapEs,Option.some.injEq,RM]
          | map b =>
            rw [hmv] at hvm hes
            simp only [mapEs] at hes
            split at hes
            · rename_i es' hg
              simp at hes; subst hes
              obtain ⟨x, hx⟩ := hh.back b _ hg
              obtain ⟨_, y, hy, hr⟩ := hh.live b x hx
              rw [hg] at hy; simp at hy; subst hy
              simp only [RV] at hvm
              obtain ⟨blk, rfl, hvm2⟩ := hvm.2 x hx
              simp only [RB] at hr
              obtain ⟨ents, clock, h1, h2, h3, h4, h5⟩ := hr
              exact ⟨ents, RM.of h2 (fun i k v hi => by grind), .inr ⟨blk, clock, hvm2, h1⟩⟩
            grind
          | _ => grind[mapEs]
        obtain ⟨xs, hrm, hxs⟩ := hent
        have hck := fun b => checkKey_run (P := P) (w := w) hkt b (a.eval k)
        split at h
        · rename_i j u hf
          simp at h
          rcases mfind_ok hkt hd hki hvk hrm hf with ⟨e1, _⟩ | ⟨j', v', x, e1, e2, e3, e4, _⟩
          · cases e1
          · simp at e1
            obtain ⟨_, rfl⟩ := e1
            refine Good.val (x := if ok then .tuple #[x.val, .bool true] else x.val) hh ?_ ?_
            · rcases hxs with ⟨q1, rfl⟩ | ⟨r, clock, q1, q2⟩
              · grind
              · simp [execOp, ho, Instr.lookup, run_underlying ht, q1, getObj, Sem.run, q2, hck, Instr.findKey, run_underlying hd, e3]
            · rw [← h]
              cases ok with
              | true => simp; exact ⟨_, rfl, by simp; exact ⟨e4, RV.mkB _, trivial⟩⟩
              | false => grind
        · rename_i hf
          simp at h
          rcases mfind_ok hkt hd hki hvk hrm hf with ⟨_, e3⟩ | ⟨j', v', x, e1, _⟩
          · refine Good.val (x := if ok then .tuple #[zv, .bool false] else zv) hh ?_ ?_
            · rcases hxs with ⟨q1, rfl⟩ | ⟨r, clock, q1, q2⟩
              · have hckt := hck true
                simp [execOp, ho, Instr.lookup, run_underlying ht, q1, hckt, Instr.findKey, run_underlying hd, Instr.findNow, run_zero hi hzi]
              · simp [execOp, ho, Instr.lookup, run_underlying ht, q1, getObj, Sem.run, q2, hck, Instr.findKey, run_underlying hd, e3, run_zero hi hzi]
            · rw [← h]
              cases ok with
              | true => simp; exact ⟨_, rfl, by simp; exact ⟨hzrv, RV.mkB _, trivial⟩⟩
              | false => grind
          · cases e1
        · cases h
      · cases h
  · cases h
theorem heap_set_self (w : World) (k : Nat) (x : Obj) (h : k < w.heap.size) : ({ w with heap := w.heap.setIfInBounds k x } : World).heap[k]? = some x := by
  simp [h]
theorem heap_set_ne (w : World) (k j : Nat) (x : Obj) (h : j ≠ k) : ({ w with heap := w.heap.setIfInBounds k x } : World).heap[j]? = w.heap[j]? := by
  grind
theorem sameBits_of {kk : KeyKind} {t : TypeId} {d : TypeDesc} {kv xv : Value} (ht : KeyTy P t kk) (hd : P.underlying t = some d) (h : Instr.sameNow d kv xv = some true) : Instr.sameBits 10000 xv kv = true := by
  have hcases : (∃ q, d = .int q) ∨ d = .string ∨ d = .bool := by
    cases kk<;>grind[Option.some.injEq,KeyTy]
  rcases hcases with ⟨q, rfl⟩ | rfl | rfl
  · cases kv <;> cases xv <;> simp [Instr.sameNow] at h
    grind[Instr.sameBits]
  · cases kv <;> cases xv <;> simp [Instr.sameNow] at h
    grind[ba_beq,bytesEq_iff,Instr.sameBits]
  · cases kv <;> cases xv <;> simp [Instr.sameNow] at h
    grind[Instr.sameBits]
theorem g_mapUpd {t kt el : TypeId} {m k x : Operand} {m' k' x' : Opd} {kk : KeyKind} {v : V} {wr : Wr} (ho : o.op = .mapUpdate t m k x) (ht : P.underlying t = some (.map kt el)) (hkt : KeyTy P kt kk)
    (hm : compOpd m = some m') (hk : compOpd k = some k') (hx : compOpd x = some x') (h : eff ρ H ns (.mapUpd kk m' k' x') = some (v, wr)) (ev : Ev ρ a g w) (hh : HeapOK g w H) : Good P a o g w ns v (happ H wr) := by
  have hvm := ev _ _ hm
  have hvk := ev _ _ hk
  have hvx := ev _ _ hx
  simp only [eff] at h
  split at h
  · rename_i b kd em ek
    cases hki : keyIs kk kd with
    | false => grind
    | true =>
      rw [hki] at h
      simp at h
      split at h
      · rename_i es hg
        rw [ek] at hvk
        rw [em] at hvm
        simp only [RV] at hvk hvm
        have hd : ∃ d, P.underlying kt = some d := by
          cases kk with
          | int => obtain ⟨q, hq⟩ := hkt; grind
          | str => exact ⟨_, hkt⟩
          | bool => exact ⟨_, hkt⟩
        obtain ⟨d, hd⟩ := hd
        obtain ⟨xb, hxb⟩ := hh.back b _ hg
        obtain ⟨_, y, hy, hr⟩ := hh.live b xb hxb
        rw [hg] at hy; simp at hy; subst hy
        obtain ⟨blk, rfl, hvm2⟩ := hvm.2 xb hxb
        simp only [RB] at hr
        obtain ⟨ents, clock, h1, h2, h3, h4, h5⟩ := hr
        have hlt : blk < w.heap.size := (Array.getElem?_eq_some_iff.1 h1).1
        have hrm : RM g w es ents.toList := RM.of h2 (fun i k v hi => by grind)
        have hck := fun b => checkKey_run (P := P) (w := w) hkt b (a.eval k)
        have exts : ∀ o', Ext g w g { w with heap := w.heap.setIfInBounds blk o' } := fun o' =>
          Ext.write hxb rfl (hh.notFo hxb rfl) rfl rfl rfl (by simp) (fun j hj => heap_set_ne w blk j o' hj)
        split at h
        · rename_i j u hf
          simp at h
          obtain ⟨rfl, rfl⟩ := h
          rcases mfind_ok hkt hd hki hvk hrm hf with ⟨e1, _⟩ | ⟨j', v', x0, e1, e2, e3, e4, e5, e6⟩
          · cases e1
          · simp at e1
            obtain ⟨rfl, rfl⟩ := e1
            rw [Nat.zero_add] at e3
            have e2' : ents[j]? = some x0 := by grind
            have hsb := sameBits_of hkt hd e5
            refine ⟨g, _, .skip, ?_, .inr ⟨rfl, rfl⟩, ?_, exts (.map (ents.modify j fun e => { e with key := a.eval k, val := a.eval x }) clock), fun _ h => .inl h⟩
            · simp [execOp, ho, Instr.mapUpdate, run_underlying ht, hvm2, getObj, setObj, Sem.run, h1, hck, Instr.findKey, run_underlying hd, e3, e2', Instr.keyThatStays, hsb]
            · refine HeapOK.write hh _ hxb rfl (exts _) (fun q hq => heap_set_ne w blk q _ hq) ?_
              simp only [RB]
              refine ⟨_, clock, heap_set_self w blk _ hlt, by simp [h2], fun i k2 v2 hi => ?_, ?_⟩
              · by_cases hij : i = j
                · subst hij
                  rw [List.getElem?_set_self (by omega)] at hi
                  simp at hi
                  obtain ⟨rfl, rfl⟩ := hi
                  refine ⟨{ x0 with key := a.eval k, val := a.eval x }, by grind, ?_, Rd.keeps (exts _).keeps _ _ hvk, RV.ext (exts _) _ _ hvx⟩
                  grind
                · rw [List.getElem?_set_ne (by omega)] at hi
                  obtain ⟨z, z1, z2, z3, z4⟩ := h3 i k2 v2 hi
                  exact ⟨z, by grind, z2, Rd.keeps (exts _).keeps _ _ z3, RV.ext (exts _) _ _ z4⟩
              grind
        · rename_i hf
          simp at h
          obtain ⟨rfl, rfl⟩ := h
          rcases mfind_ok hkt hd hki hvk hrm hf with ⟨_, e3⟩ | ⟨j', v', x0, e1, _⟩
          · refine ⟨g, _, .skip, ?_, .inr ⟨rfl, rfl⟩, ?_, exts (.map (ents.push { key := a.eval k, val := a.eval x, born := clock }) (clock + 1)), fun _ h => .inl h⟩
            · simp [execOp, ho, Instr.mapUpdate, run_underlying ht, hvm2, getObj, setObj, Sem.run, h1, hck, Instr.findKey, run_underlying hd, e3]
            · refine HeapOK.write hh _ hxb rfl (exts _) (fun q hq => heap_set_ne w blk q _ hq) ?_
              simp only [RB]
              refine ⟨_, clock + 1, heap_set_self w blk _ hlt, by simp [h2], fun i k2 v2 hi => ?_, ?_⟩
              · by_cases hij : i < es.length
                · rw [List.getElem?_append_left hij] at hi
                  obtain ⟨z, z1, z2, z3, z4⟩ := h3 i k2 v2 hi
                  have hil : i < ents.size := by omega
                  exact ⟨z, by grind, by omega, Rd.keeps (exts _).keeps _ _ z3, RV.ext (exts _) _ _ z4⟩
                · have hie : i = es.length := by
                    grind
                  subst hie
                  rw [List.getElem?_append_right (Nat.le_refl _)] at hi
                  simp at hi
                  obtain ⟨rfl, rfl⟩ := hi
                  exact ⟨{ key := a.eval k, val := a.eval x, born := clock }, by grind, by simp, Rd.keeps (exts _).keeps _ _ hvk, RV.ext (exts _) _ _ hvx⟩
              grind
          · cases e1
        · cases h
      · cases h
  · cases h
theorem foldMM_ok {isMax : Bool} {k : IntKind} : ∀ {l : List V} {xs : List Value} {n r : Int}, RVs g w l xs → foldMM isMax n l k = some r →
    (xs.foldlM (if isMax then Builtin.max2 else Builtin.min2) (.int k n)).run P w = .ok (.int k r) w
  | [], [], n, r, _, h => by simp_all[foldMM]
  | v :: l, x :: xs, n, r, hv, h => by
    simp only [RVs] at hv
    cases v with
    | d y =>
      cases y with
      | int k2 m =>
        simp only [foldMM] at h
        split at h
        · rename_i hk; subst hk
          have hx := RV.int hv.1
          subst hx
          have ih := foldMM_ok hv.2 h
          simp
          cases isMax with
          | true =>
            simp_all[Builtin.max2,Sem.run_pure,Result.andThen_ok]
          | false =>
            simp_all[Bool.false_eq_true,Builtin.min2,Sem.run_pure,Result.andThen_ok]
        · cases h
      | _ => simp [foldMM] at h
    | _ => simp [foldMM] at h
  | [], _ :: _, _, _, h, _ => by grind[RVs]
  | _ :: _, [], _, _, h, _ => by grind[RVs]
theorem g_minmax {isMax : Bool} {args : Array Operand} {ts : Array TypeId} {l : List Opd} {v : V} (ho : o.op = .call { callee := .builtin (if isMax then .max else .min), args := args, argTypes := ts }) (hl : mapO compOpd args.toList = some l) (h : eff ρ H ns (.minmax isMax l) = some (v, none)) (ev : Ev ρ a g w) (hh : HeapOK g w H) :
    Good P a o g w ns v H := by
  have hvs := mapOpds ev hl
  simp only [eff] at h
  split at h
  · rename_i k n rest e
    simp at h
    obtain ⟨r, hr, rfl⟩ := h
    rw [e] at hvs
    cases hx : args.toList.map a.eval with
    | nil => grind[RVs]
    | cons x xs =>
      rw [hx] at hvs
      simp only [RVs] at hvs
      have hx0 := RV.int hvs.1
      subst hx0
      have hf := foldMM_ok (P := P) hvs.2 hr
      have hargs : (args.map a.eval).toList = .int k n :: xs := by simp_all
      refine Good.val hh ?_ (RV.mkI k r)
      cases isMax with
      | true =>
        simp_all[Builtin.max_,execOp,resolve,invoke,builtin]
      | false =>
        simp_all[Builtin.min_,execOp,resolve,invoke,builtin]
  · cases h
end
end Fw

/-
  Operations, further: structs held against structs, the bytes of a string, make.
-/
namespace Fw
open Go
section
variable {P : Program} {a : Act} {o : Oper} {g : G} {w : World} {ρ : Opd → V} {H : Heap} {ns : Nat}
theorem keyKind_ty {t : TypeId} {k : KeyKind} (h : keyKind P t = some k) : KeyTy P t k := by
  unfold keyKind at h
  split at h <;> simp only [Option.some.injEq, reduceCtorEq] at h <;> subst h
  · rename_i q hq; exact ⟨q, hq⟩
  · rename_i hq; exact hq
  · rename_i hq; exact hq
theorem equalIn_plain {k : KeyKind} {t : TypeId} {x y : D} {vx vy : Value} {im : Nat → Prop} {b : Bool} (ht : KeyTy P t k) (hk : keyIs k x = true) (h : dEq x y = some b) (h1 : Rd w im x vx) (h2 : Rd w im y vy) (d : Nat) :
    (Op.equalIn (d + 1) t vx vy).run P w = .ok b w := by
  cases k with
  | int =>
    obtain ⟨q, hq⟩ := ht
    cases x <;> simp [keyIs] at hk
    cases y <;> simp [dEq] at h
    obtain ⟨rfl, rfl⟩ := h
    simp only [Rd] at h1 h2; subst h1; subst h2
    simp [Op.equalIn, run_underlying hq]
  | str =>
    simp only [KeyTy] at ht
    cases x <;> simp [keyIs] at hk
    cases y <;> simp [dEq] at h
    simp only [Rd] at h1 h2
    obtain ⟨s1, rfl, rfl⟩ := h1
    obtain ⟨s2, rfl, rfl⟩ := h2
    have := ba_beq s1 s2
    rw [h] at this
    simp [Op.equalIn, run_underlying ht, this]
  | bool =>
    simp only [KeyTy] at ht
    cases x <;> simp [keyIs] at hk
    cases y <;> simp [dEq] at h
    subst h
    simp only [Rd] at h1 h2; subst h1; subst h2
    simp [Op.equalIn, run_underlying ht]
theorem aggOf_plain {t : TypeId} {k : KeyKind} (h : KeyTy P t k) : (isAgg t).run P w = .ok false w := by
  cases k with
  | int => obtain ⟨q, hq⟩ := h; simp [isAgg, run_underlying hq]
  | str => simp only [KeyTy] at h; simp [isAgg, run_underlying h]
  | bool => simp only [KeyTy] at h; simp [isAgg, run_underlying h]
theorem eqFields_ok (d : Nat) {xs ys : Array Value} : ∀ {fs : List Field} {n : Nat} {ks : List KeyKind} {us vs : List V} {b : Bool}, plainFields P n fs = some ks → eqRow ks us vs = some b → RVs g w us (xs.toList.drop n) → RVs g w vs (ys.toList.drop n) →
    (Op.eqFields (d + 1) xs ys fs).run P w = .ok b w
  | [], n, ks, us, vs, b, h1, h2, _, _ => by
    simp only [plainFields, Option.some.injEq] at h1; subst h1
    cases us <;> cases vs <;> simp [eqRow] at h2
    simp_all[Op.eqFields]
  | f :: fs, n, ks, us, vs, b, h1, h2, h3, h4 => by
    simp only [plainFields] at h1
    split at h1
    · rename_i hc
      split at h1
      · rename_i k ks' hk hks
        simp at h1; subst h1
        cases us with
        | nil => grind[eqRow]
        | cons u us =>
          obtain ⟨x, rfl⟩ : ∃ x, u = .d x := by
            cases u <;> first | exact ⟨_, rfl⟩ | grind[eqRow]
          cases vs with
          | nil => grind[eqRow]
          | cons v vs =>
            obtain ⟨y, rfl⟩ : ∃ y, v = .d y := by
              cases v <;> first | exact ⟨_, rfl⟩ | grind[eqRow]
            simp only [eqRow] at h2
            cases hki : keyIs k x with
            | false => grind
            | true =>
              rw [hki] at h2
              simp at h2
              have hkt := keyKind_ty hk
              have cell : ∀ (zs : Array Value) (z : D) (ws : List V), RVs g w (.d z :: ws) (zs.toList.drop n) → ∃ c, zs[n]? = some c ∧ Rd w (imm g w) z c ∧ RVs g w ws (zs.toList.drop (n + 1)) := by
                intro zs z ws h
                cases hd : zs.toList.drop n with
                | nil => grind[RVs]
                | cons c cs =>
                  rw [hd] at h
                  simp only [RVs, RV] at h
                  refine ⟨c, ?_, h.1, ?_⟩
                  · have : (zs.toList.drop n)[0]? = some c := by grind
                    grind
                  · have : zs.toList.drop (n + 1) = cs := by rw [← List.drop_drop, hd]; rfl
                    grind
              obtain ⟨c1, a1, a2, a3⟩ := cell xs x us h3
              obtain ⟨c2, b1, b2, b3⟩ := cell ys y vs h4
              have hag := aggOf_plain (P := P) (w := w) hkt
              have p1 : (part f.type xs f.offset).run P w = .ok c1 w := by simp_all[part]
              have p2 : (part f.type ys f.offset).run P w = .ok c2 w := by simp_all[part]
              simp only [Op.eqFields, hc.2, ne_eq, not_false_eq_true, if_true, Sem.run_bind, p1, p2, Result.andThen_ok]
              cases hde : dEq x y with
              | none => grind
              | some r =>
                rw [equalIn_plain hkt hki hde a2 b2 d]
                rw [hde] at h2
                cases r with
                | true =>
                  simp only at h2
                  simp
                  exact eqFields_ok d hks h2 a3 b3
                | false =>
                  simp_all
      · cases h1
    · cases h1
theorem g_eqS {op : BinOp} {t yt : TypeId} {x y : Operand} {x' y' : Opd} {ks : List KeyKind} {us vs : List V} {b neg : Bool} (ho : o.op = .binOp op t x y yt) (hop : (op = .eql ∧ neg = false) ∨ (op = .neq ∧ neg = true)) (hp : plainStruct P t = some ks)
    (hx : compOpd x = some x') (hy : compOpd y = some y') (e1 : ρ x' = .agg us) (e2 : ρ y' = .agg vs) (h : eqRow ks us vs = some b) (ev : Ev ρ a g w) (hh : HeapOK g w H) :
    Good P a o g w ns (.d (.bool (bif neg then !b else b))) H := by
  have hvx := ev _ _ hx
  have hvy := ev _ _ hy
  rw [e1] at hvx; rw [e2] at hvy
  simp only [RV] at hvx hvy
  obtain ⟨xs, f1, r1⟩ := hvx
  obtain ⟨ys, f2, r2⟩ := hvy
  unfold plainStruct at hp
  split at hp
  · rename_i fs hu
    split at hp
    · rename_i hc
      have hfo : P.fieldsOf t = fs := by simp [Program.fieldsOf, hu]
      have key : ∀ d, (Op.equalIn (d + 2) t (.agg xs) (.agg ys)).run P w = .ok b w := by
        intro d
        rw [run_equalIn_struct w (d + 1) t xs ys (by grind) hc.1, hfo]
        exact eqFields_ok d hp h (by simpa using r1) (by grind)
      have heq : (Op.equal t (.agg xs) (.agg ys)).run P w = .ok b w := key 9998
      have hgd : (eqGuard op t x y (.agg xs) (.agg ys)).run P w = .ok () w := run_eqGuard_agg w op t x y xs ys hc.2
      refine Good.val (x := .bool (bif neg then !b else b)) hh ?_ (RV.mkB _)
      rcases hop with ⟨rfl, rfl⟩ | ⟨rfl, rfl⟩ <;> simp [execOp, ho, f1, f2, hgd, binOp, heq]
    · cases hp
  · cases hp
theorem freeze_block {w : World} {b o n k : Nat} (h : k ≠ b) : (w.freeze ⟨b, o, none⟩ n).heap[k]? = w.heap[k]? := by
  unfold World.freeze
  grind
theorem freeze_size {w : World} {a : Addr} {n : Nat} : (w.freeze a n).heap.size = w.heap.size := by
  unfold World.freeze
  grind
theorem Ext.newFrozen {g : G} {w : World} {H : Heap} (hh : HeapOK g w H) (o : Obj) (q n : Nat) : Ext g w g ((w.alloc o).freeze ⟨w.heap.size, q, none⟩ n) := by
  have hk : ∀ k, k < w.heap.size → ((w.alloc o).freeze ⟨w.heap.size, q, none⟩ n).heap[k]? = w.heap[k]? := by
    intro k hk
    rw [freeze_block (by omega), heap_push_lt _ _ hk]
  have h1 : ∀ (w' : World) (a : Addr), (w'.freeze a n).os = w'.os ∧ (w'.freeze a n).tape = w'.tape ∧ (w'.freeze a n).output = w'.output := by
    intro w' a; unfold World.freeze; grind
  obtain ⟨e1, e2, e3⟩ := h1 (w.alloc o) ⟨w.heap.size, q, none⟩
  refine ⟨e1, e2, e3, by grind, fun k hk2 => ⟨⟨by rw [freeze_size]; have := hk2.1; simp; omega, hk2.2⟩, hk k hk2.1⟩, fun _ h => h, fun _ _ => GB.step.refl _, rfl, rfl, fun k hk2 => hk k (hh.fo k hk2).1⟩
theorem run_mark (c : Array Value) (e : TypeId) (w : World) : (markStringish ⟨w.heap.size, 0, none⟩).run P (w.alloc (.cells c e)) = .ok () ((w.alloc (.cells c e)).freeze ⟨w.heap.size, c.size, none⟩ 1) := by
  have h : (w.alloc (.cells c e)).shape? w.heap.size = some (e, c.size) := by
    unfold World.shape?
    rw [heap_push_self]
  grind[markStringish,Sem.run_bind,run_shape,Result.andThen_ok,run_freeze]
theorem g_strBytes {s d e : TypeId} {x : Operand} {x' : Opd} {l : List UInt8} (ho : o.op = .convert s d x) (hs : P.underlying s = some .string) (hd : P.underlying d = some (.slice e)) (he : P.underlying e = some (.int .u8)) (hx : compOpd x = some x') (ex : ρ x' = .d (.str l)) (ev : Ev ρ a g w) (hh : HeapOK g w H) :
    Good P a o g w ns (.d (.list (l.map fun b => [.int .u8 b.toNat]))) H := by
  have hv := ev _ _ hx
  rw [ex] at hv
  obtain ⟨b, hb, rfl⟩ := RV.str hv
  have hrun : ∃ (cap : Nat) (fz : Nat), b.size ≤ cap ∧ (execOp a.eval o).run P w = .ok (.value (.slice (some ⟨w.heap.size, 0, none⟩) b.size cap))
      ((w.drew.alloc (.cells ((b.data.map fun x => (Value.int .u8 x.toNat)) ++ Array.replicate (cap - b.size) (.int .u8 0)) e)).freeze ⟨w.heap.size, fz, none⟩ 1) := by
    have hm := run_mark (P := P) ((b.data.map fun (x : UInt8) => (Value.int .u8 x.toNat)) ++ Array.replicate ((Question.appendCap b.size 0 e).cut (w.tape w.drawn (.appendCap b.size 0 e)) - b.size) (Value.int .u8 0)) e w.drew
    refine ⟨(Question.appendCap b.size 0 e).cut (w.tape w.drawn (.appendCap b.size 0 e)), ((b.data.map fun (x : UInt8) => (Value.int .u8 x.toNat)) ++ Array.replicate ((Question.appendCap b.size 0 e).cut (w.tape w.drawn (.appendCap b.size 0 e)) - b.size) (Value.int .u8 0)).size, ?_, ?_⟩
    · simp [Question.cut]
    · have hd0 : w.drew.heap.size = w.heap.size := rfl
      rw [hd0] at hm
      simp only [execOp, ho, hb, convert, Sem.run_bind, run_underlying hs, run_underlying hd, run_underlying he, Result.andThen_ok, Conv.stringToBytes, run_choose, Question.forced, newRow, run_newObj, Sem.run_pure, Bool.false_eq_true, if_false]
      erw [hm]
      rfl
  obtain ⟨cap, fz, hcap, hr⟩ := hrun
  have hhd := hh.drew
  have he2 := Ext.newFrozen (w := w.drew) hhd (.cells ((b.data.map fun x => (Value.int .u8 x.toNat)) ++ Array.replicate (cap - b.size) (.int .u8 0)) e) fz 1
  have hext := (drewExt g w).trans he2
  have hown : ∀ c y k, g.γ c = some y → y.own = some k → ((w.drew.alloc (.cells ((b.data.map fun x => (Value.int .u8 x.toNat)) ++ Array.replicate (cap - b.size) (.int .u8 0)) e)).freeze ⟨w.heap.size, fz, none⟩ 1).heap[k]? = w.heap[k]? := by
    intro c y k hy hk
    obtain ⟨_, z, _, h3⟩ := hh.live c y hy
    have := h3.lt k hk
    rw [freeze_block (by omega)]
    exact heap_push_lt w.drew _ this
  refine ⟨g, _, _, hr, .inl ⟨_, rfl, ?_⟩, hh.ext hext hown, hext, fun _ h => .inl h⟩
  have hcell : ∀ j, j < b.size → ((w.drew.alloc (.cells ((b.data.map fun x => (Value.int .u8 x.toNat)) ++ Array.replicate (cap - b.size) (.int .u8 0)) e)).freeze ⟨w.heap.size, fz, none⟩ 1).cell? ⟨w.heap.size, j, none⟩ = (b.data.toList[j]?).map fun x => Value.int .u8 x.toNat := by
    intro j hj
    have hlt : w.drew.heap.size < (w.drew.alloc (.cells ((b.data.map fun x => (Value.int .u8 x.toNat)) ++ Array.replicate (cap - b.size) (.int .u8 0)) e)).heap.size := by simp
    have hobj := heap_push_self w.drew (.cells ((b.data.map fun x => (Value.int .u8 x.toNat)) ++ Array.replicate (cap - b.size) (.int .u8 0)) e)
    have hfr : ∃ fr, ((w.drew.alloc (.cells ((b.data.map fun x => (Value.int .u8 x.toNat)) ++ Array.replicate (cap - b.size) (.int .u8 0)) e)).freeze ⟨w.heap.size, fz, none⟩ 1).heap[w.heap.size]? = some (.cells ((b.data.map fun x => (Value.int .u8 x.toNat)) ++ Array.replicate (cap - b.size) (.int .u8 0)) e fr) := by
      unfold World.freeze
      rw [if_neg (by omega)]
      simp only [Array.getElem?_modify, if_true]
      simp_all
    obtain ⟨fr, hfr⟩ := hfr
    simp only [World.cell?, hfr]
    have hj2 : j < b.data.size := hj
    grind
  simp only [RV, Rd]
  refine .inr ⟨w.heap.size, 0, cap, 1, by simp, by simp_all, fun _ => ⟨by rw [freeze_size]; simp, fun hf => by have := (hh.fo _ hf).1; omega, fun c y hy hk => ?_⟩, RdE.of_get fun i e' he' => ?_⟩
  · obtain ⟨_, z, _, h3⟩ := hh.live c y hy
    have := h3.lt _ hk; omega
  · simp only [List.getElem?_map, Option.map_eq_some_iff] at he'
    obtain ⟨c, hc, rfl⟩ := he'
    have hi : i < b.size := by have := (List.getElem?_eq_some_iff.1 hc).1; simp_all
    simp_all[RdC,Nat.zero_add,Nat.mul_one,Rd]
theorem wrap_small {n : Nat} (h : n ≤ roomB) : IntKind.i64.wrap (n : Int) = n := by
  have h2 : roomB = 1099511627776 := by decide
  unfold IntKind.wrap
  have e1 : (2 : Int) ^ IntKind.i64.bits = 18446744073709551616 := by decide
  have e2 : (2 : Int) ^ (IntKind.i64.bits - 1) = 9223372036854775808 := by decide
  grind
theorem g_mkRow {t e : TypeId} {i : TypeInfo} {zs : List V} {l c : Operand} {l' c' : Opd} {v : V} {wr : Wr} (ho : o.op = .makeSlice t l c) (ht : P.underlying t = some (.slice e)) (hi : P.info? e = some i) (hz : zeroOf P e = some zs) (hl : compOpd l = some l') (hc : compOpd c = some c')
    (h : eff ρ H ns (.mkRow i.size i.bytes zs l' c') = some (v, wr)) (ev : Ev ρ a g w) (hh : HeapOK g w H) (hns : Fresh g ns) : Good P a o g w ns v (happ H wr) := by
  simp only [zeroOf, Option.bind_eq_some_iff] at hz
  obtain ⟨zv, ⟨i2, hi2, hzv⟩, hm⟩ := hz
  rw [hi] at hi2; simp only [Option.some.injEq] at hi2; subst hi2
  obtain ⟨hv, hok⟩ := mapO_toC (g := g) (w := w) hm
  simp only [eff] at h
  split at h
  · rename_i ln cn el ec
    cases hb : (Nat.ble ln cn && Nat.ble (cn * (i.bytes + 1)) roomB && Nat.ble cn roomB && zs.all okC && Nat.beq zs.length i.size && Nat.blt 0 i.size) with
    | false => grind
    | true =>
      rw [hb] at h
      simp only [cond_true, Option.some.injEq, Prod.mk.injEq] at h
      obtain ⟨rfl, rfl⟩ := h
      simp only [Bool.and_eq_true] at hb
      have b1 := Nat.le_of_ble_eq_true hb.1.1.1.1.1
      have b2 := Nat.le_of_ble_eq_true hb.1.1.1.1.2
      have b3 := Nat.le_of_ble_eq_true hb.1.1.1.2
      have b4 := Nat.eq_of_beq_eq_true hb.1.2
      have b5 : 0 < i.size := by simp_all
      have hr2 : roomB = 1099511627776 := by decide
      obtain ⟨kl, hkl⟩ := natOf_ok el (ev _ _ hl)
      obtain ⟨kc, hkc⟩ := natOf_ok ec (ev _ _ hc)
      have hzs : zv.cells.size = i.size := by have := hv.length; grind
      have w1 := wrap_small (n := ln) (by omega)
      have w2 := wrap_small (n := cn) b3
      have hcb : i.bytes * cn ≤ 1099511627776 := by
        grind
      have hbig : ¬ ((cn : Int) < 0) := by omega
      have hrun : (execOp a.eval o).run P w = .ok (.value (.slice (some ⟨w.heap.size, 0, none⟩) ln cn)) (w.alloc (.cells ((Array.range (cn * i.size)).map (zv.cells[· % zv.cells.size]!)) e)) := by
        have hl0 : ¬ ((ln : Int) < 0) := by omega
        have hlc : ¬ ((ln : Int) > (cn : Int)) := by omega
        by_cases hn0 : cn = 0
        · subst hn0
          have : ln = 0 := by omega
          subst this
          have w0 : IntKind.i64.wrap 0 = 0 := by decide
          simp [execOp, ho, Instr.makeSlice, run_underlying ht, hkl, hkc, asInt, asIntOf, typeInfo, hi, w0, Go.sizeOf, newRow, show Array.range 0 = #[] from rfl]
        · have hn1 : ¬ (cn = 0 ∨ i.size = 0) := by omega
          have hcb2 : ¬ (281474976710656 < (i.bytes : Int) * (cn : Int)) := by grind
          have hcz : ¬ (cn * i.size = 0) := by rw [Nat.mul_eq_zero]; omega
          have hlc2 : ¬ ((cn : Int) < (ln : Int)) := by omega
          simp [execOp, ho, Instr.makeSlice, run_underlying ht, hkl, hkc, asInt, asIntOf, typeInfo, hi, w1, w2, hcb2, hl0, hlc2, hbig, Go.sizeOf, hcz, zeroValue, hzv, newRow]
      have hns' := hns
      let g' := g.add ns (.cells w.heap.size (cn * i.size) (ln * i.size))
      have he := Ext.new hh hns (.cells ((Array.range (cn * i.size)).map (zv.cells[· % zv.cells.size]!)) e) (.cells w.heap.size (cn * i.size) (ln * i.size)) rfl
      have hle : ln * i.size ≤ cn * i.size := Nat.mul_le_mul_right _ b1
      refine ⟨g', _, _, hrun, .inl ⟨_, rfl, ?_⟩, HeapOK.new hh hns _ _ _ rfl ?_, he, fun _ h => h⟩
      · exact RV.mkSl (cp := cn * i.size) (.inr rfl) (by simp [g', G.add]) b1 (by omega)
      · simp only [RB]
        have hallok : ((List.range (ln * i.size)).map fun j => zs.getD (j % i.size) .any).all okC = true := by
          simp only [List.all_eq_true, List.mem_map, List.mem_range]
          rintro x ⟨j, _, rfl⟩
          have := Nat.mod_lt j b5
          grind
        refine ⟨by simp, hallok, by grind, _, e, heap_push_self _ _, by simp, ?_⟩
        refine RVs.ext he _ _ (RVs.of_get (by grind) fun j u x hu hx => ?_)
        simp only [List.length_map, List.length_range] at hx
        rw [List.getElem?_take] at hx
        split at hx
        · rename_i hj
          rw [zeros_eq _ (by omega)] at hx
          have hj2 : j < cn * i.size := by omega
          rw [if_pos hj2, hzs] at hx
          simp [hj] at hu
          subst hu
          have hjm := Nat.mod_lt j b5
          have hg : zs[j % i.size]? = some (zs[j % i.size]'(by omega)) := List.getElem?_eq_getElem _
          rw [hg, Option.getD_some]
          obtain ⟨v', h5, h6⟩ := RVs.get (j % i.size) hv hg
          grind
        · cases hx
  · cases h
theorem g_cap {t e : TypeId} {x : Operand} {x' : Opd} {v : V} {wr : Wr} (ho : o.op = .call { callee := .builtin .cap, args := #[x], argTypes := #[t] }) (ht : P.underlying t = some (.slice e)) (hx : compOpd x = some x')
    (h : eff ρ H ns (.cap x') = some (v, wr)) (ev : Ev ρ a g w) (hh : HeapOK g w H) : Good P a o g w ns v (happ H wr) := by
  have hvx := ev _ _ hx
  simp only [eff] at h
  split at h
  · rename_i e1
    rw [e1] at hvx
    simp only [RV] at hvx
    simp at h
    obtain ⟨rfl, rfl⟩ := h
    refine Good.val (x := .int .i64 0) hh ?_ (RV.mkI _ _)
    simp [execOp, ho, resolve, invoke, builtin, Builtin.cap_, run_underlying ht, hvx, goInt]
  · cases h
theorem g_appendN {t u e : TypeId} {k : IntKind} {i : TypeInfo} {zs : List V} {x y : Operand} {x' y' : Opd} {v : V} {wr : Wr} (ho : o.op = .call { callee := .builtin .append, args := #[x, y], argTypes := #[t, u] })
    (ht : P.underlying t = some (.slice e)) (hu : P.underlying u = some (.int k)) (hi : P.info? e = some i) (hz : zeroOf P e = some zs)
    (hx : compOpd x = some x') (hy : compOpd y = some y') (h : eff ρ H ns (.appendN i.size i.bytes zs x' y') = some (v, wr)) (ev : Ev ρ a g w) (hh : HeapOK g w H) (hns : Fresh g ns) : Good P a o g w ns v (happ H wr) := by
  simp only [zeroOf, Option.bind_eq_some_iff] at hz
  obtain ⟨zv, ⟨i2, hi2, hzv⟩, hm⟩ := hz
  rw [hi] at hi2; simp only [Option.some.injEq] at hi2; subst hi2
  obtain ⟨hv, hok⟩ := mapO_toC (g := g) (w := w) hm
  have hvx := ev _ _ hx
  simp only [eff] at h
  split at h
  · rename_i n e1 en
    rw [e1] at hvx
    simp only [RV] at hvx
    cases hb : (Nat.blt 0 n && Nat.ble (n * (i.bytes + 1)) roomB && Nat.ble n roomB && zs.all okC && Nat.beq zs.length i.size && Nat.blt 0 i.size) with
    | false => grind
    | true =>
      rw [hb] at h
      simp only [cond_true, Option.some.injEq, Prod.mk.injEq] at h
      obtain ⟨rfl, rfl⟩ := h
      simp only [Bool.and_eq_true] at hb
      have b0 : 0 < n := by simp_all
      have b2 := Nat.le_of_ble_eq_true hb.1.1.1.1.2
      have b3 := Nat.le_of_ble_eq_true hb.1.1.1.2
      have b4 := Nat.eq_of_beq_eq_true hb.1.2
      have b5 : 0 < i.size := by simp_all
      have hr2 : roomB = 1099511627776 := by decide
      obtain ⟨kn, hkn⟩ := natOf_ok en (ev _ _ hy)
      have hzs : zv.cells.size = i.size := by have := hv.length; grind
      have w1 := wrap_small (n := n) b3
      have hcb : n * i.bytes ≤ 1099511627776 := by
        grind
      have hl0 : ¬ ((n : Int) < 0) := by omega
      have hcb2 : ¬ (281474976710656 < (n : Int) * (i.bytes : Int)) := by grind
      have hcz : ¬ (n * i.size = 0) := by rw [Nat.mul_eq_zero]; omega
      have hn0 : ¬ (n = 0 ∨ i.size = 0) := by omega
      have hn00 : ¬ n = 0 := by omega
      have h63 : ¬ (9223372036854775807 < (n : Int)) := by omega
      have hnx : Builtin.nextslicecap n 0 = n := by simp [Builtin.nextslicecap, b0]
      have hfit : ¬ (281474976710656 < n * i.bytes) := by omega
      have hrun : (execOp a.eval o).run P w = .ok (.value (.slice (some ⟨w.heap.size, 0, none⟩) n (grownCap w n 0 e))) (w.drew.alloc (.cells (Builtin.zeroCells zv.cells n ++ Builtin.zeroCells zv.cells (grownCap w n 0 e - n)) e)) := by
        simp [execOp, ho, resolve, invoke, builtin, Builtin.append_, run_underlying ht, run_underlying hu, hvx, hkn, asInt, asIntOf, w1, hl0, hcb2, hcz, hn00, h63, hnx, hfit, Go.sizeOf, typeInfo, zeroValue, hi, hzv, Question.forced, Builtin.firstCells, newRow, grownCap]
      have hge := grownCap_ge w n 0 e
      have hsz : (Builtin.zeroCells zv.cells n ++ Builtin.zeroCells zv.cells (grownCap w n 0 e - n)).size = grownCap w n 0 e * i.size := by
        simp only [Array.size_append, size_zeroCells, hzs, ← Nat.add_mul]
        grind
      have hle : n * i.size ≤ grownCap w n 0 e * i.size := Nat.mul_le_mul_right _ hge
      let g' := g.add ns (.cells w.heap.size (grownCap w n 0 e * i.size) (n * i.size))
      have hd := drewExt g w
      have he := Ext.new hh.drew hns (.cells (Builtin.zeroCells zv.cells n ++ Builtin.zeroCells zv.cells (grownCap w n 0 e - n)) e) (.cells w.heap.size (grownCap w n 0 e * i.size) (n * i.size)) rfl
      refine ⟨g', _, _, hrun, .inl ⟨_, rfl, ?_⟩, HeapOK.new hh.drew hns _ _ _ rfl ?_, hd.trans he, fun _ h => h⟩
      · exact RV.mkSl (cp := grownCap w n 0 e * i.size) (.inr rfl) (by simp [g', G.add]) hge (by omega)
      · simp
        have hallok : ((List.range (n * i.size)).map fun j => zs.getD (j % i.size) .any).all okC = true := by
          simp only [List.all_eq_true, List.mem_map, List.mem_range]
          rintro x ⟨j, _, rfl⟩
          have := Nat.mod_lt j b5
          grind
        refine ⟨by simp, hallok, by grind, _, e, heap_push_self _ _, by grind, ?_⟩
        refine RVs.ext he _ _ (RVs.ext hd _ _ (RVs.of_get ?_ fun j u x hu hx => ?_))
        · grind
        · simp at hx
          rw [List.getElem?_take] at hx
          split at hx
          · rename_i hj
            simp [hj] at hu
            subst hu
            have hj3 : j < (Builtin.zeroCells zv.cells n).size := by grind[size_zeroCells]
            have hx2 : (Builtin.zeroCells zv.cells n)[j]? = some x := by
              grind
            have hx3 : ((Array.range (n * i.size)).map (zv.cells[· % zv.cells.size]!)).toList[j]? = some x := by
              grind[Builtin.zeroCells]
            rw [zeros_eq _ (by omega), if_pos hj, hzs] at hx3
            have hjm := Nat.mod_lt j b5
            have hg : zs[j % i.size]? = some (zs[j % i.size]'(by omega)) := List.getElem?_eq_getElem _
            rw [hg, Option.getD_some]
            obtain ⟨v', h5, h6⟩ := RVs.get (j % i.size) hv hg
            grind
          · cases hx
  · cases h
end
end Fw

/-
  Every operation that calls nothing.
-/
namespace Fw
open Go
section
variable {P : Program} {a : Act} {o : Oper} {g : G} {w : World} {ρ : Opd → V} {H : Heap} {ns : Nat}
theorem g_len {t : TypeId} {x : Operand} {x' : Opd} {k : LenKind} {v : V} {c : Call} (ho : o.op = .call c) (hc : c.callee = .builtin .len) (hargs : c.args.toList = [x]) (hts : c.argTypes.toList = [t]) (hx : compOpd x = some x')
    (hk : LenTy P t k ∨ ∃ n e, k = .arr n ∧ P.underlying t = some (.array n e)) {wr : Wr} (h : eff ρ H ns (.len k x') = some (v, wr)) (ev : Ev ρ a g w) (hh : HeapOK g w H) : Good P a o g w ns v (happ H wr) := by
  obtain ⟨callee, args, ts⟩ := c
  have e1 : args = #[x] := Array.toList_inj.1 (by grind)
  have e2 : ts = #[t] := Array.toList_inj.1 (by grind)
  simp only at hc
  subst hc; subst e1; subst e2
  have exec : ∀ n : Int, (Builtin.len_ #[t] o.type #[a.eval x]).run P w = .ok (goInt n) w → (execOp a.eval o).run P w = .ok (.value (goInt n)) w := by
    simp_all[execOp,resolve,invoke,builtin]
  have fin : ∀ n : Nat, (Builtin.len_ #[t] o.type #[a.eval x]).run P w = .ok (goInt n) w → Good P a o g w ns (.d (.int .i64 n)) H := fun n hn =>
    Good.val hh (exec _ hn) (RV.mkI _ _)
  rcases hk with hk | ⟨n, e, rfl, hn⟩
  · cases k with
    | arr => exact hk.elim
    | str =>
      simp only [eff] at h
      split at h
      · rename_i n hn
        simp at h
        obtain ⟨rfl, rfl⟩ := h
        exact fin n (lenV_ok hn (ev _ _ hx) hh hk)
      · cases h
    | slice =>
      simp only [eff] at h
      split at h
      · rename_i n hn
        simp at h
        obtain ⟨rfl, rfl⟩ := h
        exact fin n (lenV_ok hn (ev _ _ hx) hh hk)
      · cases h
    | map =>
      simp only [eff] at h
      split at h
      · rename_i n hn
        simp at h
        obtain ⟨rfl, rfl⟩ := h
        exact fin n (lenV_ok hn (ev _ _ hx) hh hk)
      · cases h
  · simp only [eff, Option.some.injEq, Prod.mk.injEq] at h
    obtain ⟨rfl, rfl⟩ := h
    exact fin n (by simp [Builtin.len_, run_underlying hn])
theorem eff_call {c : Call} {io : IOp} {v : V} {wr : Wr} (ho : o.op = .call c) (hc : compCall P c = some io) (he : eff ρ H ns io = some (v, wr)) (ev : Ev ρ a g w) (hh : HeapOK g w H) (hns : Fresh g ns) : Good P a o g w ns v (happ H wr) := by
  unfold compCall at hc
  split at hc
  · rename_i hcal
    split at hc
    · rename_i x t hargs hts
      split at hc
      · rename_i hu
        simp at hc
        obtain ⟨x', hx, rfl⟩ := hc
        exact g_len (k := .str) ho hcal hargs hts hx (.inl hu) he ev hh
      · rename_i e hu
        simp at hc
        obtain ⟨x', hx, rfl⟩ := hc
        exact g_len (k := .slice) ho hcal hargs hts hx (.inl ⟨e, hu⟩) he ev hh
      · rename_i k e hu
        simp at hc
        obtain ⟨x', hx, rfl⟩ := hc
        exact g_len (k := .map) ho hcal hargs hts hx (.inl ⟨k, e, hu⟩) he ev hh
      · rename_i n e hu
        simp at hc
        obtain ⟨x', hx, rfl⟩ := hc
        exact g_len ho hcal hargs hts hx (.inr ⟨n, e, rfl, hu⟩) he ev hh
      · cases hc
    · cases hc
  · rename_i hcal
    split at hc
    · rename_i x y t u hargs hts
      split at hc
      · rename_i e k hu hu2
        split at hc
        · rename_i i z x' y' hi hz hx hy
          simp at hc; subst hc
          obtain ⟨callee, args, ts⟩ := c
          have e1 : args = #[x, y] := Array.toList_inj.1 (by grind)
          have e2 : ts = #[t, u] := Array.toList_inj.1 (by grind)
          simp only at hcal
          subst hcal; subst e1; subst e2
          exact g_appendN ho hu hu2 hi hz hx hy he ev hh hns
        · cases hc
      · rename_i e d hni hu hu2
        split at hc
        · rename_i i z x' y' hd hi hz hx hy
          split at hc
          · rename_i hcond
            simp at hc; subst hc
            simp only [eff] at he
            split at he
            · rename_i xs hxs
              obtain ⟨callee, args, ts⟩ := c
              have e1 : args = #[x, y] := Array.toList_inj.1 (by grind)
              have e2 : ts = #[t, u] := Array.toList_inj.1 (by grind)
              simp only at hcal
              subst hcal; subst e1; subst e2
              refine g_append ho rfl hu ?_ hi hz hcond.1 hcond.2 hx hy hxs he ev hh hns
              cases d <;> simp [isSS] at hd
              all_goals grind
            · cases he
          · cases hc
        · cases hc
      · cases hc
    · cases hc
  · rename_i hcal
    split at hc
    · rename_i x t hargs hts
      split at hc
      · rename_i e hu
        simp at hc
        obtain ⟨x', hx, rfl⟩ := hc
        obtain ⟨callee, args, ts⟩ := c
        have e1 : args = #[x] := Array.toList_inj.1 (by grind)
        have e2 : ts = #[t] := Array.toList_inj.1 (by grind)
        simp only at hcal
        subst hcal; subst e1; subst e2
        exact g_cap ho hu hx he ev hh
      · cases hc
    · cases hc
  · rename_i hcal
    simp at hc
    obtain ⟨l, hl, rfl⟩ := hc
    have hH : wr = none := by
      grind[eff,Option.map_eq_some_iff,Prod.mk.injEq]
    subst hH
    obtain ⟨callee, args, ts⟩ := c
    simp only at hcal; subst hcal
    exact g_minmax (isMax := false) ho hl he ev hh
  · rename_i hcal
    simp at hc
    obtain ⟨l, hl, rfl⟩ := hc
    have hH : wr = none := by
      grind[eff,Option.map_eq_some_iff,Prod.mk.injEq]
    subst hH
    obtain ⟨callee, args, ts⟩ := c
    simp only at hcal; subst hcal
    exact g_minmax (isMax := true) ho hl he ev hh
  all_goals grind[Option.map_eq_some_iff,eff]
theorem eff_good {io : IOp} {v : V} {wr : Wr} (hc : compOp P o.op = some io) (he : eff ρ H ns io = some (v, wr)) (ev : Ev ρ a g w) (hh : HeapOK g w H) (hns : Fresh g ns) : Good P a o g w ns v (happ H wr) := by
  unfold compOp at hc
  split at hc
  · rename_i x ho
    simp at hc
    obtain ⟨x', hx, rfl⟩ := hc
    simp only [eff, Option.some.injEq, Prod.mk.injEq] at he
    obtain ⟨rfl, rfl⟩ := he
    exact g_mv (.inl ho) hx ev hh
  · rename_i x ho
    simp at hc
    obtain ⟨x', hx, rfl⟩ := hc
    simp only [eff, Option.some.injEq, Prod.mk.injEq] at he
    obtain ⟨rfl, rfl⟩ := he
    exact g_mv (.inr ho) hx ev hh
  · rename_i c x y ho
    split at hc
    · rename_i c' x' y' h1 h2 h3
      simp at hc; subst hc
      simp only [eff] at he
      split at he
      · rename_i b hb
        simp at he
        obtain ⟨rfl, rfl⟩ := he
        exact g_pick ho h1 h2 h3 hb ev hh
      · cases he
    · cases hc
  · rename_i t ho
    simp at hc
    obtain ⟨z, hz, rfl⟩ := hc
    simp only [eff, Option.some.injEq, Prod.mk.injEq] at he
    obtain ⟨rfl, rfl⟩ := he
    exact g_alloc ho hz hh hns
  · rename_i t x ho
    split at hc
    · rename_i n x' hn hx
      simp at hc; subst hc
      simp only [eff] at he
      cases hcond : (Nat.beq (cellsV (ρ x')).length n && (cellsV (ρ x')).all okC) with
      | false => grind
      | true =>
        rw [hcond] at he
        simp at he
        simp only [Bool.and_eq_true] at hcond
        obtain ⟨rfl, rfl⟩ := he
        rw [← Nat.eq_of_beq_eq_true hcond.1]
        exact g_box ho hx hcond.2 ev hh hns
    · cases hc
  · rename_i t ps ho
    split at hc
    · rename_i fs z ht hz
      split at hc
      · rename_i places hpl
        simp only [Option.map_eq_some_iff] at hc
        obtain ⟨qs, hq, rfl⟩ := hc
        simp only [eff, Option.map_eq_some_iff, Prod.mk.injEq] at he
        obtain ⟨cs, hcs, rfl, rfl⟩ := he
        refine g_build ho hz (fun i zv parts hi hzv => ?_) hq hcs ev hh
        grind[Program.built]
      · cases hc
    · rename_i n e z ht hz
      split at hc
      · rename_i ie hie
        simp at hc
        obtain ⟨qs, hq, rfl⟩ := hc
        simp only [eff, Option.map_eq_some_iff, Prod.mk.injEq] at he
        obtain ⟨cs, hcs, rfl, rfl⟩ := he
        refine g_build ho hz (fun i zv parts hi hzv => ?_) hq hcs ev hh
        grind[Program.built]
      · cases hc
    · cases hc
  · rename_i t len ps ho
    split at hc
    · rename_i e ht
      split at hc
      · rename_i s z hs hz
        split at hc
        · rename_i hcond
          simp only [Option.map_eq_some_iff] at hc
          obtain ⟨qs, hq, rfl⟩ := hc
          simp only [eff] at he
          cases hc2 : (Nat.beq ((List.range (len * s)).map fun i => z.getD (i % s) .any).length (len * s) && ((List.range (len * s)).map fun i => z.getD (i % s) .any).all okC) with
          | false => grind
          | true =>
            rw [hc2] at he
            simp at he
            obtain ⟨cs, hcs, rfl, rfl⟩ := he
            obtain ⟨k1, k2⟩ := g_mkSlice ho ht hs hz hcond.1 hcond.2.1 hcond.2.2 hq hcs ev hh hns
            rw [k2] at k1
            exact k1
        · cases hc
      · cases hc
    · cases hc
  · rename_i t x ho
    split at hc
    · rename_i n b x' hn hb hx
      split at hc
      · simp at hc; subst hc
        simp only [eff] at he
        split at he
        · rename_i cs hcs
          simp at he
          obtain ⟨v', hv', rfl, rfl⟩ := he
          exact g_load ho hn hb hx hcs hv' ev hh
        · cases he
      · cases hc
    · cases hc
  · rename_i t x y ho
    split at hc
    · rename_i n x' y' hn hx hy
      simp at hc; subst hc
      simp only [eff, Option.map_eq_some_iff, Prod.mk.injEq] at he
      obtain ⟨H2, h2, rfl, rfl⟩ := he
      exact g_store ho hn hx hy h2 ev hh
    · cases hc
  · rename_i x ho
    simp at hc
    obtain ⟨x', hx, rfl⟩ := hc
    have hH : wr = none := by
      grind[eff,Option.some.injEq,Prod.mk.injEq,reduceCtorEq]
    subst hH
    exact g_nilchk ho hx he ev hh
  · rename_i op t x y yt ho
    split at hc
    · rename_i x' y' hx hy
      have hbin : ∀ {io : IOp}, io = .bin op x' y' → eff ρ H ns io = some (v, wr) → Good P a o g w ns v (happ H wr) := by
        rintro io rfl he
        simp only [eff, Option.map_eq_some_iff, Prod.mk.injEq] at he
        obtain ⟨v', hv', rfl, rfl⟩ := he
        exact g_bin ho hx hy hv' ev hh
      have heq : ∀ {io : IOp} {k : EqKind} {neg : Bool}, io = .eq neg k x' y' → eff ρ H ns io = some (v, wr) → ((op = .eql ∧ neg = false) ∨ (op = .neq ∧ neg = true)) →
          (match k with | .bool => P.underlying t = some .bool | .ptr => ∃ e, P.underlying t = some (.pointer e) | .iface => (∃ e, P.underlying t = some (.interface e)) ∧ ((∃ c, x = .const c) ∨ ∃ c, y = .const c) | .slice => ∃ e, P.underlying t = some (.slice e) | .func => ∃ s : Array TypeId × Array TypeId × Bool, P.underlying t = some (.func s.1 s.2.1 s.2.2)) → Good P a o g w ns v (happ H wr) := by
        rintro io k neg rfl he hop hk
        simp only [eff, Option.map_eq_some_iff, Prod.mk.injEq] at he
        obtain ⟨b, hb, rfl, rfl⟩ := he
        exact g_eq ho hop hk hx hy hb ev hh
      split at hc
      · split at hc
        · grind
        · grind
        · grind
        · grind
        · rename_i fs hu
          simp at hc
          obtain ⟨ks, hks, rfl⟩ := hc
          simp only [eff] at he
          split at he
          · rename_i us e1
            split at he
            · rename_i vs e2
              split at he
              · rename_i r hrow
                simp at he
                obtain ⟨rfl, rfl⟩ := he
                exact g_eqS ho (.inl ⟨rfl, rfl⟩) hks hx hy e1 e2 hrow ev hh
              · cases he
            · cases he
          · cases he
        all_goals grind
      · split at hc
        · grind
        · grind
        · grind
        · grind
        · rename_i fs hu
          simp at hc
          obtain ⟨ks, hks, rfl⟩ := hc
          simp only [eff] at he
          split at he
          · rename_i us e1
            split at he
            · rename_i vs e2
              split at he
              · rename_i r hrow
                simp at he
                obtain ⟨rfl, rfl⟩ := he
                exact g_eqS ho (.inr ⟨rfl, rfl⟩) hks hx hy e1 e2 hrow ev hh
              · cases he
            · cases he
          · cases he
        all_goals grind
      grind
    · cases hc
  · rename_i op t x ho
    simp at hc
    obtain ⟨x', hx, rfl⟩ := hc
    simp only [eff, Option.map_eq_some_iff, Prod.mk.injEq] at he
    obtain ⟨v', hv', rfl, rfl⟩ := he
    exact g_un ho hx hv' ev hh
  · rename_i s d x ho
    split at hc
    · rename_i k0 k x' hs hd hx
      simp at hc; subst hc
      simp only [eff] at he
      split at he
      · rename_i k1 n e
        simp at he
        obtain ⟨rfl, rfl⟩ := he
        exact g_conv ho hs hd hx e ev hh
      · cases he
    · rename_i el x' hs hd hx
      split at hc
      · rename_i hel
        simp at hc; subst hc
        simp only [eff] at he
        split at he
        · rename_i l e
          simp at he
          obtain ⟨rfl, rfl⟩ := he
          exact g_strBytes ho hs hd hel hx e ev hh
        · cases he
      · cases hc
    · cases hc
  · rename_i f p q ho
    split at hc
    · rename_i p' q' hp hq
      simp at hc; subst hc
      simp only [eff, Option.some.injEq, Prod.mk.injEq] at he
      obtain ⟨rfl, rfl⟩ := he
      exact g_mkfunc ho hp hq ev hh
    · cases hc
  · rename_i t ho
    simp at hc; subst hc
    simp only [eff, Option.some.injEq, Prod.mk.injEq] at he
    obtain ⟨rfl, rfl⟩ := he
    exact g_mkmap ho hh hns
  · rename_i t l c ho
    split at hc
    · rename_i e l' c' ht hl hc2
      split at hc
      · rename_i i z hi hz
        simp at hc; subst hc
        exact g_mkRow ho ht hi hz hl hc2 he ev hh hns
      · cases hc
    · cases hc
  · rename_i t x lo hi ho
    split at hc
    · rename_i x' lo' hi' hx hlo hhi
      split at hc
      · rename_i ht
        simp at hc; subst hc
        simp only [eff] at he
        split at he
        · rename_i s e
          simp only [Option.map_eq_some_iff] at he
          obtain ⟨⟨l, h⟩, hb, he⟩ := he
          simp at he
          obtain ⟨rfl, rfl⟩ := he
          exact g_sslice ho ht hx hlo hhi e hb ev hh
        · cases he
      · rename_i el ht
        simp at hc
        obtain ⟨s, hs, rfl⟩ := hc
        simp only [eff] at he
        split at he
        · rename_i es e
          cases hl : es.all (fun e => Nat.beq e.length s) with
          | false => grind
          | true =>
            rw [hl] at he
            simp only [cond_true, Option.map_eq_some_iff] at he
            obtain ⟨⟨l, h⟩, hb, he⟩ := he
            simp at he
            obtain ⟨rfl, rfl⟩ := he
            exact g_lslice ho ht hs hx hlo hhi e hl hb ev hh
        · rename_i b hb' off len sz' e
          cases hl : (Nat.beq s sz' && liveB H b hb') with
          | false => grind
          | true =>
            rw [hl] at he
            simp only [cond_true, Option.map_eq_some_iff] at he
            obtain ⟨⟨l, h⟩, hbd, he⟩ := he
            simp at he
            obtain ⟨rfl, rfl⟩ := he
            simp only [Bool.and_eq_true] at hl
            have := Nat.eq_of_beq_eq_true hl.1
            subst this
            exact g_lsliceO ho ht hs hx hlo hhi e hl.2 hbd ev hh
        · rename_i e
          simp only [Option.map_eq_some_iff] at he
          obtain ⟨⟨l, h⟩, hbd, he⟩ := he
          simp at he
          obtain ⟨rfl, rfl⟩ := he
          exact g_lsliceN ho ht hs hx hlo hhi e hbd ev hh
        · cases he
      · cases hc
    · cases hc
  · rename_i t x hi mx ho
    split at hc
    · rename_i x' hi' mx' hx hhi hmx
      split at hc
      · rename_i el ht
        simp at hc
        obtain ⟨s, hs, rfl⟩ := hc
        simp only [eff] at he
        split at he
        · rename_i es h m e h1 h2
          cases hl : (es.all (fun e => Nat.beq e.length s) && Nat.beq h m && Nat.ble h es.length) with
          | false => grind
          | true =>
            rw [hl] at he
            simp at he
            obtain ⟨rfl, rfl⟩ := he
            simp only [Bool.and_eq_true] at hl
            have := Nat.eq_of_beq_eq_true hl.1.2
            subst this
            exact g_clip ho ht hs hx hhi hmx e hl.1.1 h1 h2 (Nat.le_of_ble_eq_true hl.2) ev hh
        · cases he
      · cases hc
    · cases hc
  · rename_i s x f ho
    split at hc
    · rename_i fs x' ht hx
      split at hc
      · rename_i off n hf
        split at hc
        · rename_i h0
          simp at hc; subst hc
          have hH : wr = none := by
            grind[eff,Option.some.injEq,Prod.mk.injEq,reduceCtorEq]
          subst hH
          exact g_faddr ho ht hf h0 hx he ev hh
        · cases hc
      · cases hc
    · cases hc
  · rename_i t x i ho
    split at hc
    · rename_i x' i' hx hi
      split at hc
      · rename_i e ht
        simp at hc
        obtain ⟨s, hs, rfl⟩ := hc
        have hH : wr = none := by
          grind[eff]
        subst hH
        exact g_iaddr ho ht hs hx hi he ev hh
      · rename_i n e ht
        simp at hc
        obtain ⟨s, hs, rfl⟩ := hc
        have hH : wr = none := by
          simp only [eff] at he
          grind
        subst hH
        exact g_iaddrA ho ht hs hx hi he ev hh
      · cases hc
    · cases hc
  · rename_i t x i ho
    split at hc
    · rename_i x' i' hx hi
      split at hc
      · rename_i ht
        simp at hc; subst hc
        have hH : wr = none := by
          grind[eff,Option.some.injEq,Prod.mk.injEq,reduceCtorEq]
        subst hH
        exact g_idxS ho ht hx hi he ev hh
      · rename_i n e ht
        split at hc
        · rename_i s b hs hb
          split at hc
          · rename_i h1
            simp at hc; subst hc
            simp only [eff] at he
            split at he
            · cases he
            · rename_i j ej
              split at he
              · rename_i cs e'
                cases hl : (Nat.blt j n && Nat.ble (n * s) cs.length) with
                | false => grind
                | true =>
                  rw [hl] at he
                  simp at he
                  simp only [Bool.and_eq_true] at hl
                  obtain ⟨v', hv', rfl, rfl⟩ := he
                  exact g_idxA ho ht hs hb h1 hx hi ej e' (by simp_all) (Nat.le_of_ble_eq_true hl.2) hv' ev hh
              · cases he
          · cases hc
        · cases hc
      · cases hc
    · cases hc
  · rename_i x i ho
    simp at hc
    obtain ⟨x', hx, rfl⟩ := hc
    simp only [eff] at he
    split at he
    · rename_i vs e
      simp at he
      obtain ⟨v', hv', rfl, rfl⟩ := he
      exact g_ext ho hx e hv' ev hh
    · cases he
  · rename_i t x ho
    split at hc
    · cases hc
    · rename_i d x' hni ht hx
      simp at hc; subst hc
      simp only [eff, Option.some.injEq, Prod.mk.injEq] at he
      obtain ⟨rfl, rfl⟩ := he
      exact g_mkiface ho ht (fun m hm => hni m hm) hx ev hh
    · cases hc
  · rename_i t m k ok ho
    have hl : ∀ {kk : KeyKind} {z : V} {m' k' : Opd}, eff ρ H ns (.lookup kk z ok m' k') = some (v, wr) → wr = none := by
      intro kk z m' k' he
      simp only [eff] at he
      grind
    split at hc
    · rename_i kt e m' k' ht hm hk
      split at hc
      · rename_i z q hz hkt
        simp at hc; subst hc
        have := hl he; subst this
        exact g_lookup (kk := .int) ho ht ⟨q, hkt⟩ hz hm hk he ev hh
      · rename_i z hz hkt
        simp at hc; subst hc
        have := hl he; subst this
        exact g_lookup (kk := .str) ho ht hkt hz hm hk he ev hh
      · rename_i z hz hkt
        simp at hc; subst hc
        have := hl he; subst this
        exact g_lookup (kk := .bool) ho ht hkt hz hm hk he ev hh
      · cases hc
    · cases hc
  · rename_i t m k x ho
    split at hc
    · rename_i kt e m' k' x' ht hm hk hx
      split at hc
      · rename_i q hkt
        simp at hc; subst hc
        exact g_mapUpd (kk := .int) ho ht ⟨q, hkt⟩ hm hk hx he ev hh
      · rename_i hkt
        simp at hc; subst hc
        exact g_mapUpd (kk := .str) ho ht hkt hm hk hx he ev hh
      · rename_i hkt
        simp at hc; subst hc
        exact g_mapUpd (kk := .bool) ho ht hkt hm hk hx he ev hh
      · cases hc
    · cases hc
  · rename_i t x ho
    split at hc
    · rename_i kt el ht
      simp at hc
      obtain ⟨x', hx, rfl⟩ := hc
      exact g_range ho ht hx he ev hh hns
    · cases hc
  · grind[Option.map_eq_some_iff,eff]
  · rename_i it ho
    simp at hc
    obtain ⟨x', hx, rfl⟩ := hc
    exact g_entry ho hx he ev hh
  · rename_i c ho
    exact eff_call ho hc he ev hh hns
  · cases hc
end
end Fw

/-
  A box that nobody writes any more is known as data from then on.
-/
namespace Fw
open Go
theorem chunk_length (sz n : Nat) (l : List D) : (chunk sz n l).length = n := by
  induction n generalizing l<;>grind[chunk]
theorem RdC.of_vals {w : World} {im : Nat → Prop} {blk : Nat} : ∀ {ds : List D} {vs : List Value} {off : Nat}, ds.length = vs.length → (∀ (j : Nat) (d : D) (v : Value), ds[j]? = some d → vs[j]? = some v → Rd w im d v) →
    (∀ (j : Nat) (v : Value), vs[j]? = some v → w.cell? ⟨blk, off + j, none⟩ = some v) → RdC w im blk off ds
  | [], _, _, _, _, _ => by simp only [RdC]
  | d :: ds, [], _, hl, _, _ => by simp at hl
  | d :: ds, v :: vs, off, hl, h1, h2 => by
    simp only [RdC]
    refine ⟨⟨v, by have := h2 0 v rfl; grind, h1 0 d v rfl rfl⟩, RdC.of_vals (vs := vs) (by grind) (fun j d' v' hd hv => h1 (j + 1) d' v' (by grind) (by grind)) (fun j v' hv => ?_)⟩
    have := h2 (j + 1) v' (by grind)
    grind
theorem RdC.take {w : World} {im : Nat → Prop} {blk : Nat} : ∀ (k : Nat) (ds : List D) (q : Nat), RdC w im blk q ds → RdC w im blk q (ds.take k) := by
  intro k ds
  induction ds generalizing k with
  | nil => grind
  | cons d ds ih =>
    intro q hq
    cases k<;>grind[RdC]
theorem chunk_RdE' {w : World} {im : Nat → Prop} {blk sz : Nat} : ∀ {n : Nat} {off : Nat} {l : List D}, n * sz ≤ l.length → RdC w im blk off l → RdE w im blk off sz (chunk sz n l)
  | 0, _, _, _, _ => by grind[chunk,RdE]
  | n + 1, off, l, hl, h => by
    simp only [chunk, RdE]
    have hle : sz ≤ l.length := by grind
    refine ⟨by simp; omega, RdC.take _ _ _ h, ?_⟩
    exact chunk_RdE' (by grind) (RdC.drop sz h)
mutual
def frzV (b : Nat) (ds : List D) : V → V
  | .ptr c h off => bif Nat.beq c b then (bif Nat.beq h ds.length then .cptr (ds.drop off) else .any) else .ptr c h off
  | .sl c h off len sz => bif Nat.beq c b then (bif Nat.beq h ds.length && Nat.ble (off + len * sz) h then .d (.list (chunk sz len (ds.drop off))) else .any) else .sl c h off len sz
  | .map c => bif Nat.beq c b then .any else .map c
  | .iter c m => bif Nat.beq c b then .any else .iter c m
  | .yld c => bif Nat.beq c b then .any else .yld c
  | .func f a c => .func f (frzL b ds a) (frzL b ds c)
  | .iface t v => .iface t (frzV b ds v)
  | .agg cs => .agg (frzL b ds cs)
  | .tuple vs => .tuple (frzL b ds vs)
  | v => v
def frzL (b : Nat) (ds : List D) : List V → List V
  | [] => []
  | v :: vs => frzV b ds v :: frzL b ds vs
end
def frzBox (b : Nat) (ds : List D) : Box → Box
  | .cells cs => .cells (frzL b ds cs)
  | .map es => .map (es.map fun p => (p.1, frzV b ds p.2))
  | .loop n tm ps ca cb st => .loop n (tm.map fun p => (p.1, frzV b ds p.2)) ps ca cb st
  | x => x
def frzH (b : Nat) (ds : List D) (n : Nat) : Heap → Heap
  | [] => []
  | x :: H => (bif Nat.beq n b then none else x.map (frzBox b ds)) :: frzH b ds (n + 1) H
def okBox : Option Box → Bool
  | some (.cells cs) => cs.all okC
  | _ => true
def boxD (H : Heap) (b : Nat) : Option (List D) :=
  match hget H b with
  | some (.cells cs) => dcells cs
  | some .nil => some []
  | _ => none
def G.del (g : G) (b : Nat) : G := ⟨g.dom, fun c => if c = b then none else g.γ c, g.fo, g.base⟩
theorem hget_frzH (b : Nat) (ds : List D) : ∀ (H : Heap) (n c : Nat), hget (frzH b ds n H) c = if n + c = b then none else (hget H c).map (frzBox b ds)
  | [], n, c => by simp [frzH, hget]
  | x :: H, n, 0 => by
    simp_all[frzH,hget,Nat.add_zero]
  | x :: H, n, c + 1 => by
    simp only [frzH, hget]
    rw [hget_frzH b ds H (n + 1) c]
    grind
theorem length_frzH (b : Nat) (ds : List D) : ∀ (H : Heap) (n : Nat), (frzH b ds n H).length = H.length
  | [], _ => rfl
  | x :: H, n => by simp [frzH, length_frzH b ds H (n + 1)]
theorem imm_del {g : G} {w : World} {b k : Nat} (h : imm g w k) : imm (g.del b) w k := by
  refine ⟨h.1, h.2.1, fun c x hx => ?_⟩
  simp only [G.del] at hx
  split at hx
  · cases hx
  · exact h.2.2 c x hx
theorem dcells_get : ∀ {cs : List V} {ds : List D}, dcells cs = some ds → cs.length = ds.length ∧ ∀ (i : Nat) (d : D), ds[i]? = some d → cs[i]? = some (.d d) ∨ (cs[i]? = some .nils ∧ d = .list [])
  | [], ds, h => by grind[dcells,Option.some.injEq]
  | c :: cs, ds, h => by
    cases c with
    | d x =>
      simp only [dcells, Option.map_eq_some_iff] at h
      obtain ⟨ds', h1, rfl⟩ := h
      obtain ⟨h2, h3⟩ := dcells_get h1
      grind
    | nils =>
      simp only [dcells, Option.map_eq_some_iff] at h
      obtain ⟨ds', h1, rfl⟩ := h
      obtain ⟨h2, h3⟩ := dcells_get h1
      grind
    | _ => simp [dcells] at h
def FrzAt (g : G) (w : World) (b : Nat) (ds : List D) : Prop :=
  match g.γ b with
  | some (.cells blk _ cur) => cur = ds.length ∧ imm (g.del b) w blk ∧ RdC w (imm (g.del b) w) blk 0 ds
  | some .nil => ds = []
  | _ => False
theorem frzAt {g : G} {w : World} {H : Heap} {b : Nat} {ds : List D} (hh : HeapOK g w H) (h : boxD H b = some ds) : FrzAt g w b ds := by
  unfold boxD at h
  split at h
  · rename_i cs hg
    obtain ⟨x, hx⟩ := hh.back b _ hg
    obtain ⟨_, y, hy, hr⟩ := hh.live b x hx
    rw [hg] at hy; simp at hy; subst hy
    obtain ⟨hl, hds⟩ := dcells_get h
    unfold FrzAt
    rw [hx]
    cases x with
    | cells blk cp cur =>
      have hlt := hr.lt blk rfl
      have hfo := hh.notFo hx rfl
      simp only [RB] at hr
      obtain ⟨r1, r2, r3, c, e, r4, r5, r6⟩ := hr
      have him : imm (g.del b) w blk := by
        refine ⟨hlt, hfo, fun c' x' hx' hk => ?_⟩
        simp only [G.del] at hx'
        split at hx'
        · cases hx'
        · rename_i hne
          exact hne (hh.inj c' b x' _ blk hx' hx hk rfl)
      refine ⟨by omega, him, ?_⟩
      have hvl := r6.length
      refine RdC.of_vals (vs := c.toList.take cs.length) (by omega) (fun j d v hd hv => ?_) (fun j v hv => ?_)
      · rcases hds j d hd with hc | ⟨hc, rfl⟩
        · obtain ⟨v', hv', hrv⟩ := RVs.get j r6 hc
          rw [hv] at hv'; simp at hv'; subst hv'
          simp only [RV] at hrv
          exact Rd.keeps (fun k hk => ⟨imm_del hk, rfl⟩) _ _ hrv
        · obtain ⟨v', hv', hrv⟩ := RVs.get j r6 hc
          grind[Option.some.injEq,RV,Rd]
      grind[World.cell?]
    | nil => grind[RB]
    | obj => grind[RB]
  · rename_i hg
    simp at h; subst h
    obtain ⟨x, hx⟩ := hh.back b _ hg
    obtain ⟨_, y, hy, hr⟩ := hh.live b x hx
    rw [hg] at hy; simp at hy; subst hy
    unfold FrzAt
    grind[RB]
  · cases h
mutual
theorem RV.frz {g : G} {w : World} {b : Nat} {ds : List D} (hf : FrzAt g w b ds) : ∀ (u : V) (v : Value), RV g w u v → RV (g.del b) w (frzV b ds u) v
  | .any, _, _ => by grind[frzV,RV]
  | .d x, v, hv => by
    simp only [frzV, RV] at hv ⊢
    exact Rd.keeps (fun k hk => ⟨imm_del hk, rfl⟩) _ _ hv
  | .full es, v, hv => by
    simp only [frzV, RV] at hv ⊢
    exact ⟨Rd.keeps (fun k hk => ⟨imm_del hk, rfl⟩) _ _ hv.1, hv.2⟩
  | .nils, _, hv => by grind[frzV,RV]
  | .ptr c h off, v, hv => by
    simp only [frzV]
    by_cases hc : c = b
    · subst hc
      simp
      cases hb : Nat.beq h ds.length with
      | false => simp only [cond_false, RV]
      | true =>
        simp
        have he := Nat.eq_of_beq_eq_true hb
        simp only [RV] at hv ⊢
        unfold FrzAt at hf
        split at hf
        · rename_i blk cp cur hγ
          obtain ⟨f1, f2, f3⟩ := hf
          obtain ⟨blk', cp', cur', e1, e2, e3⟩ := hv.2 _ hγ
          simp at e1
          obtain ⟨rfl, rfl, rfl⟩ := e1
          exact ⟨blk, off, e2 (by omega), fun _ => f2, by simpa using RdC.drop off f3⟩
        all_goals grind
    · rw [beq_ff hc, cond_false]
      simp_all[RV,G.del]
  | .nilp, _, hv => by grind[frzV,RV]
  | .cptr cs, v, hv => by
    simp only [frzV, RV] at hv ⊢
    obtain ⟨blk, off, h1, h2, h3⟩ := hv
    refine ⟨blk, off, h1, fun hn => imm_del (h2 hn), ?_⟩
    cases cs with
    | nil => simp only [RdC]
    | cons c cs => exact RdC.keeps (im := imm g w) (im' := imm (g.del b) w) (fun k hk => ⟨imm_del hk, rfl⟩) (h2 (by simp)) _ _ h3
  | .sl c h off len sz, v, hv => by
    simp only [frzV]
    by_cases hc : c = b
    · subst hc
      simp
      cases hb : (Nat.beq h ds.length && Nat.ble (off + len * sz) h) with
      | false => simp only [cond_false, RV]
      | true =>
        simp
        simp only [Bool.and_eq_true] at hb
        have he := Nat.eq_of_beq_eq_true hb.1
        have hle := Nat.le_of_ble_eq_true hb.2
        simp only [RV, Rd, chunk_length] at hv ⊢
        unfold FrzAt at hf
        split at hf
        · rename_i blk cp cur hγ
          obtain ⟨f1, f2, f3⟩ := hf
          have hx := hv.2 _ hγ
          obtain ⟨cap, k1, k2, k3⟩ := hx.2 (by omega)
          right
          exact ⟨blk, off, cap, sz, k1, k2, fun _ => f2, chunk_RdE' (by simp; omega) (by simpa using RdC.drop off f3)⟩
        · rename_i hγ
          have hx := hv.2 _ hγ
          obtain ⟨rfl, rfl, rfl, rfl⟩ := hx
          left
          exact ⟨rfl, .inl rfl⟩
        grind
    · rw [beq_ff hc, cond_false]
      simp_all[RV,G.del]
  | .map c, v, hv => by
    simp only [frzV]
    by_cases hc : c = b
    · simp_all[Nat.beq_refl,cond_true,RV]
    · rw [beq_ff hc, cond_false]
      simp_all[RV,G.del]
  | .nilm, _, hv => by grind[frzV,RV]
  | .func f a c, v, hv => by
    simp only [frzV, RV] at hv ⊢
    obtain ⟨x, y, h1, h2, h3⟩ := hv
    exact ⟨x, y, h1, RVs.frz hf _ _ h2, RVs.frz hf _ _ h3⟩
  | .nilf, _, hv => by grind[frzV,RV]
  | .iface t u, v, hv => by
    simp only [frzV, RV] at hv ⊢
    obtain ⟨x, h1, h2⟩ := hv
    exact ⟨x, h1, RV.frz hf _ _ h2⟩
  | .someIface, _, hv => by grind[frzV,RV]
  | .nili, _, hv => by grind[frzV,RV]
  | .agg cs, v, hv => by
    simp only [frzV, RV] at hv ⊢
    obtain ⟨x, h1, h2⟩ := hv
    exact ⟨x, h1, RVs.frz hf _ _ h2⟩
  | .tuple vs, v, hv => by
    simp only [frzV, RV] at hv ⊢
    obtain ⟨x, h1, h2⟩ := hv
    exact ⟨x, h1, RVs.frz hf _ _ h2⟩
  | .iter c _, v, hv => by
    simp only [frzV]
    by_cases hc : c = b
    · simp_all[Nat.beq_refl,cond_true,RV]
    · rw [beq_ff hc, cond_false]
      simp_all[RV,G.del]
  | .yld c, v, hv => by
    simp only [frzV]
    by_cases hc : c = b
    · simp_all[Nat.beq_refl,cond_true,RV]
    · rw [beq_ff hc, cond_false]
      simp_all[RV,G.del]
theorem RVs.frz {g : G} {w : World} {b : Nat} {ds : List D} (hf : FrzAt g w b ds) : ∀ (us : List V) (vs : List Value), RVs g w us vs → RVs (g.del b) w (frzL b ds us) vs
  | [], [], _ => by grind[frzL,RVs]
  | u :: us, v :: vs, hv => by
    simp only [frzL, RVs] at hv ⊢
    exact ⟨RV.frz hf _ _ hv.1, RVs.frz hf _ _ hv.2⟩
  | [], _ :: _, hv => by grind[RVs]
  | _ :: _, [], hv => by grind[RVs]
end
theorem get_map (f : V → V) (hf : f .any = .any) : ∀ (l : List (Nat × V)) (t : Nat), get (l.map fun p => (p.1, f p.2)) t = f (get l t)
  | [], t => by simp [get, hf]
  | (s, u) :: l, t => by
    simp only [List.map_cons, get, get_map f hf l t]
    grind
theorem frzL_length (b : Nat) (ds : List D) : ∀ (l : List V), (frzL b ds l).length = l.length
  | [] => rfl
  | _ :: l => by simp [frzL, frzL_length b ds l]
theorem Ext.frz {g : G} {w : World} {b : Nat} (g0 : G) (w0 : World) (h : Ext g0 w0 g w) : Ext g0 w0 (g.del b) w :=
  ⟨h.os, h.tape, h.output, h.size, fun k hk => ⟨imm_del (h.keeps k hk).1, (h.keeps k hk).2⟩, h.dom,
   fun c hc => by
    simp only [G.del]
    split
    · grind[GB.step]
    · exact h.step c hc, h.fo, h.base, h.foreign⟩
theorem HeapOK.frz {g : G} {w : World} {H : Heap} {b : Nat} {ds : List D} (hh : HeapOK g w H) (h : boxD H b = some ds) (hok : (frzH b ds 0 H).all okBox = true) : HeapOK (g.del b) w (frzH b ds 0 H) := by
  have hf := frzAt hh h
  refine ⟨fun c hc => by rw [length_frzH]; exact hh.dom c hc, fun c x hx => ?_, fun c y hy => ?_, fun c c' x x' k hx hx' hk hk' => ?_, fun k hk => ⟨(hh.fo k hk).1, fun c x hx => ?_⟩⟩
  · simp only [G.del] at hx
    split at hx
    · cases hx
    · rename_i hcb
      obtain ⟨h1, y, h2, h3⟩ := hh.live c x hx
      have hg : hget (frzH b ds 0 H) c = some (frzBox b ds y) := by grind[hget_frzH]
      refine ⟨h1, _, hg, ?_⟩
      cases x with
      | cells blk cp cur =>
        cases y with
        | cells cs =>
          simp only [RB, frzBox] at h3 ⊢
          obtain ⟨r1, r2, r3, cc, e, r4, r5, r6⟩ := h3
          refine ⟨by grind[frzL_length], ?_, by grind[frzL_length], cc, e, r4, r5, ?_⟩
          · have hm : some (Box.cells (frzL b ds cs)) ∈ frzH b ds 0 H := by
              have : ∀ (H : Heap) (c : Nat) (y : Box), hget H c = some y → some y ∈ H := by
                intro H
                induction H with
                | nil => grind[hget]
                | cons z H ih =>
                  intro c y hy
                  cases c<;>grind[hget]
              exact this _ _ _ hg
            grind[okBox]
          · rw [frzL_length]; exact RVs.frz hf _ _ r6
        | _ => grind[RB]
      | nil => grind[RB,frzBox]
      | obj blk =>
        cases y with
        | map es =>
          simp only [RB, frzBox] at h3 ⊢
          obtain ⟨ents, clock, e1, e2, e3, e4, e5⟩ := h3
          refine ⟨ents, clock, e1, by simp [e2], fun i k v hi => ?_, e4, e5⟩
          simp only [List.getElem?_map, Option.map_eq_some_iff, Prod.mk.injEq] at hi
          obtain ⟨⟨k', v'⟩, hi', rfl, rfl⟩ := hi
          obtain ⟨z, z1, z2, z3, z4⟩ := e3 i k' v' hi'
          exact ⟨z, z1, z2, Rd.keeps (fun k hk => ⟨imm_del hk, rfl⟩) _ _ z3, RV.frz hf _ _ z4⟩
        | siter s pos => grind[RB,frzBox]
        | loop n tm ps ca cb st =>
          simp only [RB, frzBox] at h3 ⊢
          obtain ⟨r, e1, e2, e3, e4⟩ := h3
          exact ⟨r, e1, e2, fun t => by rw [get_map (frzV b ds) (by simp only [frzV])]; exact RV.frz hf _ _ (e3 t), e4⟩
        | miter m n seen =>
          simp only [RB, frzBox] at h3 ⊢
          obtain ⟨mb, sa, e1, e2, e3, e4⟩ := h3
          refine ⟨mb, sa, e1, e2, e3, fun x hx => e4 x ?_⟩
          grind[G.del]
        | _ => grind[RB]
  · rw [hget_frzH] at hy
    split at hy
    · cases hy
    · rename_i hcb
      simp at hy
      obtain ⟨y', hy', rfl⟩ := hy
      obtain ⟨x, hx⟩ := hh.back c y' hy'
      grind[G.del]
  · simp only [G.del] at hx hx'
    split at hx
    · cases hx
    · split at hx'
      · cases hx'
      · exact hh.inj c c' x x' k hx hx' hk hk'
  · simp only [G.del] at hx
    split at hx
    · cases hx
    · exact (hh.fo k hk).2 c x hx
def frzSt (b : Nat) (σ : St) : Option St :=
  match boxD σ.hp b with
  | some ds => bif (frzH b ds 0 σ.hp).all okBox then some ⟨σ.n, σ.tm.map fun p => (p.1, frzV b ds p.2), frzH b ds 0 σ.hp⟩ else none
  | none => none
theorem R.frz {GL : GLT} {g : G} {w : World} {a : Act} {σ σ' : St} {b : Nat} (h : R GL g w a σ) (hc : frzSt b σ = some σ') : R GL (g.del b) w a σ' := by
  unfold frzSt at hc
  split at hc
  · rename_i ds hds
    cases hok : (frzH b ds 0 σ.hp).all okBox with
    | false => grind
    | true =>
      rw [hok] at hc
      simp at hc; subst hc
      refine ⟨h.defers.ext (Ext.frz _ _ (Ext.refl _ _)), h.size, fun t => ?_, h.heap.frz hds hok, h.globs.ext (Ext.frz _ _ (Ext.refl _ _))⟩
      simp only
      rw [get_map (frzV b ds) (by simp only [frzV])]
      exact RV.frz (frzAt h.heap hds) _ _ (h.tmps t)
  · cases hc
def effF (ρ : Opd → V) : IOp → Option V
  | .mkSlice sz len z ps =>
    match fillC ρ z ps with
    | some cs => match dcells cs with
      | some ds => some (bif Nat.beq len 0 then .full [] else .d (.list (chunk sz len ds)))
      | none => none
    | none => none
  | .append sz bytes x y => match ρ x, ρ y with
    | .full es, .d (.list ys) => bif es.all (fun e => Nat.beq e.length sz) && ys.all (fun e => Nat.beq e.length sz) && !ys.isEmpty && Nat.ble ((es.flatten.length + ys.flatten.length) * (bytes + 1)) roomB then some (.d (.list (es ++ ys))) else none
    | _, _ => none
  | _ => none
section
variable {P : Program} {a : Act} {o : Oper} {g : G} {w : World} {ρ : Opd → V} {H : Heap} {ns : Nat}
theorem comp_mkSlice {op : Op} {sz len : Nat} {z : List V} {ps : List (Nat × Nat × Opd)} (h : compOp P op = some (.mkSlice sz len z ps)) : ∃ t e z0 qs, op = .buildSlice t len qs ∧ P.underlying t = some (.slice e) ∧ szOf P e = some sz ∧ zeroOf P e = some z0 ∧
    len * sz ≤ 2 ^ 24 ∧ z0.length = sz ∧ 0 < sz ∧ compParts (fun i => some (i * sz, sz)) qs.toList = some ps ∧ z = (List.range (len * sz)).map fun i => z0.getD (i % sz) .any := by
  cases op with
  | buildSlice t len' qs =>
    grind[compOp,Option.map_eq_some_iff,IOp.mkSlice.injEq]
  | makeFunc fn a b => exfalso; cases fn <;> (grind[compOp])
  | makeMap t r => exfalso; cases r <;> (grind[compOp])
  | slice t x lo hi mx => exfalso; cases mx <;> cases lo <;> cases hi <;> (simp only [compOp] at h; (repeat' split at h) <;> simp at h)
  | call c => exfalso; simp only [compOp, compCall] at h; (repeat' split at h) <;> simp at h
  | _ => exfalso; simp only [compOp] at h; (repeat' split at h) <;> simp at h
theorem Ext.newImm {g : G} {w : World} {H : Heap} (hh : HeapOK g w H) (o : Obj) : Ext g w g (w.alloc o) ∧ HeapOK g (w.alloc o) H ∧ imm g (w.alloc o) w.heap.size := by
  have he : Ext g w g (w.alloc o) := ⟨rfl, rfl, rfl, by simp, fun k hk => ⟨⟨by have := hk.1; simp; omega, hk.2⟩, heap_push_lt _ _ hk.1⟩, fun _ h => h, fun _ _ => GB.step.refl _, rfl, rfl, fun k hk => heap_push_lt _ _ (hh.fo k hk).1⟩
  have hown : ∀ b x k, g.γ b = some x → x.own = some k → k < w.heap.size := fun b x k hx hk => by
    obtain ⟨_, y, _, hr⟩ := hh.live b x hx
    exact hr.lt k hk
  refine ⟨he, hh.ext he (fun b x k hx hk => heap_push_lt _ _ (hown b x k hx hk)), by simp, fun h => ?_, fun b x hx hk => ?_⟩
  · have := (hh.fo _ h).1; omega
  grind
theorem comp_append {op : Op} {sz bytes : Nat} {x' y' : Opd} (h : compOp P op = some (.append sz bytes x' y')) : ∃ (x y : Operand) (t u e : TypeId) (i : TypeInfo) (z : List V), op = .call { callee := .builtin .append, args := #[x, y], argTypes := #[t, u] } ∧ P.underlying t = some (.slice e) ∧ ((∃ e2, P.underlying u = some (.slice e2)) ∨ P.underlying u = some .string) ∧
    P.info? e = some i ∧ zeroOf P e = some z ∧ 0 < i.size ∧ z.length = i.size ∧ compOpd x = some x' ∧ compOpd y = some y' ∧ sz = i.size ∧ bytes = i.bytes := by
  cases op with
  | call c =>
    simp only [compOp] at h
    obtain ⟨callee, args, ts⟩ := c
    unfold compCall at h
    split at h
    · exfalso
      (repeat' split at h) <;> simp at h
    · rename_i hcal
      split at h
      · rename_i x y t u hargs hts
        split at h
        · grind
        · rename_i e d hni hu hu2
          split at h
          · rename_i i z x1 y1 hd hi hz hx hy
            split at h
            · rename_i hcond
              simp at h
              obtain ⟨rfl, rfl, rfl, rfl⟩ := h
              have e1 : args = #[x, y] := Array.toList_inj.1 (by grind)
              have e2 : ts = #[t, u] := Array.toList_inj.1 (by grind)
              simp only at hcal
              subst hcal; subst e1; subst e2
              refine ⟨x, y, t, u, e, i, z, rfl, hu, ?_, hi, hz, hcond.1, hcond.2, hx, hy, rfl, rfl⟩
              cases d <;> simp [isSS] at hd
              all_goals grind
            · cases h
          · cases h
        · cases h
      · cases h
    all_goals (exfalso; (repeat' split at h) <;> simp at h)
  | makeFunc fn a b => exfalso; cases fn <;> (grind[compOp])
  | makeMap t r => exfalso; cases r <;> (grind[compOp])
  | slice t x lo hi mx => exfalso; cases mx <;> cases lo <;> cases hi <;> (simp only [compOp] at h; (repeat' split at h) <;> simp at h)
  | _ => exfalso; simp only [compOp] at h; (repeat' split at h) <;> simp at h
theorem effF_app {sz bytes : Nat} {x' y' : Opd} {es ys : List (List D)} (hop : compOp P o.op = some (.append sz bytes x' y')) (ex : ρ x' = .full es) (ey : ρ y' = .d (.list ys)) (hc : (es.all (fun e => Nat.beq e.length sz) && ys.all (fun e => Nat.beq e.length sz) && !ys.isEmpty && Nat.ble ((es.flatten.length + ys.flatten.length) * (bytes + 1)) roomB) = true) (ev : Ev ρ a g w) (hh : HeapOK g w H) :
    ∃ w' r, (execOp a.eval o).run P w = .ok (.value r) w' ∧ RV g w' (.d (.list (es ++ ys))) r ∧ HeapOK g w' H ∧ Ext g w g w' := by
  obtain ⟨x, y, t, u, e, i, zs, ho, ht, hu, hi, hz, h0, hzl, hx, hy, rfl, rfl⟩ := comp_append hop
  have hvx := ev _ _ hx
  have hvy := ev _ _ hy
  rw [ex] at hvx
  rw [ey] at hvy
  simp only [Bool.and_eq_true] at hc
  obtain ⟨⟨⟨c1, c2⟩, c3⟩, c4⟩ := hc
  simp only [zeroOf, Option.bind_eq_some_iff] at hz
  obtain ⟨z, ⟨i', hi', hzv⟩, hm⟩ := hz
  rw [hi] at hi'
  simp at hi'; subst hi'
  have hzs : z.cells.size = i.size := by have := mapO_length hm; grind
  have hsy : sliceC H i.size (.d (.list ys)) = some (ys.flatten.map .d) := by simp only [sliceC, c2, cond_true]
  have hsx : sliceC H i.size (.d (.list es)) = some (es.flatten.map .d) := by simp only [sliceC, c1, cond_true]
  simp only [RV] at hvx
  obtain ⟨hd, a0, hv⟩ := hvx
  have hd1 : RV g w (.d (.list es)) (a.eval x) := by grind[RV]
  obtain ⟨n, news, f1, -, f3, f4⟩ := sliceC_ok (P := P) hsy hvy hh h0
  obtain ⟨n', news', -, f2', f3', f4'⟩ := sliceC_ok (P := P) hsy (RV.ext (drewExt g w) _ _ hvy) hh.drew h0
  obtain ⟨m, olds, q1, q2, q3, q4⟩ := sliceC_ok (P := P) hsx (RV.ext (drewExt g w) _ _ hd1) hh.drew h0
  have hnn : n' = n := by
    have e1 := f3'.length; have e2 := f3.length
    have : n' * i.size = n * i.size := by omega
    exact Nat.eq_of_mul_eq_mul_right h0 this
  subst hnn
  rw [hv] at q1 q2
  have hm' : m = es.length := by
    simp_all[Builtin.lenOf]
  subst hm'
  have hly : ys.flatten.length = n' * i.size := by
    have := f3.length
    grind
  have hlx : es.flatten.length = es.length * i.size := by
    have := q3.length
    grind
  have hflat : ∀ (l : List (List D)), l.all (fun e => Nat.beq e.length i.size) = true → l.flatten.length = l.length * i.size := by
    intro l hl
    induction l with
    | nil => simp
    | cons e l ih =>
      simp only [List.all_cons, Bool.and_eq_true] at hl
      simp only [List.flatten_cons, List.length_append, List.length_cons]
      rw [ih hl.2, Nat.eq_of_beq_eq_true hl.1, Nat.add_mul]; omega
  have hyn : ys.length = n' := by
    have := hflat ys c2
    rw [hly] at this
    exact (Nat.eq_of_mul_eq_mul_right h0 this).symm
  have hpos : 0 < n' := by
    grind
  have c4 := Nat.le_of_ble_eq_true c4
  have hle : es.length + n' ≤ es.flatten.length + ys.flatten.length := by
    rw [hlx, hly, ← Nat.add_mul]; exact Nat.le_mul_of_pos_right _ h0
  have hb : (es.length + n') * i.bytes ≤ 140737488355328 := by
    have e1 : (es.length + n') * i.bytes ≤ (es.flatten.length + ys.flatten.length) * (i.bytes + 1) := Nat.mul_le_mul hle (by omega)
    have e2 : roomB ≤ 140737488355328 := by decide
    omega
  have h63 : es.length + n' ≤ 140737488355328 := by
    have e1 : es.length + n' ≤ (es.flatten.length + ys.flatten.length) * (i.bytes + 1) := Nat.le_trans hle (Nat.le_mul_of_pos_right _ (by omega))
    have e2 : roomB ≤ 140737488355328 := by decide
    omega
  have hr := run_app_grow (ty := o.type) ht hu hi hzv f1 f2' q2 (by omega) (by omega) (growslice_fits (by omega) hb)
  have hexec : (execOp a.eval o).run P w = .ok (.value (.slice (some ⟨w.heap.size, 0, none⟩) (es.length + n') (grownCap w (es.length + n') es.length e))) (w.drew.alloc (.cells (olds.toArray ++ news'.toArray ++ Builtin.zeroCells z.cells (grownCap w (es.length + n') es.length e - (es.length + n'))) e)) := by
    simp_all[execOp,resolve,invoke,builtin]
  obtain ⟨g1, g2, g3⟩ := Ext.newImm hh.drew (.cells (olds.toArray ++ news'.toArray ++ Builtin.zeroCells z.cells (grownCap w (es.length + n') es.length e - (es.length + n'))) e)
  refine ⟨_, _, hexec, ?_, g2, (drewExt g w).trans g1⟩
  simp only [RV, Rd]
  right
  have hlen : (es ++ ys).length = es.length + n' := by grind
  refine ⟨w.heap.size, 0, _, i.size, by rw [hlen], by rw [hlen]; exact grownCap_ge _ _ _ _, fun _ => g3, ?_⟩
  have hall : (es ++ ys).all (fun e => Nat.beq e.length i.size) = true := by grind
  have hch : es ++ ys = chunk i.size (es.length + n') ((es ++ ys).flatten) := by
    rw [← hlen]
    have : ∀ (l : List (List D)), l.all (fun e => Nat.beq e.length i.size) = true → l = chunk i.size l.length l.flatten := by
      intro l hl
      induction l with
      | nil => rfl
      | cons e l ih =>
        simp only [List.all_cons, Bool.and_eq_true] at hl
        have hel := Nat.eq_of_beq_eq_true hl.1
        grind[List.flatten_cons,List.length_cons,chunk,List.take_left,List.drop_left]
    grind
  rw [hch]
  have hfl : (es ++ ys).flatten.length = (es.length + n') * i.size := by grind
  have hcells : RVs g w.drew ((es ++ ys).flatten.map .d) (olds ++ news') := by
    rw [List.flatten_append, List.map_append]
    exact RVs.append q3 f3'
  refine chunk_RdE' (by omega) ?_
  refine RdC.of_vals (vs := olds ++ news') ?_ (fun j d v hd hv => ?_) (fun j v hv => ?_)
  · grind
  · obtain ⟨v', hv', hrv⟩ := RVs.get j hcells (show ((es ++ ys).flatten.map V.d)[j]? = some (.d d) by grind)
    rw [hv] at hv'; simp at hv'; subst hv'
    simp only [RV] at hrv
    exact Rd.keeps g1.keeps _ _ hrv
  · have hs : (w.drew.alloc (.cells (olds.toArray ++ news'.toArray ++ Builtin.zeroCells z.cells (grownCap w (es.length + n') es.length e - (es.length + n'))) e)).heap[w.heap.size]? = some (.cells (olds.toArray ++ news'.toArray ++ Builtin.zeroCells z.cells (grownCap w (es.length + n') es.length e - (es.length + n'))) e (0, 0)) := heap_push_self _ _
    simp only [World.cell?, hs, Nat.zero_add]
    grind
theorem effF_good {io : IOp} {v : V} (hop : compOp P o.op = some io) (he : effF ρ io = some v) (ev : Ev ρ a g w) (hh : HeapOK g w H) :
    ∃ w' x, (execOp a.eval o).run P w = .ok (.value x) w' ∧ RV g w' v x ∧ HeapOK g w' H ∧ Ext g w g w' := by
  cases io with
  | mkSlice sz len z ps =>
    simp only [effF] at he
    split at he
    · rename_i cs hcs
      split at he
      · rename_i ds hds
        simp at he; subst he
        obtain ⟨t, e, z0, qs, ho, hu, hs, hz, h1, h2, h3, hq, rfl⟩ := comp_mkSlice hop
        obtain ⟨c', k1, k2, k3, k4⟩ := run_mkSlice ho hu hs hz h1 h2 h3 hq hcs ev
        obtain ⟨f1, f2, f3⟩ := Ext.newImm hh (.cells c' e)
        refine ⟨_, _, k4, ?_, f2, f1⟩
        cases hl0 : Nat.beq len 0 with
        | true =>
          simp_all[cond_true,RV,Rd,List.length_nil]
        | false =>
        simp only [cond_false, RV, Rd, chunk_length]
        right
        obtain ⟨hl, hget⟩ := dcells_get hds
        have hk := k1.length
        refine ⟨_, 0, len, sz, rfl, Nat.le_refl _, fun _ => f3, chunk_RdE' (by omega) ?_⟩
        refine RdC.of_vals (vs := c'.toList) (by omega) (fun j d v hd hv => ?_) (fun j v hv => ?_)
        · rcases hget j d hd with hc | ⟨hc, rfl⟩
          · obtain ⟨v', hv', hrv⟩ := RVs.get j k1 hc
            rw [hv] at hv'; simp at hv'; subst hv'
            simp only [RV] at hrv
            exact Rd.keeps f1.keeps _ _ hrv
          · obtain ⟨v', hv', hrv⟩ := RVs.get j k1 hc
            grind[Option.some.injEq,RV,Rd]
        simp_all
      · cases he
    · cases he
  | append sz bytes x' y' =>
    simp only [effF] at he
    split at he
    · rename_i es ys ex ey
      cases hc : (es.all (fun e => Nat.beq e.length sz) && ys.all (fun e => Nat.beq e.length sz) && !ys.isEmpty && Nat.ble ((es.flatten.length + ys.flatten.length) * (bytes + 1)) roomB) with
      | false => grind
      | true =>
        rw [hc] at he
        simp at he; subst he
        exact effF_app hop ex ey hc ev hh
    · cases he
  | _ => grind[effF]
end
end Fw
