/-
  Cells of own rows at open places: looked at and written.
-/
import Derived.Test.YtonjnjkdebpilaaGreatDoorFg
import Derived.Test.YtonjnjkdebpilaaGreatDoorFe
import Derived.Test.YtonjnjkdebpilaaGreatDoorFf

set_option linter.unusedSimpArgs false
set_option linter.unusedVariables false
namespace Fw
open Go
theorem drop_cons_at {α : Type} {l : List α} {i : Nat} {x : α} (h : l[i]? = some x) : l.drop i = x :: l.drop (i + 1) := by
  obtain ⟨hlt, he⟩ := List.getElem?_eq_some_iff.1 h
  rw [List.drop_eq_getElem_cons hlt, he]
theorem rowE_cells {α : Type} {enc : α → List D} {sz : Nat} (h : ∀ a, (enc a).length = sz) (h0 : 0 < sz) {l : List α} (hl : l ≠ []) : rowE enc l = .cells ((l.flatMap enc).map .d) := by
  have : (l.flatMap enc).length ≠ 0 := by
    rw [flat_len h]
    cases l<;>grind[List.length_cons,Nat.succ_mul]
  unfold rowE rowB
  cases hf : l.flatMap enc<;>grind
section
variable {P : Program} {GL : GLT}
theorem CG.eff0 {op : IOp} {g : Option (Nat × Bool)} {af : List Nat} {l : List IOper} {K : List Fr} {n : Nat} {tm : List (Nat × V)} {H H' : Heap} {Q : Ex → St → Prop} {v : V} {wr : Wr}
    (ho : l.head? = some ⟨none, op, g, af⟩) (hg : guardB g tm = some true) (he : eff (evo GL tm) H H.length op = some (v, wr)) (hH : happ H wr = H')
    (hq : CG P GL (.ops (l.drop 1)) K n tm H' Q) : CG P GL (.ops l) K n tm H Q := by
  subst hH
  exact WO.head ho (WO.eff (v := v) (wr := wr) (σ' := ⟨n, tm, happ H wr⟩) hg he (by rw [stput_none]) hq)
theorem AW.eff0 {base i : Nat} {op : IOp} {g : Option (Nat × Bool)} {af : List Nat} {l : List IOper} {tm : List (Nat × V)} {H : Heap} {Q : RS → List (Nat × V) → Heap → Prop} {v : V} {wr : Wr}
    (ho : l.head? = some ⟨none, op, g, af⟩) (hg : guardB g tm = some true) (hc : isCall op = none) (he : eff (evo GL tm) H (base + i) op = some (v, wr)) (hq : AW P GL base (i + 1) (l.drop 1) tm (happ H wr) (fun rs t k => Q (((v, wr), rds (evo GL tm) op) :: rs) t k)) : AW P GL base i l tm H Q := by
  refine AW.head ho ⟨none, v, wr, ?_, fun f args h => ?_, hq⟩
  · simp only [oneX, oneD, hg, callE_none he]; exact he
  · rw [callE_none he] at h; cases h
end
end Fw

/-
  Rows born empty: appended to in drawn regions, and known as data where cells speak of them.
-/
namespace Fw
open Go
section
variable {P : Program} {GL : GLT}
theorem AW.appC {α : Type} (enc : α → List D) (as ys : List α) {base i d : Nat} {g : Option (Nat × Bool)} {af : List Nat} {l : List IOper} {tm : List (Nat × V)} {H : Heap} {Q : RS → List (Nat × V) → Heap → Prop} {sz bytes : Nat} {x y : Opd} (b : Nat) (hsz : ∀ a, (enc a).length = sz)
    (ho : l.head? = some ⟨some d, .append sz bytes x y, g, af⟩) (hc : (Nat.blt 0 sz, guardB g tm, evo GL tm x, hget H b) = (true, some true, .sl b (as.length * sz) 0 as.length sz, some (cellE enc as))) (hy : sliceC H sz (evo GL tm y) = some ((ys.flatMap enc).map .d))
    (hr : (as.length + ys.length) * sz * (bytes + 1) ≤ 1099511627776)
    (hq : AW P GL base (i + 1) (l.drop 1) (put tm d (.sl b ((as ++ ys).length * sz) 0 (as ++ ys).length sz)) (hput H b (cellE enc (as ++ ys))) (fun rs t k => Q (((.sl b ((as ++ ys).length * sz) 0 (as ++ ys).length sz, some (b, cellE enc (as ++ ys))), rds (evo GL tm) (.append sz bytes x y)) :: rs) t k)) : AW P GL base i l tm H Q := by
  simp at hc
  have h0' : 0 < sz := by simp_all
  have e1 := appendV_cell (H := H) (ns := base + i) (sz := sz) (bytes := bytes) (b := b) (len := as.length) (k := ys.length) (cs := (as.flatMap enc).map .d) (xs := (ys.flatMap enc).map .d) h0' hc.2.2.2
    (by simp [flat_len hsz]) (by simp [flat_len hsz]) (by simp [okC]) (by grind[roomB])
  refine AW.eff1 (v := .sl b ((as ++ ys).length * sz) 0 (as ++ ys).length sz) (wr := some (b, cellE enc (as ++ ys))) ho hc.2.1 rfl ?_ hq
  grind[eff,List.length_append,cellE]
end
end Fw

/-
  Nil rows handed on as arguments.
-/
namespace Fw
open Go
section
variable {P : Program} {GL : GLT}
def nilRel : List V → List V → Prop
  | [], [] => True
  | a :: as, b :: bs => (a = b ∨ (a = .nils ∧ b = .d (.list []))) ∧ nilRel as bs
  | _, _ => False
theorem nilRel.rvs {g : G} {w : World} : ∀ {as bs : List V} {vs : List Value}, nilRel as bs → RVs g w as vs → RVs g w bs vs
  | [], [], _, _, h => h
  | a :: as, b :: bs, [], _, h => by grind[RVs]
  | a :: as, b :: bs, v :: vs, hr, h => by
    simp only [RVs] at h ⊢
    obtain ⟨hr1, hr2⟩ := hr
    refine ⟨?_, nilRel.rvs hr2 h.2⟩
    grind[RV,Rd]
  | [], _ :: _, _, hr, _ => by grind[nilRel]
  | _ :: _, [], _, hr, _ => by grind[nilRel]
theorem PC.nil {f : FuncId} {args dargs : List V} {v : V} (h : PC P GL f dargs v) (hr : nilRel args dargs) : PC P GL f args v :=
  ⟨h.1, fun g w vs hvs h1 h2 h3 => h.2 g w vs (nilRel.rvs hr hvs) h1 h2 h3⟩
end
end Fw

/-
  A drawn region in parts: some operations all come ahead of the others; between the parts the state may be told anew.
-/
namespace Fw
open Go
section
variable {P : Program} {GL : GLT}
theorem DP.tidy {mm : Nat} {l : List IOper} {k : Nat} {σ σ' : St} {Q : Ex → St → Prop} (ht : Tidy mm σ σ') (h : DP P GL mm l k σ' Q) : DP P GL mm l k σ Q := by
  intro ro ops hl listed g w a g0 w0 hsz hK hR hm hE
  obtain ⟨g', h1, h2⟩ := ht GL g w a hR
  exact h ro ops hl listed g' w a g0 w0 hsz hK h1 hm (h2 g0 w0 hm hE)
end
end Fw

/-
  The last operation of a drawn region, for which all others come ahead, told as an ordinary one; parts walked one by one.
-/
namespace Fw
open Go
section
variable {P : Program} {GL : GLT}
theorem DP.walk {mm k : Nat} (m : Nat) {l : List IOper} {n : Nat} {tm : List (Nat × V)} {H : Heap} {Q : Ex → St → Prop} {lp : List IOper} (hlp : (restD k l).take m = lp) (hm : Nat.ble (k + m) l.length = true) (hbar : barOk k m l = true) (hst : dstOk n lp = true)
    (h : AW P GL H.length 0 lp tm (H ++ List.replicate lp.length none) (fun rs tm' H' => (drawOk lp rs && slotOk (H.length + lp.length) rs) = true ∧ ∃ tm2 H2, Tidy mm ⟨n, tm', H'⟩ ⟨n, tm2, H2⟩ ∧ DP P GL mm l (k + m) ⟨n, tm2, H2⟩ Q)) : DP P GL mm l k ⟨n, tm, H⟩ Q := by
  obtain ⟨cvs, rs, tm', H', k1, k2, k4, ⟨k5, tm2, H2, k7, k8⟩, k6⟩ := AW.runs (n := n) h
  rw [Bool.and_eq_true] at k5
  refine DP.part (σ := ⟨n, tm, H⟩) m (qc := fun i => (cvs[i]?).bind id) (rs := rs) hlp hm hbar ?_ k5.1 hst k5.2 (fun i o r ho hr f args hcall hg => ?_) ?_
  · exact k2 _ fun j c hj => by simp [hj]
  · have := k6 i o r ho hr f args (by rw [Nat.zero_add]; exact hcall)
    simp at this
    exact this hg
  · show DP P GL mm l (k + m) (foldK (fun _ => true) 0 lp rs (padSt ⟨n, tm, H⟩ lp.length)) Q
    have e : foldK (fun _ => true) 0 lp rs (padSt ⟨n, tm, H⟩ lp.length) = ⟨n, tm', H'⟩ := k4
    rw [e]
    exact DP.tidy k7 k8
theorem CG.drawDP (hm : P.follows .mixedOrders = true) {l : List IOper} {K : List Fr} {n : Nat} {tm : List (Nat × V)} {H : Heap} {Q : Ex → St → Prop} (h : DP P GL H.length l 0 ⟨n, tm, H⟩ (KQ P GL K Q)) : CG P GL (.code (.draw l)) K n tm H Q := WC.drawDP hm h
theorem DP.doneC {mm : Nat} {l : List IOper} {k : Nat} {n : Nat} {tm : List (Nat × V)} {H : Heap} {K : List Fr} {Q : Ex → St → Prop} (hk : Nat.beq k l.length = true) (h : CG P GL (.out .normal) K n tm H Q) : DP P GL mm l k ⟨n, tm, H⟩ (KQ P GL K Q) := by
  have := Nat.eq_of_beq_eq_true hk
  subst this
  exact DP.done h
end
end Fw

/-
  Rows that are nil or empty, appended to and known as data; an empty row looked at for nil.
-/
namespace Fw
open Go
def rowX {α : Type} (enc : α → List D) (l : List α) (x : Box) : Prop := x = rowE enc l ∨ x = cellE enc l
theorem rowE_cellE {α : Type} {enc : α → List D} {sz : Nat} (h : ∀ a, (enc a).length = sz) (h0 : 0 < sz) {l : List α} (hl : l ≠ []) : rowE enc l = cellE enc l := rowE_cells h h0 hl
theorem rowX.cell {α : Type} {enc : α → List D} {sz : Nat} (h : ∀ a, (enc a).length = sz) (h0 : 0 < sz) {l : List α} {x : Box} (hx : rowX enc l x) (hl : l ≠ []) : x = rowE enc l := by
  rcases hx with hx | hx
  · exact hx
  · rw [hx, rowE_cellE h h0 hl]
def rowZ {α : Type} (enc : α → List D) (z : Bool) (l : List α) : Box := bif z then cellE enc l else rowE enc l
theorem rowX.z {α : Type} {enc : α → List D} {l : List α} {x : Box} (h : rowX enc l x) : ∃ z, x = rowZ enc z l := by
  rcases h with h | h
  · exact ⟨false, h⟩
  · exact ⟨true, h⟩
theorem rowZ.x {α : Type} (enc : α → List D) (z : Bool) (l : List α) : rowX enc l (rowZ enc z l) := by
  cases z
  · exact .inl rfl
  · exact .inr rfl
@[simp] theorem boxLt_rowZ {α : Type} (n : Nat) (enc : α → List D) (z : Bool) (l : List α) : boxLt n (rowZ enc z l) = true := by
  cases z
  · exact boxLt_row n enc l
  · exact boxLt_cell n enc l
section
variable {P : Program} {GL : GLT}
theorem CG.eqEmpty {d : Nat} {x y : Opd} {g : Option (Nat × Bool)} {af : List Nat} {l : List IOper} {K : List Fr} {n : Nat} {tm : List (Nat × V)} {H : Heap} {Q : Ex → St → Prop}
    (ho : l.head? = some ⟨some d, .eq false .slice x y, g, af⟩) (hc : (guardB g tm, evo GL tm x, evo GL tm y, Nat.blt d n) = (some true, .d (.list []), .nils, true))
    (hq : ∀ b, CG P GL (.ops (l.drop 1)) K n (put tm d (.d (.bool b))) H Q) : CG P GL (.ops l) K n tm H Q := by
  simp at hc
  refine WO.head ho (WO.eqEmpty (x := x) (y := y) rfl hc.1 hc.2.1 hc.2.2.1 fun b => ⟨⟨n, put tm d (.d (.bool b)), H⟩, ?_, hq b⟩)
  simp_all[stput_some]
end
end Fw

/-
  Own rows at open places: a part of an element is written.
-/
namespace Fw
open Go
section
variable {P : Program} {GL : GLT}
end
end Fw

/-
  A call in a drawn region that looks into an own row: told by a closed run beside that row alone.
-/
namespace Fw
open Go
section
variable {P : Program} {GL : GLT}
mutual
def nilV : V → V
  | .nils => .d (.list [])
  | .agg cs => .agg (nilL cs)
  | .tuple cs => .tuple (nilL cs)
  | .d x => .d x
  | _ => .any
def nilL : List V → List V
  | [] => []
  | v :: vs => nilV v :: nilL vs
end
mutual
theorem RV.nilV {g : G} {w : World} : ∀ {u : V} {v : Value}, RV g w u v → RV g w (Fw.nilV u) v
  | .nils, v, h => by
    grind[RV,Fw.nilV,Rd]
  | .agg cs, v, h => by
    simp only [RV] at h
    obtain ⟨x, rfl, hx⟩ := h
    simp only [Fw.nilV, RV]
    exact ⟨x, rfl, RVs.nilL hx⟩
  | .tuple cs, v, h => by
    simp only [RV] at h
    obtain ⟨x, rfl, hx⟩ := h
    simp only [Fw.nilV, RV]
    exact ⟨x, rfl, RVs.nilL hx⟩
  | .d x, v, h => by grind[Fw.nilV]
  | .any, v, h => by grind[Fw.nilV,RV]
  | .full _, v, h => by grind[Fw.nilV,RV]
  | .ptr _ _ _, v, h => by grind[Fw.nilV,RV]
  | .nilp, v, h => by grind[Fw.nilV,RV]
  | .cptr _, v, h => by grind[Fw.nilV,RV]
  | .sl _ _ _ _ _, v, h => by grind[Fw.nilV,RV]
  | .map _, v, h => by grind[Fw.nilV,RV]
  | .nilm, v, h => by grind[Fw.nilV,RV]
  | .func _ _ _, v, h => by grind[Fw.nilV,RV]
  | .nilf, v, h => by grind[Fw.nilV,RV]
  | .iface _ _, v, h => by grind[Fw.nilV,RV]
  | .someIface, v, h => by grind[Fw.nilV,RV]
  | .nili, v, h => by grind[Fw.nilV,RV]
  | .iter _ _, v, h => by grind[Fw.nilV,RV]
  | .yld _, v, h => by grind[Fw.nilV,RV]
theorem RVs.nilL {g : G} {w : World} : ∀ {us : List V} {vs : List Value}, RVs g w us vs → RVs g w (Fw.nilL us) vs
  | [], [], _ => by grind[Fw.nilL,RVs]
  | _ :: _, _ :: _, h => by
    simp only [RVs] at h
    simp only [Fw.nilL, RVs]
    exact ⟨RV.nilV h.1, RVs.nilL h.2⟩
  | [], _ :: _, h => by grind[RVs]
  | _ :: _, [], h => by grind[RVs]
end
theorem WF.nilV {f : FuncId} {args : List V} {H H0 : Heap} {d : V} (h : WF P GL f args H (fun r H' => r = d ∧ H' = H0)) : WF P GL f args H (fun r H' => r = Fw.nilV d ∧ H' = H0) := by
  refine ⟨h.1, fun g w vs hvs hh hg => (h.2 g w vs hvs hh hg).mono ?_⟩
  rintro e w' ⟨x, v, g', H', rfl, ⟨rfl, rfl⟩, hx, hh', he⟩
  exact ⟨x, _, g', _, rfl, ⟨rfl, rfl⟩, hx.nilV, hh', he⟩
end
end Fw

/-
  Quotient and remainder by an open number that is not 0.
-/
namespace Fw
open Go
section
variable {P : Program} {GL : GLT}
theorem CG.quo {d : Nat} {k : IntKind} {a b : Int} {g : Option (Nat × Bool)} {af : List Nat} {l : List IOper} {K : List Fr} {n : Nat} {tm : List (Nat × V)} {H : Heap} {Q : Ex → St → Prop} {x y : Opd} (hb : b ≠ 0)
    (ho : l.head? = some ⟨some d, .bin .quo x y, g, af⟩) (hc : (guardB g tm, evo GL tm x, evo GL tm y, Nat.blt d n) = (some true, .d (.int k a), .d (.int k b), true))
    (hq : CG P GL (.ops (l.drop 1)) K n (put tm d (.d (.int k (k.wrap (a.tdiv b))))) H Q) : CG P GL (.ops l) K n tm H Q := by
  simp only [Prod.mk.injEq] at hc
  refine CG.eff1 ho hc.1 (v := .d (.int k (k.wrap (a.tdiv b)))) (wr := none) ?_ rfl hc.2.2.2 hq
  grind[eff,binD,binI]
theorem CG.rem {d : Nat} {k : IntKind} {a b : Int} {g : Option (Nat × Bool)} {af : List Nat} {l : List IOper} {K : List Fr} {n : Nat} {tm : List (Nat × V)} {H : Heap} {Q : Ex → St → Prop} {x y : Opd} (hb : b ≠ 0)
    (ho : l.head? = some ⟨some d, .bin .rem x y, g, af⟩) (hc : (guardB g tm, evo GL tm x, evo GL tm y, Nat.blt d n) = (some true, .d (.int k a), .d (.int k b), true))
    (hq : CG P GL (.ops (l.drop 1)) K n (put tm d (.d (.int k (a.tmod b)))) H Q) : CG P GL (.ops l) K n tm H Q := by
  simp only [Prod.mk.injEq] at hc
  refine CG.eff1 ho hc.1 (v := .d (.int k (a.tmod b))) (wr := none) ?_ rfl hc.2.2.2 hq
  grind[eff,binD,binI]
theorem AO.quo {base i d : Nat} {Hp : Heap} {k : IntKind} {a b : Int} {g : Option (Nat × Bool)} {af : List Nat} {l : List IOper} {tm : List (Nat × V)} {Q : List (Nat × V) → Prop} {x y : Opd} (hb : b ≠ 0)
    (ho : l.head? = some ⟨some d, .bin .quo x y, g, af⟩) (hc : (guardB g tm, evo GL tm x, evo GL tm y) = (some true, .d (.int k a), .d (.int k b)))
    (hq : AO P GL base Hp (i + 1) (l.drop 1) (put tm d (.d (.int k (k.wrap (a.tdiv b))))) Q) : AO P GL base Hp i l tm Q := by
  simp at hc
  refine AO.eff1 ho hc.1 rfl (v := .d (.int k (k.wrap (a.tdiv b)))) ?_ hq
  grind[eff,binD,binI]
theorem AO.rem {base i d : Nat} {Hp : Heap} {k : IntKind} {a b : Int} {g : Option (Nat × Bool)} {af : List Nat} {l : List IOper} {tm : List (Nat × V)} {Q : List (Nat × V) → Prop} {x y : Opd} (hb : b ≠ 0)
    (ho : l.head? = some ⟨some d, .bin .rem x y, g, af⟩) (hc : (guardB g tm, evo GL tm x, evo GL tm y) = (some true, .d (.int k a), .d (.int k b)))
    (hq : AO P GL base Hp (i + 1) (l.drop 1) (put tm d (.d (.int k (a.tmod b)))) Q) : AO P GL base Hp i l tm Q := by
  simp at hc
  refine AO.eff1 ho hc.1 rfl (v := .d (.int k (a.tmod b))) ?_ hq
  grind[eff,binD,binI]
end
end Fw

/-
  A clipped slice of data and an append to it; slots kept and boxes cut.
-/
namespace Fw
open Go
section
variable {P : Program} {GL : GLT}
theorem AW.clip {α : Type} (enc : α → List D) (xs : List α) (k : Nat) {base i d : Nat} {g : Option (Nat × Bool)} {af : List Nat} {l : List IOper} {tm : List (Nat × V)} {H : Heap} {Q : RS → List (Nat × V) → Heap → Prop} {sz : Nat} {x y z : Opd} (hsz : ∀ a, (enc a).length = sz) (hk : k ≤ xs.length)
    (ho : l.head? = some ⟨some d, .clip sz x y z, g, af⟩) (hc : (guardB g tm, evo GL tm x, natOf (evo GL tm y), natOf (evo GL tm z)) = (some true, .d (.list (xs.map enc)), some k, some k))
    (hq : AW P GL base (i + 1) (l.drop 1) (put tm d (.full ((xs.take k).map enc))) H (fun rs t h => Q (((.full ((xs.take k).map enc), none), []) :: rs) t h)) : AW P GL base i l tm H Q := by
  simp at hc
  have hall : (xs.map enc).all (fun e => Nat.beq e.length sz) = true := by
    simp_all
  refine AW.eff1 (v := .full ((xs.take k).map enc)) (wr := none) ho hc.1 rfl ?_ hq
  have : Nat.ble k (xs.map enc).length = true := by simp_all
  simp only [eff, hc.2.1, hc.2.2.1, hc.2.2.2, hall, Nat.beq_refl, this, Bool.and_self, cond_true, List.map_take]
end
end Fw

/-
  A call of a drawn region that hands back a row of its own.
-/
namespace Fw
open Go
section
variable {P : Program} {GL : GLT}
theorem CallR.ofWF {f : FuncId} {args cs : List V} {n sz : Nat} (h : WF P GL f args [] (fun v H' => v = .sl 0 cs.length 0 n sz ∧ H' = [some (.cells cs)])) (ha : refsLtL 0 args = true) (hcs : boxLt 0 (.cells cs) = true) (H : Heap) (ns : Nat) : CallR P GL f args H ns (.sl ns cs.length 0 n sz, some (ns, .cells cs)) := by
  refine ⟨h.1, fun H1 _ g w vs hvs hh hg hns => ?_⟩
  obtain ⟨hsub, hH0, hG⟩ := subG_ok (S := []) (g := g) (w := w) (H := H1) (H0 := []) List.nodup_nil rfl hh hg (fun i hi => absurd hi (Nat.not_lt_zero i))
  have hag : Agree 0 g (subG [] g) w := ⟨fun b hb => by omega, fun b hb => by omega, fun k hk => (hsub.imm k).2 hk⟩
  refine (h.2 (subG [] g) w vs (RVs.agree hag _ _ ha hvs) hH0 hG).mono ?_
  rintro e w' ⟨x, v', g0, H', rfl, ⟨rfl, rfl⟩, hx, hh', he⟩
  obtain ⟨x0, hx0⟩ := hh'.back 0 (.cells cs) rfl
  obtain ⟨hd0, y0, hy0, hr0⟩ := hh'.live 0 x0 hx0
  have : y0 = .cells cs := by simpa [hget] using hy0.symm
  subst this
  have hfo0 : ∀ k, g0.fo k ↔ (g.fo k ∨ ∃ b x, g.γ b = some x ∧ x.own = some k) := by
    intro k
    rw [he.fo]
    simp [subG]
  have hown : ∀ k, (g.fo k ∨ ∃ b x, g.γ b = some x ∧ x.own = some k) → x0.own ≠ some k := fun k hk => (hh'.fo k ((hfo0 k).2 hk)).2 0 x0 hx0
  have himm : ∀ k, imm g0 w' k → imm (g.add ns x0) w' k := by
    rintro k ⟨h1, h2, h3⟩
    rw [hfo0] at h2
    refine ⟨h1, fun hf => h2 (.inl hf), fun b z hz hk => ?_⟩
    simp only [G.add] at hz
    split at hz
    · simp only [Option.some.injEq] at hz; subst hz; exact h3 0 _ hx0 hk
    · exact h2 (.inr ⟨b, z, hz, hk⟩)
  have hE : Ext g w (g.add ns x0) w' := by
    refine ⟨he.os, he.tape, he.output, he.size, fun k hk => ?_, fun b hb => .inl hb, fun b hb => ?_, rfl, rfl, fun k hk => he.foreign k (Or.inl hk)⟩
    · obtain ⟨k1, k2⟩ := he.keeps k ((hsub.imm k).2 hk)
      exact ⟨himm k k1, k2⟩
    · have : b ≠ ns := by rintro rfl; exact hns hb
      simp only [G.add, this, if_false]
      exact GB.step.refl _
  refine ⟨x, g.add ns x0, rfl, ?_, hE, ?_, fun b hb => hb⟩
  · simp only [RV] at hx ⊢
    refine ⟨⟨hx.1.1, .inr rfl⟩, fun z hz => ?_⟩
    have hz' : z = x0 := by simpa [G.add] using hz.symm
    subst hz'
    exact hx.2 _ hx0
  · have hag2 : Agree 0 g0 (g.add ns x0) w' := ⟨fun b hb => by omega, fun b hb => by omega, himm⟩
    refine ⟨fun b hb => ?_, fun b z hz => ?_, fun b z hz => ?_, fun b b' z z' k hz hz' hk hk' => ?_, fun k hk => ⟨Nat.lt_of_lt_of_le (hh.fo k hk).1 he.size, fun b z hz hk' => ?_⟩⟩
    · have hl := length_hput H1 ns (.cells cs)
      simp only [happ]
      rcases hb with hb | rfl
      · have := hh.dom b hb; omega
      · exact hl.2
    · simp only [G.add] at hz
      split at hz
      · rename_i hb
        simp only [Option.some.injEq] at hz; subst hz; subst hb
        exact ⟨.inr rfl, .cells cs, hget_hput_self _ _ _, RB.agree hag2 hcs hr0⟩
      · rename_i hb
        obtain ⟨h1, y', h2, h3⟩ := hh.live b z hz
        exact ⟨.inl h1, y', by simp only [happ]; rw [hget_hput_ne _ hb]; exact h2, RB.ext hE (fun k hk => he.foreign k (Or.inr ⟨b, z, by simp, hz, hk⟩)) h3⟩
    · by_cases hb : b = ns
      · exact ⟨x0, by simp [G.add, hb]⟩
      · simp only [happ] at hz
        rw [hget_hput_ne _ hb] at hz
        obtain ⟨q, hq⟩ := hh.back b z hz
        exact ⟨q, by simp [G.add, hb, hq]⟩
    · simp only [G.add] at hz hz'
      split at hz
      · rename_i hb
        split at hz'
        · rename_i hb'; rw [hb, hb']
        · simp only [Option.some.injEq] at hz; subst hz
          exact absurd hk (hown k (.inr ⟨b', z', hz', hk'⟩))
      · split at hz'
        · simp only [Option.some.injEq] at hz'; subst hz'
          exact absurd hk' (hown k (.inr ⟨b, z, hz, hk⟩))
        · exact hh.inj b b' z z' k hz hz' hk hk'
    · simp only [G.add] at hz
      split at hz
      · simp only [Option.some.injEq] at hz; subst hz
        exact hown k (.inl hk) hk'
      · exact (hh.fo k hk).2 b z hz hk'
theorem AW.own {cs vs : List V} {n sz base i d : Nat} {g : Option (Nat × Bool)} {af : List Nat} {l : List IOper} {tm : List (Nat × V)} {H : Heap} {Q : RS → List (Nat × V) → Heap → Prop} {f : FuncId} {args : List Opd} (h : WF P GL f vs [] (fun v H' => v = .sl 0 cs.length 0 n sz ∧ H' = [some (.cells cs)]))
    (hr : (refsLtL 0 vs && boxLt 0 (.cells cs)) = true) (ho : l.head? = some ⟨some d, .call f args, g, af⟩) (hg : guardB g tm = some true)
    (ha : mlist (evo GL tm) args = vs) (hq : AW P GL base (i + 1) (l.drop 1) (put tm d (.sl (base + i) cs.length 0 n sz)) (hput H (base + i) (.cells cs)) (fun rs t k => Q (((.sl (base + i) cs.length 0 n sz, some (base + i, .cells cs)), rds (evo GL tm) (.call f args)) :: rs) t k)) : AW P GL base i l tm H Q := by
  subst ha
  rw [Bool.and_eq_true] at hr
  refine AW.head ho ⟨some (.own cs n sz), .sl (base + i) cs.length 0 n sz, some (base + i, .cells cs), ?_, fun f' args' hc _ => ?_, hq⟩
  · simp only [oneX, hg, callE]
  · simp only [callE, Option.some.injEq, Prod.mk.injEq] at hc
    obtain ⟨rfl, rfl⟩ := hc
    exact CallR.ofWF h hr.1 hr.2 _ _
theorem app_empty {a : Act} {o : Oper} {g : G} {w : World} {ρ : Opd → V} {H : Heap} {sz bytes : Nat} {x' y' : Opd} (hop : compOp P o.op = some (.append sz bytes x' y')) (ex : ρ x' = .full []) (ey : ρ y' = .d (.list [])) (ev : Ev ρ a g w) (hh : HeapOK g w H) :
    ∃ r, (execOp a.eval o).run P w = .ok (.value r) w ∧ RV g w (.full []) r := by
  obtain ⟨x, y, t, u, e, i, zs, ho, ht, hu, hi, hz, h0, hzl, hx, hy, rfl, rfl⟩ := comp_append hop
  have hvx := ev _ _ hx
  have hvy := ev _ _ hy
  rw [ex] at hvx
  rw [ey] at hvy
  have hsy : sliceC H i.size (.d (.list [])) = some [] := by simp [sliceC]
  obtain ⟨n, news, f1, f2, f3, f4⟩ := sliceC_ok (P := P) hsy hvy hh h0
  have hn : news = [] := by
    cases news with
    | nil => rfl
    | cons a b => simp [RVs] at f3
  subst hn
  have hn0 : n = 0 := by
    simp only [List.length_nil] at f4
    rcases Nat.eq_zero_or_pos n with h | h
    · exact h
    · have := Nat.mul_pos h h0; omega
  subst hn0
  simp only [RV] at hvx
  obtain ⟨hd, a0, hv⟩ := hvx
  have hr := run_app_room (ty := o.type) (base := a0) (sLen := 0) (sCap := 0) (w' := w) ht hu hi f1 f2 (Nat.le_refl _) (fun b h => by simp [storeCells]) (fun _ => rfl)
  refine ⟨.slice a0 0 0, ?_, ?_⟩
  · simp only [List.length_nil] at hv
    simp_all[execOp,resolve,invoke,builtin]
  · simp only [RV]
    exact ⟨hv ▸ hd, a0, rfl⟩
theorem WO.appE {o : IOper} {l : List IOper} {σ σ' : St} {Q : St → Prop} {sz bytes : Nat} {x y : Opd} (ho : o.op = .append sz bytes x y) (hg : guardB o.guard σ.tm = some true) (hx : evo GL σ.tm x = .full []) (hy : evo GL σ.tm y = .d (.list [])) (hp : σ.put o.dst (.full []) σ.hp = some σ') (h : WO P GL l σ' Q) :
    WO P GL (o :: l) σ Q := by
  refine WO.step fun o' ops hop hgd hdst g w a hr K Q' hK => ?_
  rw [wanted_of hr hgd hg, if_pos rfl]
  have hop' := comp_of hop (fun e => by rw [ho] at e; cases e)
  rw [ho] at hop'
  obtain ⟨r, h1, h2⟩ := app_empty hop' hx hy hr.ev hr.heap
  refine OW.of (comp_not_defer hop') h1 ?_
  simp only [Oper.uponIn]
  rw [hdst]
  exact hK g w _ σ' (hr.stput (Ext.refl _ _) hr.heap hp h2) (Ext.refl _ _) h
theorem AW.ownC {α : Type} (enc : α → List D) (as : List α) {vs : List V} {sz base i d : Nat} {g : Option (Nat × Bool)} {af : List Nat} {l : List IOper} {tm : List (Nat × V)} {H : Heap} {Q : RS → List (Nat × V) → Heap → Prop} {f : FuncId} {args : List Opd} (hsz : ∀ a, (enc a).length = sz) (h : WF P GL f vs [] (fun v H' => v = .sl 0 (as.length * sz) 0 as.length sz ∧ H' = [some (cellE enc as)]))
    (hr : refsLtL 0 vs = true) (ho : l.head? = some ⟨some d, .call f args, g, af⟩) (hg : guardB g tm = some true)
    (ha : mlist (evo GL tm) args = vs) (hq : AW P GL base (i + 1) (l.drop 1) (put tm d (.sl (base + i) (as.length * sz) 0 as.length sz)) (hput H (base + i) (cellE enc as)) (fun rs t k => Q (((.sl (base + i) (as.length * sz) 0 as.length sz, some (base + i, cellE enc as)), rds (evo GL tm) (.call f args)) :: rs) t k)) : AW P GL base i l tm H Q := by
  have e : ((as.flatMap enc).map V.d).length = as.length * sz := by rw [List.length_map, flat_len hsz]
  have hb : boxLt 0 (cellE enc as) = true := boxLt_cell 0 enc as
  refine AW.own (cs := (as.flatMap enc).map .d) (n := as.length) (sz := sz) ?_ (by rw [Bool.and_eq_true]; exact ⟨hr, hb⟩) ho hg ha ?_
  · rw [e]; exact h
  · rw [e]; exact hq
end
end Fw
