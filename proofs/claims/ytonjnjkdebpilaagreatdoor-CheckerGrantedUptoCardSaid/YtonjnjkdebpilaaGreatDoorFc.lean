/-
  Code of the abstract machine: what holds of every code that is compiled to it, in every world that fits the state.
-/
import Derived.Test.YtonjnjkdebpilaaGreatDoorFb
import Derived.RangeFuncLeaves
import Derived.OrdersIn
import Derived.RangeFuncRecord

set_option linter.unusedSimpArgs false
namespace Fw
open Go
inductive Ex where
  | normal
  | exit (id : Nat)
  | ret
def postC (GL : GLT) (g0 : G) (w0 : World) (Q : Ex → St → Prop) (e : Exit) (a : Act) (w : World) : Prop :=
  ∃ g σ, R GL g w a σ ∧ Ext g0 w0 g w ∧ match e with
    | .normal => Q .normal σ
    | .exit id => Q (.exit id) σ
    | .ret => Q .ret σ
    | _ => False
def FR : Option Nat → Fence
  | none => Fence.wide
  | some l => Fence.wide.inRound l
theorem FR_round (ro : Option Nat) : (FR ro).round = ro := by cases ro <;> rfl
theorem FR_fn (ro : Option Nat) (f : FuncId) : (FR ro).fn f := by cases ro <;> exact trivial
theorem FR_calls {ro : Option Nat} {n : Nat} {P : Program} {f : FuncId} {args : Array Value} {w : World} {R : Ending → World → Prop} (h : Calls P f args w R) : CallsIn (FR ro) n P f args w R := by
  cases ro
  · exact callsIn_wide.2 h
  · exact (callsIn_wide (n := n)).2 h
theorem FR_depth {ro : Option Nat} {p : Prop} (h : (FR ro).depth.isSome = true) : p := by cases ro <;> cases h
def rfree : IR → Bool
  | .seq a b => rfree a && rfree b
  | .cond _ a b => rfree a && rfree b
  | .block _ b => rfree b
  | .loop b => rfree b
  | .rangef _ _ _ _ => false
  | _ => true
def WC (P : Program) (GL : GLT) (c : IR) (σ : St) (Q : Ex → St → Prop) : Prop :=
  ∀ code, compCode P code = some c → ∀ ro, rfree c = true ∨ ro = none → ∀ g w a, R GL g w a σ → code.wpIn (FR ro) 0 P (postC GL g w Q) a w
def callable (P : Program) (f : FuncId) : Bool :=
  match P.funcs[f]? with
  | some fn => fn.body.isSome && !(fn.name == "runtime.NumGoroutine")
  | none => false
def WF (P : Program) (GL : GLT) (f : FuncId) (args : List V) (H : Heap) (Q : V → Heap → Prop) : Prop :=
  callable P f = true ∧ ∀ g w (vs : Array Value), RVs g w args vs.toList → HeapOK g w H → Globs GL g w →
    Calls P f vs w fun e w' => ∃ x v g' H', e = .returned x ∧ Q v H' ∧ RV g' w' v x ∧ HeapOK g' w' H' ∧ Ext g w g' w'
def WO (P : Program) (GL : GLT) (l : List IOper) (σ : St) (Q : St → Prop) : Prop :=
  ∀ (ro : Option Nat) (ops : Array Oper) (k : Nat), compOps P ops.toList false (ops.toList.drop k) = some l → ∀ g w a, R GL g w a σ →
    wpOpsIn (FR ro) 0 P ops (postC GL g w fun e σ' => match e with | .normal => Q σ' | _ => False) (List.range' k (ops.size - k)) a w
theorem postC.ext {GL : GLT} {g g' : G} {w w' : World} {Q : Ex → St → Prop} (h : Ext g w g' w') (e : Exit) (a : Act) (v : World) (hp : postC GL g' w' Q e a v) : postC GL g w Q e a v := by
  obtain ⟨g2, σ, h1, h2, h3⟩ := hp
  exact ⟨g2, σ, h1, h.trans h2, h3⟩
theorem postC.mono {GL : GLT} {g : G} {w : World} {Q Q' : Ex → St → Prop} (h : ∀ e σ, Q e σ → Q' e σ) (e : Exit) (a : Act) (v : World) (hp : postC GL g w Q e a v) : postC GL g w Q' e a v := by
  obtain ⟨g2, σ, h1, h2, h3⟩ := hp
  refine ⟨g2, σ, h1, h2, ?_⟩
  grind
abbrev OW (ro : Option Nat) (P : Program) (o : Oper) (a : Act) (w : World) (K : Act → World → Prop) (Q : Exit → Act → World → Prop) : Prop := o.wpIn (FR ro) 0 P a w K Q
section
variable {P : Program} {GL : GLT} {ro : Option Nat}
theorem comp_not_defer {op : Op} {io : IOp} (h : compOp P op = some io) : ∀ c, op ≠ .defer c := by
  rintro c rfl
  simp [compOp] at h
theorem OW.of {o : Oper} {a : Act} {w w' : World} {K : Act → World → Prop} {Q : Exit → Act → World → Prop} {nx : Next} (hd : ∀ c, o.op ≠ .defer c) (h : (execOp a.eval o).run P w = .ok nx w') (hk : o.uponIn (FR ro) 0 P a K Q (.ok nx w')) : OW ro P o a w K Q := by
  refine ⟨fun f _ => FR_fn ro f, ?_⟩
  rw [FR_round, Oper.semAt_eq ro _ o hd, h]
  exact hk
theorem uponIn_monoQ {F : Fence} {n : Nat} {o : Oper} {a : Act} {K : Act → World → Prop} {Q Q' : Exit → Act → World → Prop} (h : ∀ e a w, Q e a w → Q' e a w) {r : Result Next} (hh : o.uponIn F n P a K Q r) : o.uponIn F n P a K Q' r := by
  cases r with
  | ok nx w' =>
    cases nx <;> simp only [Oper.uponIn] at hh ⊢ <;>
      first
        | exact hh
        | exact ⟨hh.1, CallsIn.mono hh.2 (fun e w'' he => by
            cases e with
            | returned v => exact he
            | panicked c => exact h _ _ _ he
            | outgrown => obtain ⟨a0, w0, hq⟩ := he; exact ⟨a0, w0, h _ _ _ hq⟩)⟩
        | exact ⟨hh.1, RoundIn.mono hh.2 (fun e w'' he => by
            cases e with
            | returned v => exact he
            | panicked c => exact h _ _ _ he
            | outgrown => obtain ⟨a0, w0, hq⟩ := he; exact ⟨a0, w0, h _ _ _ hq⟩)⟩
  | halt x w' => cases x <;> simp only [Oper.uponIn] at hh ⊢ <;> exact h _ _ _ hh
theorem wpOps_monoQ {ops : Array Oper} {Q Q' : Exit → Act → World → Prop} (h : ∀ e a w, Q e a w → Q' e a w) : ∀ (l : List Nat) (a : Act) (w : World), wpOpsIn (FR ro) 0 P ops Q l a w → wpOpsIn (FR ro) 0 P ops Q' l a w
  | [], a, w, hh => h _ _ _ hh
  | i :: rest, a, w, hh => by
    simp only [wpOpsIn] at hh ⊢
    split
    · rename_i hn
      simp only [hn] at hh
      exact wpOps_monoQ h rest a w hh
    · rename_i o ho
      simp only [ho] at hh
      split
      · rename_i hw
        simp only [hw, if_true] at hh
        exact Oper.wpIn_mono (fun a w => wpOps_monoQ h rest a w) ⟨hh.1, uponIn_monoQ h hh.2⟩
      · rename_i hw
        simp only [hw] at hh
        exact ⟨hh.1, wpOps_monoQ h rest _ w hh.2⟩
theorem WC.mono {c : IR} {σ : St} {Q Q' : Ex → St → Prop} (h : WC P GL c σ Q) (hq : ∀ e σ, Q e σ → Q' e σ) : WC P GL c σ Q' :=
  fun code hc ro hro g w a hr => wpIn_mono (h code hc ro hro g w a hr) (fun e a' w' hp => postC.mono hq e a' w' hp)
theorem WF.mono {f : FuncId} {args : List V} {H : Heap} {Q Q' : V → Heap → Prop} (h : WF P GL f args H Q) (hq : ∀ v H', Q v H' → Q' v H') : WF P GL f args H Q' :=
  ⟨h.1, fun g w vs h1 h2 h3 => (h.2 g w vs h1 h2 h3).mono fun _ _ ⟨x, v, g', H', e1, e2, e3⟩ => ⟨x, v, g', H', e1, hq _ _ e2, e3⟩⟩
theorem WC.skip {σ : St} {Q : Ex → St → Prop} (h : Q .normal σ) : WC P GL .skip σ Q := by
  intro code hc ro hro g w a hr
  have : code = .skip := by
    cases code <;> simp [compCode] at hc
    all_goals grind
  subst this
  exact wpIn_skip ⟨g, σ, hr, Ext.refl _ _, h⟩
theorem comp_seq {code : Code} {a b : IR} (hc : compCode P code = some (.seq a b)) : ∃ x y, code = .seq x y ∧ compCode P x = some a ∧ compCode P y = some b := by
  cases code with
  | seq x y =>
    grind[compCode,Option.some.injEq,IR.seq.injEq]
  | region => grind[compCode]
  | cond => grind[compCode]
  | _ => simp [compCode] at hc
theorem WC.seq {a b : IR} {σ : St} {Q : Ex → St → Prop} (h : WC P GL a σ (fun e σ' => match e with | .normal => WC P GL b σ' Q | e => Q e σ')) : WC P GL (.seq a b) σ Q := by
  intro code hc ro hro g w act hr
  obtain ⟨x, y, rfl, hx, hy⟩ := comp_seq hc
  have hra : rfree a = true ∨ ro = none := hro.imp (fun h => by simp only [rfree, Bool.and_eq_true] at h; exact h.1) id
  have hrb : rfree b = true ∨ ro = none := hro.imp (fun h => by simp only [rfree, Bool.and_eq_true] at h; exact h.2) id
  refine wpIn_seq (wpIn_mono (h x hx ro hra g w act hr) fun e a' w' hp => ?_)
  obtain ⟨g2, σ2, h1, h2, h3⟩ := hp
  cases e with
  | normal => exact wpIn_mono (h3 y hy ro hrb g2 w' a' h1) (postC.ext h2)
  | exit id => exact ⟨g2, σ2, h1, h2, h3⟩
  | ret => exact ⟨g2, σ2, h1, h2, h3⟩
  | goto l => grind
  | panic c => grind
  | outgrown => grind
theorem comp_cond {code : Code} {c : Opd} {a b : IR} (hc : compCode P code = some (.cond c a b)) : ∃ o x y, code = .cond o x y ∧ compOpd o = some c ∧ compCode P x = some a ∧ compCode P y = some b := by
  cases code with
  | cond o x y =>
    grind[compCode,Option.some.injEq,IR.cond.injEq]
  | region => grind[compCode]
  | seq => grind[compCode]
  | _ => simp [compCode] at hc
theorem WC.cond {c : Opd} {a b : IR} {σ : St} {t : Bool} {Q : Ex → St → Prop} (ht : evo GL σ.tm c = .d (.bool t)) (h : WC P GL (bif t then a else b) σ Q) : WC P GL (.cond c a b) σ Q := by
  intro code hc ro hro g w act hr
  obtain ⟨o, x, y, rfl, ho, hx, hy⟩ := comp_cond hc
  have hv := hr.ev _ _ ho
  rw [ht] at hv
  cases t with
  | true => exact wpIn_cond (RV.bool hv) (h x hx ro (hro.imp (fun h => by simp only [rfree, Bool.and_eq_true] at h; exact h.1) id) g w act hr)
  | false => exact wpIn_cond (RV.bool hv) (h y hy ro (hro.imp (fun h => by simp only [rfree, Bool.and_eq_true] at h; exact h.2) id) g w act hr)
theorem comp_block {code : Code} {id : Nat} {b : IR} (hc : compCode P code = some (.block id b)) : ∃ x, code = .block id x ∧ compCode P x = some b := by
  cases code<;>grind[compCode,Option.map_eq_some_iff,IR.block.injEq]
theorem WC.block {id : Nat} {b : IR} {σ : St} {Q : Ex → St → Prop} (h : WC P GL b σ (fun e σ' => match e with | .exit i => if i = id then Q .normal σ' else Q (.exit i) σ' | e => Q e σ')) : WC P GL (.block id b) σ Q := by
  intro code hc ro hro g w act hr
  obtain ⟨x, rfl, hx⟩ := comp_block hc
  refine wpIn_block (wpIn_mono (h x hx ro hro g w act hr) fun e a' w' hp => ?_)
  obtain ⟨g2, σ2, h1, h2, h3⟩ := hp
  cases e with
  | normal => exact ⟨g2, σ2, h1, h2, h3⟩
  | exit i =>
    simp only [Exit.inBlock]
    by_cases hi : i = id
    · simp only [hi, if_true] at h3 ⊢; exact ⟨g2, σ2, h1, h2, h3⟩
    · simp only [hi, if_false] at h3 ⊢; exact ⟨g2, σ2, h1, h2, h3⟩
  | ret => exact ⟨g2, σ2, h1, h2, h3⟩
  | goto l => grind
  | panic c => grind
  | outgrown => grind
theorem WC.exit {id : Nat} {σ : St} {Q : Ex → St → Prop} (h : Q (.exit id) σ) : WC P GL (.exit id) σ Q := by
  intro code hc ro hro g w act hr
  cases code with
  | exit i =>
    simp only [compCode, Option.some.injEq, IR.exit.injEq] at hc
    subst hc
    exact wpIn_exit ⟨g, σ, hr, Ext.refl _ _, h⟩
  | region => grind[compCode]
  | seq => grind[compCode]
  | cond => grind[compCode]
  | _ => simp [compCode] at hc
theorem WC.ret {σ : St} {Q : Ex → St → Prop} (h : Q .ret σ) : WC P GL .ret σ Q := by
  intro code hc ro hro g w act hr
  cases code with
  | ret => exact wpIn_ret ⟨g, σ, hr, Ext.refl _ _, h⟩
  | region => grind[compCode]
  | seq => grind[compCode]
  | cond => grind[compCode]
  | _ => simp [compCode] at hc
theorem comp_loop {code : Code} {b : IR} (hc : compCode P code = some (.loop b)) : ∃ x, code = .loop x ∧ compCode P x = some b := by
  cases code<;>grind[compCode,Option.map_eq_some_iff,IR.loop.injEq]
theorem least {p : Nat → Prop} (h : ∃ n, p n) : ∃ n, p n ∧ ∀ m, p m → n ≤ m := by
  obtain ⟨n, hn⟩ := h
  induction n using Nat.strongRecOn<;>grind
open Classical in
noncomputable def leastOf (p : Nat → Prop) : Nat := if h : ∃ n, p n then choose (least h) else 0
theorem leastOf_spec {p : Nat → Prop} (h : ∃ n, p n) : p (leastOf p) ∧ ∀ m, p m → leastOf p ≤ m := by
  unfold leastOf
  grind
theorem WC.loop {b : IR} {Q : Ex → St → Prop} (I : Nat → St → Prop) (h : ∀ n σ, I n σ → WC P GL b σ (fun e σ' => match e with | .normal => ∃ m, m < n ∧ I m σ' | e => Q e σ')) {n : Nat} {σ : St} (h0 : I n σ) : WC P GL (.loop b) σ Q := by
  intro code hc ro hro g w act hr
  obtain ⟨x, rfl, hx⟩ := comp_loop hc
  let J : Act → World → Nat → Prop := fun a' w' n => ∃ g' σ', I n σ' ∧ R GL g' w' a' σ' ∧ Ext g w g' w'
  refine wpIn_loop (fun a' w' => ∃ n, J a' w' n) (fun a' w' => leastOf (J a' w')) ⟨n, g, σ, h0, hr, Ext.refl _ _⟩ ?_
  intro a' w' hJ
  obtain ⟨⟨g1, σ1, i1, r1, e1⟩, hmin⟩ := leastOf_spec hJ
  refine wpIn_mono (h _ σ1 i1 x hx ro hro g1 w' a' r1) fun e a2 w2 hp => ?_
  obtain ⟨g2, σ2, r2, e2, h3⟩ := hp
  cases e with
  | normal =>
    obtain ⟨m, hm, im⟩ := h3
    have hJ2 : ∃ n, J a2 w2 n := ⟨m, g2, σ2, im, r2, e1.trans e2⟩
    exact ⟨hJ2, Nat.lt_of_le_of_lt ((leastOf_spec hJ2).2 m ⟨g2, σ2, im, r2, e1.trans e2⟩) hm⟩
  | exit i => exact ⟨g2, σ2, r2, e1.trans e2, h3⟩
  | ret => exact ⟨g2, σ2, r2, e1.trans e2, h3⟩
  | goto l => grind
  | panic c => grind
  | outgrown => grind
def St.put (σ : St) (dst : Option Nat) (v : V) (H : Heap) : Option St :=
  match dst with
  | none => some ⟨σ.n, σ.tm, H⟩
  | some d => bif Nat.blt d σ.n then some ⟨σ.n, Fw.put σ.tm d v, H⟩ else none
def guardB (gd : Option (Nat × Bool)) (tm : List (Nat × V)) : Option Bool :=
  match gd with
  | none => some true
  | some (d, want) => match get tm d with
    | .d (.bool b) => some (b == want)
    | .tuple [] => some false
    | _ => none
theorem R.stput {g g' : G} {w w' : World} {a : Act} {σ σ' : St} {H' : Heap} {dst : Option Nat} {v : V} {x : Value} (h : R GL g w a σ) (e : Ext g w g' w') (hh : HeapOK g' w' H') (hp : σ.put dst v H' = some σ') (hv : RV g' w' v x) :
    R GL g' w' (a.put dst x) σ' := by
  cases dst with
  | none =>
    simp only [St.put, Option.some.injEq] at hp; subst hp
    exact h.put_none e hh x
  | some d =>
    simp only [St.put] at hp
    cases hb : Nat.blt d σ.n with
    | false => grind
    | true =>
      rw [hb] at hp
      simp at hp; subst hp
      exact h.put e hh d v x (by simp_all) hv
theorem wanted_of {ops : Array Oper} {o : Oper} {gd : Option (Nat × Bool)} {g : G} {w : World} {a : Act} {σ : St} {b : Bool} (h : R GL g w a σ) (hg : compGuard ops.toList o = some gd) (hb : guardB gd σ.tm = some b) : Region.wanted o (yielded ops a.tmps) = b := by
  unfold compGuard at hg
  unfold Region.wanted
  cases ho : o.guard with
  | none =>
    grind[Option.some.injEq,guardB]
  | some p =>
    obtain ⟨j, want⟩ := p
    simp only [ho] at hg
    split at hg
    · rename_i d hd
      simp at hg; subst hg
      simp only [guardB] at hb
      split at hb
      · rename_i t ht
        simp at hb
        have hv := h.tmps d
        rw [ht] at hv
        have hv := RV.bool hv
        have : yielded ops a.tmps j = some t := by
          unfold yielded
          have e : ops[j]? = ops.toList[j]? := by simp
          rw [e, hd]
          simp
          rw [Array.getD_eq_getD_getElem?] at hv
          grind[undef]
        simp_all
      · rename_i ht
        simp at hb
        have hv := h.tmps d
        rw [ht] at hv
        simp only [RV] at hv
        obtain ⟨x, hx, hxs⟩ := hv
        have : yielded ops a.tmps j = none := by
          unfold yielded
          have e : ops[j]? = ops.toList[j]? := by simp
          rw [e, hd]
          simp
          rw [Array.getD_eq_getD_getElem?] at hx
          grind
        grind
      · cases hb
    · cases hg
theorem WO.nil {σ : St} {Q : St → Prop} (h : Q σ) : WO P GL [] σ Q := by
  intro ro ops k hc g w a hr
  have hk : ops.size - k = 0 := by
    have := mapO_length hc
    grind
  rw [hk]
  exact ⟨g, σ, hr, Ext.refl _ _, h⟩
theorem WO.step {o : IOper} {l : List IOper} {σ : St} {Q : St → Prop}
    (h : ∀ {ro : Option Nat} (o' : Oper) (ops : Array Oper), (compOp P o'.op).getD .bad = o.op → compGuard ops.toList o' = some o.guard → o'.dst = o.dst → ∀ g w a, R GL g w a σ →
      ∀ (K : Act → World → Prop) (Q' : Exit → Act → World → Prop), (∀ g' w' a' σ', R GL g' w' a' σ' → Ext g w g' w' → WO P GL l σ' Q → K a' w') →
        if Region.wanted o' (yielded ops a.tmps) then OW ro P o' a w K Q' else K (a.put o'.dst undef) w) : WO P GL (o :: l) σ Q := by
  intro ro ops k hc g w a hr
  have hl := mapO_length hc
  simp at hl
  have hk : k < ops.size := by omega
  have hdrop : ops.toList.drop k = ops[k] :: ops.toList.drop (k + 1) := by
    rw [List.drop_eq_getElem_cons (by grind)]; simp
  rw [hdrop] at hc
  simp only [compOps, mapO] at hc
  split at hc
  · cases hc
  · rename_i io hio
    split at hc
    · cases hc
    · rename_i l' hl'
      simp at hc
      obtain ⟨rfl, rfl⟩ := hc
      simp only [compOper] at hio
      split at hio
      · rename_i gd hgd
        have hop : (compOp P ops[k].op).getD .bad = (compOp P ops[k].op).getD .bad := rfl
        simp at hio
        subst hio
        rw [show ops.size - k = (ops.size - (k + 1)) + 1 by omega, List.range'_succ, wpOpsIn_cons]
        unfold wpOpIn
        have hok : ops[k]? = some ops[k] := Array.getElem?_eq_getElem hk
        simp only [hok]
        have key := h (ro := ro) ops[k] ops hop hgd rfl g w a hr (wpOpsIn (FR ro) 0 P ops (postC GL g w fun e σ' => match e with | .normal => Q σ' | _ => False) (List.range' (k + 1) (ops.size - (k + 1)))) (postC GL g w fun e σ' => match e with | .normal => Q σ' | _ => False) (by
          intro g' w' a' σ' hr' he hwo
          have := hwo ro ops (k + 1) hl' g' w' a' hr'
          have hmono : ∀ (l : List Nat) (a : Act) (v : World), wpOpsIn (FR ro) 0 P ops (postC GL g' w' fun e σ' => match e with | .normal => Q σ' | _ => False) l a v → wpOpsIn (FR ro) 0 P ops (postC GL g w fun e σ' => match e with | .normal => Q σ' | _ => False) l a v := by
            intro l a v hw
            exact wpOps_monoQ (postC.ext he) l a v hw
          exact hmono _ _ _ this)
        split at key
        · rename_i hw
          rw [if_pos hw]; exact key
        · rename_i hw
          rw [if_neg hw]; exact ⟨fun f _ => FR_fn ro f, key⟩
      grind
end
end Fw

/-
  Operations in a row: one that calls nothing, one that is passed over, calls; regions; a function from its body.
-/
namespace Fw
open Go
section
variable {P : Program} {GL : GLT}
theorem WO.eff {o : IOper} {l : List IOper} {σ σ' : St} {Q : St → Prop} {v : V} {wr : Wr} (hg : guardB o.guard σ.tm = some true) (he : eff (evo GL σ.tm) σ.hp σ.hp.length o.op = some (v, wr)) (hp : σ.put o.dst v (happ σ.hp wr) = some σ') (h : WO P GL l σ' Q) :
    WO P GL (o :: l) σ Q := by
  refine WO.step fun o' ops hop hgd hdst g w a hr K Q' hK => ?_
  rw [wanted_of hr hgd hg, if_pos rfl]
  obtain ⟨g', w', nx, h1, h2, h3, h4, _⟩ := eff_good (P := P) (a := a) (o := o') (comp_of hop (fun e => by rw [e] at he; cases he)) he hr.ev hr.heap hr.heap.fresh
  have hnd := comp_not_defer (comp_of hop (fun e => by rw [e] at he; cases he))
  rcases h2 with ⟨x, rfl, hx⟩ | ⟨rfl, rfl⟩
  · refine OW.of hnd h1 ?_
    simp only [Oper.uponIn]
    rw [hdst]
    exact hK g' w' _ σ' (hr.stput h4 h3 hp hx) h4 h
  · refine OW.of hnd h1 ?_
    simp only [Oper.uponIn]
    rw [hdst]
    exact hK g' w' _ σ' (hr.stput h4 h3 hp (by simp only [RV])) h4 h
theorem WO.skip {o : IOper} {l : List IOper} {σ σ' : St} {Q : St → Prop} (hg : guardB o.guard σ.tm = some false) (hp : σ.put o.dst (.tuple []) σ.hp = some σ') (h : WO P GL l σ' Q) : WO P GL (o :: l) σ Q := by
  refine WO.step fun o' ops hop hgd hdst g w a hr K Q' hK => ?_
  rw [wanted_of hr hgd hg, if_neg (by simp), hdst]
  exact hK g w _ σ' (hr.stput (Ext.refl _ _) hr.heap hp (by simp only [RV]; exact ⟨#[], rfl, by simp [RVs]⟩)) (Ext.refl _ _) h
theorem run_callFunc {f : FuncId} (h : callable P f = true) (args : Array Value) (w : World) : (callFunc f args).run P w = .ok (.enter f args) w := by
  unfold callable at h
  split at h
  · rename_i fn hf
    simp at h
    have h2 : ¬ fn.body = none := by grind
    simp_all[callFunc]
  · cases h
theorem comp_isCall {op : Op} {io : IOp} (h : compOp P op = some io) (hio : (∃ f l, io = .call f l) ∨ ∃ x l, io = .callv x l) : ∃ c, op = .call c ∧ compCall P c = some io := by
  cases op with
  | call c => grind[compOp]
  | makeFunc fn a b => exfalso; cases fn <;> (grind[compOp])
  | makeMap t r => exfalso; cases r <;> (grind[compOp])
  | slice t x lo hi mx => exfalso; cases mx <;> cases lo <;> cases hi <;> (simp only [compOp] at h; (repeat' split at h) <;> (rcases hio with ⟨f, l, rfl⟩ | ⟨x, l, rfl⟩ <;> simp at h))
  | _ => exfalso; simp only [compOp] at h; (repeat' split at h) <;> (rcases hio with ⟨f, l, rfl⟩ | ⟨x, l, rfl⟩ <;> simp at h)
theorem WO.callGen {o : IOper} {l : List IOper} {σ : St} {Q : St → Prop} {f : FuncId} {args : List V} (ho : o.op ≠ .bad) (hg : guardB o.guard σ.tm = some true)
    (hrun : ∀ (o' : Oper) (g : G) (w : World) (a : Act), (compOp P o'.op).getD .bad = o.op → R GL g w a σ → callable P f = true → ∃ vs : Array Value, RVs g w args vs.toList ∧ (execOp a.eval o').run P w = .ok (.enter f vs) w)
    (h : WF P GL f args σ.hp fun v H' => ∃ σ', σ.put o.dst v H' = some σ' ∧ WO P GL l σ' Q) : WO P GL (o :: l) σ Q := by
  refine WO.step fun o' ops hop hgd hdst g w a hr K Q' hK => ?_
  rw [wanted_of hr hgd hg, if_pos rfl]
  obtain ⟨vs, hvs, hex⟩ := hrun o' g w a hop hr h.1
  have hnd := comp_not_defer (comp_of hop ho)
  refine OW.of hnd hex ?_
  simp only [Oper.uponIn]
  refine ⟨fun h => FR_depth h, FR_calls ((h.2 g w vs hvs hr.heap hr.globs).mono ?_)⟩
  rintro e w' ⟨x, v, g', H', rfl, ⟨σ', hput, hwo⟩, hx, hh, he⟩
  simp only
  rw [hdst]
  exact hK g' w' _ σ' (hr.stput he hh hput hx) he hwo
theorem WO.call {o : IOper} {l : List IOper} {σ : St} {Q : St → Prop} {f : FuncId} {args : List Opd} (ho : o.op = .call f args) (hg : guardB o.guard σ.tm = some true)
    (h : WF P GL f (mlist (evo GL σ.tm) args) σ.hp fun v H' => ∃ σ', σ.put o.dst v H' = some σ' ∧ WO P GL l σ' Q) : WO P GL (o :: l) σ Q := by
  refine WO.callGen (by rw [ho]; simp) hg (fun o' g w a hop hr hca => ?_) h
  rw [ho] at hop
  obtain ⟨c, hc, hcc⟩ := comp_isCall (comp_of hop (by simp)) (.inl ⟨f, args, rfl⟩)
  have hcal : c.callee = .value (.func f) ∧ mapO compOpd c.args.toList = some args := by
    unfold compCall at hcc
    grind[Option.map_eq_some_iff,IOp.call.injEq]
  refine ⟨c.args.map a.eval, by simpa using mapOpds hr.ev hcal.2, ?_⟩
  have := run_callFunc hca (c.args.map a.eval) w
  simp_all[execOp,resolve,Act.eval,Deferred.ofValue,invoke]
theorem WO.callv {o : IOper} {l : List IOper} {σ : St} {Q : St → Prop} {f : FuncId} {x : Opd} {first cap : List V} {args : List Opd} (ho : o.op = .callv x args) (hx : evo GL σ.tm x = .func f first cap) (hg : guardB o.guard σ.tm = some true)
    (h : WF P GL f (first ++ mlist (evo GL σ.tm) args ++ cap) σ.hp fun v H' => ∃ σ', σ.put o.dst v H' = some σ' ∧ WO P GL l σ' Q) : WO P GL (o :: l) σ Q := by
  refine WO.callGen (by rw [ho]; simp) hg (fun o' g w a hop hr hca => ?_) h
  rw [ho] at hop
  obtain ⟨c, hc, hcc⟩ := comp_isCall (comp_of hop (by simp)) (.inr ⟨x, args, rfl⟩)
  have hcal : ∃ t, c.callee = .value (.tmp t) ∧ x = .t t ∧ mapO compOpd c.args.toList = some args := by
    unfold compCall at hcc
    grind[Option.map_eq_some_iff,IOp.callv.injEq]
  obtain ⟨t, ht, rfl, hargs⟩ := hcal
  have hv := hr.ev (.tmp t) (.t t) rfl
  rw [hx] at hv
  simp only [RV] at hv
  obtain ⟨p, q, e1, e2, e3⟩ := hv
  refine ⟨p ++ c.args.map a.eval ++ q, ?_, ?_⟩
  · simp only [Array.toList_append, Array.toList_map]
    exact RVs.append (RVs.append e2 (mapOpds hr.ev hargs)) e3
  · have := run_callFunc hca (p ++ c.args.map a.eval ++ q) w
    grind[Array.append_assoc,execOp,resolve,Deferred.ofValue,invoke]
theorem WC.region {l : List IOper} {σ : St} {Q : Ex → St → Prop} (h : WO P GL l σ fun σ' => Q .normal σ') : WC P GL (.region l) σ Q := by
  intro code hc ro hro g w act hr
  cases code with
  | region id ops draw =>
    simp only [compCode] at hc
    split at hc
    · rename_i l' hl'
      cases draw with
      | true => simp at hc
      | false =>
        simp at hc
        subst hc
        refine wpIn_region ?_
        have := h ro ops 0 (by grind) g w act hr
        rw [List.range_eq_range']
        simp at this
        exact wpOps_monoQ (fun e a v hp => by
          obtain ⟨g2, σ2, h1, h2, h3⟩ := hp
          cases e <;> first | exact ⟨g2, σ2, h1, h2, h3⟩ | grind) _ _ _ this
    · cases hc
  | seq => grind[compCode]
  | cond => grind[compCode]
  | _ => simp [compCode] at hc
def mkTm : Nat → List V → List (Nat × V)
  | _, [] => []
  | n, v :: vs => (n, v) :: mkTm (n + 1) vs
theorem get_mkTm (vs : List V) (n t : Nat) : get (mkTm n vs) t = if t < n then .any else (vs[t - n]?).getD .any := by
  induction vs generalizing n with
  | nil => simp [mkTm, get]
  | cons v vs ih =>
    simp only [mkTm, get]
    by_cases h : n = t
    · subst h; simp
    · rw [beq_ff h, cond_false, ih]
      grind
def resOne (σ : St) : IRes → Option V
  | .t n => some (get σ.tm n)
  | .cell n size agg => match loadC σ.hp size (get σ.tm n) with
    | some cs => mkV agg cs
    | none => none
def resV (rs : List IRes) (σ : St) : Option V :=
  match mapO (resOne σ) rs with
  | some [v] => some v
  | some vs => some (.tuple vs)
  | none => none
def resSem (a : Act) : ResultVar → Sem Value
  | .tmp t => pure (a.tmps.getD t undef)
  | .cell b t => do loadVar t (← asAddr (a.tmps.getD b undef))
theorem resOne_ok {g : G} {w : World} {a : Act} {σ : St} {r : ResultVar} {r' : IRes} {v : V} (h : R GL g w a σ) (hc : compRes P r = some r') (hv : resOne σ r' = some v) :
    ∃ x, (resSem a r).run P w = .ok x w ∧ RV g w v x := by
  cases r with
  | tmp t =>
    simp only [compRes, Option.some.injEq] at hc; subst hc
    simp only [resOne, Option.some.injEq] at hv; subst hv
    exact ⟨_, rfl, h.tmps t⟩
  | cell b t =>
    simp only [compRes] at hc
    split at hc
    · rename_i n ag hn hag
      split at hc
      · simp at hc; subst hc
        simp only [resOne] at hv
        split at hv
        · rename_i cs hcs
          obtain ⟨blk, off, vs, e1, e2, e3, e4⟩ := loadC_ok hcs (h.tmps b) h.heap
          obtain ⟨h3, h4⟩ := mkV_RV hv e3
          refine ⟨_, ?_, h3⟩
          simp only [resSem, Sem.run_bind, e1, asAddr, Sem.run_pure, Result.andThen_ok]
          exact run_loadVar_ok hn hag e2 h4 e4
        · cases hv
      · cases hc
    · cases hc
theorem results_ok {g : G} {w : World} {a : Act} {σ : St} {fn : Func} {rs : List IRes} {v : V} (h : R GL g w a σ) (hc : mapO (compRes P) fn.results.toList = some rs) (hv : resV rs σ = some v) :
    ∃ x, (results fn a.tmps).run P w = .ok x w ∧ RV g w v x := by
  have key : ∀ (l : List ResultVar) (rs : List IRes) (vs : List V), mapO (compRes P) l = some rs → mapO (resOne σ) rs = some vs →
      ∃ xs : List Value, (l.mapM (resSem a)).run P w = .ok xs w ∧ RVs g w vs xs := by
    intro l
    induction l with
    | nil =>
      simp_all[mapO,Option.some.injEq,RVs]
    | cons r l ih =>
      intro rs vs h1 h2
      simp only [mapO] at h1
      split at h1
      · cases h1
      · rename_i r' hr'
        split at h1
        · cases h1
        · rename_i rs' hrs'
          simp at h1; subst h1
          simp only [mapO] at h2
          split at h2
          · cases h2
          · rename_i v' hv'
            split at h2
            · cases h2
            · rename_i vs' hvs'
              simp at h2; subst h2
              obtain ⟨x, k1, k2⟩ := resOne_ok h hr' hv'
              obtain ⟨xs, k3, k4⟩ := ih _ _ hrs' hvs'
              simp_all[RVs,List.mapM_cons,Sem.run_bind,Result.andThen_ok]
  unfold resV at hv
  cases hm : mapO (resOne σ) rs with
  | none => grind
  | some vs =>
    obtain ⟨xs, k1, k2⟩ := key _ _ _ hc hm
    have hl := k2.length
    have hrun : (results fn a.tmps).run P w = .ok (if h : xs.toArray.size = 1 then xs.toArray[0] else .tuple xs.toArray) w := by
      have hres : results fn a.tmps = (do let vs ← fn.results.mapM (resSem a); pure (if h : vs.size = 1 then vs[0] else .tuple vs)) := by
        unfold results
        congr 1
      grind[Array.mapM_eq_mapM_toList,Sem.run_bind,Sem.run_map,Result.andThen_ok,Sem.run_pure]
    refine ⟨_, hrun, ?_⟩
    rw [hm] at hv
    cases vs with
    | nil =>
      grind[Option.some.injEq,RV]
    | cons v1 vs =>
      cases vs with
      | nil =>
        simp at hv; subst hv
        cases xs<;>grind[RVs]
      | cons v2 vs =>
        grind[Option.some.injEq,RV]
theorem cell_shut {w : World} {D : Nat} {x : Option (List Deferred)} (h : w.heap[D]? = some (.deferred x)) (a : Addr) : (w.putObj D (.deferred none)).cell? a = w.cell? a := by
  unfold World.cell?
  by_cases e : a.block = D
  · rw [e, World.putObj_heap_same (Array.getElem?_eq_some_iff.1 h).1, h]
  · rw [World.putObj_heap_other e]
mutual
theorem Rd.cells {w w' : World} {im : Nat → Prop} (h : ∀ a, w'.cell? a = w.cell? a) : ∀ (d : D) (v : Value), Rd w im d v → Rd w' im d v
  | .bool _, _, hd => by grind[Rd]
  | .int _ _, _, hd => by grind[Rd]
  | .str _, _, hd => by grind[Rd]
  | .list es, v, hd => by
    simp only [Rd] at hd ⊢
    rcases hd with hd | ⟨blk, off, cap, sz, h1, h2, h3, h4⟩
    · exact .inl hd
    · exact .inr ⟨blk, off, cap, sz, h1, h2, h3, RdE.cells h _ _ _ _ h4⟩
theorem RdE.cells {w w' : World} {im : Nat → Prop} (h : ∀ a, w'.cell? a = w.cell? a) : ∀ (blk off sz : Nat) (es : List (List D)), RdE w im blk off sz es → RdE w' im blk off sz es
  | _, _, _, [], _ => by simp only [RdE]
  | blk, off, sz, e :: es, hd => by
    simp only [RdE] at hd ⊢
    exact ⟨hd.1, RdC.cells h _ _ _ hd.2.1, RdE.cells h _ _ _ _ hd.2.2⟩
theorem RdC.cells {w w' : World} {im : Nat → Prop} (h : ∀ a, w'.cell? a = w.cell? a) : ∀ (blk off : Nat) (ds : List D), RdC w im blk off ds → RdC w' im blk off ds
  | _, _, [], _ => by simp only [RdC]
  | blk, off, d :: ds, hd => by
    simp only [RdC] at hd ⊢
    obtain ⟨⟨v, h1, h2⟩, h3⟩ := hd
    exact ⟨⟨v, by rw [h]; exact h1, Rd.cells h _ _ h2⟩, RdC.cells h _ _ _ h3⟩
end
mutual
theorem RV.cells {g : G} {w w' : World} (hs : w'.heap.size = w.heap.size) (h : ∀ a, w'.cell? a = w.cell? a) : ∀ (u : V) (v : Value), RV g w u v → RV g w' u v
  | .any, _, _ => by simp only [RV]
  | .d x, v, hv => by
    have e : imm g w' = imm g w := by funext k; simp only [imm, hs]
    simp only [RV, e] at hv ⊢; exact Rd.cells h _ _ hv
  | .full es, v, hv => by
    have e : imm g w' = imm g w := by funext k; simp only [imm, hs]
    simp only [RV, e] at hv ⊢; exact ⟨Rd.cells h _ _ hv.1, hv.2⟩
  | .nils, _, hv => by simpa only [RV] using hv
  | .ptr _ _ _, _, hv => by simpa only [RV] using hv
  | .nilp, _, hv => by simpa only [RV] using hv
  | .cptr cs, v, hv => by
    have e : imm g w' = imm g w := by funext k; simp only [imm, hs]
    simp only [RV, e] at hv ⊢
    obtain ⟨blk, off, h1, h2, h3⟩ := hv
    exact ⟨blk, off, h1, h2, RdC.cells h _ _ _ h3⟩
  | .sl _ _ _ _ _, _, hv => by simpa only [RV] using hv
  | .map _, _, hv => by simpa only [RV] using hv
  | .nilm, _, hv => by simpa only [RV] using hv
  | .func f a c, v, hv => by
    simp only [RV] at hv ⊢
    obtain ⟨x, y, h1, h2, h3⟩ := hv
    exact ⟨x, y, h1, RVs.cells hs h _ _ h2, RVs.cells hs h _ _ h3⟩
  | .nilf, _, hv => by simpa only [RV] using hv
  | .iface t u, v, hv => by
    simp only [RV] at hv ⊢
    obtain ⟨x, h1, h2⟩ := hv
    exact ⟨x, h1, RV.cells hs h _ _ h2⟩
  | .someIface, _, hv => by simpa only [RV] using hv
  | .nili, _, hv => by simpa only [RV] using hv
  | .agg cs, v, hv => by
    simp only [RV] at hv ⊢
    obtain ⟨x, h1, h2⟩ := hv
    exact ⟨x, h1, RVs.cells hs h _ _ h2⟩
  | .tuple vs, v, hv => by
    simp only [RV] at hv ⊢
    obtain ⟨x, h1, h2⟩ := hv
    exact ⟨x, h1, RVs.cells hs h _ _ h2⟩
  | .iter _ _, _, hv => by simpa only [RV] using hv
  | .yld _, _, hv => by simpa only [RV] using hv
theorem RVs.cells {g : G} {w w' : World} (hs : w'.heap.size = w.heap.size) (h : ∀ a, w'.cell? a = w.cell? a) : ∀ (us : List V) (vs : List Value), RVs g w us vs → RVs g w' us vs
  | [], [], _ => by simp only [RVs]
  | u :: us, v :: vs, hv => by
    simp only [RVs] at hv ⊢
    exact ⟨RV.cells hs h _ _ hv.1, RVs.cells hs h _ _ hv.2⟩
  | [], _ :: _, hv => by simp only [RVs] at hv
  | _ :: _, [], hv => by simp only [RVs] at hv
end
theorem RB.cells {g : G} {w w' : World} (hs : w'.heap.size = w.heap.size) (h : ∀ a, w'.cell? a = w.cell? a) {x : GB} {y : Box} (ho : ∀ k, x.own = some k → w'.heap[k]? = w.heap[k]?) (hr : RB g w x y) : RB g w' x y := by
  have e : imm g w' = imm g w := by funext k; simp only [imm, hs]
  cases x with
  | cells blk cp cur =>
    cases y with
    | cells cs =>
      simp only [RB] at hr ⊢
      obtain ⟨h1, h2, h3, c, e, h4, h5, h6⟩ := hr
      exact ⟨h1, h2, h3, c, e, by rw [ho blk rfl]; exact h4, h5, RVs.cells hs h _ _ h6⟩
    | _ => simp only [RB] at hr
  | nil => cases y <;> simp only [RB] at hr ⊢
  | obj blk =>
    cases y with
    | map es =>
      simp only [RB, e] at hr ⊢
      obtain ⟨ents, clock, h1, h2, h3, h4⟩ := hr
      refine ⟨ents, clock, by rw [ho blk rfl]; exact h1, h2, fun i k v hi => ?_, h4⟩
      obtain ⟨z, hz1, hz2, hz3, hz4⟩ := h3 i k v hi
      exact ⟨z, hz1, hz2, Rd.cells h _ _ hz3, RV.cells hs h _ _ hz4⟩
    | siter s pos =>
      simp only [RB] at hr ⊢
      rw [ho blk rfl]; exact hr
    | loop n tm ps ca cb st =>
      simp only [RB] at hr ⊢
      obtain ⟨r, h1, h2, h3, h4⟩ := hr
      exact ⟨r, by rw [ho blk rfl]; exact h1, h2, fun t => RV.cells hs h _ _ (h3 t), h4⟩
    | miter m n seen =>
      simp only [RB] at hr ⊢
      rw [ho blk rfl]; exact hr
    | _ => simp only [RB] at hr
theorem R.shut {g : G} {w : World} {a : Act} {σ : St} {d : Deferred} {ds : List Deferred} (h : R GL g w a σ) (hd : a.defers = d :: ds) (hb : GL.w0.heap.size ≤ g.base) :
    ∃ D w', d.target = .collected D ∧ (Instr.takeDeferred D).run P w = .ok [] w' ∧ R GL g w' { a with defers := ds } σ ∧
      ∀ g0 w0, Ext g0 w0 g w → w0.heap.size ≤ g.base → Ext g0 w0 g w' := by
  have hdf := h.defers
  rw [hd] at hdf
  obtain ⟨hbs, hnd, hall⟩ := hdf
  obtain ⟨D, rfl, hD1, hD2, hD3⟩ := hall d (by simp)
  have hlt : D < w.heap.size := hD2.1
  have hoth : ∀ k, k ≠ D → (w.putObj D (.deferred none)).heap[k]? = w.heap[k]? := fun k hk => World.putObj_heap_other hk
  have hcell := cell_shut hD3
  have hsz : (w.putObj D (.deferred none)).heap.size = w.heap.size := World.putObj_size
  have e : imm g (w.putObj D (.deferred none)) = imm g w := by funext k; simp only [imm, hsz]
  refine ⟨D, w.putObj D (.deferred none), rfl, run_takeDeferred hD3, ⟨⟨by rw [hsz]; exact hbs, (List.nodup_cons.1 hnd).2, fun d' hd' => ?_⟩, h.size, fun t => RV.cells hsz hcell _ _ (h.tmps t), ?_, ?_⟩, fun g0 w0 he hw => ?_⟩
  · obtain ⟨D', rfl, k1, k2, k3⟩ := hall d' (List.mem_cons_of_mem _ hd')
    refine ⟨D', rfl, k1, by rw [e]; exact k2, ?_⟩
    rw [hoth D' ?_]; exact k3
    rintro rfl
    exact (List.nodup_cons.1 hnd).1 hd'
  · have hh := h.heap
    refine ⟨hh.dom, fun b x hx => ?_, hh.back, hh.inj, fun k hk => ⟨by rw [hsz]; exact (hh.fo k hk).1, (hh.fo k hk).2⟩⟩
    obtain ⟨h1, y, h2, h3⟩ := hh.live b x hx
    exact ⟨h1, y, h2, RB.cells hsz hcell (fun k hk => hoth k (by rintro rfl; exact hD2.2.2 b x hx hk)) h3⟩
  · refine ⟨fun n cs hn => ?_, fun k hk => ?_⟩
    · rw [e]; exact ⟨(h.globs.rd n cs hn).1, RdC.cells hcell _ _ _ (h.globs.rd n cs hn).2⟩
    · rw [e]; exact ⟨(h.globs.w0 k hk).1, by rw [hoth k (by omega)]; exact (h.globs.w0 k hk).2⟩
  · have hh := h.heap
    refine ⟨he.os, he.tape, he.output, by rw [hsz]; exact he.size, fun k hk => ?_, he.dom, he.step, he.fo, he.base, fun k hk => ?_⟩
    · rw [e, hoth k (by have := hk.1; omega)]; exact he.keeps k hk
    · rw [hoth k ?_]; exact he.foreign k hk
      rintro rfl
      exact hD2.2.1 (by rw [he.fo]; exact hk)
theorem leaves_of {fn : Func} {g0 g : G} {w0 : World} {tmps : Array Value} {σ : St} {Rp : Ending → World → Prop} (hb : GL.w0.heap.size ≤ g.base) (hw : w0.heap.size ≤ g.base)
    (hres : ∀ w, R GL g w { tmps := tmps, defers := [] } σ → Ext g0 w0 g w → ∃ v, (results fn tmps).run P w = .ok v w ∧ Rp (.returned v) w) :
    ∀ (ds : List Deferred) (w : World), R GL g w { tmps := tmps, defers := ds } σ → Ext g0 w0 g w → LeavesInM Fence.wide 0 P fn tmps Rp ds .returning w
  | [], w, hr, he => hres w hr he
  | d :: ds, w, hr, he => by
    obtain ⟨D, w', h1, h2, h3, h4⟩ := R.shut (P := P) hr rfl hb
    exact ⟨by simp, .inl ⟨D, w', h1, h2, leaves_of hb hw hres ds w' h3 (h4 _ _ he hw)⟩⟩
theorem WF.body {f : FuncId} {fn : IFn} {args : List V} {H : Heap} {Q : V → Heap → Prop} (hf : compFn P f = some fn) (hca : callable P f = true) (hn : args.length ≤ fn.ntmps)
    (h : WC P GL fn.body ⟨fn.ntmps, mkTm 0 args, H⟩ (fun e σ => match e with | .exit _ => False | _ => ∃ v, resV fn.res σ = some v ∧ Q v σ.hp)) : WF P GL f args H Q := by
  refine ⟨hca, fun g w vs hvs hh hg => ?_⟩
  unfold compFn at hf
  split at hf
  · cases hf
  · rename_i fn' hfn
    split at hf
    · cases hf
    · rename_i c hbody
      split at hf
      · rename_i b r hb hr
        simp at hf; subst hf
        have hlen := hvs.length
        simp at hlen hn
        have hw0 : GL.w0.heap.size ≤ w.heap.size := by
          rcases Nat.eq_zero_or_pos GL.w0.heap.size with h0 | h0
          · omega
          · have := (hg.w0 (GL.w0.heap.size - 1) (by omega)).1.1; omega
        refine callsIn_wide.1 (callsIn_of_wp_marks (F := Fence.wide) (n := 0) hfn hbody trivial (wpIn_mono (h c hb none (.inr rfl) (g.rebase w.heap.size) w _ ?_) fun e a' w' hp => ?_))
        · refine ⟨Dfs.nil (Nat.le_refl _), by simp; omega, fun t => ?_, hh.rebase _, hg.rebase _⟩
          refine RV.ext0 (Ext0.rebase g w _) _ _ ?_
          simp only [get_mkTm, Nat.not_lt_zero, if_false, Nat.sub_zero]
          by_cases ht : t < args.length
          · have hg1 : args[t]? = some args[t] := List.getElem?_eq_getElem ht
            obtain ⟨x, hx1, hx2⟩ := hvs.get t hg1
            rw [hg1, Option.getD_some]
            have hx3 : vs[t]? = some x := by grind
            have hts : t < vs.size := by omega
            have : (vs ++ Array.replicate (fn'.ntmps - vs.size) undef).getD t undef = x := by
              rw [Array.getD_eq_getD_getElem?, Array.getElem?_append_left hts, hx3]; rfl
            grind
          grind[RV]
        · obtain ⟨g2, σ2, k1, k2, k3⟩ := hp
          have hb2 : g2.base = w.heap.size := k2.base
          have fin : (∃ v, resV r σ2 = some v ∧ Q v σ2.hp) → LeavesInM Fence.wide 0 P fn' a'.tmps (fun e w' => ∃ x v g' H', e = .returned x ∧ Q v H' ∧ RV g' w' v x ∧ HeapOK g' w' H' ∧ Ext g w g' w') a'.defers .returning w' := by
            rintro ⟨v, hv, hq⟩
            refine leaves_of (GL := GL) (g0 := g.rebase w.heap.size) (w0 := w) (g := g2) (σ := σ2) (by omega) (by omega) (fun w3 hr3 he3 => ?_) a'.defers w' k1 k2
            obtain ⟨x, hx1, hx2⟩ := results_ok (P := P) (fn := fn') (a := { tmps := a'.tmps, defers := [] }) hr3 hr hv
            exact ⟨x, hx1, x, v, g2.rebase g.base, σ2.hp, rfl, hq, RV.ext0 (Ext0.rebase g2 w3 _) _ _ hx2, hr3.heap.rebase _, he3.rebase g.base⟩
          cases e with
          | normal => exact fin k3
          | ret => exact fin k3
          | exit i => grind
          | goto l => grind
          | panic c => grind
          | outgrown => grind
      · cases hf
end
end Fw

/-
  A step of an iterator over a map: every entry that has not come yet may come next.
-/
namespace Fw
open Go
section
variable {P : Program} {GL : GLT}
def nextCands (ents : Array MapEntry) (sa : Array Nat) (n : Nat) : Array (Option MapEntry) :=
  let left := ents.filter fun e => !sa.contains e.born
  let old := left.filter (·.born < n)
  let new := left.filter (·.born ≥ n)
  (if old.isEmpty then #[none] else #[]) ++ (old ++ new).map some
theorem nextCands_spec {ents : Array MapEntry} {sa : Array Nat} (h : ∀ (i : Nat) (x : MapEntry), ents[i]? = some x → x.born = i) :
    (nextCands ents sa ents.size = #[none] ∧ ∀ i, i < ents.size → i ∈ sa.toList) ∨
    (0 < (nextCands ents sa ents.size).size ∧ ∀ (j : Nat) (c : Option MapEntry), (nextCands ents sa ents.size)[j]? = some c → ∃ i e, c = some e ∧ ents[i]? = some e ∧ e.born = i ∧ i ∉ sa.toList) := by
  have hb : ∀ e ∈ ents, e.born < ents.size ∧ ents[e.born]? = some e := by
    intro e he
    obtain ⟨i, hi, rfl⟩ := Array.mem_iff_getElem.1 he
    have := h i _ (Array.getElem?_eq_getElem hi)
    grind
  have hold : (ents.filter fun e => !sa.contains e.born).filter (·.born < ents.size) = ents.filter fun e => !sa.contains e.born := by
    apply Array.filter_eq_self.2
    grind
  have hnew : (ents.filter fun e => !sa.contains e.born).filter (·.born ≥ ents.size) = #[] := by
    apply Array.filter_eq_empty_iff.2
    grind
  unfold nextCands
  simp only [hold, hnew, Array.append_empty]
  cases hl : (ents.filter fun e => !sa.contains e.born).isEmpty with
  | true =>
    left
    have he := Array.isEmpty_iff.1 hl
    refine ⟨by grind, fun i hi => ?_⟩
    have := Array.filter_eq_empty_iff.1 he ents[i] (Array.getElem_mem hi)
    rw [h i _ (Array.getElem?_eq_getElem hi)] at this
    grind
  | false =>
    right
    have hne : (ents.filter fun e => !sa.contains e.born) ≠ #[] := fun he => by grind
    refine ⟨?_, fun j c hc => ?_⟩
    · grind
    · simp at hc
      obtain ⟨e, he, rfl⟩ := hc
      have hm := Array.mem_of_getElem? he
      grind
theorem comp_next {op : Op} {x : Opd} (h : compOp P op = some (.nextM x)) : ∃ it, op = .next it false ∧ compOpd it = some x := by
  cases op with
  | next it s =>
    grind[compOp,Option.map_eq_some_iff,IOp.nextM.injEq]
  | makeFunc fn a b => exfalso; cases fn <;> (grind[compOp])
  | makeMap t r => exfalso; cases r <;> (grind[compOp])
  | slice t x lo hi mx => exfalso; cases mx <;> cases lo <;> cases hi <;> (simp only [compOp] at h; (repeat' split at h) <;> simp at h)
  | call c => exfalso; simp only [compOp, compCall] at h; (repeat' split at h) <;> simp at h
  | _ => exfalso; simp only [compOp] at h; (repeat' split at h) <;> simp at h
theorem WO.nextM {o : IOper} {l : List IOper} {σ : St} {Q : St → Prop} {x : Opd} {b m n : Nat} {seen : List Nat} {es : List (D × V)} (ho : o.op = .nextM x) (hg : guardB o.guard σ.tm = some true)
    {m' : Nat} (hx : evo GL σ.tm x = .iter b m') (hb : hget σ.hp b = some (.miter m n seen)) (hm : hget σ.hp m = some (.map es)) (hn : es.length = n)
    (h1 : ∀ i k v, es[i]? = some (k, v) → i ∉ seen → ∃ σ', σ.put o.dst (.tuple [.d (.bool true), .d k, v]) (hput σ.hp b (.miter m n (seen ++ [i]))) = some σ' ∧ WO P GL l σ' Q)
    (h2 : (∀ i, i < n → i ∈ seen) → ∃ σ', σ.put o.dst (.tuple [.d (.bool false)]) σ.hp = some σ' ∧ WO P GL l σ' Q) : WO P GL (o :: l) σ Q := by
  refine WO.step fun o' ops hop hgd hdst g w a hr K Q' hK => ?_
  rw [wanted_of hr hgd hg, if_pos rfl]
  rw [ho] at hop
  obtain ⟨it, hc, hit⟩ := comp_next (comp_of hop (by simp))
  have hv := hr.ev _ _ hit
  rw [hx] at hv
  simp only [RV] at hv
  obtain ⟨xb, hxb⟩ := hr.heap.back b _ hb
  obtain ⟨_, y, hy, hrb⟩ := hr.heap.live b xb hxb
  rw [hb] at hy; simp at hy; subst hy
  obtain ⟨blk, rfl, hv2⟩ := hv.2 xb hxb
  simp only [RB] at hrb
  obtain ⟨mb, sa, k1, k2, k3, k4⟩ := hrb
  obtain ⟨xm, hxm⟩ := hr.heap.back m _ hm
  obtain ⟨_, y, hy, hrm⟩ := hr.heap.live m xm hxm
  rw [hm] at hy; simp at hy; subst hy
  obtain rfl := k4 xm hxm
  simp only [RB] at hrm
  obtain ⟨ents, clock, m1, m2, m3, m4, m5⟩ := hrm
  have hblk : blk < w.heap.size := (Array.getElem?_eq_some_iff.1 k1).1
  have hn2 : n = ents.size := by omega
  have hdead : (!sa.isEmpty && !ents.isEmpty && ents.all (·.born ≥ n)) = false := by
    cases he : ents.isEmpty with
    | true => simp
    | false =>
      have hpos : 0 < ents.size := by
        grind
      have : ents.all (·.born ≥ n) = false := by
        rw [Array.all_eq_false]
        refine ⟨0, hpos, ?_⟩
        have := m4 0 _ (Array.getElem?_eq_getElem hpos)
        grind
      simp [this]
  have hrun0 : ∀ r, (∀ q, q = Question.mapNext (nextCands ents sa n).size → (do
        match (nextCands ents sa n)[← choose q]? with
        | some (some e) =>
          setObj blk (.mapIter (some mb) n (sa.push e.born) clock)
          pure (.tuple #[.bool true, e.key, e.val])
        | some none => pure (.tuple #[.bool false])
        | none => stuck "Next: no such candidate" : Sem Value).run P w = r) → (Instr.next (a.eval it) false o'.type).run P w = r := by
    intro r h
    rw [← h _ rfl]
    simp only [Instr.next, hv2, Sem.run_bind, getObj, Sem.run, k1, m1, Result.andThen_ok, hdead, Bool.false_eq_true, if_false, nextCands]
    rfl
  have hrun : ∃ r, (Instr.next (a.eval it) false o'.type).run P w = r ∧
      ((∃ d i e, ents[i]? = some e ∧ e.born = i ∧ i ∉ sa.toList ∧ r = .ok (.tuple #[.bool true, e.key, e.val]) { w with drawn := d, heap := w.heap.setIfInBounds blk (.mapIter (some mb) n (sa.push i) n) }) ∨
       (∃ d, (∀ i, i < n → i ∈ sa.toList) ∧ r = .ok (.tuple #[.bool false]) { w with drawn := d })) := by
    refine ⟨_, hrun0 _ (fun q hq => by subst hq; rfl), ?_⟩
    have key : ∀ (t d : Nat), t < (nextCands ents sa n).size → ∀ r, r = ((match (nextCands ents sa n)[t]? with
        | some (some e) => do
          setObj blk (.mapIter (some mb) n (sa.push e.born) clock)
          pure (.tuple #[.bool true, e.key, e.val])
        | some none => pure (.tuple #[.bool false])
        | none => stuck "Next: no such candidate" : Sem Value).run P { w with drawn := d }) →
      ((∃ d i e, ents[i]? = some e ∧ e.born = i ∧ i ∉ sa.toList ∧ r = .ok (.tuple #[.bool true, e.key, e.val]) { w with drawn := d, heap := w.heap.setIfInBounds blk (.mapIter (some mb) n (sa.push i) n) }) ∨
       (∃ d, (∀ i, i < n → i ∈ sa.toList) ∧ r = .ok (.tuple #[.bool false]) { w with drawn := d })) := by
      intro t d ht r hr
      rw [hn2] at ht hr ⊢
      rcases nextCands_spec (sa := sa) m4 with ⟨e1, e2⟩ | ⟨e1, e2⟩
      · right
        refine ⟨d, e2, ?_⟩
        rw [e1] at ht hr
        obtain rfl : t = 0 := by grind
        rw [hr]
        simp
      · left
        obtain ⟨c, hc⟩ : ∃ c, (nextCands ents sa ents.size)[t]? = some c := ⟨_, Array.getElem?_eq_getElem ht⟩
        obtain ⟨i, e, rfl, f1, f2, f3⟩ := e2 t c hc
        refine ⟨d, i, e, f1, f2, f3, ?_⟩
        rw [hr, hc]
        have k1' : w.heap[blk]? = some (Obj.mapIter (some mb) ents.size sa ents.size) := by grind
        simp [setObj, Sem.run, f2, m5, k1', -Array.getElem?_eq_getElem]
    have hpos : 0 < (nextCands ents sa n).size := by
      rw [hn2]
      rcases nextCands_spec (sa := sa) m4 with ⟨e1, _⟩ | ⟨e1, _⟩
      all_goals grind
    simp only [choose, Sem.run_bind, Sem.run]
    by_cases hf : (Question.mapNext (nextCands ents sa n).size).forced = true
    · rw [if_pos hf]
      exact key 0 w.drawn hpos _ rfl
    · rw [if_neg hf]
      exact key _ _ (Nat.mod_lt _ hpos) _ rfl
  obtain ⟨r, hr1, hr2⟩ := hrun
  have hex : ∀ v w', r = .ok v w' → (execOp a.eval o').run P w = .ok (.value v) w' := by
    intro v w' e
    rw [e] at hr1
    simp [execOp, hc, hr1]
  have hnd : ∀ c, o'.op ≠ .defer c := by rw [hc]; simp
  rcases hr2 with ⟨d, i, e, f1, f2, f3, rfl⟩ | ⟨d, f1, rfl⟩
  · refine OW.of hnd (hex _ _ rfl) ?_
    simp only [Oper.uponIn]
    rw [hdst]
    obtain ⟨hi, _⟩ := Array.getElem?_eq_some_iff.1 f1
    have hil : i < es.length := by omega
    obtain ⟨z, z1, z2, z3, z4⟩ := m3 i (es[i]).1 (es[i]).2 (List.getElem?_eq_getElem hil)
    rw [f1] at z1; simp at z1; subst z1
    obtain ⟨σ', hp, hwo⟩ := h1 i (es[i]).1 (es[i]).2 (List.getElem?_eq_getElem hil) (by grind)
    have he : Ext g w g { w with drawn := d, heap := w.heap.setIfInBounds blk (.mapIter (some mb) n (sa.push i) n) } :=
      Ext.write hxb rfl (hr.heap.notFo hxb rfl) rfl rfl rfl (by simp) (fun j hj => by grind)
    have hh : HeapOK g { w with drawn := d, heap := w.heap.setIfInBounds blk (.mapIter (some mb) n (sa.push i) n) } (hput σ.hp b (.miter m n (seen ++ [i]))) := by
      refine HeapOK.write hr.heap _ hxb rfl he (fun j hj => by grind) ?_
      grind[RB]
    refine hK g _ _ σ' (hr.stput he hh hp ?_) he hwo
    simp only [RV]
    exact ⟨_, rfl, by simp; exact ⟨RV.mkB _, by simp only [RV]; exact Rd.keeps he.keeps _ _ z3, RV.ext he _ _ z4, trivial⟩⟩
  · refine OW.of hnd (hex _ _ rfl) ?_
    simp only [Oper.uponIn]
    rw [hdst]
    obtain ⟨σ', hp, hwo⟩ := h2 (by grind)
    have he : Ext g w g { w with drawn := d } := Ext.drawn g w d
    refine hK g _ _ σ' (hr.stput he (hr.heap.ext he (fun _ _ _ _ _ => rfl)) hp ?_) he hwo
    simp only [RV]
    exact ⟨_, rfl, by simp; exact ⟨RV.mkB _, trivial⟩⟩
end
end Fw

/-
  Freezing a box, as a rule.
-/
namespace Fw
open Go
section
variable {P : Program} {GL : GLT}
theorem WC.freeze {c : IR} {σ σ' : St} {Q : Ex → St → Prop} {b : Nat} (hc : frzSt b σ = some σ') (h : WC P GL c σ' Q) : WC P GL c σ Q := by
  intro code hcode ro hro g w a hr
  exact wpIn_mono (h code hcode ro hro _ w a (hr.frz hc)) (postC.ext (Ext.frz _ _ (Ext.refl _ _)))
theorem WO.freeze {l : List IOper} {σ σ' : St} {Q : St → Prop} {b : Nat} (hc : frzSt b σ = some σ') (h : WO P GL l σ' Q) : WO P GL l σ Q := by
  intro ro ops k hcode g w a hr
  exact wpOps_monoQ (postC.ext (Ext.frz _ _ (Ext.refl _ _))) _ _ _ (h ro ops k hcode _ w a (hr.frz hc))
theorem WO.effF {o : IOper} {l : List IOper} {σ σ' : St} {Q : St → Prop} {v : V} (hg : guardB o.guard σ.tm = some true) (he : effF (evo GL σ.tm) o.op = some v) (hp : σ.put o.dst v σ.hp = some σ') (h : WO P GL l σ' Q) :
    WO P GL (o :: l) σ Q := by
  refine WO.step fun o' ops hop hgd hdst g w a hr K Q' hK => ?_
  rw [wanted_of hr hgd hg, if_pos rfl]
  obtain ⟨w', x, k1, k2, k3, k4⟩ := effF_good (P := P) (a := a) (o := o') (comp_of hop (fun e => by rw [e] at he; cases he)) he hr.ev hr.heap
  refine OW.of (comp_not_defer (comp_of hop (fun e => by rw [e] at he; cases he))) k1 ?_
  simp only [Oper.uponIn]
  rw [hdst]
  exact hK g w' _ σ' (hr.stput k4 k3 hp k2) k4 h
end
end Fw

/-
  Loops over functions: a call of yield runs a round on the slots that the loop began with; the loop itself calls the function that it goes over.
-/
set_option linter.unusedVariables false
namespace Fw
open Go
def putAll : List (Nat × V) → List Nat → List V → List (Nat × V)
  | tm, p :: ps, v :: vs => putAll (put tm p v) ps vs
  | tm, _, _ => tm
def WY (P : Program) (GL : GLT) (b : Nat) (args : List V) (H : Heap) (Q : V → Heap → Prop) : Prop :=
  ∀ g w (vs : Array Value) (l : Nat), RVs g w args vs.toList → HeapOK g w H → Globs GL g w → g.γ b = some (.obj l) →
    ∃ fn tmps assign body, (Instr.yield l vs).run P w = .ok (.round l fn tmps assign body) w ∧
      RoundIn Fence.wide 0 P l fn tmps assign body w fun e w' => ∃ x v g' H', e = .returned x ∧ Q v H' ∧ RV g' w' v x ∧ HeapOK g' w' H' ∧ Ext g w g' w'
section
variable {P : Program} {GL : GLT}
theorem WY.mono {b : Nat} {args : List V} {H : Heap} {Q Q' : V → Heap → Prop} (h : WY P GL b args H Q) (hq : ∀ v H', Q v H' → Q' v H') : WY P GL b args H Q' := by
  intro g w vs l h1 h2 h3 h4
  obtain ⟨fn, tmps, assign, body, k1, k2⟩ := h g w vs l h1 h2 h3 h4
  exact ⟨fn, tmps, assign, body, k1, k2.mono fun _ _ ⟨x, v, g', H', e1, e2, e3⟩ => ⟨x, v, g', H', e1, hq _ _ e2, e3⟩⟩
theorem loop_at {g : G} {w : World} {H : Heap} (hh : HeapOK g w H) {b : Nat} {n : Nat} {tm : List (Nat × V)} {ps : List Nat} {ca cb : Code} {st : LSt} (hb : hget H b = some (.loop n tm ps ca cb st)) :
    ∃ l r, g.γ b = some (.obj l) ∧ w.heap[l]? = some (.loop r) ∧ r.tmps.size = n ∧ (∀ t, RV g w (get tm t) (r.tmps.getD t undef)) ∧ r.params.toList = ps ∧ r.assign = ca ∧ r.body = cb ∧ st.says r := by
  obtain ⟨x, hx⟩ := hh.back b _ hb
  obtain ⟨_, y, hy, hr⟩ := hh.live b x hx
  rw [hb] at hy; simp only [Option.some.injEq] at hy; subst hy
  cases x with
  | cells => simp only [RB] at hr
  | nil => simp only [RB] at hr
  | obj l =>
    simp only [RB] at hr
    obtain ⟨r, h1⟩ := hr
    exact ⟨l, r, hx, h1⟩
theorem loop_put {g : G} {w : World} {H : Heap} (hh : HeapOK g w H) {b l : Nat} {r r' : Loop} {n : Nat} {tm : List (Nat × V)} {ps : List Nat} {ca cb : Code} {st : LSt} (hx : g.γ b = some (.obj l)) (hl : w.heap[l]? = some (.loop r))
    (h1 : r'.tmps.size = n) (h2 : ∀ t, RV g w (get tm t) (r'.tmps.getD t undef)) (h3 : r'.params.toList = ps) (h4 : r'.assign = ca) (h5 : r'.body = cb) (h6 : st.says r') :
    Ext g w g (w.putObj l (.loop r')) ∧ HeapOK g (w.putObj l (.loop r')) (hput H b (.loop n tm ps ca cb st)) := by
  have hlt := (Array.getElem?_eq_some_iff.1 hl).1
  have he : Ext g w g (w.putObj l (.loop r')) := Ext.write hx rfl (hh.notFo hx rfl) rfl rfl rfl World.putObj_size (fun j hj => World.putObj_heap_other hj)
  refine ⟨he, HeapOK.write hh _ hx rfl he (fun j hj => World.putObj_heap_other hj) ?_⟩
  simp only [RB]
  exact ⟨r', World.putObj_heap_same hlt, h1, fun t => RV.ext he _ _ (h2 t), h3, h4, h5, h6⟩
theorem putAll_rv {g : G} {w : World} : ∀ {ps : List Nat} {vs : List V} {xs : List Value} {tm : List (Nat × V)} {tmps : Array Value}, (∀ p ∈ ps, p < tmps.size) → RVs g w vs xs → vs.length = ps.length → (∀ t, RV g w (get tm t) (tmps.getD t undef)) →
    ∀ t, RV g w (get (putAll tm ps vs) t) ((((ps.zip xs).foldl (fun (a : Array Value) (q : Nat × Value) => a.setIfInBounds q.1 q.2) tmps)).getD t undef)
  | [], [], xs, tm, tmps, _, _, _, h => by simpa [putAll] using h
  | p :: ps, v :: vs, [], tm, tmps, _, hv, _, _ => by simp only [RVs] at hv
  | p :: ps, v :: vs, x :: xs, tm, tmps, hp, hv, hl, h => by
    simp only [RVs] at hv
    simp only [putAll, List.zip_cons_cons, List.foldl_cons]
    refine putAll_rv (fun q hq => by rw [Array.size_setIfInBounds]; exact hp q (List.mem_cons_of_mem _ hq)) hv.2 (by simpa using hl) (fun t => ?_)
    rw [get_put]
    by_cases e : t = p
    · subst e
      have := hp t (by simp)
      rw [if_pos rfl, Array.getD_eq_getD_getElem?, Array.getElem?_setIfInBounds_self_of_lt this]
      exact hv.1
    · rw [if_neg e, Array.getD_eq_getD_getElem?, Array.getElem?_setIfInBounds_ne (fun h => e h.symm), ← Array.getD_eq_getD_getElem?]
      exact h t
  | [], _ :: _, _, _, _, _, _, hl, _ => by simp at hl
  | _ :: _, [], _, _, _, _, _, hl, _ => by simp at hl
theorem fold_size (l : List (Nat × Value)) (tmps : Array Value) : (l.foldl (fun (a : Array Value) (q : Nat × Value) => a.setIfInBounds q.1 q.2) tmps).size = tmps.size := by
  induction l generalizing tmps with
  | nil => rfl
  | cons q l ih => rw [List.foldl_cons, ih, Array.size_setIfInBounds]
def stOf : Ex → LSt
  | .normal => .ready
  | .exit id => .done (some id)
  | .ret => .done none
def isNormal : Ex → Bool
  | .normal => true
  | _ => false
def endY (b : Nat) (e : Ex) (H : Heap) (Q : V → Heap → Prop) : Prop :=
  ∃ n tm ps ca cb, hget H b = some (.loop n tm ps ca cb .busy) ∧ Q (.d (.bool (isNormal e))) (hput H b (.loop n tm ps ca cb (stOf e)))
theorem WY.round {b : Nat} {args : List V} {H : Heap} {Q : V → Heap → Prop} {n : Nat} {tm : List (Nat × V)} {ps : List Nat} {ca cb : Code} {ia ib : IR} (hb : hget H b = some (.loop n tm ps ca cb .ready)) (hl : args.length = ps.length) (hp : ps.all (fun p => Nat.blt p n) = true)
    (ha : compCode P ca = some ia) (hc : compCode P cb = some ib) (fa : rfree ia = true) (fb : rfree ib = true)
    (h : WC P GL ia ⟨n, putAll tm ps args, H⟩ (fun e s => match e with
      | .normal => ∃ n1 tm1 ps1 ca1 cb1, hget s.hp b = some (.loop n1 tm1 ps1 ca1 cb1 .ready) ∧ WC P GL ib ⟨s.n, s.tm, hput s.hp b (.loop n1 tm1 ps1 ca1 cb1 .busy)⟩ (fun e s => endY b e s.hp Q)
      | _ => False)) : WY P GL b args H Q := by
  intro g w vs l hvs hh hg hγ
  obtain ⟨l', r, hγ', hr, h1, h2, h3, h4, h5, h6⟩ := loop_at hh hb
  rw [hγ] at hγ'; simp only [Option.some.injEq, GB.obj.injEq] at hγ'; subst hγ'
  have hlen := hvs.length
  have hps : vs.size = r.params.size := by
    have : r.params.toList.length = ps.length := by rw [h3]
    simp at this hlen; omega
  refine ⟨r.fn, _, r.assign, r.body, run_yield hr hps, roundIn_of_wpIn (F := Fence.wide) trivial ?_⟩
  rw [h4, h5]
  have hfold : (r.params.zip vs).foldl (fun tmps (x : Tmp × Value) => tmps.setIfInBounds x.1 x.2) r.tmps = (ps.zip vs.toList).foldl (fun (a : Array Value) (q : Nat × Value) => a.setIfInBounds q.1 q.2) r.tmps := by
    rw [← Array.foldl_toList, Array.toList_zip, h3]
  have hR : R GL (g.rebase 0) w { tmps := (r.params.zip vs).foldl (fun tmps (x : Tmp × Value) => tmps.setIfInBounds x.1 x.2) r.tmps, defers := [] } ⟨n, putAll tm ps args, H⟩ := by
    refine ⟨Dfs.nil (Nat.zero_le _), ?_, fun t => ?_, hh.rebase _, hg.rebase _⟩
    · simp only; rw [hfold, fold_size]; exact h1
    · simp only; rw [hfold]
      refine RV.ext0 (Ext0.rebase g w 0) _ _ (putAll_rv (fun p hp' => ?_) hvs hl h2 t)
      have := List.all_eq_true.1 hp p hp'
      rw [h1]; simpa [Nat.blt_eq] using this
  refine wpIn_mono (h ca ha (some l) (.inl fa) (g.rebase 0) w _ hR) fun e a1 w1 hp1 => ?_
  obtain ⟨g1, σ1, r1, e1, q1⟩ := hp1
  cases e with
  | normal =>
    obtain ⟨n1, tm1, ps1, ca1, cb1, hb1, hbody⟩ := q1
    obtain ⟨l1, r', hγ1, hr1, k1, k2, k3, k4, k5, k6⟩ := loop_at r1.heap hb1
    have hst : ∀ {g2 : G} {w2 : World}, Ext (g.rebase 0) w g2 w2 → ∀ {x : GB}, g2.γ b = some x → x = .obj l := by
      intro g2 w2 he x hx
      have hd := (hh.live b _ hγ).1
      have := he.step b hd
      rw [show (g.rebase 0).γ b = some (.obj l) from hγ, hx] at this
      exact this
    have hl1 : l1 = l := by have := hst e1 hγ1; simpa using this
    subst hl1
    simp only [Exit.then]
    refine ⟨_, run_beginRound hr1 k6.1, ?_⟩
    obtain ⟨he2, hh2⟩ := loop_put (st := .busy) (r' := { r' with state := .busy }) r1.heap hγ1 hr1 k1 k2 k3 k4 k5 trivial
    have hR2 : R GL g1 (w1.putObj l1 (.loop { r' with state := .busy })) a1 ⟨σ1.n, σ1.tm, hput σ1.hp b (.loop n1 tm1 ps1 ca1 cb1 .busy)⟩ :=
      ⟨r1.defers.ext he2, r1.size, fun t => RV.ext he2 _ _ (r1.tmps t), hh2, r1.globs.ext he2⟩
    refine wpIn_mono (hbody cb hc (some l1) (.inl fb) g1 _ a1 hR2) fun e a2 w2 hp2 => ?_
    obtain ⟨g2, σ2, r2, e2, q2⟩ := hp2
    have he3 : Ext (g.rebase 0) w g2 w2 := (e1.trans he2).trans e2
    have fin : ∀ (ex : Ex) (jump : Option Code), jump.isNone = isNormal ex → (∀ r : Loop, (stOf ex).says { r with state := if jump.isNone = true then .ready else .done, pending := jump }) → endY b ex σ2.hp Q →
        ∃ v w', (Instr.endRound l1 jump).run P w2 = .ok v w' ∧ ∃ x v' g' H', Ending.returned v = .returned x ∧ Q v' H' ∧ RV g' w' v' x ∧ HeapOK g' w' H' ∧ Ext g w g' w' := by
      rintro ex jump hj hsay ⟨n2, tm2, ps2, ca2, cb2, hb2, hq⟩
      obtain ⟨l2, r2', hγ2, hr2, m1, m2, m3, m4, m5, m6⟩ := loop_at r2.heap hb2
      have hl2 : l2 = l1 := by have := hst he3 hγ2; simpa using this
      subst hl2
      obtain ⟨p1, p2⟩ := loop_put (st := stOf ex) (r' := { r2' with state := if jump.isNone = true then .ready else .done, pending := jump }) r2.heap hγ2 hr2 m1 m2 m3 m4 m5 (hsay _)
      refine ⟨_, _, run_endRound jump hr2, _, .d (.bool (isNormal ex)), g2.rebase g.base, _, rfl, hq, ?_, p2.rebase _, (he3.trans p1).rebase g.base⟩
      rw [hj]; exact RV.mkB _
    cases e with
    | normal => exact fin .normal none rfl (fun _ => ⟨rfl, rfl⟩) q2
    | exit id => exact fin (.exit id) (some (.exit id)) rfl (fun _ => ⟨rfl, rfl⟩) q2
    | ret => exact fin .ret (some .ret) rfl (fun _ => ⟨rfl, rfl⟩) q2
    | goto l => exact q2.elim
    | panic c => exact q2.elim
    | outgrown => exact q2.elim
  | exit id => exact q1.elim
  | ret => exact q1.elim
  | goto l => exact q1.elim
  | panic c => exact q1.elim
  | outgrown => exact q1.elim
theorem FR_roundIn {ro : Option Nat} {n : Nat} {l : Nat} {f : FuncId} {tmps : Array Value} {assign body : Code} {w : World} {R : Ending → World → Prop} (h : RoundIn Fence.wide n P l f tmps assign body w R) : RoundIn (FR ro) n P l f tmps assign body w R := by cases ro <;> exact h
theorem WO.cally {o : IOper} {l : List IOper} {σ : St} {Q : St → Prop} {x : Opd} {b : Nat} {args : List Opd} (ho : o.op = .callv x args) (hx : evo GL σ.tm x = .yld b) (hb : ∃ n tm ps ca cb st, hget σ.hp b = some (.loop n tm ps ca cb st)) (hg : guardB o.guard σ.tm = some true)
    (h : WY P GL b (mlist (evo GL σ.tm) args) σ.hp fun v H' => ∃ σ', σ.put o.dst v H' = some σ' ∧ WO P GL l σ' Q) : WO P GL (o :: l) σ Q := by
  refine WO.step fun {ro} o' ops hop hgd hdst g w a hr K Q' hK => ?_
  rw [wanted_of hr hgd hg, if_pos rfl]
  rw [ho] at hop
  have hcomp := comp_of hop (by simp)
  obtain ⟨c, hc, hcc⟩ := comp_isCall hcomp (.inr ⟨x, args, rfl⟩)
  have hcal : ∃ t, c.callee = .value (.tmp t) ∧ x = .t t ∧ mapO compOpd c.args.toList = some args := by
    unfold compCall at hcc
    grind[Option.map_eq_some_iff,IOp.callv.injEq]
  obtain ⟨t, ht, rfl, hargs⟩ := hcal
  have hv := hr.ev (.tmp t) (.t t) rfl
  rw [hx] at hv
  simp only [RV] at hv
  obtain ⟨n, tm, ps, ca, cb, st, hb⟩ := hb
  obtain ⟨lb, r, hγ, _⟩ := loop_at hr.heap hb
  obtain ⟨blk, e1, e2⟩ := hv.2 _ hγ
  simp only [GB.obj.injEq] at e1; subst e1
  obtain ⟨fn, tmps, assign, body, k1, k2⟩ := h g w (c.args.map a.eval) lb (by simpa using mapOpds hr.ev hargs) hr.heap hr.globs hγ
  have hex : (execOp a.eval o').run P w = .ok (.round lb fn tmps assign body) w := by
    have e3 : a.eval (.tmp t) = .func (.yield lb) #[] #[] := e2
    simp [execOp, hc, resolve, ht, e3, Deferred.ofValue, invoke, Sem.run_bind, Result.andThen, k1]
  refine OW.of (comp_not_defer hcomp) hex ?_
  simp only [Oper.uponIn]
  refine ⟨fun h => FR_depth h, (FR_roundIn k2).mono ?_⟩
  rintro e w' ⟨x, v, g', H', rfl, ⟨σ', hput, hwo⟩, hx, hh, he⟩
  simp only
  rw [hdst]
  exact hK g' w' _ σ' (hr.stput he hh hput hx) he hwo
theorem comp_rangef {code : Code} {f : Opd} {ps : List Nat} {ca cb : Code} (hc : compCode P code = some (.rangef f ps ca cb)) : ∃ x p, code = .rangeFunc x p ca cb ∧ compOpd x = some f ∧ p.toList = ps := by
  cases code with
  | rangeFunc x p a b =>
    simp only [compCode, Option.map_eq_some_iff, IR.rangef.injEq] at hc
    obtain ⟨f', h1, rfl, rfl, rfl, rfl⟩ := hc
    exact ⟨x, p, rfl, h1, rfl⟩
  | region => grind[compCode]
  | seq => grind[compCode]
  | cond => grind[compCode]
  | _ => simp [compCode] at hc
def endL (b n : Nat) (tm : List (Nat × V)) (H : Heap) (Q : Ex → St → Prop) : Prop :=
  ∃ n1 tm1 ps1 ca1 cb1 st, hget H b = some (.loop n1 tm1 ps1 ca1 cb1 st) ∧ match st with
    | .ready => Q .normal ⟨n, tm, hput H b (.loop n1 tm1 ps1 ca1 cb1 .over)⟩
    | .done none => Q .ret ⟨n, tm, hput H b (.loop n1 tm1 ps1 ca1 cb1 .over)⟩
    | .done (some id) => Q (.exit id) ⟨n, tm, hput H b (.loop n1 tm1 ps1 ca1 cb1 .over)⟩
    | _ => False
theorem WC.rangef {f : Opd} {ps : List Nat} {ca cb : Code} {σ : St} {Q : Ex → St → Prop} {fid : FuncId} {first cap : List V} (tml : List (Nat × V)) (hw : ∀ s, get tml s = get σ.tm s ∨ get tml s = .any) (hf : evo GL σ.tm f = .func fid first cap)
    (h : WF P GL fid (first ++ [.yld σ.hp.length] ++ cap) (hput σ.hp σ.hp.length (.loop σ.n tml ps ca cb .ready)) (fun _ H' => endL σ.hp.length σ.n σ.tm H' Q)) : WC P GL (.rangef f ps ca cb) σ Q := by
  intro code hc ro hro g w a hr
  obtain ⟨x, p, rfl, hx, hp⟩ := comp_rangef hc
  obtain rfl : ro = none := hro.resolve_left (by simp [rfree])
  have hv := hr.ev _ _ hx
  rw [hf] at hv
  simp only [RV] at hv
  obtain ⟨va, vc, e1, e2, e3⟩ := hv
  obtain ⟨he1, hh1, him1⟩ := Ext.newImm hr.heap (.deferred (some []))
  refine wpIn_rangeFunc fun fn _ => ?_
  obtain ⟨rc, hrc⟩ : ∃ rc : Loop, rc = { state := .ready, pending := none, fn, tmps := a.tmps, params := p, assign := ca, body := cb, defers := w.heap.size } := ⟨_, rfl⟩
  obtain ⟨W1, hW1⟩ : ∃ W1, w.alloc (.deferred (some [])) = W1 := ⟨_, rfl⟩
  rw [hW1] at he1 hh1 him1
  have hs1 : W1.heap.size = w.heap.size + 1 := by rw [← hW1]; simp
  have hfresh : Fresh g σ.hp.length := hh1.fresh
  have he2 : Ext g W1 (g.add σ.hp.length (.obj W1.heap.size)) (W1.alloc (.loop rc)) := Ext.new hh1 hfresh _ _ rfl
  have hext := he1.trans he2
  have hh2 : HeapOK (g.add σ.hp.length (.obj W1.heap.size)) (W1.alloc (.loop rc)) (hput σ.hp σ.hp.length (.loop σ.n tml ps ca cb .ready)) := by
    refine HeapOK.new hh1 hfresh _ _ _ rfl ?_
    simp only [RB]
    refine ⟨rc, heap_push_self _ _, by rw [hrc]; exact hr.size, fun t => ?_, by rw [hrc]; exact hp, by rw [hrc], by rw [hrc], by rw [hrc]; exact ⟨rfl, rfl⟩⟩
    rcases hw t with e | e
    · rw [e, show rc.tmps = a.tmps by rw [hrc]]; exact RV.ext hext _ _ (hr.tmps t)
    · rw [e]; simp only [RV]
  have hγ2 : (g.add σ.hp.length (.obj W1.heap.size)).γ σ.hp.length = some (.obj W1.heap.size) := by simp [G.add]
  have hargs : RVs (g.add σ.hp.length (.obj W1.heap.size)) (W1.alloc (.loop rc)) (first ++ [.yld σ.hp.length] ++ cap) (va ++ #[Value.func (.yield W1.heap.size) #[] #[]] ++ vc).toList := by
    simp only [Array.toList_append]
    refine RVs.append (RVs.append (RVs.ext hext _ _ e2) ?_) (RVs.ext hext _ _ e3)
    simp only [RVs, RV, and_true]
    refine ⟨⟨rfl, .inr rfl⟩, fun x hx => ?_⟩
    rw [hγ2] at hx; simp only [Option.some.injEq] at hx; subst hx
    exact ⟨_, rfl, rfl⟩
  refine ⟨w.heap.size + 1, [{ target := .collected w.heap.size, args := #[] }], W1.alloc (.loop rc), { target := .fn (.func fid) vc, args := va ++ #[.func (.yield W1.heap.size) #[] #[]] }, W1.alloc (.loop rc), fid,
    va ++ #[Value.func (.yield W1.heap.size) #[] #[]] ++ vc, W1.alloc (.loop rc), ?_, ?_, fun _ _ => trivial, ?_, (fun h => by cases h), ?_⟩
  · rw [← hW1, hrc]; exact run_enterLoop_outer _ _ _ _ _
  · simp only [resolve, e1]
    rw [hs1]
    simp [Deferred.ofValue]
    rfl
  · simp only [invoke]
    exact run_callFunc h.1 _ _
  · refine callsIn_wide.2 ((h.2 _ _ _ hargs hh2 (hr.globs.ext hext)).mono ?_)
    rintro e w3 ⟨x3, v3, g3, H3, rfl, ⟨n1, tm1, ps1, ca1, cb1, st, hb3, hq⟩, -, hh3, he3⟩
    have he := hext.trans he3
    obtain ⟨l3, r3, hγ3, hr3, m1, m2, m3, m4, m5, m6⟩ := loop_at hh3 hb3
    have hl3 : l3 = w.heap.size + 1 := by
      have := he3.step σ.hp.length (.inr rfl)
      rw [hγ2, hγ3] at this
      simp only [GB.step, GB.obj.injEq] at this
      omega
    rw [hl3] at hγ3 hr3
    have hbusy : r3.state ≠ .busy := by
      cases st with
      | ready => rw [m6.1]; simp
      | done e => rw [m6.1]; simp
      | busy => exact hq.elim
      | over => exact hq.elim
    obtain ⟨he4, hh4⟩ := loop_put (st := .over) (r' := { r3 with state := .exhausted }) hh3 hγ3 hr3 m1 m2 m3 m4 m5 trivial
    have hD : Dfs g3 (w3.putObj (w.heap.size + 1) (.loop { r3 with state := .exhausted })) ([{ target := .collected w.heap.size, args := #[] }] ++ a.defers) := by
      refine Dfs.ext (he3.trans he4) (Dfs.ext he2 ?_)
      have hd := hr.defers.ext he1
      refine ⟨hd.1, List.nodup_cons.2 ⟨fun hm => ?_, hd.2.1⟩, fun d hdm => ?_⟩
      · obtain ⟨D, k1, k2, k3, k4⟩ := hr.defers.2.2 _ hm
        simp only [Deferred.mk.injEq, Target.collected.injEq] at k1
        have := k3.1; omega
      · rcases List.mem_cons.1 hdm with rfl | hdm
        · exact ⟨_, rfl, hr.defers.1, him1, by rw [← hW1]; exact heap_push_self _ _⟩
        · exact hd.2.2 d hdm
    have hRf : R GL g3 (w3.putObj (w.heap.size + 1) (.loop { r3 with state := .exhausted })) { a with defers := [{ target := .collected w.heap.size, args := #[] }] ++ a.defers } ⟨σ.n, σ.tm, hput H3 σ.hp.length (.loop n1 tm1 ps1 ca1 cb1 .over)⟩ :=
      ⟨hD, hr.size, fun t => RV.ext (he.trans he4) _ _ (hr.tmps t), hh4, hr.globs.ext (he.trans he4)⟩
    refine ⟨r3.pending, _, run_endLoop hr3 hbusy, ?_⟩
    cases st with
    | ready =>
      split
      · exact ⟨g3, _, hRf, he.trans he4, hq⟩
      · rename_i c hc; rw [m6.2] at hc; cases hc
    | busy => exact hq.elim
    | over => exact hq.elim
    | done e =>
      have hp2 := m6.2
      split
      · rename_i hc; rw [hp2] at hc; cases hc
      · rename_i c hc
        rw [hp2] at hc
        simp only [Option.some.injEq] at hc; subst hc
        cases e with
        | none => exact wpIn_ret ⟨g3, _, hRf, he.trans he4, hq⟩
        | some id => exact wpIn_exit ⟨g3, _, hRf, he.trans he4, hq⟩
end
end Fw

/-
  What an operation looks at, and that nothing else matters to it.
-/
namespace Fw
open Go
def partOpds : List (Nat × Nat × Opd) → List Opd
  | [] => []
  | (_, _, x) :: ps => x :: partOpds ps
def looks : IOp → List Opd
  | .mv x | .box _ x | .load _ _ x | .nilchk x | .un _ x | .conv _ x | .same x | .strToBytes x | .fld _ _ _ x | .faddr _ _ x | .ext x _ | .len _ x | .cap x | .range _ x | .nextS x | .nextM x | .entry x | .mkiface _ x => [x]
  | .pick c a b => [c, a, b]
  | .alloc _ | .mkmap | .bad => []
  | .build _ ps | .mkSlice _ _ _ ps => partOpds ps
  | .store _ a x => [a, x]
  | .bin _ x y | .eq _ _ x y | .eqS _ _ x y | .append _ _ x y => [x, y]
  | .mkfunc _ a b => a ++ b
  | .sslice x lo hi | .lslice _ x lo hi | .aslice _ _ x lo hi => x :: (lo.toList ++ hi.toList)
  | .iaddr _ x i | .iaddrA _ _ x i | .idxS x i | .idxA _ _ _ x i => [x, i]
  | .mkRow _ _ _ l c => [l, c]
  | .appendN _ _ _ x n => [x, n]
  | .clip _ x hi mx => [x, hi, mx]
  | .lookup _ _ _ m k => [m, k]
  | .mapUpd _ m k x => [m, k, x]
  | .minmax _ xs => xs
  | .call _ args => args
  | .callv x args => x :: args
def refs1 : V → List Nat
  | .ptr b _ _ => [b]
  | .sl b _ _ _ _ => [b]
  | .map b => [b]
  | .iter b m => [b, m]
  | .yld b => [b]
  | _ => []
def callE (ρ : Opd → V) : IOp → Option (FuncId × List V)
  | .call f args => some (f, mlist ρ args)
  | .callv x args => match ρ x with
    | .func f first cap => some (f, first ++ mlist ρ args ++ cap)
    | _ => none
  | _ => none
def rds (ρ : Opd → V) : IOp → List Nat
  | .load _ _ a => refs1 (ρ a)
  | .store _ a _ => refs1 (ρ a)
  | .lslice _ x _ _ => refs1 (ρ x)
  | .aslice _ _ x _ _ => refs1 (ρ x)
  | .iaddr _ x _ => refs1 (ρ x)
  | .len _ x => refs1 (ρ x)
  | .append _ _ x y => refs1 (ρ x) ++ refs1 (ρ y)
  | .lookup _ _ _ m _ => refs1 (ρ m)
  | .range _ x => refs1 (ρ x)
  | .eq _ _ x y => refs1 (ρ x) ++ refs1 (ρ y)
  | .entry x => refs1 (ρ x)
  | .mapUpd _ m _ _ => refs1 (ρ m)
  | .call _ args => (mlist ρ args).flatMap refs1
  | .callv x args => match ρ x with
    | .func _ first cap => (first ++ mlist ρ args ++ cap).flatMap refs1
    | _ => []
  | _ => []
section
variable {ρ ρ' : Opd → V} {H H' : Heap}
theorem loadC_congr {n : Nat} {u : V} (h : ∀ b ∈ refs1 u, hget H' b = hget H b) : loadC H' n u = loadC H n u := by
  cases u <;> simp only [loadC]
  rename_i b _ _
  rw [h b (by simp [refs1])]
theorem storeC_congr {n : Nat} {u x : V} (h : ∀ b ∈ refs1 u, hget H' b = hget H b) : storeC H' n u x = storeC H n u x := by
  cases u <;> simp only [storeC]
  rename_i b _ _
  rw [h b (by simp [refs1])]
theorem liveB_congr {b k : Nat} (h : hget H' b = hget H b) : liveB H' b k = liveB H b k := by grind[liveB]
theorem lenV_congr {k : LenKind} {u : V} (h : ∀ b ∈ refs1 u, hget H' b = hget H b) : lenV H' k u = lenV H k u := by
  cases u with
  | d x => cases x <;> rfl
  | sl b hb off len sz => simp only [lenV, liveB_congr (h b (by simp [refs1]))]
  | map b => simp only [lenV, h b (by simp [refs1])]
  | _ => rfl
theorem sliceC_congr {sz : Nat} {u : V} (h : ∀ b ∈ refs1 u, hget H' b = hget H b) : sliceC H' sz u = sliceC H sz u := by
  cases u with
  | d x => cases x <;> rfl
  | sl b hb off len sz => simp only [sliceC, h b (by simp [refs1])]
  | _ => rfl
theorem appendV_congr {ns sz bytes : Nat} {u : V} {xs : List V} (h : ∀ b ∈ refs1 u, hget H' b = hget H b) : appendV H' ns sz bytes u xs = appendV H ns sz bytes u xs := by
  cases u with
  | sl b hb off len sz => simp only [appendV, h b (by simp [refs1])]
  | _ => rfl
theorem mapEs_congr {u : V} (h : ∀ b ∈ refs1 u, hget H' b = hget H b) : mapEs H' u = mapEs H u := by
  cases u with
  | map b => simp only [mapEs, h b (by simp [refs1])]
  | _ => rfl
theorem fillC_congr : ∀ {ps : List (Nat × Nat × Opd)} {cs : List V}, (∀ x ∈ partOpds ps, ρ' x = ρ x) → fillC ρ' cs ps = fillC ρ cs ps
  | [], _, _ => rfl
  | (off, size, x) :: ps, cs, h => by
    simp only [fillC]
    rw [h x (by simp [partOpds]), fillC_congr (fun y hy => h y (by simp [partOpds, hy]))]
theorem mlist_congr : ∀ {l : List Opd}, (∀ x ∈ l, ρ' x = ρ x) → mlist ρ' l = mlist ρ l
  | [], _ => rfl
  | x :: l, h => by simp only [mlist]; rw [h x (by simp), mlist_congr (fun y hy => h y (by simp [hy]))]
theorem bounds_congr {len : Nat} {lo hi : Option Opd} (h : ∀ x ∈ lo.toList ++ hi.toList, ρ' x = ρ x) : bounds ρ' len lo hi = bounds ρ len lo hi := by
  cases lo <;> cases hi <;> simp only [bounds] <;> simp at h <;> simp [h]
theorem eqV_congr {k : EqKind} {u v : V} (hn : ∀ b h, b ∈ refs1 u ++ refs1 v → nilB H' b h = nilB H b h) : eqV H' k u v = eqV H k u v := by
  have hd : ∀ (p : D) (v : V), eqV H' k (.d p) v = eqV H k (.d p) v := by
    intro p v
    rcases p with _ | _ | _ | (_ | ⟨e, es⟩) <;> cases v <;> first
      | (cases k <;> rfl)
      | (rename_i q; rcases q with _ | _ | _ | (_ | ⟨e', es'⟩) <;> cases k <;> rfl)
  have hd2 : ∀ (p : D) (v : V), eqV H' k v (.d p) = eqV H k v (.d p) := by
    intro p v
    cases v with
    | d q => grind
    | _ => rcases p with _ | _ | _ | (_ | ⟨e, es⟩) <;> cases k <;> rfl
  cases u with
  | d p => grind
  | _ => cases v with
    | d p => grind
    | _ => cases k <;> first
      | rfl
      | exact hn _ _ (by simp [refs1])
theorem effF_congr {op : IOp} (h1 : ∀ x ∈ looks op, ρ' x = ρ x) : effF ρ' op = effF ρ op := by
  cases op <;> first
    | rfl
    | (simp only [looks] at h1; simp only [effF]; rw [fillC_congr h1])
    | simp_all[looks,List.mem_cons,List.not_mem_nil,or_false,forall_eq_or_imp,forall_eq,effF]
theorem eff_congr {op : IOp} {ns : Nat} (h1 : ∀ x ∈ looks op, ρ' x = ρ x) (h2 : ∀ b ∈ rds ρ op, hget H' b = hget H b) : eff ρ' H' ns op = eff ρ H ns op := by
  cases op <;> simp only [looks, List.mem_cons, List.not_mem_nil, or_false, forall_eq_or_imp, forall_eq, List.mem_append] at h1 <;> simp only [rds] at h2 <;> simp only [eff]
  case mv => rw [h1]
  case pick => grind
  case box => rw [h1]
  case build => rw [fillC_congr h1]
  case mkSlice => rw [fillC_congr h1]
  case load => rw [h1, loadC_congr h2]
  case store => rw [h1.1, h1.2, storeC_congr h2]
  case nilchk => rw [h1]
  case bin => grind
  case eq neg k x y =>
    rw [h1.1, h1.2]
    have hn : ∀ b h, b ∈ refs1 (ρ x) ++ refs1 (ρ y) → nilB H' b h = nilB H b h := fun b h hb => by grind[nilB]
    rw [eqV_congr hn]
  case eqS => grind
  case un => rw [h1]
  case conv => rw [h1]
  case same => rw [h1]
  case strToBytes => rw [h1]
  case mkRow => grind
  case appendN => grind
  case clip => grind
  case cap => rw [h1]
  case mkfunc => rw [mlist_congr (fun x hx => h1 x (.inl hx)), mlist_congr (fun x hx => h1 x (.inr hx))]
  case sslice x lo hi =>
    rw [h1.1]
    have hb : ∀ len, bounds ρ' len lo hi = bounds ρ len lo hi := fun len => bounds_congr (fun x hx => h1.2 x (List.mem_append.1 hx))
    grind
  case lslice sz x lo hi =>
    rw [h1.1]
    have hb : ∀ len, bounds ρ' len lo hi = bounds ρ len lo hi := fun len => bounds_congr (fun x hx => h1.2 x (List.mem_append.1 hx))
    simp only [hb]
    split <;> first
      | rfl
      | (rename_i b _ _ _ _ e; rw [liveB_congr (h2 b (by grind[refs1]))])
  case aslice n sz x lo hi =>
    rw [h1.1]
    have hb : ∀ len, bounds ρ' len lo hi = bounds ρ len lo hi := fun len => bounds_congr (fun x hx => h1.2 x (List.mem_append.1 hx))
    simp only [hb]
    split <;> first
      | rfl
      | (rename_i b _ _ e; rw [liveB_congr (h2 b (by grind[refs1]))])
  case fld => rw [h1]
  case faddr => rw [h1]
  case iaddr sz x i =>
    rw [h1.1, h1.2]
    split
    · rfl
    · split <;> first
        | rfl
        | (rename_i b _ _ _ _ e; rw [liveB_congr (h2 b (by grind[refs1]))])
  case iaddrA => grind
  case idxS => grind
  case idxA => grind
  case ext => rw [h1]
  case len k x =>
    rw [h1]
    cases k <;> simp only [] <;> first | rfl | rw [lenV_congr h2]
  case append sz bytes x y =>
    have ha : ∀ xs, appendV H' ns sz bytes (ρ x) xs = appendV H ns sz bytes (ρ x) xs := fun xs => appendV_congr (fun b hb => h2 b (by simp [hb]))
    rw [h1.1, h1.2, sliceC_congr (fun b hb => h2 b (by simp [hb]))]
    grind
  case lookup => rw [h1.1, h1.2, mapEs_congr h2]
  case mapUpd kk m k x =>
    rw [h1.1, h1.2.1, h1.2.2]
    split
    · rename_i b kd e _
      rw [h2 b (by grind[refs1])]
    · rfl
  case mkiface => rw [h1]
  case entry x =>
    rw [h1]
    split
    · rename_i b m e
      rw [h2 b (by grind[refs1]), h2 m (by grind[refs1])]
    · rfl
  case range m x =>
    rw [h1]
    cases m
    · rfl
    · simp
      split
      · rename_i b e
        rw [h2 b (by grind[refs1])]
      · rfl
  case minmax => rw [mlist_congr h1]
end
end Fw

/-
  A region whose order is drawn: one run in the text's order, and a look that no two operations whose order is open meet.
-/
namespace Fw
open Go
def PC (P : Program) (GL : GLT) (f : FuncId) (args : List V) (v : V) : Prop :=
  callable P f = true ∧ ∀ g w (vs : Array Value), RVs g w args vs.toList → (∀ k, g.fo k → k < w.heap.size) → (∀ b x k, g.γ b = some x → x.own = some k → k < w.heap.size) → Globs GL g w →
    Calls P f vs w fun e w' => ∃ x, e = .returned x ∧ RV g w' v x ∧ Ext g w g w' ∧ ∀ b y k, g.γ b = some y → y.own = some k → w'.heap[k]? = w.heap[k]?
def isCall : IOp → Option (FuncId × List Opd)
  | .call f args => some (f, args)
  | _ => none
def oneD (GL : GLT) (tm : List (Nat × V)) (H : Heap) (ns : Nat) (o : IOper) (cv : Option V) : Option (V × Wr) :=
  match guardB o.guard tm with
  | none => none
  | some false => some (.tuple [], none)
  | some true => match callE (evo GL tm) o.op with
    | some _ => cv.map fun v => (v, none)
    | none => match cv with
      | some _ => (effF (evo GL tm) o.op).map fun v => (v, none)
      | none => eff (evo GL tm) H ns o.op
inductive CV where
  | v (x : V)
  | own (cs : List V) (n sz : Nat)
def oneX (GL : GLT) (tm : List (Nat × V)) (H : Heap) (ns : Nat) (o : IOper) : Option CV → Option (V × Wr)
  | none => oneD GL tm H ns o none
  | some (.v x) => oneD GL tm H ns o (some x)
  | some (.own cs n sz) => match guardB o.guard tm, callE (evo GL tm) o.op with
    | some true, some _ => some (.sl ns cs.length 0 n sz, some (ns, .cells cs))
    | _, _ => none
theorem oneX_v {GL : GLT} {tm : List (Nat × V)} {H : Heap} {ns : Nat} {o : IOper} (c : Option V) : oneX GL tm H ns o (c.map .v) = oneD GL tm H ns o c := by cases c <;> rfl
def St.putT (σ : St) (dst : Option Nat) (v : V) (H : Heap) : St :=
  match dst with
  | none => ⟨σ.n, σ.tm, H⟩
  | some d => ⟨σ.n, Fw.put σ.tm d v, H⟩
def runD (GL : GLT) (base : Nat) (qc : Nat → Option CV) : Nat → List IOper → St → Option (List ((V × Wr) × List Nat))
  | _, [], _ => some []
  | i, o :: l, σ => match oneX GL σ.tm σ.hp (base + i) o (qc i) with
    | none => none
    | some r => match runD GL base qc (i + 1) l (σ.putT o.dst r.1 (happ σ.hp r.2)) with
      | none => none
      | some rs => some ((r, rds (evo GL σ.tm) o.op) :: rs)
def foldK (K : Nat → Bool) : Nat → List IOper → List ((V × Wr) × List Nat) → St → St
  | i, o :: l, r :: rs, σ => foldK K (i + 1) l rs (bif K i then σ.putT o.dst r.1.1 (happ σ.hp r.1.2) else σ)
  | _, _, _, σ => σ
def slotOf : Wr → Option Nat
  | some (b, _) => some b
  | none => none
def opdT : Opd → Option Nat
  | .t n => some n
  | _ => none
def lookT (o : IOper) : List Nat :=
  (looks o.op).filterMap opdT ++ (match o.guard with | some (d, _) => [d] | none => [])
structure DInfo where
  dst : Option Nat
  lk : List Nat
  rd : List Nat
  ws : Option Nat
  after : List Nat
deriving Inhabited
def infos : List IOper → List ((V × Wr) × List Nat) → List DInfo
  | o :: l, r :: rs => { dst := o.dst, lk := lookT o, rd := r.2, ws := slotOf r.1.2, after := o.after } :: infos l rs
  | _, _ => []
def inO (x : Option Nat) (l : List Nat) : Bool :=
  match x with
  | some n => l.any (Nat.beq n)
  | none => false
def sameO (x y : Option Nat) : Bool :=
  match x, y with
  | some n, some m => Nat.beq n m
  | _, _ => false
def meet (x y : DInfo) : Bool :=
  inO x.dst y.lk || inO y.dst x.lk || sameO x.dst y.dst || inO x.ws y.rd || inO y.ws x.rd || sameO x.ws y.ws
def maskO : Option Nat → Nat
  | none => 0
  | some t => Nat.shiftLeft 1 t
def maskL : List Nat → Nat
  | [] => 0
  | t :: l => Nat.lor (Nat.shiftLeft 1 t) (maskL l)
def lookM (e : Nat) : List (Nat × Nat) → Nat
  | [] => 0
  | (i, m) :: l => bif Nat.beq i e then m else lookM e l
def reachOf (acc : List (Nat × Nat)) : List Nat → Nat
  | [] => 0
  | e :: es => Nat.lor (Nat.lor (Nat.shiftLeft 1 e) (lookM e acc)) (reachOf acc es)
def reaches : Nat → List (Nat × Nat) → List IOper → List Nat
  | _, _, [] => []
  | j, acc, o :: l => reachOf acc o.after :: reaches (j + 1) ((j, reachOf acc o.after) :: acc) l
def befOk : Nat → List IOper → Bool
  | _, [] => true
  | j, o :: l => o.after.all (Nat.blt · j) && befOk (j + 1) l
def rowOk (W L R : Nat) : List (Nat × Nat × Nat) → Bool
  | [] => true
  | (i, w, k) :: rest => (Nat.beq (Nat.lor (Nat.land w (Nat.lor L W)) (Nat.land k W)) 0 || Nat.beq (Nat.land (Nat.shiftRight R i) 1) 1) && rowOk W L R rest
def gOk : Nat → List (Nat × Nat × Nat) → List (Nat × Nat) → List Nat → Bool
  | _, _, [], _ => true
  | _, _, _, [] => true
  | j, pre, (W, L) :: ms, R :: rs => rowOk W L R pre && gOk (j + 1) ((j, W, L) :: pre) ms rs
def statM (l : List IOper) : List (Nat × Nat) := l.map fun o => (maskO o.dst, maskL (lookT o))
def dynM (rs : List ((V × Wr) × List Nat)) : List (Nat × Nat) := rs.map fun r => (maskO (slotOf r.1.2), maskL r.2)
def statOk (l : List IOper) : Bool := befOk 0 l && gOk 0 [] (statM l) (reaches 0 [] l)
def noWr : List ((V × Wr) × List Nat) → Bool
  | [] => true
  | r :: rs => match r.1.2 with
    | none => noWr rs
    | some _ => false
def drawOk (l : List IOper) (rs : List ((V × Wr) × List Nat)) : Bool :=
  statOk l && (noWr rs || gOk 0 [] (dynM rs) (reaches 0 [] l))
section
variable {P : Program} {GL : GLT}
theorem inO_iff {x : Option Nat} {l : List Nat} : inO x l = true ↔ ∃ n, x = some n ∧ n ∈ l := by
  cases x with
  | none => simp [inO]
  | some n =>
    simp_all[inO,List.any_eq_true,Option.some.injEq,exists_eq_left']
theorem sameO_iff {x y : Option Nat} : sameO x y = true ↔ ∃ n, x = some n ∧ y = some n := by
  cases x <;> cases y <;> simp [sameO]
  grind
theorem get_putT {σ : St} {dst : Option Nat} {v : V} {H : Heap} {t : Nat} : get (σ.putT dst v H).tm t = if dst = some t then v else get σ.tm t := by
  cases dst<;>grind[St.putT,get_put,Option.some.injEq]
theorem hget_happ {H : Heap} {wr : Wr} {b : Nat} : hget (happ H wr) b = match wr with | some (s, y) => if b = s then some y else hget H b | none => hget H b := by
  grind[happ,hget_hput]
theorem foldK_tm {K K' : Nat → Bool} {t : Nat} : ∀ {l : List IOper} {rs : List ((V × Wr) × List Nat)} {i : Nat} {σ σ' : St}, get σ.tm t = get σ'.tm t →
    (∀ j o, l[j]? = some o → o.dst = some t → K (i + j) = K' (i + j)) → get (foldK K i l rs σ).tm t = get (foldK K' i l rs σ').tm t
  | [], _, _, _, _, h, _ => by grind[foldK]
  | _ :: _, [], _, _, _, h, _ => by grind[foldK]
  | o :: l, r :: rs, i, σ, σ', h, hk => by
    simp only [foldK]
    refine foldK_tm ?_ (fun j o' h1 h2 => by have := hk (j + 1) o' (by grind) h2; grind)
    by_cases hd : o.dst = some t
    · have := hk 0 o rfl hd
      simp at this
      rw [this]
      cases K' i with
      | true => simp_all[cond_true,get_putT]
      | false => exact h
    grind[get_putT]
theorem foldK_hp {K K' : Nat → Bool} {b : Nat} : ∀ {l : List IOper} {rs : List ((V × Wr) × List Nat)} {i : Nat} {σ σ' : St}, hget σ.hp b = hget σ'.hp b →
    (∀ j r, rs[j]? = some r → slotOf r.1.2 = some b → K (i + j) = K' (i + j)) → hget (foldK K i l rs σ).hp b = hget (foldK K' i l rs σ').hp b
  | [], _, _, _, _, h, _ => by grind[foldK]
  | _ :: _, [], _, _, _, h, _ => by grind[foldK]
  | o :: l, r :: rs, i, σ, σ', h, hk => by
    simp only [foldK]
    have hpp : ∀ s : St, (s.putT o.dst r.1.1 (happ s.hp r.1.2)).hp = happ s.hp r.1.2 := by intro s; cases o.dst <;> rfl
    refine foldK_hp ?_ (fun j r' h1 h2 => by have := hk (j + 1) r' (by grind) h2; grind)
    by_cases hd : slotOf r.1.2 = some b
    · have := hk 0 r rfl hd
      simp at this
      rw [this]
      cases K' i with
      | true =>
        simp_all[cond_true,hget_happ,slotOf]
      | false => exact h
    · have hne : ∀ (c : Bool) (s : St), hget (bif c then s.putT o.dst r.1.1 (happ s.hp r.1.2) else s).hp b = hget s.hp b := by
        intro c s
        cases c with
        | false => rfl
        | true =>
          simp only [cond_true, hpp, hget_happ]
          grind[slotOf,Option.some.injEq]
      rw [hne, hne]; exact h
theorem foldK_n {K : Nat → Bool} : ∀ {l : List IOper} {rs : List ((V × Wr) × List Nat)} {i : Nat} {σ : St}, (foldK K i l rs σ).n = σ.n
  | [], _, _, _ => by simp [foldK]
  | _ :: _, [], _, _ => by simp [foldK]
  | o :: l, r :: rs, i, σ => by
    simp only [foldK]
    rw [foldK_n]
    cases K i <;> simp [St.putT]
    cases o.dst <;> rfl
theorem hput_length {H : Heap} {b : Nat} {y : Box} (h : b < H.length) : (hput H b y).length = H.length := by
  induction H generalizing b with
  | nil => simp at h
  | cons z H ih => cases b <;> simp [hput]; grind
theorem runD_get {base : Nat} {qc : Nat → Option CV} : ∀ {l : List IOper} {i0 : Nat} {σ : St} {rs : List ((V × Wr) × List Nat)}, runD GL base qc i0 l σ = some rs → rs.length = l.length ∧
    ∀ i o, l[i]? = some o → ∃ r, rs[i]? = some r ∧ oneX GL (foldK (fun j => decide (j < i0 + i)) i0 l rs σ).tm (foldK (fun j => decide (j < i0 + i)) i0 l rs σ).hp (base + (i0 + i)) o (qc (i0 + i)) = some r.1 ∧
      r.2 = rds (evo GL (foldK (fun j => decide (j < i0 + i)) i0 l rs σ).tm) o.op
  | [], i0, σ, rs, h => by grind[runD]
  | o :: l, i0, σ, rs, h => by
    simp only [runD] at h
    split at h
    · cases h
    · rename_i r hr
      split at h
      · cases h
      · rename_i rs' hrs
        simp at h; subst h
        obtain ⟨h1, h2⟩ := runD_get hrs
        refine ⟨by simp [h1], fun i o' ho' => ?_⟩
        have hnone : ∀ (l : List IOper) (rs : List ((V × Wr) × List Nat)) (k : Nat) (σ : St), (∀ j, k ≤ j → (decide (j < i0)) = false) → foldK (fun j => decide (j < i0)) k l rs σ = σ := by
          intro l rs k σ hk
          induction l generalizing rs k with
          | nil => simp [foldK]
          | cons o l ih =>
            cases rs with
            | nil => simp [foldK]
            | cons r rs =>
              simp only [foldK, hk k (Nat.le_refl _), cond_false]
              grind
        cases i with
        | zero =>
          simp_all
        | succ i =>
          simp at ho'
          obtain ⟨r', h3, h4, h5⟩ := h2 i o' ho'
          have e : i0 + (i + 1) = i0 + 1 + i := by omega
          refine ⟨r', by grind, ?_, ?_⟩
          · simp only [foldK, e, show decide (i0 < i0 + 1 + i) = true by simp; omega, cond_true]
            exact h4
          · simp only [foldK, e, show decide (i0 < i0 + 1 + i) = true by simp; omega, cond_true]
            exact h5
end
end Fw

/-
  A region whose order is drawn: whatever the order, the end is that of the text's order.
-/
namespace Fw
open Go
section
variable {P : Program} {GL : GLT}
theorem R.congr {g : G} {w : World} {a : Act} {σ σ' : St} (h : R GL g w a σ) (hn : σ'.n = σ.n) (ht : ∀ t, get σ'.tm t = get σ.tm t) (hh : σ'.hp = σ.hp) : R GL g w a σ' :=
  ⟨h.defers, by rw [h.size, hn], fun t => by rw [ht t]; exact h.tmps t, by rw [hh]; exact h.heap, h.globs⟩
theorem R.drawn {g : G} {w : World} {a : Act} {σ : St} (h : R GL g w a σ) (n : Nat) : R GL g { w with drawn := n } a σ :=
  ⟨h.defers.ext (Ext.drawn g w n), h.size, fun t => RV.ext (Ext.drawn g w n) _ _ (h.tmps t), h.heap.ext (Ext.drawn g w n) (fun _ _ _ _ _ => rfl), h.globs.ext (Ext.drawn g w n)⟩
theorem hget_pad (H : Heap) (n b : Nat) : hget (H ++ List.replicate n none) b = hget H b := by
  induction H generalizing b with
  | nil =>
    simp
    induction n generalizing b with
    | zero => rfl
    | succ n ih => cases b <;> simp [List.replicate_succ, hget]; grind[hget]
  | cons y H ih => cases b <;> simp [hget, ih]
theorem HeapOK.pad {g : G} {w : World} {H : Heap} (h : HeapOK g w H) (n : Nat) : HeapOK g w (H ++ List.replicate n none) :=
  ⟨fun b hb => by have := h.dom b hb; simp; omega, fun b x hx => by obtain ⟨h1, y, h2, h3⟩ := h.live b x hx; grind[hget_pad],
   fun b y hy => h.back b y (by rwa [hget_pad] at hy), h.inj, h.fo⟩
theorem R.pad {g : G} {w : World} {a : Act} {σ : St} (h : R GL g w a σ) (n : Nat) : R GL g w a ⟨σ.n, σ.tm, σ.hp ++ List.replicate n none⟩ :=
  ⟨h.defers, h.size, h.tmps, h.heap.pad n, h.globs⟩
theorem heap_ext : ∀ {H H' : Heap}, H.length = H'.length → (∀ b, hget H b = hget H' b) → H = H'
  | [], [], _, _ => rfl
  | x :: H, y :: H', hl, h => by
    have h0 : x = y := h 0
    have ih : H = H' := heap_ext (by grind) (fun b => h (b + 1))
    rw [h0, ih]
  | [], _ :: _, hl, _ => by simp at hl
  | _ :: _, [], hl, _ => by simp at hl
structure Looked (ds : List DInfo) (rl : Nat → Nat → Prop) : Prop where
  before : ∀ (j : Nat) (d : DInfo), ds[j]? = some d → ∀ e ∈ d.after, e < j
  reach : ∀ (j i : Nat), rl j i → ∃ d, ds[j]? = some d ∧ ∃ e ∈ d.after, i = e ∨ rl e i
  meets : ∀ (i j : Nat) (x y : DInfo), i < j → ds[i]? = some x → ds[j]? = some y → meet x y = true → rl j i
theorem tb_one (i j : Nat) : Nat.testBit (Nat.shiftLeft 1 i) j = decide (i = j) := by
  show Nat.testBit (1 <<< i) j = _
  rw [Nat.testBit_shiftLeft]
  by_cases h : i = j
  · grind
  · by_cases h2 : j ≥ i
    · have : j - i ≠ 0 := by omega
      have e : Nat.testBit 1 (j - i) = false := Nat.testBit_lt_two_pow (Nat.one_lt_two_pow this)
      grind
    grind
theorem tb_or (a b j : Nat) : Nat.testBit (Nat.lor a b) j = (Nat.testBit a j || Nat.testBit b j) := Nat.testBit_or a b j
theorem tb_and (a b j : Nat) : Nat.testBit (Nat.land a b) j = (Nat.testBit a j && Nat.testBit b j) := Nat.testBit_and a b j
theorem tb_maskL {t : Nat} : ∀ {l : List Nat}, Nat.testBit (maskL l) t = true ↔ t ∈ l
  | [] => by simp [maskL]
  | s :: l => by
    simp only [maskL, tb_or, tb_one, Bool.or_eq_true, decide_eq_true_eq, tb_maskL (l := l), List.mem_cons]
    grind
theorem tb_maskO {t : Nat} {x : Option Nat} : Nat.testBit (maskO x) t = true ↔ x = some t := by
  cases x<;>grind[maskO,tb_one]
theorem reaches_length : ∀ {l : List IOper} {j : Nat} {acc : List (Nat × Nat)}, (reaches j acc l).length = l.length
  | [], _, _ => rfl
  | _ :: l, _, _ => by simp [reaches, reaches_length (l := l)]
theorem reachOf_tb {acc : List (Nat × Nat)} {i : Nat} : ∀ {es : List Nat}, Nat.testBit (reachOf acc es) i = true → ∃ e ∈ es, i = e ∨ Nat.testBit (lookM e acc) i = true
  | [], h => by simp [reachOf] at h
  | e :: es, h => by
    simp only [reachOf, tb_or, tb_one, Bool.or_eq_true, decide_eq_true_eq] at h
    rcases h with (h | h) | h
    · grind
    · grind
    · obtain ⟨e', h1, h2⟩ := reachOf_tb h
      grind
theorem reaches_spec : ∀ {l : List IOper} {j0 : Nat} {acc : List (Nat × Nat)}, befOk j0 l = true → (∀ e m, lookM e acc = m → m ≠ 0 → e < j0) →
    ∀ k (o : IOper), l[k]? = some o → ∀ i, Nat.testBit ((reaches j0 acc l).getD k 0) i = true → ∃ e ∈ o.after, i = e ∨ (e < j0 ∧ Nat.testBit (lookM e acc) i = true) ∨ (j0 ≤ e ∧ Nat.testBit ((reaches j0 acc l).getD (e - j0) 0) i = true)
  | [], _, _, _, _, k, o, ho, _, _ => by simp at ho
  | o :: l, j0, acc, hb, hacc, 0, o', ho, i, hi => by
    simp at ho; subst ho
    simp at hi
    obtain ⟨e, h1, h2⟩ := reachOf_tb hi
    grind
  | o :: l, j0, acc, hb, hacc, k + 1, o', ho, i, hi => by
    simp only [befOk, Bool.and_eq_true] at hb
    simp at ho
    simp only [reaches, List.getD_cons_succ] at hi ⊢
    have hacc' : ∀ e m, lookM e ((j0, reachOf acc o.after) :: acc) = m → m ≠ 0 → e < j0 + 1 := by
      intro e m hm hne
      simp only [lookM] at hm
      by_cases he : j0 = e
      · omega
      · rw [beq_ff he, cond_false] at hm
        grind
    obtain ⟨e, h1, h2⟩ := reaches_spec (l := l) hb.2 hacc' k o' ho i hi
    refine ⟨e, h1, ?_⟩
    rcases h2 with h2 | ⟨h2, h3⟩ | ⟨h2, h3⟩
    · grind
    · simp only [lookM] at h3
      by_cases he : j0 = e
      · grind
      · rw [beq_ff he, cond_false] at h3
        grind
    grind
theorem befOk_spec : ∀ {l : List IOper} {j0 : Nat}, befOk j0 l = true → ∀ (k : Nat) (o : IOper), l[k]? = some o → ∀ e ∈ o.after, e < j0 + k
  | [], _, _, k, o, ho, _, _ => by simp at ho
  | o :: l, j0, hb, 0, o', ho, e, he => by
    simp_all[befOk,Bool.and_eq_true,List.all_eq_true,Nat.blt_eq]
  | o :: l, j0, hb, k + 1, o', ho, e, he => by
    simp at ho
    simp only [befOk, Bool.and_eq_true] at hb
    have := befOk_spec hb.2 k o' ho e he
    omega
def confl (W L w k : Nat) : Prop := ∃ t, (Nat.testBit w t = true ∧ (Nat.testBit L t = true ∨ Nat.testBit W t = true)) ∨ (Nat.testBit k t = true ∧ Nat.testBit W t = true)
theorem rowOk_spec {W L R : Nat} : ∀ {pre : List (Nat × Nat × Nat)}, rowOk W L R pre = true → ∀ i w k, (i, w, k) ∈ pre → confl W L w k → Nat.testBit R i = true
  | [], _, i, w, k, h, _ => by simp at h
  | (i0, w0, k0) :: rest, hr, i, w, k, h, hc => by
    simp only [rowOk, Bool.and_eq_true, Bool.or_eq_true] at hr
    rcases List.mem_cons.1 h with h | h
    · simp at h
      obtain ⟨rfl, rfl, rfl⟩ := h
      rcases hr.1 with h1 | h1
      · exfalso
        have h0 := Nat.eq_of_beq_eq_true h1
        obtain ⟨t, ht⟩ := hc
        have : Nat.testBit (Nat.lor (Nat.land w (Nat.lor L W)) (Nat.land k W)) t = true := by
          simp
          exact ht
        grind
      · have h0 := Nat.eq_of_beq_eq_true h1
        have e : Nat.testBit R i = decide (Nat.land (Nat.shiftRight R i) 1 = 1) := by
          show ((1 &&& (R >>> i)) != 0) = decide ((R >>> i) &&& 1 = 1)
          grind
        grind
    · exact rowOk_spec hr.2 i w k h hc
theorem gOk_spec : ∀ {ms : List (Nat × Nat)} {rs : List Nat} {j0 : Nat} {pre : List (Nat × Nat × Nat)}, gOk j0 pre ms rs = true → ms.length ≤ rs.length →
    ∀ (j : Nat) (W L : Nat), ms[j]? = some (W, L) → (∀ i w k, (i, w, k) ∈ pre → confl W L w k → Nat.testBit (rs.getD j 0) i = true) ∧
      ∀ (i : Nat) (w k : Nat), i < j → ms[i]? = some (w, k) → confl W L w k → Nat.testBit (rs.getD j 0) (j0 + i) = true
  | [], _, _, _, _, _, j, W, L, h => by simp at h
  | (W0, L0) :: ms, [], _, _, _, hl, j, W, L, h => by simp at hl
  | (W0, L0) :: ms, R :: rs, j0, pre, hg, hl, 0, W, L, h => by
    simp at h
    obtain ⟨rfl, rfl⟩ := h
    simp only [gOk, Bool.and_eq_true] at hg
    exact ⟨fun i w k hm hc => by simpa using rowOk_spec hg.1 i w k hm hc, fun i w k hi => by omega⟩
  | (W0, L0) :: ms, R :: rs, j0, pre, hg, hl, j + 1, W, L, h => by
    simp at h
    simp only [gOk, Bool.and_eq_true] at hg
    obtain ⟨h1, h2⟩ := gOk_spec hg.2 (by grind) j W L h
    refine ⟨fun i w k hm hc => by grind, fun i w k hi hm hc => ?_⟩
    cases i<;>grind
theorem noWr_spec : ∀ {rs : List ((V × Wr) × List Nat)}, noWr rs = true → ∀ r ∈ rs, slotOf r.1.2 = none
  | [], _, r, h => by simp at h
  | x :: rs, hn, r, h => by
    simp only [noWr] at hn
    split at hn
    · rename_i hx
      rcases List.mem_cons.1 h with rfl | h
      · rw [hx]; rfl
      · exact noWr_spec hn r h
    · cases hn
theorem infos_get : ∀ {l : List IOper} {rs : List ((V × Wr) × List Nat)} {i : Nat} {o : IOper} {r : (V × Wr) × List Nat}, l[i]? = some o → rs[i]? = some r →
    (infos l rs)[i]? = some { dst := o.dst, lk := lookT o, rd := r.2, ws := slotOf r.1.2, after := o.after }
  | [], _, _, _, _, h, _ => by simp at h
  | _ :: _, [], _, _, _, _, h => by simp at h
  | o :: l, r :: rs, 0, _, _, h1, h2 => by grind[infos]
  | o :: l, r :: rs, i + 1, _, _, h1, h2 => by simp at h1 h2; simp [infos]; exact infos_get h1 h2
theorem infos_inv : ∀ {l : List IOper} {rs : List ((V × Wr) × List Nat)} {i : Nat} {d : DInfo}, (infos l rs)[i]? = some d → ∃ o r, l[i]? = some o ∧ rs[i]? = some r ∧ d = { dst := o.dst, lk := lookT o, rd := r.2, ws := slotOf r.1.2, after := o.after }
  | [], _, _, _, h => by simp [infos] at h
  | _ :: _, [], _, _, h => by simp [infos] at h
  | o :: l, r :: rs, 0, d, h => by grind[infos]
  | o :: l, r :: rs, i + 1, d, h => by simp [infos] at h; simpa using infos_inv h
theorem drawOk_spec {l : List IOper} {rs : List ((V × Wr) × List Nat)} (h : drawOk l rs = true) (hlen : rs.length = l.length) : Looked (infos l rs) (fun j i => Nat.testBit ((reaches 0 [] l).getD j 0) i = true) := by
  simp only [drawOk, statOk, Bool.and_eq_true, Bool.or_eq_true] at h
  obtain ⟨⟨h1, h2⟩, h3⟩ := h
  refine ⟨fun j d hd e he => ?_, fun j i hi => ?_, fun i j x y hij hx hy hm => ?_⟩
  · obtain ⟨o, r, ho, hr, rfl⟩ := infos_inv hd
    have := befOk_spec h1 j o ho e he
    omega
  · have hj : j < l.length := by
      rcases Nat.lt_or_ge j l.length with h | h
      · exact h
      · rw [List.getD_eq_getElem?_getD, List.getElem?_eq_none (by grind[reaches_length])] at hi
        simp at hi
    have ho : l[j]? = some l[j] := List.getElem?_eq_getElem hj
    have hr : rs[j]? = some (rs[j]'(by omega)) := List.getElem?_eq_getElem _
    obtain ⟨e, h4, h5⟩ := reaches_spec h1 (fun e m hm hne => by grind[lookM]) j _ ho i hi
    refine ⟨_, infos_get ho hr, e, h4, ?_⟩
    grind
  · obtain ⟨o, r, ho, hr, rfl⟩ := infos_inv hx
    obtain ⟨o', r', ho', hr', rfl⟩ := infos_inv hy
    have k1 := (gOk_spec h2 (by simp [statM, reaches_length]) j (maskO o'.dst) (maskL (lookT o')) (by simp [statM, ho'])).2 i (maskO o.dst) (maskL (lookT o)) hij (by simp [statM, ho])
    simp at k1
    simp only [meet, Bool.or_eq_true, inO_iff, sameO_iff] at hm
    have dyn : (∃ b, (slotOf r.1.2 = some b ∧ (b ∈ r'.2 ∨ slotOf r'.1.2 = some b)) ∨ (b ∈ r.2 ∧ slotOf r'.1.2 = some b)) → Nat.testBit ((reaches 0 [] l).getD j 0) i = true := by
      rintro ⟨b, hb⟩
      rcases h3 with h3 | h3
      · have e1 := noWr_spec h3 r (List.mem_of_getElem? hr)
        have e2 := noWr_spec h3 r' (List.mem_of_getElem? hr')
        grind
      · have k2 := (gOk_spec h3 (by grind[dynM,reaches_length]) j (maskO (slotOf r'.1.2)) (maskL r'.2) (by simp [dynM, hr'])).2 i (maskO (slotOf r.1.2)) (maskL r.2) hij (by simp [dynM, hr])
        simp at k2
        refine k2 ⟨b, ?_⟩
        grind[tb_maskO,tb_maskL]
    rcases hm with ((((⟨t, e1, e2⟩ | ⟨t, e1, e2⟩) | ⟨t, e1, e2⟩) | ⟨t, e1, e2⟩) | ⟨t, e1, e2⟩) | ⟨t, e1, e2⟩
    · exact k1 ⟨t, .inl ⟨tb_maskO.2 e1, .inl (tb_maskL.2 e2)⟩⟩
    · exact k1 ⟨t, .inr ⟨tb_maskL.2 e2, tb_maskO.2 e1⟩⟩
    · exact k1 ⟨t, .inl ⟨tb_maskO.2 e1, .inr (tb_maskO.2 e2)⟩⟩
    all_goals grind
def Closed (l : List IOper) (K : Nat → Bool) : Prop := ∀ (j : Nat) (o : IOper), l[j]? = some o → K j = true → ∀ e ∈ o.after, K e = true
theorem Closed.reach {l : List IOper} {rs : List ((V × Wr) × List Nat)} {rl : Nat → Nat → Prop} {K : Nat → Bool} (hl : Looked (infos l rs) rl) (hK : Closed l K) : ∀ (j i : Nat), rl j i → K j = true → K i = true := by
  intro j
  induction j using Nat.strongRecOn with
  | _ j ih =>
    intro i hr hj
    obtain ⟨d, hd, e, he, h⟩ := hl.reach j i hr
    obtain ⟨o, r, ho, _, rfl⟩ := infos_inv hd
    have hke := hK j o ho hj e he
    rcases h with rfl | h
    · exact hke
    · exact ih e (hl.before j _ hd e he) i h hke
theorem agree {l : List IOper} {rs : List ((V × Wr) × List Nat)} {rl : Nat → Nat → Prop} {K : Nat → Bool} (hl : Looked (infos l rs) rl) (hK : Closed l K) {i : Nat} {o : IOper} (ho : l[i]? = some o) (hi : K i = false) (hready : ∀ e ∈ o.after, K e = true)
    {j : Nat} {x y : DInfo} (hx : (infos l rs)[i]? = some x) (hy : (infos l rs)[j]? = some y) (hm : meet x y = true) (hm' : meet y x = true) : K j = decide (j < i) := by
  rcases Nat.lt_trichotomy j i with hj | hj | hj
  · simp only [hj, decide_true]
    have hr := hl.meets j i y x hj hy hx hm'
    obtain ⟨d, hd, e, he, h⟩ := hl.reach i j hr
    obtain ⟨o', r, ho', _, rfl⟩ := infos_inv hd
    rw [ho] at ho'; simp at ho'; subst ho'
    rcases h with rfl | h
    · grind
    · exact Closed.reach hl hK e j h (hready e he)
  · grind
  · have hr := hl.meets i j x y hj hx hy hm
    have : decide (j < i) = false := by simp; omega
    rw [this]
    cases hk : K j with
    | false => rfl
    | true => rw [Closed.reach hl hK j i hr hk] at hi; cases hi
theorem meet_comm (x y : DInfo) : meet x y = meet y x := by
  have h1 : sameO x.dst y.dst = sameO y.dst x.dst := by
    rw [Bool.eq_iff_iff, sameO_iff, sameO_iff]
    grind
  have h2 : sameO x.ws y.ws = sameO y.ws x.ws := by
    rw [Bool.eq_iff_iff, sameO_iff, sameO_iff]
    grind
  unfold meet
  grind
theorem guardB_congr {gd : Option (Nat × Bool)} {tm tm' : List (Nat × V)} (h : ∀ d w, gd = some (d, w) → get tm' d = get tm d) : guardB gd tm' = guardB gd tm := by
  cases gd<;>grind[guardB]
theorem evo_congr {tm tm' : List (Nat × V)} {x : Opd} (h : ∀ t, opdT x = some t → get tm' t = get tm t) : evo GL tm' x = evo GL tm x := by
  cases x with
  | t n => exact h n rfl
  | _ => rfl
theorem mlist_congr' {ρ ρ' : Opd → V} : ∀ {l : List Opd}, (∀ x ∈ l, ρ' x = ρ x) → mlist ρ' l = mlist ρ l
  | [], _ => rfl
  | x :: l, h => by simp only [mlist]; rw [h x (by simp), mlist_congr' fun y hy => h y (List.mem_cons_of_mem _ hy)]
theorem callE_congr {ρ ρ' : Opd → V} {op : IOp} (h : ∀ x ∈ looks op, ρ' x = ρ x) : callE ρ' op = callE ρ op := by
  cases op <;> first
    | rfl
    | (rename_i f as; simp only [callE]; rw [mlist_congr' (l := as) (fun x hx => h x (by simpa [looks] using hx))]; done)
    | (rename_i x as; simp only [callE]; rw [h x (by simp [looks]), mlist_congr' (l := as) (fun y hy => h y (by simp [looks, hy]))])
theorem oneD_congr {tm tm' : List (Nat × V)} {H H' : Heap} {ns : Nat} {o : IOper} {cv : Option V} (h1 : ∀ t ∈ lookT o, get tm' t = get tm t) (h2 : ∀ b ∈ rds (evo GL tm) o.op, hget H' b = hget H b) : oneD GL tm' H' ns o cv = oneD GL tm H ns o cv := by
  have hg : guardB o.guard tm' = guardB o.guard tm := guardB_congr (fun d w hd => h1 d (by simp [lookT, hd]))
  have he : ∀ x ∈ looks o.op, evo GL tm' x = evo GL tm x := fun x hx => evo_congr (fun t ht => h1 t (by grind[lookT]))
  unfold oneD
  rw [hg, eff_congr he h2, effF_congr he, callE_congr he]
theorem oneX_congr {tm tm' : List (Nat × V)} {H H' : Heap} {ns : Nat} {o : IOper} {cv : Option CV} (h1 : ∀ t ∈ lookT o, get tm' t = get tm t) (h2 : ∀ b ∈ rds (evo GL tm) o.op, hget H' b = hget H b) : oneX GL tm' H' ns o cv = oneX GL tm H ns o cv := by
  have hg : guardB o.guard tm' = guardB o.guard tm := guardB_congr (fun d w hd => h1 d (by simp [lookT, hd]))
  have he : ∀ x ∈ looks o.op, evo GL tm' x = evo GL tm x := fun x hx => evo_congr (fun t ht => h1 t (by grind[lookT]))
  match cv with
  | none => exact oneD_congr (ns := ns) (cv := none) h1 h2
  | some (.v x) => exact oneD_congr (ns := ns) (cv := some x) h1 h2
  | some (.own cs n sz) => simp only [oneX]; rw [hg, callE_congr he]
theorem rds_call {ρ : Opd → V} {op : IOp} {f : FuncId} {args : List V} (h : callE ρ op = some (f, args)) {b : Nat} (hb : b ∈ args.flatMap refs1) : b ∈ rds ρ op := by
  cases op <;> simp only [callE, Option.some.injEq, Prod.mk.injEq] at h <;> try cases h
  · rename_i h; simp only [rds]; rw [h]; exact hb
  · split at h
    · rename_i he
      simp only [Option.some.injEq, Prod.mk.injEq] at h
      obtain ⟨rfl, rfl⟩ := h
      simp only [rds, he]; exact hb
    · cases h
theorem callE_none {ρ : Opd → V} {H : Heap} {ns : Nat} {op : IOp} {r : V × Wr} (h : eff ρ H ns op = some r) : callE ρ op = none := by
  cases op <;> first | rfl | (simp only [eff] at h; cases h)
theorem callE_run {o' : Oper} {op : IOp} {f : FuncId} {args : List V} {g : G} {w : World} {a : Act} {σ : St} (hop : (compOp P o'.op).getD .bad = op) (hc : callE (evo GL σ.tm) op = some (f, args)) (hr : R GL g w a σ) (hca : callable P f = true) :
    (∀ c, o'.op ≠ .defer c) ∧ ∃ vs : Array Value, RVs g w args vs.toList ∧ (execOp a.eval o').run P w = .ok (.enter f vs) w := by
  have hne : op ≠ .bad := by rintro rfl; cases hc
  have hcomp := comp_of hop hne
  refine ⟨comp_not_defer hcomp, ?_⟩
  cases op <;> simp only [callE, Option.some.injEq, Prod.mk.injEq] at hc <;> try cases hc
  · rename_i f' as h1 h2
    subst h1; subst h2
    obtain ⟨c, hcc, hcp⟩ := comp_isCall hcomp (.inl ⟨f', as, rfl⟩)
    have hcal : c.callee = .value (.func f') ∧ mapO compOpd c.args.toList = some as := by
      unfold compCall at hcp
      grind[Option.map_eq_some_iff,IOp.call.injEq]
    refine ⟨c.args.map a.eval, by simpa using mapOpds hr.ev hcal.2, ?_⟩
    have := run_callFunc hca (c.args.map a.eval) w
    simp_all[execOp,resolve,Act.eval,Deferred.ofValue,invoke]
  · rename_i x as
    split at hc
    · rename_i f' first cap hx
      simp only [Option.some.injEq, Prod.mk.injEq] at hc
      obtain ⟨rfl, rfl⟩ := hc
      obtain ⟨c, hcc, hcp⟩ := comp_isCall hcomp (.inr ⟨x, as, rfl⟩)
      have hcal : ∃ t, c.callee = .value (.tmp t) ∧ x = .t t ∧ mapO compOpd c.args.toList = some as := by
        unfold compCall at hcp
        grind[Option.map_eq_some_iff,IOp.callv.injEq]
      obtain ⟨t, ht, rfl, hargs⟩ := hcal
      have hv := hr.ev (.tmp t) (.t t) rfl
      rw [hx] at hv
      simp only [RV] at hv
      obtain ⟨p, q, e1, e2, e3⟩ := hv
      refine ⟨p ++ c.args.map a.eval ++ q, ?_, ?_⟩
      · simp only [Array.toList_append, Array.toList_map]
        exact RVs.append (RVs.append e2 (mapOpds hr.ev hargs)) e3
      · have := run_callFunc hca (p ++ c.args.map a.eval ++ q) w
        grind[Array.append_assoc,execOp,resolve,Deferred.ofValue,invoke]
    · cases hc
theorem RV.owns {g : G} {w : World} {H : Heap} (hh : HeapOK g w H) : ∀ b x k, g.γ b = some x → x.own = some k → k < w.heap.size := by
  intro b x k hx hk
  obtain ⟨_, y, _, h3⟩ := hh.live b x hx
  exact h3.lt k hk
def CallD (P : Program) (GL : GLT) (f : FuncId) (args : List V) (H : Heap) (v : V) : Prop :=
  callable P f = true ∧ ∀ H', (∀ b ∈ args.flatMap refs1, hget H' b = hget H b) → ∀ g w (vs : Array Value), RVs g w args vs.toList → HeapOK g w H' → Globs GL g w →
    Calls P f vs w fun e w' => ∃ x, e = .returned x ∧ RV g w' v x ∧ Ext g w g w' ∧ HeapOK g w' H'
theorem PC.callD {f : FuncId} {args : List V} {H : Heap} {v : V} (h : PC P GL f args v) : CallD P GL f args H v := by
  refine ⟨h.1, fun H' _ g w vs hvs hh hg => (h.2 g w vs hvs (fun k hk => (hh.fo k hk).1) (RV.owns hh) hg).mono ?_⟩
  rintro e w' ⟨x, rfl, hx, he, hown⟩
  exact ⟨x, rfl, hx, he, hh.ext he hown⟩
def CallR (P : Program) (GL : GLT) (f : FuncId) (args : List V) (H : Heap) (ns : Nat) (r : V × Wr) : Prop :=
  callable P f = true ∧ ∀ H', (∀ b ∈ args.flatMap refs1, hget H' b = hget H b) → ∀ g w (vs : Array Value), RVs g w args vs.toList → HeapOK g w H' → Globs GL g w → Fresh g ns →
    Calls P f vs w fun e w' => ∃ x g', e = .returned x ∧ RV g' w' r.1 x ∧ Ext g w g' w' ∧ HeapOK g' w' (happ H' r.2) ∧ DomLe g g' ns
theorem CallD.toR {f : FuncId} {args : List V} {H : Heap} {v : V} (h : CallD P GL f args H v) (ns : Nat) : CallR P GL f args H ns (v, none) :=
  ⟨h.1, fun H' hH g w vs hvs hh hg _ => (h.2 H' hH g w vs hvs hh hg).mono fun _ _ ⟨x, h1, h2, h3, h4⟩ => ⟨x, g, h1, h2, h3, h4, fun _ h => .inl h⟩⟩
theorem CallR.congr {f : FuncId} {args : List V} {H H2 : Heap} {ns : Nat} {r : V × Wr} (h : CallR P GL f args H ns r) (hh : ∀ b ∈ args.flatMap refs1, hget H2 b = hget H b) : CallR P GL f args H2 ns r :=
  ⟨h.1, fun H' h' => h.2 H' (fun b hb => (h' b hb).trans (hh b hb))⟩
theorem CallD.congr {f : FuncId} {args : List V} {H H2 : Heap} {v : V} (h : CallD P GL f args H v) (hh : ∀ b ∈ args.flatMap refs1, hget H2 b = hget H b) : CallD P GL f args H2 v :=
  ⟨h.1, fun H' h' => h.2 H' (fun b hb => (h' b hb).trans (hh b hb))⟩
theorem oneD_wp {ro : Option Nat} {o : IOper} {o' : Oper} {ops : Array Oper} {ns : Nat} {cv : Option V} {v : V} {wr : Wr} {g : G} {w : World} {a : Act} {σ : St} (hop : (compOp P o'.op).getD .bad = o.op) (hgd : compGuard ops.toList o' = some o.guard) (hdst : o'.dst = o.dst)
    (h1 : oneD GL σ.tm σ.hp ns o cv = some (v, wr)) (hq : ∀ f args, callE (evo GL σ.tm) o.op = some (f, args) → guardB o.guard σ.tm = some true → CallR P GL f args σ.hp ns (v, wr)) (hr : R GL g w a σ) (hns : Fresh g ns) (hd : ∀ d, o.dst = some d → d < σ.n)
    (K : Act → World → Prop) (Q' : Exit → Act → World → Prop)
    (hK : ∀ g' w' a', R GL g' w' a' (σ.putT o.dst v (happ σ.hp wr)) → Ext g w g' w' → DomLe g g' ns → K a' w') :
    if Region.wanted o' (yielded ops a.tmps) then OW ro P o' a w K Q' else K (a.put o'.dst undef) w := by
  have hput : ∀ v H', σ.put o.dst v H' = some (σ.putT o.dst v H') := by
    intro v H'
    cases ho : o.dst<;>grind[Nat.blt_eq,St.put,St.putT]
  unfold oneD at h1
  split at h1
  · cases h1
  · rename_i hg
    simp at h1
    obtain ⟨rfl, rfl⟩ := h1
    rw [wanted_of hr hgd hg, if_neg (by simp), hdst]
    exact hK g w _ (hr.stput (Ext.refl _ _) hr.heap (hput _ _) (by simp only [RV]; exact ⟨#[], rfl, by simp [RVs]⟩)) (Ext.refl _ _) (fun _ h => .inl h)
  · rename_i hg
    rw [wanted_of hr hgd hg, if_pos rfl]
    split at h1
    · rename_i fa hc
      obtain ⟨f, args⟩ := fa
      cases cv with
      | none => simp at h1
      | some cv =>
        simp at h1
        obtain ⟨rfl, rfl⟩ := h1
        have hpc := hq f args hc hg
        obtain ⟨hnd, vs, hvs, hrun⟩ := callE_run hop hc hr hpc.1
        refine OW.of hnd hrun ?_
        simp only [Oper.uponIn]
        refine ⟨fun h => FR_depth h, FR_calls ((hpc.2 σ.hp (fun _ _ => rfl) g w _ hvs hr.heap hr.globs hns).mono ?_)⟩
        rintro e w' ⟨x, g', rfl, hx, he, hown, hdl⟩
        simp only
        rw [hdst]
        exact hK g' w' _ (hr.stput he hown (hput _ _) hx) he hdl
    · split at h1
      · simp at h1
        obtain ⟨v', hv', rfl, rfl⟩ := h1
        obtain ⟨w', x, k1, k2, k3, k4⟩ := effF_good (P := P) (a := a) (o := o') (comp_of hop (fun e => by rw [e] at hv'; cases hv')) hv' hr.ev hr.heap
        refine OW.of (comp_not_defer (comp_of hop (fun e => by rw [e] at hv'; cases hv'))) k1 ?_
        simp only [Oper.uponIn]
        rw [hdst]
        exact hK g w' _ (hr.stput k4 k3 (hput _ _) k2) k4 (fun _ h => .inl h)
      · obtain ⟨g', w', nx, k1, k2, k3, k4, k5⟩ := eff_good (P := P) (a := a) (o := o') (comp_of hop (fun e => by rw [e] at h1; cases h1)) h1 hr.ev hr.heap hns
        have hnd := comp_not_defer (comp_of hop (fun e => by rw [e] at h1; cases h1))
        rcases k2 with ⟨x, rfl, hx⟩ | ⟨rfl, rfl⟩
        · refine OW.of hnd k1 ?_
          simp only [Oper.uponIn]
          rw [hdst]
          exact hK g' w' _ (hr.stput k4 k3 (hput _ _) hx) k4 k5
        · refine OW.of hnd k1 ?_
          simp only [Oper.uponIn]
          rw [hdst]
          exact hK g' w' _ (hr.stput k4 k3 (hput _ _) (by simp only [RV])) k4 k5
theorem oneX_wp {ro : Option Nat} {o : IOper} {o' : Oper} {ops : Array Oper} {ns : Nat} {cv : Option CV} {v : V} {wr : Wr} {g : G} {w : World} {a : Act} {σ : St} (hop : (compOp P o'.op).getD .bad = o.op) (hgd : compGuard ops.toList o' = some o.guard) (hdst : o'.dst = o.dst)
    (h1 : oneX GL σ.tm σ.hp ns o cv = some (v, wr)) (hq : ∀ f args, callE (evo GL σ.tm) o.op = some (f, args) → guardB o.guard σ.tm = some true → CallR P GL f args σ.hp ns (v, wr)) (hr : R GL g w a σ) (hns : Fresh g ns) (hd : ∀ d, o.dst = some d → d < σ.n)
    (K : Act → World → Prop) (Q' : Exit → Act → World → Prop)
    (hK : ∀ g' w' a', R GL g' w' a' (σ.putT o.dst v (happ σ.hp wr)) → Ext g w g' w' → DomLe g g' ns → K a' w') :
    if Region.wanted o' (yielded ops a.tmps) then OW ro P o' a w K Q' else K (a.put o'.dst undef) w := by
  match cv, h1 with
  | none, h1 => exact oneD_wp hop hgd hdst h1 hq hr hns hd K Q' hK
  | some (.v x), h1 => exact oneD_wp hop hgd hdst h1 hq hr hns hd K Q' hK
  | some (.own cs n sz), h1 =>
    have hput : ∀ v H', σ.put o.dst v H' = some (σ.putT o.dst v H') := by
      intro v H'
      cases ho : o.dst<;>grind[Nat.blt_eq,St.put,St.putT]
    simp only [oneX] at h1
    split at h1
    · rename_i fa hg hc
      obtain ⟨f, args⟩ := fa
      rw [wanted_of hr hgd hg, if_pos rfl]
      have hpc := hq f args hc hg
      obtain ⟨hnd, vs, hvs, hrun⟩ := callE_run hop hc hr hpc.1
      refine OW.of hnd hrun ?_
      simp only [Oper.uponIn]
      refine ⟨fun h => FR_depth h, FR_calls ((hpc.2 σ.hp (fun _ _ => rfl) g w _ hvs hr.heap hr.globs hns).mono ?_)⟩
      rintro e w' ⟨x, g', rfl, hx, he, hown, hdl⟩
      simp only
      rw [hdst]
      exact hK g' w' _ (hr.stput he hown (hput _ _) hx) he hdl
    · cases h1
def addK (K : Nat → Bool) (i : Nat) : Nat → Bool := fun j => K j || decide (j = i)
theorem foldK_add_tm {K : Nat → Bool} {i t : Nat} : ∀ {l : List IOper} {rs : List ((V × Wr) × List Nat)} {i0 k : Nat} {σ : St} {o : IOper} {r : (V × Wr) × List Nat}, i = i0 + k → l[k]? = some o → rs[k]? = some r → K i = false →
    l.length = rs.length → (∀ (j : Nat) (o' : IOper), l[j]? = some o' → j ≠ k → o'.dst = some t → o.dst = some t → K (i0 + j) = true → j < k) → get (foldK (addK K i) i0 l rs σ).tm t = if o.dst = some t then r.1.1 else get (foldK K i0 l rs σ).tm t := by
  intro l rs i0 k σ o r hik ho hr hi hlen hlast
  by_cases hd : o.dst = some t
  · rw [if_pos hd]
    induction l generalizing rs i0 k σ with
    | nil => simp at ho
    | cons p l ih =>
      cases rs with
      | nil => simp at hr
      | cons q rs =>
        simp only [foldK]
        cases k with
        | zero =>
          simp at ho hr hik; subst ho; subst hr; subst hik
          have hself : addK K i i = true := by simp [addK]
          rw [hself, cond_true]
          have hno : ∀ (l' : List IOper) (rs' : List ((V × Wr) × List Nat)) (m : Nat) (s : St), (∀ (j : Nat) (o' : IOper), l'[j]? = some o' → o'.dst = some t → addK K i (m + j) = false) → get (foldK (addK K i) m l' rs' s).tm t = get s.tm t := by
            intro l'
            induction l' with
            | nil => grind[foldK]
            | cons p' l' ih' =>
              intro rs' m s hn
              cases rs' with
              | nil => simp [foldK]
              | cons q' rs' =>
                simp only [foldK]
                rw [ih' rs' (m + 1) _ (fun j o' h e => by have := hn (j + 1) o' (by grind) e; grind)]
                by_cases hs : p'.dst = some t
                · have := hn 0 p' rfl hs
                  grind
                grind[get_putT]
          rw [hno _ _ _ _ (fun j o' h e => by
            have hl := hlast (j + 1) o' (by grind) (by omega) e hd
            have hne : i + 1 + j ≠ i := by omega
            simp only [addK, hne, decide_false, Bool.or_false]
            grind)]
          simp [get_putT, hd]
        | succ k =>
          grind
  · rw [if_neg hd]
    refine foldK_tm rfl (fun j o' h1 h2 => ?_)
    grind[Option.some.injEq,addK]
theorem foldK_add_hp {K : Nat → Bool} {i b : Nat} : ∀ {l : List IOper} {rs : List ((V × Wr) × List Nat)} {i0 k : Nat} {σ : St} {r : (V × Wr) × List Nat}, l.length = rs.length → i = i0 + k → rs[k]? = some r → K i = false →
    (∀ (j : Nat) (r' : (V × Wr) × List Nat), rs[j]? = some r' → j ≠ k → slotOf r'.1.2 = some b → slotOf r.1.2 = some b → K (i0 + j) = true → j < k) → hget (foldK (addK K i) i0 l rs σ).hp b = hget (happ (foldK K i0 l rs σ).hp r.1.2) b := by
  intro l rs i0 k σ r hlen hik hr hi hlast
  have hpp : ∀ (s : St) (o : IOper) (q : (V × Wr) × List Nat), (s.putT o.dst q.1.1 (happ s.hp q.1.2)).hp = happ s.hp q.1.2 := by intro s o q; cases o.dst <;> rfl
  by_cases hd : slotOf r.1.2 = some b
  · have hval : hget (happ (foldK K i0 l rs σ).hp r.1.2) b = hget (happ [] r.1.2) b := by
      cases hw : r.1.2<;>grind[slotOf,Option.some.injEq,happ,hget_hput]
    rw [hval]
    clear hval
    induction rs generalizing l i0 k σ with
    | nil => simp at hr
    | cons q rs ih =>
      cases l with
      | nil => grind
      | cons p l =>
        simp only [foldK]
        cases k with
        | zero =>
          simp at hr hik; subst hr; subst hik
          have hself : addK K i i = true := by simp [addK]
          rw [hself, cond_true]
          have hno : ∀ (rs' : List ((V × Wr) × List Nat)) (l' : List IOper) (m : Nat) (s : St), (∀ (j : Nat) (r' : (V × Wr) × List Nat), rs'[j]? = some r' → slotOf r'.1.2 = some b → addK K i (m + j) = false) → hget (foldK (addK K i) m l' rs' s).hp b = hget s.hp b := by
            intro rs'
            induction rs' with
            | nil => grind[foldK]
            | cons q' rs' ih' =>
              intro l' m s hn
              cases l' with
              | nil => simp [foldK]
              | cons p' l' =>
                simp only [foldK]
                rw [ih' l' (m + 1) _ (fun j r' h e => by have := hn (j + 1) r' (by grind) e; grind)]
                by_cases hs : slotOf q'.1.2 = some b
                · have := hn 0 q' rfl hs
                  grind
                · cases addK K i m with
                  | false => rfl
                  | true =>
                    simp only [cond_true, hpp, hget_happ]
                    grind[slotOf,Option.some.injEq]
          rw [hno _ _ _ _ (fun j r' h e => by
            have hl := hlast (j + 1) r' (by grind) (by omega) e hd
            have hne : i + 1 + j ≠ i := by omega
            simp only [addK, hne, decide_false, Bool.or_false]
            grind)]
          rw [hpp]
          cases hw : q.1.2<;>grind[slotOf,Option.some.injEq,happ,hget_hput]
        | succ k =>
          grind
  · have hval : hget (happ (foldK K i0 l rs σ).hp r.1.2) b = hget (foldK K i0 l rs σ).hp b := by
      grind[hget_happ,slotOf,Option.some.injEq]
    rw [hval]
    refine foldK_hp rfl (fun j r' h1 h2 => ?_)
    grind[Option.some.injEq,addK]
end
end Fw

/-
  A region whose order is drawn: the rule.
-/
namespace Fw
open Go
def bareO (o : IOper) : IOper := { o with after := [] }
def chainB (k : Nat) (l : List IOper) : Bool := (List.range l.length).all fun j => Nat.ble j k || ((l[j]?).map fun o => o.after.contains (j - 1)).getD false
section
variable {P : Program} {GL : GLT}
theorem foldK_congr {K K' : Nat → Bool} : ∀ {l : List IOper} {rs : List ((V × Wr) × List Nat)} {i : Nat} {σ : St}, (∀ j, j < l.length → K (i + j) = K' (i + j)) → foldK K i l rs σ = foldK K' i l rs σ
  | [], _, _, _, _ => by simp [foldK]
  | _ :: _, [], _, _, _ => by simp [foldK]
  | o :: l, r :: rs, i, σ, h => by
    simp only [foldK]
    have h0 := h 0 (by simp)
    simp at h0
    rw [h0]
    exact foldK_congr (fun j hj => by have := h (j + 1) (by simp; omega); grind)
theorem foldK_none : ∀ {l : List IOper} {rs : List ((V × Wr) × List Nat)} {k : Nat} {K : Nat → Bool} {σ : St}, (∀ j, k ≤ j → K j = false) → foldK K k l rs σ = σ
  | [], _, _, _, _, _ => by simp [foldK]
  | _ :: _, [], _, _, _, _ => by simp [foldK]
  | o :: l, r :: rs, k, K, σ, h => by
    simp only [foldK, h k (Nat.le_refl _), cond_false]
    exact foldK_none fun j hj => h j (by omega)
theorem foldK_len {K : Nat → Bool} {m : Nat} : ∀ {l : List IOper} {rs : List ((V × Wr) × List Nat)} {i : Nat} {σ : St}, σ.hp.length = m → (∀ r ∈ rs, ∀ b, slotOf r.1.2 = some b → b < m) → (foldK K i l rs σ).hp.length = m
  | [], _, _, _, h, _ => by grind[foldK]
  | _ :: _, [], _, _, h, _ => by grind[foldK]
  | o :: l, r :: rs, i, σ, h, hs => by
    simp only [foldK]
    refine foldK_len ?_ (fun r' hr' => hs r' (by simp [hr']))
    cases K i with
    | false => exact h
    | true =>
      have hpp : (σ.putT o.dst r.1.1 (happ σ.hp r.1.2)).hp = happ σ.hp r.1.2 := by cases o.dst <;> rfl
      simp only [cond_true, hpp]
      cases hw : r.1.2 with
      | none => exact h
      | some p =>
        obtain ⟨b, y⟩ := p
        have hb := hs r (by simp) b (by rw [hw]; rfl)
        simp only [happ]
        rw [hput_length (by omega)]
        exact h
theorem compD_get {ops : Array Oper} {l : List IOper} (hc : compOps P ops.toList true ops.toList = some l) : l.length = ops.size ∧ ∀ (i : Nat) (o' : Oper), ops[i]? = some o' → ∃ o : IOper, l[i]? = some o ∧ (compOp P o'.op).getD .bad = o.op ∧ compGuard ops.toList o' = some o.guard ∧ o'.dst = o.dst ∧ o.after = compAfter o' := by
  refine ⟨by have := mapO_length hc; grind, fun i o' ho' => ?_⟩
  obtain ⟨o, h1, h2⟩ := mapO_get i o' hc (by grind)
  refine ⟨o, h1, ?_⟩
  unfold compOper at h2
  grind
def dstOk (n : Nat) (l : List IOper) : Bool := l.all fun o => match o.dst with | some d => Nat.blt d n | none => true
def slotOk (m : Nat) (rs : List ((V × Wr) × List Nat)) : Bool := rs.all fun r => match slotOf r.1.2 with | some b => Nat.blt b m | none => true
def preD (l : List IOper) (rs : List ((V × Wr) × List Nat)) (σ : St) (i : Nat) : St := foldK (fun j => decide (j < i)) 0 l rs σ
def padSt (σ : St) (n : Nat) : St := ⟨σ.n, σ.tm, σ.hp ++ List.replicate n none⟩
def shiftO (k : Nat) (o : IOper) : IOper := { o with after := (o.after.filter fun e => Nat.ble k e).map (· - k) }
def restD (k : Nat) (l : List IOper) : List IOper := (l.drop k).map (shiftO k)
def barG (m : Nat) : List Nat → Bool
  | [] => true
  | r :: rs => Nat.beq (Nat.land r (2 ^ m - 1)) (2 ^ m - 1) && barG m rs
def barOk (k m : Nat) (l : List IOper) : Bool := befOk 0 (restD k l) && barG m ((reaches 0 [] (restD k l)).drop m)
def DP (P : Program) (GL : GLT) (mm : Nat) (l : List IOper) (k : Nat) (σ : St) (Q : Ex → St → Prop) : Prop :=
  ∀ (ro : Option Nat) (ops : Array Oper), compOps P ops.toList true ops.toList = some l → ∀ (listed : Array Bool) g w a g0 w0, listed.size = ops.size → (∀ j, listed.getD j false = decide (j < k)) → R GL g w a σ → (∀ b, g0.dom b → b < mm) → Ext g0 w0 g w →
    wpAnyIn (FR ro) 0 P .any ops (postC GL g0 w0 Q) (ops.size - k) listed a w
theorem barG_get {m : Nat} : ∀ {rs : List Nat} {i : Nat}, barG m rs = true → i < rs.length → ∀ j, j < m → Nat.testBit (rs.getD i 0) j = true
  | [], i, _, h, _, _ => by simp at h
  | r :: rs, 0, h, _, j, hj => by
    simp only [barG, Bool.and_eq_true] at h
    have e := Nat.eq_of_beq_eq_true h.1
    have h1 : Nat.testBit (Nat.land r (2 ^ m - 1)) j = true := by grind
    rw [tb_and, Bool.and_eq_true] at h1
    grind
  | r :: rs, i + 1, h, hi, j, hj => by
    simp only [barG, Bool.and_eq_true] at h
    rw [List.getD_cons_succ]
    exact barG_get h.2 (by grind) j hj
theorem reach_closed {l : List IOper} {K : Nat → Bool} (hb : befOk 0 l = true) (hK : Closed l K) : ∀ j i, Nat.testBit ((reaches 0 [] l).getD j 0) i = true → K j = true → K i = true := by
  intro j
  induction j using Nat.strongRecOn with
  | _ j ih =>
    intro i hi hj
    have hjl : j < l.length := by
      rcases Nat.lt_or_ge j l.length with h | h
      · exact h
      · rw [List.getD_eq_getElem?_getD, List.getElem?_eq_none (by grind[reaches_length])] at hi
        simp at hi
    have ho : l[j]? = some l[j] := List.getElem?_eq_getElem hjl
    obtain ⟨e, h4, h5⟩ := reaches_spec hb (fun e m hm hne => by grind[lookM]) j _ ho i hi
    have hke := hK j _ ho hj e h4
    have hlt := befOk_spec hb j _ ho e h4
    grind
theorem restD_get {k : Nat} {l : List IOper} {i : Nat} {o : IOper} (h : l[k + i]? = some o) : (restD k l)[i]? = some (shiftO k o) := by
  grind[restD]
theorem restD_inv {k : Nat} {l : List IOper} {i : Nat} {o : IOper} (h : (restD k l)[i]? = some o) : ∃ o', l[k + i]? = some o' ∧ o = shiftO k o' := by
  grind[restD,Option.map_eq_some_iff]
theorem mem_shift {k : Nat} {o : IOper} {e : Nat} : e ∈ (shiftO k o).after ↔ k + e ∈ o.after := by
  simp only [shiftO, List.mem_map, List.mem_filter, Nat.ble_eq]
  grind
theorem WC.drawDP {l : List IOper} {σ : St} {Q : Ex → St → Prop} (hm : P.follows .mixedOrders = true) (h : DP P GL σ.hp.length l 0 σ Q) : WC P GL (.draw l) σ Q := by
  intro code hc ro hro g w act hr
  obtain ⟨id, ops, rfl, hl⟩ : ∃ id ops, code = .region id ops true ∧ compOps P ops.toList true ops.toList = some l := by
    cases code with
    | region id ops draw =>
      grind[compCode]
    | seq => grind[compCode]
    | cond => grind[compCode]
    | _ => simp [compCode] at hc
  refine wpIn_region_any hm ?_
  have hfalse : ∀ j, (Array.replicate ops.size false).getD j false = false := by
    intro j
    rw [Array.getD_eq_getD_getElem?, Array.getElem?_replicate]
    grind
  exact h ro ops hl (Array.replicate ops.size false) g _ act g w (by simp) (fun j => by grind) (hr.drawn _) (fun b hb => hr.heap.dom b hb) (Ext.drawn g w _)
theorem DP.done {mm : Nat} {l : List IOper} {σ : St} {Q : Ex → St → Prop} (h : Q .normal σ) : DP P GL mm l l.length σ Q := by
  intro ro ops hl listed g w a g0 w0 hsz hK hR hm hE
  obtain ⟨hlen, _⟩ := compD_get hl
  rw [hlen, Nat.sub_self]
  refine ⟨?_, g, σ, hR, hE, h⟩
  unfold Region.ready
  grind[List.filter_eq_nil_iff,Array.getD_eq_getD_getElem?]
theorem DP.part {mm : Nat} {l : List IOper} {k : Nat} (m : Nat) {σ : St} {Q : Ex → St → Prop} {qc : Nat → Option CV} {rs : List ((V × Wr) × List Nat)} {lp : List IOper} (hlp : (restD k l).take m = lp) (hm : Nat.ble (k + m) l.length = true) (hbar : barOk k m l = true)
    (hrun : runD GL σ.hp.length qc 0 lp (padSt σ lp.length) = some rs) (hok : drawOk lp rs = true) (hdst : dstOk σ.n lp = true) (hslot : slotOk (σ.hp.length + lp.length) rs = true)
    (hq : ∀ (i : Nat) (o : IOper) (r : (V × Wr) × List Nat), lp[i]? = some o → rs[i]? = some r → ∀ f args, callE (evo GL (preD lp rs (padSt σ lp.length) i).tm) o.op = some (f, args) → guardB o.guard (preD lp rs (padSt σ lp.length) i).tm = some true → CallR P GL f args (preD lp rs (padSt σ lp.length) i).hp (σ.hp.length + i) r.1)
    (h : DP P GL mm l (k + m) (foldK (fun _ => true) 0 lp rs (padSt σ lp.length)) Q) : DP P GL mm l k σ Q := by
  intro ro ops hl listed0 g w act g0 w0 hsz0 hK0 hr hdm hE0
  have hm := Nat.le_of_ble_eq_true hm
  simp only [barOk, Bool.and_eq_true] at hbar
  obtain ⟨hlen, hcomp⟩ := compD_get hl
  have hmlp : lp.length = m := by rw [← hlp]; simp [restD]; omega
  have hin0 : ∀ i, i < m → ∀ o, l[k + i]? = some o → lp[i]? = some (shiftO k o) := fun i hi o ho => by
    rw [← hlp, List.getElem?_take, if_pos hi]; exact restD_get ho
  have hinv0 : ∀ i o, lp[i]? = some o → (restD k l)[i]? = some o := fun i o ho => by
    rw [← hlp, List.getElem?_take] at ho
    split at ho
    · exact ho
    · cases ho
  obtain ⟨hrl, hrg⟩ := runD_get hrun
  have hlk := drawOk_spec hok hrl
  have hdst' : ∀ (i : Nat) (o : IOper), lp[i]? = some o → ∀ d, o.dst = some d → d < σ.n := by
    intro i o ho d hd
    have := (List.all_eq_true.1 hdst) o (List.mem_of_getElem? ho)
    rw [hd] at this
    simpa [Nat.blt_eq] using this
  have hslot' : ∀ r ∈ rs, ∀ b, slotOf r.1.2 = some b → b < σ.hp.length + lp.length := by
    intro r hr b hb
    have := (List.all_eq_true.1 hslot) r hr
    rw [hb] at this
    simpa [Nat.blt_eq] using this
  generalize hσp : padSt σ lp.length = σp at *
  have hpl : σp.hp.length = σ.hp.length + lp.length := by rw [← hσp]; simp [padSt]
  have hpn : σp.n = σ.n := by rw [← hσp]; rfl
  have key : ∀ (fuel : Nat) (listed : Array Bool) (g1 : G) (w1 : World) (a1 : Act), listed.size = ops.size → (∀ j, j < k → listed.getD j false = true) → (∀ j, k + m ≤ j → listed.getD j false = false) → ((List.range m).filter fun j => !listed.getD (k + j) false).length = fuel → Closed lp (fun j => listed.getD (k + j) false) →
      R GL g1 w1 a1 (foldK (fun j => listed.getD (k + j) false) 0 lp rs σp) → Ext g w g1 w1 → (∀ b, g1.dom b → b < σ.hp.length ∨ ∃ j, listed.getD (k + j) false = true ∧ b = σ.hp.length + j) →
      wpAnyIn (FR ro) 0 P .any ops (postC GL g0 w0 Q) (fuel + (ops.size - (k + m))) listed a1 w1 := by
    intro fuel
    induction fuel with
    | zero =>
      intro listed g1 w1 a1 hsz hlo hhi hcnt hcl hR hE hdom
      have hall : ∀ j, j < m → listed.getD (k + j) false = true := by
        intro j hj
        have := List.eq_nil_of_length_eq_zero hcnt
        rw [List.filter_eq_nil_iff] at this
        have := this j (by simpa using hj)
        simpa using this
      rw [Nat.zero_add]
      refine h ro ops hl listed g1 w1 a1 g0 w0 hsz (fun j => ?_) ?_ hdm (hE0.trans hE)
      · rcases Nat.lt_or_ge j k with h1 | h1
        · rw [hlo j h1, decide_eq_true (by omega)]
        · rcases Nat.lt_or_ge j (k + m) with h2 | h2
          · have := hall (j - k) (by omega)
            rw [show k + (j - k) = j by omega] at this
            rw [this, decide_eq_true h2]
          · rw [hhi j h2, decide_eq_false (by omega)]
      · rw [foldK_congr (K' := fun j => listed.getD (k + j) false) (fun j hj => by simp only [Nat.zero_add]; exact (hall j (by omega)).symm)]
        exact hR
    | succ fuel ih =>
      intro listed g1 w1 a1 hsz hlo hhi hcnt hcl hR hE hdom
      have hex : ∃ j, j < m ∧ listed.getD (k + j) false = false := by
        have hne : ((List.range m).filter fun j => !listed.getD (k + j) false) ≠ [] := by intro e; rw [e] at hcnt; simp at hcnt
        obtain ⟨j, hj⟩ := List.exists_mem_of_ne_nil _ hne
        rw [List.mem_filter] at hj
        exact ⟨j, by simpa using hj.1, by simpa using hj.2⟩
      rw [show fuel + 1 + (ops.size - (k + m)) = (fuel + (ops.size - (k + m))) + 1 by omega]
      constructor
      · intro hnil
        exfalso
        obtain ⟨j, ⟨hj1, hj2⟩, hmin⟩ := least hex
        have hoj : ops[k + j]? = some ops[k + j] := Array.getElem?_eq_getElem (by omega)
        obtain ⟨o, ho, _, _, _, haft⟩ := hcomp (k + j) _ hoj
        have hrj : j < rs.length := by omega
        have hin := infos_get (hin0 j hj1 o ho) (List.getElem?_eq_getElem hrj)
        have : k + j ∈ Region.ready .any ops listed := by
          unfold Region.ready
          rw [List.mem_filter]
          refine ⟨by rw [List.mem_range]; omega, ?_⟩
          have h2 : listed.getD (k + j) true = false := by
            rw [Array.getD_eq_getD_getElem?] at hj2 ⊢
            rw [Array.getElem?_eq_getElem (by omega)] at hj2 ⊢
            exact hj2
          simp only [h2, Bool.not_false, Bool.true_and, hoj, Option.map_some, Option.getD_some, Array.all_eq_true_iff_forall_mem]
          intro e he
          cases hb : Region.binds .any e with
          | false => rfl
          | true =>
            simp only [Bool.not_true, Bool.false_or]
            have hea : e.on ∈ o.after := by
              rw [haft]; simp only [compAfter, List.mem_map, List.mem_filter]
              exact ⟨e, ⟨by simpa using he, hb⟩, rfl⟩
            rcases Nat.lt_or_ge e.on k with h1 | h1
            · exact hlo _ h1
            · have hlt := hlk.before j _ hin (e.on - k) (mem_shift.2 (by rwa [show k + (e.on - k) = e.on by omega]))
              cases hq2 : listed.getD e.on false with
              | true => rfl
              | false => have := hmin (e.on - k) ⟨by omega, by rwa [show k + (e.on - k) = e.on by omega]⟩; omega
        rw [hnil] at this
        cases this
      · intro i0 hi
        unfold Region.ready at hi
        rw [List.mem_filter] at hi
        have hin : i0 < ops.size := by simpa using hi.1
        have hoi : ops[i0]? = some ops[i0] := Array.getElem?_eq_getElem hin
        have hi2 := hi.2
        simp only [Bool.and_eq_true, Bool.not_eq_true', hoi, Option.map_some, Option.getD_some, Array.all_eq_true_iff_forall_mem] at hi2
        obtain ⟨o0, ho0, hop, hgd, hd, haft⟩ := hcomp i0 _ hoi
        have hK0 : listed.getD i0 false = false := by
          have := hi2.1
          rw [Array.getD_eq_getD_getElem?] at this ⊢
          rw [Array.getElem?_eq_getElem (by omega)] at this ⊢
          exact this
        have hready0 : ∀ e ∈ o0.after, listed.getD e false = true := by
          intro e he
          rw [haft] at he
          simp only [compAfter, List.mem_map, List.mem_filter] at he
          obtain ⟨ed, ⟨he1, he2⟩, rfl⟩ := he
          have := hi2.2 ed (by simpa using he1)
          simpa [he2] using this
        have hki : k ≤ i0 := by
          rcases Nat.lt_or_ge i0 k with h1 | h1
          · rw [hlo i0 h1] at hK0; cases hK0
          · exact h1
        obtain ⟨i, rfl⟩ : ∃ i, i0 = k + i := ⟨i0 - k, by omega⟩
        have him : i < m := by
          rcases Nat.lt_or_ge i m with h1 | h1
          · exact h1
          · exfalso
            obtain ⟨j, hj1, hj2⟩ := hex
            have hrl2 : (restD k l).length = l.length - k := by simp [restD]
            have hbit : Nat.testBit ((reaches 0 [] (restD k l)).getD i 0) j = true := by
              have := barG_get (m := m) (i := i - m) hbar.2 (by rw [List.length_drop, reaches_length, hrl2]; omega) j hj1
              rw [List.getD_eq_getElem?_getD, List.getElem?_drop, show m + (i - m) = i by omega, ← List.getD_eq_getElem?_getD] at this
              exact this
            have hC : Closed (restD k l) (fun j => listed.getD (k + j) false || decide (j = i)) := by
              intro j' o' ho' hj' e he
              simp only [Bool.or_eq_true, decide_eq_true_eq] at hj' ⊢
              rcases hj' with hj' | rfl
              · have hjm : j' < m := by
                  rcases Nat.lt_or_ge j' m with h2 | h2
                  · exact h2
                  · rw [hhi (k + j') (by omega)] at hj'; cases hj'
                left
                refine hcl j' o' ?_ hj' e he
                rw [← hlp, List.getElem?_take, if_pos hjm]; exact ho'
              · obtain ⟨o2, k1, rfl⟩ := restD_inv ho'
                rw [ho0] at k1; simp at k1; subst k1
                exact .inl (hready0 _ (mem_shift.1 he))
            have := reach_closed hbar.1 hC i j hbit (by simp)
            simp only [Bool.or_eq_true, decide_eq_true_eq] at this
            rcases this with h2 | h2
            · rw [hj2] at h2; cases h2
            · omega
        obtain ⟨o, ho, hop, hgd, hd, hready⟩ : ∃ o, lp[i]? = some o ∧ (compOp P (ops[k + i]).op).getD .bad = o.op ∧ compGuard ops.toList ops[k + i] = some o.guard ∧ (ops[k + i]).dst = o.dst ∧ ∀ e ∈ o.after, listed.getD (k + e) false = true :=
          ⟨shiftO k o0, hin0 i him o0 ho0, hop, hgd, hd, fun e he => hready0 _ (mem_shift.1 he)⟩
        have hir : i < rs.length := by omega
        have hri : rs[i]? = some rs[i] := List.getElem?_eq_getElem hir
        obtain ⟨r, hr1, hr2, hr3⟩ := hrg i _ ho
        rw [hri] at hr1; simp at hr1
        simp at hr2 hr3
        have hKi : listed.getD (k + i) false = false := hK0
        have hinf := infos_get ho hri
        have hag : ∀ {j : Nat} {y : DInfo}, (infos lp rs)[j]? = some y → meet { dst := o.dst, lk := lookT o, rd := rs[i].2, ws := slotOf rs[i].1.2, after := o.after } y = true → listed.getD (k + j) false = decide (j < i) :=
          fun hy hm => agree hlk hcl ho hKi hready hinf hy hm (by rw [meet_comm]; exact hm)
        have htm : ∀ t ∈ lookT o, get (foldK (fun j => listed.getD (k + j) false) 0 lp rs σp).tm t = get (preD lp rs σp i).tm t := by
          intro t ht
          refine foldK_tm rfl (fun j o' h1 h2 => ?_)
          simp only [Nat.zero_add]
          have hjr : j < rs.length := by have := (List.getElem?_eq_some_iff.1 h1).1; omega
          have hinj := infos_get h1 (List.getElem?_eq_getElem hjr)
          refine hag hinj ?_
          unfold meet
          have : inO o'.dst (lookT o) = true := inO_iff.2 ⟨t, h2, ht⟩
          simp [this]
        have hhp : ∀ b ∈ rds (evo GL (preD lp rs σp i).tm) o.op, hget (foldK (fun j => listed.getD (k + j) false) 0 lp rs σp).hp b = hget (preD lp rs σp i).hp b := by
          intro b hb
          refine foldK_hp rfl (fun j r' h1 h2 => ?_)
          simp only [Nat.zero_add]
          have hjl : j < lp.length := by have := (List.getElem?_eq_some_iff.1 h1).1; omega
          have hinj := infos_get (List.getElem?_eq_getElem hjl) h1
          refine hag hinj ?_
          unfold meet
          have : inO (slotOf r'.1.2) rs[i].2 = true := inO_iff.2 ⟨b, h2, by rw [hr1, hr3]; exact hb⟩
          simp [this]
        have hone := oneX_congr (GL := GL) (ns := σ.hp.length + i) (cv := qc i) htm hhp
        have hr2' : oneX GL (preD lp rs σp i).tm (preD lp rs σp i).hp (σ.hp.length + i) o (qc i) = some r.1 := hr2
        rw [hr2'] at hone
        have hevo : ∀ x ∈ looks o.op, evo GL (foldK (fun j => listed.getD (k + j) false) 0 lp rs σp).tm x = evo GL (preD lp rs σp i).tm x := fun x hx => evo_congr (fun t ht => htm t (by simp only [lookT, List.mem_append, List.mem_filterMap]; exact .inl ⟨x, hx, ht⟩))
        have hgu : guardB o.guard (foldK (fun j => listed.getD (k + j) false) 0 lp rs σp).tm = guardB o.guard (preD lp rs σp i).tm := guardB_congr (fun d w hd => htm d (by simp [lookT, hd]))
        unfold wpOpIn
        simp only [hoi]
        have hwp := oneX_wp (ro := ro) (P := P) (GL := GL) (ops := ops) (v := r.1.1) (wr := r.1.2) hop hgd hd hone (fun f args hc hg1 => by
            rw [hgu] at hg1
            rw [callE_congr hevo] at hc
            have := hq i o rs[i] ho hri f args hc hg1
            rw [hr1] at this
            exact this.congr (fun b hb => hhp b (rds_call hc hb))) hR (by
            intro hd2
            rcases hdom _ hd2 with h1 | ⟨j, h1, h2⟩
            · omega
            · have : j = i := by omega
              subst this
              rw [hKi] at h1; cases h1) (fun d hd2 => by rw [foldK_n, hpn]; exact hdst' i o ho d hd2)
          (wpAnyIn (FR ro) 0 P .any ops (postC GL g0 w0 Q) (fuel + (ops.size - (k + m))) (listed.setIfInBounds (k + i) true)) (postC GL g0 w0 Q) (by
            intro g2 w2 a2 hR2 hE2 hD2
            have hK' : ∀ j, (listed.setIfInBounds (k + i) true).getD (k + j) false = addK (fun j => listed.getD (k + j) false) i j := by
              intro j
              simp only [addK, Array.getD_eq_getD_getElem?]
              by_cases hj : j = i
              · subst hj
                rw [Array.getElem?_setIfInBounds_self_of_lt (by omega)]; simp
              · rw [Array.getElem?_setIfInBounds_ne (by omega)]; simp [hj]
            have hKo : ∀ j, j ≠ k + i → (listed.setIfInBounds (k + i) true).getD j false = listed.getD j false := by
              intro j hj
              simp
              rw [Array.getElem?_setIfInBounds_ne (fun e => hj e.symm)]
            have hfold : foldK (fun j => (listed.setIfInBounds (k + i) true).getD (k + j) false) 0 lp rs σp = foldK (addK (fun j => listed.getD (k + j) false) i) 0 lp rs σp := foldK_congr (fun j _ => hK' _)
            refine ih _ g2 w2 a2 (by simpa using hsz) (fun j hj => by rw [hKo j (by omega)]; exact hlo j hj) (fun j hj => by rw [hKo j (by omega)]; exact hhi j hj) ?_ ?_ ?_ (hE.trans hE2) ?_
            · have e1 : (fun j => !(listed.setIfInBounds (k + i) true).getD (k + j) false) = fun j => !listed.getD (k + j) false && !decide (j = i) := by
                funext j; rw [hK' j]; simp [addK]
              rw [e1]
              have hcount : ∀ (m : Nat) (f : Nat → Bool), i < m → f i = true → ((List.range m).filter f).length = ((List.range m).filter fun j => f j && !decide (j = i)).length + 1 := by
                intro m f
                induction m with
                | zero => intro h; omega
                | succ m ihm =>
                  intro him hfi
                  rw [List.range_succ, List.filter_append, List.filter_append, List.length_append, List.length_append]
                  rcases Nat.lt_or_ge i m with h1 | h1
                  · rw [ihm h1 hfi]
                    have : m ≠ i := by omega
                    simp [List.filter_cons, this]
                    split <;> simp <;> omega
                  · have : m = i := by omega
                    subst this
                    have hsame : (List.range m).filter f = (List.range m).filter fun j => f j && !decide (j = m) := by
                      refine List.filter_congr (fun j hj => ?_)
                      have : j ≠ m := by have := List.mem_range.1 hj; omega
                      simp [this]
                    rw [← hsame]
                    simp [hfi]
              have := hcount m (fun j => !listed.getD (k + j) false) him (by simp [hKi])
              rw [hcnt] at this
              omega
            · intro j o' ho' hj e he
              simp only [hK'] at hj ⊢
              simp only [addK, Bool.or_eq_true, decide_eq_true_eq] at hj ⊢
              rcases hj with hj | rfl
              · exact .inl (hcl j o' ho' hj e he)
              · rw [ho] at ho'; simp at ho'; subst ho'
                exact .inl (hready e he)
            · rw [hfold]
              refine hR2.congr ?_ (fun t => ?_) ?_
              · rw [foldK_n]
                have : ∀ (s : St) (v : V) (H : Heap), (s.putT o.dst v H).n = s.n := by intro s v H; cases o.dst <;> rfl
                rw [this, foldK_n]
              · rw [foldK_add_tm (k := i) (by omega) ho hri hKi (by omega) (fun j o' h1 h2 h3 h4 h5 => by
                  simp only [Nat.zero_add] at h5
                  have hjr : j < rs.length := by have := (List.getElem?_eq_some_iff.1 h1).1; omega
                  have hinj := infos_get h1 (List.getElem?_eq_getElem hjr)
                  have := hag hinj (by
                    unfold meet
                    have : sameO o.dst o'.dst = true := sameO_iff.2 ⟨t, h4, h3⟩
                    simp [this])
                  rw [h5] at this
                  simpa using this.symm), get_putT, hr1]
              · have hpp : ∀ (s : St) (v : V) (H : Heap), (s.putT o.dst v H).hp = H := by intro s v H; cases o.dst <;> rfl
                rw [hpp]
                refine heap_ext ?_ (fun b => ?_)
                · rw [foldK_len hpl (by rw [← hpl] at hslot' ⊢; simpa [hpl] using hslot')]
                  cases hw : r.1.2 with
                  | none => simp only [happ]; rw [foldK_len hpl (by simpa using hslot')]
                  | some p =>
                    obtain ⟨c, y⟩ := p
                    have hc : c < σ.hp.length + lp.length := hslot' rs[i] (List.getElem_mem hir) c (by rw [hr1, hw]; rfl)
                    have hfl := foldK_len (K := fun j => listed.getD (k + j) false) (i := 0) (l := lp) (rs := rs) hpl (by simpa using hslot')
                    simp only [happ]
                    rw [hput_length (by omega), hfl]
                · have := foldK_add_hp (K := fun j => listed.getD (k + j) false) (b := b) (σ := σp) (i0 := 0) (k := i) (l := lp) (by omega) (by omega) hri hKi (fun j r' h1 h2 h3 h4 h5 => by
                    simp only [Nat.zero_add] at h5
                    have hjl : j < lp.length := by have := (List.getElem?_eq_some_iff.1 h1).1; omega
                    have hinj := infos_get (List.getElem?_eq_getElem hjl) h1
                    have := hag hinj (by
                      unfold meet
                      have : sameO (slotOf rs[i].1.2) (slotOf r'.1.2) = true := sameO_iff.2 ⟨b, h4, h3⟩
                      simp [this])
                    rw [h5] at this
                    simpa using this.symm)
                  rw [this, hr1]
            · intro b hb
              rcases hD2 b hb with h1 | rfl
              · rcases hdom b h1 with h2 | ⟨j, h2, h3⟩
                · exact .inl h2
                · exact .inr ⟨j, by rw [hK']; simp [addK, h2], h3⟩
              · exact .inr ⟨i, by rw [hK']; simp [addK], rfl⟩)
        split
        · rename_i hw
          rw [if_pos hw] at hwp
          exact hwp
        · rename_i hw
          rw [if_neg hw] at hwp
          exact ⟨fun f _ => FR_fn ro f, hwp⟩
  rw [show ops.size - k = m + (ops.size - (k + m)) by omega]
  have hfalse : ∀ j, listed0.getD (k + j) false = false := fun j => by rw [hK0]; simp
  have hnone : foldK (fun j => listed0.getD (k + j) false) 0 lp rs σp = σp := foldK_none fun j _ => hfalse j
  refine key m listed0 g _ act hsz0 (fun j hj => by rw [hK0, decide_eq_true hj]) (fun j hj => by rw [hK0, decide_eq_false (by omega)]) ?_ ?_ ?_ (Ext.refl _ _) ?_
  · simp only [hfalse, Bool.not_false]
    rw [List.filter_eq_self.2 (by simp)]
    simp
  · intro j o _ hj; simp only [hfalse] at hj; cases hj
  · rw [hnone, ← hσp]
    exact hr.pad lp.length
  · intro b hb
    exact .inl (hr.heap.dom b hb)
theorem compOper_bare {ops : List Oper} {o : Oper} {o' : IOper} (h : compOper P ops true o = some o') : compOper P ops false o = some (bareO o') := by
  unfold compOper at h ⊢
  split at h
  · simp at h
    subst h
    rfl
  · cases h
theorem mapO_bare {ops : List Oper} : ∀ {L : List Oper} {l : List IOper}, mapO (compOper P ops true) L = some l → mapO (compOper P ops false) L = some (l.map bareO)
  | [], l, h => by grind[mapO,Option.some.injEq]
  | x :: L, l, h => by
    simp only [mapO] at h
    cases h1 : compOper P ops true x with
    | none => grind
    | some y =>
      rw [h1] at h
      cases h2 : mapO (compOper P ops true) L with
      | none => grind
      | some ys =>
        rw [h2] at h
        simp at h; subst h
        simp only [mapO, compOper_bare h1, mapO_bare h2, List.map_cons]
theorem mapO_drop {α β : Type} {f : α → Option β} : ∀ {L : List α} {l : List β} (k : Nat), mapO f L = some l → mapO f (L.drop k) = some (l.drop k)
  | L, l, 0, h => by grind
  | [], l, k + 1, h => by grind[mapO,Option.some.injEq]
  | x :: L, l, k + 1, h => by
    simp only [mapO] at h
    cases h1 : f x with
    | none => grind
    | some y =>
      rw [h1] at h
      cases h2 : mapO f L with
      | none => grind
      | some ys =>
        rw [h2] at h
        simp at h; subst h
        simpa using mapO_drop k h2
theorem any_chain {ro : Option Nat} {ops : Array Oper} {Q : Exit → Act → World → Prop} (hb : ∀ (i : Nat) (hi : i < ops.size) (e), e ∈ ops[i].after → Region.binds .any e = true → e.on < i) : ∀ (m k : Nat) (listed : Array Bool) (a : Act) (w : World), listed.size = ops.size → (∀ j, listed.getD j false = decide (j < k)) → k + m = ops.size →
    (∀ (j : Nat) (hj : j < ops.size), k < j → ∃ e, e ∈ ops[j].after ∧ Region.binds .any e = true ∧ e.on = j - 1) → wpOpsIn (FR ro) 0 P ops Q (List.range' k m) a w → wpAnyIn (FR ro) 0 P .any ops Q m listed a w
  | 0, k, listed, a, w, hsz, hK, hm, hc, h => by
    refine ⟨?_, by grind[wpOpsIn]⟩
    unfold Region.ready
    grind[List.filter_eq_nil_iff,Array.getD_eq_getD_getElem?]
  | m + 1, k, listed, a, w, hsz, hK, hm, hc, h => by
    have hks : k < ops.size := by omega
    have hok : ops[k]? = some ops[k] := Array.getElem?_eq_getElem hks
    rw [List.range'_succ, wpOpsIn_cons] at h
    have hget : ∀ j, j < ops.size → listed.getD j true = decide (j < k) := fun j hj => by
      grind
    constructor
    · intro hnil
      exfalso
      have : k ∈ Region.ready .any ops listed := by
        unfold Region.ready
        grind
      grind
    · intro i hi
      unfold Region.ready at hi
      rw [List.mem_filter] at hi
      have hin : i < ops.size := by grind
      have hoi : ops[i]? = some ops[i] := Array.getElem?_eq_getElem hin
      have hi2 := hi.2
      simp only [Bool.and_eq_true, Bool.not_eq_true', hoi, Option.map_some, Option.getD_some, Array.all_eq_true_iff_forall_mem] at hi2
      have hge : k ≤ i := by
        grind
      have hik : i = k := by
        grind
      subst hik
      refine wpOpIn_mono (fun a' w' hq => ?_) h
      refine any_chain hb m (i + 1) _ a' w' (by simp [hsz]) (fun j => ?_) (by omega) (fun j hj hlt => hc j hj (by omega)) hq
      by_cases hji : j = i
      · simp_all
      · have h3 := hK j
        rw [Array.getD_eq_getD_getElem?] at h3 ⊢
        grind
theorem DP.chain {mm : Nat} {l : List IOper} {k : Nat} {σ : St} {Q : Ex → St → Prop} (hk : Nat.ble k l.length = true) (hbef : befOk 0 l = true) (hch : chainB k l = true) (h : WO P GL ((l.drop k).map bareO) σ (fun s => Q .normal s)) : DP P GL mm l k σ Q := by
  intro ro ops hl listed g w a g0 w0 hsz hK hR hm hE
  have hk := Nat.le_of_ble_eq_true hk
  obtain ⟨hlen, hcomp⟩ := compD_get hl
  have hw := h ro ops k (by
    have := mapO_drop k (mapO_bare hl)
    rw [List.map_drop]
    exact this) g w a hR
  have hw2 := wpOps_monoQ (Q' := postC GL g0 w0 Q) (fun e a v hp => by
    have := postC.ext hE e a v hp
    cases e <;> first | exact this | (obtain ⟨_, _, _, _, h⟩ := this; grind)) _ _ _ hw
  refine any_chain (fun i hi e he hbe => ?_) _ k listed a w hsz hK (by omega) (fun j hj hlt => ?_) hw2
  · obtain ⟨o, ho, _, _, _, haft⟩ := hcomp i _ (Array.getElem?_eq_getElem hi)
    have hea : e.on ∈ o.after := by
      grind[compAfter]
    have := befOk_spec hbef i o ho e.on hea
    omega
  · obtain ⟨o, ho, _, _, _, haft⟩ := hcomp j _ (Array.getElem?_eq_getElem hj)
    unfold chainB at hch
    have h1 := List.all_eq_true.1 hch j (by grind)
    have h2 : Nat.ble j k = false := by
      cases hb : Nat.ble j k with
      | false => rfl
      | true => have := Nat.le_of_ble_eq_true hb; omega
    rw [h2, Bool.false_or, ho] at h1
    grind[List.contains_iff_mem,compAfter]
theorem DP.last {mm : Nat} {l : List IOper} {k : Nat} {σ : St} {Q : Ex → St → Prop} (hk : Nat.beq (k + 1) l.length = true) (hbef : befOk 0 l = true) (h : WO P GL ((l.drop k).map bareO) σ (fun s => Q .normal s)) : DP P GL mm l k σ Q := by
  have hk := Nat.eq_of_beq_eq_true hk
  refine DP.chain (by rw [Nat.ble_eq]; omega) hbef (List.all_eq_true.2 fun j hj => ?_) h
  rw [List.mem_range] at hj
  rw [show Nat.ble j k = true by rw [Nat.ble_eq]; omega, Bool.true_or]
theorem restD_zero (l : List IOper) : restD 0 l = l := by
  have h : ∀ o, shiftO 0 o = o := fun o => by
    have : (o.after.filter fun e => Nat.ble 0 e) = o.after := List.filter_eq_self.2 fun a _ => by simp_all
    simp [shiftO, this]
  unfold restD
  rw [List.drop_zero, show shiftO 0 = id from funext h, List.map_id]
theorem bar_all {l : List IOper} (h : statOk l = true) : barOk 0 l.length l = true := by
  simp only [statOk, Bool.and_eq_true] at h
  rw [barOk, restD_zero, h.1, List.drop_of_length_le (by grind[reaches_length])]
  rfl
theorem WC.draw {l : List IOper} {σ : St} {Q : Ex → St → Prop} {qc : Nat → Option CV} {rs : List ((V × Wr) × List Nat)} (hm : P.follows .mixedOrders = true)
    (hrun : runD GL σ.hp.length qc 0 l (padSt σ l.length) = some rs) (hok : drawOk l rs = true) (hdst : dstOk σ.n l = true) (hslot : slotOk (σ.hp.length + l.length) rs = true)
    (hq : ∀ (i : Nat) (o : IOper) (r : (V × Wr) × List Nat), l[i]? = some o → rs[i]? = some r → ∀ f args, callE (evo GL (preD l rs (padSt σ l.length) i).tm) o.op = some (f, args) → guardB o.guard (preD l rs (padSt σ l.length) i).tm = some true → CallR P GL f args (preD l rs (padSt σ l.length) i).hp (σ.hp.length + i) r.1)
    (h : Q .normal (foldK (fun _ => true) 0 l rs (padSt σ l.length))) : WC P GL (.draw l) σ Q := by
  exact WC.drawDP hm (DP.part l.length (by rw [restD_zero, List.take_length]) (by rw [Nat.ble_eq]; omega) (bar_all (by simp only [drawOk, Bool.and_eq_true] at hok; exact hok.1)) hrun hok hdst hslot hq (by rw [Nat.zero_add]; exact DP.done h))
end
end Fw

/-
  A drawn region whose last operation is a call that comes after all others.
-/
set_option maxHeartbeats 1000000
namespace Fw
open Go
section
variable {P : Program} {GL : GLT}
theorem WC.drawTail {l : List IOper} {ot : IOper} {ft : FuncId} {argst : List Opd} {σ : St} {Q : Ex → St → Prop} {qc : Nat → Option CV} {rs : List ((V × Wr) × List Nat)} (hm : P.follows .mixedOrders = true)
    (hrun : runD GL σ.hp.length qc 0 l (padSt σ l.length) = some rs) (hok : drawOk l rs = true) (hdst : dstOk σ.n l = true) (hslot : slotOk (σ.hp.length + l.length) rs = true)
    (hq : ∀ (i : Nat) (o : IOper) (r : (V × Wr) × List Nat), l[i]? = some o → rs[i]? = some r → ∀ f args, callE (evo GL (preD l rs (padSt σ l.length) i).tm) o.op = some (f, args) → guardB o.guard (preD l rs (padSt σ l.length) i).tm = some true → CallR P GL f args (preD l rs (padSt σ l.length) i).hp (σ.hp.length + i) r.1)
    (hot : ot.op = .call ft argst) (hotg : ot.guard = none) (hotb : ∀ e ∈ ot.after, e < l.length) (hcov : ∀ j, j < l.length → ∃ e ∈ ot.after, j = e ∨ Nat.testBit ((reaches 0 [] l).getD e 0) j = true)
    (h : WF P GL ft (mlist (evo GL (foldK (fun _ => true) 0 l rs (padSt σ l.length)).tm) argst) (foldK (fun _ => true) 0 l rs (padSt σ l.length)).hp
      (fun v H' => ∃ σ', (foldK (fun _ => true) 0 l rs (padSt σ l.length)).put ot.dst v H' = some σ' ∧ Q .normal σ')) : WC P GL (.draw (l ++ [ot])) σ Q := by
  intro code hc ro hro g w act hr
  obtain ⟨id, ops, rfl, hl⟩ : ∃ id ops, code = .region id ops true ∧ compOps P ops.toList true ops.toList = some (l ++ [ot]) := by
    cases code with
    | region id ops draw =>
      simp only [compCode] at hc
      split at hc
      · rename_i l' hl'
        cases draw with
        | false => simp at hc
        | true => simp at hc; subst hc; exact ⟨id, ops, rfl, hl'⟩
      · cases hc
    | seq => simp only [compCode] at hc; split at hc <;> simp at hc
    | cond => simp only [compCode] at hc; split at hc <;> simp at hc
    | _ => simp [compCode] at hc
  obtain ⟨hlen0, hcomp⟩ := compD_get hl
  have hlen : l.length + 1 = ops.size := by simpa using hlen0
  obtain ⟨hrl, hrg⟩ := runD_get hrun
  have hlk := drawOk_spec hok hrl
  have hdst' : ∀ (i : Nat) (o : IOper), l[i]? = some o → ∀ d, o.dst = some d → d < σ.n := by
    intro i o ho d hd
    have := (List.all_eq_true.1 hdst) o (List.mem_of_getElem? ho)
    rw [hd] at this
    simpa [Nat.blt_eq] using this
  have hslot' : ∀ r ∈ rs, ∀ b, slotOf r.1.2 = some b → b < σ.hp.length + l.length := by
    intro r hr b hb
    have := (List.all_eq_true.1 hslot) r hr
    rw [hb] at this
    simpa [Nat.blt_eq] using this
  generalize hσp : padSt σ l.length = σp at *
  have hpl : σp.hp.length = σ.hp.length + l.length := by rw [← hσp]; simp [padSt]
  have hpn : σp.n = σ.n := by rw [← hσp]; rfl
  refine wpIn_region_any hm ?_
  have key : ∀ (fuel : Nat) (listed : Array Bool) (g1 : G) (w1 : World) (a1 : Act), listed.size = ops.size → ((List.range ops.size).filter fun j => !listed.getD j false).length = fuel → Closed l (fun j => listed.getD j false) → listed.getD l.length false = false →
      R GL g1 w1 a1 (foldK (fun j => listed.getD j false) 0 l rs σp) → Ext g w g1 w1 → (∀ b, g1.dom b → b < σ.hp.length ∨ ∃ j, listed.getD j false = true ∧ b = σ.hp.length + j) →
      wpAnyIn (FR ro) 0 P .any ops (postC GL g w Q) fuel listed a1 w1 := by
    intro fuel
    induction fuel with
    | zero =>
      intro listed g1 w1 a1 hsz hcnt hcl htl hR hE hdom
      exfalso
      have := List.eq_nil_of_length_eq_zero hcnt
      rw [List.filter_eq_nil_iff] at this
      have := this l.length (by simp; omega)
      rw [htl] at this
      simp at this
    | succ fuel ih =>
      intro listed g1 w1 a1 hsz hcnt hcl htl hR hE hdom
      constructor
      · intro hnil
        exfalso
        have hex : ∃ j, j < ops.size ∧ listed.getD j false = false := by
          have hne : ((List.range ops.size).filter fun j => !listed.getD j false) ≠ [] := by intro e; rw [e] at hcnt; simp at hcnt
          obtain ⟨j, hj⟩ := List.exists_mem_of_ne_nil _ hne
          rw [List.mem_filter] at hj
          exact ⟨j, by simpa using hj.1, by simpa using hj.2⟩
        obtain ⟨j, ⟨hj1, hj2⟩, hmin⟩ := least hex
        have hoj : ops[j]? = some ops[j] := Array.getElem?_eq_getElem hj1
        obtain ⟨o, ho, _, _, _, haft⟩ := hcomp j _ hoj
        have hbefore : ∀ e ∈ o.after, e < j := by
          intro e he
          rcases Nat.lt_or_ge j l.length with hjl | hjl
          · have ho2 : l[j]? = some o := by rwa [List.getElem?_append_left hjl] at ho
            exact hlk.before j _ (infos_get ho2 (List.getElem?_eq_getElem (show j < rs.length by omega))) e he
          · obtain rfl : j = l.length := by omega
            rw [List.getElem?_append_right (Nat.le_refl _)] at ho
            simp at ho; subst ho
            exact hotb e he
        have : j ∈ Region.ready .any ops listed := by
          unfold Region.ready
          rw [List.mem_filter]
          refine ⟨by simpa using hj1, ?_⟩
          have h2 : listed.getD j true = false := by
            rw [Array.getD_eq_getD_getElem?] at hj2 ⊢
            rw [Array.getElem?_eq_getElem (by omega)] at hj2 ⊢
            exact hj2
          simp only [h2, Bool.not_false, Bool.true_and, hoj, Option.map_some, Option.getD_some, Array.all_eq_true_iff_forall_mem]
          intro e he
          cases hb : Region.binds .any e with
          | false => rfl
          | true =>
            simp only [Bool.not_true, Bool.false_or]
            have hea : e.on ∈ o.after := by
              rw [haft]; simp only [compAfter, List.mem_map, List.mem_filter]
              exact ⟨e, ⟨by simpa using he, hb⟩, rfl⟩
            have hlt := hbefore e.on hea
            cases hq2 : listed.getD e.on false with
            | true => rfl
            | false => have := hmin e.on ⟨by omega, hq2⟩; omega
        rw [hnil] at this
        cases this
      · intro i hi
        unfold Region.ready at hi
        rw [List.mem_filter] at hi
        have hin : i < ops.size := by simpa using hi.1
        have hoi : ops[i]? = some ops[i] := Array.getElem?_eq_getElem hin
        have hi2 := hi.2
        simp only [Bool.and_eq_true, Bool.not_eq_true', hoi, Option.map_some, Option.getD_some, Array.all_eq_true_iff_forall_mem] at hi2
        obtain ⟨o, ho0, hop, hgd, hd, haft⟩ := hcomp i _ hoi
        rcases Nat.lt_or_ge i l.length with hilt | hige
        case inr =>
          obtain rfl : i = l.length := by omega
          rw [List.getElem?_append_right (Nat.le_refl _)] at ho0
          simp at ho0; subst ho0
          have hready : ∀ e ∈ ot.after, listed.getD e false = true := by
            intro e he
            rw [haft] at he
            simp only [compAfter, List.mem_map, List.mem_filter] at he
            obtain ⟨ed, ⟨he1, he2⟩, rfl⟩ := he
            have := hi2.2 ed (by simpa using he1)
            simpa [he2] using this
          have hallL : ∀ j, j < l.length → listed.getD j false = true := by
            intro j hj
            obtain ⟨e, he, hje⟩ := hcov j hj
            rcases hje with rfl | hje
            · exact hready _ he
            · exact Closed.reach hlk hcl e j hje (hready e he)
          have hfold : foldK (fun j => listed.getD j false) 0 l rs σp = foldK (fun _ => true) 0 l rs σp := foldK_congr (fun j hj => by simp only [Nat.zero_add]; exact hallL j hj)
          rw [hfold] at hR
          have hfuel : fuel = 0 := by
            have hone : ((List.range ops.size).filter fun j => !listed.getD j false) = [l.length] := by
              rw [← hlen, List.range_succ, List.filter_append]
              have e1 : (List.range l.length).filter (fun j => !listed.getD j false) = [] := by
                rw [List.filter_eq_nil_iff]
                intro j hj
                rw [hallL j (List.mem_range.1 hj)]; simp
              rw [e1]
              have htl' : listed[l.length]?.getD false = false := by rw [← Array.getD_eq_getD_getElem?]; exact htl
              simp [List.filter_cons, htl']
            rw [hone] at hcnt
            simp at hcnt
            omega
          subst hfuel
          unfold wpOpIn
          simp only [hoi]
          have hw : Region.wanted ops[l.length] (yielded ops a1.tmps) = true := wanted_of hR hgd (by rw [hotg]; rfl)
          rw [if_pos hw]
          obtain ⟨c, hcc, hcomp2⟩ := comp_isCall (comp_of hop (by rw [hot]; simp)) (.inl ⟨ft, argst, hot⟩)
          rw [hot] at hcomp2
          have hcal : c.callee = .value (.func ft) ∧ mapO compOpd c.args.toList = some argst := by
            unfold compCall at hcomp2
            split at hcomp2
            case h_6 f' hf' =>
              split at hcomp2
              · simp only [Option.map_eq_some_iff, IOp.call.injEq] at hcomp2
                obtain ⟨l, hl, rfl, rfl⟩ := hcomp2
                exact ⟨hf', hl⟩
              · cases hcomp2
            all_goals exfalso
            all_goals first
              | (simp at hcomp2; done)
              | (repeat' split at hcomp2) <;> simp at hcomp2
          have hrun2 : (execOp a1.eval ops[l.length]).run P w1 = .ok (.enter ft (c.args.map a1.eval)) w1 := by
            have := run_callFunc h.1 (c.args.map a1.eval) w1
            simp [execOp, hcc, resolve, hcal.1, Act.eval, Deferred.ofValue, invoke, this]
          refine OW.of (comp_not_defer (comp_of hop (by rw [hot]; simp))) hrun2 ?_
          simp only [Oper.uponIn]
          refine ⟨fun h => FR_depth h, FR_calls ((h.2 g1 w1 _ (by simpa using mapOpds hR.ev hcal.2) hR.heap hR.globs).mono ?_)⟩
          rintro e w2 ⟨x, v, g2, H', rfl, ⟨σ', hput, hQ⟩, hx, hh2, he2⟩
          simp only
          rw [hd]
          refine ⟨?_, g2, σ', hR.stput he2 hh2 hput hx, hE.trans he2, hQ⟩
          unfold Region.ready
          rw [List.filter_eq_nil_iff]
          intro j hj
          simp only [List.mem_range] at hj
          have h2 : (listed.setIfInBounds l.length true).getD j true = true := by
            rw [Array.getD_eq_getD_getElem?]
            by_cases hjl : j = l.length
            · subst hjl; rw [Array.getElem?_setIfInBounds_self_of_lt (by omega)]; rfl
            · rw [Array.getElem?_setIfInBounds_ne (by omega)]
              have h1 := hallL j (by omega)
              rw [Array.getD_eq_getD_getElem?] at h1
              rw [Array.getElem?_eq_getElem (by omega)] at h1 ⊢
              exact h1
          simp [h2]
        have ho : l[i]? = some o := by rwa [List.getElem?_append_left hilt] at ho0
        have hir : i < rs.length := by omega
        have hri : rs[i]? = some rs[i] := List.getElem?_eq_getElem hir
        obtain ⟨r, hr1, hr2, hr3⟩ := hrg i o ho
        rw [hri] at hr1; simp only [Option.some.injEq] at hr1
        simp only [Nat.zero_add] at hr2 hr3
        have hKi : listed.getD i false = false := by
          have := hi2.1
          rw [Array.getD_eq_getD_getElem?] at this ⊢
          rw [Array.getElem?_eq_getElem (by omega)] at this ⊢
          exact this
        have hready : ∀ e ∈ o.after, listed.getD e false = true := by
          intro e he
          rw [haft] at he
          simp only [compAfter, List.mem_map, List.mem_filter] at he
          obtain ⟨ed, ⟨he1, he2⟩, rfl⟩ := he
          have := hi2.2 ed (by simpa using he1)
          simpa [he2] using this
        have hinf := infos_get ho hri
        have hag : ∀ {j : Nat} {y : DInfo}, (infos l rs)[j]? = some y → meet { dst := o.dst, lk := lookT o, rd := rs[i].2, ws := slotOf rs[i].1.2, after := o.after } y = true → listed.getD j false = decide (j < i) :=
          fun hy hm => agree hlk hcl ho hKi hready hinf hy hm (by rw [meet_comm]; exact hm)
        have htm : ∀ t ∈ lookT o, get (foldK (fun j => listed.getD j false) 0 l rs σp).tm t = get (preD l rs σp i).tm t := by
          intro t ht
          refine foldK_tm rfl (fun j o' h1 h2 => ?_)
          simp only [Nat.zero_add]
          have hjr : j < rs.length := by have := (List.getElem?_eq_some_iff.1 h1).1; omega
          have hinj := infos_get h1 (List.getElem?_eq_getElem hjr)
          refine hag hinj ?_
          unfold meet
          have : inO o'.dst (lookT o) = true := inO_iff.2 ⟨t, h2, ht⟩
          simp [this]
        have hhp : ∀ b ∈ rds (evo GL (preD l rs σp i).tm) o.op, hget (foldK (fun j => listed.getD j false) 0 l rs σp).hp b = hget (preD l rs σp i).hp b := by
          intro b hb
          refine foldK_hp rfl (fun j r' h1 h2 => ?_)
          simp only [Nat.zero_add]
          have hjl : j < l.length := by have := (List.getElem?_eq_some_iff.1 h1).1; omega
          have hinj := infos_get (List.getElem?_eq_getElem hjl) h1
          refine hag hinj ?_
          unfold meet
          have : inO (slotOf r'.1.2) rs[i].2 = true := inO_iff.2 ⟨b, h2, by rw [hr1, hr3]; exact hb⟩
          simp [this]
        have hone := oneX_congr (GL := GL) (ns := σ.hp.length + i) (cv := qc i) htm hhp
        have hr2' : oneX GL (preD l rs σp i).tm (preD l rs σp i).hp (σ.hp.length + i) o (qc i) = some r.1 := hr2
        rw [hr2'] at hone
        have hevo : ∀ x ∈ looks o.op, evo GL (foldK (fun j => listed.getD j false) 0 l rs σp).tm x = evo GL (preD l rs σp i).tm x := fun x hx => evo_congr (fun t ht => htm t (by simp only [lookT, List.mem_append, List.mem_filterMap]; exact .inl ⟨x, hx, ht⟩))
        have hgu : guardB o.guard (foldK (fun j => listed.getD j false) 0 l rs σp).tm = guardB o.guard (preD l rs σp i).tm := guardB_congr (fun d w hd => htm d (by simp [lookT, hd]))
        unfold wpOpIn
        simp only [hoi]
        have hwp := oneX_wp (ro := ro) (P := P) (GL := GL) (ops := ops) (v := r.1.1) (wr := r.1.2) hop hgd hd hone (fun f args hc hg1 => by
            rw [hgu] at hg1
            rw [callE_congr hevo] at hc
            have := hq i o rs[i] ho hri f args hc hg1
            rw [hr1] at this
            exact this.congr (fun b hb => hhp b (rds_call hc hb))) hR (by
            intro hd2
            rcases hdom _ hd2 with h1 | ⟨j, h1, h2⟩
            · omega
            · have : j = i := by omega
              subst this
              rw [hKi] at h1; cases h1) (fun d hd2 => by rw [foldK_n, hpn]; exact hdst' i o ho d hd2)
          (wpAnyIn (FR ro) 0 P .any ops (postC GL g w Q) fuel (listed.setIfInBounds i true)) (postC GL g w Q) (by
            intro g2 w2 a2 hR2 hE2 hD2
            have hK' : ∀ j, (listed.setIfInBounds i true).getD j false = addK (fun j => listed.getD j false) i j := by
              intro j
              simp only [addK, Array.getD_eq_getD_getElem?]
              by_cases hj : j = i
              · subst hj
                rw [Array.getElem?_setIfInBounds_self_of_lt (by omega)]; simp
              · rw [Array.getElem?_setIfInBounds_ne (by omega)]; simp [hj]
            have hfold : foldK (fun j => (listed.setIfInBounds i true).getD j false) 0 l rs σp = foldK (addK (fun j => listed.getD j false) i) 0 l rs σp := foldK_congr (fun j _ => hK' _)
            refine ih _ g2 w2 a2 (by simpa using hsz) ?_ ?_ (by rw [hK']; simp only [addK]; rw [htl]; simp; omega) ?_ (hE.trans hE2) ?_
            · have e1 : (fun j => !(listed.setIfInBounds i true).getD j false) = fun j => !listed.getD j false && !decide (j = i) := by
                funext j; rw [hK' j]; simp [addK]
              rw [e1]
              have hcount : ∀ (m : Nat) (f : Nat → Bool), i < m → f i = true → ((List.range m).filter f).length = ((List.range m).filter fun j => f j && !decide (j = i)).length + 1 := by
                intro m f
                induction m with
                | zero => intro h; omega
                | succ m ihm =>
                  intro him hfi
                  rw [List.range_succ, List.filter_append, List.filter_append, List.length_append, List.length_append]
                  rcases Nat.lt_or_ge i m with h1 | h1
                  · rw [ihm h1 hfi]
                    have : m ≠ i := by omega
                    simp [List.filter_cons, this]
                    split <;> simp <;> omega
                  · have : m = i := by omega
                    subst this
                    have hsame : (List.range m).filter f = (List.range m).filter fun j => f j && !decide (j = m) := by
                      refine List.filter_congr (fun j hj => ?_)
                      have : j ≠ m := by have := List.mem_range.1 hj; omega
                      simp [this]
                    rw [← hsame]
                    simp [List.filter_cons, hfi]
              have := hcount ops.size (fun j => !listed.getD j false) hin (by simp [hKi])
              rw [hcnt] at this
              omega
            · intro j o' ho' hj e he
              simp only [hK'] at hj ⊢
              simp only [addK, Bool.or_eq_true, decide_eq_true_eq] at hj ⊢
              rcases hj with hj | rfl
              · exact .inl (hcl j o' ho' hj e he)
              · rw [ho] at ho'; simp only [Option.some.injEq] at ho'; subst ho'
                exact .inl (hready e he)
            · rw [hfold]
              refine hR2.congr ?_ (fun t => ?_) ?_
              · rw [foldK_n]
                have : ∀ (s : St) (v : V) (H : Heap), (s.putT o.dst v H).n = s.n := by intro s v H; cases o.dst <;> rfl
                rw [this, foldK_n]
              · rw [foldK_add_tm (k := i) (by omega) ho hri hKi (by omega) (fun j o' h1 h2 h3 h4 h5 => by
                  simp only [Nat.zero_add] at h5
                  have hjr : j < rs.length := by have := (List.getElem?_eq_some_iff.1 h1).1; omega
                  have hinj := infos_get h1 (List.getElem?_eq_getElem hjr)
                  have := hag hinj (by
                    unfold meet
                    have : sameO o.dst o'.dst = true := sameO_iff.2 ⟨t, h4, h3⟩
                    simp [this])
                  rw [h5] at this
                  simpa using this.symm), get_putT, hr1]
              · have hpp : ∀ (s : St) (v : V) (H : Heap), (s.putT o.dst v H).hp = H := by intro s v H; cases o.dst <;> rfl
                rw [hpp]
                refine heap_ext ?_ (fun b => ?_)
                · rw [foldK_len hpl (by rw [← hpl] at hslot' ⊢; simpa [hpl] using hslot')]
                  cases hw : r.1.2 with
                  | none => simp only [happ]; rw [foldK_len hpl (by simpa using hslot')]
                  | some p =>
                    obtain ⟨c, y⟩ := p
                    have hc : c < σ.hp.length + l.length := hslot' rs[i] (List.getElem_mem hir) c (by rw [hr1, hw]; rfl)
                    have hfl := foldK_len (K := fun j => listed.getD j false) (i := 0) (l := l) (rs := rs) hpl (by simpa using hslot')
                    simp only [happ]
                    rw [hput_length (by omega), hfl]
                · have := foldK_add_hp (K := fun j => listed.getD j false) (b := b) (σ := σp) (i0 := 0) (k := i) (l := l) (by omega) (by omega) hri hKi (fun j r' h1 h2 h3 h4 h5 => by
                    simp only [Nat.zero_add] at h5
                    have hjl : j < l.length := by have := (List.getElem?_eq_some_iff.1 h1).1; omega
                    have hinj := infos_get (List.getElem?_eq_getElem hjl) h1
                    have := hag hinj (by
                      unfold meet
                      have : sameO (slotOf rs[i].1.2) (slotOf r'.1.2) = true := sameO_iff.2 ⟨b, h4, h3⟩
                      simp [this])
                    rw [h5] at this
                    simpa using this.symm)
                  rw [this, hr1]
            · intro b hb
              rcases hD2 b hb with h1 | rfl
              · rcases hdom b h1 with h2 | ⟨j, h2, h3⟩
                · exact .inl h2
                · exact .inr ⟨j, by rw [hK']; simp [addK, h2], h3⟩
              · exact .inr ⟨i, by rw [hK']; simp [addK], rfl⟩)
        split
        · rename_i hw
          rw [if_pos hw] at hwp
          exact hwp
        · rename_i hw
          rw [if_neg hw] at hwp
          exact ⟨fun f _ => FR_fn ro f, hwp⟩
  have hfalse : ∀ j, (Array.replicate ops.size false).getD j false = false := by
    intro j
    rw [Array.getD_eq_getD_getElem?, Array.getElem?_replicate]
    split <;> rfl
  have hnone : foldK (fun j => (Array.replicate ops.size false).getD j false) 0 l rs σp = σp := by
    have : ∀ (l : List IOper) (rs : List ((V × Wr) × List Nat)) (i : Nat) (s : St), foldK (fun _ => false) i l rs s = s := by
      intro l
      induction l with
      | nil => intro rs i s; simp [foldK]
      | cons o l ih =>
        intro rs i s
        cases rs with
        | nil => simp [foldK]
        | cons r rs => simp only [foldK, cond_false]; exact ih _ _ _
    rw [foldK_congr (K' := fun _ => false) (fun j _ => hfalse _)]
    exact this _ _ _ _
  refine key ops.size (Array.replicate ops.size false) g _ act (by simp) ?_ ?_ (hfalse _) ?_ (Ext.drawn g w _) ?_
  · simp only [hfalse, Bool.not_false]
    rw [List.filter_eq_self.2 (by simp)]
    simp
  · intro j o _ hj; simp only [hfalse] at hj; cases hj
  · rw [hnone, ← hσp]
    exact (hr.pad l.length).drawn _
  · intro b hb
    exact .inl (hr.heap.dom b hb)
end
end Fw
