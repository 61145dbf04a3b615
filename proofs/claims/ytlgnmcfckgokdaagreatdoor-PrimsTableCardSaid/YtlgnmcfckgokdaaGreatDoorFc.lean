/-
  Code of the abstract machine: what holds of every code that is compiled to it, in every world that fits the state.
-/
import Derived.Test.YtlgnmcfckgokdaaGreatDoorFb

set_option linter.unusedSimpArgs false
namespace Fw
open Go
inductive Ex where
  | normal
  | exit (id : Nat)
  | ret
def postC (GL : GLT) (g0 : G) (w0 : World) (Q : Ex → St → Prop) (e : Exit) (a : Act) (w : World) : Prop :=
  ∃ g σ, R GL g w a σ ∧ Ext g0 w0 g w ∧ match e with
    | .normal => Q .normal σ
    | .exit id => Q (.exit id) σ
    | .ret => Q .ret σ
    | _ => False
def WC (P : Program) (GL : GLT) (c : IR) (σ : St) (Q : Ex → St → Prop) : Prop :=
  ∀ code, compCode P code = some c → ∀ g w a, R GL g w a σ → code.wp P (postC GL g w Q) a w
def callable (P : Program) (f : FuncId) : Bool :=
  match P.funcs[f]? with
  | some fn => fn.body.isSome && !(fn.name == "runtime.NumGoroutine")
  | none => false
def WF (P : Program) (GL : GLT) (f : FuncId) (args : List V) (H : Heap) (Q : V → Heap → Prop) : Prop :=
  callable P f = true ∧ ∀ g w (vs : Array Value), RVs g w args vs.toList → HeapOK g w H → Globs GL g w →
    Calls P f vs w fun e w' => ∃ x v g' H', e = .returned x ∧ Q v H' ∧ RV g' w' v x ∧ HeapOK g' w' H' ∧ Ext g w g' w'
def WO (P : Program) (GL : GLT) (l : List IOper) (σ : St) (Q : St → Prop) : Prop :=
  ∀ (ops : Array Oper) (k : Nat), compOps P ops.toList false (ops.toList.drop k) = some l → ∀ g w a, R GL g w a σ →
    wpOps P ops (postC GL g w fun e σ' => match e with | .normal => Q σ' | _ => False) (List.range' k (ops.size - k)) a w
theorem postC.ext {GL : GLT} {g g' : G} {w w' : World} {Q : Ex → St → Prop} (h : Ext g w g' w') (e : Exit) (a : Act) (v : World) (hp : postC GL g' w' Q e a v) : postC GL g w Q e a v := by
  obtain ⟨g2, σ, h1, h2, h3⟩ := hp
  exact ⟨g2, σ, h1, h.trans h2, h3⟩
theorem postC.mono {GL : GLT} {g : G} {w : World} {Q Q' : Ex → St → Prop} (h : ∀ e σ, Q e σ → Q' e σ) (e : Exit) (a : Act) (v : World) (hp : postC GL g w Q e a v) : postC GL g w Q' e a v := by
  obtain ⟨g2, σ, h1, h2, h3⟩ := hp
  refine ⟨g2, σ, h1, h2, ?_⟩
  cases e <;> first | exact h _ _ h3 | exact h3
section
variable {P : Program} {GL : GLT}
theorem upon_monoQ {o : Oper} {a : Act} {K : Act → World → Prop} {Q Q' : Exit → Act → World → Prop} (h : ∀ e a w, Q e a w → Q' e a w) {r : Result Next} (hh : o.upon P a K Q r) : o.upon P a K Q' r := by
  cases r with
  | ok n w' =>
    cases n <;> simp only [Oper.upon] at hh ⊢ <;>
      first
        | exact hh
        | exact Calls.mono hh (fun e w'' he => by
            cases e with
            | returned v => exact he
            | panicked c => exact h _ _ _ he
            | outgrown => obtain ⟨a0, w0, hq⟩ := he; exact ⟨a0, w0, h _ _ _ hq⟩)
  | halt x w' => cases x <;> simp only [Oper.upon] at hh ⊢ <;> exact h _ _ _ hh
theorem upon_monoK {o : Oper} {a : Act} {K K' : Act → World → Prop} {Q : Exit → Act → World → Prop} (h : ∀ a w, K a w → K' a w) {w : World} (hh : o.wp P a w K Q) : o.wp P a w K' Q := Oper.wp_mono h hh
theorem wpOps_monoQ {ops : Array Oper} {Q Q' : Exit → Act → World → Prop} (h : ∀ e a w, Q e a w → Q' e a w) : ∀ (l : List Nat) (a : Act) (w : World), wpOps P ops Q l a w → wpOps P ops Q' l a w
  | [], a, w, hh => h _ _ _ hh
  | i :: rest, a, w, hh => by
    simp only [wpOps] at hh ⊢
    split
    · rename_i hn
      simp only [hn] at hh
      exact wpOps_monoQ h rest a w hh
    · rename_i o ho
      simp only [ho] at hh
      split
      · rename_i hw
        simp only [hw, if_true] at hh
        rcases hh with hh | ⟨h1, a0, w0, h2⟩
        · exact .inl (Oper.wp_mono (fun a w => wpOps_monoQ h rest a w) (upon_monoQ h hh))
        · exact .inr ⟨h1, a0, w0, h _ _ _ h2⟩
      · rename_i hw
        simp only [hw] at hh
        exact wpOps_monoQ h rest _ w hh
theorem WC.mono {c : IR} {σ : St} {Q Q' : Ex → St → Prop} (h : WC P GL c σ Q) (hq : ∀ e σ, Q e σ → Q' e σ) : WC P GL c σ Q' :=
  fun code hc g w a hr => wp_mono (h code hc g w a hr) (fun e a' w' hp => postC.mono hq e a' w' hp)
theorem WF.mono {f : FuncId} {args : List V} {H : Heap} {Q Q' : V → Heap → Prop} (h : WF P GL f args H Q) (hq : ∀ v H', Q v H' → Q' v H') : WF P GL f args H Q' :=
  ⟨h.1, fun g w vs h1 h2 h3 => (h.2 g w vs h1 h2 h3).mono fun _ _ ⟨x, v, g', H', e1, e2, e3⟩ => ⟨x, v, g', H', e1, hq _ _ e2, e3⟩⟩
theorem WC.skip {σ : St} {Q : Ex → St → Prop} (h : Q .normal σ) : WC P GL .skip σ Q := by
  intro code hc g w a hr
  have : code = .skip := by
    cases code <;> simp [compCode] at hc
    · rfl
    · split at hc <;> simp at hc; split at hc <;> simp at hc
    · split at hc <;> simp at hc
    · split at hc <;> simp at hc
  subst this
  exact wp_skip ⟨g, σ, hr, Ext.refl _ _, h⟩
theorem comp_seq {code : Code} {a b : IR} (hc : compCode P code = some (.seq a b)) : ∃ x y, code = .seq x y ∧ compCode P x = some a ∧ compCode P y = some b := by
  cases code with
  | seq x y =>
    simp only [compCode] at hc
    split at hc
    · rename_i a' b' h1 h2
      simp only [Option.some.injEq, IR.seq.injEq] at hc
      obtain ⟨rfl, rfl⟩ := hc
      exact ⟨x, y, rfl, h1, h2⟩
    · cases hc
  | region => simp only [compCode] at hc; split at hc <;> simp at hc; split at hc <;> simp at hc
  | cond => simp only [compCode] at hc; split at hc <;> simp at hc
  | _ => simp [compCode] at hc
theorem WC.seq {a b : IR} {σ : St} {Q : Ex → St → Prop} (h : WC P GL a σ (fun e σ' => match e with | .normal => WC P GL b σ' Q | e => Q e σ')) : WC P GL (.seq a b) σ Q := by
  intro code hc g w act hr
  obtain ⟨x, y, rfl, hx, hy⟩ := comp_seq hc
  refine wp_seq (wp_mono (h x hx g w act hr) fun e a' w' hp => ?_)
  obtain ⟨g2, σ2, h1, h2, h3⟩ := hp
  cases e with
  | normal => exact wp_mono (h3 y hy g2 w' a' h1) (postC.ext h2)
  | exit id => exact ⟨g2, σ2, h1, h2, h3⟩
  | ret => exact ⟨g2, σ2, h1, h2, h3⟩
  | goto l => exact h3.elim
  | panic c => exact h3.elim
  | outgrown => exact h3.elim
theorem comp_cond {code : Code} {c : Opd} {a b : IR} (hc : compCode P code = some (.cond c a b)) : ∃ o x y, code = .cond o x y ∧ compOpd o = some c ∧ compCode P x = some a ∧ compCode P y = some b := by
  cases code with
  | cond o x y =>
    simp only [compCode] at hc
    split at hc
    · rename_i c' a' b' h0 h1 h2
      simp only [Option.some.injEq, IR.cond.injEq] at hc
      obtain ⟨rfl, rfl, rfl⟩ := hc
      exact ⟨o, x, y, rfl, h0, h1, h2⟩
    · cases hc
  | region => simp only [compCode] at hc; split at hc <;> simp at hc; split at hc <;> simp at hc
  | seq => simp only [compCode] at hc; split at hc <;> simp at hc
  | _ => simp [compCode] at hc
theorem WC.cond {c : Opd} {a b : IR} {σ : St} {t : Bool} {Q : Ex → St → Prop} (ht : evo GL σ.tm c = .d (.bool t)) (h : WC P GL (bif t then a else b) σ Q) : WC P GL (.cond c a b) σ Q := by
  intro code hc g w act hr
  obtain ⟨o, x, y, rfl, ho, hx, hy⟩ := comp_cond hc
  have hv := hr.ev _ _ ho
  rw [ht] at hv
  cases t with
  | true => exact wp_cond (RV.bool hv) (h x hx g w act hr)
  | false => exact wp_cond (RV.bool hv) (h y hy g w act hr)
theorem comp_block {code : Code} {id : Nat} {b : IR} (hc : compCode P code = some (.block id b)) : ∃ x, code = .block id x ∧ compCode P x = some b := by
  cases code with
  | block i x =>
    simp only [compCode, Option.map_eq_some_iff, IR.block.injEq] at hc
    obtain ⟨b', h, rfl, rfl⟩ := hc
    exact ⟨x, rfl, h⟩
  | region => simp only [compCode] at hc; split at hc <;> simp at hc; split at hc <;> simp at hc
  | seq => simp only [compCode] at hc; split at hc <;> simp at hc
  | cond => simp only [compCode] at hc; split at hc <;> simp at hc
  | _ => simp [compCode] at hc
theorem WC.block {id : Nat} {b : IR} {σ : St} {Q : Ex → St → Prop} (h : WC P GL b σ (fun e σ' => match e with | .exit i => if i = id then Q .normal σ' else Q (.exit i) σ' | e => Q e σ')) : WC P GL (.block id b) σ Q := by
  intro code hc g w act hr
  obtain ⟨x, rfl, hx⟩ := comp_block hc
  refine wp_block (wp_mono (h x hx g w act hr) fun e a' w' hp => ?_)
  obtain ⟨g2, σ2, h1, h2, h3⟩ := hp
  cases e with
  | normal => exact ⟨g2, σ2, h1, h2, h3⟩
  | exit i =>
    simp only [Exit.inBlock]
    by_cases hi : i = id
    · simp only [hi, if_true] at h3 ⊢; exact ⟨g2, σ2, h1, h2, h3⟩
    · simp only [hi, if_false] at h3 ⊢; exact ⟨g2, σ2, h1, h2, h3⟩
  | ret => exact ⟨g2, σ2, h1, h2, h3⟩
  | goto l => exact h3.elim
  | panic c => exact h3.elim
  | outgrown => exact h3.elim
theorem WC.exit {id : Nat} {σ : St} {Q : Ex → St → Prop} (h : Q (.exit id) σ) : WC P GL (.exit id) σ Q := by
  intro code hc g w act hr
  cases code with
  | exit i =>
    simp only [compCode, Option.some.injEq, IR.exit.injEq] at hc
    subst hc
    exact wp_exit ⟨g, σ, hr, Ext.refl _ _, h⟩
  | region => simp only [compCode] at hc; split at hc <;> simp at hc; split at hc <;> simp at hc
  | seq => simp only [compCode] at hc; split at hc <;> simp at hc
  | cond => simp only [compCode] at hc; split at hc <;> simp at hc
  | _ => simp [compCode] at hc
theorem WC.ret {σ : St} {Q : Ex → St → Prop} (h : Q .ret σ) : WC P GL .ret σ Q := by
  intro code hc g w act hr
  cases code with
  | ret => exact wp_ret ⟨g, σ, hr, Ext.refl _ _, h⟩
  | region => simp only [compCode] at hc; split at hc <;> simp at hc; split at hc <;> simp at hc
  | seq => simp only [compCode] at hc; split at hc <;> simp at hc
  | cond => simp only [compCode] at hc; split at hc <;> simp at hc
  | _ => simp [compCode] at hc
theorem comp_loop {code : Code} {b : IR} (hc : compCode P code = some (.loop b)) : ∃ x, code = .loop x ∧ compCode P x = some b := by
  cases code with
  | loop x =>
    simp only [compCode, Option.map_eq_some_iff, IR.loop.injEq] at hc
    obtain ⟨b', h, rfl⟩ := hc
    exact ⟨x, rfl, h⟩
  | region => simp only [compCode] at hc; split at hc <;> simp at hc; split at hc <;> simp at hc
  | seq => simp only [compCode] at hc; split at hc <;> simp at hc
  | cond => simp only [compCode] at hc; split at hc <;> simp at hc
  | _ => simp [compCode] at hc
theorem least {p : Nat → Prop} (h : ∃ n, p n) : ∃ n, p n ∧ ∀ m, p m → n ≤ m := by
  obtain ⟨n, hn⟩ := h
  induction n using Nat.strongRecOn with
  | _ n ih =>
    by_cases hm : ∃ m, m < n ∧ p m
    · obtain ⟨m, h1, h2⟩ := hm
      exact ih m h1 h2
    · exact ⟨n, hn, fun m hp => by
        rcases Nat.lt_or_ge m n with hl | hl
        · exact absurd ⟨m, hl, hp⟩ hm
        · exact hl⟩
open Classical in
noncomputable def leastOf (p : Nat → Prop) : Nat := if h : ∃ n, p n then choose (least h) else 0
theorem leastOf_spec {p : Nat → Prop} (h : ∃ n, p n) : p (leastOf p) ∧ ∀ m, p m → leastOf p ≤ m := by
  unfold leastOf
  rw [dif_pos h]
  exact Classical.choose_spec (least h)
theorem WC.loop {b : IR} {Q : Ex → St → Prop} (I : Nat → St → Prop) (h : ∀ n σ, I n σ → WC P GL b σ (fun e σ' => match e with | .normal => ∃ m, m < n ∧ I m σ' | e => Q e σ')) {n : Nat} {σ : St} (h0 : I n σ) : WC P GL (.loop b) σ Q := by
  intro code hc g w act hr
  obtain ⟨x, rfl, hx⟩ := comp_loop hc
  let J : Act → World → Nat → Prop := fun a' w' n => ∃ g' σ', I n σ' ∧ R GL g' w' a' σ' ∧ Ext g w g' w'
  refine wp_loop (fun a' w' => ∃ n, J a' w' n) (fun a' w' => leastOf (J a' w')) ⟨n, g, σ, h0, hr, Ext.refl _ _⟩ ?_
  intro a' w' hJ
  obtain ⟨⟨g1, σ1, i1, r1, e1⟩, hmin⟩ := leastOf_spec hJ
  refine wp_mono (h _ σ1 i1 x hx g1 w' a' r1) fun e a2 w2 hp => ?_
  obtain ⟨g2, σ2, r2, e2, h3⟩ := hp
  cases e with
  | normal =>
    obtain ⟨m, hm, im⟩ := h3
    have hJ2 : ∃ n, J a2 w2 n := ⟨m, g2, σ2, im, r2, e1.trans e2⟩
    exact ⟨hJ2, Nat.lt_of_le_of_lt ((leastOf_spec hJ2).2 m ⟨g2, σ2, im, r2, e1.trans e2⟩) hm⟩
  | exit i => exact ⟨g2, σ2, r2, e1.trans e2, h3⟩
  | ret => exact ⟨g2, σ2, r2, e1.trans e2, h3⟩
  | goto l => exact h3.elim
  | panic c => exact h3.elim
  | outgrown => exact h3.elim
def St.put (σ : St) (dst : Option Nat) (v : V) (H : Heap) : Option St :=
  match dst with
  | none => some ⟨σ.n, σ.tm, H⟩
  | some d => bif Nat.blt d σ.n then some ⟨σ.n, Fw.put σ.tm d v, H⟩ else none
def guardB (gd : Option (Nat × Bool)) (tm : List (Nat × V)) : Option Bool :=
  match gd with
  | none => some true
  | some (d, want) => match get tm d with
    | .d (.bool b) => some (b == want)
    | .tuple [] => some false
    | _ => none
theorem R.stput {g g' : G} {w w' : World} {a : Act} {σ σ' : St} {H' : Heap} {dst : Option Nat} {v : V} {x : Value} (h : R GL g w a σ) (e : Ext g w g' w') (hh : HeapOK g' w' H') (hp : σ.put dst v H' = some σ') (hv : RV g' w' v x) :
    R GL g' w' (a.put dst x) σ' := by
  cases dst with
  | none =>
    simp only [St.put, Option.some.injEq] at hp; subst hp
    exact h.put_none e hh x
  | some d =>
    simp only [St.put] at hp
    cases hb : Nat.blt d σ.n with
    | false => rw [hb] at hp; cases hp
    | true =>
      rw [hb] at hp
      simp only [cond_true, Option.some.injEq] at hp; subst hp
      exact h.put e hh d v x (by rwa [Nat.blt_eq] at hb) hv
theorem wanted_of {ops : Array Oper} {o : Oper} {gd : Option (Nat × Bool)} {g : G} {w : World} {a : Act} {σ : St} {b : Bool} (h : R GL g w a σ) (hg : compGuard ops.toList o = some gd) (hb : guardB gd σ.tm = some b) : Region.wanted o (yielded ops a.tmps) = b := by
  unfold compGuard at hg
  unfold Region.wanted
  cases ho : o.guard with
  | none =>
    simp only [ho, Option.some.injEq] at hg; subst hg
    simp only [guardB, Option.some.injEq] at hb
    exact hb
  | some p =>
    obtain ⟨j, want⟩ := p
    simp only [ho] at hg
    split at hg
    · rename_i d hd
      simp only [Option.some.injEq] at hg; subst hg
      simp only [guardB] at hb
      split at hb
      · rename_i t ht
        simp only [Option.some.injEq] at hb
        have hv := h.tmps d
        rw [ht] at hv
        have hv := RV.bool hv
        have : yielded ops a.tmps j = some t := by
          unfold yielded
          have e : ops[j]? = ops.toList[j]? := by simp
          rw [e, hd]
          simp only [Option.bind_some]
          rw [Array.getD_eq_getD_getElem?] at hv
          cases hq : a.tmps[d]? with
          | none => rw [hq] at hv; simp [undef] at hv
          | some z => rw [hq] at hv; simp at hv; subst hv; rfl
        simp only [this]
        rw [← hb]
        cases t <;> cases want <;> rfl
      · rename_i ht
        simp only [Option.some.injEq] at hb
        have hv := h.tmps d
        rw [ht] at hv
        simp only [RV] at hv
        obtain ⟨x, hx, hxs⟩ := hv
        have : yielded ops a.tmps j = none := by
          unfold yielded
          have e : ops[j]? = ops.toList[j]? := by simp
          rw [e, hd]
          simp only [Option.bind_some]
          rw [Array.getD_eq_getD_getElem?] at hx
          cases hq : a.tmps[d]? with
          | none => rfl
          | some z => rw [hq] at hx; simp at hx; subst hx; rfl
        simp only [this]
        rw [← hb]
        rfl
      · cases hb
    · cases hg
theorem WO.nil {σ : St} {Q : St → Prop} (h : Q σ) : WO P GL [] σ Q := by
  intro ops k hc g w a hr
  have hk : ops.size - k = 0 := by
    have := mapO_length hc
    simp at this; exact this
  rw [hk]
  exact ⟨g, σ, hr, Ext.refl _ _, h⟩
theorem WO.step {o : IOper} {l : List IOper} {σ : St} {Q : St → Prop}
    (h : ∀ (o' : Oper) (ops : Array Oper), (compOp P o'.op).getD .bad = o.op → compGuard ops.toList o' = some o.guard → o'.dst = o.dst → ∀ g w a, R GL g w a σ →
      ∀ (K : Act → World → Prop) (Q' : Exit → Act → World → Prop), (∀ g' w' a' σ', R GL g' w' a' σ' → Ext g w g' w' → WO P GL l σ' Q → K a' w') →
        if Region.wanted o' (yielded ops a.tmps) then o'.wp P a w K Q' else K (a.put o'.dst undef) w) : WO P GL (o :: l) σ Q := by
  intro ops k hc g w a hr
  have hl := mapO_length hc
  simp at hl
  have hk : k < ops.size := by omega
  have hdrop : ops.toList.drop k = ops[k] :: ops.toList.drop (k + 1) := by
    rw [List.drop_eq_getElem_cons (by simpa using hk)]; simp
  rw [hdrop] at hc
  simp only [compOps, mapO] at hc
  split at hc
  · cases hc
  · rename_i io hio
    split at hc
    · cases hc
    · rename_i l' hl'
      simp only [Option.some.injEq, List.cons.injEq] at hc
      obtain ⟨rfl, rfl⟩ := hc
      simp only [compOper] at hio
      split at hio
      · rename_i gd hgd
        have hop : (compOp P ops[k].op).getD .bad = (compOp P ops[k].op).getD .bad := rfl
        simp only [Option.some.injEq] at hio
        subst hio
        rw [show ops.size - k = (ops.size - (k + 1)) + 1 by omega, List.range'_succ, wpOps_cons]
        unfold wpOp
        have hok : ops[k]? = some ops[k] := Array.getElem?_eq_getElem hk
        simp only [hok]
        have key := h ops[k] ops hop hgd rfl g w a hr (wpOps P ops (postC GL g w fun e σ' => match e with | .normal => Q σ' | _ => False) (List.range' (k + 1) (ops.size - (k + 1)))) (postC GL g w fun e σ' => match e with | .normal => Q σ' | _ => False) (by
          intro g' w' a' σ' hr' he hwo
          have := hwo ops (k + 1) hl' g' w' a' hr'
          have hmono : ∀ (l : List Nat) (a : Act) (v : World), wpOps P ops (postC GL g' w' fun e σ' => match e with | .normal => Q σ' | _ => False) l a v → wpOps P ops (postC GL g w fun e σ' => match e with | .normal => Q σ' | _ => False) l a v := by
            intro l a v hw
            exact wpOps_monoQ (postC.ext he) l a v hw
          exact hmono _ _ _ this)
        split
        · rename_i hw
          simp only [hw, if_true] at key
          exact .inl key
        · rename_i hw
          simp only [hw] at key
          exact key
      · cases hio
end
end Fw

/-
  Operations in a row: one that calls nothing, one that is passed over, calls; regions; a function from its body.
-/
set_option linter.unusedSimpArgs false
namespace Fw
open Go
section
variable {P : Program} {GL : GLT}
theorem WO.eff {o : IOper} {l : List IOper} {σ σ' : St} {Q : St → Prop} {v : V} {wr : Wr} (hg : guardB o.guard σ.tm = some true) (he : eff (evo GL σ.tm) σ.hp σ.hp.length o.op = some (v, wr)) (hp : σ.put o.dst v (happ σ.hp wr) = some σ') (h : WO P GL l σ' Q) :
    WO P GL (o :: l) σ Q := by
  refine WO.step fun o' ops hop hgd hdst g w a hr K Q' hK => ?_
  rw [wanted_of hr hgd hg, if_pos rfl]
  obtain ⟨g', w', nx, h1, h2, h3, h4, _⟩ := eff_good (P := P) (a := a) (o := o') (comp_of hop (fun e => by rw [e] at he; cases he)) he hr.ev hr.heap hr.heap.fresh
  unfold Oper.wp
  rw [h1]
  rcases h2 with ⟨x, rfl, hx⟩ | ⟨rfl, rfl⟩
  · simp only [Oper.upon]
    rw [hdst]
    exact hK g' w' _ σ' (hr.stput h4 h3 hp hx) h4 h
  · simp only [Oper.upon]
    rw [hdst]
    exact hK g' w' _ σ' (hr.stput h4 h3 hp (by simp only [RV])) h4 h
theorem WO.skip {o : IOper} {l : List IOper} {σ σ' : St} {Q : St → Prop} (hg : guardB o.guard σ.tm = some false) (hp : σ.put o.dst (.tuple []) σ.hp = some σ') (h : WO P GL l σ' Q) : WO P GL (o :: l) σ Q := by
  refine WO.step fun o' ops hop hgd hdst g w a hr K Q' hK => ?_
  rw [wanted_of hr hgd hg, if_neg (by simp), hdst]
  exact hK g w _ σ' (hr.stput (Ext.refl _ _) hr.heap hp (by simp only [RV]; exact ⟨#[], rfl, by simp [RVs]⟩)) (Ext.refl _ _) h
theorem run_callFunc {f : FuncId} (h : callable P f = true) (args : Array Value) (w : World) : (callFunc f args).run P w = .ok (.enter f args) w := by
  unfold callable at h
  split at h
  · rename_i fn hf
    simp only [Bool.and_eq_true, Bool.not_eq_true'] at h
    have h2 : ¬ fn.body = none := by intro hb; rw [hb] at h; simp at h
    have h3 : ¬ fn.name = "runtime.NumGoroutine" := by simpa using h.2
    simp [callFunc, hf, h2, h3]
  · cases h
theorem comp_isCall {op : Op} {io : IOp} (h : compOp P op = some io) (hio : (∃ f l, io = .call f l) ∨ ∃ x l, io = .callv x l) : ∃ c, op = .call c ∧ compCall P c = some io := by
  cases op with
  | call c => exact ⟨c, rfl, by simpa [compOp] using h⟩
  | makeFunc fn a b => exfalso; cases fn <;> (simp only [compOp] at h; (repeat' split at h) <;> (rcases hio with ⟨f, l, rfl⟩ | ⟨x, l, rfl⟩ <;> simp at h))
  | makeMap t r => exfalso; cases r <;> (simp only [compOp] at h; rcases hio with ⟨f, l, rfl⟩ | ⟨x, l, rfl⟩ <;> simp at h)
  | slice t x lo hi mx => exfalso; cases mx <;> (simp only [compOp] at h; (repeat' split at h) <;> (rcases hio with ⟨f, l, rfl⟩ | ⟨x, l, rfl⟩ <;> simp at h))
  | _ => exfalso; simp only [compOp] at h; (repeat' split at h) <;> (rcases hio with ⟨f, l, rfl⟩ | ⟨x, l, rfl⟩ <;> simp at h)
theorem WO.callGen {o : IOper} {l : List IOper} {σ : St} {Q : St → Prop} {f : FuncId} {args : List V} (hg : guardB o.guard σ.tm = some true)
    (hrun : ∀ (o' : Oper) (g : G) (w : World) (a : Act), (compOp P o'.op).getD .bad = o.op → R GL g w a σ → callable P f = true → ∃ vs : Array Value, RVs g w args vs.toList ∧ (execOp a.eval o').run P w = .ok (.enter f vs) w)
    (h : WF P GL f args σ.hp fun v H' => ∃ σ', σ.put o.dst v H' = some σ' ∧ WO P GL l σ' Q) : WO P GL (o :: l) σ Q := by
  refine WO.step fun o' ops hop hgd hdst g w a hr K Q' hK => ?_
  rw [wanted_of hr hgd hg, if_pos rfl]
  obtain ⟨vs, hvs, hex⟩ := hrun o' g w a hop hr h.1
  unfold Oper.wp
  rw [hex]
  simp only [Oper.upon]
  refine (h.2 g w vs hvs hr.heap hr.globs).mono ?_
  rintro e w' ⟨x, v, g', H', rfl, ⟨σ', hput, hwo⟩, hx, hh, he⟩
  simp only
  rw [hdst]
  exact hK g' w' _ σ' (hr.stput he hh hput hx) he hwo
theorem WO.call {o : IOper} {l : List IOper} {σ : St} {Q : St → Prop} {f : FuncId} {args : List Opd} (ho : o.op = .call f args) (hg : guardB o.guard σ.tm = some true)
    (h : WF P GL f (mlist (evo GL σ.tm) args) σ.hp fun v H' => ∃ σ', σ.put o.dst v H' = some σ' ∧ WO P GL l σ' Q) : WO P GL (o :: l) σ Q := by
  refine WO.callGen hg (fun o' g w a hop hr hca => ?_) h
  rw [ho] at hop
  obtain ⟨c, hc, hcc⟩ := comp_isCall (comp_of hop (by simp)) (.inl ⟨f, args, rfl⟩)
  have hcal : c.callee = .value (.func f) ∧ mapO compOpd c.args.toList = some args := by
    unfold compCall at hcc
    split at hcc
    case h_6 f' hf' =>
      split at hcc
      · simp only [Option.map_eq_some_iff, IOp.call.injEq] at hcc
        obtain ⟨l, hl, rfl, rfl⟩ := hcc
        exact ⟨hf', hl⟩
      · cases hcc
    all_goals exfalso
    all_goals first
      | (simp at hcc; done)
      | (repeat' split at hcc) <;> simp at hcc
  refine ⟨c.args.map a.eval, by simpa using mapOpds hr.ev hcal.2, ?_⟩
  have := run_callFunc hca (c.args.map a.eval) w
  simp [execOp, hc, resolve, hcal.1, Act.eval, Deferred.ofValue, invoke, this]
theorem WO.callv {o : IOper} {l : List IOper} {σ : St} {Q : St → Prop} {f : FuncId} {x : Opd} {first cap : List V} {args : List Opd} (ho : o.op = .callv x args) (hx : evo GL σ.tm x = .func f first cap) (hg : guardB o.guard σ.tm = some true)
    (h : WF P GL f (first ++ mlist (evo GL σ.tm) args ++ cap) σ.hp fun v H' => ∃ σ', σ.put o.dst v H' = some σ' ∧ WO P GL l σ' Q) : WO P GL (o :: l) σ Q := by
  refine WO.callGen hg (fun o' g w a hop hr hca => ?_) h
  rw [ho] at hop
  obtain ⟨c, hc, hcc⟩ := comp_isCall (comp_of hop (by simp)) (.inr ⟨x, args, rfl⟩)
  have hcal : ∃ t, c.callee = .value (.tmp t) ∧ x = .t t ∧ mapO compOpd c.args.toList = some args := by
    unfold compCall at hcc
    split at hcc
    case h_7 t' hf' =>
      simp only [Option.map_eq_some_iff, IOp.callv.injEq] at hcc
      obtain ⟨l, hl, rfl, rfl⟩ := hcc
      exact ⟨t', hf', rfl, hl⟩
    all_goals exfalso
    all_goals first
      | (simp at hcc; done)
      | (repeat' split at hcc) <;> simp at hcc
  obtain ⟨t, ht, rfl, hargs⟩ := hcal
  have hv := hr.ev (.tmp t) (.t t) rfl
  rw [hx] at hv
  simp only [RV] at hv
  obtain ⟨p, q, e1, e2, e3⟩ := hv
  refine ⟨p ++ c.args.map a.eval ++ q, ?_, ?_⟩
  · simp only [Array.toList_append, Array.toList_map]
    exact RVs.append (RVs.append e2 (mapOpds hr.ev hargs)) e3
  · have := run_callFunc hca (p ++ c.args.map a.eval ++ q) w
    simp only [Array.append_assoc] at this
    simp [execOp, hc, resolve, ht, e1, Deferred.ofValue, invoke, this]
theorem WC.region {l : List IOper} {σ : St} {Q : Ex → St → Prop} (h : WO P GL l σ fun σ' => Q .normal σ') : WC P GL (.region l) σ Q := by
  intro code hc g w act hr
  cases code with
  | region id ops draw =>
    simp only [compCode] at hc
    split at hc
    · rename_i l' hl'
      cases draw with
      | true => simp at hc
      | false =>
        simp at hc
        subst hc
        refine wp_region ?_
        have := h ops 0 (by simpa using hl') g w act hr
        rw [List.range_eq_range']
        simp only [Nat.sub_zero] at this
        exact wpOps_monoQ (fun e a v hp => by
          obtain ⟨g2, σ2, h1, h2, h3⟩ := hp
          cases e <;> first | exact ⟨g2, σ2, h1, h2, h3⟩ | exact h3.elim) _ _ _ this
    · cases hc
  | seq => simp only [compCode] at hc; split at hc <;> simp at hc
  | cond => simp only [compCode] at hc; split at hc <;> simp at hc
  | _ => simp [compCode] at hc
def mkTm : Nat → List V → List (Nat × V)
  | _, [] => []
  | n, v :: vs => (n, v) :: mkTm (n + 1) vs
theorem get_mkTm (vs : List V) (n t : Nat) : get (mkTm n vs) t = if t < n then .any else (vs[t - n]?).getD .any := by
  induction vs generalizing n with
  | nil => simp [mkTm, get]
  | cons v vs ih =>
    simp only [mkTm, get]
    by_cases h : n = t
    · subst h; simp
    · rw [beq_ff h, cond_false, ih]
      by_cases h2 : t < n
      · simp [h2, show t < n + 1 by omega]
      · simp [h2, show ¬ t < n + 1 by omega, show t - n = (t - (n + 1)) + 1 by omega]
def resOne (σ : St) : IRes → Option V
  | .t n => some (get σ.tm n)
  | .cell n size agg => match loadC σ.hp size (get σ.tm n) with
    | some cs => mkV agg cs
    | none => none
def resV (rs : List IRes) (σ : St) : Option V :=
  match mapO (resOne σ) rs with
  | some [v] => some v
  | some vs => some (.tuple vs)
  | none => none
def resSem (a : Act) : ResultVar → Sem Value
  | .tmp t => pure (a.tmps.getD t undef)
  | .cell b t => do loadVar t (← asAddr (a.tmps.getD b undef))
theorem resOne_ok {g : G} {w : World} {a : Act} {σ : St} {r : ResultVar} {r' : IRes} {v : V} (h : R GL g w a σ) (hc : compRes P r = some r') (hv : resOne σ r' = some v) :
    ∃ x, (resSem a r).run P w = .ok x w ∧ RV g w v x := by
  cases r with
  | tmp t =>
    simp only [compRes, Option.some.injEq] at hc; subst hc
    simp only [resOne, Option.some.injEq] at hv; subst hv
    exact ⟨_, rfl, h.tmps t⟩
  | cell b t =>
    simp only [compRes] at hc
    split at hc
    · rename_i n ag hn hag
      split at hc
      · simp only [Option.some.injEq] at hc; subst hc
        simp only [resOne] at hv
        split at hv
        · rename_i cs hcs
          obtain ⟨blk, off, vs, e1, e2, e3, e4⟩ := loadC_ok hcs (h.tmps b) h.heap
          obtain ⟨h3, h4⟩ := mkV_RV hv e3
          refine ⟨_, ?_, h3⟩
          simp only [resSem, Sem.run_bind, e1, asAddr, Sem.run_pure, Result.andThen_ok]
          exact run_loadVar_ok hn hag e2 h4 e4
        · cases hv
      · cases hc
    · cases hc
theorem results_ok {g : G} {w : World} {a : Act} {σ : St} {fn : Func} {rs : List IRes} {v : V} (h : R GL g w a σ) (hc : mapO (compRes P) fn.results.toList = some rs) (hv : resV rs σ = some v) :
    ∃ x, (results fn a.tmps).run P w = .ok x w ∧ RV g w v x := by
  have key : ∀ (l : List ResultVar) (rs : List IRes) (vs : List V), mapO (compRes P) l = some rs → mapO (resOne σ) rs = some vs →
      ∃ xs : List Value, (l.mapM (resSem a)).run P w = .ok xs w ∧ RVs g w vs xs := by
    intro l
    induction l with
    | nil =>
      intro rs vs h1 h2
      simp only [mapO, Option.some.injEq] at h1; subst h1
      simp only [mapO, Option.some.injEq] at h2; subst h2
      exact ⟨[], by simp, by simp [RVs]⟩
    | cons r l ih =>
      intro rs vs h1 h2
      simp only [mapO] at h1
      split at h1
      · cases h1
      · rename_i r' hr'
        split at h1
        · cases h1
        · rename_i rs' hrs'
          simp only [Option.some.injEq] at h1; subst h1
          simp only [mapO] at h2
          split at h2
          · cases h2
          · rename_i v' hv'
            split at h2
            · cases h2
            · rename_i vs' hvs'
              simp only [Option.some.injEq] at h2; subst h2
              obtain ⟨x, k1, k2⟩ := resOne_ok h hr' hv'
              obtain ⟨xs, k3, k4⟩ := ih _ _ hrs' hvs'
              refine ⟨x :: xs, ?_, by simp only [RVs]; exact ⟨k2, k4⟩⟩
              rw [List.mapM_cons]
              simp only [Sem.run_bind, k1, Result.andThen_ok, k3, Sem.run_pure]
  unfold resV at hv
  cases hm : mapO (resOne σ) rs with
  | none => simp [hm] at hv
  | some vs =>
    obtain ⟨xs, k1, k2⟩ := key _ _ _ hc hm
    have hl := k2.length
    have hrun : (results fn a.tmps).run P w = .ok (if h : xs.toArray.size = 1 then xs.toArray[0] else .tuple xs.toArray) w := by
      have hres : results fn a.tmps = (do let vs ← fn.results.mapM (resSem a); pure (if h : vs.size = 1 then vs[0] else .tuple vs)) := by
        unfold results
        congr 1
      rw [hres, Array.mapM_eq_mapM_toList]
      simp only [Sem.run_bind, Sem.run_map, k1, Result.andThen_ok, Sem.run_pure]
    refine ⟨_, hrun, ?_⟩
    rw [hm] at hv
    cases vs with
    | nil =>
      simp only [Option.some.injEq] at hv; subst hv
      cases xs with
      | nil => simp [RV]; exact k2
      | cons => simp at hl
    | cons v1 vs =>
      cases vs with
      | nil =>
        simp only [Option.some.injEq] at hv; subst hv
        cases xs with
        | nil => simp at hl
        | cons x xs =>
          cases xs with
          | nil => simp only [RVs] at k2; simpa using k2.1
          | cons => simp at hl
      | cons v2 vs =>
        simp only [Option.some.injEq] at hv; subst hv
        have : ¬ xs.toArray.size = 1 := by simp at hl ⊢; omega
        rw [dif_neg this]
        simp only [RV]
        exact ⟨_, rfl, k2⟩
theorem WF.body {f : FuncId} {fn : IFn} {args : List V} {H : Heap} {Q : V → Heap → Prop} (hf : compFn P f = some fn) (hca : callable P f = true) (hn : args.length ≤ fn.ntmps)
    (h : WC P GL fn.body ⟨fn.ntmps, mkTm 0 args, H⟩ (fun e σ => match e with | .exit _ => False | _ => ∃ v, resV fn.res σ = some v ∧ Q v σ.hp)) : WF P GL f args H Q := by
  refine ⟨hca, fun g w vs hvs hh hg => ?_⟩
  unfold compFn at hf
  split at hf
  · cases hf
  · rename_i fn' hfn
    split at hf
    · cases hf
    · rename_i c hbody
      split at hf
      · rename_i b r hb hr
        simp only [Option.some.injEq] at hf; subst hf
        have hlen := hvs.length
        simp at hlen hn
        refine calls_of_wp hfn hbody (wp_mono (h c hb g w _ ?_) fun e a' w' hp => ?_)
        · refine ⟨rfl, by simp; omega, fun t => ?_, hh, hg⟩
          simp only [get_mkTm, Nat.not_lt_zero, if_false, Nat.sub_zero]
          by_cases ht : t < args.length
          · have hg1 : args[t]? = some args[t] := List.getElem?_eq_getElem ht
            obtain ⟨x, hx1, hx2⟩ := hvs.get t hg1
            rw [hg1, Option.getD_some]
            have hx3 : vs[t]? = some x := by simpa using hx1
            have hts : t < vs.size := by omega
            have : (vs ++ Array.replicate (fn'.ntmps - vs.size) undef).getD t undef = x := by
              rw [Array.getD_eq_getD_getElem?, Array.getElem?_append_left hts, hx3]; rfl
            rw [this]
            exact hx2
          · rw [List.getElem?_eq_none (by omega)]
            simp only [Option.getD_none, RV]
        · obtain ⟨g2, σ2, k1, k2, k3⟩ := hp
          cases e with
          | normal =>
            obtain ⟨v, hv, hq⟩ := k3
            obtain ⟨x, hx1, hx2⟩ := results_ok k1 hr hv
            exact ⟨k1.defers, x, hx1, x, v, g2, σ2.hp, rfl, hq, hx2, k1.heap, k2⟩
          | ret =>
            obtain ⟨v, hv, hq⟩ := k3
            obtain ⟨x, hx1, hx2⟩ := results_ok k1 hr hv
            exact ⟨k1.defers, x, hx1, x, v, g2, σ2.hp, rfl, hq, hx2, k1.heap, k2⟩
          | exit i => exact k3.elim
          | goto l => exact k3.elim
          | panic c => exact k3.elim
          | outgrown => exact k3.elim
      · cases hf
end
end Fw

/-
  A step of an iterator over a map: every entry that has not come yet may come next.
-/
set_option linter.unusedSimpArgs false
namespace Fw
open Go
section
variable {P : Program} {GL : GLT}
def nextCands (ents : Array MapEntry) (sa : Array Nat) (n : Nat) : Array (Option MapEntry) :=
  let left := ents.filter fun e => !sa.contains e.born
  let old := left.filter (·.born < n)
  let new := left.filter (·.born ≥ n)
  (if old.isEmpty then #[none] else #[]) ++ (old ++ new).map some
theorem nextCands_spec {ents : Array MapEntry} {sa : Array Nat} (h : ∀ (i : Nat) (x : MapEntry), ents[i]? = some x → x.born = i) :
    (nextCands ents sa ents.size = #[none] ∧ ∀ i, i < ents.size → i ∈ sa.toList) ∨
    (0 < (nextCands ents sa ents.size).size ∧ ∀ (j : Nat) (c : Option MapEntry), (nextCands ents sa ents.size)[j]? = some c → ∃ i e, c = some e ∧ ents[i]? = some e ∧ e.born = i ∧ i ∉ sa.toList) := by
  have hb : ∀ e ∈ ents, e.born < ents.size ∧ ents[e.born]? = some e := by
    intro e he
    obtain ⟨i, hi, rfl⟩ := Array.mem_iff_getElem.1 he
    have := h i _ (Array.getElem?_eq_getElem hi)
    exact ⟨by rw [this]; exact hi, by rw [this]; exact Array.getElem?_eq_getElem hi⟩
  have hold : (ents.filter fun e => !sa.contains e.born).filter (·.born < ents.size) = ents.filter fun e => !sa.contains e.born := by
    apply Array.filter_eq_self.2
    intro e he
    have := (hb e (Array.mem_of_mem_filter he)).1
    simpa using this
  have hnew : (ents.filter fun e => !sa.contains e.born).filter (·.born ≥ ents.size) = #[] := by
    apply Array.filter_eq_empty_iff.2
    intro e he
    have := (hb e (Array.mem_of_mem_filter he)).1
    simp; omega
  unfold nextCands
  simp only [hold, hnew, Array.append_empty]
  cases hl : (ents.filter fun e => !sa.contains e.born).isEmpty with
  | true =>
    left
    have he := Array.isEmpty_iff.1 hl
    refine ⟨by rw [he]; simp, fun i hi => ?_⟩
    have := Array.filter_eq_empty_iff.1 he ents[i] (Array.getElem_mem hi)
    rw [h i _ (Array.getElem?_eq_getElem hi)] at this
    simpa using this
  | false =>
    right
    have hne : (ents.filter fun e => !sa.contains e.born) ≠ #[] := fun he => by rw [he] at hl; simp at hl
    refine ⟨?_, fun j c hc => ?_⟩
    · simp only [Bool.false_eq_true, if_false, Array.empty_append, Array.size_map]
      exact Array.size_pos_iff.2 hne
    · simp only [Bool.false_eq_true, if_false, Array.empty_append, Array.getElem?_map, Option.map_eq_some_iff] at hc
      obtain ⟨e, he, rfl⟩ := hc
      have hm := Array.mem_of_getElem? he
      have h1 := hb e (Array.mem_of_mem_filter hm)
      have h2 := (Array.mem_filter.1 hm).2
      refine ⟨e.born, e, rfl, h1.2, rfl, by simpa using h2⟩
theorem comp_next {op : Op} {x : Opd} (h : compOp P op = some (.nextM x)) : ∃ it, op = .next it false ∧ compOpd it = some x := by
  cases op with
  | next it s =>
    simp only [compOp] at h
    split at h
    · cases h
    · rename_i hs
      simp only [Option.map_eq_some_iff, IOp.nextM.injEq] at h
      obtain ⟨y, hy, rfl⟩ := h
      exact ⟨it, by simp at hs; rw [hs], hy⟩
  | makeFunc fn a b => exfalso; cases fn <;> (simp only [compOp] at h; (repeat' split at h) <;> simp at h)
  | makeMap t r => exfalso; cases r <;> (simp only [compOp] at h; simp at h)
  | slice t x lo hi mx => exfalso; cases mx <;> (simp only [compOp] at h; (repeat' split at h) <;> simp at h)
  | call c => exfalso; simp only [compOp, compCall] at h; (repeat' split at h) <;> simp at h
  | _ => exfalso; simp only [compOp] at h; (repeat' split at h) <;> simp at h
theorem WO.nextM {o : IOper} {l : List IOper} {σ : St} {Q : St → Prop} {x : Opd} {b m n : Nat} {seen : List Nat} {es : List (D × V)} (ho : o.op = .nextM x) (hg : guardB o.guard σ.tm = some true)
    {m' : Nat} (hx : evo GL σ.tm x = .iter b m') (hb : hget σ.hp b = some (.miter m n seen)) (hm : hget σ.hp m = some (.map es)) (hn : es.length = n)
    (h1 : ∀ i k v, es[i]? = some (k, v) → i ∉ seen → ∃ σ', σ.put o.dst (.tuple [.d (.bool true), .d k, v]) (hput σ.hp b (.miter m n (seen ++ [i]))) = some σ' ∧ WO P GL l σ' Q)
    (h2 : (∀ i, i < n → i ∈ seen) → ∃ σ', σ.put o.dst (.tuple [.d (.bool false)]) σ.hp = some σ' ∧ WO P GL l σ' Q) : WO P GL (o :: l) σ Q := by
  refine WO.step fun o' ops hop hgd hdst g w a hr K Q' hK => ?_
  rw [wanted_of hr hgd hg, if_pos rfl]
  rw [ho] at hop
  obtain ⟨it, hc, hit⟩ := comp_next (comp_of hop (by simp))
  have hv := hr.ev _ _ hit
  rw [hx] at hv
  simp only [RV] at hv
  obtain ⟨xb, hxb⟩ := hr.heap.back b _ hb
  obtain ⟨_, y, hy, hrb⟩ := hr.heap.live b xb hxb
  rw [hb] at hy; simp only [Option.some.injEq] at hy; subst hy
  obtain ⟨blk, rfl, hv2⟩ := hv.2 xb hxb
  simp only [RB] at hrb
  obtain ⟨mb, sa, k1, k2, k3, k4⟩ := hrb
  obtain ⟨xm, hxm⟩ := hr.heap.back m _ hm
  obtain ⟨_, y, hy, hrm⟩ := hr.heap.live m xm hxm
  rw [hm] at hy; simp only [Option.some.injEq] at hy; subst hy
  obtain rfl := k4 xm hxm
  simp only [RB] at hrm
  obtain ⟨ents, clock, m1, m2, m3, m4, m5⟩ := hrm
  have hblk : blk < w.heap.size := (Array.getElem?_eq_some_iff.1 k1).1
  have hn2 : n = ents.size := by omega
  have hdead : (!sa.isEmpty && !ents.isEmpty && ents.all (·.born ≥ n)) = false := by
    cases he : ents.isEmpty with
    | true => simp
    | false =>
      have hpos : 0 < ents.size := by
        cases hs : ents.size with
        | zero => rw [Array.size_eq_zero_iff.1 hs] at he; simp at he
        | succ k => omega
      have : ents.all (·.born ≥ n) = false := by
        rw [Array.all_eq_false]
        refine ⟨0, hpos, ?_⟩
        have := m4 0 _ (Array.getElem?_eq_getElem hpos)
        simp [this]; omega
      simp [this]
  have hrun0 : ∀ r, (∀ q, q = Question.mapNext (nextCands ents sa n).size → (do
        match (nextCands ents sa n)[← choose q]? with
        | some (some e) =>
          setObj blk (.mapIter (some mb) n (sa.push e.born) clock)
          pure (.tuple #[.bool true, e.key, e.val])
        | some none => pure (.tuple #[.bool false])
        | none => stuck "Next: no such candidate" : Sem Value).run P w = r) → (Instr.next (a.eval it) false o'.type).run P w = r := by
    intro r h
    rw [← h _ rfl]
    simp only [Instr.next, hv2, Sem.run_bind, getObj, Sem.run, k1, m1, Result.andThen_ok, hdead, Bool.false_eq_true, if_false, nextCands]
    rfl
  have hrun : ∃ r, (Instr.next (a.eval it) false o'.type).run P w = r ∧
      ((∃ d i e, ents[i]? = some e ∧ e.born = i ∧ i ∉ sa.toList ∧ r = .ok (.tuple #[.bool true, e.key, e.val]) { w with drawn := d, heap := w.heap.setIfInBounds blk (.mapIter (some mb) n (sa.push i) n) }) ∨
       (∃ d, (∀ i, i < n → i ∈ sa.toList) ∧ r = .ok (.tuple #[.bool false]) { w with drawn := d })) := by
    refine ⟨_, hrun0 _ (fun q hq => by subst hq; rfl), ?_⟩
    have key : ∀ (t d : Nat), t < (nextCands ents sa n).size → ∀ r, r = ((match (nextCands ents sa n)[t]? with
        | some (some e) => do
          setObj blk (.mapIter (some mb) n (sa.push e.born) clock)
          pure (.tuple #[.bool true, e.key, e.val])
        | some none => pure (.tuple #[.bool false])
        | none => stuck "Next: no such candidate" : Sem Value).run P { w with drawn := d }) →
      ((∃ d i e, ents[i]? = some e ∧ e.born = i ∧ i ∉ sa.toList ∧ r = .ok (.tuple #[.bool true, e.key, e.val]) { w with drawn := d, heap := w.heap.setIfInBounds blk (.mapIter (some mb) n (sa.push i) n) }) ∨
       (∃ d, (∀ i, i < n → i ∈ sa.toList) ∧ r = .ok (.tuple #[.bool false]) { w with drawn := d })) := by
      intro t d ht r hr
      rw [hn2] at ht hr ⊢
      rcases nextCands_spec (sa := sa) m4 with ⟨e1, e2⟩ | ⟨e1, e2⟩
      · right
        refine ⟨d, e2, ?_⟩
        rw [e1] at ht hr
        obtain rfl : t = 0 := by simp at ht; exact ht
        rw [hr]
        simp
      · left
        obtain ⟨c, hc⟩ : ∃ c, (nextCands ents sa ents.size)[t]? = some c := ⟨_, Array.getElem?_eq_getElem ht⟩
        obtain ⟨i, e, rfl, f1, f2, f3⟩ := e2 t c hc
        refine ⟨d, i, e, f1, f2, f3, ?_⟩
        rw [hr, hc]
        have k1' : w.heap[blk]? = some (Obj.mapIter (some mb) ents.size sa ents.size) := by rw [k1, hn2]
        simp [setObj, Sem.run, f2, m5, k1', -Array.getElem?_eq_getElem]
    have hpos : 0 < (nextCands ents sa n).size := by
      rw [hn2]
      rcases nextCands_spec (sa := sa) m4 with ⟨e1, _⟩ | ⟨e1, _⟩
      · rw [e1]; simp
      · exact e1
    simp only [choose, Sem.run_bind, Sem.run, Result.andThen_ok]
    by_cases hf : (Question.mapNext (nextCands ents sa n).size).forced = true
    · rw [if_pos hf]
      exact key 0 w.drawn hpos _ rfl
    · rw [if_neg hf]
      exact key _ _ (Nat.mod_lt _ hpos) _ rfl
  obtain ⟨r, hr1, hr2⟩ := hrun
  have hex : ∀ v w', r = .ok v w' → (execOp a.eval o').run P w = .ok (.value v) w' := by
    intro v w' e
    rw [e] at hr1
    simp [execOp, hc, hr1]
  unfold Oper.wp
  rcases hr2 with ⟨d, i, e, f1, f2, f3, rfl⟩ | ⟨d, f1, rfl⟩
  · rw [hex _ _ rfl]
    simp only [Oper.upon]
    rw [hdst]
    obtain ⟨hi, _⟩ := Array.getElem?_eq_some_iff.1 f1
    have hil : i < es.length := by omega
    obtain ⟨z, z1, z2, z3, z4⟩ := m3 i (es[i]).1 (es[i]).2 (List.getElem?_eq_getElem hil)
    rw [f1] at z1; simp only [Option.some.injEq] at z1; subst z1
    obtain ⟨σ', hp, hwo⟩ := h1 i (es[i]).1 (es[i]).2 (List.getElem?_eq_getElem hil) (by rw [← k2]; exact f3)
    have he : Ext g w g { w with drawn := d, heap := w.heap.setIfInBounds blk (.mapIter (some mb) n (sa.push i) n) } :=
      Ext.write hxb rfl (hr.heap.notFo hxb rfl) rfl rfl rfl (by simp) (fun j hj => by simp only [Array.getElem?_setIfInBounds_ne (Ne.symm hj)])
    have hh : HeapOK g { w with drawn := d, heap := w.heap.setIfInBounds blk (.mapIter (some mb) n (sa.push i) n) } (hput σ.hp b (.miter m n (seen ++ [i]))) := by
      refine HeapOK.write hr.heap _ hxb rfl he (fun j hj => by simp only [Array.getElem?_setIfInBounds_ne (Ne.symm hj)]) ?_
      simp only [RB]
      exact ⟨mb, sa.push i, by simp [hblk], by simp [k2], k3, k4⟩
    refine hK g _ _ σ' (hr.stput he hh hp ?_) he hwo
    simp only [RV]
    exact ⟨_, rfl, by simp only [RVs]; exact ⟨RV.mkB _, by simp only [RV]; exact Rd.keeps he.keeps _ _ z3, RV.ext he _ _ z4, trivial⟩⟩
  · rw [hex _ _ rfl]
    simp only [Oper.upon]
    rw [hdst]
    obtain ⟨σ', hp, hwo⟩ := h2 (by rw [← k2]; exact f1)
    have he : Ext g w g { w with drawn := d } := Ext.drawn g w d
    refine hK g _ _ σ' (hr.stput he (hr.heap.ext he (fun _ _ _ _ _ => rfl)) hp ?_) he hwo
    simp only [RV]
    exact ⟨_, rfl, by simp only [RVs]; exact ⟨RV.mkB _, trivial⟩⟩
end
end Fw

/-
  Freezing a box, as a rule.
-/
set_option linter.unusedSimpArgs false
namespace Fw
open Go
section
variable {P : Program} {GL : GLT}
theorem WC.freeze {c : IR} {σ σ' : St} {Q : Ex → St → Prop} {b : Nat} (hc : frzSt b σ = some σ') (h : WC P GL c σ' Q) : WC P GL c σ Q := by
  intro code hcode g w a hr
  exact wp_mono (h code hcode _ w a (hr.frz hc)) (postC.ext (Ext.frz _ _ (Ext.refl _ _)))
theorem WO.freeze {l : List IOper} {σ σ' : St} {Q : St → Prop} {b : Nat} (hc : frzSt b σ = some σ') (h : WO P GL l σ' Q) : WO P GL l σ Q := by
  intro ops k hcode g w a hr
  exact wpOps_monoQ (postC.ext (Ext.frz _ _ (Ext.refl _ _))) _ _ _ (h ops k hcode _ w a (hr.frz hc))
theorem WO.effF {o : IOper} {l : List IOper} {σ σ' : St} {Q : St → Prop} {v : V} (hg : guardB o.guard σ.tm = some true) (he : effF (evo GL σ.tm) o.op = some v) (hp : σ.put o.dst v σ.hp = some σ') (h : WO P GL l σ' Q) :
    WO P GL (o :: l) σ Q := by
  refine WO.step fun o' ops hop hgd hdst g w a hr K Q' hK => ?_
  rw [wanted_of hr hgd hg, if_pos rfl]
  obtain ⟨w', x, k1, k2, k3, k4⟩ := effF_good (P := P) (a := a) (o := o') (comp_of hop (fun e => by rw [e] at he; cases he)) he hr.ev hr.heap
  unfold Oper.wp
  rw [k1]
  simp only [Oper.upon]
  rw [hdst]
  exact hK g w' _ σ' (hr.stput k4 k3 hp k2) k4 h
end
end Fw

/-
  What an operation looks at, and that nothing else matters to it.
-/
set_option linter.unusedSimpArgs false
namespace Fw
open Go
def partOpds : List (Nat × Nat × Opd) → List Opd
  | [] => []
  | (_, _, x) :: ps => x :: partOpds ps
def looks : IOp → List Opd
  | .mv x | .box _ x | .load _ _ x | .nilchk x | .un _ x | .conv _ x | .same x | .strToBytes x | .fld _ _ _ x | .faddr _ _ x | .ext x _ | .len _ x | .cap x | .range _ x | .nextS x | .nextM x | .entry x | .mkiface _ x => [x]
  | .pick c a b => [c, a, b]
  | .alloc _ | .mkmap | .bad => []
  | .build _ ps | .mkSlice _ _ _ ps => partOpds ps
  | .store _ a x => [a, x]
  | .bin _ x y | .eq _ _ x y | .eqS _ _ x y | .append _ _ x y => [x, y]
  | .mkfunc _ a b => a ++ b
  | .sslice x lo hi | .lslice _ x lo hi | .aslice _ _ x lo hi => x :: (lo.toList ++ hi.toList)
  | .iaddr _ x i | .iaddrA _ _ x i | .idxS x i | .idxA _ _ _ x i => [x, i]
  | .mkRow _ _ _ l c => [l, c]
  | .appendN _ _ _ x n => [x, n]
  | .lookup _ _ _ m k => [m, k]
  | .mapUpd _ m k x => [m, k, x]
  | .minmax _ xs => xs
  | .call _ args => args
  | .callv x args => x :: args
def refs1 : V → List Nat
  | .ptr b _ _ => [b]
  | .sl b _ _ _ _ => [b]
  | .map b => [b]
  | .iter b m => [b, m]
  | _ => []
def rds (ρ : Opd → V) : IOp → List Nat
  | .load _ _ a => refs1 (ρ a)
  | .store _ a _ => refs1 (ρ a)
  | .lslice _ x _ _ => refs1 (ρ x)
  | .aslice _ _ x _ _ => refs1 (ρ x)
  | .iaddr _ x _ => refs1 (ρ x)
  | .len _ x => refs1 (ρ x)
  | .append _ _ x y => refs1 (ρ x) ++ refs1 (ρ y)
  | .lookup _ _ _ m _ => refs1 (ρ m)
  | .range _ x => refs1 (ρ x)
  | .eq _ _ x y => refs1 (ρ x) ++ refs1 (ρ y)
  | .entry x => refs1 (ρ x)
  | .mapUpd _ m _ _ => refs1 (ρ m)
  | _ => []
section
variable {ρ ρ' : Opd → V} {H H' : Heap}
theorem loadC_congr {n : Nat} {u : V} (h : ∀ b ∈ refs1 u, hget H' b = hget H b) : loadC H' n u = loadC H n u := by
  cases u <;> simp only [loadC]
  rename_i b _ _
  rw [h b (by simp [refs1])]
theorem storeC_congr {n : Nat} {u x : V} (h : ∀ b ∈ refs1 u, hget H' b = hget H b) : storeC H' n u x = storeC H n u x := by
  cases u <;> simp only [storeC]
  rename_i b _ _
  rw [h b (by simp [refs1])]
theorem liveB_congr {b k : Nat} (h : hget H' b = hget H b) : liveB H' b k = liveB H b k := by simp only [liveB, h]
theorem lenV_congr {k : LenKind} {u : V} (h : ∀ b ∈ refs1 u, hget H' b = hget H b) : lenV H' k u = lenV H k u := by
  cases u with
  | d x => cases x <;> rfl
  | sl b hb off len sz => simp only [lenV, liveB_congr (h b (by simp [refs1]))]
  | map b => simp only [lenV, h b (by simp [refs1])]
  | _ => rfl
theorem sliceC_congr {sz : Nat} {u : V} (h : ∀ b ∈ refs1 u, hget H' b = hget H b) : sliceC H' sz u = sliceC H sz u := by
  cases u with
  | d x => cases x <;> rfl
  | sl b hb off len sz => simp only [sliceC, h b (by simp [refs1])]
  | _ => rfl
theorem appendV_congr {ns sz bytes : Nat} {u : V} {xs : List V} (h : ∀ b ∈ refs1 u, hget H' b = hget H b) : appendV H' ns sz bytes u xs = appendV H ns sz bytes u xs := by
  cases u with
  | sl b hb off len sz => simp only [appendV, h b (by simp [refs1])]
  | _ => rfl
theorem mapEs_congr {u : V} (h : ∀ b ∈ refs1 u, hget H' b = hget H b) : mapEs H' u = mapEs H u := by
  cases u with
  | map b => simp only [mapEs, h b (by simp [refs1])]
  | _ => rfl
theorem fillC_congr : ∀ {ps : List (Nat × Nat × Opd)} {cs : List V}, (∀ x ∈ partOpds ps, ρ' x = ρ x) → fillC ρ' cs ps = fillC ρ cs ps
  | [], _, _ => rfl
  | (off, size, x) :: ps, cs, h => by
    simp only [fillC]
    rw [h x (by simp [partOpds]), fillC_congr (fun y hy => h y (by simp [partOpds, hy]))]
theorem mlist_congr : ∀ {l : List Opd}, (∀ x ∈ l, ρ' x = ρ x) → mlist ρ' l = mlist ρ l
  | [], _ => rfl
  | x :: l, h => by simp only [mlist]; rw [h x (by simp), mlist_congr (fun y hy => h y (by simp [hy]))]
theorem bounds_congr {len : Nat} {lo hi : Option Opd} (h : ∀ x ∈ lo.toList ++ hi.toList, ρ' x = ρ x) : bounds ρ' len lo hi = bounds ρ len lo hi := by
  cases lo <;> cases hi <;> simp only [bounds] <;> simp at h <;> simp [h]
theorem eqV_congr {k : EqKind} {u v : V} (hn : ∀ b h, b ∈ refs1 u ++ refs1 v → nilB H' b h = nilB H b h) : eqV H' k u v = eqV H k u v := by
  have hd : ∀ (p : D) (v : V), eqV H' k (.d p) v = eqV H k (.d p) v := by
    intro p v
    rcases p with _ | _ | _ | (_ | ⟨e, es⟩) <;> cases v <;> first
      | (cases k <;> rfl)
      | (rename_i q; rcases q with _ | _ | _ | (_ | ⟨e', es'⟩) <;> cases k <;> rfl)
  have hd2 : ∀ (p : D) (v : V), eqV H' k v (.d p) = eqV H k v (.d p) := by
    intro p v
    cases v with
    | d q => exact hd q _
    | _ => rcases p with _ | _ | _ | (_ | ⟨e, es⟩) <;> cases k <;> rfl
  cases u with
  | d p => exact hd p v
  | _ => cases v with
    | d p => exact hd2 p _
    | _ => cases k <;> first
      | rfl
      | exact hn _ _ (by simp [refs1])
theorem effF_congr {op : IOp} (h1 : ∀ x ∈ looks op, ρ' x = ρ x) : effF ρ' op = effF ρ op := by
  cases op <;> first
    | rfl
    | (simp only [looks] at h1; simp only [effF]; rw [fillC_congr h1])
theorem eff_congr {op : IOp} {ns : Nat} (h1 : ∀ x ∈ looks op, ρ' x = ρ x) (h2 : ∀ b ∈ rds ρ op, hget H' b = hget H b) : eff ρ' H' ns op = eff ρ H ns op := by
  cases op <;> simp only [looks, List.mem_cons, List.not_mem_nil, or_false, forall_eq_or_imp, forall_eq, List.mem_append] at h1 <;> simp only [rds] at h2 <;> simp only [eff]
  case mv => rw [h1]
  case pick => rw [h1.1, h1.2.1, h1.2.2]
  case box => rw [h1]
  case build => rw [fillC_congr h1]
  case mkSlice => rw [fillC_congr h1]
  case load => rw [h1, loadC_congr h2]
  case store => rw [h1.1, h1.2, storeC_congr h2]
  case nilchk => rw [h1]
  case bin => rw [h1.1, h1.2]
  case eq neg k x y =>
    rw [h1.1, h1.2]
    have hn : ∀ b h, b ∈ refs1 (ρ x) ++ refs1 (ρ y) → nilB H' b h = nilB H b h := fun b h hb => by simp only [nilB, h2 b hb]
    rw [eqV_congr hn]
  case eqS => rw [h1.1, h1.2]
  case un => rw [h1]
  case conv => rw [h1]
  case same => rw [h1]
  case strToBytes => rw [h1]
  case mkRow => rw [h1.1, h1.2]
  case appendN => rw [h1.1, h1.2]
  case cap => rw [h1]
  case mkfunc => rw [mlist_congr (fun x hx => h1 x (.inl hx)), mlist_congr (fun x hx => h1 x (.inr hx))]
  case sslice x lo hi =>
    rw [h1.1]
    have hb : ∀ len, bounds ρ' len lo hi = bounds ρ len lo hi := fun len => bounds_congr (fun x hx => h1.2 x (List.mem_append.1 hx))
    simp only [hb]
  case lslice sz x lo hi =>
    rw [h1.1]
    have hb : ∀ len, bounds ρ' len lo hi = bounds ρ len lo hi := fun len => bounds_congr (fun x hx => h1.2 x (List.mem_append.1 hx))
    simp only [hb]
    split <;> first
      | rfl
      | (rename_i b _ _ _ _ e; rw [liveB_congr (h2 b (by rw [e]; simp [refs1]))])
  case aslice n sz x lo hi =>
    rw [h1.1]
    have hb : ∀ len, bounds ρ' len lo hi = bounds ρ len lo hi := fun len => bounds_congr (fun x hx => h1.2 x (List.mem_append.1 hx))
    simp only [hb]
    split <;> first
      | rfl
      | (rename_i b _ _ e; rw [liveB_congr (h2 b (by rw [e]; simp [refs1]))])
  case fld => rw [h1]
  case faddr => rw [h1]
  case iaddr sz x i =>
    rw [h1.1, h1.2]
    split
    · rfl
    · split <;> first
        | rfl
        | (rename_i b _ _ _ _ e; rw [liveB_congr (h2 b (by rw [e]; simp [refs1]))])
  case iaddrA => rw [h1.1, h1.2]
  case idxS => rw [h1.1, h1.2]
  case idxA => rw [h1.1, h1.2]
  case ext => rw [h1]
  case len k x =>
    rw [h1]
    cases k <;> simp only [] <;> first | rfl | rw [lenV_congr h2]
  case append sz bytes x y =>
    have ha : ∀ xs, appendV H' ns sz bytes (ρ x) xs = appendV H ns sz bytes (ρ x) xs := fun xs => appendV_congr (fun b hb => h2 b (by simp [hb]))
    rw [h1.1, h1.2, sliceC_congr (fun b hb => h2 b (by simp [hb]))]
    simp only [ha]
  case lookup => rw [h1.1, h1.2, mapEs_congr h2]
  case mapUpd kk m k x =>
    rw [h1.1, h1.2.1, h1.2.2]
    split
    · rename_i b kd e _
      rw [h2 b (by rw [e]; simp [refs1])]
    · rfl
  case mkiface => rw [h1]
  case entry x =>
    rw [h1]
    split
    · rename_i b m e
      rw [h2 b (by rw [e]; simp [refs1]), h2 m (by rw [e]; simp [refs1])]
    · rfl
  case range m x =>
    rw [h1]
    cases m
    · rfl
    · simp only [cond_true]
      split
      · rename_i b e
        rw [h2 b (by rw [e]; simp [refs1])]
      · rfl
  case minmax => rw [mlist_congr h1]
end
end Fw

/-
  A region whose order is drawn: one run in the text's order, and a look that no two operations whose order is open meet.
-/
set_option linter.unusedSimpArgs false
namespace Fw
open Go
def PC (P : Program) (GL : GLT) (f : FuncId) (args : List V) (v : V) : Prop :=
  callable P f = true ∧ ∀ g w (vs : Array Value), RVs g w args vs.toList → (∀ k, g.fo k → k < w.heap.size) → (∀ b x k, g.γ b = some x → x.own = some k → k < w.heap.size) → Globs GL g w →
    Calls P f vs w fun e w' => ∃ x, e = .returned x ∧ RV g w' v x ∧ Ext g w g w' ∧ ∀ b y k, g.γ b = some y → y.own = some k → w'.heap[k]? = w.heap[k]?
def isCall : IOp → Option (FuncId × List Opd)
  | .call f args => some (f, args)
  | _ => none
def oneD (GL : GLT) (tm : List (Nat × V)) (H : Heap) (ns : Nat) (o : IOper) (cv : Option V) : Option (V × Wr) :=
  match guardB o.guard tm with
  | none => none
  | some false => some (.tuple [], none)
  | some true => match isCall o.op with
    | some _ => cv.map fun v => (v, none)
    | none => match cv with
      | some _ => (effF (evo GL tm) o.op).map fun v => (v, none)
      | none => eff (evo GL tm) H ns o.op
def St.putT (σ : St) (dst : Option Nat) (v : V) (H : Heap) : St :=
  match dst with
  | none => ⟨σ.n, σ.tm, H⟩
  | some d => ⟨σ.n, Fw.put σ.tm d v, H⟩
def runD (GL : GLT) (base : Nat) (qc : Nat → Option V) : Nat → List IOper → St → Option (List ((V × Wr) × List Nat))
  | _, [], _ => some []
  | i, o :: l, σ => match oneD GL σ.tm σ.hp (base + i) o (qc i) with
    | none => none
    | some r => match runD GL base qc (i + 1) l (σ.putT o.dst r.1 (happ σ.hp r.2)) with
      | none => none
      | some rs => some ((r, rds (evo GL σ.tm) o.op) :: rs)
def foldK (K : Nat → Bool) : Nat → List IOper → List ((V × Wr) × List Nat) → St → St
  | i, o :: l, r :: rs, σ => foldK K (i + 1) l rs (bif K i then σ.putT o.dst r.1.1 (happ σ.hp r.1.2) else σ)
  | _, _, _, σ => σ
def slotOf : Wr → Option Nat
  | some (b, _) => some b
  | none => none
def opdT : Opd → Option Nat
  | .t n => some n
  | _ => none
def lookT (o : IOper) : List Nat :=
  (looks o.op).filterMap opdT ++ (match o.guard with | some (d, _) => [d] | none => [])
structure DInfo where
  dst : Option Nat
  lk : List Nat
  rd : List Nat
  ws : Option Nat
  after : List Nat
 deriving Inhabited
def infos : List IOper → List ((V × Wr) × List Nat) → List DInfo
  | o :: l, r :: rs => { dst := o.dst, lk := lookT o, rd := r.2, ws := slotOf r.1.2, after := o.after } :: infos l rs
  | _, _ => []
def inO (x : Option Nat) (l : List Nat) : Bool :=
  match x with
  | some n => l.any (Nat.beq n)
  | none => false
def sameO (x y : Option Nat) : Bool :=
  match x, y with
  | some n, some m => Nat.beq n m
  | _, _ => false
def meet (x y : DInfo) : Bool :=
  inO x.dst y.lk || inO y.dst x.lk || sameO x.dst y.dst || inO x.ws y.rd || inO y.ws x.rd || sameO x.ws y.ws
def maskO : Option Nat → Nat
  | none => 0
  | some t => Nat.shiftLeft 1 t
def maskL : List Nat → Nat
  | [] => 0
  | t :: l => Nat.lor (Nat.shiftLeft 1 t) (maskL l)
def lookM (e : Nat) : List (Nat × Nat) → Nat
  | [] => 0
  | (i, m) :: l => bif Nat.beq i e then m else lookM e l
def reachOf (acc : List (Nat × Nat)) : List Nat → Nat
  | [] => 0
  | e :: es => Nat.lor (Nat.lor (Nat.shiftLeft 1 e) (lookM e acc)) (reachOf acc es)
def reaches : Nat → List (Nat × Nat) → List IOper → List Nat
  | _, _, [] => []
  | j, acc, o :: l => reachOf acc o.after :: reaches (j + 1) ((j, reachOf acc o.after) :: acc) l
def befOk : Nat → List IOper → Bool
  | _, [] => true
  | j, o :: l => o.after.all (Nat.blt · j) && befOk (j + 1) l
def rowOk (W L R : Nat) : List (Nat × Nat × Nat) → Bool
  | [] => true
  | (i, w, k) :: rest => (Nat.beq (Nat.lor (Nat.land w (Nat.lor L W)) (Nat.land k W)) 0 || Nat.beq (Nat.land (Nat.shiftRight R i) 1) 1) && rowOk W L R rest
def gOk : Nat → List (Nat × Nat × Nat) → List (Nat × Nat) → List Nat → Bool
  | _, _, [], _ => true
  | _, _, _, [] => true
  | j, pre, (W, L) :: ms, R :: rs => rowOk W L R pre && gOk (j + 1) ((j, W, L) :: pre) ms rs
def statM (l : List IOper) : List (Nat × Nat) := l.map fun o => (maskO o.dst, maskL (lookT o))
def dynM (rs : List ((V × Wr) × List Nat)) : List (Nat × Nat) := rs.map fun r => (maskO (slotOf r.1.2), maskL r.2)
def statOk (l : List IOper) : Bool := befOk 0 l && gOk 0 [] (statM l) (reaches 0 [] l)
def noWr : List ((V × Wr) × List Nat) → Bool
  | [] => true
  | r :: rs => match r.1.2 with
    | none => noWr rs
    | some _ => false
def drawOk (l : List IOper) (rs : List ((V × Wr) × List Nat)) : Bool :=
  statOk l && (noWr rs || gOk 0 [] (dynM rs) (reaches 0 [] l))
section
variable {P : Program} {GL : GLT}
theorem inO_iff {x : Option Nat} {l : List Nat} : inO x l = true ↔ ∃ n, x = some n ∧ n ∈ l := by
  cases x with
  | none => simp [inO]
  | some n =>
    simp only [inO, List.any_eq_true, Option.some.injEq, exists_eq_left']
    constructor
    · rintro ⟨m, h1, h2⟩; have := Nat.eq_of_beq_eq_true h2; subst this; exact h1
    · intro h; exact ⟨n, h, Nat.beq_refl n⟩
theorem sameO_iff {x y : Option Nat} : sameO x y = true ↔ ∃ n, x = some n ∧ y = some n := by
  cases x <;> cases y <;> simp [sameO]
  exact eq_comm
theorem get_putT {σ : St} {dst : Option Nat} {v : V} {H : Heap} {t : Nat} : get (σ.putT dst v H).tm t = if dst = some t then v else get σ.tm t := by
  cases dst with
  | none => simp [St.putT]
  | some d =>
    simp only [St.putT, get_put, Option.some.injEq]
    by_cases h : t = d
    · subst h; simp
    · rw [if_neg h, if_neg (fun e => h e.symm)]
theorem hget_happ {H : Heap} {wr : Wr} {b : Nat} : hget (happ H wr) b = match wr with | some (s, y) => if b = s then some y else hget H b | none => hget H b := by
  cases wr with
  | none => rfl
  | some p => obtain ⟨s, y⟩ := p; simp only [happ, hget_hput]
theorem foldK_tm {K K' : Nat → Bool} {t : Nat} : ∀ {l : List IOper} {rs : List ((V × Wr) × List Nat)} {i : Nat} {σ σ' : St}, get σ.tm t = get σ'.tm t →
    (∀ j o, l[j]? = some o → o.dst = some t → K (i + j) = K' (i + j)) → get (foldK K i l rs σ).tm t = get (foldK K' i l rs σ').tm t
  | [], _, _, _, _, h, _ => by simpa [foldK] using h
  | _ :: _, [], _, _, _, h, _ => by simpa [foldK] using h
  | o :: l, r :: rs, i, σ, σ', h, hk => by
    simp only [foldK]
    refine foldK_tm ?_ (fun j o' h1 h2 => by have := hk (j + 1) o' (by simpa using h1) h2; rwa [show i + (j + 1) = i + 1 + j by omega] at this)
    by_cases hd : o.dst = some t
    · have := hk 0 o rfl hd
      simp at this
      rw [this]
      cases K' i with
      | true => simp only [cond_true, get_putT, hd, if_true]
      | false => exact h
    · have hne : ∀ (b : Bool) (s : St), get (bif b then s.putT o.dst r.1.1 (happ s.hp r.1.2) else s).tm t = get s.tm t := by
        intro b s; cases b <;> simp [get_putT, hd]
      rw [hne, hne]; exact h
theorem foldK_hp {K K' : Nat → Bool} {b : Nat} : ∀ {l : List IOper} {rs : List ((V × Wr) × List Nat)} {i : Nat} {σ σ' : St}, hget σ.hp b = hget σ'.hp b →
    (∀ j r, rs[j]? = some r → slotOf r.1.2 = some b → K (i + j) = K' (i + j)) → hget (foldK K i l rs σ).hp b = hget (foldK K' i l rs σ').hp b
  | [], _, _, _, _, h, _ => by simpa [foldK] using h
  | _ :: _, [], _, _, _, h, _ => by simpa [foldK] using h
  | o :: l, r :: rs, i, σ, σ', h, hk => by
    simp only [foldK]
    have hpp : ∀ s : St, (s.putT o.dst r.1.1 (happ s.hp r.1.2)).hp = happ s.hp r.1.2 := by intro s; cases o.dst <;> rfl
    refine foldK_hp ?_ (fun j r' h1 h2 => by have := hk (j + 1) r' (by simpa using h1) h2; rwa [show i + (j + 1) = i + 1 + j by omega] at this)
    by_cases hd : slotOf r.1.2 = some b
    · have := hk 0 r rfl hd
      simp at this
      rw [this]
      cases K' i with
      | true =>
        simp only [cond_true, hpp, hget_happ]
        cases hw : r.1.2 with
        | none => rw [hw] at hd; simp [slotOf] at hd
        | some p => obtain ⟨s, y⟩ := p; rw [hw] at hd; simp only [slotOf, Option.some.injEq] at hd; subst hd; simp
      | false => exact h
    · have hne : ∀ (c : Bool) (s : St), hget (bif c then s.putT o.dst r.1.1 (happ s.hp r.1.2) else s).hp b = hget s.hp b := by
        intro c s
        cases c with
        | false => rfl
        | true =>
          simp only [cond_true, hpp, hget_happ]
          cases hw : r.1.2 with
          | none => rfl
          | some p => obtain ⟨q, y⟩ := p; rw [hw] at hd; simp only [slotOf, Option.some.injEq] at hd; simp [Ne.symm hd]
      rw [hne, hne]; exact h
theorem foldK_n {K : Nat → Bool} : ∀ {l : List IOper} {rs : List ((V × Wr) × List Nat)} {i : Nat} {σ : St}, (foldK K i l rs σ).n = σ.n
  | [], _, _, _ => by simp [foldK]
  | _ :: _, [], _, _ => by simp [foldK]
  | o :: l, r :: rs, i, σ => by
    simp only [foldK]
    rw [foldK_n]
    cases K i <;> simp [St.putT]
    cases o.dst <;> rfl
theorem hput_length {H : Heap} {b : Nat} {y : Box} (h : b < H.length) : (hput H b y).length = H.length := by
  induction H generalizing b with
  | nil => simp at h
  | cons z H ih => cases b <;> simp [hput]; exact ih (by simpa using h)
theorem runD_get {base : Nat} {qc : Nat → Option V} : ∀ {l : List IOper} {i0 : Nat} {σ : St} {rs : List ((V × Wr) × List Nat)}, runD GL base qc i0 l σ = some rs → rs.length = l.length ∧
    ∀ i o, l[i]? = some o → ∃ r, rs[i]? = some r ∧ oneD GL (foldK (fun j => decide (j < i0 + i)) i0 l rs σ).tm (foldK (fun j => decide (j < i0 + i)) i0 l rs σ).hp (base + (i0 + i)) o (qc (i0 + i)) = some r.1 ∧
      r.2 = rds (evo GL (foldK (fun j => decide (j < i0 + i)) i0 l rs σ).tm) o.op
  | [], i0, σ, rs, h => by simp [runD] at h; subst h; simp
  | o :: l, i0, σ, rs, h => by
    simp only [runD] at h
    split at h
    · cases h
    · rename_i r hr
      split at h
      · cases h
      · rename_i rs' hrs
        simp only [Option.some.injEq] at h; subst h
        obtain ⟨h1, h2⟩ := runD_get hrs
        refine ⟨by simp [h1], fun i o' ho' => ?_⟩
        have hnone : ∀ (l : List IOper) (rs : List ((V × Wr) × List Nat)) (k : Nat) (σ : St), (∀ j, k ≤ j → (decide (j < i0)) = false) → foldK (fun j => decide (j < i0)) k l rs σ = σ := by
          intro l rs k σ hk
          induction l generalizing rs k with
          | nil => simp [foldK]
          | cons o l ih =>
            cases rs with
            | nil => simp [foldK]
            | cons r rs =>
              simp only [foldK, hk k (Nat.le_refl _), cond_false]
              exact ih rs (k + 1) (fun j hj => hk j (by omega))
        cases i with
        | zero =>
          simp at ho'; subst ho'
          refine ⟨_, rfl, ?_, ?_⟩
          · simp only [Nat.add_zero]
            rw [hnone _ _ _ _ (fun j hj => by simp; omega)]
            exact hr
          · simp only [Nat.add_zero]
            rw [hnone _ _ _ _ (fun j hj => by simp; omega)]
        | succ i =>
          simp at ho'
          obtain ⟨r', h3, h4, h5⟩ := h2 i o' ho'
          have e : i0 + (i + 1) = i0 + 1 + i := by omega
          refine ⟨r', by simpa using h3, ?_, ?_⟩
          · simp only [foldK, e, show decide (i0 < i0 + 1 + i) = true by simp; omega, cond_true]
            exact h4
          · simp only [foldK, e, show decide (i0 < i0 + 1 + i) = true by simp; omega, cond_true]
            exact h5
end
end Fw

/-
  A region whose order is drawn: whatever the order, the end is that of the text's order.
-/
set_option linter.unusedSimpArgs false
namespace Fw
open Go
section
variable {P : Program} {GL : GLT}
theorem R.congr {g : G} {w : World} {a : Act} {σ σ' : St} (h : R GL g w a σ) (hn : σ'.n = σ.n) (ht : ∀ t, get σ'.tm t = get σ.tm t) (hh : σ'.hp = σ.hp) : R GL g w a σ' :=
  ⟨h.defers, by rw [h.size, hn], fun t => by rw [ht t]; exact h.tmps t, by rw [hh]; exact h.heap, h.globs⟩
theorem R.drawn {g : G} {w : World} {a : Act} {σ : St} (h : R GL g w a σ) (n : Nat) : R GL g { w with drawn := n } a σ :=
  ⟨h.defers, h.size, fun t => RV.ext (Ext.drawn g w n) _ _ (h.tmps t), h.heap.ext (Ext.drawn g w n) (fun _ _ _ _ _ => rfl), h.globs.ext (Ext.drawn g w n)⟩
theorem hget_pad (H : Heap) (n b : Nat) : hget (H ++ List.replicate n none) b = hget H b := by
  induction H generalizing b with
  | nil =>
    simp only [List.nil_append]
    induction n generalizing b with
    | zero => rfl
    | succ n ih => cases b <;> simp [List.replicate_succ, hget]; rw [ih]; simp [hget]
  | cons y H ih => cases b <;> simp [hget, ih]
theorem HeapOK.pad {g : G} {w : World} {H : Heap} (h : HeapOK g w H) (n : Nat) : HeapOK g w (H ++ List.replicate n none) :=
  ⟨fun b hb => by have := h.dom b hb; simp; omega, fun b x hx => by obtain ⟨h1, y, h2, h3⟩ := h.live b x hx; exact ⟨h1, y, by rw [hget_pad]; exact h2, h3⟩,
   fun b y hy => h.back b y (by rwa [hget_pad] at hy), h.inj, h.fo⟩
theorem R.pad {g : G} {w : World} {a : Act} {σ : St} (h : R GL g w a σ) (n : Nat) : R GL g w a ⟨σ.n, σ.tm, σ.hp ++ List.replicate n none⟩ :=
  ⟨h.defers, h.size, h.tmps, h.heap.pad n, h.globs⟩
theorem heap_ext : ∀ {H H' : Heap}, H.length = H'.length → (∀ b, hget H b = hget H' b) → H = H'
  | [], [], _, _ => rfl
  | x :: H, y :: H', hl, h => by
    have h0 : x = y := h 0
    have ih : H = H' := heap_ext (by simpa using hl) (fun b => h (b + 1))
    rw [h0, ih]
  | [], _ :: _, hl, _ => by simp at hl
  | _ :: _, [], hl, _ => by simp at hl
structure Looked (ds : List DInfo) (rl : Nat → Nat → Prop) : Prop where
  before : ∀ (j : Nat) (d : DInfo), ds[j]? = some d → ∀ e ∈ d.after, e < j
  reach : ∀ (j i : Nat), rl j i → ∃ d, ds[j]? = some d ∧ ∃ e ∈ d.after, i = e ∨ rl e i
  meets : ∀ (i j : Nat) (x y : DInfo), i < j → ds[i]? = some x → ds[j]? = some y → meet x y = true → rl j i
theorem tb_one (i j : Nat) : Nat.testBit (Nat.shiftLeft 1 i) j = decide (i = j) := by
  show Nat.testBit (1 <<< i) j = _
  rw [Nat.testBit_shiftLeft]
  by_cases h : i = j
  · subst h; simp
  · by_cases h2 : j ≥ i
    · have : j - i ≠ 0 := by omega
      have e : Nat.testBit 1 (j - i) = false := Nat.testBit_lt_two_pow (Nat.one_lt_two_pow this)
      simp [h, h2, e]
    · simp [h, h2]
theorem tb_or (a b j : Nat) : Nat.testBit (Nat.lor a b) j = (Nat.testBit a j || Nat.testBit b j) := Nat.testBit_or a b j
theorem tb_and (a b j : Nat) : Nat.testBit (Nat.land a b) j = (Nat.testBit a j && Nat.testBit b j) := Nat.testBit_and a b j
theorem tb_maskL {t : Nat} : ∀ {l : List Nat}, Nat.testBit (maskL l) t = true ↔ t ∈ l
  | [] => by simp [maskL]
  | s :: l => by
    simp only [maskL, tb_or, tb_one, Bool.or_eq_true, decide_eq_true_eq, tb_maskL (l := l), List.mem_cons]
    constructor
    · rintro (h | h)
      · exact .inl h.symm
      · exact .inr h
    · rintro (h | h)
      · exact .inl h.symm
      · exact .inr h
theorem tb_maskO {t : Nat} {x : Option Nat} : Nat.testBit (maskO x) t = true ↔ x = some t := by
  cases x with
  | none => simp [maskO]
  | some s => rw [maskO, tb_one]; simp
theorem reaches_length : ∀ {l : List IOper} {j : Nat} {acc : List (Nat × Nat)}, (reaches j acc l).length = l.length
  | [], _, _ => rfl
  | _ :: l, _, _ => by simp [reaches, reaches_length (l := l)]
theorem reachOf_tb {acc : List (Nat × Nat)} {i : Nat} : ∀ {es : List Nat}, Nat.testBit (reachOf acc es) i = true → ∃ e ∈ es, i = e ∨ Nat.testBit (lookM e acc) i = true
  | [], h => by simp [reachOf] at h
  | e :: es, h => by
    simp only [reachOf, tb_or, tb_one, Bool.or_eq_true, decide_eq_true_eq] at h
    rcases h with (h | h) | h
    · exact ⟨e, List.mem_cons_self, .inl h.symm⟩
    · exact ⟨e, List.mem_cons_self, .inr h⟩
    · obtain ⟨e', h1, h2⟩ := reachOf_tb h
      exact ⟨e', List.mem_cons_of_mem _ h1, h2⟩
theorem reaches_spec : ∀ {l : List IOper} {j0 : Nat} {acc : List (Nat × Nat)}, befOk j0 l = true → (∀ e m, lookM e acc = m → m ≠ 0 → e < j0) →
    ∀ k (o : IOper), l[k]? = some o → ∀ i, Nat.testBit ((reaches j0 acc l).getD k 0) i = true → ∃ e ∈ o.after, i = e ∨ (e < j0 ∧ Nat.testBit (lookM e acc) i = true) ∨ (j0 ≤ e ∧ Nat.testBit ((reaches j0 acc l).getD (e - j0) 0) i = true)
  | [], _, _, _, _, k, o, ho, _, _ => by simp at ho
  | o :: l, j0, acc, hb, hacc, 0, o', ho, i, hi => by
    simp at ho; subst ho
    simp only [reaches, List.getD_cons_zero] at hi
    obtain ⟨e, h1, h2⟩ := reachOf_tb hi
    refine ⟨e, h1, ?_⟩
    rcases h2 with h2 | h2
    · exact .inl h2
    · refine .inr (.inl ⟨hacc e _ rfl (fun h0 => by rw [h0] at h2; simp at h2), h2⟩)
  | o :: l, j0, acc, hb, hacc, k + 1, o', ho, i, hi => by
    simp only [befOk, Bool.and_eq_true] at hb
    simp at ho
    simp only [reaches, List.getD_cons_succ] at hi ⊢
    have hacc' : ∀ e m, lookM e ((j0, reachOf acc o.after) :: acc) = m → m ≠ 0 → e < j0 + 1 := by
      intro e m hm hne
      simp only [lookM] at hm
      by_cases he : j0 = e
      · omega
      · rw [beq_ff he, cond_false] at hm
        have := hacc e m hm hne; omega
    obtain ⟨e, h1, h2⟩ := reaches_spec (l := l) hb.2 hacc' k o' ho i hi
    refine ⟨e, h1, ?_⟩
    rcases h2 with h2 | ⟨h2, h3⟩ | ⟨h2, h3⟩
    · exact .inl h2
    · simp only [lookM] at h3
      by_cases he : j0 = e
      · subst he
        simp only [Nat.beq_refl, cond_true] at h3
        exact .inr (.inr ⟨Nat.le_refl _, by simpa using h3⟩)
      · rw [beq_ff he, cond_false] at h3
        exact .inr (.inl ⟨by omega, h3⟩)
    · refine .inr (.inr ⟨by omega, ?_⟩)
      rw [show e - j0 = (e - (j0 + 1)) + 1 by omega, List.getD_cons_succ]
      exact h3
theorem befOk_spec : ∀ {l : List IOper} {j0 : Nat}, befOk j0 l = true → ∀ (k : Nat) (o : IOper), l[k]? = some o → ∀ e ∈ o.after, e < j0 + k
  | [], _, _, k, o, ho, _, _ => by simp at ho
  | o :: l, j0, hb, 0, o', ho, e, he => by
    simp at ho; subst ho
    simp only [befOk, Bool.and_eq_true, List.all_eq_true] at hb
    have := hb.1 e he
    rw [Nat.blt_eq] at this; omega
  | o :: l, j0, hb, k + 1, o', ho, e, he => by
    simp at ho
    simp only [befOk, Bool.and_eq_true] at hb
    have := befOk_spec hb.2 k o' ho e he
    omega
def confl (W L w k : Nat) : Prop := ∃ t, (Nat.testBit w t = true ∧ (Nat.testBit L t = true ∨ Nat.testBit W t = true)) ∨ (Nat.testBit k t = true ∧ Nat.testBit W t = true)
theorem rowOk_spec {W L R : Nat} : ∀ {pre : List (Nat × Nat × Nat)}, rowOk W L R pre = true → ∀ i w k, (i, w, k) ∈ pre → confl W L w k → Nat.testBit R i = true
  | [], _, i, w, k, h, _ => by simp at h
  | (i0, w0, k0) :: rest, hr, i, w, k, h, hc => by
    simp only [rowOk, Bool.and_eq_true, Bool.or_eq_true] at hr
    rcases List.mem_cons.1 h with h | h
    · simp only [Prod.mk.injEq] at h
      obtain ⟨rfl, rfl, rfl⟩ := h
      rcases hr.1 with h1 | h1
      · exfalso
        have h0 := Nat.eq_of_beq_eq_true h1
        obtain ⟨t, ht⟩ := hc
        have : Nat.testBit (Nat.lor (Nat.land w (Nat.lor L W)) (Nat.land k W)) t = true := by
          simp only [tb_or, tb_and, Bool.or_eq_true, Bool.and_eq_true]
          exact ht
        rw [h0] at this; simp at this
      · have h0 := Nat.eq_of_beq_eq_true h1
        have e : Nat.testBit R i = decide (Nat.land (Nat.shiftRight R i) 1 = 1) := by
          show ((1 &&& (R >>> i)) != 0) = decide ((R >>> i) &&& 1 = 1)
          rw [Nat.and_comm, Nat.and_one_is_mod]
          rcases Nat.mod_two_eq_zero_or_one (R >>> i) with h | h <;> simp [h]
        rw [e, h0]; simp
    · exact rowOk_spec hr.2 i w k h hc
theorem gOk_spec : ∀ {ms : List (Nat × Nat)} {rs : List Nat} {j0 : Nat} {pre : List (Nat × Nat × Nat)}, gOk j0 pre ms rs = true → ms.length ≤ rs.length →
    ∀ (j : Nat) (W L : Nat), ms[j]? = some (W, L) → (∀ i w k, (i, w, k) ∈ pre → confl W L w k → Nat.testBit (rs.getD j 0) i = true) ∧
      ∀ (i : Nat) (w k : Nat), i < j → ms[i]? = some (w, k) → confl W L w k → Nat.testBit (rs.getD j 0) (j0 + i) = true
  | [], _, _, _, _, _, j, W, L, h => by simp at h
  | (W0, L0) :: ms, [], _, _, _, hl, j, W, L, h => by simp at hl
  | (W0, L0) :: ms, R :: rs, j0, pre, hg, hl, 0, W, L, h => by
    simp at h
    obtain ⟨rfl, rfl⟩ := h
    simp only [gOk, Bool.and_eq_true] at hg
    exact ⟨fun i w k hm hc => by simpa using rowOk_spec hg.1 i w k hm hc, fun i w k hi => by omega⟩
  | (W0, L0) :: ms, R :: rs, j0, pre, hg, hl, j + 1, W, L, h => by
    simp at h
    simp only [gOk, Bool.and_eq_true] at hg
    obtain ⟨h1, h2⟩ := gOk_spec hg.2 (by simpa using hl) j W L h
    refine ⟨fun i w k hm hc => by simpa using h1 i w k (List.mem_cons_of_mem _ hm) hc, fun i w k hi hm hc => ?_⟩
    cases i with
    | zero =>
      simp at hm
      obtain ⟨rfl, rfl⟩ := hm
      simpa using h1 j0 _ _ List.mem_cons_self hc
    | succ i =>
      simp at hm
      have := h2 i w k (by omega) hm hc
      rw [show j0 + (i + 1) = j0 + 1 + i by omega]
      simpa using this
theorem noWr_spec : ∀ {rs : List ((V × Wr) × List Nat)}, noWr rs = true → ∀ r ∈ rs, slotOf r.1.2 = none
  | [], _, r, h => by simp at h
  | x :: rs, hn, r, h => by
    simp only [noWr] at hn
    split at hn
    · rename_i hx
      rcases List.mem_cons.1 h with rfl | h
      · rw [hx]; rfl
      · exact noWr_spec hn r h
    · cases hn
theorem infos_get : ∀ {l : List IOper} {rs : List ((V × Wr) × List Nat)} {i : Nat} {o : IOper} {r : (V × Wr) × List Nat}, l[i]? = some o → rs[i]? = some r →
    (infos l rs)[i]? = some { dst := o.dst, lk := lookT o, rd := r.2, ws := slotOf r.1.2, after := o.after }
  | [], _, _, _, _, h, _ => by simp at h
  | _ :: _, [], _, _, _, _, h => by simp at h
  | o :: l, r :: rs, 0, _, _, h1, h2 => by simp at h1 h2; subst h1; subst h2; simp [infos]
  | o :: l, r :: rs, i + 1, _, _, h1, h2 => by simp at h1 h2; simp [infos]; exact infos_get h1 h2
theorem infos_inv : ∀ {l : List IOper} {rs : List ((V × Wr) × List Nat)} {i : Nat} {d : DInfo}, (infos l rs)[i]? = some d → ∃ o r, l[i]? = some o ∧ rs[i]? = some r ∧ d = { dst := o.dst, lk := lookT o, rd := r.2, ws := slotOf r.1.2, after := o.after }
  | [], _, _, _, h => by simp [infos] at h
  | _ :: _, [], _, _, h => by simp [infos] at h
  | o :: l, r :: rs, 0, d, h => by simp [infos] at h; exact ⟨o, r, rfl, rfl, h.symm⟩
  | o :: l, r :: rs, i + 1, d, h => by simp [infos] at h; simpa using infos_inv h
theorem drawOk_spec {l : List IOper} {rs : List ((V × Wr) × List Nat)} (h : drawOk l rs = true) (hlen : rs.length = l.length) : Looked (infos l rs) (fun j i => Nat.testBit ((reaches 0 [] l).getD j 0) i = true) := by
  simp only [drawOk, statOk, Bool.and_eq_true, Bool.or_eq_true] at h
  obtain ⟨⟨h1, h2⟩, h3⟩ := h
  refine ⟨fun j d hd e he => ?_, fun j i hi => ?_, fun i j x y hij hx hy hm => ?_⟩
  · obtain ⟨o, r, ho, hr, rfl⟩ := infos_inv hd
    have := befOk_spec h1 j o ho e he
    omega
  · have hj : j < l.length := by
      rcases Nat.lt_or_ge j l.length with h | h
      · exact h
      · rw [List.getD_eq_getElem?_getD, List.getElem?_eq_none (by rw [reaches_length]; exact h)] at hi
        simp at hi
    have ho : l[j]? = some l[j] := List.getElem?_eq_getElem hj
    have hr : rs[j]? = some (rs[j]'(by omega)) := List.getElem?_eq_getElem _
    obtain ⟨e, h4, h5⟩ := reaches_spec h1 (fun e m hm hne => by simp [lookM] at hm; exact absurd hm.symm hne) j _ ho i hi
    refine ⟨_, infos_get ho hr, e, h4, ?_⟩
    rcases h5 with h5 | ⟨h5, h6⟩ | ⟨h5, h6⟩
    · exact .inl h5
    · simp [lookM] at h6
    · exact .inr (by simpa using h6)
  · obtain ⟨o, r, ho, hr, rfl⟩ := infos_inv hx
    obtain ⟨o', r', ho', hr', rfl⟩ := infos_inv hy
    have k1 := (gOk_spec h2 (by simp [statM, reaches_length]) j (maskO o'.dst) (maskL (lookT o')) (by simp [statM, ho'])).2 i (maskO o.dst) (maskL (lookT o)) hij (by simp [statM, ho])
    simp only [Nat.zero_add] at k1
    simp only [meet, Bool.or_eq_true, inO_iff, sameO_iff] at hm
    have dyn : (∃ b, (slotOf r.1.2 = some b ∧ (b ∈ r'.2 ∨ slotOf r'.1.2 = some b)) ∨ (b ∈ r.2 ∧ slotOf r'.1.2 = some b)) → Nat.testBit ((reaches 0 [] l).getD j 0) i = true := by
      rintro ⟨b, hb⟩
      rcases h3 with h3 | h3
      · have e1 := noWr_spec h3 r (List.mem_of_getElem? hr)
        have e2 := noWr_spec h3 r' (List.mem_of_getElem? hr')
        rw [e1, e2] at hb; simp at hb
      · have k2 := (gOk_spec h3 (by simp [dynM, reaches_length, hlen]) j (maskO (slotOf r'.1.2)) (maskL r'.2) (by simp [dynM, hr'])).2 i (maskO (slotOf r.1.2)) (maskL r.2) hij (by simp [dynM, hr])
        simp only [Nat.zero_add] at k2
        refine k2 ⟨b, ?_⟩
        simp only [tb_maskO, tb_maskL]
        exact hb
    rcases hm with ((((⟨t, e1, e2⟩ | ⟨t, e1, e2⟩) | ⟨t, e1, e2⟩) | ⟨t, e1, e2⟩) | ⟨t, e1, e2⟩) | ⟨t, e1, e2⟩
    · exact k1 ⟨t, .inl ⟨tb_maskO.2 e1, .inl (tb_maskL.2 e2)⟩⟩
    · exact k1 ⟨t, .inr ⟨tb_maskL.2 e2, tb_maskO.2 e1⟩⟩
    · exact k1 ⟨t, .inl ⟨tb_maskO.2 e1, .inr (tb_maskO.2 e2)⟩⟩
    · exact dyn ⟨t, .inl ⟨e1, .inl e2⟩⟩
    · exact dyn ⟨t, .inr ⟨e2, e1⟩⟩
    · exact dyn ⟨t, .inl ⟨e1, .inr e2⟩⟩
def Closed (l : List IOper) (K : Nat → Bool) : Prop := ∀ (j : Nat) (o : IOper), l[j]? = some o → K j = true → ∀ e ∈ o.after, K e = true
theorem Closed.reach {l : List IOper} {rs : List ((V × Wr) × List Nat)} {rl : Nat → Nat → Prop} {K : Nat → Bool} (hl : Looked (infos l rs) rl) (hK : Closed l K) : ∀ (j i : Nat), rl j i → K j = true → K i = true := by
  intro j
  induction j using Nat.strongRecOn with
  | _ j ih =>
    intro i hr hj
    obtain ⟨d, hd, e, he, h⟩ := hl.reach j i hr
    obtain ⟨o, r, ho, _, rfl⟩ := infos_inv hd
    have hke := hK j o ho hj e he
    rcases h with rfl | h
    · exact hke
    · exact ih e (hl.before j _ hd e he) i h hke
theorem agree {l : List IOper} {rs : List ((V × Wr) × List Nat)} {rl : Nat → Nat → Prop} {K : Nat → Bool} (hl : Looked (infos l rs) rl) (hK : Closed l K) {i : Nat} {o : IOper} (ho : l[i]? = some o) (hi : K i = false) (hready : ∀ e ∈ o.after, K e = true)
    {j : Nat} {x y : DInfo} (hx : (infos l rs)[i]? = some x) (hy : (infos l rs)[j]? = some y) (hm : meet x y = true) (hm' : meet y x = true) : K j = decide (j < i) := by
  rcases Nat.lt_trichotomy j i with hj | hj | hj
  · simp only [hj, decide_true]
    have hr := hl.meets j i y x hj hy hx hm'
    obtain ⟨d, hd, e, he, h⟩ := hl.reach i j hr
    obtain ⟨o', r, ho', _, rfl⟩ := infos_inv hd
    rw [ho] at ho'; simp only [Option.some.injEq] at ho'; subst ho'
    rcases h with rfl | h
    · exact hready _ he
    · exact Closed.reach hl hK e j h (hready e he)
  · subst hj; simp [hi]
  · have hr := hl.meets i j x y hj hx hy hm
    have : decide (j < i) = false := by simp; omega
    rw [this]
    cases hk : K j with
    | false => rfl
    | true => rw [Closed.reach hl hK j i hr hk] at hi; cases hi
theorem meet_comm (x y : DInfo) : meet x y = meet y x := by
  have h1 : sameO x.dst y.dst = sameO y.dst x.dst := by
    rw [Bool.eq_iff_iff, sameO_iff, sameO_iff]
    constructor <;> (rintro ⟨n, h, k⟩; exact ⟨n, k, h⟩)
  have h2 : sameO x.ws y.ws = sameO y.ws x.ws := by
    rw [Bool.eq_iff_iff, sameO_iff, sameO_iff]
    constructor <;> (rintro ⟨n, h, k⟩; exact ⟨n, k, h⟩)
  unfold meet
  rw [h1, h2]
  cases inO x.dst y.lk <;> cases inO y.dst x.lk <;> cases sameO y.dst x.dst <;> cases inO x.ws y.rd <;> cases inO y.ws x.rd <;> cases sameO y.ws x.ws <;> rfl
theorem guardB_congr {gd : Option (Nat × Bool)} {tm tm' : List (Nat × V)} (h : ∀ d w, gd = some (d, w) → get tm' d = get tm d) : guardB gd tm' = guardB gd tm := by
  cases gd with
  | none => rfl
  | some p => obtain ⟨d, w⟩ := p; simp only [guardB, h d w rfl]
theorem evo_congr {tm tm' : List (Nat × V)} {x : Opd} (h : ∀ t, opdT x = some t → get tm' t = get tm t) : evo GL tm' x = evo GL tm x := by
  cases x with
  | t n => exact h n rfl
  | _ => rfl
theorem oneD_congr {tm tm' : List (Nat × V)} {H H' : Heap} {ns : Nat} {o : IOper} {cv : Option V} (h1 : ∀ t ∈ lookT o, get tm' t = get tm t) (h2 : ∀ b ∈ rds (evo GL tm) o.op, hget H' b = hget H b) : oneD GL tm' H' ns o cv = oneD GL tm H ns o cv := by
  have hg : guardB o.guard tm' = guardB o.guard tm := guardB_congr (fun d w hd => h1 d (by simp [lookT, hd]))
  have he : ∀ x ∈ looks o.op, evo GL tm' x = evo GL tm x := fun x hx => evo_congr (fun t ht => h1 t (by simp only [lookT, List.mem_append, List.mem_filterMap]; exact .inl ⟨x, hx, ht⟩))
  unfold oneD
  rw [hg, eff_congr he h2, effF_congr he]
theorem RV.owns {g : G} {w : World} {H : Heap} (hh : HeapOK g w H) : ∀ b x k, g.γ b = some x → x.own = some k → k < w.heap.size := by
  intro b x k hx hk
  obtain ⟨_, y, _, h3⟩ := hh.live b x hx
  exact h3.lt k hk
theorem oneD_wp {o : IOper} {o' : Oper} {ops : Array Oper} {ns : Nat} {cv : Option V} {v : V} {wr : Wr} {g : G} {w : World} {a : Act} {σ : St} (hop : (compOp P o'.op).getD .bad = o.op) (hgd : compGuard ops.toList o' = some o.guard) (hdst : o'.dst = o.dst)
    (h1 : oneD GL σ.tm σ.hp ns o cv = some (v, wr)) (hq : ∀ f args, isCall o.op = some (f, args) → guardB o.guard σ.tm = some true → PC P GL f (mlist (evo GL σ.tm) args) v) (hr : R GL g w a σ) (hns : Fresh g ns) (hd : ∀ d, o.dst = some d → d < σ.n)
    (K : Act → World → Prop) (Q' : Exit → Act → World → Prop)
    (hK : ∀ g' w' a', R GL g' w' a' (σ.putT o.dst v (happ σ.hp wr)) → Ext g w g' w' → DomLe g g' ns → K a' w') :
    if Region.wanted o' (yielded ops a.tmps) then o'.wp P a w K Q' else K (a.put o'.dst undef) w := by
  have hput : ∀ v H', σ.put o.dst v H' = some (σ.putT o.dst v H') := by
    intro v H'
    cases ho : o.dst with
    | none => rfl
    | some d =>
      have : Nat.blt d σ.n = true := by rw [Nat.blt_eq]; exact hd d ho
      simp [St.put, St.putT, this]
  unfold oneD at h1
  split at h1
  · cases h1
  · rename_i hg
    simp only [Option.some.injEq, Prod.mk.injEq] at h1
    obtain ⟨rfl, rfl⟩ := h1
    rw [wanted_of hr hgd hg, if_neg (by simp), hdst]
    exact hK g w _ (hr.stput (Ext.refl _ _) hr.heap (hput _ _) (by simp only [RV]; exact ⟨#[], rfl, by simp [RVs]⟩)) (Ext.refl _ _) (fun _ h => .inl h)
  · rename_i hg
    rw [wanted_of hr hgd hg, if_pos rfl]
    split at h1
    · rename_i fa hc
      obtain ⟨f, args⟩ := fa
      cases cv with
      | none => simp at h1
      | some cv =>
        simp at h1
        obtain ⟨rfl, rfl⟩ := h1
        have hpc := hq f args hc hg
        have hcall : o.op = .call f args := by
          cases ho : o.op <;> rw [ho] at hc <;> simp [isCall] at hc
          obtain ⟨rfl, rfl⟩ := hc; rfl
        rw [hcall] at hop
        obtain ⟨c, hcc, hcomp⟩ := comp_isCall (comp_of hop (by simp)) (.inl ⟨f, args, rfl⟩)
        have hcal : c.callee = .value (.func f) ∧ mapO compOpd c.args.toList = some args := by
          unfold compCall at hcomp
          split at hcomp
          case h_6 f' hf' =>
            split at hcomp
            · simp only [Option.map_eq_some_iff, IOp.call.injEq] at hcomp
              obtain ⟨l, hl, rfl, rfl⟩ := hcomp
              exact ⟨hf', hl⟩
            · cases hcomp
          all_goals exfalso
          all_goals first
            | (simp at hcomp; done)
            | (repeat' split at hcomp) <;> simp at hcomp
        have hrun : (execOp a.eval o').run P w = .ok (.enter f (c.args.map a.eval)) w := by
          have := run_callFunc hpc.1 (c.args.map a.eval) w
          simp [execOp, hcc, resolve, hcal.1, Act.eval, Deferred.ofValue, invoke, this]
        unfold Oper.wp
        rw [hrun]
        simp only [Oper.upon]
        refine (hpc.2 g w _ (by simpa using mapOpds hr.ev hcal.2) (fun k hk => (hr.heap.fo k hk).1) (RV.owns hr.heap) hr.globs).mono ?_
        rintro e w' ⟨x, rfl, hx, he, hown⟩
        simp only
        rw [hdst]
        exact hK g w' _ (hr.stput he (hr.heap.ext he hown) (hput _ _) hx) he (fun _ h => .inl h)
    · split at h1
      · simp only [Option.map_eq_some_iff, Prod.mk.injEq] at h1
        obtain ⟨v', hv', rfl, rfl⟩ := h1
        obtain ⟨w', x, k1, k2, k3, k4⟩ := effF_good (P := P) (a := a) (o := o') (comp_of hop (fun e => by rw [e] at hv'; cases hv')) hv' hr.ev hr.heap
        unfold Oper.wp
        rw [k1]
        simp only [Oper.upon]
        rw [hdst]
        exact hK g w' _ (hr.stput k4 k3 (hput _ _) k2) k4 (fun _ h => .inl h)
      · obtain ⟨g', w', nx, k1, k2, k3, k4, k5⟩ := eff_good (P := P) (a := a) (o := o') (comp_of hop (fun e => by rw [e] at h1; cases h1)) h1 hr.ev hr.heap hns
        unfold Oper.wp
        rw [k1]
        rcases k2 with ⟨x, rfl, hx⟩ | ⟨rfl, rfl⟩
        · simp only [Oper.upon]
          rw [hdst]
          exact hK g' w' _ (hr.stput k4 k3 (hput _ _) hx) k4 k5
        · simp only [Oper.upon]
          rw [hdst]
          exact hK g' w' _ (hr.stput k4 k3 (hput _ _) (by simp only [RV])) k4 k5
def addK (K : Nat → Bool) (i : Nat) : Nat → Bool := fun j => K j || decide (j = i)
theorem foldK_add_tm {K : Nat → Bool} {i t : Nat} : ∀ {l : List IOper} {rs : List ((V × Wr) × List Nat)} {i0 k : Nat} {σ : St} {o : IOper} {r : (V × Wr) × List Nat}, i = i0 + k → l[k]? = some o → rs[k]? = some r → K i = false →
    l.length = rs.length → (∀ (j : Nat) (o' : IOper), l[j]? = some o' → j ≠ k → o'.dst = some t → o.dst = some t → K (i0 + j) = true → j < k) → get (foldK (addK K i) i0 l rs σ).tm t = if o.dst = some t then r.1.1 else get (foldK K i0 l rs σ).tm t := by
  intro l rs i0 k σ o r hik ho hr hi hlen hlast
  by_cases hd : o.dst = some t
  · rw [if_pos hd]
    induction l generalizing rs i0 k σ with
    | nil => simp at ho
    | cons p l ih =>
      cases rs with
      | nil => simp at hr
      | cons q rs =>
        simp only [foldK]
        cases k with
        | zero =>
          simp at ho hr hik; subst ho; subst hr; subst hik
          have hself : addK K i i = true := by simp [addK]
          rw [hself, cond_true]
          have hno : ∀ (l' : List IOper) (rs' : List ((V × Wr) × List Nat)) (m : Nat) (s : St), (∀ (j : Nat) (o' : IOper), l'[j]? = some o' → o'.dst = some t → addK K i (m + j) = false) → get (foldK (addK K i) m l' rs' s).tm t = get s.tm t := by
            intro l'
            induction l' with
            | nil => intro rs' m s _; simp [foldK]
            | cons p' l' ih' =>
              intro rs' m s hn
              cases rs' with
              | nil => simp [foldK]
              | cons q' rs' =>
                simp only [foldK]
                rw [ih' rs' (m + 1) _ (fun j o' h e => by have := hn (j + 1) o' (by simpa using h) e; rwa [show m + (j + 1) = m + 1 + j by omega] at this)]
                by_cases hs : p'.dst = some t
                · have := hn 0 p' rfl hs
                  simp at this
                  rw [this, cond_false]
                · cases addK K i m <;> simp [get_putT, hs]
          rw [hno _ _ _ _ (fun j o' h e => by
            have hl := hlast (j + 1) o' (by simpa using h) (by omega) e hd
            have hne : i + 1 + j ≠ i := by omega
            simp only [addK, hne, decide_false, Bool.or_false]
            cases hk : K (i + 1 + j) with
            | false => rfl
            | true => have := hl (by rw [show i + (j + 1) = i + 1 + j by omega]; exact hk); omega)]
          simp [get_putT, hd]
        | succ k =>
          simp at ho hr
          exact ih (by omega) ho hr (by simpa using hlen) (fun j o' h1 h2 h3 h4 h5 => by have := hlast (j + 1) o' (by simpa using h1) (by omega) h3 h4 (by rw [show i0 + (j + 1) = i0 + 1 + j by omega]; exact h5); omega)
  · rw [if_neg hd]
    refine foldK_tm rfl (fun j o' h1 h2 => ?_)
    have : i0 + j ≠ i := by
      rintro rfl
      have : j = k := by omega
      subst this
      rw [ho] at h1; simp only [Option.some.injEq] at h1; subst h1
      exact hd h2
    simp [addK, this]
theorem foldK_add_hp {K : Nat → Bool} {i b : Nat} : ∀ {l : List IOper} {rs : List ((V × Wr) × List Nat)} {i0 k : Nat} {σ : St} {r : (V × Wr) × List Nat}, l.length = rs.length → i = i0 + k → rs[k]? = some r → K i = false →
    (∀ (j : Nat) (r' : (V × Wr) × List Nat), rs[j]? = some r' → j ≠ k → slotOf r'.1.2 = some b → slotOf r.1.2 = some b → K (i0 + j) = true → j < k) → hget (foldK (addK K i) i0 l rs σ).hp b = hget (happ (foldK K i0 l rs σ).hp r.1.2) b := by
  intro l rs i0 k σ r hlen hik hr hi hlast
  have hpp : ∀ (s : St) (o : IOper) (q : (V × Wr) × List Nat), (s.putT o.dst q.1.1 (happ s.hp q.1.2)).hp = happ s.hp q.1.2 := by intro s o q; cases o.dst <;> rfl
  by_cases hd : slotOf r.1.2 = some b
  · have hval : hget (happ (foldK K i0 l rs σ).hp r.1.2) b = hget (happ [] r.1.2) b := by
      cases hw : r.1.2 with
      | none => rw [hw] at hd; simp [slotOf] at hd
      | some p =>
        obtain ⟨s, y⟩ := p
        rw [hw] at hd; simp only [slotOf, Option.some.injEq] at hd; subst hd
        simp [happ, hget_hput]
    rw [hval]
    clear hval
    induction rs generalizing l i0 k σ with
    | nil => simp at hr
    | cons q rs ih =>
      cases l with
      | nil => simp at hlen
      | cons p l =>
        simp only [foldK]
        cases k with
        | zero =>
          simp at hr hik; subst hr; subst hik
          have hself : addK K i i = true := by simp [addK]
          rw [hself, cond_true]
          have hno : ∀ (rs' : List ((V × Wr) × List Nat)) (l' : List IOper) (m : Nat) (s : St), (∀ (j : Nat) (r' : (V × Wr) × List Nat), rs'[j]? = some r' → slotOf r'.1.2 = some b → addK K i (m + j) = false) → hget (foldK (addK K i) m l' rs' s).hp b = hget s.hp b := by
            intro rs'
            induction rs' with
            | nil => intro l' m s _; cases l' <;> simp [foldK]
            | cons q' rs' ih' =>
              intro l' m s hn
              cases l' with
              | nil => simp [foldK]
              | cons p' l' =>
                simp only [foldK]
                rw [ih' l' (m + 1) _ (fun j r' h e => by have := hn (j + 1) r' (by simpa using h) e; rwa [show m + (j + 1) = m + 1 + j by omega] at this)]
                by_cases hs : slotOf q'.1.2 = some b
                · have := hn 0 q' rfl hs
                  simp at this
                  rw [this, cond_false]
                · cases addK K i m with
                  | false => rfl
                  | true =>
                    simp only [cond_true, hpp, hget_happ]
                    cases hw : q'.1.2 with
                    | none => rfl
                    | some p => obtain ⟨c, y⟩ := p; rw [hw] at hs; simp only [slotOf, Option.some.injEq] at hs; simp [Ne.symm hs]
          rw [hno _ _ _ _ (fun j r' h e => by
            have hl := hlast (j + 1) r' (by simpa using h) (by omega) e hd
            have hne : i + 1 + j ≠ i := by omega
            simp only [addK, hne, decide_false, Bool.or_false]
            cases hk : K (i + 1 + j) with
            | false => rfl
            | true => have := hl (by rw [show i + (j + 1) = i + 1 + j by omega]; exact hk); omega)]
          rw [hpp]
          cases hw : q.1.2 with
          | none => rw [hw] at hd; simp [slotOf] at hd
          | some p => obtain ⟨c, y⟩ := p; rw [hw] at hd; simp only [slotOf, Option.some.injEq] at hd; subst hd; simp [happ, hget_hput]
        | succ k =>
          simp at hr
          exact ih (by simpa using hlen) (by omega) hr (fun j r' h1 h2 h3 h4 h5 => by have := hlast (j + 1) r' (by simpa using h1) (by omega) h3 h4 (by rw [show i0 + (j + 1) = i0 + 1 + j by omega]; exact h5); omega)
  · have hval : hget (happ (foldK K i0 l rs σ).hp r.1.2) b = hget (foldK K i0 l rs σ).hp b := by
      rw [hget_happ]
      cases hw : r.1.2 with
      | none => rfl
      | some p => obtain ⟨c, y⟩ := p; rw [hw] at hd; simp only [slotOf, Option.some.injEq] at hd; simp [Ne.symm hd]
    rw [hval]
    refine foldK_hp rfl (fun j r' h1 h2 => ?_)
    have : i0 + j ≠ i := by
      rintro rfl
      have : j = k := by omega
      subst this
      rw [hr] at h1; simp only [Option.some.injEq] at h1; subst h1
      exact hd h2
    simp [addK, this]
end
end Fw

/-
  A region whose order is drawn: the rule.
-/
set_option linter.unusedSimpArgs false
namespace Fw
open Go
section
variable {P : Program} {GL : GLT}
theorem foldK_congr {K K' : Nat → Bool} : ∀ {l : List IOper} {rs : List ((V × Wr) × List Nat)} {i : Nat} {σ : St}, (∀ j, j < l.length → K (i + j) = K' (i + j)) → foldK K i l rs σ = foldK K' i l rs σ
  | [], _, _, _, _ => by simp [foldK]
  | _ :: _, [], _, _, _ => by simp [foldK]
  | o :: l, r :: rs, i, σ, h => by
    simp only [foldK]
    have h0 := h 0 (by simp)
    simp at h0
    rw [h0]
    exact foldK_congr (fun j hj => by have := h (j + 1) (by simp; omega); rwa [show i + (j + 1) = i + 1 + j by omega] at this)
theorem foldK_len {K : Nat → Bool} {m : Nat} : ∀ {l : List IOper} {rs : List ((V × Wr) × List Nat)} {i : Nat} {σ : St}, σ.hp.length = m → (∀ r ∈ rs, ∀ b, slotOf r.1.2 = some b → b < m) → (foldK K i l rs σ).hp.length = m
  | [], _, _, _, h, _ => by simpa [foldK] using h
  | _ :: _, [], _, _, h, _ => by simpa [foldK] using h
  | o :: l, r :: rs, i, σ, h, hs => by
    simp only [foldK]
    refine foldK_len ?_ (fun r' hr' => hs r' (by simp [hr']))
    cases K i with
    | false => exact h
    | true =>
      have hpp : (σ.putT o.dst r.1.1 (happ σ.hp r.1.2)).hp = happ σ.hp r.1.2 := by cases o.dst <;> rfl
      simp only [cond_true, hpp]
      cases hw : r.1.2 with
      | none => exact h
      | some p =>
        obtain ⟨b, y⟩ := p
        have hb := hs r (by simp) b (by rw [hw]; rfl)
        simp only [happ]
        rw [hput_length (by omega)]
        exact h
theorem compD_get {ops : Array Oper} {l : List IOper} (hc : compOps P ops.toList true ops.toList = some l) : l.length = ops.size ∧ ∀ (i : Nat) (o' : Oper), ops[i]? = some o' → ∃ o : IOper, l[i]? = some o ∧ (compOp P o'.op).getD .bad = o.op ∧ compGuard ops.toList o' = some o.guard ∧ o'.dst = o.dst ∧ o.after = compAfter o' := by
  refine ⟨by have := mapO_length hc; simpa using this.symm, fun i o' ho' => ?_⟩
  obtain ⟨o, h1, h2⟩ := mapO_get i o' hc (by simpa using ho')
  refine ⟨o, h1, ?_⟩
  unfold compOper at h2
  split at h2
  · rename_i gd h4
    simp only [Option.some.injEq] at h2; subst h2
    exact ⟨rfl, h4, rfl, by simp⟩
  · cases h2
def dstOk (n : Nat) (l : List IOper) : Bool := l.all fun o => match o.dst with | some d => Nat.blt d n | none => true
def slotOk (m : Nat) (rs : List ((V × Wr) × List Nat)) : Bool := rs.all fun r => match slotOf r.1.2 with | some b => Nat.blt b m | none => true
def preD (l : List IOper) (rs : List ((V × Wr) × List Nat)) (σ : St) (i : Nat) : St := foldK (fun j => decide (j < i)) 0 l rs σ
def padSt (σ : St) (n : Nat) : St := ⟨σ.n, σ.tm, σ.hp ++ List.replicate n none⟩
theorem WC.draw {l : List IOper} {σ : St} {Q : Ex → St → Prop} {qc : Nat → Option V} {rs : List ((V × Wr) × List Nat)} (hm : P.follows .mixedOrders = true)
    (hrun : runD GL σ.hp.length qc 0 l (padSt σ l.length) = some rs) (hok : drawOk l rs = true) (hdst : dstOk σ.n l = true) (hslot : slotOk (σ.hp.length + l.length) rs = true)
    (hq : ∀ (i : Nat) (o : IOper) (r : (V × Wr) × List Nat), l[i]? = some o → rs[i]? = some r → ∀ f args, isCall o.op = some (f, args) → guardB o.guard (preD l rs (padSt σ l.length) i).tm = some true → PC P GL f (mlist (evo GL (preD l rs (padSt σ l.length) i).tm) args) r.1.1)
    (h : Q .normal (foldK (fun _ => true) 0 l rs (padSt σ l.length))) : WC P GL (.draw l) σ Q := by
  intro code hc g w act hr
  obtain ⟨id, ops, rfl, hl⟩ : ∃ id ops, code = .region id ops true ∧ compOps P ops.toList true ops.toList = some l := by
    cases code with
    | region id ops draw =>
      simp only [compCode] at hc
      split at hc
      · rename_i l' hl'
        cases draw with
        | false => simp at hc
        | true => simp at hc; subst hc; exact ⟨id, ops, rfl, hl'⟩
      · cases hc
    | seq => simp only [compCode] at hc; split at hc <;> simp at hc
    | cond => simp only [compCode] at hc; split at hc <;> simp at hc
    | _ => simp [compCode] at hc
  obtain ⟨hlen, hcomp⟩ := compD_get hl
  obtain ⟨hrl, hrg⟩ := runD_get hrun
  have hlk := drawOk_spec hok hrl
  have hdst' : ∀ (i : Nat) (o : IOper), l[i]? = some o → ∀ d, o.dst = some d → d < σ.n := by
    intro i o ho d hd
    have := (List.all_eq_true.1 hdst) o (List.mem_of_getElem? ho)
    rw [hd] at this
    simpa [Nat.blt_eq] using this
  have hslot' : ∀ r ∈ rs, ∀ b, slotOf r.1.2 = some b → b < σ.hp.length + l.length := by
    intro r hr b hb
    have := (List.all_eq_true.1 hslot) r hr
    rw [hb] at this
    simpa [Nat.blt_eq] using this
  generalize hσp : padSt σ l.length = σp at *
  have hpl : σp.hp.length = σ.hp.length + l.length := by rw [← hσp]; simp [padSt]
  have hpn : σp.n = σ.n := by rw [← hσp]; rfl
  refine wp_region_any hm ?_
  have key : ∀ (fuel : Nat) (listed : Array Bool) (g1 : G) (w1 : World) (a1 : Act), listed.size = ops.size → ((List.range ops.size).filter fun j => !listed.getD j false).length = fuel → Closed l (fun j => listed.getD j false) →
      R GL g1 w1 a1 (foldK (fun j => listed.getD j false) 0 l rs σp) → Ext g w g1 w1 → (∀ b, g1.dom b → b < σ.hp.length ∨ ∃ j, listed.getD j false = true ∧ b = σ.hp.length + j) →
      wpAny P .any ops (postC GL g w Q) fuel listed a1 w1 := by
    intro fuel
    induction fuel with
    | zero =>
      intro listed g1 w1 a1 hsz hcnt hcl hR hE hdom
      have hall : ∀ j, j < ops.size → listed.getD j false = true := by
        intro j hj
        have := List.eq_nil_of_length_eq_zero hcnt
        rw [List.filter_eq_nil_iff] at this
        have := this j (by simpa using hj)
        simpa using this
      refine ⟨?_, g1, _, hR.congr rfl (fun _ => rfl) rfl, hE, ?_⟩
      · unfold Region.ready
        rw [List.filter_eq_nil_iff]
        intro j hj
        simp only [List.mem_range] at hj
        have h1 := hall j hj
        have h2 : listed.getD j true = true := by
          rw [Array.getD_eq_getD_getElem?] at h1 ⊢
          rw [Array.getElem?_eq_getElem (by omega)] at h1 ⊢
          exact h1
        simp [h2]
      · rw [foldK_congr (K' := fun _ => true) (fun j hj => by simp only [Nat.zero_add]; exact hall j (by omega))]
        exact h
    | succ fuel ih =>
      intro listed g1 w1 a1 hsz hcnt hcl hR hE hdom
      constructor
      · intro hnil
        exfalso
        have hex : ∃ j, j < ops.size ∧ listed.getD j false = false := by
          have hne : ((List.range ops.size).filter fun j => !listed.getD j false) ≠ [] := by intro e; rw [e] at hcnt; simp at hcnt
          obtain ⟨j, hj⟩ := List.exists_mem_of_ne_nil _ hne
          rw [List.mem_filter] at hj
          exact ⟨j, by simpa using hj.1, by simpa using hj.2⟩
        obtain ⟨j, ⟨hj1, hj2⟩, hmin⟩ := least hex
        have hoj : ops[j]? = some ops[j] := Array.getElem?_eq_getElem hj1
        obtain ⟨o, ho, _, _, _, haft⟩ := hcomp j _ hoj
        have hrj : j < rs.length := by omega
        have hin := infos_get ho (List.getElem?_eq_getElem hrj)
        have : j ∈ Region.ready .any ops listed := by
          unfold Region.ready
          rw [List.mem_filter]
          refine ⟨by simpa using hj1, ?_⟩
          have h2 : listed.getD j true = false := by
            rw [Array.getD_eq_getD_getElem?] at hj2 ⊢
            rw [Array.getElem?_eq_getElem (by omega)] at hj2 ⊢
            exact hj2
          simp only [h2, Bool.not_false, Bool.true_and, hoj, Option.map_some, Option.getD_some, Array.all_eq_true_iff_forall_mem]
          intro e he
          cases hb : Region.binds .any e with
          | false => rfl
          | true =>
            simp only [Bool.not_true, Bool.false_or]
            have hea : e.on ∈ o.after := by
              rw [haft]; simp only [compAfter, List.mem_map, List.mem_filter]
              exact ⟨e, ⟨by simpa using he, hb⟩, rfl⟩
            have hlt := hlk.before j _ hin e.on hea
            cases hq2 : listed.getD e.on false with
            | true => rfl
            | false => have := hmin e.on ⟨by omega, hq2⟩; omega
        rw [hnil] at this
        cases this
      · intro i hi
        unfold Region.ready at hi
        rw [List.mem_filter] at hi
        have hin : i < ops.size := by simpa using hi.1
        have hoi : ops[i]? = some ops[i] := Array.getElem?_eq_getElem hin
        have hi2 := hi.2
        simp only [Bool.and_eq_true, Bool.not_eq_true', hoi, Option.map_some, Option.getD_some, Array.all_eq_true_iff_forall_mem] at hi2
        obtain ⟨o, ho, hop, hgd, hd, haft⟩ := hcomp i _ hoi
        have hir : i < rs.length := by omega
        have hri : rs[i]? = some rs[i] := List.getElem?_eq_getElem hir
        obtain ⟨r, hr1, hr2, hr3⟩ := hrg i o ho
        rw [hri] at hr1; simp only [Option.some.injEq] at hr1
        simp only [Nat.zero_add] at hr2 hr3
        have hKi : listed.getD i false = false := by
          have := hi2.1
          rw [Array.getD_eq_getD_getElem?] at this ⊢
          rw [Array.getElem?_eq_getElem (by omega)] at this ⊢
          exact this
        have hready : ∀ e ∈ o.after, listed.getD e false = true := by
          intro e he
          rw [haft] at he
          simp only [compAfter, List.mem_map, List.mem_filter] at he
          obtain ⟨ed, ⟨he1, he2⟩, rfl⟩ := he
          have := hi2.2 ed (by simpa using he1)
          simpa [he2] using this
        have hinf := infos_get ho hri
        have hag : ∀ {j : Nat} {y : DInfo}, (infos l rs)[j]? = some y → meet { dst := o.dst, lk := lookT o, rd := rs[i].2, ws := slotOf rs[i].1.2, after := o.after } y = true → listed.getD j false = decide (j < i) :=
          fun hy hm => agree hlk hcl ho hKi hready hinf hy hm (by rw [meet_comm]; exact hm)
        have htm : ∀ t ∈ lookT o, get (foldK (fun j => listed.getD j false) 0 l rs σp).tm t = get (preD l rs σp i).tm t := by
          intro t ht
          refine foldK_tm rfl (fun j o' h1 h2 => ?_)
          simp only [Nat.zero_add]
          have hjr : j < rs.length := by have := (List.getElem?_eq_some_iff.1 h1).1; omega
          have hinj := infos_get h1 (List.getElem?_eq_getElem hjr)
          refine hag hinj ?_
          unfold meet
          have : inO o'.dst (lookT o) = true := inO_iff.2 ⟨t, h2, ht⟩
          simp [this]
        have hhp : ∀ b ∈ rds (evo GL (preD l rs σp i).tm) o.op, hget (foldK (fun j => listed.getD j false) 0 l rs σp).hp b = hget (preD l rs σp i).hp b := by
          intro b hb
          refine foldK_hp rfl (fun j r' h1 h2 => ?_)
          simp only [Nat.zero_add]
          have hjl : j < l.length := by have := (List.getElem?_eq_some_iff.1 h1).1; omega
          have hinj := infos_get (List.getElem?_eq_getElem hjl) h1
          refine hag hinj ?_
          unfold meet
          have : inO (slotOf r'.1.2) rs[i].2 = true := inO_iff.2 ⟨b, h2, by rw [hr1, hr3]; exact hb⟩
          simp [this]
        have hone := oneD_congr (GL := GL) (ns := σ.hp.length + i) (cv := qc i) htm hhp
        have hr2' : oneD GL (preD l rs σp i).tm (preD l rs σp i).hp (σ.hp.length + i) o (qc i) = some r.1 := hr2
        rw [hr2'] at hone
        have hevo : ∀ x ∈ looks o.op, evo GL (foldK (fun j => listed.getD j false) 0 l rs σp).tm x = evo GL (preD l rs σp i).tm x := fun x hx => evo_congr (fun t ht => htm t (by simp only [lookT, List.mem_append, List.mem_filterMap]; exact .inl ⟨x, hx, ht⟩))
        have hgu : guardB o.guard (foldK (fun j => listed.getD j false) 0 l rs σp).tm = guardB o.guard (preD l rs σp i).tm := guardB_congr (fun d w hd => htm d (by simp [lookT, hd]))
        unfold wpOp
        simp only [hoi]
        have hwp := oneD_wp (P := P) (GL := GL) (ops := ops) (v := r.1.1) (wr := r.1.2) hop hgd hd hone (fun f args hc hg1 => by
            rw [hgu] at hg1
            have := hq i o rs[i] ho hri f args hc hg1
            rw [hr1] at this
            have hml : mlist (evo GL (foldK (fun j => listed.getD j false) 0 l rs σp).tm) args = mlist (evo GL (preD l rs σp i).tm) args := by
              refine mlist_congr (fun x hx => hevo x ?_)
              cases hop2 : o.op <;> rw [hop2] at hc <;> simp [isCall] at hc
              obtain ⟨rfl, rfl⟩ := hc
              simpa [looks] using hx
            rw [hml]
            exact this) hR (by
            intro hd2
            rcases hdom _ hd2 with h1 | ⟨j, h1, h2⟩
            · omega
            · have : j = i := by omega
              subst this
              rw [hKi] at h1; cases h1) (fun d hd2 => by rw [foldK_n, hpn]; exact hdst' i o ho d hd2)
          (wpAny P .any ops (postC GL g w Q) fuel (listed.setIfInBounds i true)) (postC GL g w Q) (by
            intro g2 w2 a2 hR2 hE2 hD2
            have hK' : ∀ j, (listed.setIfInBounds i true).getD j false = addK (fun j => listed.getD j false) i j := by
              intro j
              simp only [addK, Array.getD_eq_getD_getElem?]
              by_cases hj : j = i
              · subst hj
                rw [Array.getElem?_setIfInBounds_self_of_lt (by omega)]; simp
              · rw [Array.getElem?_setIfInBounds_ne (by omega)]; simp [hj]
            have hfold : foldK (fun j => (listed.setIfInBounds i true).getD j false) 0 l rs σp = foldK (addK (fun j => listed.getD j false) i) 0 l rs σp := foldK_congr (fun j _ => hK' _)
            refine ih _ g2 w2 a2 (by simpa using hsz) ?_ ?_ ?_ (hE.trans hE2) ?_
            · have e1 : (fun j => !(listed.setIfInBounds i true).getD j false) = fun j => !listed.getD j false && !decide (j = i) := by
                funext j; rw [hK' j]; simp [addK]
              rw [e1]
              have hcount : ∀ (m : Nat) (f : Nat → Bool), i < m → f i = true → ((List.range m).filter f).length = ((List.range m).filter fun j => f j && !decide (j = i)).length + 1 := by
                intro m f
                induction m with
                | zero => intro h; omega
                | succ m ihm =>
                  intro him hfi
                  rw [List.range_succ, List.filter_append, List.filter_append, List.length_append, List.length_append]
                  rcases Nat.lt_or_ge i m with h1 | h1
                  · rw [ihm h1 hfi]
                    have : m ≠ i := by omega
                    simp [List.filter_cons, this]
                    split <;> simp <;> omega
                  · have : m = i := by omega
                    subst this
                    have hsame : (List.range m).filter f = (List.range m).filter fun j => f j && !decide (j = m) := by
                      refine List.filter_congr (fun j hj => ?_)
                      have : j ≠ m := by have := List.mem_range.1 hj; omega
                      simp [this]
                    rw [← hsame]
                    simp [List.filter_cons, hfi]
              have := hcount ops.size (fun j => !listed.getD j false) hin (by simp [hKi])
              rw [hcnt] at this
              omega
            · intro j o' ho' hj e he
              simp only [hK'] at hj ⊢
              simp only [addK, Bool.or_eq_true, decide_eq_true_eq] at hj ⊢
              rcases hj with hj | rfl
              · exact .inl (hcl j o' ho' hj e he)
              · rw [ho] at ho'; simp only [Option.some.injEq] at ho'; subst ho'
                exact .inl (hready e he)
            · rw [hfold]
              refine hR2.congr ?_ (fun t => ?_) ?_
              · rw [foldK_n]
                have : ∀ (s : St) (v : V) (H : Heap), (s.putT o.dst v H).n = s.n := by intro s v H; cases o.dst <;> rfl
                rw [this, foldK_n]
              · rw [foldK_add_tm (k := i) (by omega) ho hri hKi (by omega) (fun j o' h1 h2 h3 h4 h5 => by
                  simp only [Nat.zero_add] at h5
                  have hjr : j < rs.length := by have := (List.getElem?_eq_some_iff.1 h1).1; omega
                  have hinj := infos_get h1 (List.getElem?_eq_getElem hjr)
                  have := hag hinj (by
                    unfold meet
                    have : sameO o.dst o'.dst = true := sameO_iff.2 ⟨t, h4, h3⟩
                    simp [this])
                  rw [h5] at this
                  simpa using this.symm), get_putT, hr1]
              · have hpp : ∀ (s : St) (v : V) (H : Heap), (s.putT o.dst v H).hp = H := by intro s v H; cases o.dst <;> rfl
                rw [hpp]
                refine heap_ext ?_ (fun b => ?_)
                · rw [foldK_len hpl (by rw [← hpl] at hslot' ⊢; simpa [hpl] using hslot')]
                  cases hw : r.1.2 with
                  | none => simp only [happ]; rw [foldK_len hpl (by simpa using hslot')]
                  | some p =>
                    obtain ⟨c, y⟩ := p
                    have hc : c < σ.hp.length + l.length := hslot' rs[i] (List.getElem_mem hir) c (by rw [hr1, hw]; rfl)
                    have hfl := foldK_len (K := fun j => listed.getD j false) (i := 0) (l := l) (rs := rs) hpl (by simpa using hslot')
                    simp only [happ]
                    rw [hput_length (by omega), hfl]
                · have := foldK_add_hp (K := fun j => listed.getD j false) (b := b) (σ := σp) (i0 := 0) (k := i) (l := l) (by omega) (by omega) hri hKi (fun j r' h1 h2 h3 h4 h5 => by
                    simp only [Nat.zero_add] at h5
                    have hjl : j < l.length := by have := (List.getElem?_eq_some_iff.1 h1).1; omega
                    have hinj := infos_get (List.getElem?_eq_getElem hjl) h1
                    have := hag hinj (by
                      unfold meet
                      have : sameO (slotOf rs[i].1.2) (slotOf r'.1.2) = true := sameO_iff.2 ⟨b, h4, h3⟩
                      simp [this])
                    rw [h5] at this
                    simpa using this.symm)
                  rw [this, hr1]
            · intro b hb
              rcases hD2 b hb with h1 | rfl
              · rcases hdom b h1 with h2 | ⟨j, h2, h3⟩
                · exact .inl h2
                · exact .inr ⟨j, by rw [hK']; simp [addK, h2], h3⟩
              · exact .inr ⟨i, by rw [hK']; simp [addK], rfl⟩)
        split
        · rename_i hw
          simp only [hw, if_true] at hwp
          exact .inl hwp
        · rename_i hw
          simp only [hw] at hwp
          exact hwp
  have hfalse : ∀ j, (Array.replicate ops.size false).getD j false = false := by
    intro j
    rw [Array.getD_eq_getD_getElem?, Array.getElem?_replicate]
    split <;> rfl
  have hnone : foldK (fun j => (Array.replicate ops.size false).getD j false) 0 l rs σp = σp := by
    have : ∀ (l : List IOper) (rs : List ((V × Wr) × List Nat)) (i : Nat) (s : St), foldK (fun _ => false) i l rs s = s := by
      intro l
      induction l with
      | nil => intro rs i s; simp [foldK]
      | cons o l ih =>
        intro rs i s
        cases rs with
        | nil => simp [foldK]
        | cons r rs => simp only [foldK, cond_false]; exact ih _ _ _
    rw [foldK_congr (K' := fun _ => false) (fun j _ => hfalse _)]
    exact this _ _ _ _
  refine key ops.size (Array.replicate ops.size false) g _ act (by simp) ?_ ?_ ?_ (Ext.drawn g w _) ?_
  · simp only [hfalse, Bool.not_false]
    rw [List.filter_eq_self.2 (by simp)]
    simp
  · intro j o _ hj; simp only [hfalse] at hj; cases hj
  · rw [hnone, ← hσp]
    exact (hr.pad l.length).drawn _
  · intro b hb
    exact .inl (hr.heap.dom b hb)
end
end Fw

/-
  A drawn region whose last operation is a call that comes after all others.
-/
set_option linter.unusedSimpArgs false
set_option maxHeartbeats 1000000
namespace Fw
open Go
section
variable {P : Program} {GL : GLT}
theorem WC.drawTail {l : List IOper} {ot : IOper} {ft : FuncId} {argst : List Opd} {σ : St} {Q : Ex → St → Prop} {qc : Nat → Option V} {rs : List ((V × Wr) × List Nat)} (hm : P.follows .mixedOrders = true)
    (hrun : runD GL σ.hp.length qc 0 l (padSt σ l.length) = some rs) (hok : drawOk l rs = true) (hdst : dstOk σ.n l = true) (hslot : slotOk (σ.hp.length + l.length) rs = true)
    (hq : ∀ (i : Nat) (o : IOper) (r : (V × Wr) × List Nat), l[i]? = some o → rs[i]? = some r → ∀ f args, isCall o.op = some (f, args) → guardB o.guard (preD l rs (padSt σ l.length) i).tm = some true → PC P GL f (mlist (evo GL (preD l rs (padSt σ l.length) i).tm) args) r.1.1)
    (hot : ot.op = .call ft argst) (hotg : ot.guard = none) (hotb : ∀ e ∈ ot.after, e < l.length) (hcov : ∀ j, j < l.length → ∃ e ∈ ot.after, j = e ∨ Nat.testBit ((reaches 0 [] l).getD e 0) j = true)
    (h : WF P GL ft (mlist (evo GL (foldK (fun _ => true) 0 l rs (padSt σ l.length)).tm) argst) (foldK (fun _ => true) 0 l rs (padSt σ l.length)).hp
      (fun v H' => ∃ σ', (foldK (fun _ => true) 0 l rs (padSt σ l.length)).put ot.dst v H' = some σ' ∧ Q .normal σ')) : WC P GL (.draw (l ++ [ot])) σ Q := by
  intro code hc g w act hr
  obtain ⟨id, ops, rfl, hl⟩ : ∃ id ops, code = .region id ops true ∧ compOps P ops.toList true ops.toList = some (l ++ [ot]) := by
    cases code with
    | region id ops draw =>
      simp only [compCode] at hc
      split at hc
      · rename_i l' hl'
        cases draw with
        | false => simp at hc
        | true => simp at hc; subst hc; exact ⟨id, ops, rfl, hl'⟩
      · cases hc
    | seq => simp only [compCode] at hc; split at hc <;> simp at hc
    | cond => simp only [compCode] at hc; split at hc <;> simp at hc
    | _ => simp [compCode] at hc
  obtain ⟨hlen0, hcomp⟩ := compD_get hl
  have hlen : l.length + 1 = ops.size := by simpa using hlen0
  obtain ⟨hrl, hrg⟩ := runD_get hrun
  have hlk := drawOk_spec hok hrl
  have hdst' : ∀ (i : Nat) (o : IOper), l[i]? = some o → ∀ d, o.dst = some d → d < σ.n := by
    intro i o ho d hd
    have := (List.all_eq_true.1 hdst) o (List.mem_of_getElem? ho)
    rw [hd] at this
    simpa [Nat.blt_eq] using this
  have hslot' : ∀ r ∈ rs, ∀ b, slotOf r.1.2 = some b → b < σ.hp.length + l.length := by
    intro r hr b hb
    have := (List.all_eq_true.1 hslot) r hr
    rw [hb] at this
    simpa [Nat.blt_eq] using this
  generalize hσp : padSt σ l.length = σp at *
  have hpl : σp.hp.length = σ.hp.length + l.length := by rw [← hσp]; simp [padSt]
  have hpn : σp.n = σ.n := by rw [← hσp]; rfl
  refine wp_region_any hm ?_
  have key : ∀ (fuel : Nat) (listed : Array Bool) (g1 : G) (w1 : World) (a1 : Act), listed.size = ops.size → ((List.range ops.size).filter fun j => !listed.getD j false).length = fuel → Closed l (fun j => listed.getD j false) → listed.getD l.length false = false →
      R GL g1 w1 a1 (foldK (fun j => listed.getD j false) 0 l rs σp) → Ext g w g1 w1 → (∀ b, g1.dom b → b < σ.hp.length ∨ ∃ j, listed.getD j false = true ∧ b = σ.hp.length + j) →
      wpAny P .any ops (postC GL g w Q) fuel listed a1 w1 := by
    intro fuel
    induction fuel with
    | zero =>
      intro listed g1 w1 a1 hsz hcnt hcl htl hR hE hdom
      exfalso
      have := List.eq_nil_of_length_eq_zero hcnt
      rw [List.filter_eq_nil_iff] at this
      have := this l.length (by simp; omega)
      rw [htl] at this
      simp at this
    | succ fuel ih =>
      intro listed g1 w1 a1 hsz hcnt hcl htl hR hE hdom
      constructor
      · intro hnil
        exfalso
        have hex : ∃ j, j < ops.size ∧ listed.getD j false = false := by
          have hne : ((List.range ops.size).filter fun j => !listed.getD j false) ≠ [] := by intro e; rw [e] at hcnt; simp at hcnt
          obtain ⟨j, hj⟩ := List.exists_mem_of_ne_nil _ hne
          rw [List.mem_filter] at hj
          exact ⟨j, by simpa using hj.1, by simpa using hj.2⟩
        obtain ⟨j, ⟨hj1, hj2⟩, hmin⟩ := least hex
        have hoj : ops[j]? = some ops[j] := Array.getElem?_eq_getElem hj1
        obtain ⟨o, ho, _, _, _, haft⟩ := hcomp j _ hoj
        have hbefore : ∀ e ∈ o.after, e < j := by
          intro e he
          rcases Nat.lt_or_ge j l.length with hjl | hjl
          · have ho2 : l[j]? = some o := by rwa [List.getElem?_append_left hjl] at ho
            exact hlk.before j _ (infos_get ho2 (List.getElem?_eq_getElem (show j < rs.length by omega))) e he
          · obtain rfl : j = l.length := by omega
            rw [List.getElem?_append_right (Nat.le_refl _)] at ho
            simp at ho; subst ho
            exact hotb e he
        have : j ∈ Region.ready .any ops listed := by
          unfold Region.ready
          rw [List.mem_filter]
          refine ⟨by simpa using hj1, ?_⟩
          have h2 : listed.getD j true = false := by
            rw [Array.getD_eq_getD_getElem?] at hj2 ⊢
            rw [Array.getElem?_eq_getElem (by omega)] at hj2 ⊢
            exact hj2
          simp only [h2, Bool.not_false, Bool.true_and, hoj, Option.map_some, Option.getD_some, Array.all_eq_true_iff_forall_mem]
          intro e he
          cases hb : Region.binds .any e with
          | false => rfl
          | true =>
            simp only [Bool.not_true, Bool.false_or]
            have hea : e.on ∈ o.after := by
              rw [haft]; simp only [compAfter, List.mem_map, List.mem_filter]
              exact ⟨e, ⟨by simpa using he, hb⟩, rfl⟩
            have hlt := hbefore e.on hea
            cases hq2 : listed.getD e.on false with
            | true => rfl
            | false => have := hmin e.on ⟨by omega, hq2⟩; omega
        rw [hnil] at this
        cases this
      · intro i hi
        unfold Region.ready at hi
        rw [List.mem_filter] at hi
        have hin : i < ops.size := by simpa using hi.1
        have hoi : ops[i]? = some ops[i] := Array.getElem?_eq_getElem hin
        have hi2 := hi.2
        simp only [Bool.and_eq_true, Bool.not_eq_true', hoi, Option.map_some, Option.getD_some, Array.all_eq_true_iff_forall_mem] at hi2
        obtain ⟨o, ho0, hop, hgd, hd, haft⟩ := hcomp i _ hoi
        rcases Nat.lt_or_ge i l.length with hilt | hige
        case inr =>
          obtain rfl : i = l.length := by omega
          rw [List.getElem?_append_right (Nat.le_refl _)] at ho0
          simp at ho0; subst ho0
          have hready : ∀ e ∈ ot.after, listed.getD e false = true := by
            intro e he
            rw [haft] at he
            simp only [compAfter, List.mem_map, List.mem_filter] at he
            obtain ⟨ed, ⟨he1, he2⟩, rfl⟩ := he
            have := hi2.2 ed (by simpa using he1)
            simpa [he2] using this
          have hallL : ∀ j, j < l.length → listed.getD j false = true := by
            intro j hj
            obtain ⟨e, he, hje⟩ := hcov j hj
            rcases hje with rfl | hje
            · exact hready _ he
            · exact Closed.reach hlk hcl e j hje (hready e he)
          have hfold : foldK (fun j => listed.getD j false) 0 l rs σp = foldK (fun _ => true) 0 l rs σp := foldK_congr (fun j hj => by simp only [Nat.zero_add]; exact hallL j hj)
          rw [hfold] at hR
          have hfuel : fuel = 0 := by
            have hone : ((List.range ops.size).filter fun j => !listed.getD j false) = [l.length] := by
              rw [← hlen, List.range_succ, List.filter_append]
              have e1 : (List.range l.length).filter (fun j => !listed.getD j false) = [] := by
                rw [List.filter_eq_nil_iff]
                intro j hj
                rw [hallL j (List.mem_range.1 hj)]; simp
              rw [e1]
              have htl' : listed[l.length]?.getD false = false := by rw [← Array.getD_eq_getD_getElem?]; exact htl
              simp [List.filter_cons, htl']
            rw [hone] at hcnt
            simp at hcnt
            omega
          subst hfuel
          unfold wpOp
          simp only [hoi]
          have hw : Region.wanted ops[l.length] (yielded ops a1.tmps) = true := wanted_of hR hgd (by rw [hotg]; rfl)
          rw [if_pos hw]
          refine .inl ?_
          obtain ⟨c, hcc, hcomp2⟩ := comp_isCall (comp_of hop (by rw [hot]; simp)) (.inl ⟨ft, argst, hot⟩)
          rw [hot] at hcomp2
          have hcal : c.callee = .value (.func ft) ∧ mapO compOpd c.args.toList = some argst := by
            unfold compCall at hcomp2
            split at hcomp2
            case h_6 f' hf' =>
              split at hcomp2
              · simp only [Option.map_eq_some_iff, IOp.call.injEq] at hcomp2
                obtain ⟨l, hl, rfl, rfl⟩ := hcomp2
                exact ⟨hf', hl⟩
              · cases hcomp2
            all_goals exfalso
            all_goals first
              | (simp at hcomp2; done)
              | (repeat' split at hcomp2) <;> simp at hcomp2
          have hrun2 : (execOp a1.eval ops[l.length]).run P w1 = .ok (.enter ft (c.args.map a1.eval)) w1 := by
            have := run_callFunc h.1 (c.args.map a1.eval) w1
            simp [execOp, hcc, resolve, hcal.1, Act.eval, Deferred.ofValue, invoke, this]
          unfold Oper.wp
          rw [hrun2]
          simp only [Oper.upon]
          refine (h.2 g1 w1 _ (by simpa using mapOpds hR.ev hcal.2) hR.heap hR.globs).mono ?_
          rintro e w2 ⟨x, v, g2, H', rfl, ⟨σ', hput, hQ⟩, hx, hh2, he2⟩
          simp only
          rw [hd]
          refine ⟨?_, g2, σ', hR.stput he2 hh2 hput hx, hE.trans he2, hQ⟩
          unfold Region.ready
          rw [List.filter_eq_nil_iff]
          intro j hj
          simp only [List.mem_range] at hj
          have h2 : (listed.setIfInBounds l.length true).getD j true = true := by
            rw [Array.getD_eq_getD_getElem?]
            by_cases hjl : j = l.length
            · subst hjl; rw [Array.getElem?_setIfInBounds_self_of_lt (by omega)]; rfl
            · rw [Array.getElem?_setIfInBounds_ne (by omega)]
              have h1 := hallL j (by omega)
              rw [Array.getD_eq_getD_getElem?] at h1
              rw [Array.getElem?_eq_getElem (by omega)] at h1 ⊢
              exact h1
          simp [h2]
        have ho : l[i]? = some o := by rwa [List.getElem?_append_left hilt] at ho0
        have hir : i < rs.length := by omega
        have hri : rs[i]? = some rs[i] := List.getElem?_eq_getElem hir
        obtain ⟨r, hr1, hr2, hr3⟩ := hrg i o ho
        rw [hri] at hr1; simp only [Option.some.injEq] at hr1
        simp only [Nat.zero_add] at hr2 hr3
        have hKi : listed.getD i false = false := by
          have := hi2.1
          rw [Array.getD_eq_getD_getElem?] at this ⊢
          rw [Array.getElem?_eq_getElem (by omega)] at this ⊢
          exact this
        have hready : ∀ e ∈ o.after, listed.getD e false = true := by
          intro e he
          rw [haft] at he
          simp only [compAfter, List.mem_map, List.mem_filter] at he
          obtain ⟨ed, ⟨he1, he2⟩, rfl⟩ := he
          have := hi2.2 ed (by simpa using he1)
          simpa [he2] using this
        have hinf := infos_get ho hri
        have hag : ∀ {j : Nat} {y : DInfo}, (infos l rs)[j]? = some y → meet { dst := o.dst, lk := lookT o, rd := rs[i].2, ws := slotOf rs[i].1.2, after := o.after } y = true → listed.getD j false = decide (j < i) :=
          fun hy hm => agree hlk hcl ho hKi hready hinf hy hm (by rw [meet_comm]; exact hm)
        have htm : ∀ t ∈ lookT o, get (foldK (fun j => listed.getD j false) 0 l rs σp).tm t = get (preD l rs σp i).tm t := by
          intro t ht
          refine foldK_tm rfl (fun j o' h1 h2 => ?_)
          simp only [Nat.zero_add]
          have hjr : j < rs.length := by have := (List.getElem?_eq_some_iff.1 h1).1; omega
          have hinj := infos_get h1 (List.getElem?_eq_getElem hjr)
          refine hag hinj ?_
          unfold meet
          have : inO o'.dst (lookT o) = true := inO_iff.2 ⟨t, h2, ht⟩
          simp [this]
        have hhp : ∀ b ∈ rds (evo GL (preD l rs σp i).tm) o.op, hget (foldK (fun j => listed.getD j false) 0 l rs σp).hp b = hget (preD l rs σp i).hp b := by
          intro b hb
          refine foldK_hp rfl (fun j r' h1 h2 => ?_)
          simp only [Nat.zero_add]
          have hjl : j < l.length := by have := (List.getElem?_eq_some_iff.1 h1).1; omega
          have hinj := infos_get (List.getElem?_eq_getElem hjl) h1
          refine hag hinj ?_
          unfold meet
          have : inO (slotOf r'.1.2) rs[i].2 = true := inO_iff.2 ⟨b, h2, by rw [hr1, hr3]; exact hb⟩
          simp [this]
        have hone := oneD_congr (GL := GL) (ns := σ.hp.length + i) (cv := qc i) htm hhp
        have hr2' : oneD GL (preD l rs σp i).tm (preD l rs σp i).hp (σ.hp.length + i) o (qc i) = some r.1 := hr2
        rw [hr2'] at hone
        have hevo : ∀ x ∈ looks o.op, evo GL (foldK (fun j => listed.getD j false) 0 l rs σp).tm x = evo GL (preD l rs σp i).tm x := fun x hx => evo_congr (fun t ht => htm t (by simp only [lookT, List.mem_append, List.mem_filterMap]; exact .inl ⟨x, hx, ht⟩))
        have hgu : guardB o.guard (foldK (fun j => listed.getD j false) 0 l rs σp).tm = guardB o.guard (preD l rs σp i).tm := guardB_congr (fun d w hd => htm d (by simp [lookT, hd]))
        unfold wpOp
        simp only [hoi]
        have hwp := oneD_wp (P := P) (GL := GL) (ops := ops) (v := r.1.1) (wr := r.1.2) hop hgd hd hone (fun f args hc hg1 => by
            rw [hgu] at hg1
            have := hq i o rs[i] ho hri f args hc hg1
            rw [hr1] at this
            have hml : mlist (evo GL (foldK (fun j => listed.getD j false) 0 l rs σp).tm) args = mlist (evo GL (preD l rs σp i).tm) args := by
              refine mlist_congr (fun x hx => hevo x ?_)
              cases hop2 : o.op <;> rw [hop2] at hc <;> simp [isCall] at hc
              obtain ⟨rfl, rfl⟩ := hc
              simpa [looks] using hx
            rw [hml]
            exact this) hR (by
            intro hd2
            rcases hdom _ hd2 with h1 | ⟨j, h1, h2⟩
            · omega
            · have : j = i := by omega
              subst this
              rw [hKi] at h1; cases h1) (fun d hd2 => by rw [foldK_n, hpn]; exact hdst' i o ho d hd2)
          (wpAny P .any ops (postC GL g w Q) fuel (listed.setIfInBounds i true)) (postC GL g w Q) (by
            intro g2 w2 a2 hR2 hE2 hD2
            have hK' : ∀ j, (listed.setIfInBounds i true).getD j false = addK (fun j => listed.getD j false) i j := by
              intro j
              simp only [addK, Array.getD_eq_getD_getElem?]
              by_cases hj : j = i
              · subst hj
                rw [Array.getElem?_setIfInBounds_self_of_lt (by omega)]; simp
              · rw [Array.getElem?_setIfInBounds_ne (by omega)]; simp [hj]
            have hfold : foldK (fun j => (listed.setIfInBounds i true).getD j false) 0 l rs σp = foldK (addK (fun j => listed.getD j false) i) 0 l rs σp := foldK_congr (fun j _ => hK' _)
            refine ih _ g2 w2 a2 (by simpa using hsz) ?_ ?_ (by rw [hK']; simp only [addK]; rw [htl]; simp; omega) ?_ (hE.trans hE2) ?_
            · have e1 : (fun j => !(listed.setIfInBounds i true).getD j false) = fun j => !listed.getD j false && !decide (j = i) := by
                funext j; rw [hK' j]; simp [addK]
              rw [e1]
              have hcount : ∀ (m : Nat) (f : Nat → Bool), i < m → f i = true → ((List.range m).filter f).length = ((List.range m).filter fun j => f j && !decide (j = i)).length + 1 := by
                intro m f
                induction m with
                | zero => intro h; omega
                | succ m ihm =>
                  intro him hfi
                  rw [List.range_succ, List.filter_append, List.filter_append, List.length_append, List.length_append]
                  rcases Nat.lt_or_ge i m with h1 | h1
                  · rw [ihm h1 hfi]
                    have : m ≠ i := by omega
                    simp [List.filter_cons, this]
                    split <;> simp <;> omega
                  · have : m = i := by omega
                    subst this
                    have hsame : (List.range m).filter f = (List.range m).filter fun j => f j && !decide (j = m) := by
                      refine List.filter_congr (fun j hj => ?_)
                      have : j ≠ m := by have := List.mem_range.1 hj; omega
                      simp [this]
                    rw [← hsame]
                    simp [List.filter_cons, hfi]
              have := hcount ops.size (fun j => !listed.getD j false) hin (by simp [hKi])
              rw [hcnt] at this
              omega
            · intro j o' ho' hj e he
              simp only [hK'] at hj ⊢
              simp only [addK, Bool.or_eq_true, decide_eq_true_eq] at hj ⊢
              rcases hj with hj | rfl
              · exact .inl (hcl j o' ho' hj e he)
              · rw [ho] at ho'; simp only [Option.some.injEq] at ho'; subst ho'
                exact .inl (hready e he)
            · rw [hfold]
              refine hR2.congr ?_ (fun t => ?_) ?_
              · rw [foldK_n]
                have : ∀ (s : St) (v : V) (H : Heap), (s.putT o.dst v H).n = s.n := by intro s v H; cases o.dst <;> rfl
                rw [this, foldK_n]
              · rw [foldK_add_tm (k := i) (by omega) ho hri hKi (by omega) (fun j o' h1 h2 h3 h4 h5 => by
                  simp only [Nat.zero_add] at h5
                  have hjr : j < rs.length := by have := (List.getElem?_eq_some_iff.1 h1).1; omega
                  have hinj := infos_get h1 (List.getElem?_eq_getElem hjr)
                  have := hag hinj (by
                    unfold meet
                    have : sameO o.dst o'.dst = true := sameO_iff.2 ⟨t, h4, h3⟩
                    simp [this])
                  rw [h5] at this
                  simpa using this.symm), get_putT, hr1]
              · have hpp : ∀ (s : St) (v : V) (H : Heap), (s.putT o.dst v H).hp = H := by intro s v H; cases o.dst <;> rfl
                rw [hpp]
                refine heap_ext ?_ (fun b => ?_)
                · rw [foldK_len hpl (by rw [← hpl] at hslot' ⊢; simpa [hpl] using hslot')]
                  cases hw : r.1.2 with
                  | none => simp only [happ]; rw [foldK_len hpl (by simpa using hslot')]
                  | some p =>
                    obtain ⟨c, y⟩ := p
                    have hc : c < σ.hp.length + l.length := hslot' rs[i] (List.getElem_mem hir) c (by rw [hr1, hw]; rfl)
                    have hfl := foldK_len (K := fun j => listed.getD j false) (i := 0) (l := l) (rs := rs) hpl (by simpa using hslot')
                    simp only [happ]
                    rw [hput_length (by omega), hfl]
                · have := foldK_add_hp (K := fun j => listed.getD j false) (b := b) (σ := σp) (i0 := 0) (k := i) (l := l) (by omega) (by omega) hri hKi (fun j r' h1 h2 h3 h4 h5 => by
                    simp only [Nat.zero_add] at h5
                    have hjl : j < l.length := by have := (List.getElem?_eq_some_iff.1 h1).1; omega
                    have hinj := infos_get (List.getElem?_eq_getElem hjl) h1
                    have := hag hinj (by
                      unfold meet
                      have : sameO (slotOf rs[i].1.2) (slotOf r'.1.2) = true := sameO_iff.2 ⟨b, h4, h3⟩
                      simp [this])
                    rw [h5] at this
                    simpa using this.symm)
                  rw [this, hr1]
            · intro b hb
              rcases hD2 b hb with h1 | rfl
              · rcases hdom b h1 with h2 | ⟨j, h2, h3⟩
                · exact .inl h2
                · exact .inr ⟨j, by rw [hK']; simp [addK, h2], h3⟩
              · exact .inr ⟨i, by rw [hK']; simp [addK], rfl⟩)
        split
        · rename_i hw
          simp only [hw, if_true] at hwp
          exact .inl hwp
        · rename_i hw
          simp only [hw] at hwp
          exact hwp
  have hfalse : ∀ j, (Array.replicate ops.size false).getD j false = false := by
    intro j
    rw [Array.getD_eq_getD_getElem?, Array.getElem?_replicate]
    split <;> rfl
  have hnone : foldK (fun j => (Array.replicate ops.size false).getD j false) 0 l rs σp = σp := by
    have : ∀ (l : List IOper) (rs : List ((V × Wr) × List Nat)) (i : Nat) (s : St), foldK (fun _ => false) i l rs s = s := by
      intro l
      induction l with
      | nil => intro rs i s; simp [foldK]
      | cons o l ih =>
        intro rs i s
        cases rs with
        | nil => simp [foldK]
        | cons r rs => simp only [foldK, cond_false]; exact ih _ _ _
    rw [foldK_congr (K' := fun _ => false) (fun j _ => hfalse _)]
    exact this _ _ _ _
  refine key ops.size (Array.replicate ops.size false) g _ act (by simp) ?_ ?_ (hfalse _) ?_ (Ext.drawn g w _) ?_
  · simp only [hfalse, Bool.not_false]
    rw [List.filter_eq_self.2 (by simp)]
    simp
  · intro j o _ hj; simp only [hfalse] at hj; cases hj
  · rw [hnone, ← hσp]
    exact (hr.pad l.length).drawn _
  · intro b hb
    exact .inl (hr.heap.dom b hb)
end
end Fw
