/-
  A drawn region whose last operations come one behind the other, behind all others.
-/
import Derived.Test.YtlgnmcfckgokdaaGreatDoorFe

set_option linter.unusedSimpArgs false
set_option linter.unusedVariables false
namespace Fw
open Go
section
variable {P : Program} {GL : GLT}
def StepOk (P : Program) (GL : GLT) (o : IOper) (σ : St) (X : St → Prop) : Prop :=
  ∀ (o' : Oper) (ops : Array Oper), (compOp P o'.op).getD .bad = o.op → compGuard ops.toList o' = some o.guard → o'.dst = o.dst → ∀ g w a, R GL g w a σ →
    ∀ (K : Act → World → Prop) (Q' : Exit → Act → World → Prop), (∀ g' w' a' σ', R GL g' w' a' σ' → Ext g w g' w' → X σ' → K a' w') →
      if Region.wanted o' (yielded ops a.tmps) then o'.wp P a w K Q' else K (a.put o'.dst undef) w
def SeqOk (P : Program) (GL : GLT) : List IOper → St → (St → Prop) → Prop
  | [], σ, Q => Q σ
  | o :: l, σ, Q => StepOk P GL o σ (fun σ' => SeqOk P GL l σ' Q)
theorem StepOk.eff {o : IOper} {σ σ' : St} {X : St → Prop} {v : V} {wr : Wr} (hg : guardB o.guard σ.tm = some true) (he : eff (evo GL σ.tm) σ.hp σ.hp.length o.op = some (v, wr)) (hp : σ.put o.dst v (happ σ.hp wr) = some σ') (h : X σ') :
    StepOk P GL o σ X := by
  intro o' ops hop hgd hdst g w a hr K Q' hK
  rw [wanted_of hr hgd hg, if_pos rfl]
  obtain ⟨g', w', nx, h1, h2, h3, h4, _⟩ := eff_good (P := P) (a := a) (o := o') (comp_of hop (fun e => by rw [e] at he; cases he)) he hr.ev hr.heap hr.heap.fresh
  unfold Oper.wp
  rw [h1]
  rcases h2 with ⟨x, rfl, hx⟩ | ⟨rfl, rfl⟩
  · simp only [Oper.upon]
    rw [hdst]
    exact hK g' w' _ σ' (hr.stput h4 h3 hp hx) h4 h
  · simp only [Oper.upon]
    rw [hdst]
    exact hK g' w' _ σ' (hr.stput h4 h3 hp (by simp only [RV])) h4 h
theorem StepOk.skip {o : IOper} {σ σ' : St} {X : St → Prop} (hg : guardB o.guard σ.tm = some false) (hp : σ.put o.dst (.tuple []) σ.hp = some σ') (h : X σ') : StepOk P GL o σ X := by
  intro o' ops hop hgd hdst g w a hr K Q' hK
  rw [wanted_of hr hgd hg, if_neg (by simp), hdst]
  exact hK g w _ σ' (hr.stput (Ext.refl _ _) hr.heap hp (by simp only [RV]; exact ⟨#[], rfl, by simp [RVs]⟩)) (Ext.refl _ _) h
theorem StepOk.callGen {o : IOper} {σ : St} {X : St → Prop} {f : FuncId} {args : List V} (hg : guardB o.guard σ.tm = some true)
    (hrun : ∀ (o' : Oper) (g : G) (w : World) (a : Act), (compOp P o'.op).getD .bad = o.op → R GL g w a σ → callable P f = true → ∃ vs : Array Value, RVs g w args vs.toList ∧ (execOp a.eval o').run P w = .ok (.enter f vs) w)
    (h : WF P GL f args σ.hp fun v H' => ∃ σ', σ.put o.dst v H' = some σ' ∧ X σ') : StepOk P GL o σ X := by
  intro o' ops hop hgd hdst g w a hr K Q' hK
  rw [wanted_of hr hgd hg, if_pos rfl]
  obtain ⟨vs, hvs, hex⟩ := hrun o' g w a hop hr h.1
  unfold Oper.wp
  rw [hex]
  simp only [Oper.upon]
  refine (h.2 g w vs hvs hr.heap hr.globs).mono ?_
  rintro e w' ⟨x, v, g', H', rfl, ⟨σ', hput, hwo⟩, hx, hh, he⟩
  simp only
  rw [hdst]
  exact hK g' w' _ σ' (hr.stput he hh hput hx) he hwo
theorem StepOk.call {o : IOper} {σ : St} {X : St → Prop} {f : FuncId} {args : List Opd} (ho : o.op = .call f args) (hg : guardB o.guard σ.tm = some true)
    (h : WF P GL f (mlist (evo GL σ.tm) args) σ.hp fun v H' => ∃ σ', σ.put o.dst v H' = some σ' ∧ X σ') : StepOk P GL o σ X := by
  refine StepOk.callGen hg (fun o' g w a hop hr hca => ?_) h
  rw [ho] at hop
  obtain ⟨c, hc, hcc⟩ := comp_isCall (comp_of hop (by simp)) (.inl ⟨f, args, rfl⟩)
  have hcal : c.callee = .value (.func f) ∧ mapO compOpd c.args.toList = some args := by
    unfold compCall at hcc
    split at hcc
    case h_6 f' hf' =>
      split at hcc
      · simp only [Option.map_eq_some_iff, IOp.call.injEq] at hcc
        obtain ⟨l, hl, rfl, rfl⟩ := hcc
        exact ⟨hf', hl⟩
      · cases hcc
    all_goals exfalso
    all_goals first
      | (simp at hcc; done)
      | (repeat' split at hcc) <;> simp at hcc
  refine ⟨c.args.map a.eval, by simpa using mapOpds hr.ev hcal.2, ?_⟩
  have := run_callFunc hca (c.args.map a.eval) w
  simp [execOp, hc, resolve, hcal.1, Act.eval, Deferred.ofValue, invoke, this]
theorem StepOk.callv {o : IOper} {σ : St} {X : St → Prop} {f : FuncId} {x : Opd} {first cap : List V} {args : List Opd} (ho : o.op = .callv x args) (hx : evo GL σ.tm x = .func f first cap) (hg : guardB o.guard σ.tm = some true)
    (h : WF P GL f (first ++ mlist (evo GL σ.tm) args ++ cap) σ.hp fun v H' => ∃ σ', σ.put o.dst v H' = some σ' ∧ X σ') : StepOk P GL o σ X := by
  refine StepOk.callGen hg (fun o' g w a hop hr hca => ?_) h
  rw [ho] at hop
  obtain ⟨c, hc, hcc⟩ := comp_isCall (comp_of hop (by simp)) (.inr ⟨x, args, rfl⟩)
  have hcal : ∃ t, c.callee = .value (.tmp t) ∧ x = .t t ∧ mapO compOpd c.args.toList = some args := by
    unfold compCall at hcc
    split at hcc
    case h_7 t' hf' =>
      simp only [Option.map_eq_some_iff, IOp.callv.injEq] at hcc
      obtain ⟨l, hl, rfl, rfl⟩ := hcc
      exact ⟨t', hf', rfl, hl⟩
    all_goals exfalso
    all_goals first
      | (simp at hcc; done)
      | (repeat' split at hcc) <;> simp at hcc
  obtain ⟨t, ht, rfl, hargs⟩ := hcal
  have hv := hr.ev (.tmp t) (.t t) rfl
  rw [hx] at hv
  simp only [RV] at hv
  obtain ⟨p, q, e1, e2, e3⟩ := hv
  refine ⟨p ++ c.args.map a.eval ++ q, ?_, ?_⟩
  · simp only [Array.toList_append, Array.toList_map]
    exact RVs.append (RVs.append e2 (mapOpds hr.ev hargs)) e3
  · have := run_callFunc hca (p ++ c.args.map a.eval ++ q) w
    simp only [Array.append_assoc] at this
    simp [execOp, hc, resolve, ht, e1, Deferred.ofValue, invoke, this]
theorem StepOk.effF {o : IOper} {σ σ' : St} {X : St → Prop} {v : V} (hg : guardB o.guard σ.tm = some true) (he : effF (evo GL σ.tm) o.op = some v) (hp : σ.put o.dst v σ.hp = some σ') (h : X σ') :
    StepOk P GL o σ X := by
  intro o' ops hop hgd hdst g w a hr K Q' hK
  rw [wanted_of hr hgd hg, if_pos rfl]
  obtain ⟨w', x, k1, k2, k3, k4⟩ := effF_good (P := P) (a := a) (o := o') (comp_of hop (fun e => by rw [e] at he; cases he)) he hr.ev hr.heap
  unfold Oper.wp
  rw [k1]
  simp only [Oper.upon]
  rw [hdst]
  exact hK g w' _ σ' (hr.stput k4 k3 hp k2) k4 h
theorem WC.drawSeq {l ts : List IOper} {σ : St} {Q : Ex → St → Prop} {qc : Nat → Option V} {rs : List ((V × Wr) × List Nat)} (hm : P.follows .mixedOrders = true)
    (hrun : runD GL σ.hp.length qc 0 l (padSt σ l.length) = some rs) (hok : drawOk l rs = true) (hdst : dstOk σ.n l = true) (hslot : slotOk (σ.hp.length + l.length) rs = true)
    (hq : ∀ (i : Nat) (o : IOper) (r : (V × Wr) × List Nat), l[i]? = some o → rs[i]? = some r → ∀ f args, isCall o.op = some (f, args) → guardB o.guard (preD l rs (padSt σ l.length) i).tm = some true → PC P GL f (mlist (evo GL (preD l rs (padSt σ l.length) i).tm) args) r.1.1)
    (hne : ts ≠ []) (hotb : ∀ (k : Nat) (ot : IOper), ts[k]? = some ot → ∀ e ∈ ot.after, e < l.length + k) (hcov : ∀ ot, ts[0]? = some ot → ∀ j, j < l.length → ∃ e ∈ ot.after, e < l.length ∧ (j = e ∨ Nat.testBit ((reaches 0 [] l).getD e 0) j = true))
    (hprev : ∀ (k : Nat) (ot : IOper), ts[k + 1]? = some ot → l.length + k ∈ ot.after)
    (h : SeqOk P GL ts (foldK (fun _ => true) 0 l rs (padSt σ l.length)) (Q .normal)) : WC P GL (.draw (l ++ ts)) σ Q := by
  intro code hc g w act hr
  obtain ⟨id, ops, rfl, hl⟩ : ∃ id ops, code = .region id ops true ∧ compOps P ops.toList true ops.toList = some (l ++ ts) := by
    cases code with
    | region id ops draw =>
      simp only [compCode] at hc
      split at hc
      · rename_i l' hl'
        cases draw with
        | false => simp at hc
        | true => simp at hc; subst hc; exact ⟨id, ops, rfl, hl'⟩
      · cases hc
    | seq => simp only [compCode] at hc; split at hc <;> simp at hc
    | cond => simp only [compCode] at hc; split at hc <;> simp at hc
    | _ => simp [compCode] at hc
  obtain ⟨hlen0, hcomp⟩ := compD_get hl
  have hlen : l.length + ts.length = ops.size := by simpa using hlen0
  have htpos : 0 < ts.length := List.length_pos_iff.2 hne
  obtain ⟨hrl, hrg⟩ := runD_get hrun
  have hlk := drawOk_spec hok hrl
  have hdst' : ∀ (i : Nat) (o : IOper), l[i]? = some o → ∀ d, o.dst = some d → d < σ.n := by
    intro i o ho d hd
    have := (List.all_eq_true.1 hdst) o (List.mem_of_getElem? ho)
    rw [hd] at this
    simpa [Nat.blt_eq] using this
  have hslot' : ∀ r ∈ rs, ∀ b, slotOf r.1.2 = some b → b < σ.hp.length + l.length := by
    intro r hr b hb
    have := (List.all_eq_true.1 hslot) r hr
    rw [hb] at this
    simpa [Nat.blt_eq] using this
  generalize hσp : padSt σ l.length = σp at *
  have hpl : σp.hp.length = σ.hp.length + l.length := by rw [← hσp]; simp [padSt]
  have hpn : σp.n = σ.n := by rw [← hσp]; rfl
  refine wp_region_any hm ?_
  have phB : ∀ (fuel k : Nat) (listed : Array Bool) (g1 : G) (w1 : World) (a1 : Act) (s : St), k + fuel = ts.length → listed.size = ops.size → (∀ j, j < l.length + k → listed.getD j false = true) → (∀ j, l.length + k ≤ j → listed.getD j false = false) →
      R GL g1 w1 a1 s → Ext g w g1 w1 → SeqOk P GL (ts.drop k) s (Q .normal) → wpAny P .any ops (postC GL g w Q) fuel listed a1 w1 := by
    intro fuel
    induction fuel with
    | zero =>
      intro k listed g1 w1 a1 s hk hsz hall _ hR hE hS
      have hkl : k = ts.length := by omega
      subst hkl
      rw [List.drop_length] at hS
      refine ⟨?_, g1, s, hR, hE, hS⟩
      unfold Region.ready
      rw [List.filter_eq_nil_iff]
      intro j hj
      simp only [List.mem_range] at hj
      have h1 := hall j (by omega)
      have h2 : listed.getD j true = true := by
        rw [Array.getD_eq_getD_getElem?] at h1 ⊢
        rw [Array.getElem?_eq_getElem (by omega)] at h1 ⊢
        exact h1
      simp [h2]
    | succ fuel ih =>
      intro k listed g1 w1 a1 s hk hsz hall hno hR hE hS
      have hkt : k < ts.length := by omega
      have hkops : l.length + k < ops.size := by omega
      have hok : ops[l.length + k]? = some ops[l.length + k] := Array.getElem?_eq_getElem hkops
      obtain ⟨o, ho0, hop, hgd, hd, haft⟩ := hcomp (l.length + k) _ hok
      have ho : ts[k]? = some o := by rw [List.getElem?_append_right (by omega)] at ho0; simpa using ho0
      have hot : ts[k] = o := by rw [List.getElem?_eq_getElem hkt] at ho; simpa using ho
      rw [List.drop_eq_getElem_cons hkt, hot] at hS
      have hS : StepOk P GL o s (fun σ' => SeqOk P GL (ts.drop (k + 1)) σ' (Q .normal)) := hS
      constructor
      · intro hnil
        exfalso
        have : l.length + k ∈ Region.ready .any ops listed := by
          unfold Region.ready
          rw [List.mem_filter]
          refine ⟨by simpa using hkops, ?_⟩
          have h2 : listed.getD (l.length + k) true = false := by
            have := hno (l.length + k) (Nat.le_refl _)
            rw [Array.getD_eq_getD_getElem?] at this ⊢
            rw [Array.getElem?_eq_getElem (by omega)] at this ⊢
            exact this
          simp only [h2, Bool.not_false, Bool.true_and, hok, Option.map_some, Option.getD_some, Array.all_eq_true_iff_forall_mem]
          intro e he
          cases hb : Region.binds .any e with
          | false => rfl
          | true =>
            simp only [Bool.not_true, Bool.false_or]
            have hea : e.on ∈ o.after := by
              rw [haft]; simp only [compAfter, List.mem_map, List.mem_filter]
              exact ⟨e, ⟨by simpa using he, hb⟩, rfl⟩
            exact hall _ (hotb k o ho _ hea)
        rw [hnil] at this
        cases this
      · intro i hi
        unfold Region.ready at hi
        rw [List.mem_filter] at hi
        have hin : i < ops.size := by simpa using hi.1
        have hoi : ops[i]? = some ops[i] := Array.getElem?_eq_getElem hin
        have hi2 := hi.2
        simp only [Bool.and_eq_true, Bool.not_eq_true', hoi, Option.map_some, Option.getD_some, Array.all_eq_true_iff_forall_mem] at hi2
        have hKi : listed.getD i false = false := by
          have := hi2.1
          rw [Array.getD_eq_getD_getElem?] at this ⊢
          rw [Array.getElem?_eq_getElem (by omega)] at this ⊢
          exact this
        have hik : i = l.length + k := by
          rcases Nat.lt_trichotomy i (l.length + k) with h1 | h1 | h1
          · rw [hall i h1] at hKi; cases hKi
          · exact h1
          · exfalso
            obtain ⟨m, rfl⟩ : ∃ m, i = l.length + (m + 1) := ⟨i - l.length - 1, by omega⟩
            obtain ⟨oi, hoi0, _, _, _, hafti⟩ := hcomp _ _ hoi
            have hoit : ts[m + 1]? = some oi := by rw [List.getElem?_append_right (by omega)] at hoi0; simpa using hoi0
            have hpm := hprev m oi hoit
            rw [hafti] at hpm
            simp only [compAfter, List.mem_map, List.mem_filter] at hpm
            obtain ⟨ed, ⟨he1, he2⟩, he3⟩ := hpm
            have := hi2.2 ed (by simpa using he1)
            rw [he2, he3] at this
            have h3 : listed.getD (l.length + m) false = true := by simpa using this
            rw [hno (l.length + m) (by omega)] at h3
            cases h3
        subst hik
        unfold wpOp
        simp only [hok]
        have hwp := hS ops[l.length + k] ops hop hgd hd g1 w1 a1 hR (wpAny P .any ops (postC GL g w Q) fuel (listed.setIfInBounds (l.length + k) true)) (postC GL g w Q) (by
          intro g2 w2 a2 s2 hR2 hE2 hS2
          refine ih (k + 1) _ g2 w2 a2 s2 (by omega) (by simpa using hsz) ?_ ?_ hR2 (hE.trans hE2) hS2
          · intro j hj
            rw [Array.getD_eq_getD_getElem?]
            by_cases hjk : j = l.length + k
            · subst hjk; rw [Array.getElem?_setIfInBounds_self_of_lt (by omega)]; rfl
            · rw [Array.getElem?_setIfInBounds_ne (by omega), ← Array.getD_eq_getD_getElem?]; exact hall j (by omega)
          · intro j hj
            rw [Array.getD_eq_getD_getElem?, Array.getElem?_setIfInBounds_ne (by omega), ← Array.getD_eq_getD_getElem?]; exact hno j (by omega))
        split
        · rename_i hw
          simp only [hw, if_true] at hwp
          exact .inl hwp
        · rename_i hw
          simp only [hw] at hwp
          exact hwp
  have key : ∀ (fuel : Nat) (listed : Array Bool) (g1 : G) (w1 : World) (a1 : Act), listed.size = ops.size → ((List.range ops.size).filter fun j => !listed.getD j false).length = fuel → Closed l (fun j => listed.getD j false) → (∀ j, l.length ≤ j → listed.getD j false = false) →
      R GL g1 w1 a1 (foldK (fun j => listed.getD j false) 0 l rs σp) → Ext g w g1 w1 → (∀ b, g1.dom b → b < σ.hp.length ∨ ∃ j, listed.getD j false = true ∧ b = σ.hp.length + j) →
      wpAny P .any ops (postC GL g w Q) fuel listed a1 w1 := by
    intro fuel
    induction fuel with
    | zero =>
      intro listed g1 w1 a1 hsz hcnt hcl htl hR hE hdom
      exfalso
      have := List.eq_nil_of_length_eq_zero hcnt
      rw [List.filter_eq_nil_iff] at this
      have := this l.length (by simp; omega)
      rw [htl l.length (Nat.le_refl _)] at this
      simp at this
    | succ fuel ih =>
      intro listed g1 w1 a1 hsz hcnt hcl htl hR hE hdom
      constructor
      · intro hnil
        exfalso
        have hex : ∃ j, j < ops.size ∧ listed.getD j false = false := by
          have hne : ((List.range ops.size).filter fun j => !listed.getD j false) ≠ [] := by intro e; rw [e] at hcnt; simp at hcnt
          obtain ⟨j, hj⟩ := List.exists_mem_of_ne_nil _ hne
          rw [List.mem_filter] at hj
          exact ⟨j, by simpa using hj.1, by simpa using hj.2⟩
        obtain ⟨j, ⟨hj1, hj2⟩, hmin⟩ := least hex
        have hoj : ops[j]? = some ops[j] := Array.getElem?_eq_getElem hj1
        obtain ⟨o, ho, _, _, _, haft⟩ := hcomp j _ hoj
        have hbefore : ∀ e ∈ o.after, e < j := by
          intro e he
          rcases Nat.lt_or_ge j l.length with hjl | hjl
          · have ho2 : l[j]? = some o := by rwa [List.getElem?_append_left hjl] at ho
            exact hlk.before j _ (infos_get ho2 (List.getElem?_eq_getElem (show j < rs.length by omega))) e he
          · rw [List.getElem?_append_right hjl] at ho
            have := hotb (j - l.length) o ho e he
            omega
        have : j ∈ Region.ready .any ops listed := by
          unfold Region.ready
          rw [List.mem_filter]
          refine ⟨by simpa using hj1, ?_⟩
          have h2 : listed.getD j true = false := by
            rw [Array.getD_eq_getD_getElem?] at hj2 ⊢
            rw [Array.getElem?_eq_getElem (by omega)] at hj2 ⊢
            exact hj2
          simp only [h2, Bool.not_false, Bool.true_and, hoj, Option.map_some, Option.getD_some, Array.all_eq_true_iff_forall_mem]
          intro e he
          cases hb : Region.binds .any e with
          | false => rfl
          | true =>
            simp only [Bool.not_true, Bool.false_or]
            have hea : e.on ∈ o.after := by
              rw [haft]; simp only [compAfter, List.mem_map, List.mem_filter]
              exact ⟨e, ⟨by simpa using he, hb⟩, rfl⟩
            have hlt := hbefore e.on hea
            cases hq2 : listed.getD e.on false with
            | true => rfl
            | false => have := hmin e.on ⟨by omega, hq2⟩; omega
        rw [hnil] at this
        cases this
      · intro i hi
        unfold Region.ready at hi
        rw [List.mem_filter] at hi
        have hin : i < ops.size := by simpa using hi.1
        have hoi : ops[i]? = some ops[i] := Array.getElem?_eq_getElem hin
        have hi2 := hi.2
        simp only [Bool.and_eq_true, Bool.not_eq_true', hoi, Option.map_some, Option.getD_some, Array.all_eq_true_iff_forall_mem] at hi2
        obtain ⟨o, ho0, hop, hgd, hd, haft⟩ := hcomp i _ hoi
        rcases Nat.lt_or_ge i l.length with hilt | hige
        case inr =>
          have hready : ∀ e ∈ o.after, listed.getD e false = true := by
            intro e he
            rw [haft] at he
            simp only [compAfter, List.mem_map, List.mem_filter] at he
            obtain ⟨ed, ⟨he1, he2⟩, rfl⟩ := he
            have := hi2.2 ed (by simpa using he1)
            simpa [he2] using this
          have hot : ts[i - l.length]? = some o := by rwa [List.getElem?_append_right hige] at ho0
          have hil : i = l.length := by
            rcases Nat.lt_or_ge l.length i with h1 | h1
            · exfalso
              obtain ⟨m, rfl⟩ : ∃ m, i = l.length + (m + 1) := ⟨i - l.length - 1, by omega⟩
              have h2 := hready _ (hprev m o (by rw [← hot]; congr 1; omega))
              rw [htl _ (by omega)] at h2
              cases h2
            · omega
          subst hil
          rw [Nat.sub_self] at hot
          have hallL : ∀ j, j < l.length → listed.getD j false = true := by
            intro j hj
            obtain ⟨e, he, _, hje⟩ := hcov o hot j hj
            rcases hje with rfl | hje
            · exact hready _ he
            · exact Closed.reach hlk hcl e j hje (hready e he)
          have hfold : foldK (fun j => listed.getD j false) 0 l rs σp = foldK (fun _ => true) 0 l rs σp := foldK_congr (fun j hj => by simp only [Nat.zero_add]; exact hallL j hj)
          rw [hfold] at hR
          have hfuel : fuel + 1 = ts.length := by
            rw [← hcnt, ← hlen]
            have : ∀ m, ((List.range (l.length + m)).filter fun j => !listed.getD j false).length = m := by
              intro m
              induction m with
              | zero =>
                have e1 : (List.range l.length).filter (fun j => !listed.getD j false) = [] := by
                  rw [List.filter_eq_nil_iff]
                  intro j hj
                  rw [hallL j (List.mem_range.1 hj)]; simp
                rw [Nat.add_zero, e1]; rfl
              | succ m ihm =>
                rw [← Nat.add_assoc, List.range_succ, List.filter_append, List.length_append, ihm]
                have h3 := htl (l.length + m) (by omega)
                rw [List.filter_cons_of_pos (by simp only [h3]; rfl)]; rfl
            exact this _
          exact (phB (fuel + 1) 0 listed g1 w1 a1 _ (by omega) hsz (fun j hj => hallL j (by omega)) (fun j hj => htl j (by omega)) hR hE (by simpa using h)).2 l.length (by unfold Region.ready; rw [List.mem_filter]; exact hi)
        have ho : l[i]? = some o := by rwa [List.getElem?_append_left hilt] at ho0
        have hir : i < rs.length := by omega
        have hri : rs[i]? = some rs[i] := List.getElem?_eq_getElem hir
        obtain ⟨r, hr1, hr2, hr3⟩ := hrg i o ho
        rw [hri] at hr1; simp only [Option.some.injEq] at hr1
        simp only [Nat.zero_add] at hr2 hr3
        have hKi : listed.getD i false = false := by
          have := hi2.1
          rw [Array.getD_eq_getD_getElem?] at this ⊢
          rw [Array.getElem?_eq_getElem (by omega)] at this ⊢
          exact this
        have hready : ∀ e ∈ o.after, listed.getD e false = true := by
          intro e he
          rw [haft] at he
          simp only [compAfter, List.mem_map, List.mem_filter] at he
          obtain ⟨ed, ⟨he1, he2⟩, rfl⟩ := he
          have := hi2.2 ed (by simpa using he1)
          simpa [he2] using this
        have hinf := infos_get ho hri
        have hag : ∀ {j : Nat} {y : DInfo}, (infos l rs)[j]? = some y → meet { dst := o.dst, lk := lookT o, rd := rs[i].2, ws := slotOf rs[i].1.2, after := o.after } y = true → listed.getD j false = decide (j < i) :=
          fun hy hm => agree hlk hcl ho hKi hready hinf hy hm (by rw [meet_comm]; exact hm)
        have htm : ∀ t ∈ lookT o, get (foldK (fun j => listed.getD j false) 0 l rs σp).tm t = get (preD l rs σp i).tm t := by
          intro t ht
          refine foldK_tm rfl (fun j o' h1 h2 => ?_)
          simp only [Nat.zero_add]
          have hjr : j < rs.length := by have := (List.getElem?_eq_some_iff.1 h1).1; omega
          have hinj := infos_get h1 (List.getElem?_eq_getElem hjr)
          refine hag hinj ?_
          unfold meet
          have : inO o'.dst (lookT o) = true := inO_iff.2 ⟨t, h2, ht⟩
          simp [this]
        have hhp : ∀ b ∈ rds (evo GL (preD l rs σp i).tm) o.op, hget (foldK (fun j => listed.getD j false) 0 l rs σp).hp b = hget (preD l rs σp i).hp b := by
          intro b hb
          refine foldK_hp rfl (fun j r' h1 h2 => ?_)
          simp only [Nat.zero_add]
          have hjl : j < l.length := by have := (List.getElem?_eq_some_iff.1 h1).1; omega
          have hinj := infos_get (List.getElem?_eq_getElem hjl) h1
          refine hag hinj ?_
          unfold meet
          have : inO (slotOf r'.1.2) rs[i].2 = true := inO_iff.2 ⟨b, h2, by rw [hr1, hr3]; exact hb⟩
          simp [this]
        have hone := oneD_congr (GL := GL) (ns := σ.hp.length + i) (cv := qc i) htm hhp
        have hr2' : oneD GL (preD l rs σp i).tm (preD l rs σp i).hp (σ.hp.length + i) o (qc i) = some r.1 := hr2
        rw [hr2'] at hone
        have hevo : ∀ x ∈ looks o.op, evo GL (foldK (fun j => listed.getD j false) 0 l rs σp).tm x = evo GL (preD l rs σp i).tm x := fun x hx => evo_congr (fun t ht => htm t (by simp only [lookT, List.mem_append, List.mem_filterMap]; exact .inl ⟨x, hx, ht⟩))
        have hgu : guardB o.guard (foldK (fun j => listed.getD j false) 0 l rs σp).tm = guardB o.guard (preD l rs σp i).tm := guardB_congr (fun d w hd => htm d (by simp [lookT, hd]))
        unfold wpOp
        simp only [hoi]
        have hwp := oneD_wp (P := P) (GL := GL) (ops := ops) (v := r.1.1) (wr := r.1.2) hop hgd hd hone (fun f args hc hg1 => by
            rw [hgu] at hg1
            have := hq i o rs[i] ho hri f args hc hg1
            rw [hr1] at this
            have hml : mlist (evo GL (foldK (fun j => listed.getD j false) 0 l rs σp).tm) args = mlist (evo GL (preD l rs σp i).tm) args := by
              refine mlist_congr (fun x hx => hevo x ?_)
              cases hop2 : o.op <;> rw [hop2] at hc <;> simp [isCall] at hc
              obtain ⟨rfl, rfl⟩ := hc
              simpa [looks] using hx
            rw [hml]
            exact this) hR (by
            intro hd2
            rcases hdom _ hd2 with h1 | ⟨j, h1, h2⟩
            · omega
            · have : j = i := by omega
              subst this
              rw [hKi] at h1; cases h1) (fun d hd2 => by rw [foldK_n, hpn]; exact hdst' i o ho d hd2)
          (wpAny P .any ops (postC GL g w Q) fuel (listed.setIfInBounds i true)) (postC GL g w Q) (by
            intro g2 w2 a2 hR2 hE2 hD2
            have hK' : ∀ j, (listed.setIfInBounds i true).getD j false = addK (fun j => listed.getD j false) i j := by
              intro j
              simp only [addK, Array.getD_eq_getD_getElem?]
              by_cases hj : j = i
              · subst hj
                rw [Array.getElem?_setIfInBounds_self_of_lt (by omega)]; simp
              · rw [Array.getElem?_setIfInBounds_ne (by omega)]; simp [hj]
            have hfold : foldK (fun j => (listed.setIfInBounds i true).getD j false) 0 l rs σp = foldK (addK (fun j => listed.getD j false) i) 0 l rs σp := foldK_congr (fun j _ => hK' _)
            refine ih _ g2 w2 a2 (by simpa using hsz) ?_ ?_ (fun j hj => by rw [hK']; simp only [addK]; rw [htl j hj]; simp; omega) ?_ (hE.trans hE2) ?_
            · have e1 : (fun j => !(listed.setIfInBounds i true).getD j false) = fun j => !listed.getD j false && !decide (j = i) := by
                funext j; rw [hK' j]; simp [addK]
              rw [e1]
              have hcount : ∀ (m : Nat) (f : Nat → Bool), i < m → f i = true → ((List.range m).filter f).length = ((List.range m).filter fun j => f j && !decide (j = i)).length + 1 := by
                intro m f
                induction m with
                | zero => intro h; omega
                | succ m ihm =>
                  intro him hfi
                  rw [List.range_succ, List.filter_append, List.filter_append, List.length_append, List.length_append]
                  rcases Nat.lt_or_ge i m with h1 | h1
                  · rw [ihm h1 hfi]
                    have : m ≠ i := by omega
                    simp [List.filter_cons, this]
                    split <;> simp <;> omega
                  · have : m = i := by omega
                    subst this
                    have hsame : (List.range m).filter f = (List.range m).filter fun j => f j && !decide (j = m) := by
                      refine List.filter_congr (fun j hj => ?_)
                      have : j ≠ m := by have := List.mem_range.1 hj; omega
                      simp [this]
                    rw [← hsame]
                    simp [List.filter_cons, hfi]
              have := hcount ops.size (fun j => !listed.getD j false) hin (by simp [hKi])
              rw [hcnt] at this
              omega
            · intro j o' ho' hj e he
              simp only [hK'] at hj ⊢
              simp only [addK, Bool.or_eq_true, decide_eq_true_eq] at hj ⊢
              rcases hj with hj | rfl
              · exact .inl (hcl j o' ho' hj e he)
              · rw [ho] at ho'; simp only [Option.some.injEq] at ho'; subst ho'
                exact .inl (hready e he)
            · rw [hfold]
              refine hR2.congr ?_ (fun t => ?_) ?_
              · rw [foldK_n]
                have : ∀ (s : St) (v : V) (H : Heap), (s.putT o.dst v H).n = s.n := by intro s v H; cases o.dst <;> rfl
                rw [this, foldK_n]
              · rw [foldK_add_tm (k := i) (by omega) ho hri hKi (by omega) (fun j o' h1 h2 h3 h4 h5 => by
                  simp only [Nat.zero_add] at h5
                  have hjr : j < rs.length := by have := (List.getElem?_eq_some_iff.1 h1).1; omega
                  have hinj := infos_get h1 (List.getElem?_eq_getElem hjr)
                  have := hag hinj (by
                    unfold meet
                    have : sameO o.dst o'.dst = true := sameO_iff.2 ⟨t, h4, h3⟩
                    simp [this])
                  rw [h5] at this
                  simpa using this.symm), get_putT, hr1]
              · have hpp : ∀ (s : St) (v : V) (H : Heap), (s.putT o.dst v H).hp = H := by intro s v H; cases o.dst <;> rfl
                rw [hpp]
                refine heap_ext ?_ (fun b => ?_)
                · rw [foldK_len hpl (by rw [← hpl] at hslot' ⊢; simpa [hpl] using hslot')]
                  cases hw : r.1.2 with
                  | none => simp only [happ]; rw [foldK_len hpl (by simpa using hslot')]
                  | some p =>
                    obtain ⟨c, y⟩ := p
                    have hc : c < σ.hp.length + l.length := hslot' rs[i] (List.getElem_mem hir) c (by rw [hr1, hw]; rfl)
                    have hfl := foldK_len (K := fun j => listed.getD j false) (i := 0) (l := l) (rs := rs) hpl (by simpa using hslot')
                    simp only [happ]
                    rw [hput_length (by omega), hfl]
                · have := foldK_add_hp (K := fun j => listed.getD j false) (b := b) (σ := σp) (i0 := 0) (k := i) (l := l) (by omega) (by omega) hri hKi (fun j r' h1 h2 h3 h4 h5 => by
                    simp only [Nat.zero_add] at h5
                    have hjl : j < l.length := by have := (List.getElem?_eq_some_iff.1 h1).1; omega
                    have hinj := infos_get (List.getElem?_eq_getElem hjl) h1
                    have := hag hinj (by
                      unfold meet
                      have : sameO (slotOf rs[i].1.2) (slotOf r'.1.2) = true := sameO_iff.2 ⟨b, h4, h3⟩
                      simp [this])
                    rw [h5] at this
                    simpa using this.symm)
                  rw [this, hr1]
            · intro b hb
              rcases hD2 b hb with h1 | rfl
              · rcases hdom b h1 with h2 | ⟨j, h2, h3⟩
                · exact .inl h2
                · exact .inr ⟨j, by rw [hK']; simp [addK, h2], h3⟩
              · exact .inr ⟨i, by rw [hK']; simp [addK], rfl⟩)
        split
        · rename_i hw
          simp only [hw, if_true] at hwp
          exact .inl hwp
        · rename_i hw
          simp only [hw] at hwp
          exact hwp
  have hfalse : ∀ j, (Array.replicate ops.size false).getD j false = false := by
    intro j
    rw [Array.getD_eq_getD_getElem?, Array.getElem?_replicate]
    split <;> rfl
  have hnone : foldK (fun j => (Array.replicate ops.size false).getD j false) 0 l rs σp = σp := by
    have : ∀ (l : List IOper) (rs : List ((V × Wr) × List Nat)) (i : Nat) (s : St), foldK (fun _ => false) i l rs s = s := by
      intro l
      induction l with
      | nil => intro rs i s; simp [foldK]
      | cons o l ih =>
        intro rs i s
        cases rs with
        | nil => simp [foldK]
        | cons r rs => simp only [foldK, cond_false]; exact ih _ _ _
    rw [foldK_congr (K' := fun _ => false) (fun j _ => hfalse _)]
    exact this _ _ _ _
  refine key ops.size (Array.replicate ops.size false) g _ act (by simp) ?_ ?_ (fun j _ => hfalse j) ?_ (Ext.drawn g w _) ?_
  · simp only [hfalse, Bool.not_false]
    rw [List.filter_eq_self.2 (by simp)]
    simp
  · intro j o _ hj; simp only [hfalse] at hj; cases hj
  · rw [hnone, ← hσp]
    exact (hr.pad l.length).drawn _
  · intro b hb
    exact .inl (hr.heap.dom b hb)
end
end Fw

/-
  A quicker run for what is known whole: slots in a tree, operations told apart in small steps, what comes next handed on.
-/
set_option linter.unusedSimpArgs false
set_option linter.unusedVariables false
namespace Fw
open Go
inductive T where
  | e
  | n (l : T) (v : V) (r : T)
 deriving Inhabited
noncomputable def tget (t : T) : Nat → V :=
  @T.rec (fun _ => Nat → V) (fun _ => V.any)
    (fun _ v _ gl gr i => @Nat.rec (fun _ => V) v (fun j _ => @Nat.rec (fun _ => V) (gl (Nat.shiftRight j 1)) (fun _ _ => gr (Nat.shiftRight j 1)) (Nat.land j 1)) i) t
noncomputable def tput (k : Nat) : T → Nat → V → T :=
  @Nat.rec (fun _ => T → Nat → V → T) (fun t _ _ => t)
    (fun _ ih t i v => @T.rec (fun _ => T)
      (@Nat.rec (fun _ => T) (T.n T.e v T.e) (fun j _ => @Nat.rec (fun _ => T) (T.n (ih T.e (Nat.shiftRight j 1) v) V.any T.e) (fun _ _ => T.n T.e V.any (ih T.e (Nat.shiftRight j 1) v)) (Nat.land j 1)) i)
      (fun l u r _ _ => @Nat.rec (fun _ => T) (T.n l v r) (fun j _ => @Nat.rec (fun _ => T) (T.n (ih l (Nat.shiftRight j 1) v) u r) (fun _ _ => T.n l u (ih r (Nat.shiftRight j 1) v)) (Nat.land j 1)) i) t) k
theorem tget_e (i : Nat) : tget .e i = .any := rfl
theorem tget_n0 (l r : T) (v : V) : tget (.n l v r) 0 = v := rfl
theorem tget_ns (l r : T) (v : V) (j : Nat) : tget (.n l v r) (j + 1) = if j % 2 = 0 then tget l (j / 2) else tget r (j / 2) := by
  have h : tget (.n l v r) (j + 1) = @Nat.rec (fun _ => V) (tget l (Nat.shiftRight j 1)) (fun _ _ => tget r (Nat.shiftRight j 1)) (Nat.land j 1) := rfl
  have h1 : Nat.shiftRight j 1 = j / 2 := by show j >>> 1 = _; simp [Nat.shiftRight_eq_div_pow]
  have h2 : Nat.land j 1 = j % 2 := Nat.and_one_is_mod j
  rw [h, h1, h2]
  rcases Nat.mod_two_eq_zero_or_one j with hj | hj <;> rw [hj] <;> rfl
theorem tput_e0 (k : Nat) (v : V) : tput (k + 1) .e 0 v = .n .e v .e := rfl
theorem tput_es (k j : Nat) (v : V) : tput (k + 1) .e (j + 1) v = if j % 2 = 0 then .n (tput k .e (j / 2) v) .any .e else .n .e .any (tput k .e (j / 2) v) := by
  have h : tput (k + 1) .e (j + 1) v = @Nat.rec (fun _ => T) (T.n (tput k T.e (Nat.shiftRight j 1) v) V.any T.e) (fun _ _ => T.n T.e V.any (tput k T.e (Nat.shiftRight j 1) v)) (Nat.land j 1) := rfl
  have h1 : Nat.shiftRight j 1 = j / 2 := by show j >>> 1 = _; simp [Nat.shiftRight_eq_div_pow]
  have h2 : Nat.land j 1 = j % 2 := Nat.and_one_is_mod j
  rw [h, h1, h2]
  rcases Nat.mod_two_eq_zero_or_one j with hj | hj <;> rw [hj] <;> rfl
theorem tput_n0 (k : Nat) (l r : T) (u v : V) : tput (k + 1) (.n l u r) 0 v = .n l v r := rfl
theorem tput_ns (k j : Nat) (l r : T) (u v : V) : tput (k + 1) (.n l u r) (j + 1) v = if j % 2 = 0 then .n (tput k l (j / 2) v) u r else .n l u (tput k r (j / 2) v) := by
  have h : tput (k + 1) (.n l u r) (j + 1) v = @Nat.rec (fun _ => T) (T.n (tput k l (Nat.shiftRight j 1) v) u r) (fun _ _ => T.n l u (tput k r (Nat.shiftRight j 1) v)) (Nat.land j 1) := rfl
  have h1 : Nat.shiftRight j 1 = j / 2 := by show j >>> 1 = _; simp [Nat.shiftRight_eq_div_pow]
  have h2 : Nat.land j 1 = j % 2 := Nat.and_one_is_mod j
  rw [h, h1, h2]
  rcases Nat.mod_two_eq_zero_or_one j with hj | hj <;> rw [hj] <;> rfl
theorem tget_tput : ∀ (k : Nat) (t : T) (i s : Nat) (v : V), i + 1 < 2 ^ k → tget (tput k t i v) s = if s = i then v else tget t s
  | 0, t, i, s, v, h => by simp at h
  | k + 1, t, i, s, v, h => by
    have ih := tget_tput k
    cases t with
    | e =>
      cases i with
      | zero =>
        rw [tput_e0]
        cases s with
        | zero => simp [tget_n0]
        | succ s => rw [tget_ns]; simp [tget_e]
      | succ j =>
        rw [tput_es]
        have hj : j / 2 + 1 < 2 ^ k := by rw [Nat.pow_succ] at h; omega
        by_cases h2 : j % 2 = 0
        · rw [if_pos h2]
          cases s with
          | zero => simp [tget_n0, tget_e]
          | succ s =>
            rw [tget_ns, ih _ _ _ _ hj]
            by_cases hs : s % 2 = 0
            · rw [if_pos hs]
              by_cases e : s / 2 = j / 2
              · have : s = j := by omega
                simp [this]
              · have : s ≠ j := by omega
                simp [e, this, tget_e]
            · rw [if_neg hs]
              have : s ≠ j := by rintro rfl; exact hs h2
              simp [this, tget_e]
        · rw [if_neg h2]
          cases s with
          | zero => simp [tget_n0, tget_e]
          | succ s =>
            rw [tget_ns, ih _ _ _ _ hj]
            by_cases hs : s % 2 = 0
            · rw [if_pos hs]
              have : s ≠ j := by rintro rfl; exact h2 hs
              simp [this, tget_e]
            · rw [if_neg hs]
              by_cases e : s / 2 = j / 2
              · have : s = j := by omega
                simp [this]
              · have : s ≠ j := by omega
                simp [e, this, tget_e]
    | n l u r =>
      cases i with
      | zero =>
        rw [tput_n0]
        cases s with
        | zero => simp [tget_n0]
        | succ s => rw [tget_ns, tget_ns]; simp
      | succ j =>
        rw [tput_ns]
        have hj : j / 2 + 1 < 2 ^ k := by rw [Nat.pow_succ] at h; omega
        by_cases h2 : j % 2 = 0
        · rw [if_pos h2]
          cases s with
          | zero => simp [tget_n0]
          | succ s =>
            rw [tget_ns, tget_ns, ih _ _ _ _ hj]
            by_cases hs : s % 2 = 0
            · rw [if_pos hs, if_pos hs]
              by_cases e : s / 2 = j / 2
              · have : s = j := by omega
                simp [this]
              · have : s ≠ j := by omega
                simp [e, this]
            · rw [if_neg hs, if_neg hs]
              have : s ≠ j := by rintro rfl; exact hs h2
              simp [this]
        · rw [if_neg h2]
          cases s with
          | zero => simp [tget_n0]
          | succ s =>
            rw [tget_ns, tget_ns, ih _ _ _ _ hj]
            by_cases hs : s % 2 = 0
            · rw [if_pos hs, if_pos hs]
              have : s ≠ j := by rintro rfl; exact h2 hs
              simp [this]
            · rw [if_neg hs, if_neg hs]
              by_cases e : s / 2 = j / 2
              · have : s = j := by omega
                simp [this]
              · have : s ≠ j := by omega
                simp [e, this]
def capT : Nat := 4000
noncomputable def tset (t : T) (i : Nat) (v : V) : T := tput 12 t i v
theorem tget_tset (t : T) (i s : Nat) (v : V) (h : i < capT) : tget (tset t i v) s = if s = i then v else tget t s :=
  tget_tput 12 t i s v (by simp [capT] at h ⊢; omega)
def Sim (tm : List (Nat × V)) (t : T) : Prop := ∀ s, get tm s = tget t s
theorem Sim.put {tm : List (Nat × V)} {t : T} (h : Sim tm t) {i : Nat} {v : V} (hi : i < capT) : Sim (put tm i v) (tset t i v) := fun s => by
  rw [get_put, tget_tset _ _ _ _ hi, h s]
theorem Sim.nil : Sim [] .e := fun _ => rfl
noncomputable def treeA : Nat → List V → T → T
  | _, [], t => t
  | n, v :: vs, t => treeA (n + 1) vs (tset t n v)
theorem treeA_get : ∀ (vs : List V) (n : Nat) (t : T) (s : Nat), n + vs.length ≤ capT → tget (treeA n vs t) s = if n ≤ s ∧ s < n + vs.length then (vs[s - n]?).getD .any else tget t s
  | [], n, t, s, _ => by simp [treeA]; intro h1 h2; omega
  | v :: vs, n, t, s, h => by
    simp only [List.length_cons] at h
    rw [treeA, treeA_get vs (n + 1) _ s (by omega), tget_tset _ _ _ _ (by omega)]
    simp only [List.length_cons]
    by_cases h1 : s = n
    · subst h1; simp; intro h2; omega
    · by_cases h2 : n + 1 ≤ s ∧ s < n + 1 + vs.length
      · rw [if_pos h2, if_pos (by omega), show s - n = (s - (n + 1)) + 1 by omega]; simp
      · rw [if_neg h2, if_neg h1, if_neg (by omega)]
theorem Sim.args (vs : List V) (h : vs.length ≤ capT) : Sim (mkTm 0 vs) (treeA 0 vs .e) := fun s => by
  rw [get_mkTm, treeA_get _ _ _ _ (by omega)]
  simp only [Nat.not_lt_zero, if_false, Nat.zero_le, true_and, Nat.zero_add, Nat.sub_zero, tget_e]
  by_cases hs : s < vs.length
  · rw [if_pos hs]
  · rw [if_neg hs, List.getElem?_eq_none (by omega)]; rfl
def iLt : Int → Int → Bool
  | .ofNat a, .ofNat b => Nat.blt a b
  | .ofNat _, .negSucc _ => false
  | .negSucc _, .ofNat _ => true
  | .negSucc a, .negSucc b => Nat.blt b a
def iEq : Int → Int → Bool
  | .ofNat a, .ofNat b => Nat.beq a b
  | .negSucc a, .negSucc b => Nat.beq a b
  | _, _ => false
def iAdd : Int → Int → Int
  | .ofNat a, .ofNat b => .ofNat (Nat.add a b)
  | a, b => a + b
def wrapF (k : IntKind) (n : Int) : Int := match k with
  | .i64 => match n with
    | .ofNat m => bif Nat.blt m 9223372036854775808 then .ofNat m else IntKind.i64.wrap n
    | .negSucc m => bif Nat.blt m 9223372036854775808 then .negSucc m else IntKind.i64.wrap n
  | k => k.wrap n
theorem iLt_eq (a b : Int) : iLt a b = decide (a < b) := by
  cases a <;> cases b <;> simp only [iLt, nblt] <;> (rw [Bool.eq_iff_iff]; simp; try omega)
theorem iEq_eq (a b : Int) : iEq a b = (a == b) := by
  cases a <;> cases b <;> simp only [iEq, nbeq] <;> (rw [Bool.eq_iff_iff]; simp; try omega)
theorem iAdd_eq (a b : Int) : iAdd a b = a + b := by
  cases a <;> cases b <;> simp [iAdd]
theorem wrapF_eq (k : IntKind) (n : Int) : wrapF k n = k.wrap n := by
  have bifT : ∀ (b : Bool) (x y z : Int), (b = true → x = z) → y = z → (bif b then x else y) = z := fun b x y z h1 h2 => by
    cases b with
    | true => exact h1 rfl
    | false => exact h2
  unfold wrapF
  split
  · split
    · rename_i m
      refine bifT _ _ _ _ (fun h => ?_) rfl
      have hm : m < 9223372036854775808 := by rw [nblt] at h; exact of_decide_eq_true h
      rw [IntKind.wrap_i64]; simp only [Int.ofNat_eq_natCast]; omega
    · rename_i m
      refine bifT _ _ _ _ (fun h => ?_) rfl
      have hm : m < 9223372036854775808 := by rw [nblt] at h; exact of_decide_eq_true h
      rw [IntKind.wrap_i64, Int.negSucc_eq]; omega
  · rfl
def binIF (op : BinOp) (k : IntKind) (a b : Int) : Option D :=
  match op with
  | .add => some (.int k (wrapF k (iAdd a b)))
  | .sub => some (.int k (wrapF k (a - b)))
  | .eql => some (.bool (iEq a b))
  | .neq => some (.bool (!iEq a b))
  | .lss => some (.bool (iLt a b))
  | .leq => some (.bool (!iLt b a))
  | .gtr => some (.bool (iLt b a))
  | .geq => some (.bool (!iLt a b))
  | op => binI op k a b
theorem binIF_eq (op : BinOp) (k : IntKind) (a b : Int) : binIF op k a b = binI op k a b := by
  have hn : ∀ (x y : Int), (!decide (x < y)) = decide (y ≤ x) := fun x y => by rw [Bool.eq_iff_iff]; simp
  cases op <;> simp only [binIF, binI, wrapF_eq, iAdd_eq, iEq_eq, iLt_eq, hn, bne] <;> rfl
def kNum : IntKind → Nat
  | .i8 => 0 | .i16 => 1 | .i32 => 2 | .i64 => 3 | .u8 => 4 | .u16 => 5 | .u32 => 6 | .u64 => 7
def kEqB (k k' : IntKind) : Bool := Nat.beq (kNum k) (kNum k')
theorem kEqB_iff {k k' : IntKind} : kEqB k k' = true ↔ k = k' := by cases k <;> cases k' <;> decide
def binDF (op : BinOp) : V → V → Option (V × Wr)
  | .d (.int k a), .d (.int k' b) => bif kEqB k k' then (match binIF op k a b with | some x => some (.d x, none) | none => none) else none
  | .d (.str a), .d (.str b) => match binS op a b with | some x => some (.d x, none) | none => none
  | _, _ => none
theorem binDF_eq (op : BinOp) (x y : V) : binDF op x y = (binD op x y).map fun v => (v, none) := by
  unfold binDF
  split
  · rename_i k a k' b
    simp only [binD, binIF_eq]
    cases h : kEqB k k' with
    | true =>
      have := kEqB_iff.1 h
      rw [if_pos this]
      cases binI op k a b <;> rfl
    | false =>
      have : ¬ k = k' := fun e => by rw [kEqB_iff.2 e] at h; cases h
      rw [if_neg this]; rfl
  · rename_i a b
    simp only [binD]
    cases binS op a b <;> rfl
  · rename_i h1 h2
    unfold binD
    split
    · exact absurd rfl (h1 _ _ _ _ rfl)
    · exact absurd rfl (h2 _ _ rfl)
    · rfl
def eLoad (H : Heap) (n : Nat) (agg : Bool) (a : V) : Option (V × Wr) := match loadC H n a with
  | some cs => match mkV agg cs with | some v => some (v, none) | none => none
  | none => none
def eStore (H : Heap) (n : Nat) (a x : V) : Option (V × Wr) := match storeC H n a x with
  | some p => some (.any, some p)
  | none => none
def ePick (c a b : V) : Option (V × Wr) := match c with
  | .d (.bool t) => some (bif t then a else b, none)
  | _ => none
def eBox (ns n : Nat) (x : V) : Option (V × Wr) := bif Nat.beq (cellsV x).length n && (cellsV x).all okC then some (.ptr ns n 0, some (ns, .cells (cellsV x))) else none
def eBuild (ρ : Opd → V) (z : List V) (ps : List (Nat × Nat × Opd)) : Option (V × Wr) := match fillC ρ z ps with
  | some cs => some (.agg cs, none)
  | none => none
def eNil (x : V) : Option (V × Wr) := match x with
  | .ptr b h off => some (.ptr b h off, none)
  | .cptr cs => some (.cptr cs, none)
  | .func f a b => some (.func f a b, none)
  | _ => none
def eEq (H : Heap) (neg : Bool) (k : EqKind) (x y : V) : Option (V × Wr) := match eqV H k x y with
  | some b => some (.d (.bool (bif neg then !b else b)), none)
  | none => none
def eFld (off n : Nat) (agg : Bool) (x : V) : Option (V × Wr) := match x with
  | .agg cs => bif Nat.ble (off + n) cs.length then (match mkV agg ((cs.drop off).take n) with | some v => some (v, none) | none => none) else none
  | _ => none
def eFaddr (off n : Nat) (x : V) : Option (V × Wr) := match x with
  | .ptr b h o => some (.ptr b h (o + off), none)
  | .cptr cs => some (.cptr ((cs.drop off).take n), none)
  | _ => none
def eIaddr (H : Heap) (sz : Nat) (x i : V) : Option (V × Wr) := match natOf i with
  | none => none
  | some j => match x with
    | .d (.list es) => (match es[j]? with
      | some e => bif Nat.beq e.length sz then some (.cptr e, none) else none
      | none => none)
    | .sl b h off len sz' => bif Nat.beq sz sz' && Nat.blt j len && liveB H b h then some (.ptr b h (off + j * sz), none) else none
    | _ => none
def eIdxS (x i : V) : Option (V × Wr) := match natOf i with
  | none => none
  | some j => match x with
    | .d (.str s) => (match s[j]? with
      | some b => some (.d (.int .u8 b.toNat), none)
      | none => none)
    | _ => none
def eExt (x : V) (i : Nat) : Option (V × Wr) := match x with
  | .tuple vs => (match vs[i]? with | some v => some (v, none) | none => none)
  | _ => none
def eLen (H : Heap) (k : LenKind) (x : V) : Option (V × Wr) := match lenV H k x with
  | some n => some (.d (.int .i64 (Int.ofNat n)), none)
  | none => none
def eAppend (H : Heap) (ns sz bytes : Nat) (x y : V) : Option (V × Wr) := match sliceC H sz y with
  | some xs => appendV H ns sz bytes x xs
  | none => none
def eUn (op : UnOp) (x : V) : Option (V × Wr) := match unV op x with | some v => some (v, none) | none => none
def effS (ρ : Opd → V) (H : Heap) (ns : Nat) : IOp → Option (V × Wr)
  | .mv x => some (ρ x, none)
  | .pick c a b => ePick (ρ c) (ρ a) (ρ b)
  | .alloc z => some (.ptr ns z.length 0, some (ns, .cells z))
  | .box n x => eBox ns n (ρ x)
  | .build z ps => eBuild ρ z ps
  | .load n agg a => eLoad H n agg (ρ a)
  | .store n a x => eStore H n (ρ a) (ρ x)
  | .nilchk x => eNil (ρ x)
  | .bin op x y => binDF op (ρ x) (ρ y)
  | .eq neg k x y => eEq H neg k (ρ x) (ρ y)
  | .un op x => eUn op (ρ x)
  | .mkfunc f a b => some (.func f (mlist ρ a) (mlist ρ b), none)
  | .fld off n agg x => eFld off n agg (ρ x)
  | .faddr off n x => eFaddr off n (ρ x)
  | .iaddr sz x i => eIaddr H sz (ρ x) (ρ i)
  | .idxS x i => eIdxS (ρ x) (ρ i)
  | .ext x i => eExt (ρ x) i
  | .len .slice x => eLen H .slice (ρ x)
  | .len .str x => eLen H .str (ρ x)
  | .append sz bytes x y => eAppend H ns sz bytes (ρ x) (ρ y)
  | op => eff ρ H ns op
theorem effS_eq (ρ : Opd → V) (H : Heap) (ns : Nat) (op : IOp) : effS ρ H ns op = eff ρ H ns op := by
  unfold effS
  split
  · rfl
  · rfl
  · rfl
  · rfl
  · rename_i z ps; simp only [eBuild, eff]; cases fillC ρ z ps <;> rfl
  · rename_i n agg a; simp only [eLoad, eff]; cases loadC H n (ρ a) with
    | none => rfl
    | some cs => simp only; cases mkV agg cs <;> rfl
  · rename_i n a x; simp only [eStore, eff]; cases storeC H n (ρ a) (ρ x) <;> rfl
  · rfl
  · simp only [binDF_eq, eff]
  · rename_i neg k x y; simp only [eEq, eff]; cases eqV H k (ρ x) (ρ y) <;> rfl
  · rename_i op x; simp only [eUn, eff]; cases unV op (ρ x) <;> rfl
  · rfl
  · rename_i off n agg x
    simp only [eFld, eff]
    cases ρ x with
    | agg cs => simp only; cases Nat.ble (off + n) cs.length with
      | true => simp only [cond_true]; cases mkV agg ((cs.drop off).take n) <;> rfl
      | false => rfl
    | _ => rfl
  · rfl
  · rfl
  · rfl
  · rename_i x i
    simp only [eExt, eff]
    cases ρ x with
    | tuple vs => simp only; cases vs[i]? <;> rfl
    | _ => rfl
  · rename_i x; simp only [eLen, eff]; cases lenV H .slice (ρ x) <;> rfl
  · rename_i x; simp only [eLen, eff]; cases lenV H .str (ρ x) <;> rfl
  · rfl
  · rfl
end Fw

/-
  The quicker run: operations, drawn regions, code, calls; and that the model does the same.
-/
set_option linter.unusedSimpArgs false
set_option linter.unusedVariables false
namespace Fw
open Go
abbrev XR := V × Heap
abbrev KN := T → Heap → Option XR
noncomputable def evoF (GL : GLT) (t : T) (x : Opd) : V :=
  match x with
  | .t n => tget t n
  | .c v => v
  | .g n => (match GL.rd n with | some cs => .cptr cs | none => .any)
  | .f f => .func f [] []
theorem evoF_eq {GL : GLT} {tm : List (Nat × V)} {t : T} (h : Sim tm t) : evoF GL t = evo GL tm := funext fun x => by
  cases x with
  | t n => simp [evoF, evo, h _]
  | c v => rfl
  | g n => simp only [evoF, evo]; cases GL.rd n <;> rfl
  | f f => rfl
noncomputable def putF (n : Nat) (dst : Option Nat) (v : V) (t : T) (H : Heap) (k : KN) : Option XR :=
  match dst with
  | none => k t H
  | some d => bif Nat.blt d n then k (tset t d v) H else none
noncomputable def guardF (gd : Option (Nat × Bool)) (t : T) (skip go : Option XR) : Option XR :=
  match gd with
  | none => go
  | some (d, want) => match tget t d with
    | .d (.bool b) => bif b then (bif want then go else skip) else (bif want then skip else go)
    | .tuple [] => skip
    | _ => none
noncomputable def opF (own : List Nat) (GL : GLT) (call : CallF) (dst : Option Nat) (op : IOp) (t : T) (H : Heap) (k : V → Heap → Option XR) : Option XR :=
  match op with
  | .call f args => (match call f (mlist (evoF GL t) args) H with | some (v, H') => k v H' | none => none)
  | .callv x args => (match evoF GL t x with
    | .func f first cap => (match call f (first ++ mlist (evoF GL t) args ++ cap) H with | some (v, H') => k v H' | none => none)
    | _ => none)
  | .mkSlice sz len z ps => (match (bif inO dst own then none else effF (evoF GL t) (.mkSlice sz len z ps)) with
    | some v => k v H
    | none => (match eff (evoF GL t) H H.length (.mkSlice sz len z ps) with | some (v, wr) => k v (happ H wr) | none => none))
  | op => (match effS (evoF GL t) H H.length op with | some (v, wr) => k v (happ H wr) | none => none)
noncomputable def stepF (own : List Nat) (GL : GLT) (call : CallF) (n : Nat) (o : IOper) (t : T) (H : Heap) (k : KN) : Option XR :=
  match o with
  | ⟨dst, op, gd, _⟩ => guardF gd t (putF n dst (.tuple []) t H k) (opF own GL call dst op t H (fun v H' => putF n dst v t H' k))
noncomputable def runOF (own : List Nat) (GL : GLT) (call : CallF) (n : Nat) (l : List IOper) : T → Heap → KN → Option XR :=
  @List.rec IOper (fun _ => T → Heap → KN → Option XR) (fun t H k => k t H) (fun o _ ih t H k => stepF own GL call n o t H (fun t' H' => ih t' H' k)) l
section
variable {P : Program} {GL : GLT}
theorem putF_ok {n : Nat} (hn : n ≤ capT) {dst : Option Nat} {v : V} {t : T} {H : Heap} {k : KN} {x : XR} {tm : List (Nat × V)} (hs : Sim tm t) (h : putF n dst v t H k = some x) :
    ∃ tm' t', Sim tm' t' ∧ k t' H = some x ∧ ∀ H0, St.put ⟨n, tm, H0⟩ dst v H = some ⟨n, tm', H⟩ := by
  unfold putF at h
  split at h
  · exact ⟨tm, t, hs, h, fun _ => rfl⟩
  · rename_i d
    cases hb : Nat.blt d n with
    | false => rw [hb] at h; cases h
    | true =>
      rw [hb] at h
      have hd : d < n := by rwa [Nat.blt_eq] at hb
      exact ⟨_, _, hs.put (by omega), h, fun H0 => by simp [St.put, hb]⟩
theorem guardF_ok {gd : Option (Nat × Bool)} {t : T} {tm : List (Nat × V)} {skip go : Option XR} {x : XR} (hs : Sim tm t) (h : guardF gd t skip go = some x) :
    (guardB gd tm = some true ∧ go = some x) ∨ (guardB gd tm = some false ∧ skip = some x) := by
  unfold guardF at h
  unfold guardB
  split at h
  · exact .inl ⟨rfl, h⟩
  · rename_i d want
    simp only [hs d]
    split at h
    · rename_i b hb
      rw [hb]
      cases b <;> cases want <;> simp at h ⊢ <;> exact h
    · rename_i hb
      rw [hb]
      exact .inr ⟨rfl, h⟩
    · cases h
theorem opF_ok {own : List Nat} {call : CallF} (hc : CallOk P GL call) {n : Nat} {dst : Option Nat} {op : IOp} {gd : Option (Nat × Bool)} {af : List Nat} {t : T} {H : Heap} {k : V → Heap → Option XR} {x : XR} {tm : List (Nat × V)} (hs : Sim tm t)
    (hg : guardB gd tm = some true) (h : opF own GL call dst op t H k = some x) :
    ∃ v H', k v H' = some x ∧ ∀ l σ' Q, St.put ⟨n, tm, H⟩ dst v H' = some σ' → WO P GL l σ' Q → WO P GL (⟨dst, op, gd, af⟩ :: l) ⟨n, tm, H⟩ Q := by
  unfold opF at h
  rw [evoF_eq hs] at h
  split at h
  · rename_i f args
    split at h
    · rename_i v H' hcall
      refine ⟨v, H', h, fun l σ' Q hp hw => WO.call rfl hg ((hc _ _ _ _ _ hcall).mono ?_)⟩
      rintro r h2 ⟨rfl, rfl⟩
      exact ⟨σ', hp, hw⟩
    · cases h
  · rename_i y args
    split at h
    · rename_i f first cap hx
      split at h
      · rename_i v H' hcall
        refine ⟨v, H', h, fun l σ' Q hp hw => WO.callv rfl hx hg ((hc _ _ _ _ _ hcall).mono ?_)⟩
        rintro r h2 ⟨rfl, rfl⟩
        exact ⟨σ', hp, hw⟩
      · cases h
    · cases h
  · rename_i sz len z ps
    split at h
    · rename_i v hv
      refine ⟨v, H, h, fun l σ' Q hp hw => WO.effF hg ?_ hp hw⟩
      cases hi : inO dst own with
      | true => rw [hi] at hv; cases hv
      | false => rw [hi] at hv; exact hv
    · split at h
      · rename_i v wr he
        exact ⟨v, _, h, fun l σ' Q hp hw => WO.eff hg he hp hw⟩
      · cases h
  · split at h
    · rename_i v wr he
      rw [effS_eq] at he
      exact ⟨v, _, h, fun l σ' Q hp hw => WO.eff hg he hp hw⟩
    · cases h
theorem runOF_ok {own : List Nat} {call : CallF} (hc : CallOk P GL call) {n : Nat} (hn : n ≤ capT) : ∀ {l : List IOper} {t : T} {H : Heap} {k : KN} {x : XR} {tm : List (Nat × V)}, Sim tm t → runOF own GL call n l t H k = some x →
    ∃ tm' t' H', Sim tm' t' ∧ WO P GL l ⟨n, tm, H⟩ (fun s => s = ⟨n, tm', H'⟩) ∧ k t' H' = some x
  | [], t, H, k, x, tm, hs, h => ⟨tm, t, H, hs, WO.nil rfl, h⟩
  | o :: l, t, H, k, x, tm, hs, h => by
    have h : stepF own GL call n o t H (fun t' H' => runOF own GL call n l t' H' k) = some x := h
    obtain ⟨dst, op, gd, af⟩ := o
    simp only [stepF] at h
    rcases guardF_ok hs h with ⟨hg, h⟩ | ⟨hg, h⟩
    · obtain ⟨v, H', h1, h2⟩ := opF_ok (n := n) (af := af) hc hs hg h
      obtain ⟨tm', t', hs', h3, h4⟩ := putF_ok hn hs h1
      obtain ⟨tm2, t2, H2, hs2, hw, hk⟩ := runOF_ok hc hn hs' h3
      exact ⟨tm2, t2, H2, hs2, h2 _ _ _ (h4 H) hw, hk⟩
    · obtain ⟨tm', t', hs', h3, h4⟩ := putF_ok hn hs h
      obtain ⟨tm2, t2, H2, hs2, hw, hk⟩ := runOF_ok hc hn hs' h3
      exact ⟨tm2, t2, H2, hs2, WO.skip hg (h4 H) hw, hk⟩
end
def runQO (own : List Nat) (GL : GLT) (pcall : PCallF) (base : Nat) : Nat → List IOper → St → Option (List (((V × Wr) × List Nat) × Option V))
  | _, [], _ => some []
  | i, o :: l, σ =>
    let cv : Option V := match isCall o.op with
      | some (f, args) => pcall f (mlist (evo GL σ.tm) args)
      | none => bif inO o.dst own then none else effF (evo GL σ.tm) o.op
    match oneD GL σ.tm σ.hp (base + i) o cv with
    | none => none
    | some r => match runQO own GL pcall base (i + 1) l (σ.putT o.dst r.1 (happ σ.hp r.2)) with
      | none => none
      | some rs => some (((r, rds (evo GL σ.tm) o.op), cv) :: rs)
def runDrawO (own : List Nat) (GL : GLT) (pcall : PCallF) (l : List IOper) (σ : St) : Option St :=
  match runQO own GL pcall σ.hp.length 0 l (padSt σ l.length) with
  | none => none
  | some qs =>
    let rs := qs.map (·.1)
    bif drawOk l rs && dstOk σ.n l && slotOk (σ.hp.length + l.length) rs then
      some (foldK (fun _ => true) 0 l rs (padSt σ l.length))
    else none
section
variable {P : Program} {GL : GLT}
theorem runQO_ok {own : List Nat} {pcall : PCallF} {base : Nat} : ∀ {l : List IOper} {i : Nat} {σ : St} {qs : List (((V × Wr) × List Nat) × Option V)}, runQO own GL pcall base i l σ = some qs →
    ∀ qc : Nat → Option V, (∀ j q, qs[j]? = some q → qc (i + j) = q.2) → runD GL base qc i l σ = some (qs.map (·.1)) ∧ qs.length = l.length ∧
      ∀ k o q, l[k]? = some o → qs[k]? = some q → ∀ f args, isCall o.op = some (f, args) → q.2 = pcall f (mlist (evo GL (foldK (fun j => decide (j < i + k)) i l (qs.map (·.1)) σ).tm) args) ∧
        (guardB o.guard (foldK (fun j => decide (j < i + k)) i l (qs.map (·.1)) σ).tm = some true → q.2 = some q.1.1.1)
  | [], i, σ, qs, h, qc, hq => by
    simp only [runQO, Option.some.injEq] at h; subst h
    exact ⟨rfl, rfl, by simp⟩
  | o :: l, i, σ, qs, h, qc, hq => by
    simp only [runQO] at h
    split at h
    · cases h
    · rename_i r hr
      split at h
      · cases h
      · rename_i rs hrs
        simp only [Option.some.injEq] at h; subst h
        have h0 := hq 0 _ rfl
        simp only [Nat.add_zero] at h0
        obtain ⟨k1, k2, k3⟩ := runQO_ok hrs qc (fun j q hj => by have := hq (j + 1) q (by simpa using hj); rwa [show i + (j + 1) = i + 1 + j by omega] at this)
        have hnone : ∀ (l : List IOper) (rs : List ((V × Wr) × List Nat)) (k : Nat) (σ : St), i ≤ k → foldK (fun j => decide (j < i)) k l rs σ = σ := by
          intro l rs k σ hk
          rw [foldK_congr (K' := fun _ => false) (fun j _ => by simp; omega)]
          have : ∀ (l : List IOper) (rs : List ((V × Wr) × List Nat)) (i : Nat) (s : St), foldK (fun _ => false) i l rs s = s := by
            intro l
            induction l with
            | nil => intro rs i s; simp [foldK]
            | cons o l ih =>
              intro rs i s
              cases rs with
              | nil => simp [foldK]
              | cons r rs => simp only [foldK, cond_false]; exact ih _ _ _
          exact this _ _ _ _
        refine ⟨?_, by simp [k2], fun k o' q ho' hq' f args hcl => ?_⟩
        · simp only [runD, h0, hr, k1, List.map_cons]
        · cases k with
          | zero =>
            simp at ho' hq'; subst ho'; subst hq'
            simp only [Nat.add_zero]
            rw [hnone _ _ _ _ (Nat.le_refl _)]
            refine ⟨by simp only [hcl], fun hg => ?_⟩
            simp only [hcl] at hr ⊢
            unfold oneD at hr
            rw [hg] at hr
            simp only [hcl] at hr
            cases hp : pcall f (mlist (evo GL σ.tm) args) with
            | none => rw [hp] at hr; simp at hr
            | some v => rw [hp] at hr; simp at hr; rw [← hr]
          | succ k =>
            simp at ho' hq'
            have e : i + (k + 1) = i + 1 + k := by omega
            have := k3 k o' q ho' hq' f args hcl
            simp only [List.map_cons, foldK, e, show decide (i < i + 1 + k) = true by simp; omega, cond_true]
            exact this
theorem runDrawO_ok {own : List Nat} {pcall : PCallF} (hm : P.follows .mixedOrders = true) (hp : PCallOk P GL pcall) {l : List IOper} {σ σ' : St} {Q : Ex → St → Prop} (h : runDrawO own GL pcall l σ = some σ') (hq : Q .normal σ') : WC P GL (.draw l) σ Q := by
  unfold runDrawO at h
  split at h
  · cases h
  · rename_i qs hqs
    simp only at h
    cases hb : (drawOk l (qs.map (·.1)) && dstOk σ.n l && slotOk (σ.hp.length + l.length) (qs.map (·.1))) with
    | false => rw [hb] at h; cases h
    | true =>
      rw [hb] at h
      simp only [cond_true, Option.some.injEq] at h; subst h
      simp only [Bool.and_eq_true] at hb
      obtain ⟨k1, k2, k3⟩ := runQO_ok hqs (fun i => (qs[i]?).bind (·.2)) (fun j q hj => by simp [hj])
      refine WC.draw hm k1 hb.1.1 hb.1.2 hb.2 (fun i o r ho hr f args hcl hg => ?_) hq
      simp only [List.getElem?_map, Option.map_eq_some_iff] at hr
      obtain ⟨q, hq1, rfl⟩ := hr
      obtain ⟨e1, e2⟩ := k3 i o q ho hq1 f args hcl
      simp only [Nat.zero_add] at e1 e2
      have e3 := e2 hg
      rw [e1] at e3
      exact hp _ _ _ e3
end
def afterB (n k : Nat) (pre : List IOper) (o : IOper) : Bool :=
  o.after.all (fun e => Nat.blt e (n + k)) && (match k with
    | 0 => (List.range n).all (fun j => o.after.any fun e => Nat.blt e n && (Nat.beq j e || Nat.testBit ((reaches 0 [] pre).getD e 0) j))
    | k + 1 => o.after.any fun e => Nat.beq e (n + k))
def tailB (pre : List IOper) (n : Nat) : Nat → List IOper → Bool
  | _, [] => true
  | k, o :: l => afterB n k pre o && tailB pre n (k + 1) l
def findM (l : List IOper) : Nat → Nat → Option Nat
  | 0, _ => none
  | f + 1, m => bif tailB (l.take m) m 0 (l.drop m) then some m else findM l f (m + 1)
theorem tailB_get {pre : List IOper} {n : Nat} : ∀ {k : Nat} {l : List IOper}, tailB pre n k l = true → ∀ (i : Nat) (o : IOper), l[i]? = some o → afterB n (k + i) pre o = true
  | k, [], _, i, o, ho => by simp at ho
  | k, x :: l, h, i, o, ho => by
    simp only [tailB, Bool.and_eq_true] at h
    cases i with
    | zero => simp at ho; subst ho; exact h.1
    | succ i => simp at ho; have := tailB_get h.2 i o ho; rwa [show k + 1 + i = k + (i + 1) by omega] at this
theorem findM_ok {l : List IOper} : ∀ {f m r : Nat}, findM l f m = some r → tailB (l.take r) r 0 (l.drop r) = true ∧ r < m + f
  | 0, m, r, h => by cases h
  | f + 1, m, r, h => by
    simp only [findM] at h
    cases hb : tailB (l.take m) m 0 (l.drop m) with
    | true => rw [hb] at h; simp only [cond_true, Option.some.injEq] at h; subst h; exact ⟨hb, by omega⟩
    | false => rw [hb] at h; have := findM_ok h; exact ⟨this.1, by omega⟩
section
variable {P : Program} {GL : GLT}
theorem opF_step {own : List Nat} {call : CallF} (hc : CallOk P GL call) {n : Nat} {dst : Option Nat} {op : IOp} {gd : Option (Nat × Bool)} {af : List Nat} {t : T} {H : Heap} {k : V → Heap → Option XR} {x : XR} {tm : List (Nat × V)} (hs : Sim tm t)
    (hg : guardB gd tm = some true) (h : opF own GL call dst op t H k = some x) :
    ∃ v H', k v H' = some x ∧ ∀ σ' X, St.put ⟨n, tm, H⟩ dst v H' = some σ' → X σ' → StepOk P GL ⟨dst, op, gd, af⟩ ⟨n, tm, H⟩ X := by
  unfold opF at h
  rw [evoF_eq hs] at h
  split at h
  · rename_i f args
    split at h
    · rename_i v H' hcall
      refine ⟨v, H', h, fun σ' X hp hw => StepOk.call rfl hg ((hc _ _ _ _ _ hcall).mono ?_)⟩
      rintro r h2 ⟨rfl, rfl⟩
      exact ⟨σ', hp, hw⟩
    · cases h
  · rename_i y args
    split at h
    · rename_i f first cap hx
      split at h
      · rename_i v H' hcall
        refine ⟨v, H', h, fun σ' X hp hw => StepOk.callv rfl hx hg ((hc _ _ _ _ _ hcall).mono ?_)⟩
        rintro r h2 ⟨rfl, rfl⟩
        exact ⟨σ', hp, hw⟩
      · cases h
    · cases h
  · rename_i sz len z ps
    split at h
    · rename_i v hv
      refine ⟨v, H, h, fun σ' X hp hw => StepOk.effF hg ?_ hp hw⟩
      cases hi : inO dst own with
      | true => rw [hi] at hv; cases hv
      | false => rw [hi] at hv; exact hv
    · split at h
      · rename_i v wr he
        exact ⟨v, _, h, fun σ' X hp hw => StepOk.eff hg he hp hw⟩
      · cases h
  · split at h
    · rename_i v wr he
      rw [effS_eq] at he
      exact ⟨v, _, h, fun σ' X hp hw => StepOk.eff hg he hp hw⟩
    · cases h
theorem runOF_seq {own : List Nat} {call : CallF} (hc : CallOk P GL call) {n : Nat} (hn : n ≤ capT) : ∀ {l : List IOper} {t : T} {H : Heap} {k : KN} {x : XR} {tm : List (Nat × V)}, Sim tm t → runOF own GL call n l t H k = some x →
    ∃ tm' t' H', Sim tm' t' ∧ SeqOk P GL l ⟨n, tm, H⟩ (fun s => s = ⟨n, tm', H'⟩) ∧ k t' H' = some x
  | [], t, H, k, x, tm, hs, h => ⟨tm, t, H, hs, rfl, h⟩
  | o :: l, t, H, k, x, tm, hs, h => by
    have h : stepF own GL call n o t H (fun t' H' => runOF own GL call n l t' H' k) = some x := h
    obtain ⟨dst, op, gd, af⟩ := o
    simp only [stepF] at h
    rcases guardF_ok hs h with ⟨hg, h⟩ | ⟨hg, h⟩
    · obtain ⟨v, H', h1, h2⟩ := opF_step (n := n) (af := af) hc hs hg h
      obtain ⟨tm', t', hs', h3, h4⟩ := putF_ok hn hs h1
      obtain ⟨tm2, t2, H2, hs2, hw, hk⟩ := runOF_seq hc hn hs' h3
      exact ⟨tm2, t2, H2, hs2, h2 _ _ (h4 H) hw, hk⟩
    · obtain ⟨tm', t', hs', h3, h4⟩ := putF_ok hn hs h
      obtain ⟨tm2, t2, H2, hs2, hw, hk⟩ := runOF_seq hc hn hs' h3
      exact ⟨tm2, t2, H2, hs2, StepOk.skip hg (h4 H) hw, hk⟩
end
noncomputable def guardBF (gd : Option (Nat × Bool)) (t : T) : Option Bool :=
  match gd with
  | none => some true
  | some (d, want) => match tget t d with
    | .d (.bool b) => some (b == want)
    | .tuple [] => some false
    | _ => none
theorem guardBF_eq {gd : Option (Nat × Bool)} {t : T} {tm : List (Nat × V)} (hs : Sim tm t) : guardBF gd t = guardB gd tm := by
  unfold guardBF guardB
  cases gd with
  | none => rfl
  | some p => simp only [hs p.1]; rfl
noncomputable def oneDF (GL : GLT) (t : T) (H : Heap) (ns : Nat) (o : IOper) (cv : Option V) : Option (V × Wr) :=
  match guardBF o.guard t with
  | none => none
  | some false => some (.tuple [], none)
  | some true => match isCall o.op with
    | some _ => cv.map fun v => (v, none)
    | none => match cv with
      | some _ => (effF (evoF GL t) o.op).map fun v => (v, none)
      | none => effS (evoF GL t) H ns o.op
theorem oneDF_eq {GL : GLT} {t : T} {tm : List (Nat × V)} (hs : Sim tm t) {H : Heap} {ns : Nat} {o : IOper} {cv : Option V} : oneDF GL t H ns o cv = oneD GL tm H ns o cv := by
  unfold oneDF oneD
  simp only [guardBF_eq hs, evoF_eq hs, effS_eq]
  rfl
noncomputable def putTF (dst : Option Nat) (v : V) (t : T) : T := match dst with
  | none => t
  | some d => tset t d v
noncomputable def runQF (own : List Nat) (GL : GLT) (pcall : PCallF) (base : Nat) : Nat → List IOper → T → Heap → Option (List (((V × Wr) × List Nat) × Option V) × T × Heap)
  | _, [], t, H => some ([], t, H)
  | i, o :: l, t, H =>
    let cv : Option V := match isCall o.op with
      | some (f, args) => pcall f (mlist (evoF GL t) args)
      | none => bif inO o.dst own then none else effF (evoF GL t) o.op
    match oneDF GL t H (base + i) o cv with
    | none => none
    | some r => match runQF own GL pcall base (i + 1) l (putTF o.dst r.1 t) (happ H r.2) with
      | none => none
      | some (rs, t', H') => some (((r, rds (evoF GL t) o.op), cv) :: rs, t', H')
theorem runQF_ok {own : List Nat} {GL : GLT} {pcall : PCallF} {base n : Nat} (hn : n ≤ capT) : ∀ {l : List IOper} {i : Nat} {t : T} {H : Heap} {tm : List (Nat × V)} {qs : List (((V × Wr) × List Nat) × Option V)} {t' : T} {H' : Heap}, Sim tm t → dstOk n l = true → runQF own GL pcall base i l t H = some (qs, t', H') →
    runQO own GL pcall base i l ⟨n, tm, H⟩ = some qs ∧ ∃ tm', Sim tm' t' ∧ foldK (fun _ => true) i l (qs.map (·.1)) ⟨n, tm, H⟩ = ⟨n, tm', H'⟩
  | [], i, t, H, tm, qs, t', H', hs, hd, h => by
    simp only [runQF, Option.some.injEq, Prod.mk.injEq] at h
    obtain ⟨rfl, rfl, rfl⟩ := h
    exact ⟨rfl, tm, hs, rfl⟩
  | o :: l, i, t, H, tm, qs, t', H', hs, hd, h => by
    simp only [runQF] at h
    rw [oneDF_eq hs, evoF_eq hs] at h
    simp only [dstOk, List.all_cons, Bool.and_eq_true] at hd
    split at h
    · cases h
    · rename_i r hr
      split at h
      · cases h
      · rename_i rs t2 H2 hrs
        simp only [Option.some.injEq, Prod.mk.injEq] at h
        obtain ⟨rfl, rfl, rfl⟩ := h
        have hput : ∃ tm1, Sim tm1 (putTF o.dst r.1 t) ∧ St.putT ⟨n, tm, H⟩ o.dst r.1 (happ H r.2) = ⟨n, tm1, happ H r.2⟩ := by
          cases hdst : o.dst with
          | none => exact ⟨tm, hs, rfl⟩
          | some d =>
            have h1 := hd.1
            rw [hdst] at h1
            have hlt : d < n := by simpa [Nat.blt_eq] using h1
            exact ⟨_, hs.put (by omega), rfl⟩
        obtain ⟨tm1, hs1, hp1⟩ := hput
        obtain ⟨k1, tm2, hs2, k2⟩ := runQF_ok hn (n := n) hs1 (by simpa [dstOk] using hd.2) hrs
        refine ⟨?_, tm2, hs2, ?_⟩
        · have hr' := hr
          simp only [runQO]
          have e : oneD GL tm H (base + i) o (match isCall o.op with | some (f, args) => pcall f (mlist (evo GL tm) args) | none => bif inO o.dst own then none else effF (evo GL tm) o.op) = some r := hr
          cases hic : isCall o.op with
          | none => rw [hic] at e; simp only [e, hp1, k1]
          | some p => rw [hic] at e; simp only [e, hp1, k1]
        · simp only [List.map_cons, foldK, cond_true, hp1, k2]
noncomputable def runDF (own : List Nat) (GL : GLT) (pcall : PCallF) (n : Nat) (l : List IOper) (t : T) (H : Heap) : Option (T × Heap) :=
  bif statOk l && dstOk n l then match runQF own GL pcall H.length 0 l t (H ++ List.replicate l.length none) with
    | none => none
    | some (qs, t', H') => bif (noWr (qs.map (·.1)) || gOk 0 [] (dynM (qs.map (·.1))) (reaches 0 [] l)) && slotOk (H.length + l.length) (qs.map (·.1)) then some (t', H') else none
  else none
theorem runDF_ok {own : List Nat} {GL : GLT} {pcall : PCallF} {n : Nat} (hn : n ≤ capT) {l : List IOper} {t : T} {H : Heap} {tm : List (Nat × V)} {t' : T} {H' : Heap} (hs : Sim tm t) (h : runDF own GL pcall n l t H = some (t', H')) :
    ∃ tm', Sim tm' t' ∧ runDrawO own GL pcall l ⟨n, tm, H⟩ = some ⟨n, tm', H'⟩ := by
  unfold runDF at h
  cases h1 : (statOk l && dstOk n l) with
  | false => rw [h1] at h; cases h
  | true =>
    rw [h1] at h
    simp only [cond_true] at h
    simp only [Bool.and_eq_true] at h1
    split at h
    · cases h
    · rename_i qs t2 H2 hq
      cases h2 : ((noWr (qs.map (·.1)) || gOk 0 [] (dynM (qs.map (·.1))) (reaches 0 [] l)) && slotOk (H.length + l.length) (qs.map (·.1))) with
      | false => rw [h2] at h; cases h
      | true =>
        rw [h2] at h
        simp only [cond_true, Option.some.injEq, Prod.mk.injEq] at h
        obtain ⟨rfl, rfl⟩ := h
        simp only [Bool.and_eq_true] at h2
        obtain ⟨k1, tm', hs', k2⟩ := runQF_ok hn hs h1.2 hq
        refine ⟨tm', hs', ?_⟩
        unfold runDrawO
        have e1 : padSt ⟨n, tm, H⟩ l.length = ⟨n, tm, H ++ List.replicate l.length none⟩ := rfl
        simp only [e1, k1]
        have : (drawOk l (qs.map (·.1)) && dstOk n l && slotOk (H.length + l.length) (qs.map (·.1))) = true := by
          simp only [drawOk, Bool.and_eq_true]
          exact ⟨⟨⟨h1.1, h2.1⟩, h1.2⟩, h2.2⟩
        rw [this, cond_true, k2]
noncomputable def runTF (own : List Nat) (GL : GLT) (call : CallF) (pcall : PCallF) (n : Nat) (l : List IOper) (t : T) (H : Heap) (k : KN) : Option XR :=
  match findM l l.length 0 with
  | none => none
  | some m => match runDF own GL pcall n (l.take m) t H with
    | none => none
    | some (t1, H1) => runOF own GL call n (l.drop m) t1 H1 k
theorem runTF_ok {P : Program} {own : List Nat} {GL : GLT} {call : CallF} {pcall : PCallF} (hm : P.follows .mixedOrders = true) (hc : CallOk P GL call) (hp : PCallOk P GL pcall) {n : Nat} (hn : n ≤ capT) {l : List IOper} {t : T} {H : Heap} {k : KN} {x : XR} {tm : List (Nat × V)} (hs : Sim tm t) (h : runTF own GL call pcall n l t H k = some x) :
    ∃ tm' t' H', Sim tm' t' ∧ WC P GL (.draw l) ⟨n, tm, H⟩ (fun e s => e = .normal ∧ s = ⟨n, tm', H'⟩) ∧ k t' H' = some x := by
  unfold runTF at h
  split at h
  · cases h
  · rename_i m hfm
    obtain ⟨htb, hml⟩ := findM_ok hfm
    split at h
    · cases h
    · rename_i t1 H1 hd
      unfold runDF at hd
      cases h1 : (statOk (l.take m) && dstOk n (l.take m)) with
      | false => rw [h1] at hd; cases hd
      | true =>
        rw [h1] at hd
        simp only [cond_true] at hd
        simp only [Bool.and_eq_true] at h1
        split at hd
        · cases hd
        · rename_i qs t2 H2 hq
          cases h2 : ((noWr (qs.map (·.1)) || gOk 0 [] (dynM (qs.map (·.1))) (reaches 0 [] (l.take m))) && slotOk (H.length + (l.take m).length) (qs.map (·.1))) with
          | false => rw [h2] at hd; cases hd
          | true =>
            rw [h2] at hd
            simp only [cond_true, Option.some.injEq, Prod.mk.injEq] at hd
            obtain ⟨rfl, rfl⟩ := hd
            simp only [Bool.and_eq_true] at h2
            obtain ⟨k1, tm1, hs1, k2⟩ := runQF_ok hn hs h1.2 hq
            obtain ⟨tm', t', H', hs', hseq, hk⟩ := runOF_seq hc hn hs1 h
            refine ⟨tm', t', H', hs', ?_, hk⟩
            have hlm : (l.take m).length = m := by rw [List.length_take]; omega
            have e1 : padSt ⟨n, tm, H⟩ (l.take m).length = ⟨n, tm, H ++ List.replicate (l.take m).length none⟩ := rfl
            obtain ⟨q1, q2, q3⟩ := runQO_ok k1 (fun i => (qs[i]?).bind (·.2)) (fun j q hj => by simp [hj])
            have hdr : drawOk (l.take m) (qs.map (·.1)) = true := by simp only [drawOk, Bool.and_eq_true]; exact ⟨h1.1, h2.1⟩
            have key : WC P GL (.draw (l.take m ++ l.drop m)) ⟨n, tm, H⟩ (fun e s => e = .normal ∧ s = ⟨n, tm', H'⟩) := by
              refine WC.drawSeq (rs := qs.map (·.1)) (qc := fun i => (qs[i]?).bind (·.2)) hm (by rw [e1]; exact q1) hdr h1.2 h2.2 (fun i o r ho hr f args hcl hg => ?_) ?_ (fun k ot hk e he => ?_) (fun ot hk j hj => ?_) (fun k ot hk => ?_) ?_
              · simp only [List.getElem?_map, Option.map_eq_some_iff] at hr
                obtain ⟨q, hq1, rfl⟩ := hr
                obtain ⟨f1, f2⟩ := q3 i o q ho hq1 f args hcl
                simp only [Nat.zero_add] at f1 f2
                have f3 := f2 hg
                rw [f1] at f3
                exact hp _ _ _ f3
              · intro he
                have : (l.drop m).length = 0 := by rw [he]; rfl
                rw [List.length_drop] at this
                omega
              · have hb := tailB_get htb k ot hk
                simp only [afterB, Bool.and_eq_true, Nat.zero_add, List.all_eq_true] at hb
                have := hb.1 e he
                rw [hlm]
                simpa [Nat.blt_eq] using this
              · have hb := tailB_get htb 0 ot hk
                simp only [afterB, Bool.and_eq_true, Nat.zero_add] at hb
                rw [hlm] at hj ⊢
                have h3 := (List.all_eq_true.1 hb.2) j (List.mem_range.2 hj)
                rw [List.any_eq_true] at h3
                obtain ⟨e, he, h4⟩ := h3
                simp only [Bool.and_eq_true, Bool.or_eq_true] at h4
                refine ⟨e, he, by simpa [Nat.blt_eq] using h4.1, ?_⟩
                rcases h4.2 with h5 | h5
                · exact .inl (Nat.eq_of_beq_eq_true h5)
                · exact .inr h5
              · have hb := tailB_get htb (k + 1) ot hk
                simp only [afterB, Bool.and_eq_true, Nat.zero_add] at hb
                have h3 := hb.2
                rw [List.any_eq_true] at h3
                obtain ⟨e, he, h4⟩ := h3
                have h5 : e = m + k := by have := Nat.eq_of_beq_eq_true h4; rw [this]; show m + (0 + k) = m + k; rw [Nat.zero_add]
                rw [hlm, ← h5]
                exact he
              · rw [e1, k2]
                have mono : ∀ (l : List IOper) (s : St) (Q Q' : St → Prop), (∀ s, Q s → Q' s) → SeqOk P GL l s Q → SeqOk P GL l s Q' := by
                  intro l
                  induction l with
                  | nil => intro s Q Q' hq h0; exact hq _ h0
                  | cons o l ih =>
                    intro s Q Q' hq h0 o' ops a1 a2 a3 g w a hr K Q2 hK
                    exact h0 o' ops a1 a2 a3 g w a hr K Q2 (fun g' w' a' σ' b1 b2 b3 => hK g' w' a' σ' b1 b2 (ih _ _ _ hq b3))
                exact mono _ _ _ _ (fun s hs => ⟨rfl, hs⟩) hseq
            rwa [List.take_append_drop] at key
noncomputable def runDTF (own : List Nat) (GL : GLT) (call : CallF) (pcall : PCallF) (n : Nat) (l : List IOper) (t : T) (H : Heap) (k : KN) : Option XR :=
  match runDF own GL pcall n l t H with
  | some (t', H') => k t' H'
  | none => runTF own GL call pcall n l t H k
theorem runDTF_ok {own : List Nat} {P : Program} {GL : GLT} {call : CallF} {pcall : PCallF} (hm : P.follows .mixedOrders = true) (hc : CallOk P GL call) (hp : PCallOk P GL pcall) {n : Nat} (hn : n ≤ capT) {l : List IOper} {t : T} {H : Heap} {k : KN} {x : XR} {tm : List (Nat × V)} (hs : Sim tm t) (h : runDTF own GL call pcall n l t H k = some x) :
    ∃ tm' t' H', Sim tm' t' ∧ WC P GL (.draw l) ⟨n, tm, H⟩ (fun e s => e = .normal ∧ s = ⟨n, tm', H'⟩) ∧ k t' H' = some x := by
  unfold runDTF at h
  split at h
  · rename_i t' H' hd
    obtain ⟨tm', hs', hr⟩ := runDF_ok hn hs hd
    exact ⟨tm', t', H', hs', runDrawO_ok hm hp hr ⟨rfl, rfl⟩, h⟩
  · exact runTF_ok hm hc hp hn hs h
noncomputable def loopF (body : T → Heap → KN → (Nat → KN) → KN → Option XR) (m : Nat) : T → Heap → (Nat → KN) → KN → Option XR :=
  @Nat.rec (fun _ => T → Heap → (Nat → KN) → KN → Option XR) (fun _ _ _ _ => none) (fun _ ih t H ke kr => body t H (fun t' H' => ih t' H' ke kr) ke kr) m
noncomputable def condF (v : V) (a b : Option XR) : Option XR := match v with
  | .d (.bool t) => bif t then a else b
  | _ => none
noncomputable def runCF (own : List Nat) (GL : GLT) (call : CallF) (pcall : PCallF) (m n : Nat) (c : IR) : T → Heap → KN → (Nat → KN) → KN → Option XR :=
  @IR.rec (fun _ => T → Heap → KN → (Nat → KN) → KN → Option XR)
    (fun t H kn _ _ => kn t H)
    (fun l t H kn _ _ => runOF own GL call n l t H kn)
    (fun l t H kn _ _ => runDTF own GL call pcall n l t H kn)
    (fun _ _ ia ib t H kn ke kr => ia t H (fun t' H' => ib t' H' kn ke kr) ke kr)
    (fun c _ _ ia ib t H kn ke kr => condF (evoF GL t c) (ia t H kn ke kr) (ib t H kn ke kr))
    (fun id _ ib t H kn ke kr => ib t H kn (fun i t' H' => bif Nat.beq i id then kn t' H' else ke i t' H') kr)
    (fun _ ib t H _ ke kr => loopF ib m t H ke kr)
    (fun id t H _ ke _ => ke id t H)
    (fun t H _ _ kr => kr t H) c
def OutK (kn : KN) (ke : Nat → KN) (kr : KN) (e : Ex) (t : T) (H : Heap) : Option XR := match e with
  | .normal => kn t H
  | .exit i => ke i t H
  | .ret => kr t H
def LoopTo (P : Program) (GL : GLT) (b : IR) (e : Ex) (s' : St) : Nat → St → Prop
  | 0, _ => False
  | k + 1, s => WC P GL b s (fun e1 s1 => match e1 with
    | .normal => LoopTo P GL b e s' k s1
    | e1 => e1 = e ∧ s1 = s')
theorem LoopTo.wc {P : Program} {GL : GLT} {b : IR} {e : Ex} {s' : St} {k : Nat} {s : St} (h : LoopTo P GL b e s' k s) : WC P GL (.loop b) s (fun e1 s1 => e1 = e ∧ s1 = s') := by
  refine WC.loop (fun m s => LoopTo P GL b e s' m s) (fun m s hm => ?_) h
  cases m with
  | zero => exact hm.elim
  | succ m =>
    refine WC.mono hm ?_
    intro e1 s1 h1
    cases e1 with
    | normal => exact ⟨m, by omega, h1⟩
    | exit i => exact h1
    | ret => exact h1
theorem runCF_ok {P : Program} {GL : GLT} {own : List Nat} {call : CallF} {pcall : PCallF} (hm : P.follows .mixedOrders = true) (hc : CallOk P GL call) (hp : PCallOk P GL pcall) {m n : Nat} (hn : n ≤ capT) : ∀ {c : IR} {t : T} {H : Heap} {kn : KN} {ke : Nat → KN} {kr : KN} {x : XR} {tm : List (Nat × V)}, Sim tm t → runCF own GL call pcall m n c t H kn ke kr = some x →
    ∃ e tm' t' H', Sim tm' t' ∧ WC P GL c ⟨n, tm, H⟩ (fun e' s => e' = e ∧ s = ⟨n, tm', H'⟩) ∧ OutK kn ke kr e t' H' = some x
  | .skip, t, H, kn, ke, kr, x, tm, hs, h => ⟨.normal, tm, t, H, hs, WC.skip ⟨rfl, rfl⟩, h⟩
  | .region l, t, H, kn, ke, kr, x, tm, hs, h => by
    obtain ⟨tm', t', H', hs', hw, hk⟩ := runOF_ok hc hn hs (show runOF own GL call n l t H kn = some x from h)
    refine ⟨.normal, tm', t', H', hs', WC.region ?_, hk⟩
    intro ops k h1 g w a hr
    exact wpOps_monoQ (fun e a w hp => postC.mono (fun e s hq => by cases e with | normal => exact ⟨rfl, hq⟩ | exit i => exact hq.elim | ret => exact hq.elim) e a w hp) _ _ _ (hw ops k h1 g w a hr)
  | .draw l, t, H, kn, ke, kr, x, tm, hs, h => by
    obtain ⟨tm', t', H', hs', hw, hk⟩ := runDTF_ok hm hc hp hn hs (show runDTF own GL call pcall n l t H kn = some x from h)
    exact ⟨.normal, tm', t', H', hs', hw, hk⟩
  | .seq a b, t, H, kn, ke, kr, x, tm, hs, h => by
    obtain ⟨e, tm', t', H', hs', hw, hk⟩ := runCF_ok hm hc hp hn hs (show runCF own GL call pcall m n a t H (fun t' H' => runCF own GL call pcall m n b t' H' kn ke kr) ke kr = some x from h)
    cases e with
    | normal =>
      obtain ⟨e2, tm2, t2, H2, hs2, hw2, hk2⟩ := runCF_ok hm hc hp hn hs' (show runCF own GL call pcall m n b t' H' kn ke kr = some x from hk)
      refine ⟨e2, tm2, t2, H2, hs2, WC.seq (hw.mono ?_), hk2⟩
      rintro e' s' ⟨rfl, rfl⟩
      exact hw2
    | exit i =>
      refine ⟨.exit i, tm', t', H', hs', WC.seq (hw.mono ?_), hk⟩
      rintro e' s' ⟨rfl, rfl⟩
      exact ⟨rfl, rfl⟩
    | ret =>
      refine ⟨.ret, tm', t', H', hs', WC.seq (hw.mono ?_), hk⟩
      rintro e' s' ⟨rfl, rfl⟩
      exact ⟨rfl, rfl⟩
  | .cond c a b, t, H, kn, ke, kr, x, tm, hs, h => by
    have h : condF (evoF GL t c) (runCF own GL call pcall m n a t H kn ke kr) (runCF own GL call pcall m n b t H kn ke kr) = some x := h
    rw [evoF_eq hs] at h
    unfold condF at h
    split at h
    · rename_i tb hv
      cases tb with
      | true =>
        obtain ⟨e, tm', t', H', hs', hw, hk⟩ := runCF_ok hm hc hp hn hs (show runCF own GL call pcall m n a t H kn ke kr = some x from h)
        exact ⟨e, tm', t', H', hs', WC.cond hv hw, hk⟩
      | false =>
        obtain ⟨e, tm', t', H', hs', hw, hk⟩ := runCF_ok hm hc hp hn hs (show runCF own GL call pcall m n b t H kn ke kr = some x from h)
        exact ⟨e, tm', t', H', hs', WC.cond hv hw, hk⟩
    · cases h
  | .block id b, t, H, kn, ke, kr, x, tm, hs, h => by
    obtain ⟨e, tm', t', H', hs', hw, hk⟩ := runCF_ok hm hc hp hn hs (show runCF own GL call pcall m n b t H kn (fun i t' H' => bif Nat.beq i id then kn t' H' else ke i t' H') kr = some x from h)
    cases e with
    | normal =>
      refine ⟨.normal, tm', t', H', hs', WC.block (hw.mono ?_), hk⟩
      rintro e' s' ⟨rfl, rfl⟩
      exact ⟨rfl, rfl⟩
    | exit i =>
      have hk : (bif Nat.beq i id then kn t' H' else ke i t' H') = some x := hk
      by_cases hi : i = id
      · subst hi
        rw [Nat.beq_refl, cond_true] at hk
        refine ⟨.normal, tm', t', H', hs', WC.block (hw.mono ?_), hk⟩
        rintro e' s' ⟨rfl, rfl⟩
        show if i = i then _ else _
        rw [if_pos rfl]; exact ⟨rfl, rfl⟩
      · rw [beq_ff hi, cond_false] at hk
        refine ⟨.exit i, tm', t', H', hs', WC.block (hw.mono ?_), hk⟩
        rintro e' s' ⟨rfl, rfl⟩
        show if i = id then _ else _
        rw [if_neg hi]; exact ⟨rfl, rfl⟩
    | ret =>
      refine ⟨.ret, tm', t', H', hs', WC.block (hw.mono ?_), hk⟩
      rintro e' s' ⟨rfl, rfl⟩
      exact ⟨rfl, rfl⟩
  | .loop b, t, H, kn, ke, kr, x, tm, hs, h => by
    have h : loopF (runCF own GL call pcall m n b) m t H ke kr = some x := h
    have key : ∀ (k : Nat) (t : T) (H : Heap) (tm : List (Nat × V)), Sim tm t → loopF (runCF own GL call pcall m n b) k t H ke kr = some x →
        ∃ e tm' t' H', Sim tm' t' ∧ LoopTo P GL b e ⟨n, tm', H'⟩ k ⟨n, tm, H⟩ ∧ OutK kn ke kr e t' H' = some x := by
      intro k
      induction k with
      | zero => intro t H tm _ h0; cases h0
      | succ k ih =>
        intro t H tm hs h0
        have h0 : runCF own GL call pcall m n b t H (fun t' H' => loopF (runCF own GL call pcall m n b) k t' H' ke kr) ke kr = some x := h0
        obtain ⟨e, tm', t', H', hs', hw, hk⟩ := runCF_ok hm hc hp hn hs h0
        cases e with
        | normal =>
          obtain ⟨e2, tm2, t2, H2, hs2, hw2, hk2⟩ := ih t' H' tm' hs' hk
          refine ⟨e2, tm2, t2, H2, hs2, WC.mono hw ?_, hk2⟩
          rintro e' s' ⟨rfl, rfl⟩
          exact hw2
        | exit i =>
          refine ⟨.exit i, tm', t', H', hs', WC.mono hw ?_, hk⟩
          rintro e' s' ⟨rfl, rfl⟩
          exact ⟨rfl, rfl⟩
        | ret =>
          refine ⟨.ret, tm', t', H', hs', WC.mono hw ?_, hk⟩
          rintro e' s' ⟨rfl, rfl⟩
          exact ⟨rfl, rfl⟩
    obtain ⟨e, tm', t', H', hs', hw, hk⟩ := key m t H tm hs h
    exact ⟨e, tm', t', H', hs', hw.wc, hk⟩
  | .exit id, t, H, kn, ke, kr, x, tm, hs, h => ⟨.exit id, tm, t, H, hs, WC.exit ⟨rfl, rfl⟩, h⟩
  | .ret, t, H, kn, ke, kr, x, tm, hs, h => ⟨.ret, tm, t, H, hs, WC.ret ⟨rfl, rfl⟩, h⟩
inductive FT (α : Type) where
  | e
  | n (l : FT α) (k : Nat) (a : α) (r : FT α)
noncomputable def ftget {α : Type} (t : FT α) (f : Nat) : Option α :=
  @FT.rec α (fun _ => Option α) none (fun _ k a _ il ir => @Bool.rec (fun _ => Option α) (@Bool.rec (fun _ => Option α) ir il (Nat.ble f k)) (some a) (Nat.beq f k)) t
def FtAll {α : Type} (p : Nat → α → Prop) : FT α → Prop
  | .e => True
  | .n l k a r => FtAll p l ∧ p k a ∧ FtAll p r
theorem ftget_all {α : Type} {p : Nat → α → Prop} : ∀ {t : FT α} {f : Nat} {a : α}, FtAll p t → ftget t f = some a → p f a
  | .e, f, a, _, h => by cases h
  | .n l k b r, f, a, ht, h => by
    have h : @Bool.rec (fun _ => Option α) (@Bool.rec (fun _ => Option α) (ftget r f) (ftget l f) (Nat.ble f k)) (some b) (Nat.beq f k) = some a := h
    cases h1 : Nat.beq f k with
    | true =>
      rw [h1] at h
      have := Nat.eq_of_beq_eq_true h1; subst this
      simp only [Option.some.injEq] at h; subst h
      exact ht.2.1
    | false =>
      rw [h1] at h
      cases h2 : Nat.ble f k with
      | true => rw [h2] at h; exact ftget_all ht.1 h
      | false => rw [h2] at h; exact ftget_all ht.2.2 h
noncomputable def prT (t : FT (List V → Option V)) : PCallF := fun f args => match ftget t f with
  | some s => s args
  | none => none
theorem prT_ok {P : Program} {GL : GLT} {t : FT (List V → Option V)} (h : FtAll (fun f s => ∀ args v, s args = some v → PC P GL f args v) t) : PCallOk P GL (prT t) := by
  intro f args v hv
  unfold prT at hv
  split at hv
  · rename_i s hs
    exact ftget_all h hs _ _ hv
  · cases hv
noncomputable def resOneF (t : T) (H : Heap) : IRes → Option V
  | .t n => some (tget t n)
  | .cell n size agg => match loadC H size (tget t n) with
    | some cs => mkV agg cs
    | none => none
noncomputable def resF (rs : List IRes) (t : T) (H : Heap) : Option XR :=
  match mapO (resOneF t H) rs with
  | some [v] => some (v, H)
  | some vs => some (.tuple vs, H)
  | none => none
theorem resF_ok {rs : List IRes} {n : Nat} {t : T} {H : Heap} {tm : List (Nat × V)} {x : XR} (hs : Sim tm t) (h : resF rs t H = some x) : resV rs ⟨n, tm, H⟩ = some x.1 ∧ x.2 = H := by
  have e : resOneF t H = resOne ⟨n, tm, H⟩ := funext fun r => by
    cases r with
    | t n => simp only [resOneF, resOne, hs _]
    | cell n size agg => simp only [resOneF, resOne, hs _]; cases loadC H size (tget t n) <;> rfl
  unfold resF at h
  unfold resV
  rw [e] at h
  split at h
  · rename_i v hv
    simp only [Option.some.injEq] at h; subst h
    rw [hv]; exact ⟨rfl, rfl⟩
  · rename_i vs hne hv
    simp only [Option.some.injEq] at h; subst h
    rw [hv]
    refine ⟨?_, rfl⟩
    split
    · rename_i v heq
      simp only [Option.some.injEq] at heq
      exact (hne v heq).elim
    · rename_i vs' _ heq; simp only [Option.some.injEq] at heq; rw [heq]
    · rename_i heq; cases heq
  · cases h
noncomputable def rawG (owns : FuncId → List Nat) (GL : GLT) (fns : FT IFn) (mk : CallF → CallF) (mkp : CallF → PCallF) (m : Nat) (d : Nat) : CallF :=
  @Nat.rec (fun _ => CallF) (fun _ _ _ => none)
    (fun _ ih f args H => match ftget fns f with
      | none => none
      | some fn => bif Nat.ble args.length fn.ntmps && Nat.ble fn.ntmps capT then
          runCF (owns f) GL (mk ih) (mkp ih) m fn.ntmps fn.body (treeA 0 args .e) H (fun t H => resF fn.res t H) (fun _ _ _ => none) (fun t H => resF fn.res t H)
        else none) d
theorem rawG_ok {P : Program} {GL : GLT} {owns : FuncId → List Nat} {fns : FT IFn} {mk : CallF → CallF} {mkp : CallF → PCallF} (hm : P.follows .mixedOrders = true) (hf : FtAll (fun f fn => compFn P f = some fn ∧ callable P f = true) fns)
    (hmk : ∀ raw, CallOk P GL raw → CallOk P GL (mk raw)) (hmkp : ∀ raw, CallOk P GL raw → PCallOk P GL (mkp raw)) (m : Nat) : ∀ d, CallOk P GL (rawG owns GL fns mk mkp m d)
  | 0 => by intro f args H v H' h; cases h
  | d + 1 => by
    intro f args H v H' h
    have ih := rawG_ok (owns := owns) hm hf hmk hmkp m d
    have h : (match ftget fns f with
      | none => none
      | some fn => bif Nat.ble args.length fn.ntmps && Nat.ble fn.ntmps capT then
          runCF (owns f) GL (mk (rawG owns GL fns mk mkp m d)) (mkp (rawG owns GL fns mk mkp m d)) m fn.ntmps fn.body (treeA 0 args .e) H (fun t H => resF fn.res t H) (fun _ _ _ => none) (fun t H => resF fn.res t H)
        else none) = some (v, H') := h
    split at h
    · cases h
    · rename_i fn hfn
      obtain ⟨h1, h2⟩ := ftget_all hf hfn
      cases hb : (Nat.ble args.length fn.ntmps && Nat.ble fn.ntmps capT) with
      | false => rw [hb] at h; cases h
      | true =>
        rw [hb] at h
        simp only [cond_true] at h
        simp only [Bool.and_eq_true] at hb
        have hb1 := Nat.le_of_ble_eq_true hb.1
        have hb2 := Nat.le_of_ble_eq_true hb.2
        obtain ⟨e, tm', t', H2, hs', hw, hk⟩ := runCF_ok hm (hmk _ ih) (hmkp _ ih) hb2 (Sim.args args (by omega)) h
        refine WF.body h1 h2 hb1 (hw.mono ?_)
        rintro e' s' ⟨rfl, rfl⟩
        cases e' with
        | normal =>
          obtain ⟨k1, k2⟩ := resF_ok (n := fn.ntmps) hs' (show resF fn.res t' H2 = some (v, H') from hk)
          exact ⟨v, k1, rfl, k2.symm⟩
        | exit i => cases (show (none : Option XR) = some (v, H') from hk)
        | ret =>
          obtain ⟨k1, k2⟩ := resF_ok (n := fn.ntmps) hs' (show resF fn.res t' H2 = some (v, H') from hk)
          exact ⟨v, k1, rfl, k2.symm⟩
abbrev Extra := FT (List V → Option V)
noncomputable def primX (ex : Extra) (prim : PCallF) : PCallF := fun f args =>
  match ftget ex f with
  | none => prim f args
  | some s => match s args with
    | some v => some v
    | none => prim f args
noncomputable def mkC (kt : FT Nat) (ex : Extra) (rf : FuncId → Bool) (hook : Hook) (prim : PCallF) (raw : CallF) : CallF := fun f args H =>
  match ftget kt f with
  | none => callOf0 (fun _ => false) (fun _ _ => none) raw f args H
  | some _ => match primX ex (fun _ _ => none) f args with
    | some v => some (v, H)
    | none => callOf rf hook (primX ex prim) raw f args H
noncomputable def mkPC (kt : FT Nat) (ex : Extra) (rf : FuncId → Bool) (prim : PCallF) (raw : CallF) : PCallF := fun f args =>
  match ftget kt f with
  | none => pcallOf (fun _ _ => none) raw f args
  | some _ => bif rf f then none else pcallOf (primX ex prim) raw f args
def ExOk (P : Program) (GL : GLT) (ex : Extra) : Prop := FtAll (fun f s => ∀ args v, s args = some v → PC P GL f args v) ex
section
variable {P : Program} {GL : GLT}
theorem primX_ok {ex : Extra} {prim : PCallF} (he : ExOk P GL ex) (hp : PCallOk P GL prim) : PCallOk P GL (primX ex prim) := by
  intro f args v h
  unfold primX at h
  split at h
  · exact hp _ _ _ h
  · rename_i s hs
    split at h
    · rename_i u hu
      simp only [Option.some.injEq] at h; subst h
      exact ftget_all he hs _ _ hu
    · exact hp _ _ _ h
theorem noP_ok' : PCallOk P GL (fun _ _ => none) := by intro f a v h; cases h
theorem mkC_ok {kt : FT Nat} {ex : Extra} {rf : FuncId → Bool} {hook : Hook} {prim : PCallF} (he : ExOk P GL ex) (hh : HookOk P GL hook) (hp : PCallOk P GL prim) : ∀ raw, CallOk P GL raw → CallOk P GL (mkC kt ex rf hook prim raw) := by
  intro raw hr f args H v H' h
  unfold mkC at h
  split at h
  · exact callOf0_ok noP_ok' hr _ _ _ _ _ h
  · split at h
    · rename_i u hu
      simp only [Option.some.injEq, Prod.mk.injEq] at h
      obtain ⟨rfl, rfl⟩ := h
      exact WF.ofPC (primX_ok he noP_ok' _ _ _ hu) ⟨rfl, rfl⟩
    · exact callOf_ok hh (primX_ok he hp) hr _ _ _ _ _ h
theorem mkPC_ok {kt : FT Nat} {ex : Extra} {rf : FuncId → Bool} {prim : PCallF} (he : ExOk P GL ex) (hp : PCallOk P GL prim) : ∀ raw, CallOk P GL raw → PCallOk P GL (mkPC kt ex rf prim raw) := by
  intro raw hr f args v h
  unfold mkPC at h
  split at h
  · exact pcallOf_ok noP_ok' hr _ _ _ h
  · cases hb : rf f with
    | true => rw [hb] at h; cases h
    | false => rw [hb] at h; exact pcallOf_ok (primX_ok he hp) hr _ _ _ h
end
end Fw

/-
  Pieces of code by the quicker run: from a state told by a few slots to another, or to a function's result.
-/
set_option linter.unusedSimpArgs false
set_option linter.unusedVariables false
namespace Fw
open Go
noncomputable def treeL : List (Nat × V) → T
  | [] => .e
  | (s, u) :: l => tset (treeL l) s u
def keysOk (tm : List (Nat × V)) : Bool := tm.all fun p => Nat.blt p.1 capT
theorem Sim.tree : ∀ {tm : List (Nat × V)}, keysOk tm = true → Sim tm (treeL tm)
  | [], _ => Sim.nil
  | (s, u) :: l, h => fun t => by
    simp only [keysOk, List.all_cons, Bool.and_eq_true] at h
    have hs : s < capT := by simpa [Nat.blt_eq] using h.1
    rw [get_cons, treeL, tget_tset _ _ _ _ hs, Sim.tree (by simpa [keysOk] using h.2) t]
    by_cases e : s = t
    · subst e; simp
    · rw [if_neg e, if_neg (fun e' => e e'.symm)]
def mkSt : List Nat → List V → List (Nat × V)
  | k :: ks, v :: vs => (k, v) :: mkSt ks vs
  | _, _ => []
theorem mkSt_get {t : T} (s : Nat) : ∀ (ks : List Nat), get (mkSt ks (ks.map (tget t))) s = tget t s ∨ get (mkSt ks (ks.map (tget t))) s = .any
  | [] => .inr rfl
  | k :: ks => by
    simp only [List.map_cons, mkSt, get_cons]
    by_cases e : k = s
    · subst e; rw [if_pos rfl]; exact .inl rfl
    · rw [if_neg e]; exact mkSt_get s ks
theorem R.weak {GL : GLT} {g : G} {w : World} {a : Act} {n : Nat} {tm tm2 : List (Nat × V)} {H : Heap} (hw : ∀ s, get tm2 s = get tm s ∨ get tm2 s = .any) (h : R GL g w a ⟨n, tm, H⟩) : R GL g w a ⟨n, tm2, H⟩ :=
  ⟨h.defers, h.size, fun t => by
    show RV g w (get tm2 t) _
    rcases hw t with e | e
    · rw [e]; exact h.tmps t
    · rw [e]; simp only [RV], h.heap, h.globs⟩
theorem Tidy.weak {m n : Nat} {tm tm2 : List (Nat × V)} {H : Heap} (hw : ∀ s, get tm2 s = get tm s ∨ get tm2 s = .any) : Tidy m ⟨n, tm, H⟩ ⟨n, tm2, H⟩ :=
  fun _ g _ _ hr => ⟨g, hr.weak hw, fun _ _ _ he => he⟩
section
variable {P : Program} {GL : GLT}
theorem WC.weak {c : IR} {n : Nat} {tm tm2 : List (Nat × V)} {H : Heap} {Q : Ex → St → Prop} (hw : ∀ s, get tm2 s = get tm s ∨ get tm2 s = .any) (h : WC P GL c ⟨n, tm2, H⟩ Q) : WC P GL c ⟨n, tm, H⟩ Q :=
  WC.tidy (Tidy.weak hw) h
theorem WC.keep {c : IR} {n : Nat} {tm : List (Nat × V)} {H : Heap} {Q : Ex → St → Prop} (ks : List Nat) (h : WC P GL c ⟨n, keepTm ks tm, H⟩ Q) : WC P GL c ⟨n, tm, H⟩ Q :=
  WC.weak (fun s => get_keepTm ks s tm) h
theorem WC.runK {own : List Nat} {call : CallF} {pcall : PCallF} (hm : P.follows .mixedOrders = true) (hc : CallOk P GL call) (hp : PCallOk P GL pcall) {m n : Nat} (hn : n ≤ capT) {c : IR} {tm : List (Nat × V)} {H H' : Heap} {vals : List V} {Q : Ex → St → Prop} (ks : List Nat)
    (hk : keysOk tm = true) (h : runCF own GL call pcall m n c (treeL tm) H (fun t' H' => some (.tuple (ks.map (tget t')), H')) (fun _ _ _ => none) (fun _ _ => none) = some (.tuple vals, H')) (hq : Q .normal ⟨n, mkSt ks vals, H'⟩) : WC P GL c ⟨n, tm, H⟩ Q := by
  obtain ⟨e, tm', t', H2, hs', hw, hk⟩ := runCF_ok hm hc hp hn (Sim.tree hk) h
  cases e with
  | exit i => cases (show (none : Option XR) = some (V.tuple vals, H') from hk)
  | ret => cases (show (none : Option XR) = some (V.tuple vals, H') from hk)
  | normal =>
    have hk : some (V.tuple (ks.map (tget t')), H2) = some (V.tuple vals, H') := hk
    simp only [Option.some.injEq, Prod.mk.injEq, V.tuple.injEq] at hk
    obtain ⟨rfl, rfl⟩ := hk
    refine WC.post (hw.mono ?_)
    rintro e' s' ⟨rfl, rfl⟩
    refine ⟨_, Tidy.weak (fun s => ?_), hq⟩
    rw [hs' s]
    exact mkSt_get s ks
theorem WC.runRet {own : List Nat} {call : CallF} {pcall : PCallF} (hm : P.follows .mixedOrders = true) (hc : CallOk P GL call) (hp : PCallOk P GL pcall) {m n : Nat} (hn : n ≤ capT) {c : IR} {tm : List (Nat × V)} {H H' : Heap} {rs : List IRes} {v r : V}
    (hk : keysOk tm = true) (h : runCF own GL call pcall m n c (treeL tm) H (fun t H => resF rs t H) (fun _ _ _ => none) (fun t H => resF rs t H) = some (v, H')) (hd : deepV H' v = some r) :
    WC P GL c ⟨n, tm, H⟩ (fun e σ => match e with | .exit _ => False | _ => (resV rs σ).bind (deepV σ.hp) = some r) := by
  obtain ⟨e, tm', t', H2, hs', hw, hk⟩ := runCF_ok hm hc hp hn (Sim.tree hk) h
  refine hw.mono ?_
  rintro e' s' ⟨rfl, rfl⟩
  cases e' with
  | normal =>
    obtain ⟨k1, k2⟩ := resF_ok (n := n) hs' (show resF rs t' H2 = some (v, H') from hk)
    simp only at k2; subst k2
    simp only [k1, Option.bind_some, hd]
  | exit i => cases (show (none : Option XR) = some (v, H') from hk)
  | ret =>
    obtain ⟨k1, k2⟩ := resF_ok (n := n) hs' (show resF rs t' H2 = some (v, H') from hk)
    simp only at k2; subst k2
    simp only [k1, Option.bind_some, hd]
theorem RVs.anyOf {g : G} {w : World} : ∀ {as bs : List V} {vs : List Value}, (∀ (i : Nat) (b : V), bs[i]? = some b → b = .any ∨ as[i]? = some b) → as.length = bs.length → RVs g w as vs → RVs g w bs vs
  | [], [], [], _, _, h => h
  | a :: as, b :: bs, v :: vs, hab, hl, h => by
    simp only [RVs] at h ⊢
    refine ⟨?_, RVs.anyOf (fun i c hc => hab (i + 1) c (by simpa using hc)) (by simpa using hl) h.2⟩
    rcases hab 0 b rfl with e | e
    · rw [e]; simp only [RV]
    · simp only [List.getElem?_cons_zero, Option.some.injEq] at e; rw [← e]; exact h.1
  | [], [], _ :: _, _, _, h => by simp only [RVs] at h
  | _ :: _, _ :: _, [], _, _, h => by simp only [RVs] at h
  | [], _ :: _, _, _, hl, _ => by simp at hl
  | _ :: _, [], _, _, hl, _ => by simp at hl
theorem PC.anyOf {f : FuncId} {as bs : List V} {v : V} (h : PC P GL f bs v) (hab : ∀ (i : Nat) (b : V), bs[i]? = some b → b = .any ∨ as[i]? = some b) (hl : as.length = bs.length) : PC P GL f as v :=
  ⟨h.1, fun g w vs hvs => h.2 g w vs (RVs.anyOf hab hl hvs)⟩
end
end Fw

/-
  The quicker run, made ready once for each text of code: what an operation does, as a small function of slots and boxes.
-/
set_option linter.unusedSimpArgs false
set_option linter.unusedVariables false
namespace Fw
open Go
inductive Bx (α : Type) where
  | mk (a : α)
structure Env where
  GL : GLT
  call : CallF
  pcall : PCallF
abbrev VK := V → Heap → Option XR
noncomputable def getC (k : Nat) : Nat → Bx (T → V) :=
  @Nat.rec (fun _ => Nat → Bx (T → V)) (fun i => .mk (fun t => tget t i))
    (fun _ ih i => @Nat.rec (fun _ => Bx (T → V)) (.mk (fun t => @T.rec (fun _ => V) .any (fun _ v _ _ _ => v) t))
      (fun j _ => @Bx.rec (T → V) (fun _ => Bx (T → V)) (fun g => @Nat.rec (fun _ => Bx (T → V)) (.mk (fun t => @T.rec (fun _ => V) .any (fun l _ _ _ _ => g l) t)) (fun _ _ => .mk (fun t => @T.rec (fun _ => V) .any (fun _ _ r _ _ => g r) t)) (Nat.land j 1)) (ih (Nat.shiftRight j 1))) i) k
theorem getC_eq : ∀ (k i : Nat), ∃ g, getC k i = .mk g ∧ ∀ t, g t = tget t i
  | 0, i => ⟨_, rfl, fun _ => rfl⟩
  | k + 1, 0 => ⟨_, rfl, fun t => by cases t <;> rfl⟩
  | k + 1, j + 1 => by
    have h1 : Nat.shiftRight j 1 = j / 2 := by show j >>> 1 = _; simp [Nat.shiftRight_eq_div_pow]
    have h2 : Nat.land j 1 = j % 2 := Nat.and_one_is_mod j
    obtain ⟨g, hg, hg2⟩ := getC_eq k (Nat.shiftRight j 1)
    have h : getC (k + 1) (j + 1) = @Bx.rec (T → V) (fun _ => Bx (T → V)) (fun g => @Nat.rec (fun _ => Bx (T → V)) (.mk (fun t => @T.rec (fun _ => V) .any (fun l _ _ _ _ => g l) t)) (fun _ _ => .mk (fun t => @T.rec (fun _ => V) .any (fun _ _ r _ _ => g r) t)) (Nat.land j 1)) (getC k (Nat.shiftRight j 1)) := rfl
    rw [h, hg]
    rw [h1] at hg2
    rcases Nat.mod_two_eq_zero_or_one j with hj | hj
    · rw [h2, hj]
      refine ⟨_, rfl, fun t => ?_⟩
      cases t with
      | e => rfl
      | n l u r => rw [tget_ns, if_pos hj]; exact hg2 l
    · rw [h2, hj]
      refine ⟨_, rfl, fun t => ?_⟩
      cases t with
      | e => rfl
      | n l u r => rw [tget_ns, if_neg (by omega)]; exact hg2 r
noncomputable def setC (k : Nat) : Nat → Bx (T → V → T) :=
  @Nat.rec (fun _ => Nat → Bx (T → V → T)) (fun i => .mk (fun t _ => t))
    (fun _ ih i => @Nat.rec (fun _ => Bx (T → V → T)) (.mk (fun t v => @T.rec (fun _ => T) (.n .e v .e) (fun l _ r _ _ => .n l v r) t))
      (fun j _ => @Bx.rec (T → V → T) (fun _ => Bx (T → V → T)) (fun g => @Nat.rec (fun _ => Bx (T → V → T))
        (.mk (fun t v => @T.rec (fun _ => T) (.n (g .e v) .any .e) (fun l u r _ _ => .n (g l v) u r) t))
        (fun _ _ => .mk (fun t v => @T.rec (fun _ => T) (.n .e .any (g .e v)) (fun l u r _ _ => .n l u (g r v)) t)) (Nat.land j 1)) (ih (Nat.shiftRight j 1))) i) k
theorem setC_eq : ∀ (k i : Nat), ∃ g, setC k i = .mk g ∧ ∀ t v, g t v = tput k t i v
  | 0, i => ⟨_, rfl, fun _ _ => rfl⟩
  | k + 1, 0 => ⟨_, rfl, fun t v => by cases t <;> rfl⟩
  | k + 1, j + 1 => by
    have h1 : Nat.shiftRight j 1 = j / 2 := by show j >>> 1 = _; simp [Nat.shiftRight_eq_div_pow]
    have h2 : Nat.land j 1 = j % 2 := Nat.and_one_is_mod j
    obtain ⟨g, hg, hg2⟩ := setC_eq k (Nat.shiftRight j 1)
    have h : setC (k + 1) (j + 1) = @Bx.rec (T → V → T) (fun _ => Bx (T → V → T)) (fun g => @Nat.rec (fun _ => Bx (T → V → T))
        (.mk (fun t v => @T.rec (fun _ => T) (.n (g .e v) .any .e) (fun l u r _ _ => .n (g l v) u r) t))
        (fun _ _ => .mk (fun t v => @T.rec (fun _ => T) (.n .e .any (g .e v)) (fun l u r _ _ => .n l u (g r v)) t)) (Nat.land j 1)) (setC k (Nat.shiftRight j 1)) := rfl
    rw [h, hg]
    rw [h1] at hg2
    rcases Nat.mod_two_eq_zero_or_one j with hj | hj
    · rw [h2, hj]
      refine ⟨_, rfl, fun t v => ?_⟩
      cases t with
      | e => rw [tput_es, if_pos hj, ← hg2]
      | n l u r => rw [tput_ns, if_pos hj, ← hg2]
    · rw [h2, hj]
      refine ⟨_, rfl, fun t v => ?_⟩
      cases t with
      | e => rw [tput_es, if_neg (by omega), ← hg2]
      | n l u r => rw [tput_ns, if_neg (by omega), ← hg2]
noncomputable def opdC (x : Opd) : Bx (Env → T → V) :=
  @Opd.rec (fun _ => Bx (Env → T → V)) (fun n => @Bx.rec (T → V) (fun _ => Bx (Env → T → V)) (fun g => .mk (fun _ t => g t)) (getC 12 n)) (fun v => .mk (fun _ _ => v))
    (fun n => .mk (fun E t => evoF E.GL t (.g n))) (fun f => .mk (fun _ _ => .func f [] [])) x
theorem opdC_eq (x : Opd) : ∃ f, opdC x = .mk f ∧ ∀ E t, f E t = evoF E.GL t x := by
  cases x with
  | t n =>
    obtain ⟨g, hg, hg2⟩ := getC_eq 12 n
    have h : opdC (.t n) = @Bx.rec (T → V) (fun _ => Bx (Env → T → V)) (fun g => .mk (fun _ t => g t)) (getC 12 n) := rfl
    rw [h, hg]
    exact ⟨_, rfl, fun E t => hg2 t⟩
  | c v => exact ⟨_, rfl, fun _ _ => rfl⟩
  | g n => exact ⟨_, rfl, fun _ _ => rfl⟩
  | f f => exact ⟨_, rfl, fun _ _ => rfl⟩
noncomputable def argsC (l : List Opd) : Bx (Env → T → List V) :=
  @List.rec Opd (fun _ => Bx (Env → T → List V)) (.mk (fun _ _ => []))
    (fun x _ ih => @Bx.rec (Env → T → V) (fun _ => Bx (Env → T → List V)) (fun f => @Bx.rec (Env → T → List V) (fun _ => Bx (Env → T → List V)) (fun g => .mk (fun E t => f E t :: g E t)) ih) (opdC x)) l
theorem argsC_eq : ∀ (l : List Opd), ∃ f, argsC l = .mk f ∧ ∀ E t, f E t = mlist (evoF E.GL t) l
  | [] => ⟨_, rfl, fun _ _ => rfl⟩
  | x :: l => by
    obtain ⟨f, hf, hf2⟩ := opdC_eq x
    obtain ⟨g, hg, hg2⟩ := argsC_eq l
    have h : argsC (x :: l) = @Bx.rec (Env → T → V) (fun _ => Bx (Env → T → List V)) (fun f => @Bx.rec (Env → T → List V) (fun _ => Bx (Env → T → List V)) (fun g => .mk (fun E t => f E t :: g E t)) (argsC l)) (opdC x) := rfl
    rw [h, hf, hg]
    exact ⟨_, rfl, fun E t => by simp only [mlist, hf2, hg2]⟩
abbrev OC := Env → T → Heap → VK → Option XR
def resK (r : Option (V × Wr)) (H : Heap) (k : VK) : Option XR := match r with
  | some (v, wr) => k v (happ H wr)
  | none => none
def calK (r : Option XR) (k : VK) : Option XR := match r with
  | some (v, H') => k v H'
  | none => none
noncomputable def un1 (x : Opd) (F : (Env → T → V) → OC) : Bx OC := @Bx.rec (Env → T → V) (fun _ => Bx OC) (fun f => .mk (F f)) (opdC x)
noncomputable def un2 (x y : Opd) (F : (Env → T → V) → (Env → T → V) → OC) : Bx OC := @Bx.rec (Env → T → V) (fun _ => Bx OC) (fun f => @Bx.rec (Env → T → V) (fun _ => Bx OC) (fun g => .mk (F f g)) (opdC y)) (opdC x)
theorem un1_eq {x : Opd} {F : (Env → T → V) → OC} : ∃ f, un1 x F = .mk (F f) ∧ ∀ E t, f E t = evoF E.GL t x := by
  obtain ⟨f, hf, hf2⟩ := opdC_eq x
  exact ⟨f, by unfold un1; rw [hf], hf2⟩
theorem un2_eq {x y : Opd} {F : (Env → T → V) → (Env → T → V) → OC} : ∃ f g, un2 x y F = .mk (F f g) ∧ (∀ E t, f E t = evoF E.GL t x) ∧ ∀ E t, g E t = evoF E.GL t y := by
  obtain ⟨f, hf, hf2⟩ := opdC_eq x
  obtain ⟨g, hg, hg2⟩ := opdC_eq y
  exact ⟨f, g, by unfold un2; rw [hf, hg], hf2, hg2⟩
noncomputable def opC (own : List Nat) (dst : Option Nat) (op : IOp) : Bx OC :=
  match op with
  | .mv x => un1 x fun f E t H k => k (f E t) H
  | .load n agg a => un1 a fun f E t H k => resK (eLoad H n agg (f E t)) H k
  | .store n a x => un2 a x fun f g E t H k => resK (eStore H n (f E t) (g E t)) H k
  | .bin op x y => un2 x y fun f g E t H k => resK (binDF op (f E t) (g E t)) H k
  | .eq neg kk x y => un2 x y fun f g E t H k => resK (eEq H neg kk (f E t) (g E t)) H k
  | .un op x => un1 x fun f E t H k => resK (eUn op (f E t)) H k
  | .nilchk x => un1 x fun f E t H k => resK (eNil (f E t)) H k
  | .fld off n agg x => un1 x fun f E t H k => resK (eFld off n agg (f E t)) H k
  | .faddr off n x => un1 x fun f E t H k => resK (eFaddr off n (f E t)) H k
  | .iaddr sz x i => un2 x i fun f g E t H k => resK (eIaddr H sz (f E t) (g E t)) H k
  | .idxS x i => un2 x i fun f g E t H k => resK (eIdxS (f E t) (g E t)) H k
  | .ext x i => un1 x fun f E t H k => resK (eExt (f E t) i) H k
  | .call f args => @Bx.rec (Env → T → List V) (fun _ => Bx OC) (fun a => .mk fun E t H k => calK (E.call f (a E t) H) k) (argsC args)
  | op => .mk fun E t H k => opF own E.GL E.call dst op t H k
theorem resK_eq {r : Option (V × Wr)} {H : Heap} {k : VK} : resK r H k = match r with | some (v, wr) => k v (happ H wr) | none => none := rfl
theorem opC_eq (own : List Nat) (dst : Option Nat) (op : IOp) : ∃ f, opC own dst op = .mk f ∧ ∀ E t H k, f E t H k = opF own E.GL E.call dst op t H k := by
  cases op with
  | mv x => obtain ⟨f, h, hf⟩ := un1_eq (x := x) (F := fun f E t H k => k (f E t) H); exact ⟨_, h, fun E t H k => by simp only [hf]; rfl⟩
  | load n agg a => obtain ⟨f, h, hf⟩ := un1_eq (x := a) (F := fun f E t H k => resK (eLoad H n agg (f E t)) H k); exact ⟨_, h, fun E t H k => by simp only [hf]; rfl⟩
  | store n a x => obtain ⟨f, g, h, hf, hg⟩ := un2_eq (x := a) (y := x) (F := fun f g E t H k => resK (eStore H n (f E t) (g E t)) H k); exact ⟨_, h, fun E t H k => by simp only [hf, hg]; rfl⟩
  | bin op x y => obtain ⟨f, g, h, hf, hg⟩ := un2_eq (x := x) (y := y) (F := fun f g E t H k => resK (binDF op (f E t) (g E t)) H k); exact ⟨_, h, fun E t H k => by simp only [hf, hg]; rfl⟩
  | eq neg kk x y => obtain ⟨f, g, h, hf, hg⟩ := un2_eq (x := x) (y := y) (F := fun f g E t H k => resK (eEq H neg kk (f E t) (g E t)) H k); exact ⟨_, h, fun E t H k => by simp only [hf, hg]; rfl⟩
  | un op x => obtain ⟨f, h, hf⟩ := un1_eq (x := x) (F := fun f E t H k => resK (eUn op (f E t)) H k); exact ⟨_, h, fun E t H k => by simp only [hf]; rfl⟩
  | nilchk x => obtain ⟨f, h, hf⟩ := un1_eq (x := x) (F := fun f E t H k => resK (eNil (f E t)) H k); exact ⟨_, h, fun E t H k => by simp only [hf]; rfl⟩
  | fld off n agg x => obtain ⟨f, h, hf⟩ := un1_eq (x := x) (F := fun f E t H k => resK (eFld off n agg (f E t)) H k); exact ⟨_, h, fun E t H k => by simp only [hf]; rfl⟩
  | faddr off n x => obtain ⟨f, h, hf⟩ := un1_eq (x := x) (F := fun f E t H k => resK (eFaddr off n (f E t)) H k); exact ⟨_, h, fun E t H k => by simp only [hf]; rfl⟩
  | iaddr sz x i => obtain ⟨f, g, h, hf, hg⟩ := un2_eq (x := x) (y := i) (F := fun f g E t H k => resK (eIaddr H sz (f E t) (g E t)) H k); exact ⟨_, h, fun E t H k => by simp only [hf, hg]; rfl⟩
  | idxS x i => obtain ⟨f, g, h, hf, hg⟩ := un2_eq (x := x) (y := i) (F := fun f g E t H k => resK (eIdxS (f E t) (g E t)) H k); exact ⟨_, h, fun E t H k => by simp only [hf, hg]; rfl⟩
  | ext x i => obtain ⟨f, h, hf⟩ := un1_eq (x := x) (F := fun f E t H k => resK (eExt (f E t) i) H k); exact ⟨_, h, fun E t H k => by simp only [hf]; rfl⟩
  | call f args =>
    obtain ⟨a, ha, ha2⟩ := argsC_eq args
    refine ⟨fun E t H k => calK (E.call f (a E t) H) k, ?_, ?_⟩
    · simp only [opC]; rw [ha]
    · intro E t H k
      simp only [ha2]
      rfl
  | _ => exact ⟨_, rfl, fun _ _ _ _ => rfl⟩
abbrev SC := Env → T → Heap → KN → Option XR
noncomputable def putC (n : Nat) (dst : Option Nat) : Bx (V → T → Heap → KN → Option XR) :=
  match dst with
  | none => .mk fun _ t H k => k t H
  | some d => @Bool.rec (fun _ => Bx (V → T → Heap → KN → Option XR)) (.mk fun _ _ _ _ => none) (@Bx.rec (T → V → T) (fun _ => Bx (V → T → Heap → KN → Option XR)) (fun s => .mk fun v t H k => k (s t v) H) (setC 12 d)) (Nat.blt d n)
theorem putC_eq (n : Nat) (dst : Option Nat) : ∃ f, putC n dst = .mk f ∧ ∀ v t H k, f v t H k = putF n dst v t H k := by
  cases dst with
  | none => exact ⟨_, rfl, fun _ _ _ _ => rfl⟩
  | some d =>
    simp only [putC, putF]
    cases h : Nat.blt d n with
    | false => exact ⟨_, rfl, fun _ _ _ _ => rfl⟩
    | true =>
      obtain ⟨s, hs, hs2⟩ := setC_eq 12 d
      simp only [hs]
      exact ⟨_, rfl, fun v t H k => by simp only [hs2]; rfl⟩
noncomputable def guaK (v : V) (skipT skipF : Option XR) (skip : Option XR) : Option XR := match v with
  | .d (.bool b) => @Bool.rec (fun _ => Option XR) skipF skipT b
  | .tuple [] => skip
  | _ => none
noncomputable def stepC (own : List Nat) (n : Nat) (o : IOper) : Bx SC :=
  match o with
  | ⟨dst, op, gd, _⟩ => @Bx.rec OC (fun _ => Bx SC) (fun f => @Bx.rec (V → T → Heap → KN → Option XR) (fun _ => Bx SC) (fun p =>
      match gd with
      | none => .mk fun E t H k => f E t H (fun v H' => p v t H' k)
      | some (d, want) => @Bx.rec (T → V) (fun _ => Bx SC) (fun g => match want with
        | true => .mk fun E t H k => guaK (g t) (f E t H (fun v H' => p v t H' k)) (p (.tuple []) t H k) (p (.tuple []) t H k)
        | false => .mk fun E t H k => guaK (g t) (p (.tuple []) t H k) (f E t H (fun v H' => p v t H' k)) (p (.tuple []) t H k)) (getC 12 d)) (putC n dst)) (opC own dst op)
theorem stepC_eq (own : List Nat) (n : Nat) (o : IOper) : ∃ f, stepC own n o = .mk f ∧ ∀ E t H k, f E t H k = stepF own E.GL E.call n o t H k := by
  obtain ⟨dst, op, gd, af⟩ := o
  obtain ⟨f, hf, hf2⟩ := opC_eq own dst op
  obtain ⟨p, hp, hp2⟩ := putC_eq n dst
  simp only [stepC, hf, hp]
  cases gd with
  | none => exact ⟨_, rfl, fun E t H k => by simp only [stepF, guardF, hf2, hp2]⟩
  | some q =>
    obtain ⟨d, want⟩ := q
    obtain ⟨g, hg, hg2⟩ := getC_eq 12 d
    simp only [hg]
    cases want with
    | true =>
      refine ⟨_, rfl, fun E t H k => ?_⟩
      simp only [stepF, guardF, guaK, hf2, hp2, hg2]
      generalize tget t d = v
      cases v with
      | d x => cases x with
        | bool b => cases b <;> rfl
        | _ => rfl
      | tuple vs => cases vs <;> rfl
      | _ => rfl
    | false =>
      refine ⟨_, rfl, fun E t H k => ?_⟩
      simp only [stepF, guardF, guaK, hf2, hp2, hg2]
      generalize tget t d = v
      cases v with
      | d x => cases x with
        | bool b => cases b <;> rfl
        | _ => rfl
      | tuple vs => cases vs <;> rfl
      | _ => rfl
noncomputable def opsC (own : List Nat) (n : Nat) (l : List IOper) : Bx SC :=
  @List.rec IOper (fun _ => Bx SC) (.mk fun _ t H k => k t H)
    (fun o _ ih => @Bx.rec SC (fun _ => Bx SC) (fun f => @Bx.rec SC (fun _ => Bx SC) (fun g => .mk fun E t H k => f E t H (fun t' H' => g E t' H' k)) ih) (stepC own n o)) l
theorem opsC_eq (own : List Nat) (n : Nat) : ∀ (l : List IOper), ∃ f, opsC own n l = .mk f ∧ ∀ E t H k, f E t H k = runOF own E.GL E.call n l t H k
  | [] => ⟨_, rfl, fun _ _ _ _ => rfl⟩
  | o :: l => by
    obtain ⟨f, hf, hf2⟩ := stepC_eq own n o
    obtain ⟨g, hg, hg2⟩ := opsC_eq own n l
    have h : opsC own n (o :: l) = @Bx.rec SC (fun _ => Bx SC) (fun f => @Bx.rec SC (fun _ => Bx SC) (fun g => .mk fun E t H k => f E t H (fun t' H' => g E t' H' k)) (opsC own n l)) (stepC own n o) := rfl
    rw [h, hf, hg]
    exact ⟨_, rfl, fun E t H k => by simp only [hf2, hg2]; rfl⟩
abbrev CC := Env → T → Heap → KN → (Nat → KN) → KN → Option XR
noncomputable def irC (own : List Nat) (m n : Nat) (c : IR) : Bx CC :=
  @IR.rec (fun _ => Bx CC)
    (.mk fun _ t H kn _ _ => kn t H)
    (fun l => @Bx.rec SC (fun _ => Bx CC) (fun f => .mk fun E t H kn _ _ => f E t H kn) (opsC own n l))
    (fun l => .mk fun E t H kn _ _ => runDTF own E.GL E.call E.pcall n l t H kn)
    (fun _ _ ia ib => @Bx.rec CC (fun _ => Bx CC) (fun f => @Bx.rec CC (fun _ => Bx CC) (fun g => .mk fun E t H kn ke kr => f E t H (fun t' H' => g E t' H' kn ke kr) ke kr) ib) ia)
    (fun c _ _ ia ib => @Bx.rec (Env → T → V) (fun _ => Bx CC) (fun x => @Bx.rec CC (fun _ => Bx CC) (fun f => @Bx.rec CC (fun _ => Bx CC) (fun g => .mk fun E t H kn ke kr => condF (x E t) (f E t H kn ke kr) (g E t H kn ke kr)) ib) ia) (opdC c))
    (fun id _ ib => @Bx.rec CC (fun _ => Bx CC) (fun f => .mk fun E t H kn ke kr => f E t H kn (fun i t' H' => bif Nat.beq i id then kn t' H' else ke i t' H') kr) ib)
    (fun _ ib => @Bx.rec CC (fun _ => Bx CC) (fun f => .mk fun E t H _ ke kr => loopF (f E) m t H ke kr) ib)
    (fun id => .mk fun _ t H _ ke _ => ke id t H)
    (.mk fun _ t H _ _ kr => kr t H) c
theorem irC_eq (own : List Nat) (m n : Nat) : ∀ (c : IR), ∃ f, irC own m n c = .mk f ∧ ∀ E t H kn ke kr, f E t H kn ke kr = runCF own E.GL E.call E.pcall m n c t H kn ke kr
  | .skip => ⟨_, rfl, fun _ _ _ _ _ _ => rfl⟩
  | .region l => by
    obtain ⟨f, hf, hf2⟩ := opsC_eq own n l
    have h : irC own m n (.region l) = @Bx.rec SC (fun _ => Bx CC) (fun f => .mk fun E t H kn _ _ => f E t H kn) (opsC own n l) := rfl
    rw [h, hf]
    exact ⟨_, rfl, fun E t H kn ke kr => by simp only [hf2]; rfl⟩
  | .draw l => ⟨_, rfl, fun _ _ _ _ _ _ => rfl⟩
  | .seq a b => by
    obtain ⟨f, hf, hf2⟩ := irC_eq own m n a
    obtain ⟨g, hg, hg2⟩ := irC_eq own m n b
    have h : irC own m n (.seq a b) = @Bx.rec CC (fun _ => Bx CC) (fun f => @Bx.rec CC (fun _ => Bx CC) (fun g => .mk fun E t H kn ke kr => f E t H (fun t' H' => g E t' H' kn ke kr) ke kr) (irC own m n b)) (irC own m n a) := rfl
    rw [h, hf, hg]
    exact ⟨_, rfl, fun E t H kn ke kr => by simp only [hf2, hg2]; rfl⟩
  | .cond c a b => by
    obtain ⟨x, hx, hx2⟩ := opdC_eq c
    obtain ⟨f, hf, hf2⟩ := irC_eq own m n a
    obtain ⟨g, hg, hg2⟩ := irC_eq own m n b
    have h : irC own m n (.cond c a b) = @Bx.rec (Env → T → V) (fun _ => Bx CC) (fun x => @Bx.rec CC (fun _ => Bx CC) (fun f => @Bx.rec CC (fun _ => Bx CC) (fun g => .mk fun E t H kn ke kr => condF (x E t) (f E t H kn ke kr) (g E t H kn ke kr)) (irC own m n b)) (irC own m n a)) (opdC c) := rfl
    rw [h, hx, hf, hg]
    exact ⟨_, rfl, fun E t H kn ke kr => by simp only [hx2, hf2, hg2]; rfl⟩
  | .block id b => by
    obtain ⟨f, hf, hf2⟩ := irC_eq own m n b
    have h : irC own m n (.block id b) = @Bx.rec CC (fun _ => Bx CC) (fun f => .mk fun E t H kn ke kr => f E t H kn (fun i t' H' => bif Nat.beq i id then kn t' H' else ke i t' H') kr) (irC own m n b) := rfl
    rw [h, hf]
    exact ⟨_, rfl, fun E t H kn ke kr => by simp only [hf2]; rfl⟩
  | .loop b => by
    obtain ⟨f, hf, hf2⟩ := irC_eq own m n b
    have h : irC own m n (.loop b) = @Bx.rec CC (fun _ => Bx CC) (fun f => .mk fun E t H _ ke kr => loopF (f E) m t H ke kr) (irC own m n b) := rfl
    rw [h, hf]
    refine ⟨_, rfl, fun E t H kn ke kr => ?_⟩
    have e : f E = runCF own E.GL E.call E.pcall m n b := funext fun t => funext fun H => funext fun kn => funext fun ke => funext fun kr => hf2 E t H kn ke kr
    show loopF (f E) m t H ke kr = loopF (runCF own E.GL E.call E.pcall m n b) m t H ke kr
    rw [e]
  | .exit id => ⟨_, rfl, fun _ _ _ _ _ _ => rfl⟩
  | .ret => ⟨_, rfl, fun _ _ _ _ _ _ => rfl⟩
noncomputable def runCC (own : List Nat) (GL : GLT) (call : CallF) (pcall : PCallF) (m n : Nat) (c : IR) (t : T) (H : Heap) (kn : KN) (ke : Nat → KN) (kr : KN) : Option XR :=
  @Bx.rec CC (fun _ => Option XR) (fun f => f ⟨GL, call, pcall⟩ t H kn ke kr) (irC own m n c)
theorem runCC_eq (own : List Nat) (GL : GLT) (call : CallF) (pcall : PCallF) (m n : Nat) (c : IR) : runCC own GL call pcall m n c = runCF own GL call pcall m n c := by
  obtain ⟨f, hf, hf2⟩ := irC_eq own m n c
  funext t H kn ke kr
  unfold runCC
  rw [hf]
  exact hf2 ⟨GL, call, pcall⟩ t H kn ke kr
noncomputable def rawC (owns : FuncId → List Nat) (GL : GLT) (fns : FT IFn) (mk : CallF → CallF) (mkp : CallF → PCallF) (m : Nat) (d : Nat) : CallF :=
  @Nat.rec (fun _ => CallF) (fun _ _ _ => none)
    (fun _ ih f args H => match ftget fns f with
      | none => none
      | some fn => bif Nat.ble args.length fn.ntmps && Nat.ble fn.ntmps capT then
          runCC (owns f) GL (mk ih) (mkp ih) m fn.ntmps fn.body (treeA 0 args .e) H (fun t H => resF fn.res t H) (fun _ _ _ => none) (fun t H => resF fn.res t H)
        else none) d
theorem rawC_eq (owns : FuncId → List Nat) (GL : GLT) (fns : FT IFn) (mk : CallF → CallF) (mkp : CallF → PCallF) (m : Nat) : ∀ d, rawC owns GL fns mk mkp m d = rawG owns GL fns mk mkp m d
  | 0 => rfl
  | d + 1 => by
    have ih := rawC_eq owns GL fns mk mkp m d
    funext f args H
    show (match ftget fns f with
      | none => none
      | some fn => bif Nat.ble args.length fn.ntmps && Nat.ble fn.ntmps capT then
          runCC (owns f) GL (mk (rawC owns GL fns mk mkp m d)) (mkp (rawC owns GL fns mk mkp m d)) m fn.ntmps fn.body (treeA 0 args .e) H (fun t H => resF fn.res t H) (fun _ _ _ => none) (fun t H => resF fn.res t H)
        else none) = (match ftget fns f with
      | none => none
      | some fn => bif Nat.ble args.length fn.ntmps && Nat.ble fn.ntmps capT then
          runCF (owns f) GL (mk (rawG owns GL fns mk mkp m d)) (mkp (rawG owns GL fns mk mkp m d)) m fn.ntmps fn.body (treeA 0 args .e) H (fun t H => resF fn.res t H) (fun _ _ _ => none) (fun t H => resF fn.res t H)
        else none)
    rw [ih]
    simp only [runCC_eq]
end Fw

/-
  Operations by the quicker run, and the code behind them.
-/
set_option linter.unusedSimpArgs false
set_option linter.unusedVariables false
namespace Fw
open Go
section
variable {P : Program} {GL : GLT}
theorem WO.mono {l : List IOper} {σ : St} {Q Q' : St → Prop} (h : WO P GL l σ Q) (hq : ∀ s, Q s → Q' s) : WO P GL l σ Q' := by
  intro ops k h1 g w a hr
  exact wpOps_monoQ (fun e a w hp => postC.mono (fun e s hq' => by cases e with | normal => exact hq _ hq' | exit i => exact hq'.elim | ret => exact hq'.elim) e a w hp) _ _ _ (h ops k h1 g w a hr)
theorem WO.weak {l : List IOper} {n : Nat} {tm tm2 : List (Nat × V)} {H : Heap} {Q : St → Prop} (hw : ∀ s, get tm2 s = get tm s ∨ get tm2 s = .any) (h : WO P GL l ⟨n, tm2, H⟩ Q) : WO P GL l ⟨n, tm, H⟩ Q :=
  fun ops k h1 g w a hr => h ops k h1 g w a (hr.weak hw)
theorem WO.keep {l : List IOper} {n : Nat} {tm : List (Nat × V)} {H : Heap} {Q : St → Prop} (ks : List Nat) (h : WO P GL l ⟨n, keepTm ks tm, H⟩ Q) : WO P GL l ⟨n, tm, H⟩ Q :=
  WO.weak (fun s => get_keepTm ks s tm) h
theorem WC.runRetS {own : List Nat} {call : CallF} {pcall : PCallF} (hm : P.follows .mixedOrders = true) (hc : CallOk P GL call) (hp : PCallOk P GL pcall) {m n : Nat} (hn : n ≤ capT) {c : IR} {tm : List (Nat × V)} {t : T} {H H' : Heap} {rs : List IRes} {v r : V}
    (hs : Sim tm t) (h : runCF own GL call pcall m n c t H (fun t H => resF rs t H) (fun _ _ _ => none) (fun t H => resF rs t H) = some (v, H')) (hd : deepV H' v = some r) :
    WC P GL c ⟨n, tm, H⟩ (fun e σ => match e with | .exit _ => False | _ => (resV rs σ).bind (deepV σ.hp) = some r) := by
  obtain ⟨e, tm', t', H2, hs', hw, hk⟩ := runCF_ok hm hc hp hn hs h
  refine hw.mono ?_
  rintro e' s' ⟨rfl, rfl⟩
  cases e' with
  | normal =>
    obtain ⟨k1, k2⟩ := resF_ok (n := n) hs' (show resF rs t' H2 = some (v, H') from hk)
    simp only at k2; subst k2
    simp only [k1, Option.bind_some, hd]
  | exit i => cases (show (none : Option XR) = some (v, H') from hk)
  | ret =>
    obtain ⟨k1, k2⟩ := resF_ok (n := n) hs' (show resF rs t' H2 = some (v, H') from hk)
    simp only at k2; subst k2
    simp only [k1, Option.bind_some, hd]
theorem WO.runS {own : List Nat} {call : CallF} {pcall : PCallF} (hm : P.follows .mixedOrders = true) (hc : CallOk P GL call) (hp : PCallOk P GL pcall) {m n : Nat} (hn : n ≤ capT) {l : List IOper} {c : IR} {tm : List (Nat × V)} {H H' : Heap} {rs : List IRes} {v r : V}
    (hk : keysOk tm = true) (h : runOF own GL call n l (treeL tm) H (fun t H => runCF own GL call pcall m n c t H (fun t H => resF rs t H) (fun _ _ _ => none) (fun t H => resF rs t H)) = some (v, H')) (hd : deepV H' v = some r) :
    WO P GL l ⟨n, tm, H⟩ (fun s => WC P GL c s (fun e σ => match e with | .exit _ => False | _ => (resV rs σ).bind (deepV σ.hp) = some r)) := by
  obtain ⟨tm', t', H2, hs', hw, hk'⟩ := runOF_ok hc hn (Sim.tree hk) h
  refine hw.mono ?_
  rintro s rfl
  exact WC.runRetS hm hc hp hn hs' hk' hd
theorem WO.runK {own : List Nat} {call : CallF} (hc : CallOk P GL call) {n : Nat} (hn : n ≤ capT) {l : List IOper} {tm : List (Nat × V)} {H H' : Heap} {vals : List V} {Q : St → Prop} (ks : List Nat)
    (hk : keysOk tm = true) (h : runOF own GL call n l (treeL tm) H (fun t' H' => some (.tuple (ks.map (tget t')), H')) = some (.tuple vals, H')) (hq : ∀ tm', (∀ s, get (mkSt ks vals) s = get tm' s ∨ get (mkSt ks vals) s = .any) → Q ⟨n, tm', H'⟩) : WO P GL l ⟨n, tm, H⟩ Q := by
  obtain ⟨tm', t', H2, hs', hw, hk'⟩ := runOF_ok hc hn (Sim.tree hk) h
  simp only [Option.some.injEq, Prod.mk.injEq, V.tuple.injEq] at hk'
  obtain ⟨rfl, rfl⟩ := hk'
  refine hw.mono ?_
  rintro s rfl
  refine hq tm' (fun s => ?_)
  rw [hs' s]
  exact mkSt_get s ks
noncomputable def runOC (own : List Nat) (GL : GLT) (call : CallF) (pcall : PCallF) (n : Nat) (l : List IOper) (t : T) (H : Heap) (k : KN) : Option XR :=
  @Bx.rec SC (fun _ => Option XR) (fun f => f ⟨GL, call, pcall⟩ t H k) (opsC own n l)
theorem runOC_eq (own : List Nat) (GL : GLT) (call : CallF) (pcall : PCallF) (n : Nat) (l : List IOper) : runOC own GL call pcall n l = runOF own GL call n l := by
  obtain ⟨f, hf, hf2⟩ := opsC_eq own n l
  funext t H k
  unfold runOC
  rw [hf]
  exact hf2 ⟨GL, call, pcall⟩ t H k
end
end Fw
