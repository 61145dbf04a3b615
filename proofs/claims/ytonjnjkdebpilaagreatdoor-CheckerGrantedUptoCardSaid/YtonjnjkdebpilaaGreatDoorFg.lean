/-
  Calls that hand back a row known to be nil.
-/
import Derived.Test.YtonjnjkdebpilaaGreatDoorFf

set_option linter.unusedSimpArgs false
set_option linter.unusedVariables false
namespace Fw
open Go
section
variable {P : Program} {GL : GLT}
mutual
def refsV : V → List Nat
  | .sl b _ _ _ _ => [b]
  | .agg cs => refsVL cs
  | .tuple vs => refsVL vs
  | _ => []
def refsVL : List V → List Nat
  | [] => []
  | v :: vs => refsV v ++ refsVL vs
end
end
end Fw

/-
  Loops over states told by data, and a row's element at an open place.
-/
namespace Fw
open Go
section
variable {P : Program} {GL : GLT}
def LQ (P : Program) (GL : GLT) (K : List Fr) (Q : Ex → St → Prop) (R : St → Prop) : Ex → St → Prop
  | .normal, s => R s
  | e, s => KQ P GL K Q e s
def freeK (i : Nat) : List Fr → Bool
  | [] => true
  | .block j :: K => !Nat.beq i j && freeK i K
  | _ :: K => freeK i K
theorem KQ.exit {i : Nat} : ∀ {K : List Fr} {Q : Ex → St → Prop} {σ : St}, freeK i K = true → Q (.exit i) σ → KQ P GL K Q (.exit i) σ
  | [], _, _, _, h => h
  | .seq _ :: K, _, _, hf, h => KQ.exit (K := K) hf h
  | .block j :: K, _, _, hf, h => by
    simp only [freeK, Bool.and_eq_true, Bool.not_eq_true'] at hf
    exact BlockQ.other (fun e => by simp_all) (KQ.exit (K := K) hf.2 h)
  | .loop _ _ :: K, _, _, hf, h => KQ.exit (K := K) hf h
theorem CG.exitL {i : Nat} {K K1 : List Fr} {n : Nat} {tm : List (Nat × V)} {H : Heap} {Q : Ex → St → Prop} {R : St → Prop} (hf : freeK i K1 = true) (h : CG P GL (.out (.exit i)) K n tm H Q) : CG P GL (.code (.exit i)) K1 n tm H (LQ P GL K Q R) := WC.exit (KQ.exit hf h)
theorem CG.retL {K K1 : List Fr} {n : Nat} {tm : List (Nat × V)} {H : Heap} {rs : List IRes} {v v' : V} {R : St → Prop} (h : (resV rs ⟨n, tm, H⟩).bind (deepV H) = some v') (e : v' = v) : CG P GL (.code .ret) K1 n tm H (LQ P GL K (RetQ rs v) R) :=
  WC.ret (KQ.ret (show KQ P GL K (RetQ rs v) .ret _ from KQ.ret (RetQ.ret h e)))
theorem CG.endL {l : List IOper} {K : List Fr} {n : Nat} {tm : List (Nat × V)} {H : Heap} {Q : Ex → St → Prop} {R : St → Prop} (hl : l.length = 0) (h : R ⟨n, tm, H⟩) : CG P GL (.ops l) [] n tm H (LQ P GL K Q R) := by
  cases l with
  | nil => exact WO.nil h
  | cons o l => simp at hl
theorem CG.loopA {α : Type} (I : α → List (Nat × V)) (J : α → Heap) (pre : α → Prop) (μ : α → Nat) (a : α) (h0 : pre a) {b : IR} {K : List Fr} {n : Nat} {tm : List (Nat × V)} {H : Heap} {Q : Ex → St → Prop}
    (hs : Tidy H.length ⟨n, tm, H⟩ ⟨n, I a, J a⟩)
    (h : ∀ a, pre a → CG P GL (.code b) [] n (I a) (J a) (LQ P GL K Q fun s => ∃ a', pre a' ∧ μ a' < μ a ∧ Tidy (J a).length s ⟨n, I a', J a'⟩)) : CG P GL (.code (.loop b)) K n tm H Q := by
  refine WC.loopT (α := {a : α // pre a}) (fun a => ⟨n, I a.1, J a.1⟩) (fun a => μ a.1) (fun a => ?_) ⟨a, h0⟩ hs
  refine WC.mono (h a.1 a.2) fun e s hq => ?_
  cases e with
  | normal =>
    obtain ⟨a', h1, h2, h3⟩ := hq
    exact ⟨⟨a', h1⟩, h2, h3⟩
  | exit i => exact hq
  | ret => exact hq
theorem CG.idx {d : Nat} {g : Option (Nat × Bool)} {af : List Nat} {l : List IOper} {K : List Fr} {n : Nat} {tm : List (Nat × V)} {H : Heap} {Q : Ex → St → Prop} {sz : Nat} {x i : Opd} {es : List (List D)} {j : Nat} {e : List D}
    (he : es[j]? = some e) (ho : l.head? = some ⟨some d, .iaddr sz x i, g, af⟩) (hg : guardB g tm = some true) (hx : evo GL tm x = .d (.list es)) (hi : natOf (evo GL tm i) = some j)
    (hd : (Nat.blt d n && Nat.beq e.length sz) = true) (hq : CG P GL (.ops (l.drop 1)) K n (put tm d (.cptr e)) H Q) : CG P GL (.ops l) K n tm H Q := by
  rw [Bool.and_eq_true] at hd
  refine WO.head ho (WO.eff (v := .cptr e) (wr := none) (σ' := ⟨n, put tm d (.cptr e), H⟩) hg ?_ ?_ hq)
  · simp_all[eff,cond_true]
  · show St.put ⟨n, tm, H⟩ (some d) _ (happ H none) = _
    rw [stput_some, if_pos (by simp_all)]; rfl
theorem CG.pcG {d : Nat} {g : Option (Nat × Bool)} {af : List Nat} {l : List IOper} {K : List Fr} {n : Nat} {tm : List (Nat × V)} {H : Heap} {Q : Ex → St → Prop} {f : FuncId} {args : List Opd} {vs : List V} {v : V} (h : PC P GL f vs v) (ho : l.head? = some ⟨some d, .call f args, g, af⟩) (hg : guardB g tm = some true)
    (ha : mlist (evo GL tm) args = vs) (hd : Nat.blt d n = true) (hq : CG P GL (.ops (l.drop 1)) K n (put tm d v) H Q) : CG P GL (.ops l) K n tm H Q := by
  refine WO.head ho (WO.callP h rfl hg ha (σ' := ⟨n, put tm d v, H⟩) ?_ hq)
  simp_all[stput_some]
theorem CG.idxS {d : Nat} {g : Option (Nat × Bool)} {af : List Nat} {l : List IOper} {K : List Fr} {n : Nat} {tm : List (Nat × V)} {H : Heap} {Q : Ex → St → Prop} {x i : Opd} {s : List UInt8} {j : Nat} {b : UInt8}
    (he : s[j]? = some b) (ho : l.head? = some ⟨some d, .idxS x i, g, af⟩) (hg : guardB g tm = some true) (hx : evo GL tm x = .d (.str s)) (hi : natOf (evo GL tm i) = some j)
    (hd : Nat.blt d n = true) (hq : CG P GL (.ops (l.drop 1)) K n (put tm d (.d (.int .u8 b.toNat))) H Q) : CG P GL (.ops l) K n tm H Q := by
  refine WO.head ho (WO.eff (v := .d (.int .u8 b.toNat)) (wr := none) (σ' := ⟨n, put tm d (.d (.int .u8 b.toNat)), H⟩) hg ?_ ?_ hq)
  · grind[eff]
  · show St.put ⟨n, tm, H⟩ (some d) _ (happ H none) = _
    rw [stput_some, if_pos (by simp_all)]; rfl
theorem wrapN {m : Nat} (h : m < 9223372036854775808) : wrapF .i64 (.ofNat m) = .ofNat m := by
  simp only [wrapF]; rw [show Nat.blt m 9223372036854775808 = true by simp_all]; rfl
theorem wrapI {i : Nat} (h : i + 1 < 9223372036854775808) : wrapF .i64 (iAdd (.ofNat i) 1) = .ofNat (i + 1) := wrapN h
end
end Fw

/-
  Own rows over open data: rows told by lists, appends, freezing, calls of values, parts of rows, loops over a list.
-/
namespace Fw
open Go
def rowB (cs : List V) : Box := bif cs.isEmpty then .nil else .cells cs
def rowE {α : Type} (enc : α → List D) (l : List α) : Box := rowB ((l.flatMap enc).map .d)
theorem flat_len {α : Type} {enc : α → List D} {sz : Nat} (h : ∀ a, (enc a).length = sz) (l : List α) : (l.flatMap enc).length = l.length * sz := by
  induction l<;>grind
theorem hput_self : ∀ {H : Heap} {b : Nat} {x : Box}, hget H b = some x → hput H b x = H
  | [], _, _, h => by simp [hget] at h
  | y :: H, 0, x, h => by grind[hget,hput]
  | y :: H, b + 1, x, h => by simp only [hget] at h; simp [hput, hput_self h]
theorem appendV_row {H : Heap} {ns sz bytes b len k : Nat} {cs xs : List V} (h0 : 0 < sz) (hH : hget H b = some (rowB cs)) (hl : cs.length = len * sz) (hk : xs.length = k * sz) (hx : xs.all okC = true) (hr : (len + k) * sz * (bytes + 1) ≤ roomB) :
    ∃ wr, appendV H ns sz bytes (.sl b (len * sz) 0 len sz) xs = some (.sl b ((len + k) * sz) 0 (len + k) sz, wr) ∧ happ H wr = hput H b (rowB (cs ++ xs)) := by
  have h1 : Nat.beq sz 0 = false := beq_ff (by omega)
  have h2 : Nat.beq (xs.length % sz) 0 = true := by simp_all
  have hdiv : xs.length / sz = k := by simp_all
  have hsum : len * sz + xs.length = (len + k) * sz := by grind
  unfold appendV
  simp only [h1, h2, hx, Bool.not_true, cond_false, Nat.beq_refl, cond_true, hH]
  cases cs with
  | nil =>
    have hlen : len = 0 := by
      simp at hl
      rcases Nat.mul_eq_zero.1 hl.symm with h | h
      all_goals grind
    subst hlen
    simp only [rowB, List.isEmpty_nil, cond_true, Nat.zero_mul, Nat.beq_refl, Bool.and_self, List.nil_append]
    cases xs with
    | nil =>
      have : k = 0 := by
        simp_all
      subst this
      refine ⟨none, by simp, ?_⟩
      simp only [happ, List.isEmpty_nil, cond_true]
      exact (hput_self (by rw [hH]; rfl)).symm
    | cons x xs =>
      refine ⟨some (b, .cells (x :: xs)), ?_, by simp [happ]⟩
      have hb : Nat.ble (k * sz * (bytes + 1)) roomB = true := by simp_all
      grind
  | cons c cs =>
    simp only [rowB, List.isEmpty_cons, cond_false, hl, Nat.beq_refl, Bool.true_and, Bool.and_true, hsum]
    have : Nat.ble ((len + k) * sz * (bytes + 1)) roomB = true := by simp_all
    simp only [this, cond_true, hdiv, List.cons_append, List.isEmpty_cons, cond_false]
    grind[happ]
theorem sliceC_map {α : Type} {enc : α → List D} {sz : Nat} (h : ∀ a, (enc a).length = sz) (H : Heap) (l : List α) : sliceC H sz (.d (.list (l.map enc))) = some ((l.flatMap enc).map .d) := by
  have : (l.map enc).all (fun e => Nat.beq e.length sz) = true := by
    simp_all
  simp only [sliceC, this, cond_true]
  grind
mutual
def noref (b : Nat) : V → Bool
  | .ptr c _ _ => !Nat.beq c b
  | .sl c _ _ _ _ => !Nat.beq c b
  | .map c => !Nat.beq c b
  | .iter c _ => !Nat.beq c b
  | .yld c => !Nat.beq c b
  | .func _ a c => norefL b a && norefL b c
  | .iface _ v => noref b v
  | .agg cs => norefL b cs
  | .tuple vs => norefL b vs
  | _ => true
def norefL (b : Nat) : List V → Bool
  | [] => true
  | v :: vs => noref b v && norefL b vs
end
mutual
theorem frzV_noref {b : Nat} {ds : List D} : ∀ (v : V), noref b v = true → frzV b ds v = v
  | .ptr c _ _, h => by simp_all[noref,frzV,cond_false]
  | .sl c _ _ _ _, h => by simp_all[noref,frzV,cond_false]
  | .map c, h => by simp_all[noref,frzV,cond_false]
  | .iter c _, h => by simp_all[noref,frzV,cond_false]
  | .yld c, h => by simp_all[noref,frzV,cond_false]
  | .func _ a c, h => by simp only [noref, Bool.and_eq_true] at h; simp only [frzV, frzL_noref a h.1, frzL_noref c h.2]
  | .iface _ v, h => by simp only [noref] at h; simp only [frzV, frzV_noref v h]
  | .agg cs, h => by simp only [noref] at h; simp only [frzV, frzL_noref cs h]
  | .tuple vs, h => by simp only [noref] at h; simp only [frzV, frzL_noref vs h]
  | .any, _ => by simp only [frzV]
  | .d _, _ => by simp only [frzV]
  | .full _, _ => by simp only [frzV]
  | .nils, _ => by simp only [frzV]
  | .nilp, _ => by simp only [frzV]
  | .cptr _, _ => by simp only [frzV]
  | .nilm, _ => by simp only [frzV]
  | .nilf, _ => by simp only [frzV]
  | .someIface, _ => by simp only [frzV]
  | .nili, _ => by simp only [frzV]
theorem frzL_noref {b : Nat} {ds : List D} : ∀ (l : List V), norefL b l = true → frzL b ds l = l
  | [], _ => by simp only [frzL]
  | v :: vs, h => by simp only [norefL, Bool.and_eq_true] at h; simp only [frzL, frzV_noref v h.1, frzL_noref vs h.2]
end
def boxNoref (b : Nat) : Option Box → Prop
  | some (.cells cs) => norefL b cs = true
  | some (.map es) => es.all (fun p => noref b p.2) = true
  | some (.loop _ tm _ _ _ _) => tm.all (fun p => noref b p.2) = true
  | _ => True
def NoRefs (b : Nat) : Nat → Heap → Prop
  | _, [] => True
  | i, x :: H => (i = b ∨ boxNoref b x) ∧ NoRefs b (i + 1) H
theorem frzBox_noref {b : Nat} {ds : List D} {x : Box} (h : boxNoref b (some x)) : frzBox b ds x = x := by
  cases x with
  | cells cs => simp only [boxNoref] at h; simp only [frzBox, frzL_noref cs h]
  | map es =>
    simp only [boxNoref, List.all_eq_true] at h
    simp only [frzBox, Box.map.injEq]
    conv => rhs; rw [← List.map_id es]
    refine List.map_congr_left fun p hp => ?_
    rw [frzV_noref _ (h p hp)]; rfl
  | loop n tm ps ca cb st =>
    simp only [boxNoref, List.all_eq_true] at h
    simp only [frzBox, Box.loop.injEq, true_and, and_true]
    conv => rhs; rw [← List.map_id tm]
    refine List.map_congr_left fun p hp => ?_
    rw [frzV_noref _ (h p hp)]; rfl
  | _ => simp only [frzBox]
theorem frzH_noref {b : Nat} {ds : List D} : ∀ (H : Heap) (i : Nat), NoRefs b i H → frzH b ds i H = if i ≤ b then H.set (b - i) none else H
  | [], i, _ => by simp [frzH]
  | x :: H, i, h => by
    simp only [NoRefs] at h
    simp only [frzH, frzH_noref H (i + 1) h.2]
    by_cases e : i = b
    · subst e
      rw [Nat.beq_refl, cond_true, if_neg (by omega), if_pos (Nat.le_refl i), Nat.sub_self]; rfl
    · rw [beq_ff e, cond_false]
      have hb : boxNoref b x := h.1.resolve_left e
      have hx : x.map (frzBox b ds) = x := by
        cases x with
        | none => rfl
        | some x => rw [Option.map_some, frzBox_noref hb]
      rw [hx]
      by_cases hlt : i ≤ b
      · rw [if_pos (by omega), if_pos hlt, show b - i = b - (i + 1) + 1 by omega]; rfl
      grind
def forget (b : Nat) (tm : List (Nat × V)) : List (Nat × V) := tm.map fun p => (p.1, bif noref b p.2 then p.2 else .any)
theorem get_forget (b : Nat) (tm : List (Nat × V)) (t : Nat) : get (forget b tm) t = bif noref b (get tm t) then get tm t else .any :=
  get_map (fun v => bif noref b v then v else .any) rfl tm t
theorem chunk_flat {α : Type} {enc : α → List D} {sz : Nat} (h : ∀ a, (enc a).length = sz) : ∀ (l : List α), chunk sz l.length (l.flatMap enc) = l.map enc
  | [] => rfl
  | a :: l => by
    simp only [List.length_cons, chunk, List.flatMap_cons, List.map_cons]
    rw [List.take_append_of_le_length (by grind), ← h a, List.take_length, List.drop_append_of_le_length (by omega), List.drop_length, List.nil_append, h a, chunk_flat h l]
theorem dcells_d : ∀ (l : List D), dcells (l.map .d) = some l
  | [] => rfl
  | d :: l => by simp only [List.map_cons, dcells, dcells_d l, Option.map_some]
theorem boxD_row {α : Type} {enc : α → List D} {H : Heap} {b : Nat} {l : List α} (h : hget H b = some (rowE enc l)) : boxD H b = some (l.flatMap enc) := by
  unfold boxD
  rw [h]
  unfold rowE rowB
  cases hl : l.flatMap enc with
  | nil => rfl
  | cons d ds => simp; rw [← List.map_cons, dcells_d]
section
variable {P : Program} {GL : GLT}
theorem okBox_all {g : G} {w : World} {H : Heap} (hh : HeapOK g w H) : H.all okBox = true := by
  have : ∀ (H' : Heap), (∀ b y, hget H' b = some y → okBox (some y) = true) → H'.all okBox = true := by
    intro H'
    induction H' with
    | nil => grind
    | cons x H' ih =>
      intro h
      simp only [List.all_cons, Bool.and_eq_true]
      refine ⟨?_, ih fun b y hy => h (b + 1) y hy⟩
      cases x with
      | none => rfl
      | some y => exact h 0 y rfl
  refine this H fun b y hy => ?_
  obtain ⟨x, hx⟩ := hh.back b y hy
  obtain ⟨_, y', hy', hr⟩ := hh.live b x hx
  rw [hy] at hy'; simp at hy'; subst hy'
  cases y with
  | cells cs =>
    cases x with
    | cells _ _ _ => simp only [RB] at hr; exact hr.2.1
    | _ => grind[RB]
  | _ => rfl
theorem all_set_none {H : Heap} {k : Nat} (h : H.all okBox = true) : (H.set k none).all okBox = true := by
  induction H generalizing k with
  | nil => simp
  | cons x H ih =>
    simp only [List.all_cons, Bool.and_eq_true] at h
    cases k with
    | zero => simp only [List.set_cons_zero, List.all_cons, h.2]; rfl
    | succ k => grind
theorem Tidy.frzE {α : Type} (enc : α → List D) (as : List α) {m n sz : Nat} {tm tm' : List (Nat × V)} {H H' : Heap} (b s : Nat) (hsz : ∀ a, (enc a).length = sz) (hs : get tm s = .sl b (as.length * sz) 0 as.length sz)
    (hH : hget H b = some (rowE enc as)) (hno : NoRefs b 0 H) (e1 : put (forget b tm) s (.d (.list (as.map enc))) = tm') (e2 : H.set b none = H') : Tidy m ⟨n, tm, H⟩ ⟨n, tm', H'⟩ := by
  intro GL g w a hr
  have hf := frzH_noref (ds := as.flatMap enc) H 0 hno
  rw [if_pos (Nat.zero_le _), Nat.sub_zero] at hf
  have hfz : frzSt b ⟨n, tm, H⟩ = some ⟨n, tm.map fun p => (p.1, frzV b (as.flatMap enc) p.2), H'⟩ := by
    unfold frzSt
    rw [boxD_row hH]
    simp only [hf]
    rw [all_set_none (okBox_all hr.heap), cond_true, e2]
  refine (Tidy.trans (Tidy.frz hfz) (Tidy.weak fun t => ?_)) GL g w a hr
  subst e1
  rw [get_map (frzV b (as.flatMap enc)) (by simp only [frzV]), get_put]
  by_cases ht : t = s
  · subst ht
    rw [if_pos rfl, hs]
    left
    have hle : Nat.ble (0 + as.length * sz) (as.length * sz) = true := by simp_all
    simp only [frzV, Nat.beq_refl, cond_true, flat_len hsz, hle, Bool.and_self, List.drop_zero, chunk_flat hsz]
  · rw [if_neg ht, get_forget]
    cases hn : noref b (get tm t) with
    | true => left; rw [cond_true, frzV_noref _ hn]
    | false => right; rfl
theorem hget_snoc (H : Heap) (x : Option Box) (b : Nat) : hget (H ++ [x]) b = if b = H.length then x else hget H b := by
  rw [hget_app]
  by_cases h : b < H.length
  · grind
  · rw [if_neg h]
    by_cases e : b = H.length
    · subst e; rw [if_pos rfl, Nat.sub_self]; rfl
    · rw [if_neg e, hget_ge (by omega : H.length ≤ b)]
      exact hget_ge (by simp; omega)
def G.addNil (g : G) (b : Nat) : G := ⟨fun c => g.dom c ∨ c = b, fun c => if c = b then some .nil else g.γ c, g.fo, g.base⟩
theorem Ext.addNil {g : G} {w : World} {b : Nat} (h : ¬ g.dom b) : Ext g w (g.addNil b) w :=
  ⟨rfl, rfl, rfl, Nat.le_refl _, fun k hk => ⟨⟨hk.1, hk.2.1, fun c x hx ho => by
    simp only [G.addNil] at hx
    split at hx
    · simp at hx; subst hx; cases ho
    · exact hk.2.2 c x hx ho⟩, rfl⟩, fun _ hd => .inl hd, fun c hd => by
    simp only [G.addNil]
    rw [if_neg (fun e => h (by grind))]
    exact GB.step.refl _, rfl, rfl, fun _ _ => rfl⟩
theorem HeapOK.addNil {g : G} {w : World} {H : Heap} (hh : HeapOK g w H) : HeapOK (g.addNil H.length) w (H ++ [some .nil]) := by
  have hnd : ¬ g.dom H.length := fun h => Nat.lt_irrefl _ (hh.dom _ h)
  have he : Ext g w (g.addNil H.length) w := Ext.addNil hnd
  refine ⟨fun b hb => ?_, fun b x hx => ?_, fun b y hy => ?_, fun b b' x x' k hx hx' hk hk' => ?_, fun k hk => ?_⟩
  · simp only [G.addNil] at hb
    simp
    rcases hb with hb | hb
    · have := hh.dom b hb; omega
    · omega
  · simp only [G.addNil] at hx ⊢
    split at hx
    · rename_i e; subst e
      simp at hx; subst hx
      simp_all[hget_snoc,RB]
    · rename_i e
      obtain ⟨h1, y, h2, h3⟩ := hh.live b x hx
      exact ⟨.inl h1, y, by grind[hget_snoc], h3.ext he (fun k _ => rfl)⟩
  · rw [hget_snoc] at hy
    simp only [G.addNil]
    split at hy
    · simp_all
    · rename_i e
      obtain ⟨x, hx⟩ := hh.back b y hy
      grind
  · simp only [G.addNil] at hx hx'
    split at hx
    · simp at hx; subst hx; cases hk
    · split at hx'
      · simp at hx'; subst hx'; cases hk'
      · exact hh.inj b b' x x' k hx hx' hk hk'
  · refine ⟨(hh.fo k hk).1, fun b x hx => ?_⟩
    simp only [G.addNil] at hx
    split at hx
    · simp at hx; subst hx; intro h; cases h
    · exact (hh.fo k hk).2 b x hx
theorem Tidy.nilS {m n : Nat} {tm tm' : List (Nat × V)} {H : Heap} (s sz : Nat) (hm : m ≤ H.length) (hs : get tm s = .nils) (e1 : put tm s (.sl H.length 0 0 0 sz) = tm') : Tidy m ⟨n, tm, H⟩ ⟨n, tm', H ++ [some .nil]⟩ := by
  subst e1
  intro GL g w a hr
  have hnd : ¬ g.dom H.length := fun h => Nat.lt_irrefl _ (hr.heap.dom _ h)
  have he : Ext g w (g.addNil H.length) w := Ext.addNil hnd
  refine ⟨g.addNil H.length, ⟨hr.defers.ext he, hr.size, fun t => ?_, hr.heap.addNil, hr.globs.ext he⟩, fun g0 w0 _ h => h.trans he⟩
  show RV _ _ (get (put tm s _) t) _
  rw [get_put]
  by_cases ht : t = s
  · subst ht
    have := hr.tmps t
    change RV g w (get tm t) _ at this
    rw [hs] at this
    simp only [RV] at this
    rw [if_pos rfl, this]
    simp only [RV]
    refine ⟨⟨rfl, .inr rfl⟩, fun x hx => ?_⟩
    simp only [G.addNil, if_true, Option.some.injEq] at hx; grind
  · rw [if_neg ht]
    exact RV.ext he _ _ (hr.tmps t)
theorem CG.tidy {c : IR} {K : List Fr} {n : Nat} {tm tm' : List (Nat × V)} {H H' : Heap} {Q : Ex → St → Prop} (ht : Tidy H.length ⟨n, tm, H⟩ ⟨n, tm', H'⟩) (h : CG P GL (.code c) K n tm' H' Q) : CG P GL (.code c) K n tm H Q := WC.tidy (σ := ⟨n, tm, H⟩) ht h
theorem WO.tidy {l : List IOper} {σ σ' : St} {Q : St → Prop} (ht : Tidy σ.hp.length σ σ') (h : WO P GL l σ' Q) : WO P GL l σ Q := by
  intro ro ops k hc g w a hr
  obtain ⟨g', h1, h2⟩ := ht GL g w a hr
  exact wpOps_monoQ (postC.ext (h2 g w (fun b hb => hr.heap.dom b hb) (Ext.refl _ _))) _ _ _ (h ro ops k hc g' w a h1)
theorem ltT {a b : Int} (h : iLt a b = true) : a < b := by grind[iLt_eq]
theorem ltF {a b : Int} (h : iLt a b = false) : b ≤ a := by grind[iLt_eq]
theorem eqT {a b : Int} (h : iEq a b = true) : a = b := by grind[iEq_eq]
theorem eqF {a b : Int} (h : iEq a b = false) : a ≠ b := by grind[iEq_eq]
theorem t_lt {a b : Int} (h : a < b) : iLt a b = true := by grind[iLt_eq]
theorem f_lt {a b : Int} (h : b ≤ a) : iLt a b = false := by grind[iLt_eq]
theorem t_eq {a b : Int} (h : a = b) : iEq a b = true := by grind[iEq_eq]
theorem f_eq {a b : Int} (h : a ≠ b) : iEq a b = false := by grind[iEq_eq]
theorem beqT {a b : Int} (h : (a == b) = true) : a = b := by grind
theorem beqF {a b : Int} (h : (a == b) = false) : a ≠ b := by grind
theorem idx_map {α : Type} {enc : α → List D} {l : List α} {i : Nat} {x : α} (h : l[i]? = some x) : (l.map enc)[i]? = some (enc x) := by grind
theorem CG.eff1 {d : Nat} {op : IOp} {g : Option (Nat × Bool)} {af : List Nat} {l : List IOper} {K : List Fr} {n : Nat} {tm : List (Nat × V)} {H H' : Heap} {Q : Ex → St → Prop} {v : V} {wr : Wr}
    (ho : l.head? = some ⟨some d, op, g, af⟩) (hg : guardB g tm = some true) (he : eff (evo GL tm) H H.length op = some (v, wr)) (hH : happ H wr = H') (hd : Nat.blt d n = true)
    (hq : CG P GL (.ops (l.drop 1)) K n (put tm d v) H' Q) : CG P GL (.ops l) K n tm H Q := by
  subst hH
  refine WO.head ho (WO.eff (v := v) (wr := wr) (σ' := ⟨n, put tm d v, happ H wr⟩) hg he ?_ hq)
  simp_all[stput_some]
theorem CG.appE {α : Type} (enc : α → List D) (as ys : List α) {d : Nat} {g : Option (Nat × Bool)} {af : List Nat} {l : List IOper} {K : List Fr} {n : Nat} {tm : List (Nat × V)} {H H' : Heap} {Q : Ex → St → Prop} {sz bytes b : Nat} {x y : Opd} (hsz : ∀ a, (enc a).length = sz) (h0 : Nat.blt 0 sz = true)
    (ho : l.head? = some ⟨some d, .append sz bytes x y, g, af⟩) (hg : guardB g tm = some true) (hx : evo GL tm x = .sl b (as.length * sz) 0 as.length sz) (hH : hget H b = some (rowE enc as)) (hy : sliceC H sz (evo GL tm y) = some ((ys.flatMap enc).map .d))
    (hr : (as.length + ys.length) * sz * (bytes + 1) ≤ 1099511627776) (hd : Nat.blt d n = true) (hH' : hput H b (rowE enc (as ++ ys)) = H')
    (hq : CG P GL (.ops (l.drop 1)) K n (put tm d (.sl b ((as ++ ys).length * sz) 0 (as ++ ys).length sz)) H' Q) : CG P GL (.ops l) K n tm H Q := by
  have h0' : 0 < sz := by simp_all
  obtain ⟨wr, e1, e2⟩ := appendV_row (H := H) (ns := H.length) (sz := sz) (bytes := bytes) (b := b) (len := as.length) (k := ys.length) (cs := (as.flatMap enc).map .d) (xs := (ys.flatMap enc).map .d) h0' hH
    (by simp [flat_len hsz]) (by simp [flat_len hsz]) (by simp [okC]) (by grind[roomB])
  refine CG.eff1 ho hg (v := .sl b ((as ++ ys).length * sz) 0 (as ++ ys).length sz) (wr := wr) ?_ ?_ hd hq
  all_goals grind[eff,List.length_append,rowE]
def bndO (GL : GLT) (tm : List (Nat × V)) (d : Nat) : Option Opd → Option Nat
  | some x => natOf (evo GL tm x)
  | none => some d
theorem bounds_of {tm : List (Nat × V)} {n p q : Nat} {lo hi : Option Opd} (hlo : bndO GL tm 0 lo = some p) (hhi : bndO GL tm n hi = some q) (h1 : p ≤ q) (h2 : q ≤ n) : bounds (evo GL tm) n lo hi = some (p, q) := by
  have k1 : Nat.ble p q = true := by simp_all
  have k2 : Nat.ble q n = true := by simp_all
  cases lo with
  | none =>
    simp only [bndO, Option.some.injEq] at hlo
    cases hi with
    | none => simp only [bndO, Option.some.injEq] at hhi; subst hlo; subst hhi; simp only [bounds, k1, k2, Bool.and_self, cond_true]
    | some y => simp only [bndO] at hhi; subst hlo; simp only [bounds, hhi, k1, k2, Bool.and_self, cond_true]
  | some x =>
    simp only [bndO] at hlo
    cases hi with
    | none => simp only [bndO, Option.some.injEq] at hhi; subst hhi; simp only [bounds, hlo, k1, k2, Bool.and_self, cond_true]
    | some y => simp only [bndO] at hhi; simp only [bounds, hlo, hhi, k1, k2, Bool.and_self, cond_true]
theorem CG.lsl {α : Type} (enc : α → List D) (as : List α) (p q : Nat) {d : Nat} {g : Option (Nat × Bool)} {af : List Nat} {l : List IOper} {K : List Fr} {n : Nat} {tm : List (Nat × V)} {H : Heap} {Q : Ex → St → Prop} {sz : Nat} {x : Opd} {lo hi : Option Opd} (hsz : ∀ a, (enc a).length = sz)
    (ho : l.head? = some ⟨some d, .lslice sz x lo hi, g, af⟩) (hg : guardB g tm = some true) (hx : evo GL tm x = .d (.list (as.map enc))) (hlo : bndO GL tm 0 lo = some p) (hhi : bndO GL tm (as.map enc).length hi = some q)
    (hpq : p ≤ q ∧ q ≤ as.length) (hd : Nat.blt d n = true) (hq : CG P GL (.ops (l.drop 1)) K n (put tm d (.d (.list (((as.take q).drop p).map enc)))) H Q) : CG P GL (.ops l) K n tm H Q := by
  have hall : (as.map enc).all (fun e => Nat.beq e.length sz) = true := by
    simp_all
  have hb : bounds (evo GL tm) (as.map enc).length lo hi = some (p, q) := bounds_of hlo hhi hpq.1 (by grind)
  refine CG.eff1 ho hg (v := .d (.list (((as.take q).drop p).map enc))) (wr := none) ?_ rfl hd hq
  simp only [eff, hx, hall, cond_true, hb, Option.map_some, List.map_drop, List.map_take]
theorem CG.ssl (p q : Nat) {d : Nat} {g : Option (Nat × Bool)} {af : List Nat} {l : List IOper} {K : List Fr} {n : Nat} {tm : List (Nat × V)} {H : Heap} {Q : Ex → St → Prop} {x : Opd} {s : List UInt8} {lo hi : Option Opd}
    (ho : l.head? = some ⟨some d, .sslice x lo hi, g, af⟩) (hg : guardB g tm = some true) (hx : evo GL tm x = .d (.str s)) (hlo : bndO GL tm 0 lo = some p) (hhi : bndO GL tm s.length hi = some q)
    (hpq : p ≤ q ∧ q ≤ s.length) (hd : Nat.blt d n = true) (hq : CG P GL (.ops (l.drop 1)) K n (put tm d (.d (.str ((s.take q).drop p)))) H Q) : CG P GL (.ops l) K n tm H Q := by
  have hb : bounds (evo GL tm) s.length lo hi = some (p, q) := bounds_of hlo hhi hpq.1 hpq.2
  refine CG.eff1 ho hg (v := .d (.str ((s.take q).drop p))) (wr := none) ?_ rfl hd hq
  grind[eff]
theorem CG.pcv {d : Nat} {g : Option (Nat × Bool)} {af : List Nat} {l : List IOper} {K : List Fr} {n : Nat} {tm : List (Nat × V)} {H : Heap} {Q : Ex → St → Prop} {f : FuncId} {first cap : List V} {x : Opd} {args : List Opd} {vs : List V} {v : V} (h : PC P GL f vs v) (ho : l.head? = some ⟨some d, .callv x args, g, af⟩) (hg : guardB g tm = some true)
    (hx : evo GL tm x = .func f first cap) (ha : first ++ mlist (evo GL tm) args ++ cap = vs) (hd : Nat.blt d n = true) (hq : CG P GL (.ops (l.drop 1)) K n (put tm d v) H Q) : CG P GL (.ops l) K n tm H Q := by
  subst ha
  refine WO.head ho (WO.callv rfl hx hg (WF.ofPC h ⟨⟨n, put tm d v, H⟩, ?_, hq⟩))
  simp_all[stput_some]
theorem CG.loopL {α β : Type} (l : List β) (I : Nat → α → List (Nat × V)) (J : Nat → α → Heap) (inv : Nat → α → List β → Prop) (a0 : α) (h0 : inv 0 a0 l) {b : IR} {K : List Fr} {n : Nat} {tm : List (Nat × V)} {H : Heap} {Q : Ex → St → Prop}
    (hs : Tidy H.length ⟨n, tm, H⟩ ⟨n, I 0 a0, J 0 a0⟩)
    (hnil : ∀ i a, i = l.length → l.drop i = [] → inv i a [] → CG P GL (.code b) [] n (I i a) (J i a) (LQ P GL K Q fun _ => False))
    (hcons : ∀ i a x r, l.drop i = x :: r → l[i]? = some x → i < l.length → inv i a (x :: r) → CG P GL (.code b) [] n (I i a) (J i a) (LQ P GL K Q fun s => ∃ a', inv (i + 1) a' r ∧ Tidy (J i a).length s ⟨n, I (i + 1) a', J (i + 1) a'⟩)) : CG P GL (.code (.loop b)) K n tm H Q := by
  refine CG.loopA (α := Nat × α) (fun p => I p.1 p.2) (fun p => J p.1 p.2) (fun p => p.1 ≤ l.length ∧ inv p.1 p.2 (l.drop p.1)) (fun p => l.length - p.1) (0, a0) ⟨Nat.zero_le _, h0⟩ hs ?_
  rintro ⟨i, a⟩ ⟨hi, hinv⟩
  rcases Nat.lt_or_ge i l.length with hlt | hge
  · have hx : l.drop i = l[i] :: l.drop (i + 1) := List.drop_eq_getElem_cons hlt
    have := hcons i a l[i] (l.drop (i + 1)) hx (List.getElem?_eq_getElem hlt) hlt (by grind)
    refine WC.mono this fun e s hq => ?_
    cases e with
    | normal =>
      obtain ⟨a', k1, k2⟩ := hq
      exact ⟨(i + 1, a'), ⟨hlt, k1⟩, by grind, k2⟩
    | exit j => exact hq
    | ret => exact hq
  grind
end
end Fw

/-
  Walks through functions that look into their caller's boxes.
-/
namespace Fw
open Go
def RetW (rs : List IRes) (R : V → Heap → Prop) : Ex → St → Prop
  | .exit _, _ => False
  | _, σ => ∃ v, resV rs σ = some v ∧ R v σ.hp
def Same (v : V) (H : Heap) : V → Heap → Prop := fun r k => r = v ∧ k = H
section
variable {P : Program} {GL : GLT}
theorem CG.startW {f : FuncId} {fn : IFn} {args : List V} {H : Heap} {R : V → Heap → Prop} (hf : compFn P f = some fn) (hca : callable P f = true) (hc : Nat.ble args.length fn.ntmps = true)
    (h : CG P GL (.code fn.body) [] fn.ntmps (mkTm 0 args) H (RetW fn.res R)) : WF P GL f args H R :=
  WF.body hf hca (Nat.le_of_ble_eq_true hc) (WC.mono h fun e s hq => by cases e <;> exact hq)
theorem CG.retW {K : List Fr} {n : Nat} {tm : List (Nat × V)} {H : Heap} {rs : List IRes} {R : V → Heap → Prop} {v' : V} (h : resV rs ⟨n, tm, H⟩ = some v') (e : R v' H) : CG P GL (.code .ret) K n tm H (RetW rs R) :=
  WC.ret (KQ.ret (show RetW rs R .ret _ from ⟨v', h, e⟩))
theorem CG.retLW {K K1 : List Fr} {n : Nat} {tm : List (Nat × V)} {H : Heap} {rs : List IRes} {R : V → Heap → Prop} {v' : V} {S : St → Prop} (h : resV rs ⟨n, tm, H⟩ = some v') (e : R v' H) : CG P GL (.code .ret) K1 n tm H (LQ P GL K (RetW rs R) S) :=
  WC.ret (KQ.ret (show KQ P GL K (RetW rs R) .ret _ from KQ.ret (show RetW rs R .ret _ from ⟨v', h, e⟩)))
theorem CG.wfR {d : Nat} {g : Option (Nat × Bool)} {af : List Nat} {l : List IOper} {K : List Fr} {n : Nat} {tm : List (Nat × V)} {H : Heap} {Q : Ex → St → Prop} {f : FuncId} {args : List Opd} {vs : List V} {R : V → Heap → Prop} (h : WF P GL f vs H R) (ho : l.head? = some ⟨some d, .call f args, g, af⟩) (hg : guardB g tm = some true)
    (ha : mlist (evo GL tm) args = vs) (hd : Nat.blt d n = true) (hq : ∀ v H', R v H' → CG P GL (.ops (l.drop 1)) K n (put tm d v) H' Q) : CG P GL (.ops l) K n tm H Q := by
  subst ha
  refine WO.head ho (WO.call rfl hg (h.mono ?_))
  intro v H' hr
  refine ⟨⟨n, put tm d v, H'⟩, ?_, hq v H' hr⟩
  simp_all[stput_some]
theorem CG.wf {d : Nat} {g : Option (Nat × Bool)} {af : List Nat} {l : List IOper} {K : List Fr} {n : Nat} {tm : List (Nat × V)} {H H' : Heap} {Q : Ex → St → Prop} {f : FuncId} {args : List Opd} {vs : List V} {v : V} (h : WF P GL f vs H (Same v H')) (ho : l.head? = some ⟨some d, .call f args, g, af⟩) (hg : guardB g tm = some true)
    (ha : mlist (evo GL tm) args = vs) (hd : Nat.blt d n = true) (hq : CG P GL (.ops (l.drop 1)) K n (put tm d v) H' Q) : CG P GL (.ops l) K n tm H Q :=
  CG.wfR h ho hg ha hd (by rintro v' H2 ⟨e1, e2⟩; grind)
theorem CG.wfv {d : Nat} {g : Option (Nat × Bool)} {af : List Nat} {l : List IOper} {K : List Fr} {n : Nat} {tm : List (Nat × V)} {H H' : Heap} {Q : Ex → St → Prop} {f : FuncId} {first cap : List V} {x : Opd} {args : List Opd} {vs : List V} {v : V} (h : WF P GL f vs H (Same v H')) (ho : l.head? = some ⟨some d, .callv x args, g, af⟩) (hg : guardB g tm = some true)
    (hx : evo GL tm x = .func f first cap) (ha : first ++ mlist (evo GL tm) args ++ cap = vs) (hd : Nat.blt d n = true) (hq : CG P GL (.ops (l.drop 1)) K n (put tm d v) H' Q) : CG P GL (.ops l) K n tm H Q := by
  subst ha
  refine WO.head ho (WO.callv rfl hx hg (h.mono ?_))
  rintro v' H2 ⟨e1, e2⟩
  rw [e1, e2]
  refine ⟨⟨n, put tm d v, H'⟩, ?_, hq⟩
  simp_all[stput_some]
theorem WF.same {f : FuncId} {args : List V} {v : V} (h : PC P GL f args v) (H : Heap) : WF P GL f args H (Same v H) := WF.ofPC h ⟨rfl, rfl⟩
end
end Fw

/-
  Drawn regions that write nothing, walked operation by operation.
-/
namespace Fw
open Go
theorem refsLtL_d (n : Nat) : ∀ (l : List D), refsLtL n (l.map .d) = true
  | [] => rfl
  | d :: l => by simp; exact refsLtL_d n l
theorem boxLt_row {α : Type} (n : Nat) (enc : α → List D) (l : List α) : boxLt n (rowE enc l) = true := by
  unfold rowE rowB
  cases h : ((l.flatMap enc).map V.d).isEmpty with
  | true => rfl
  | false => simp; exact refsLtL_d n _
def putO (tm : List (Nat × V)) (d : Option Nat) (v : V) : List (Nat × V) := match d with
  | none => tm
  | some d => put tm d v
def AO (P : Program) (GL : GLT) (base : Nat) (Hp : Heap) : Nat → List IOper → List (Nat × V) → (List (Nat × V) → Prop) → Prop
  | _, [], tm, Q => Q tm
  | i, o :: l, tm, Q => ∃ cv v, oneD GL tm Hp (base + i) o cv = some (v, none) ∧ (∀ f args, callE (evo GL tm) o.op = some (f, args) → guardB o.guard tm = some true → CallD P GL f args Hp v) ∧ AO P GL base Hp (i + 1) l (putO tm o.dst v) Q
section
variable {P : Program} {GL : GLT}
theorem AO.runs {base n : Nat} {Hp : Heap} : ∀ {l : List IOper} {i : Nat} {tm : List (Nat × V)} {Q : List (Nat × V) → Prop}, AO P GL base Hp i l tm Q →
    ∃ (cvs : List (Option V)) (rs : List ((V × Wr) × List Nat)) (tm' : List (Nat × V)), cvs.length = l.length ∧ (∀ qc : Nat → Option CV, (∀ j c, cvs[j]? = some c → qc (i + j) = c.map .v) → runD GL base qc i l ⟨n, tm, Hp⟩ = some rs) ∧ noWr rs = true ∧
      foldK (fun _ => true) i l rs ⟨n, tm, Hp⟩ = ⟨n, tm', Hp⟩ ∧ Q tm' ∧
      ∀ k o r, l[k]? = some o → rs[k]? = some r → ∀ f args, callE (evo GL (foldK (fun j => decide (j < i + k)) i l rs ⟨n, tm, Hp⟩).tm) o.op = some (f, args) → guardB o.guard (foldK (fun j => decide (j < i + k)) i l rs ⟨n, tm, Hp⟩).tm = some true →
        ∀ ns, CallR P GL f args (foldK (fun j => decide (j < i + k)) i l rs ⟨n, tm, Hp⟩).hp ns r.1
  | [], i, tm, Q, h => ⟨[], [], tm, rfl, fun _ _ => rfl, rfl, rfl, h, by simp⟩
  | o :: l, i, tm, Q, h => by
    obtain ⟨cv, v, h1, h2, h3⟩ := h
    obtain ⟨cvs, rs, tm', k1, k2, k3, k4, k5, k6⟩ := AO.runs (n := n) h3
    have hput : St.putT ⟨n, tm, Hp⟩ o.dst v Hp = ⟨n, putO tm o.dst v, Hp⟩ := by
      unfold St.putT putO; grind
    refine ⟨cv :: cvs, ((v, none), rds (evo GL tm) o.op) :: rs, tm', by simp [k1], fun qc hqc => ?_, by grind[noWr], ?_, k5, fun k o' r ho hr f args hcall hg => ?_⟩
    · have e0 : qc i = cv.map .v := by simpa using hqc 0 cv rfl
      simp only [runD, e0, oneX_v, h1, happ, hput]
      rw [k2 qc fun j c hj => by have := hqc (j + 1) c (by grind); grind]
    · simp_all[foldK,cond_true,happ]
    · cases k with
      | zero =>
        simp at ho hr
        subst ho; subst hr
        rw [foldK_none (fun j hj => decide_eq_false (by omega))] at hcall hg ⊢
        exact fun ns => (h2 f args hcall hg).toR ns
      | succ k =>
        simp at ho hr
        have e : i + (k + 1) = i + 1 + k := by omega
        have hs : foldK (fun j => decide (j < i + (k + 1))) i (o :: l) (((v, none), rds (evo GL tm) o.op) :: rs) ⟨n, tm, Hp⟩ = foldK (fun j => decide (j < i + 1 + k)) (i + 1) l rs ⟨n, putO tm o.dst v, Hp⟩ := by
          simp only [foldK, e, show decide (i < i + 1 + k) = true by simp; omega, cond_true, happ, hput]
        rw [hs] at hcall hg ⊢
        exact k6 k o' r ho hr f args hcall hg
theorem slotOk_noWr {m : Nat} : ∀ {rs : List ((V × Wr) × List Nat)}, noWr rs = true → slotOk m rs = true
  | [], _ => rfl
  | r :: rs, h => by
    simp only [noWr] at h
    split at h
    · rename_i hr
      simp only [slotOk, List.all_cons, hr, slotOf, Bool.true_and]
      exact slotOk_noWr h
    · cases h
theorem CG.drawA (hm : P.follows .mixedOrders = true) {l : List IOper} {K : List Fr} {n : Nat} {tm : List (Nat × V)} {H : Heap} {Q : Ex → St → Prop} (hst : (statOk l && dstOk n l) = true) (hH : heapLt H.length H = true)
    (h : AO P GL H.length (H ++ List.replicate l.length none) 0 l tm (fun tm' => ∃ keep tm2, keepTm keep tm' = tm2 ∧ tmLt H.length tm2 = true ∧ CG P GL (.out .normal) K n tm2 H Q)) : CG P GL (.code (.draw l)) K n tm H Q := by
  rw [Bool.and_eq_true] at hst
  obtain ⟨cvs, rs, tm', k1, k2, k3, k4, k5, k6⟩ := AO.runs (n := n) h
  have hw : WC P GL (.draw l) ⟨n, tm, H⟩ (fun e s => e = .normal ∧ s = ⟨n, tm', H ++ List.replicate l.length none⟩) := by
    refine WC.draw (σ := ⟨n, tm, H⟩) hm (qc := fun i => ((cvs[i]?).bind id).map .v) (rs := rs) ?_ ?_ hst.2 (slotOk_noWr k3) (fun i o r ho hr f args hcall hg => ?_) ?_
    · exact k2 _ fun j c hj => by simp [hj]
    · simp_all[drawOk,Bool.true_or,Bool.and_self]
    · have := k6 i o r ho hr f args (by rw [Nat.zero_add]; exact hcall)
      simp at this
      exact this hg _
    · refine ⟨rfl, ?_⟩
      exact k4
  show WC P GL (.draw l) ⟨n, tm, H⟩ (KQ P GL K Q)
  refine WC.post (hw.mono ?_)
  rintro e s ⟨rfl, rfl⟩
  obtain ⟨keep, tm2, e1, e2, e3⟩ := k5
  refine ⟨⟨n, tm2, H⟩, Tidy.clean (keep := keep) (Nat.le_refl _) ?_, e3⟩
  unfold cleanSt
  grind
theorem AO.nil {base i : Nat} {Hp : Heap} {l : List IOper} {tm : List (Nat × V)} {Q : List (Nat × V) → Prop} (hl : l.length = 0) (h : Q tm) : AO P GL base Hp i l tm Q := by
  cases l with
  | nil => exact h
  | cons o l => simp at hl
def runA (GL : GLT) (base : Nat) (Hp : Heap) : Nat → Nat → List IOper → List (Nat × V) → Option (List (Nat × V))
  | 0, _, _, tm => some tm
  | k + 1, i, o :: l, tm => match callE (evo GL tm) o.op, guardB o.guard tm with
    | some _, some true => none
    | _, _ => match oneD GL tm Hp (base + i) o none with
      | some (v, none) => runA GL base Hp k (i + 1) l (putO tm o.dst v)
      | _ => none
  | _ + 1, _, [], _ => none
theorem AO.run {base : Nat} {Hp : Heap} {Q : List (Nat × V) → Prop} : ∀ (k : Nat) {i : Nat} {l : List IOper} {tm tm' : List (Nat × V)}, runA GL base Hp k i l tm = some tm' → AO P GL base Hp (i + k) (l.drop k) tm' Q → AO P GL base Hp i l tm Q
  | 0, _, _, _, _, h1, h2 => by grind[runA,Option.some.injEq]
  | k + 1, _, [], _, _, h1, _ => by grind[runA]
  | k + 1, i, o :: l, tm, tm', h1, h2 => by
    have key : ∀ v, oneD GL tm Hp (base + i) o none = some (v, none) → (∀ f args, callE (evo GL tm) o.op = some (f, args) → guardB o.guard tm ≠ some true) → runA GL base Hp k (i + 1) l (putO tm o.dst v) = some tm' → AO P GL base Hp i (o :: l) tm Q := by
      intro v e1 e2 e3
      exact ⟨none, v, e1, fun f args hc hg => absurd hg (e2 f args hc), AO.run k e3 (by grind)⟩
    unfold runA at h1
    grind
theorem AO.head {base i : Nat} {Hp : Heap} {o : IOper} {l : List IOper} {tm : List (Nat × V)} {Q : List (Nat × V) → Prop} (ho : l.head? = some o) (h : AO P GL base Hp i (o :: l.drop 1) tm Q) : AO P GL base Hp i l tm Q := by
  cases l<;>grind
theorem AO.eff1 {base i d : Nat} {Hp : Heap} {op : IOp} {g : Option (Nat × Bool)} {af : List Nat} {l : List IOper} {tm : List (Nat × V)} {Q : List (Nat × V) → Prop} {v : V}
    (ho : l.head? = some ⟨some d, op, g, af⟩) (hg : guardB g tm = some true) (hc : isCall op = none) (he : eff (evo GL tm) Hp (base + i) op = some (v, none)) (hq : AO P GL base Hp (i + 1) (l.drop 1) (put tm d v) Q) : AO P GL base Hp i l tm Q := by
  refine AO.head ho ⟨none, v, ?_, fun f args h => ?_, hq⟩
  · simp only [oneD, hg, callE_none he]; exact he
  · rw [callE_none he] at h; cases h
theorem AO.idx {base i d : Nat} {Hp : Heap} {g : Option (Nat × Bool)} {af : List Nat} {l : List IOper} {tm : List (Nat × V)} {Q : List (Nat × V) → Prop} {sz : Nat} {x k : Opd} {es : List (List D)} {j : Nat} {e : List D}
    (he : es[j]? = some e) (ho : l.head? = some ⟨some d, .iaddr sz x k, g, af⟩) (hg : guardB g tm = some true) (hx : evo GL tm x = .d (.list es)) (hi : natOf (evo GL tm k) = some j)
    (hd : Nat.beq e.length sz = true) (hq : AO P GL base Hp (i + 1) (l.drop 1) (put tm d (.cptr e)) Q) : AO P GL base Hp i l tm Q :=
  AO.eff1 ho hg rfl (by simp_all[eff,cond_true]) hq
theorem AO.idxS {base i d : Nat} {Hp : Heap} {g : Option (Nat × Bool)} {af : List Nat} {l : List IOper} {tm : List (Nat × V)} {Q : List (Nat × V) → Prop} {x k : Opd} {s : List UInt8} {j : Nat} {b : UInt8}
    (he : s[j]? = some b) (ho : l.head? = some ⟨some d, .idxS x k, g, af⟩) (hg : guardB g tm = some true) (hx : evo GL tm x = .d (.str s)) (hi : natOf (evo GL tm k) = some j)
    (hq : AO P GL base Hp (i + 1) (l.drop 1) (put tm d (.d (.int .u8 b.toNat))) Q) : AO P GL base Hp i l tm Q :=
  AO.eff1 ho hg rfl (by grind[eff]) hq
theorem AO.lsl {α : Type} (enc : α → List D) (as : List α) (p q : Nat) {base i d : Nat} {Hp : Heap} {g : Option (Nat × Bool)} {af : List Nat} {l : List IOper} {tm : List (Nat × V)} {Q : List (Nat × V) → Prop} {sz : Nat} {x : Opd} {lo hi : Option Opd} (hsz : ∀ a, (enc a).length = sz)
    (ho : l.head? = some ⟨some d, .lslice sz x lo hi, g, af⟩) (hg : guardB g tm = some true) (hx : evo GL tm x = .d (.list (as.map enc))) (hlo : bndO GL tm 0 lo = some p) (hhi : bndO GL tm (as.map enc).length hi = some q)
    (hpq : p ≤ q ∧ q ≤ as.length) (hq : AO P GL base Hp (i + 1) (l.drop 1) (put tm d (.d (.list (((as.take q).drop p).map enc)))) Q) : AO P GL base Hp i l tm Q := by
  have hall : (as.map enc).all (fun e => Nat.beq e.length sz) = true := by
    simp_all
  have hb : bounds (evo GL tm) (as.map enc).length lo hi = some (p, q) := bounds_of hlo hhi hpq.1 (by grind)
  refine AO.eff1 ho hg rfl (v := .d (.list (((as.take q).drop p).map enc))) ?_ hq
  simp only [eff, hx, hall, cond_true, hb, Option.map_some, List.map_drop, List.map_take]
theorem AO.ssl (p q : Nat) {base i d : Nat} {Hp : Heap} {g : Option (Nat × Bool)} {af : List Nat} {l : List IOper} {tm : List (Nat × V)} {Q : List (Nat × V) → Prop} {x : Opd} {s : List UInt8} {lo hi : Option Opd}
    (ho : l.head? = some ⟨some d, .sslice x lo hi, g, af⟩) (hg : guardB g tm = some true) (hx : evo GL tm x = .d (.str s)) (hlo : bndO GL tm 0 lo = some p) (hhi : bndO GL tm s.length hi = some q)
    (hpq : p ≤ q ∧ q ≤ s.length) (hq : AO P GL base Hp (i + 1) (l.drop 1) (put tm d (.d (.str ((s.take q).drop p)))) Q) : AO P GL base Hp i l tm Q := by
  have hb : bounds (evo GL tm) s.length lo hi = some (p, q) := bounds_of hlo hhi hpq.1 hpq.2
  refine AO.eff1 ho hg rfl (v := .d (.str ((s.take q).drop p))) ?_ hq
  grind[eff]
theorem AO.pcG {base i d : Nat} {Hp : Heap} {g : Option (Nat × Bool)} {af : List Nat} {l : List IOper} {tm : List (Nat × V)} {Q : List (Nat × V) → Prop} {f : FuncId} {args : List Opd} {vs : List V} {v : V} (h : PC P GL f vs v) (ho : l.head? = some ⟨some d, .call f args, g, af⟩) (hg : guardB g tm = some true)
    (ha : mlist (evo GL tm) args = vs) (hq : AO P GL base Hp (i + 1) (l.drop 1) (put tm d v) Q) : AO P GL base Hp i l tm Q := by
  subst ha
  refine AO.head ho ⟨some v, v, ?_, fun f' args' hc _ => ?_, hq⟩
  · grind[oneD,callE]
  · simp at hc
    obtain ⟨rfl, rfl⟩ := hc
    exact h.callD
theorem AO.done {base i : Nat} {Hp : Heap} {l : List IOper} {tm tm2 : List (Nat × V)} {m n : Nat} {K : List Fr} {H : Heap} {Q : Ex → St → Prop} (keep : List Nat) (hl : l.length = 0) (e1 : keepTm keep tm = tm2) (e2 : tmLt m tm2 = true) (hq : CG P GL (.out .normal) K n tm2 H Q) :
    AO P GL base Hp i l tm (fun tm' => ∃ keep tm2, keepTm keep tm' = tm2 ∧ tmLt m tm2 = true ∧ CG P GL (.out .normal) K n tm2 H Q) := AO.nil hl ⟨keep, tm2, e1, e2, hq⟩
end
end Fw

/-
  Own rows that are born as empty ones (and never nil), over open data; nil rows as data.
-/
namespace Fw
open Go
def cellE {α : Type} (enc : α → List D) (l : List α) : Box := .cells ((l.flatMap enc).map .d)
theorem boxLt_cell {α : Type} (n : Nat) (enc : α → List D) (l : List α) : boxLt n (cellE enc l) = true := refsLtL_d n _
section
variable {P : Program} {GL : GLT}
theorem appendV_cell {H : Heap} {ns sz bytes b len k : Nat} {cs xs : List V} (h0 : 0 < sz) (hH : hget H b = some (.cells cs)) (hl : cs.length = len * sz) (hk : xs.length = k * sz) (hx : xs.all okC = true) (hr : (len + k) * sz * (bytes + 1) ≤ roomB) :
    appendV H ns sz bytes (.sl b (len * sz) 0 len sz) xs = some (.sl b ((len + k) * sz) 0 (len + k) sz, some (b, .cells (cs ++ xs))) := by
  have h1 : Nat.beq sz 0 = false := beq_ff (by omega)
  have h2 : Nat.beq (xs.length % sz) 0 = true := by simp_all
  have hdiv : xs.length / sz = k := by simp_all
  have hsum : len * sz + xs.length = (len + k) * sz := by grind
  have hb : Nat.ble ((len + k) * sz * (bytes + 1)) roomB = true := by simp_all
  unfold appendV
  simp only [h1, h2, hx, Bool.not_true, cond_false, Nat.beq_refl, cond_true, hH, hl, Bool.and_true, hsum, hb, hdiv]
theorem CG.appC {α : Type} (enc : α → List D) (as ys : List α) {d : Nat} {g : Option (Nat × Bool)} {af : List Nat} {l : List IOper} {K : List Fr} {n : Nat} {tm : List (Nat × V)} {H H' : Heap} {Q : Ex → St → Prop} {sz bytes b : Nat} {x y : Opd} (hsz : ∀ a, (enc a).length = sz) (h0 : Nat.blt 0 sz = true)
    (ho : l.head? = some ⟨some d, .append sz bytes x y, g, af⟩) (hg : guardB g tm = some true) (hx : evo GL tm x = .sl b (as.length * sz) 0 as.length sz) (hH : hget H b = some (cellE enc as)) (hy : sliceC H sz (evo GL tm y) = some ((ys.flatMap enc).map .d))
    (hr : (as.length + ys.length) * sz * (bytes + 1) ≤ 1099511627776) (hd : Nat.blt d n = true) (hH' : hput H b (cellE enc (as ++ ys)) = H')
    (hq : CG P GL (.ops (l.drop 1)) K n (put tm d (.sl b ((as ++ ys).length * sz) 0 (as ++ ys).length sz)) H' Q) : CG P GL (.ops l) K n tm H Q := by
  have h0' : 0 < sz := by simp_all
  have e1 := appendV_cell (H := H) (ns := H.length) (sz := sz) (bytes := bytes) (b := b) (len := as.length) (k := ys.length) (cs := (as.flatMap enc).map .d) (xs := (ys.flatMap enc).map .d) h0' hH
    (by simp [flat_len hsz]) (by simp [flat_len hsz]) (by simp [okC]) (by grind[roomB])
  refine CG.eff1 ho hg (v := .sl b ((as ++ ys).length * sz) 0 (as ++ ys).length sz) (wr := some (b, .cells ((as.flatMap enc).map .d ++ (ys.flatMap enc).map .d))) ?_ ?_ hd hq
  all_goals grind[eff,List.length_append,happ,cellE]
theorem boxD_cell {α : Type} {enc : α → List D} {H : Heap} {b : Nat} {l : List α} (h : hget H b = some (cellE enc l)) : boxD H b = some (l.flatMap enc) := by
  unfold boxD
  rw [h]
  unfold cellE
  exact dcells_d _
theorem Tidy.frzC {α : Type} (enc : α → List D) (as : List α) {m n sz : Nat} {tm tm' : List (Nat × V)} {H H' : Heap} (b s : Nat) (hsz : ∀ a, (enc a).length = sz) (hs : get tm s = .sl b (as.length * sz) 0 as.length sz)
    (hH : hget H b = some (cellE enc as)) (hno : NoRefs b 0 H) (e1 : put (forget b tm) s (.d (.list (as.map enc))) = tm') (e2 : H.set b none = H') : Tidy m ⟨n, tm, H⟩ ⟨n, tm', H'⟩ := by
  intro GL g w a hr
  have hf := frzH_noref (ds := as.flatMap enc) H 0 hno
  rw [if_pos (Nat.zero_le _), Nat.sub_zero] at hf
  have hfz : frzSt b ⟨n, tm, H⟩ = some ⟨n, tm.map fun p => (p.1, frzV b (as.flatMap enc) p.2), H'⟩ := by
    unfold frzSt
    rw [boxD_cell hH]
    simp only [hf]
    rw [all_set_none (okBox_all hr.heap), cond_true, e2]
  refine (Tidy.trans (Tidy.frz hfz) (Tidy.weak fun t => ?_)) GL g w a hr
  subst e1
  rw [get_map (frzV b (as.flatMap enc)) (by simp only [frzV]), get_put]
  by_cases ht : t = s
  · subst ht
    rw [if_pos rfl, hs]
    left
    have hle : Nat.ble (0 + as.length * sz) (as.length * sz) = true := by simp_all
    simp only [frzV, Nat.beq_refl, cond_true, flat_len hsz, hle, Bool.and_self, List.drop_zero, chunk_flat hsz]
  · rw [if_neg ht, get_forget]
    cases hn : noref b (get tm t) with
    | true => left; rw [cond_true, frzV_noref _ hn]
    | false => right; rfl
end
end Fw

/-
  Boxes behind the last one that anybody speaks of are dropped.
-/
namespace Fw
open Go
theorem wrapPred {k : Nat} (h : k < 9223372036854775808) : wrapF .i64 (Int.ofNat (k + 1) - 1) = Int.ofNat k := by
  grind[wrapF_eq,IntKind.wrap_i64,Int.ofNat_eq_natCast]
theorem wrapPredW {k : Nat} (h : k < 9223372036854775808) : IntKind.wrap .i64 (Int.ofNat (k + 1) - 1) = Int.ofNat k := by
  grind[IntKind.wrap_i64,Int.ofNat_eq_natCast]
theorem boxLt_cs (n : Nat) (cs : List V) : boxLt n (.cells cs) = refsLtL n cs := rfl
theorem boxLt_nil (n : Nat) : boxLt n .nil = true := rfl
theorem Tidy.trim {m n : Nat} {tm : List (Nat × V)} {H H' : Heap} (p : Nat) (keep : List Nat) (hm : Nat.ble m p = true) (hk : keepTm keep tm = tm) (ht : tmLt p tm = true) (e : H.take p = H') (hh : heapLt p H' = true) : Tidy m ⟨n, tm, H⟩ ⟨n, tm, H'⟩ := by
  refine Tidy.clean (keep := keep) (Nat.le_of_ble_eq_true hm) ?_
  unfold cleanSt
  grind
section
variable {P : Program} {GL : GLT}
theorem LQ.ret {K : List Fr} {Q : Ex → St → Prop} {R : St → Prop} {s : St} (h : Q .ret s) : LQ P GL K Q R .ret s := KQ.ret h
theorem RetW.ret {rs : List IRes} {R : V → Heap → Prop} {v' : V} {σ : St} (h : resV rs σ = some v') (e : R v' σ.hp) : RetW rs R .ret σ := ⟨v', h, e⟩
end
end Fw

/-
  A block whose last operations run: its end is the code's end.
-/
namespace Fw
open Go
variable {P : Program} {GL : GLT}
theorem CG.popB {l : List IOper} {id n : Nat} {K : List Fr} {tm : List (Nat × V)} {H : Heap} {Q : Ex → St → Prop} (h : CG P GL (.ops l) K n tm H Q) : CG P GL (.ops l) (.block id :: K) n tm H Q := h
end Fw

/-
  Drawn regions that write, walked operation by operation; that the order is free is checked at the end.
-/
namespace Fw
open Go
abbrev RS := List ((V × Wr) × List Nat)
def AW (P : Program) (GL : GLT) (base : Nat) : Nat → List IOper → List (Nat × V) → Heap → (RS → List (Nat × V) → Heap → Prop) → Prop
  | _, [], tm, H, Q => Q [] tm H
  | i, o :: l, tm, H, Q => ∃ cv v wr, oneX GL tm H (base + i) o cv = some (v, wr) ∧ (∀ f args, callE (evo GL tm) o.op = some (f, args) → guardB o.guard tm = some true → CallR P GL f args H (base + i) (v, wr)) ∧
      AW P GL base (i + 1) l (putO tm o.dst v) (happ H wr) (fun rs t k => Q (((v, wr), rds (evo GL tm) o.op) :: rs) t k)
section
variable {P : Program} {GL : GLT}
theorem AW.runs {base n : Nat} : ∀ {l : List IOper} {i : Nat} {tm : List (Nat × V)} {H : Heap} {Q : RS → List (Nat × V) → Heap → Prop}, AW P GL base i l tm H Q →
    ∃ (cvs : List (Option CV)) (rs : RS) (tm' : List (Nat × V)) (H' : Heap), cvs.length = l.length ∧ (∀ qc : Nat → Option CV, (∀ j c, cvs[j]? = some c → qc (i + j) = c) → runD GL base qc i l ⟨n, tm, H⟩ = some rs) ∧
      foldK (fun _ => true) i l rs ⟨n, tm, H⟩ = ⟨n, tm', H'⟩ ∧ Q rs tm' H' ∧
      ∀ k o r, l[k]? = some o → rs[k]? = some r → ∀ f args, callE (evo GL (foldK (fun j => decide (j < i + k)) i l rs ⟨n, tm, H⟩).tm) o.op = some (f, args) → guardB o.guard (foldK (fun j => decide (j < i + k)) i l rs ⟨n, tm, H⟩).tm = some true →
        CallR P GL f args (foldK (fun j => decide (j < i + k)) i l rs ⟨n, tm, H⟩).hp (base + (i + k)) r.1
  | [], i, tm, H, Q, h => ⟨[], [], tm, H, rfl, fun _ _ => rfl, rfl, h, by simp⟩
  | o :: l, i, tm, H, Q, h => by
    obtain ⟨cv, v, wr, h1, h2, h3⟩ := h
    obtain ⟨cvs, rs, tm', H', k1, k2, k4, k5, k6⟩ := AW.runs (n := n) h3
    have hput : St.putT ⟨n, tm, H⟩ o.dst v (happ H wr) = ⟨n, putO tm o.dst v, happ H wr⟩ := by
      unfold St.putT putO; grind
    refine ⟨cv :: cvs, ((v, wr), rds (evo GL tm) o.op) :: rs, tm', H', by simp [k1], fun qc hqc => ?_, ?_, k5, fun k o' r ho hr f args hcall hg => ?_⟩
    · have e0 : qc i = cv := by simpa using hqc 0 cv rfl
      simp only [runD, e0, h1, hput]
      rw [k2 qc fun j c hj => by have := hqc (j + 1) c (by grind); grind]
    · simp_all[foldK,cond_true]
    · cases k with
      | zero =>
        simp at ho hr
        subst ho; subst hr
        rw [foldK_none (fun j hj => decide_eq_false (by omega))] at hcall hg ⊢
        exact h2 f args hcall hg
      | succ k =>
        simp at ho hr
        have e : i + (k + 1) = i + 1 + k := by omega
        have hs : foldK (fun j => decide (j < i + (k + 1))) i (o :: l) (((v, wr), rds (evo GL tm) o.op) :: rs) ⟨n, tm, H⟩ = foldK (fun j => decide (j < i + 1 + k)) (i + 1) l rs ⟨n, putO tm o.dst v, happ H wr⟩ := by
          simp only [foldK, e, show decide (i < i + 1 + k) = true by simp; omega, cond_true, hput]
        rw [hs] at hcall hg ⊢
        rw [e]
        exact k6 k o' r ho hr f args hcall hg
theorem CG.drawW (hm : P.follows .mixedOrders = true) {l : List IOper} {K : List Fr} {n : Nat} {tm : List (Nat × V)} {H : Heap} {Q : Ex → St → Prop} (hst : dstOk n l = true)
    (h : AW P GL H.length 0 l tm (H ++ List.replicate l.length none) (fun rs tm' H' => (drawOk l rs && slotOk (H.length + l.length) rs) = true ∧ ∃ tm2 H2, Tidy H.length ⟨n, tm', H'⟩ ⟨n, tm2, H2⟩ ∧ CG P GL (.out .normal) K n tm2 H2 Q)) : CG P GL (.code (.draw l)) K n tm H Q := by
  obtain ⟨cvs, rs, tm', H', k1, k2, k4, ⟨k5, k7⟩, k6⟩ := AW.runs (n := n) h
  rw [Bool.and_eq_true] at k5
  have hw : WC P GL (.draw l) ⟨n, tm, H⟩ (fun e s => e = .normal ∧ s = ⟨n, tm', H'⟩) := by
    refine WC.draw (σ := ⟨n, tm, H⟩) hm (qc := fun i => (cvs[i]?).bind id) (rs := rs) ?_ k5.1 hst k5.2 (fun i o r ho hr f args hcall hg => ?_) ?_
    · exact k2 _ fun j c hj => by simp [hj]
    · have := k6 i o r ho hr f args (by rw [Nat.zero_add]; exact hcall)
      simp at this
      exact this hg
    · exact ⟨rfl, k4⟩
  show WC P GL (.draw l) ⟨n, tm, H⟩ (KQ P GL K Q)
  refine WC.post (hw.mono ?_)
  rintro e s ⟨rfl, rfl⟩
  obtain ⟨tm2, H2, e1, e3⟩ := k7
  exact ⟨⟨n, tm2, H2⟩, e1, e3⟩
theorem AW.head {base i : Nat} {o : IOper} {l : List IOper} {tm : List (Nat × V)} {H : Heap} {Q : RS → List (Nat × V) → Heap → Prop} (ho : l.head? = some o) (h : AW P GL base i (o :: l.drop 1) tm H Q) : AW P GL base i l tm H Q := by
  cases l<;>grind
theorem AW.nil {base i : Nat} {l : List IOper} {tm : List (Nat × V)} {H : Heap} {Q : RS → List (Nat × V) → Heap → Prop} (hl : l.length = 0) (h : Q [] tm H) : AW P GL base i l tm H Q := by
  cases l with
  | nil => exact h
  | cons o l => simp at hl
def runW (GL : GLT) (base : Nat) : Nat → Nat → List IOper → List (Nat × V) → Heap → Option (RS × List (Nat × V) × Heap)
  | 0, _, _, tm, H => some ([], tm, H)
  | k + 1, i, o :: l, tm, H => match callE (evo GL tm) o.op, guardB o.guard tm with
    | some _, some true => none
    | _, _ => match oneD GL tm H (base + i) o none with
      | some (v, wr) => match runW GL base k (i + 1) l (putO tm o.dst v) (happ H wr) with
        | some (rs, t, h) => some (((v, wr), rds (evo GL tm) o.op) :: rs, t, h)
        | none => none
      | none => none
  | _ + 1, _, [], _, _ => none
theorem AW.run {base : Nat} : ∀ (k : Nat) {i : Nat} {l : List IOper} {tm tm' : List (Nat × V)} {H H' : Heap} {rs : RS} {Q : RS → List (Nat × V) → Heap → Prop}, runW GL base k i l tm H = some (rs, tm', H') → AW P GL base (i + k) (l.drop k) tm' H' (fun r t h => Q (rs ++ r) t h) → AW P GL base i l tm H Q
  | 0, _, _, _, _, _, _, _, _, h1, h2 => by
    simp_all[runW,Option.some.injEq,Prod.mk.injEq]
  | k + 1, _, [], _, _, _, _, _, _, h1, _ => by grind[runW]
  | k + 1, i, o :: l, tm, tm', H, H', rs, Q, h1, h2 => by
    have key : ∀ v wr, oneD GL tm H (base + i) o none = some (v, wr) → (∀ f args, callE (evo GL tm) o.op = some (f, args) → guardB o.guard tm ≠ some true) → (∃ rs2, rs = ((v, wr), rds (evo GL tm) o.op) :: rs2 ∧ runW GL base k (i + 1) l (putO tm o.dst v) (happ H wr) = some (rs2, tm', H')) → AW P GL base i (o :: l) tm H Q := by
      rintro v wr e1 e2 ⟨rs2, rfl, e3⟩
      exact ⟨none, v, wr, e1, fun f args hc hg => absurd hg (e2 f args hc), AW.run k e3 (by grind)⟩
    unfold runW at h1
    split at h1
    · cases h1
    · rename_i hno
      split at h1
      · rename_i v wr hv
        split at h1
        · rename_i rs2 t h hr
          simp at h1
          obtain ⟨rfl, rfl, rfl⟩ := h1
          exact key v wr hv (fun f args hc hg => hno _ hc hg) ⟨rs2, rfl, hr⟩
        · cases h1
      · cases h1
theorem AW.eff1 {base i d : Nat} {op : IOp} {g : Option (Nat × Bool)} {af : List Nat} {l : List IOper} {tm : List (Nat × V)} {H : Heap} {Q : RS → List (Nat × V) → Heap → Prop} {v : V} {wr : Wr}
    (ho : l.head? = some ⟨some d, op, g, af⟩) (hg : guardB g tm = some true) (hc : isCall op = none) (he : eff (evo GL tm) H (base + i) op = some (v, wr)) (hq : AW P GL base (i + 1) (l.drop 1) (put tm d v) (happ H wr) (fun rs t k => Q (((v, wr), rds (evo GL tm) op) :: rs) t k)) : AW P GL base i l tm H Q := by
  refine AW.head ho ⟨none, v, wr, ?_, fun f args h => ?_, hq⟩
  · simp only [oneX, oneD, hg, callE_none he]; exact he
  · rw [callE_none he] at h; cases h
theorem AW.idx {base i d : Nat} {g : Option (Nat × Bool)} {af : List Nat} {l : List IOper} {tm : List (Nat × V)} {H : Heap} {Q : RS → List (Nat × V) → Heap → Prop} {sz : Nat} {x k : Opd} {es : List (List D)} {j : Nat} {e : List D}
    (he : es[j]? = some e) (ho : l.head? = some ⟨some d, .iaddr sz x k, g, af⟩) (hg : guardB g tm = some true) (hx : evo GL tm x = .d (.list es)) (hi : natOf (evo GL tm k) = some j)
    (hd : Nat.beq e.length sz = true) (hq : AW P GL base (i + 1) (l.drop 1) (put tm d (.cptr e)) H (fun rs t k => Q (((.cptr e, none), []) :: rs) t k)) : AW P GL base i l tm H Q :=
  AW.eff1 (v := .cptr e) (wr := none) ho hg rfl (by simp_all[eff,cond_true]) (by simp only [rds, hx]; exact hq)
theorem AW.pcG {base i d : Nat} {g : Option (Nat × Bool)} {af : List Nat} {l : List IOper} {tm : List (Nat × V)} {H : Heap} {Q : RS → List (Nat × V) → Heap → Prop} {f : FuncId} {args : List Opd} {vs : List V} {v : V} (h : PC P GL f vs v) (ho : l.head? = some ⟨some d, .call f args, g, af⟩) (hg : guardB g tm = some true)
    (ha : mlist (evo GL tm) args = vs) (hq : AW P GL base (i + 1) (l.drop 1) (put tm d v) H (fun rs t k => Q (((v, none), rds (evo GL tm) (.call f args)) :: rs) t k)) : AW P GL base i l tm H Q := by
  subst ha
  refine AW.head ho ⟨some (.v v), v, none, ?_, fun f' args' hc _ => ?_, hq⟩
  · grind[oneX,oneD,callE]
  · simp at hc
    obtain ⟨rfl, rfl⟩ := hc
    exact h.callD.toR _
def rsOf : Option (RS × List (Nat × V) × Heap) → RS
  | some x => x.1
  | none => []
theorem AW.runK {base : Nat} (k : Nat) {i : Nat} {l : List IOper} {tm tm' : List (Nat × V)} {H H' : Heap} {Q : RS → List (Nat × V) → Heap → Prop} (h1 : (runW GL base k i l tm H).map (fun x => x.2) = some (tm', H')) (h2 : AW P GL base (i + k) (l.drop k) tm' H' (fun r t h => Q (rsOf (runW GL base k i l tm H) ++ r) t h)) : AW P GL base i l tm H Q := by
  cases hr : runW GL base k i l tm H with
  | none => grind
  | some x =>
    obtain ⟨rs, t, h⟩ := x
    rw [hr] at h1 h2
    simp at h1
    obtain ⟨rfl, rfl⟩ := h1
    exact AW.run k hr h2
theorem AW.fin {m n : Nat} {K : List Fr} {tm tm2 : List (Nat × V)} {H H2 : Heap} {Q : Ex → St → Prop} (p : Nat) (keep : List Nat) (hm : Nat.ble m p = true) (e1 : keepTm keep tm = tm2) (e2 : tmLt p tm2 = true) (e3 : H.take p = H2) (e4 : heapLt p H2 = true) (h : CG P GL (.out .normal) K n tm2 H2 Q) :
    ∃ tm2 H2, Tidy m ⟨n, tm, H⟩ ⟨n, tm2, H2⟩ ∧ CG P GL (.out .normal) K n tm2 H2 Q := by
  refine ⟨tm2, H2, Tidy.clean (keep := keep) (Nat.le_of_ble_eq_true hm) ?_, h⟩
  unfold cleanSt
  grind
end
end Fw

/-
  An element appended to an own row in a drawn region that writes.
-/
namespace Fw
open Go
section
variable {P : Program} {GL : GLT}
end
end Fw

/-
  A part of a row in a drawn region that writes.
-/
namespace Fw
open Go
section
variable {P : Program} {GL : GLT}
theorem AW.lsl {α : Type} (enc : α → List D) (as : List α) (p q : Nat) {base i d : Nat} {g : Option (Nat × Bool)} {af : List Nat} {l : List IOper} {tm : List (Nat × V)} {H : Heap} {Q : RS → List (Nat × V) → Heap → Prop} {sz : Nat} {x : Opd} {lo hi : Option Opd} (hsz : ∀ a, (enc a).length = sz)
    (ho : l.head? = some ⟨some d, .lslice sz x lo hi, g, af⟩) (hg : guardB g tm = some true) (hx : evo GL tm x = .d (.list (as.map enc))) (hlo : bndO GL tm 0 lo = some p) (hhi : bndO GL tm (as.map enc).length hi = some q)
    (hpq : p ≤ q ∧ q ≤ as.length) (hq : AW P GL base (i + 1) (l.drop 1) (put tm d (.d (.list (((as.take q).drop p).map enc)))) H (fun rs t k => Q (((.d (.list (((as.take q).drop p).map enc)), none), []) :: rs) t k)) : AW P GL base i l tm H Q := by
  have hall : (as.map enc).all (fun e => Nat.beq e.length sz) = true := by
    simp_all
  have hb : bounds (evo GL tm) (as.map enc).length lo hi = some (p, q) := bounds_of hlo hhi hpq.1 (by grind)
  refine AW.eff1 (v := .d (.list (((as.take q).drop p).map enc))) (wr := none) ho hg rfl ?_ ?_
  · simp only [eff, hx, hall, cond_true, hb, Option.map_some, List.map_drop, List.map_take]
  · simp only [rds, hx]; exact hq
end
end Fw

/-
  Steps that tell of a state only what is new.
-/
namespace Fw
open Go
abbrev bo (b : Bool) : V := .d (.bool b)
abbrev io (k : Int) : V := .d (.int .i64 k)
abbrev no (n : Nat) : V := .d (.int .i64 (.ofNat n))
abbrev lo {α : Type} (f : α → List D) (l : List α) : V := .d (.list (l.map f))
abbrev so (s : List UInt8) : V := .d (.str s)
@[simp] theorem refsLt_bo (n : Nat) (b : Bool) : refsLt n (bo b) = true := rfl
@[simp] theorem refsLt_io (n : Nat) (k : Int) : refsLt n (io k) = true := rfl
@[simp] theorem refsLt_no (n k : Nat) : refsLt n (no k) = true := rfl
@[simp] theorem refsLt_lo {α : Type} (n : Nat) (f : α → List D) (l : List α) : refsLt n (lo f l) = true := rfl
@[simp] theorem refsLt_so (n : Nat) (s : List UInt8) : refsLt n (so s) = true := rfl
def kpm : Nat → List (Nat × V) → List (Nat × V)
  | _, [] => []
  | m, p :: l => bif Nat.beq (Nat.land m 1) 1 then p :: kpm (Nat.shiftRight m 1) l else kpm (Nat.shiftRight m 1) l
def upd (m : Nat) (nw tm : List (Nat × V)) : List (Nat × V) := nw.foldl (fun t p => put t p.1 p.2) (kpm m tm)
def hpu (l : List (Nat × Box)) (H : Heap) : Heap := l.foldl (fun H p => hput H p.1 p.2) H
theorem zz : (∀ n : Nat, Int.ofNat n = (n : Int)) ∧ (∀ (α β : Type) (f : α → β) (l : List α), (l.map f).length = l.length) ∧ (∀ (α : Type) (l r : List α), (l ++ r).length = l.length + r.length) ∧ (∀ (α : Type) (a : α) (l : List α), (a :: l).length = l.length + 1) ∧
    (∀ α : Type, ([] : List α).length = 0) ∧ (∀ (α : Type) (l : List α) (i : Nat), (l.take i).length = min i l.length) ∧ (∀ (α : Type) (l : List α) (i : Nat), (l.drop i).length = l.length - i) :=
  ⟨fun _ => rfl, fun _ _ _ _ => List.length_map _, fun _ _ _ => List.length_append, fun _ _ _ => rfl, fun _ => rfl, fun _ _ _ => List.length_take, fun _ _ _ => List.length_drop⟩
section
variable {P : Program} {GL : GLT}
theorem AO.rd {base : Nat} {Hp : Heap} {Q : List (Nat × V) → Prop} (k : Nat) (nw : List (Nat × V)) {i : Nat} {l : List IOper} {tm : List (Nat × V)} (h1 : runA GL base Hp k i l tm = some (nw.foldl (fun t p => put t p.1 p.2) tm)) (h2 : AO P GL base Hp (i + k) (l.drop k) (nw.foldl (fun t p => put t p.1 p.2) tm) Q) : AO P GL base Hp i l tm Q := AO.run k h1 h2
theorem AW.rd {base : Nat} (k : Nat) (nw : List (Nat × V)) {i : Nat} {l : List IOper} {tm : List (Nat × V)} {H H' : Heap} {Q : RS → List (Nat × V) → Heap → Prop} (h1 : (runW GL base k i l tm H).map (fun x => x.2) = some (nw.foldl (fun t p => put t p.1 p.2) tm, H'))
    (h2 : AW P GL base (i + k) (l.drop k) (nw.foldl (fun t p => put t p.1 p.2) tm) H' (fun r t h => Q (rsOf (runW GL base k i l tm H) ++ r) t h)) : AW P GL base i l tm H Q := AW.runK k h1 h2
theorem AW.rk {base : Nat} (k : Nat) (nw : List (Nat × V)) (hd : List (Nat × Box)) {i : Nat} {l : List IOper} {tm : List (Nat × V)} {H : Heap} {Q : RS → List (Nat × V) → Heap → Prop} (h1 : (runW GL base k i l tm H).map (fun x => x.2) = some (nw.foldl (fun t p => put t p.1 p.2) tm, hpu hd H))
    (h2 : AW P GL base (i + k) (l.drop k) (nw.foldl (fun t p => put t p.1 p.2) tm) (hpu hd H) (fun r t h => Q (rsOf (runW GL base k i l tm H) ++ r) t h)) : AW P GL base i l tm H Q := AW.runK k h1 h2
theorem CG.ix {d : Nat} {g : Option (Nat × Bool)} {af : List Nat} {l : List IOper} {K : List Fr} {n : Nat} {tm : List (Nat × V)} {H : Heap} {Q : Ex → St → Prop} {sz : Nat} {x i : Opd} {es : List (List D)} {j : Nat} {e : List D}
    (he : es[j]? = some e) (ho : l.head? = some ⟨some d, .iaddr sz x i, g, af⟩) (hc : (guardB g tm, evo GL tm x, natOf (evo GL tm i), Nat.blt d n && Nat.beq e.length sz) = (some true, .d (.list es), some j, true))
    (hq : CG P GL (.ops (l.drop 1)) K n (put tm d (.cptr e)) H Q) : CG P GL (.ops l) K n tm H Q := by
  simp only [Prod.mk.injEq] at hc
  exact CG.idx he ho hc.1 hc.2.1 hc.2.2.1 hc.2.2.2 hq
theorem CG.ixS {d : Nat} {g : Option (Nat × Bool)} {af : List Nat} {l : List IOper} {K : List Fr} {n : Nat} {tm : List (Nat × V)} {H : Heap} {Q : Ex → St → Prop} {x i : Opd} {s : List UInt8} {j : Nat} {b : UInt8}
    (he : s[j]? = some b) (ho : l.head? = some ⟨some d, .idxS x i, g, af⟩) (hc : (guardB g tm, evo GL tm x, natOf (evo GL tm i), Nat.blt d n) = (some true, .d (.str s), some j, true))
    (hq : CG P GL (.ops (l.drop 1)) K n (put tm d (.d (.int .u8 b.toNat))) H Q) : CG P GL (.ops l) K n tm H Q := by
  simp only [Prod.mk.injEq] at hc
  exact CG.idxS he ho hc.1 hc.2.1 hc.2.2.1 hc.2.2.2 hq
theorem CG.pg {d : Nat} {g : Option (Nat × Bool)} {af : List Nat} {l : List IOper} {K : List Fr} {n : Nat} {tm : List (Nat × V)} {H : Heap} {Q : Ex → St → Prop} {f : FuncId} {args : List Opd} {vs : List V} {v : V} (h : PC P GL f vs v) (ho : l.head? = some ⟨some d, .call f args, g, af⟩)
    (hc : (guardB g tm, mlist (evo GL tm) args, Nat.blt d n) = (some true, vs, true)) (hq : CG P GL (.ops (l.drop 1)) K n (put tm d v) H Q) : CG P GL (.ops l) K n tm H Q := by
  simp only [Prod.mk.injEq] at hc
  exact CG.pcG h ho hc.1 hc.2.1 hc.2.2 hq
theorem CG.apE {α : Type} (enc : α → List D) (as ys : List α) {d : Nat} {g : Option (Nat × Bool)} {af : List Nat} {l : List IOper} {K : List Fr} {n : Nat} {tm : List (Nat × V)} {H : Heap} {Q : Ex → St → Prop} {sz bytes : Nat} {x y : Opd} (b : Nat) (hsz : ∀ a, (enc a).length = sz)
    (ho : l.head? = some ⟨some d, .append sz bytes x y, g, af⟩) (hc : (Nat.blt 0 sz, guardB g tm, evo GL tm x, hget H b, Nat.blt d n) = (true, some true, .sl b (as.length * sz) 0 as.length sz, some (rowE enc as), true)) (hy : sliceC H sz (evo GL tm y) = some ((ys.flatMap enc).map .d))
    (hr : (as.length + ys.length) * sz * (bytes + 1) ≤ 1099511627776)
    (hq : CG P GL (.ops (l.drop 1)) K n (put tm d (.sl b ((as ++ ys).length * sz) 0 (as ++ ys).length sz)) (hput H b (rowE enc (as ++ ys))) Q) : CG P GL (.ops l) K n tm H Q := by
  simp only [Prod.mk.injEq] at hc
  exact CG.appE enc as ys hsz hc.1 ho hc.2.1 hc.2.2.1 hc.2.2.2.1 hy hr hc.2.2.2.2 rfl hq
theorem CG.apC {α : Type} (enc : α → List D) (as ys : List α) {d : Nat} {g : Option (Nat × Bool)} {af : List Nat} {l : List IOper} {K : List Fr} {n : Nat} {tm : List (Nat × V)} {H : Heap} {Q : Ex → St → Prop} {sz bytes : Nat} {x y : Opd} (b : Nat) (hsz : ∀ a, (enc a).length = sz)
    (ho : l.head? = some ⟨some d, .append sz bytes x y, g, af⟩) (hc : (Nat.blt 0 sz, guardB g tm, evo GL tm x, hget H b, Nat.blt d n) = (true, some true, .sl b (as.length * sz) 0 as.length sz, some (cellE enc as), true)) (hy : sliceC H sz (evo GL tm y) = some ((ys.flatMap enc).map .d))
    (hr : (as.length + ys.length) * sz * (bytes + 1) ≤ 1099511627776)
    (hq : CG P GL (.ops (l.drop 1)) K n (put tm d (.sl b ((as ++ ys).length * sz) 0 (as ++ ys).length sz)) (hput H b (cellE enc (as ++ ys))) Q) : CG P GL (.ops l) K n tm H Q := by
  simp only [Prod.mk.injEq] at hc
  exact CG.appC enc as ys hsz hc.1 ho hc.2.1 hc.2.2.1 hc.2.2.2.1 hy hr hc.2.2.2.2 rfl hq
theorem sp (b : Bool) {G : Prop} (t : b = true → G) (f : b = false → G) : G := (Bool.eq_false_or_eq_true b).elim t f
theorem spLt (a b : Int) {G : Prop} (t : iLt a b = true → a < b → G) (f : iLt a b = false → b ≤ a → G) : G := sp (iLt a b) (fun h => t h (ltT h)) (fun h => f h (ltF h))
theorem spEq (a b : Int) {G : Prop} (t : iEq a b = true → a = b → G) (f : iEq a b = false → a ≠ b → G) : G := sp (iEq a b) (fun h => t h (eqT h)) (fun h => f h (eqF h))
theorem spBe (a b : Int) {G : Prop} (t : (a == b) = true → a = b → G) (f : (a == b) = false → a ≠ b → G) : G := sp (a == b) (fun h => t h (beqT h)) (fun h => f h (beqF h))
theorem spDe (p : Prop) [Decidable p] {G : Prop} (t : decide p = true → p → G) (f : decide p = false → ¬ p → G) : G := sp (decide p) (fun h => t h (of_decide_eq_true h)) (fun h => f h (of_decide_eq_false h))
theorem spLtN (a b : Nat) {G : Prop} (t : iLt (.ofNat a) (.ofNat b) = true → a < b → G) (f : iLt (.ofNat a) (.ofNat b) = false → b ≤ a → G) : G := sp _ (fun h => t h (Int.ofNat_lt.1 (ltT h))) (fun h => f h (Int.ofNat_le.1 (ltF h)))
theorem spEqN (a b : Nat) {G : Prop} (t : iEq (.ofNat a) (.ofNat b) = true → a = b → G) (f : iEq (.ofNat a) (.ofNat b) = false → a ≠ b → G) : G := sp _ (fun h => t h (Int.ofNat_inj.1 (eqT h))) (fun h => f h (fun e => eqF h (congrArg _ e)))
end
end Fw

/-
  A nil row in a cell of a box, known as empty data from here on.
-/
namespace Fw
open Go
end Fw

/-
  Equality of two structs in a walk; the state told anew.
-/
namespace Fw
open Go
def pickTm (ks : List Nat) (tm : List (Nat × V)) : List (Nat × V) := ks.map fun k => (k, get tm k)
theorem get_pick (tm : List (Nat × V)) : ∀ (ks : List Nat) (s : Nat), get (pickTm ks tm) s = get tm s ∨ get (pickTm ks tm) s = .any
  | [], s => .inr rfl
  | k :: ks, s => by
    show get ((k, get tm k) :: pickTm ks tm) s = _ ∨ get ((k, get tm k) :: pickTm ks tm) s = _
    simp only [get]
    cases h : Nat.beq k s with
    | true => simp_all
    | false => exact get_pick tm ks s
section
variable {P : Program} {GL : GLT}
theorem CG.eqS {d : Nat} {neg : Bool} {ks : List KeyKind} {x y : Opd} {g : Option (Nat × Bool)} {af : List Nat} {l : List IOper} {K : List Fr} {n : Nat} {tm : List (Nat × V)} {H : Heap} {Q : Ex → St → Prop} {xs ys : List V} {r : Bool}
    (ho : l.head? = some ⟨some d, .eqS neg ks x y, g, af⟩) (hc : (guardB g tm, evo GL tm x, evo GL tm y, Nat.blt d n) = (some true, .agg xs, .agg ys, true)) (he : eqRow ks xs ys = some r)
    (hq : CG P GL (.ops (l.drop 1)) K n (put tm d (.d (.bool (bif neg then !r else r)))) H Q) : CG P GL (.ops l) K n tm H Q := by
  simp only [Prod.mk.injEq] at hc
  exact CG.eff1 ho hc.1 (v := .d (.bool (bif neg then !r else r))) (wr := none) (by grind[eff]) rfl hc.2.2.2 hq
theorem AO.eqS {base i d : Nat} {Hp : Heap} {neg : Bool} {ks : List KeyKind} {x y : Opd} {g : Option (Nat × Bool)} {af : List Nat} {l : List IOper} {tm : List (Nat × V)} {Q : List (Nat × V) → Prop} {xs ys : List V} {r : Bool}
    (ho : l.head? = some ⟨some d, .eqS neg ks x y, g, af⟩) (hc : (guardB g tm, evo GL tm x, evo GL tm y) = (some true, .agg xs, .agg ys)) (he : eqRow ks xs ys = some r)
    (hq : AO P GL base Hp (i + 1) (l.drop 1) (put tm d (.d (.bool (bif neg then !r else r)))) Q) : AO P GL base Hp i l tm Q := by
  simp at hc
  exact AO.eff1 ho hc.1 rfl (v := .d (.bool (bif neg then !r else r))) (by grind[eff]) hq
theorem CG.is {cur : Cur} {K : List Fr} {n : Nat} {tm : List (Nat × V)} {H : Heap} {Q : Ex → St → Prop} (tm' : List (Nat × V)) (H' : Heap) (h : (tm, H) = (tm', H')) (hq : CG P GL cur K n tm' H' Q) : CG P GL cur K n tm H Q := by
  grind
theorem CG.keep {cur : Cur} (hc : isOut cur = false) (ks : List Nat) {K : List Fr} {n : Nat} {tm : List (Nat × V)} {H : Heap} {Q : Ex → St → Prop} (h : CG P GL cur K n (pickTm ks tm) H Q) : CG P GL cur K n tm H Q :=
  CG.weak hc (fun s => get_pick tm ks s) h
theorem CG.isH {cur : Cur} {K : List Fr} {n : Nat} {tm : List (Nat × V)} {H : Heap} {Q : Ex → St → Prop} (H' : Heap) (h : H = H') (hq : CG P GL cur K n tm H' Q) : CG P GL cur K n tm H Q := by
  grind
theorem AW.is {base i : Nat} {l : List IOper} {tm : List (Nat × V)} {H : Heap} {Q : RS → List (Nat × V) → Heap → Prop} (tm' : List (Nat × V)) (H' : Heap) (h : (tm, H) = (tm', H')) (hq : AW P GL base i l tm' H' Q) : AW P GL base i l tm H Q := by
  grind
end
end Fw

/-
  An own row of which other boxes speak, known as data from here on.
-/
namespace Fw
open Go
end Fw

/-
  A row of one cell-list told as it stands, appended to an own row in a drawn region; the nil row in it known as empty data behind it.
-/
namespace Fw
open Go
section
variable {P : Program} {GL : GLT}
end
@[simp] theorem refsLtL_dapp (n : Nat) (xs : List V) : ∀ (l : List D), refsLtL n (l.map .d ++ xs) = refsLtL n xs
  | [] => rfl
  | d :: l => by
    rw [List.map_cons, List.cons_append, refsLtL, refsLtL_dapp n xs l]; rfl
end Fw
