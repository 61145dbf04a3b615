import Derived.Test.YtlgnmcfckgokdaaGreatDoorFe
/-
  A quicker run for what is known whole: slots in a tree, operations told apart in small steps, what comes next handed on.
-/
set_option linter.unusedSimpArgs false
set_option linter.unusedVariables false
namespace Fw
open Go

/-! ### Slots in a tree -/

inductive T where
  | e
  | n (l : T) (v : V) (r : T)
 deriving Inhabited

noncomputable def tget (t : T) : Nat → V :=
  @T.rec (fun _ => Nat → V) (fun _ => V.any)
    (fun _ v _ gl gr i => @Nat.rec (fun _ => V) v (fun j _ => @Nat.rec (fun _ => V) (gl (Nat.shiftRight j 1)) (fun _ _ => gr (Nat.shiftRight j 1)) (Nat.land j 1)) i) t

noncomputable def tput (k : Nat) : T → Nat → V → T :=
  @Nat.rec (fun _ => T → Nat → V → T) (fun t _ _ => t)
    (fun _ ih t i v => @T.rec (fun _ => T)
      (@Nat.rec (fun _ => T) (T.n T.e v T.e) (fun j _ => @Nat.rec (fun _ => T) (T.n (ih T.e (Nat.shiftRight j 1) v) V.any T.e) (fun _ _ => T.n T.e V.any (ih T.e (Nat.shiftRight j 1) v)) (Nat.land j 1)) i)
      (fun l u r _ _ => @Nat.rec (fun _ => T) (T.n l v r) (fun j _ => @Nat.rec (fun _ => T) (T.n (ih l (Nat.shiftRight j 1) v) u r) (fun _ _ => T.n l u (ih r (Nat.shiftRight j 1) v)) (Nat.land j 1)) i) t) k

theorem tget_e (i : Nat) : tget .e i = .any := rfl
theorem tget_n0 (l r : T) (v : V) : tget (.n l v r) 0 = v := rfl
theorem tget_ns (l r : T) (v : V) (j : Nat) : tget (.n l v r) (j + 1) = if j % 2 = 0 then tget l (j / 2) else tget r (j / 2) := by
  have h : tget (.n l v r) (j + 1) = @Nat.rec (fun _ => V) (tget l (Nat.shiftRight j 1)) (fun _ _ => tget r (Nat.shiftRight j 1)) (Nat.land j 1) := rfl
  have h1 : Nat.shiftRight j 1 = j / 2 := by show j >>> 1 = _; simp [Nat.shiftRight_eq_div_pow]
  have h2 : Nat.land j 1 = j % 2 := Nat.and_one_is_mod j
  rw [h, h1, h2]
  rcases Nat.mod_two_eq_zero_or_one j with hj | hj <;> rw [hj] <;> rfl

theorem tput_e0 (k : Nat) (v : V) : tput (k + 1) .e 0 v = .n .e v .e := rfl
theorem tput_es (k j : Nat) (v : V) : tput (k + 1) .e (j + 1) v = if j % 2 = 0 then .n (tput k .e (j / 2) v) .any .e else .n .e .any (tput k .e (j / 2) v) := by
  have h : tput (k + 1) .e (j + 1) v = @Nat.rec (fun _ => T) (T.n (tput k T.e (Nat.shiftRight j 1) v) V.any T.e) (fun _ _ => T.n T.e V.any (tput k T.e (Nat.shiftRight j 1) v)) (Nat.land j 1) := rfl
  have h1 : Nat.shiftRight j 1 = j / 2 := by show j >>> 1 = _; simp [Nat.shiftRight_eq_div_pow]
  have h2 : Nat.land j 1 = j % 2 := Nat.and_one_is_mod j
  rw [h, h1, h2]
  rcases Nat.mod_two_eq_zero_or_one j with hj | hj <;> rw [hj] <;> rfl
theorem tput_n0 (k : Nat) (l r : T) (u v : V) : tput (k + 1) (.n l u r) 0 v = .n l v r := rfl
theorem tput_ns (k j : Nat) (l r : T) (u v : V) : tput (k + 1) (.n l u r) (j + 1) v = if j % 2 = 0 then .n (tput k l (j / 2) v) u r else .n l u (tput k r (j / 2) v) := by
  have h : tput (k + 1) (.n l u r) (j + 1) v = @Nat.rec (fun _ => T) (T.n (tput k l (Nat.shiftRight j 1) v) u r) (fun _ _ => T.n l u (tput k r (Nat.shiftRight j 1) v)) (Nat.land j 1) := rfl
  have h1 : Nat.shiftRight j 1 = j / 2 := by show j >>> 1 = _; simp [Nat.shiftRight_eq_div_pow]
  have h2 : Nat.land j 1 = j % 2 := Nat.and_one_is_mod j
  rw [h, h1, h2]
  rcases Nat.mod_two_eq_zero_or_one j with hj | hj <;> rw [hj] <;> rfl

theorem tget_tput : ∀ (k : Nat) (t : T) (i s : Nat) (v : V), i + 1 < 2 ^ k → tget (tput k t i v) s = if s = i then v else tget t s
  | 0, t, i, s, v, h => by simp at h
  | k + 1, t, i, s, v, h => by
    have ih := tget_tput k
    cases t with
    | e =>
      cases i with
      | zero =>
        rw [tput_e0]
        cases s with
        | zero => simp [tget_n0]
        | succ s => rw [tget_ns]; simp [tget_e]
      | succ j =>
        rw [tput_es]
        have hj : j / 2 + 1 < 2 ^ k := by rw [Nat.pow_succ] at h; omega
        by_cases h2 : j % 2 = 0
        · rw [if_pos h2]
          cases s with
          | zero => simp [tget_n0, tget_e]
          | succ s =>
            rw [tget_ns, ih _ _ _ _ hj]
            by_cases hs : s % 2 = 0
            · rw [if_pos hs]
              by_cases e : s / 2 = j / 2
              · have : s = j := by omega
                simp [this]
              · have : s ≠ j := by omega
                simp [e, this, tget_e]
            · rw [if_neg hs]
              have : s ≠ j := by rintro rfl; exact hs h2
              simp [this, tget_e]
        · rw [if_neg h2]
          cases s with
          | zero => simp [tget_n0, tget_e]
          | succ s =>
            rw [tget_ns, ih _ _ _ _ hj]
            by_cases hs : s % 2 = 0
            · rw [if_pos hs]
              have : s ≠ j := by rintro rfl; exact h2 hs
              simp [this, tget_e]
            · rw [if_neg hs]
              by_cases e : s / 2 = j / 2
              · have : s = j := by omega
                simp [this]
              · have : s ≠ j := by omega
                simp [e, this, tget_e]
    | n l u r =>
      cases i with
      | zero =>
        rw [tput_n0]
        cases s with
        | zero => simp [tget_n0]
        | succ s => rw [tget_ns, tget_ns]; simp
      | succ j =>
        rw [tput_ns]
        have hj : j / 2 + 1 < 2 ^ k := by rw [Nat.pow_succ] at h; omega
        by_cases h2 : j % 2 = 0
        · rw [if_pos h2]
          cases s with
          | zero => simp [tget_n0]
          | succ s =>
            rw [tget_ns, tget_ns, ih _ _ _ _ hj]
            by_cases hs : s % 2 = 0
            · rw [if_pos hs, if_pos hs]
              by_cases e : s / 2 = j / 2
              · have : s = j := by omega
                simp [this]
              · have : s ≠ j := by omega
                simp [e, this]
            · rw [if_neg hs, if_neg hs]
              have : s ≠ j := by rintro rfl; exact hs h2
              simp [this]
        · rw [if_neg h2]
          cases s with
          | zero => simp [tget_n0]
          | succ s =>
            rw [tget_ns, tget_ns, ih _ _ _ _ hj]
            by_cases hs : s % 2 = 0
            · rw [if_pos hs, if_pos hs]
              have : s ≠ j := by rintro rfl; exact h2 hs
              simp [this]
            · rw [if_neg hs, if_neg hs]
              by_cases e : s / 2 = j / 2
              · have : s = j := by omega
                simp [this]
              · have : s ≠ j := by omega
                simp [e, this]

/-- room for slots below 4000 -/
def capT : Nat := 4000
noncomputable def tset (t : T) (i : Nat) (v : V) : T := tput 12 t i v
theorem tget_tset (t : T) (i s : Nat) (v : V) (h : i < capT) : tget (tset t i v) s = if s = i then v else tget t s :=
  tget_tput 12 t i s v (by simp [capT] at h ⊢; omega)

def Sim (tm : List (Nat × V)) (t : T) : Prop := ∀ s, get tm s = tget t s
theorem Sim.put {tm : List (Nat × V)} {t : T} (h : Sim tm t) {i : Nat} {v : V} (hi : i < capT) : Sim (put tm i v) (tset t i v) := fun s => by
  rw [get_put, tget_tset _ _ _ _ hi, h s]
theorem Sim.nil : Sim [] .e := fun _ => rfl

noncomputable def treeA : Nat → List V → T → T
  | _, [], t => t
  | n, v :: vs, t => treeA (n + 1) vs (tset t n v)
theorem treeA_get : ∀ (vs : List V) (n : Nat) (t : T) (s : Nat), n + vs.length ≤ capT → tget (treeA n vs t) s = if n ≤ s ∧ s < n + vs.length then (vs[s - n]?).getD .any else tget t s
  | [], n, t, s, _ => by simp [treeA]; intro h1 h2; omega
  | v :: vs, n, t, s, h => by
    simp only [List.length_cons] at h
    rw [treeA, treeA_get vs (n + 1) _ s (by omega), tget_tset _ _ _ _ (by omega)]
    simp only [List.length_cons]
    by_cases h1 : s = n
    · subst h1; simp; intro h2; omega
    · by_cases h2 : n + 1 ≤ s ∧ s < n + 1 + vs.length
      · rw [if_pos h2, if_pos (by omega), show s - n = (s - (n + 1)) + 1 by omega]; simp
      · rw [if_neg h2, if_neg h1, if_neg (by omega)]
theorem Sim.args (vs : List V) (h : vs.length ≤ capT) : Sim (mkTm 0 vs) (treeA 0 vs .e) := fun s => by
  rw [get_mkTm, treeA_get _ _ _ _ (by omega)]
  simp only [Nat.not_lt_zero, if_false, Nat.zero_le, true_and, Nat.zero_add, Nat.sub_zero, tget_e]
  by_cases hs : s < vs.length
  · rw [if_pos hs]
  · rw [if_neg hs, List.getElem?_eq_none (by omega)]; rfl

/-! ### Operations in small steps -/

def iLt : Int → Int → Bool
  | .ofNat a, .ofNat b => Nat.blt a b
  | .ofNat _, .negSucc _ => false
  | .negSucc _, .ofNat _ => true
  | .negSucc a, .negSucc b => Nat.blt b a
def iEq : Int → Int → Bool
  | .ofNat a, .ofNat b => Nat.beq a b
  | .negSucc a, .negSucc b => Nat.beq a b
  | _, _ => false
def iAdd : Int → Int → Int
  | .ofNat a, .ofNat b => .ofNat (Nat.add a b)
  | a, b => a + b
def wrapF (k : IntKind) (n : Int) : Int := match k with
  | .i64 => match n with
    | .ofNat m => bif Nat.blt m 9223372036854775808 then .ofNat m else IntKind.i64.wrap n
    | .negSucc m => bif Nat.blt m 9223372036854775808 then .negSucc m else IntKind.i64.wrap n
  | k => k.wrap n
theorem iLt_eq (a b : Int) : iLt a b = decide (a < b) := by
  cases a <;> cases b <;> simp only [iLt, nblt] <;> (rw [Bool.eq_iff_iff]; simp; try omega)
theorem iEq_eq (a b : Int) : iEq a b = (a == b) := by
  cases a <;> cases b <;> simp only [iEq, nbeq] <;> (rw [Bool.eq_iff_iff]; simp; try omega)
theorem iAdd_eq (a b : Int) : iAdd a b = a + b := by
  cases a <;> cases b <;> simp [iAdd]
theorem wrapF_eq (k : IntKind) (n : Int) : wrapF k n = k.wrap n := by
  have bifT : ∀ (b : Bool) (x y z : Int), (b = true → x = z) → y = z → (bif b then x else y) = z := fun b x y z h1 h2 => by
    cases b with
    | true => exact h1 rfl
    | false => exact h2
  unfold wrapF
  split
  · split
    · rename_i m
      refine bifT _ _ _ _ (fun h => ?_) rfl
      have hm : m < 9223372036854775808 := by rw [nblt] at h; exact of_decide_eq_true h
      rw [IntKind.wrap_i64]; simp only [Int.ofNat_eq_natCast]; omega
    · rename_i m
      refine bifT _ _ _ _ (fun h => ?_) rfl
      have hm : m < 9223372036854775808 := by rw [nblt] at h; exact of_decide_eq_true h
      rw [IntKind.wrap_i64, Int.negSucc_eq]; omega
  · rfl

def binIF (op : BinOp) (k : IntKind) (a b : Int) : Option D :=
  match op with
  | .add => some (.int k (wrapF k (iAdd a b)))
  | .sub => some (.int k (wrapF k (a - b)))
  | .eql => some (.bool (iEq a b))
  | .neq => some (.bool (!iEq a b))
  | .lss => some (.bool (iLt a b))
  | .leq => some (.bool (!iLt b a))
  | .gtr => some (.bool (iLt b a))
  | .geq => some (.bool (!iLt a b))
  | op => binI op k a b
theorem binIF_eq (op : BinOp) (k : IntKind) (a b : Int) : binIF op k a b = binI op k a b := by
  have hn : ∀ (x y : Int), (!decide (x < y)) = decide (y ≤ x) := fun x y => by rw [Bool.eq_iff_iff]; simp
  cases op <;> simp only [binIF, binI, wrapF_eq, iAdd_eq, iEq_eq, iLt_eq, hn, bne] <;> rfl

def kNum : IntKind → Nat
  | .i8 => 0 | .i16 => 1 | .i32 => 2 | .i64 => 3 | .u8 => 4 | .u16 => 5 | .u32 => 6 | .u64 => 7
def kEqB (k k' : IntKind) : Bool := Nat.beq (kNum k) (kNum k')
theorem kEqB_iff {k k' : IntKind} : kEqB k k' = true ↔ k = k' := by cases k <;> cases k' <;> decide

def binDF (op : BinOp) : V → V → Option (V × Wr)
  | .d (.int k a), .d (.int k' b) => bif kEqB k k' then (match binIF op k a b with | some x => some (.d x, none) | none => none) else none
  | .d (.str a), .d (.str b) => match binS op a b with | some x => some (.d x, none) | none => none
  | _, _ => none
theorem binDF_eq (op : BinOp) (x y : V) : binDF op x y = (binD op x y).map fun v => (v, none) := by
  unfold binDF
  split
  · rename_i k a k' b
    simp only [binD, binIF_eq]
    cases h : kEqB k k' with
    | true =>
      have := kEqB_iff.1 h
      rw [if_pos this]
      cases binI op k a b <;> rfl
    | false =>
      have : ¬ k = k' := fun e => by rw [kEqB_iff.2 e] at h; cases h
      rw [if_neg this]; rfl
  · rename_i a b
    simp only [binD]
    cases binS op a b <;> rfl
  · rename_i h1 h2
    unfold binD
    split
    · exact absurd rfl (h1 _ _ _ _ rfl)
    · exact absurd rfl (h2 _ _ rfl)
    · rfl

def eLoad (H : Heap) (n : Nat) (agg : Bool) (a : V) : Option (V × Wr) := match loadC H n a with
  | some cs => match mkV agg cs with | some v => some (v, none) | none => none
  | none => none
def eStore (H : Heap) (n : Nat) (a x : V) : Option (V × Wr) := match storeC H n a x with
  | some p => some (.any, some p)
  | none => none
def ePick (c a b : V) : Option (V × Wr) := match c with
  | .d (.bool t) => some (bif t then a else b, none)
  | _ => none
def eBox (ns n : Nat) (x : V) : Option (V × Wr) := bif Nat.beq (cellsV x).length n && (cellsV x).all okC then some (.ptr ns n 0, some (ns, .cells (cellsV x))) else none
def eBuild (ρ : Opd → V) (z : List V) (ps : List (Nat × Nat × Opd)) : Option (V × Wr) := match fillC ρ z ps with
  | some cs => some (.agg cs, none)
  | none => none
def eNil (x : V) : Option (V × Wr) := match x with
  | .ptr b h off => some (.ptr b h off, none)
  | .cptr cs => some (.cptr cs, none)
  | .func f a b => some (.func f a b, none)
  | _ => none
def eEq (H : Heap) (neg : Bool) (k : EqKind) (x y : V) : Option (V × Wr) := match eqV H k x y with
  | some b => some (.d (.bool (bif neg then !b else b)), none)
  | none => none
def eFld (off n : Nat) (agg : Bool) (x : V) : Option (V × Wr) := match x with
  | .agg cs => bif Nat.ble (off + n) cs.length then (match mkV agg ((cs.drop off).take n) with | some v => some (v, none) | none => none) else none
  | _ => none
def eFaddr (off n : Nat) (x : V) : Option (V × Wr) := match x with
  | .ptr b h o => some (.ptr b h (o + off), none)
  | .cptr cs => some (.cptr ((cs.drop off).take n), none)
  | _ => none
def eIaddr (H : Heap) (sz : Nat) (x i : V) : Option (V × Wr) := match natOf i with
  | none => none
  | some j => match x with
    | .d (.list es) => (match es[j]? with
      | some e => bif Nat.beq e.length sz then some (.cptr e, none) else none
      | none => none)
    | .sl b h off len sz' => bif Nat.beq sz sz' && Nat.blt j len && liveB H b h then some (.ptr b h (off + j * sz), none) else none
    | _ => none
def eIdxS (x i : V) : Option (V × Wr) := match natOf i with
  | none => none
  | some j => match x with
    | .d (.str s) => (match s[j]? with
      | some b => some (.d (.int .u8 b.toNat), none)
      | none => none)
    | _ => none
def eExt (x : V) (i : Nat) : Option (V × Wr) := match x with
  | .tuple vs => (match vs[i]? with | some v => some (v, none) | none => none)
  | _ => none
def eLen (H : Heap) (k : LenKind) (x : V) : Option (V × Wr) := match lenV H k x with
  | some n => some (.d (.int .i64 (Int.ofNat n)), none)
  | none => none
def eAppend (H : Heap) (ns sz bytes : Nat) (x y : V) : Option (V × Wr) := match sliceC H sz y with
  | some xs => appendV H ns sz bytes x xs
  | none => none
def eUn (op : UnOp) (x : V) : Option (V × Wr) := match unV op x with | some v => some (v, none) | none => none

def effS (ρ : Opd → V) (H : Heap) (ns : Nat) : IOp → Option (V × Wr)
  | .mv x => some (ρ x, none)
  | .pick c a b => ePick (ρ c) (ρ a) (ρ b)
  | .alloc z => some (.ptr ns z.length 0, some (ns, .cells z))
  | .box n x => eBox ns n (ρ x)
  | .build z ps => eBuild ρ z ps
  | .load n agg a => eLoad H n agg (ρ a)
  | .store n a x => eStore H n (ρ a) (ρ x)
  | .nilchk x => eNil (ρ x)
  | .bin op x y => binDF op (ρ x) (ρ y)
  | .eq neg k x y => eEq H neg k (ρ x) (ρ y)
  | .un op x => eUn op (ρ x)
  | .mkfunc f a b => some (.func f (mlist ρ a) (mlist ρ b), none)
  | .fld off n agg x => eFld off n agg (ρ x)
  | .faddr off n x => eFaddr off n (ρ x)
  | .iaddr sz x i => eIaddr H sz (ρ x) (ρ i)
  | .idxS x i => eIdxS (ρ x) (ρ i)
  | .ext x i => eExt (ρ x) i
  | .len .slice x => eLen H .slice (ρ x)
  | .len .str x => eLen H .str (ρ x)
  | .append sz bytes x y => eAppend H ns sz bytes (ρ x) (ρ y)
  | op => eff ρ H ns op

theorem effS_eq (ρ : Opd → V) (H : Heap) (ns : Nat) (op : IOp) : effS ρ H ns op = eff ρ H ns op := by
  unfold effS
  split
  · rfl
  · rfl
  · rfl
  · rfl
  · rename_i z ps; simp only [eBuild, eff]; cases fillC ρ z ps <;> rfl
  · rename_i n agg a; simp only [eLoad, eff]; cases loadC H n (ρ a) with
    | none => rfl
    | some cs => simp only; cases mkV agg cs <;> rfl
  · rename_i n a x; simp only [eStore, eff]; cases storeC H n (ρ a) (ρ x) <;> rfl
  · rfl
  · simp only [binDF_eq, eff]
  · rename_i neg k x y; simp only [eEq, eff]; cases eqV H k (ρ x) (ρ y) <;> rfl
  · rename_i op x; simp only [eUn, eff]; cases unV op (ρ x) <;> rfl
  · rfl
  · rename_i off n agg x
    simp only [eFld, eff]
    cases ρ x with
    | agg cs => simp only; cases Nat.ble (off + n) cs.length with
      | true => simp only [cond_true]; cases mkV agg ((cs.drop off).take n) <;> rfl
      | false => rfl
    | _ => rfl
  · rfl
  · rfl
  · rfl
  · rename_i x i
    simp only [eExt, eff]
    cases ρ x with
    | tuple vs => simp only; cases vs[i]? <;> rfl
    | _ => rfl
  · rename_i x; simp only [eLen, eff]; cases lenV H .slice (ρ x) <;> rfl
  · rename_i x; simp only [eLen, eff]; cases lenV H .str (ρ x) <;> rfl
  · rfl
  · rfl
end Fw

/-
  The quicker run: operations, drawn regions, code, calls; and that the model does the same.
-/
set_option linter.unusedSimpArgs false
set_option linter.unusedVariables false
namespace Fw
open Go

abbrev XR := V × Heap
abbrev KN := T → Heap → Option XR

noncomputable def evoF (GL : GLT) (t : T) (x : Opd) : V :=
  match x with
  | .t n => tget t n
  | .c v => v
  | .g n => (match GL.rd n with | some cs => .cptr cs | none => .any)
  | .f f => .func f [] []

theorem evoF_eq {GL : GLT} {tm : List (Nat × V)} {t : T} (h : Sim tm t) : evoF GL t = evo GL tm := funext fun x => by
  cases x with
  | t n => simp [evoF, evo, h _]
  | c v => rfl
  | g n => simp only [evoF, evo]; cases GL.rd n <;> rfl
  | f f => rfl

noncomputable def putF (n : Nat) (dst : Option Nat) (v : V) (t : T) (H : Heap) (k : KN) : Option XR :=
  match dst with
  | none => k t H
  | some d => bif Nat.blt d n then k (tset t d v) H else none

noncomputable def guardF (gd : Option (Nat × Bool)) (t : T) (skip go : Option XR) : Option XR :=
  match gd with
  | none => go
  | some (d, want) => match tget t d with
    | .d (.bool b) => bif b then (bif want then go else skip) else (bif want then skip else go)
    | .tuple [] => skip
    | _ => none

noncomputable def opF (own : List Nat) (GL : GLT) (call : CallF) (dst : Option Nat) (op : IOp) (t : T) (H : Heap) (k : V → Heap → Option XR) : Option XR :=
  match op with
  | .call f args => (match call f (mlist (evoF GL t) args) H with | some (v, H') => k v H' | none => none)
  | .callv x args => (match evoF GL t x with
    | .func f first cap => (match call f (first ++ mlist (evoF GL t) args ++ cap) H with | some (v, H') => k v H' | none => none)
    | _ => none)
  | .mkSlice sz len z ps => (match (bif inO dst own then none else effF (evoF GL t) (.mkSlice sz len z ps)) with
    | some v => k v H
    | none => (match eff (evoF GL t) H H.length (.mkSlice sz len z ps) with | some (v, wr) => k v (happ H wr) | none => none))
  | op => (match effS (evoF GL t) H H.length op with | some (v, wr) => k v (happ H wr) | none => none)

noncomputable def stepF (own : List Nat) (GL : GLT) (call : CallF) (n : Nat) (o : IOper) (t : T) (H : Heap) (k : KN) : Option XR :=
  match o with
  | ⟨dst, op, gd, _⟩ => guardF gd t (putF n dst (.tuple []) t H k) (opF own GL call dst op t H (fun v H' => putF n dst v t H' k))

noncomputable def runOF (own : List Nat) (GL : GLT) (call : CallF) (n : Nat) (l : List IOper) : T → Heap → KN → Option XR :=
  @List.rec IOper (fun _ => T → Heap → KN → Option XR) (fun t H k => k t H) (fun o _ ih t H k => stepF own GL call n o t H (fun t' H' => ih t' H' k)) l

section
variable {P : Program} {GL : GLT}

theorem putF_ok {n : Nat} (hn : n ≤ capT) {dst : Option Nat} {v : V} {t : T} {H : Heap} {k : KN} {x : XR} {tm : List (Nat × V)} (hs : Sim tm t) (h : putF n dst v t H k = some x) :
    ∃ tm' t', Sim tm' t' ∧ k t' H = some x ∧ ∀ H0, St.put ⟨n, tm, H0⟩ dst v H = some ⟨n, tm', H⟩ := by
  unfold putF at h
  split at h
  · exact ⟨tm, t, hs, h, fun _ => rfl⟩
  · rename_i d
    cases hb : Nat.blt d n with
    | false => rw [hb] at h; cases h
    | true =>
      rw [hb] at h
      have hd : d < n := by rwa [Nat.blt_eq] at hb
      exact ⟨_, _, hs.put (by omega), h, fun H0 => by simp [St.put, hb]⟩

theorem guardF_ok {gd : Option (Nat × Bool)} {t : T} {tm : List (Nat × V)} {skip go : Option XR} {x : XR} (hs : Sim tm t) (h : guardF gd t skip go = some x) :
    (guardB gd tm = some true ∧ go = some x) ∨ (guardB gd tm = some false ∧ skip = some x) := by
  unfold guardF at h
  unfold guardB
  split at h
  · exact .inl ⟨rfl, h⟩
  · rename_i d want
    simp only [hs d]
    split at h
    · rename_i b hb
      rw [hb]
      cases b <;> cases want <;> simp at h ⊢ <;> exact h
    · rename_i hb
      rw [hb]
      exact .inr ⟨rfl, h⟩
    · cases h

theorem opF_ok {own : List Nat} {call : CallF} (hc : CallOk P GL call) {n : Nat} {dst : Option Nat} {op : IOp} {gd : Option (Nat × Bool)} {af : List Nat} {t : T} {H : Heap} {k : V → Heap → Option XR} {x : XR} {tm : List (Nat × V)} (hs : Sim tm t)
    (hg : guardB gd tm = some true) (h : opF own GL call dst op t H k = some x) :
    ∃ v H', k v H' = some x ∧ ∀ l σ' Q, St.put ⟨n, tm, H⟩ dst v H' = some σ' → WO P GL l σ' Q → WO P GL (⟨dst, op, gd, af⟩ :: l) ⟨n, tm, H⟩ Q := by
  unfold opF at h
  rw [evoF_eq hs] at h
  split at h
  · rename_i f args
    split at h
    · rename_i v H' hcall
      refine ⟨v, H', h, fun l σ' Q hp hw => WO.call rfl hg ((hc _ _ _ _ _ hcall).mono ?_)⟩
      rintro r h2 ⟨rfl, rfl⟩
      exact ⟨σ', hp, hw⟩
    · cases h
  · rename_i y args
    split at h
    · rename_i f first cap hx
      split at h
      · rename_i v H' hcall
        refine ⟨v, H', h, fun l σ' Q hp hw => WO.callv rfl hx hg ((hc _ _ _ _ _ hcall).mono ?_)⟩
        rintro r h2 ⟨rfl, rfl⟩
        exact ⟨σ', hp, hw⟩
      · cases h
    · cases h
  · rename_i sz len z ps
    split at h
    · rename_i v hv
      refine ⟨v, H, h, fun l σ' Q hp hw => WO.effF hg ?_ hp hw⟩
      cases hi : inO dst own with
      | true => rw [hi] at hv; cases hv
      | false => rw [hi] at hv; exact hv
    · split at h
      · rename_i v wr he
        exact ⟨v, _, h, fun l σ' Q hp hw => WO.eff hg he hp hw⟩
      · cases h
  · split at h
    · rename_i v wr he
      rw [effS_eq] at he
      exact ⟨v, _, h, fun l σ' Q hp hw => WO.eff hg he hp hw⟩
    · cases h

theorem runOF_ok {own : List Nat} {call : CallF} (hc : CallOk P GL call) {n : Nat} (hn : n ≤ capT) : ∀ {l : List IOper} {t : T} {H : Heap} {k : KN} {x : XR} {tm : List (Nat × V)}, Sim tm t → runOF own GL call n l t H k = some x →
    ∃ tm' t' H', Sim tm' t' ∧ WO P GL l ⟨n, tm, H⟩ (fun s => s = ⟨n, tm', H'⟩) ∧ k t' H' = some x
  | [], t, H, k, x, tm, hs, h => ⟨tm, t, H, hs, WO.nil rfl, h⟩
  | o :: l, t, H, k, x, tm, hs, h => by
    have h : stepF own GL call n o t H (fun t' H' => runOF own GL call n l t' H' k) = some x := h
    obtain ⟨dst, op, gd, af⟩ := o
    simp only [stepF] at h
    rcases guardF_ok hs h with ⟨hg, h⟩ | ⟨hg, h⟩
    · obtain ⟨v, H', h1, h2⟩ := opF_ok (n := n) (af := af) hc hs hg h
      obtain ⟨tm', t', hs', h3, h4⟩ := putF_ok hn hs h1
      obtain ⟨tm2, t2, H2, hs2, hw, hk⟩ := runOF_ok hc hn hs' h3
      exact ⟨tm2, t2, H2, hs2, h2 _ _ _ (h4 H) hw, hk⟩
    · obtain ⟨tm', t', hs', h3, h4⟩ := putF_ok hn hs h
      obtain ⟨tm2, t2, H2, hs2, hw, hk⟩ := runOF_ok hc hn hs' h3
      exact ⟨tm2, t2, H2, hs2, WO.skip hg (h4 H) hw, hk⟩
end

/-! ### Drawn regions -/

noncomputable def guardBF (gd : Option (Nat × Bool)) (t : T) : Option Bool :=
  match gd with
  | none => some true
  | some (d, want) => match tget t d with
    | .d (.bool b) => some (b == want)
    | .tuple [] => some false
    | _ => none
theorem guardBF_eq {gd : Option (Nat × Bool)} {t : T} {tm : List (Nat × V)} (hs : Sim tm t) : guardBF gd t = guardB gd tm := by
  unfold guardBF guardB
  cases gd with
  | none => rfl
  | some p => simp only [hs p.1]; rfl

noncomputable def oneDF (GL : GLT) (t : T) (H : Heap) (ns : Nat) (o : IOper) (cv : Option V) : Option (V × Wr) :=
  match guardBF o.guard t with
  | none => none
  | some false => some (.tuple [], none)
  | some true => match isCall o.op with
    | some _ => cv.map fun v => (v, none)
    | none => match cv with
      | some _ => (effF (evoF GL t) o.op).map fun v => (v, none)
      | none => effS (evoF GL t) H ns o.op
theorem oneDF_eq {GL : GLT} {t : T} {tm : List (Nat × V)} (hs : Sim tm t) {H : Heap} {ns : Nat} {o : IOper} {cv : Option V} : oneDF GL t H ns o cv = oneD GL tm H ns o cv := by
  unfold oneDF oneD
  simp only [guardBF_eq hs, evoF_eq hs, effS_eq]
  rfl

noncomputable def putTF (dst : Option Nat) (v : V) (t : T) : T := match dst with
  | none => t
  | some d => tset t d v

noncomputable def runQF (GL : GLT) (pcall : PCallF) (base : Nat) : Nat → List IOper → T → Heap → Option (List (((V × Wr) × List Nat) × Option V) × T × Heap)
  | _, [], t, H => some ([], t, H)
  | i, o :: l, t, H =>
    let cv : Option V := match isCall o.op with
      | some (f, args) => pcall f (mlist (evoF GL t) args)
      | none => effF (evoF GL t) o.op
    match oneDF GL t H (base + i) o cv with
    | none => none
    | some r => match runQF GL pcall base (i + 1) l (putTF o.dst r.1 t) (happ H r.2) with
      | none => none
      | some (rs, t', H') => some (((r, rds (evoF GL t) o.op), cv) :: rs, t', H')

theorem runQF_ok {GL : GLT} {pcall : PCallF} {base n : Nat} (hn : n ≤ capT) : ∀ {l : List IOper} {i : Nat} {t : T} {H : Heap} {tm : List (Nat × V)} {qs : List (((V × Wr) × List Nat) × Option V)} {t' : T} {H' : Heap}, Sim tm t → dstOk n l = true → runQF GL pcall base i l t H = some (qs, t', H') →
    runQ GL pcall base i l ⟨n, tm, H⟩ = some qs ∧ ∃ tm', Sim tm' t' ∧ foldK (fun _ => true) i l (qs.map (·.1)) ⟨n, tm, H⟩ = ⟨n, tm', H'⟩
  | [], i, t, H, tm, qs, t', H', hs, hd, h => by
    simp only [runQF, Option.some.injEq, Prod.mk.injEq] at h
    obtain ⟨rfl, rfl, rfl⟩ := h
    exact ⟨rfl, tm, hs, rfl⟩
  | o :: l, i, t, H, tm, qs, t', H', hs, hd, h => by
    simp only [runQF] at h
    rw [oneDF_eq hs, evoF_eq hs] at h
    simp only [dstOk, List.all_cons, Bool.and_eq_true] at hd
    split at h
    · cases h
    · rename_i r hr
      split at h
      · cases h
      · rename_i rs t2 H2 hrs
        simp only [Option.some.injEq, Prod.mk.injEq] at h
        obtain ⟨rfl, rfl, rfl⟩ := h
        have hput : ∃ tm1, Sim tm1 (putTF o.dst r.1 t) ∧ St.putT ⟨n, tm, H⟩ o.dst r.1 (happ H r.2) = ⟨n, tm1, happ H r.2⟩ := by
          cases hdst : o.dst with
          | none => exact ⟨tm, hs, rfl⟩
          | some d =>
            have h1 := hd.1
            rw [hdst] at h1
            have hlt : d < n := by simpa [Nat.blt_eq] using h1
            exact ⟨_, hs.put (by omega), rfl⟩
        obtain ⟨tm1, hs1, hp1⟩ := hput
        obtain ⟨k1, tm2, hs2, k2⟩ := runQF_ok hn (n := n) hs1 (by simpa [dstOk] using hd.2) hrs
        refine ⟨?_, tm2, hs2, ?_⟩
        · have hr' := hr
          simp only [runQ]
          have e : oneD GL tm H (base + i) o (match isCall o.op with | some (f, args) => pcall f (mlist (evo GL tm) args) | none => effF (evo GL tm) o.op) = some r := hr
          cases hic : isCall o.op with
          | none => rw [hic] at e; simp only [e, hp1, k1]
          | some p => rw [hic] at e; simp only [e, hp1, k1]
        · simp only [List.map_cons, foldK, cond_true, hp1, k2]

noncomputable def runDF (GL : GLT) (pcall : PCallF) (n : Nat) (l : List IOper) (t : T) (H : Heap) : Option (T × Heap) :=
  bif statOk l && dstOk n l then match runQF GL pcall H.length 0 l t (H ++ List.replicate l.length none) with
    | none => none
    | some (qs, t', H') => bif (noWr (qs.map (·.1)) || gOk 0 [] (dynM (qs.map (·.1))) (reaches 0 [] l)) && slotOk (H.length + l.length) (qs.map (·.1)) then some (t', H') else none
  else none

theorem runDF_ok {GL : GLT} {pcall : PCallF} {n : Nat} (hn : n ≤ capT) {l : List IOper} {t : T} {H : Heap} {tm : List (Nat × V)} {t' : T} {H' : Heap} (hs : Sim tm t) (h : runDF GL pcall n l t H = some (t', H')) :
    ∃ tm', Sim tm' t' ∧ runDraw GL pcall l ⟨n, tm, H⟩ = some ⟨n, tm', H'⟩ := by
  unfold runDF at h
  cases h1 : (statOk l && dstOk n l) with
  | false => rw [h1] at h; cases h
  | true =>
    rw [h1] at h
    simp only [cond_true] at h
    simp only [Bool.and_eq_true] at h1
    split at h
    · cases h
    · rename_i qs t2 H2 hq
      cases h2 : ((noWr (qs.map (·.1)) || gOk 0 [] (dynM (qs.map (·.1))) (reaches 0 [] l)) && slotOk (H.length + l.length) (qs.map (·.1))) with
      | false => rw [h2] at h; cases h
      | true =>
        rw [h2] at h
        simp only [cond_true, Option.some.injEq, Prod.mk.injEq] at h
        obtain ⟨rfl, rfl⟩ := h
        simp only [Bool.and_eq_true] at h2
        obtain ⟨k1, tm', hs', k2⟩ := runQF_ok hn hs h1.2 hq
        refine ⟨tm', hs', ?_⟩
        unfold runDraw
        have e1 : padSt ⟨n, tm, H⟩ l.length = ⟨n, tm, H ++ List.replicate l.length none⟩ := rfl
        simp only [e1, k1]
        have : (drawOk l (qs.map (·.1)) && dstOk n l && slotOk (H.length + l.length) (qs.map (·.1))) = true := by
          simp only [drawOk, Bool.and_eq_true]
          exact ⟨⟨⟨h1.1, h2.1⟩, h1.2⟩, h2.2⟩
        rw [this, cond_true, k2]

noncomputable def runTF (GL : GLT) (call : CallF) (pcall : PCallF) (n : Nat) (l : List IOper) (t : T) (H : Heap) (k : KN) : Option XR :=
  match l.getLast? with
  | none => none
  | some ot => match ot.op with
    | .call f args => match tailOk l.dropLast ot with
      | false => none
      | true => match runDF GL pcall n l.dropLast t H with
        | none => none
        | some (t1, H1) => match call f (mlist (evoF GL t1) args) H1 with
          | none => none
          | some (v, H') => putF n ot.dst v t1 H' k
    | _ => none

noncomputable def runDTF (GL : GLT) (call : CallF) (pcall : PCallF) (n : Nat) (l : List IOper) (t : T) (H : Heap) (k : KN) : Option XR :=
  match runDF GL pcall n l t H with
  | some (t', H') => k t' H'
  | none => runTF GL call pcall n l t H k

theorem runDTF_ok {P : Program} {GL : GLT} {call : CallF} {pcall : PCallF} (hm : P.follows .mixedOrders = true) (hc : CallOk P GL call) (hp : PCallOk P GL pcall) {n : Nat} (hn : n ≤ capT) {l : List IOper} {t : T} {H : Heap} {k : KN} {x : XR} {tm : List (Nat × V)} (hs : Sim tm t) (h : runDTF GL call pcall n l t H k = some x) :
    ∃ tm' t' H', Sim tm' t' ∧ WC P GL (.draw l) ⟨n, tm, H⟩ (fun e s => e = .normal ∧ s = ⟨n, tm', H'⟩) ∧ k t' H' = some x := by
  unfold runDTF at h
  split at h
  · rename_i t' H' hd
    obtain ⟨tm', hs', hr⟩ := runDF_ok hn hs hd
    exact ⟨tm', t', H', hs', runDraw_ok hm hp hr ⟨rfl, rfl⟩, h⟩
  · unfold runTF at h
    split at h
    · cases h
    · rename_i ot hlast
      split at h
      · rename_i f args hot
        split at h
        · cases h
        · rename_i htail
          split at h
          · cases h
          · rename_i t1 H1 hd
            split at h
            · cases h
            · rename_i v H' hcall
              obtain ⟨tm1, hs1, hr⟩ := runDF_ok hn hs hd
              rw [evoF_eq hs1] at hcall
              obtain ⟨tm', t', hs', hk, hp2⟩ := putF_ok hn hs1 h
              refine ⟨tm', t', H', hs', runTail_ok (σ' := ⟨n, tm', H'⟩) hm hc hp ?_ ⟨rfl, rfl⟩, hk⟩
              unfold runTail
              simp only [hlast, hot, htail, hr, hcall]
              exact hp2 H1
      · cases h

/-! ### Code -/

noncomputable def loopF (body : T → Heap → KN → (Nat → KN) → KN → Option XR) (m : Nat) : T → Heap → (Nat → KN) → KN → Option XR :=
  @Nat.rec (fun _ => T → Heap → (Nat → KN) → KN → Option XR) (fun _ _ _ _ => none) (fun _ ih t H ke kr => body t H (fun t' H' => ih t' H' ke kr) ke kr) m

noncomputable def condF (v : V) (a b : Option XR) : Option XR := match v with
  | .d (.bool t) => bif t then a else b
  | _ => none

noncomputable def runCF (own : List Nat) (GL : GLT) (call : CallF) (pcall : PCallF) (m n : Nat) (c : IR) : T → Heap → KN → (Nat → KN) → KN → Option XR :=
  @IR.rec (fun _ => T → Heap → KN → (Nat → KN) → KN → Option XR)
    (fun t H kn _ _ => kn t H)
    (fun l t H kn _ _ => runOF own GL call n l t H kn)
    (fun l t H kn _ _ => runDTF GL call pcall n l t H kn)
    (fun _ _ ia ib t H kn ke kr => ia t H (fun t' H' => ib t' H' kn ke kr) ke kr)
    (fun c _ _ ia ib t H kn ke kr => condF (evoF GL t c) (ia t H kn ke kr) (ib t H kn ke kr))
    (fun id _ ib t H kn ke kr => ib t H kn (fun i t' H' => bif Nat.beq i id then kn t' H' else ke i t' H') kr)
    (fun _ ib t H _ ke kr => loopF ib m t H ke kr)
    (fun id t H _ ke _ => ke id t H)
    (fun t H _ _ kr => kr t H) c

def OutK (kn : KN) (ke : Nat → KN) (kr : KN) (e : Ex) (t : T) (H : Heap) : Option XR := match e with
  | .normal => kn t H
  | .exit i => ke i t H
  | .ret => kr t H

/-- rounds of a loop that end in e at s' -/
def LoopTo (P : Program) (GL : GLT) (b : IR) (e : Ex) (s' : St) : Nat → St → Prop
  | 0, _ => False
  | k + 1, s => WC P GL b s (fun e1 s1 => match e1 with
    | .normal => LoopTo P GL b e s' k s1
    | e1 => e1 = e ∧ s1 = s')

theorem LoopTo.wc {P : Program} {GL : GLT} {b : IR} {e : Ex} {s' : St} {k : Nat} {s : St} (h : LoopTo P GL b e s' k s) : WC P GL (.loop b) s (fun e1 s1 => e1 = e ∧ s1 = s') := by
  refine WC.loop (fun m s => LoopTo P GL b e s' m s) (fun m s hm => ?_) h
  cases m with
  | zero => exact hm.elim
  | succ m =>
    refine WC.mono hm ?_
    intro e1 s1 h1
    cases e1 with
    | normal => exact ⟨m, by omega, h1⟩
    | exit i => exact h1
    | ret => exact h1

theorem runCF_ok {P : Program} {GL : GLT} {own : List Nat} {call : CallF} {pcall : PCallF} (hm : P.follows .mixedOrders = true) (hc : CallOk P GL call) (hp : PCallOk P GL pcall) {m n : Nat} (hn : n ≤ capT) : ∀ {c : IR} {t : T} {H : Heap} {kn : KN} {ke : Nat → KN} {kr : KN} {x : XR} {tm : List (Nat × V)}, Sim tm t → runCF own GL call pcall m n c t H kn ke kr = some x →
    ∃ e tm' t' H', Sim tm' t' ∧ WC P GL c ⟨n, tm, H⟩ (fun e' s => e' = e ∧ s = ⟨n, tm', H'⟩) ∧ OutK kn ke kr e t' H' = some x
  | .skip, t, H, kn, ke, kr, x, tm, hs, h => ⟨.normal, tm, t, H, hs, WC.skip ⟨rfl, rfl⟩, h⟩
  | .region l, t, H, kn, ke, kr, x, tm, hs, h => by
    obtain ⟨tm', t', H', hs', hw, hk⟩ := runOF_ok hc hn hs (show runOF own GL call n l t H kn = some x from h)
    refine ⟨.normal, tm', t', H', hs', WC.region ?_, hk⟩
    intro ops k h1 g w a hr
    exact wpOps_monoQ (fun e a w hp => postC.mono (fun e s hq => by cases e with | normal => exact ⟨rfl, hq⟩ | exit i => exact hq.elim | ret => exact hq.elim) e a w hp) _ _ _ (hw ops k h1 g w a hr)
  | .draw l, t, H, kn, ke, kr, x, tm, hs, h => by
    obtain ⟨tm', t', H', hs', hw, hk⟩ := runDTF_ok hm hc hp hn hs (show runDTF GL call pcall n l t H kn = some x from h)
    exact ⟨.normal, tm', t', H', hs', hw, hk⟩
  | .seq a b, t, H, kn, ke, kr, x, tm, hs, h => by
    obtain ⟨e, tm', t', H', hs', hw, hk⟩ := runCF_ok hm hc hp hn hs (show runCF own GL call pcall m n a t H (fun t' H' => runCF own GL call pcall m n b t' H' kn ke kr) ke kr = some x from h)
    cases e with
    | normal =>
      obtain ⟨e2, tm2, t2, H2, hs2, hw2, hk2⟩ := runCF_ok hm hc hp hn hs' (show runCF own GL call pcall m n b t' H' kn ke kr = some x from hk)
      refine ⟨e2, tm2, t2, H2, hs2, WC.seq (hw.mono ?_), hk2⟩
      rintro e' s' ⟨rfl, rfl⟩
      exact hw2
    | exit i =>
      refine ⟨.exit i, tm', t', H', hs', WC.seq (hw.mono ?_), hk⟩
      rintro e' s' ⟨rfl, rfl⟩
      exact ⟨rfl, rfl⟩
    | ret =>
      refine ⟨.ret, tm', t', H', hs', WC.seq (hw.mono ?_), hk⟩
      rintro e' s' ⟨rfl, rfl⟩
      exact ⟨rfl, rfl⟩
  | .cond c a b, t, H, kn, ke, kr, x, tm, hs, h => by
    have h : condF (evoF GL t c) (runCF own GL call pcall m n a t H kn ke kr) (runCF own GL call pcall m n b t H kn ke kr) = some x := h
    rw [evoF_eq hs] at h
    unfold condF at h
    split at h
    · rename_i tb hv
      cases tb with
      | true =>
        obtain ⟨e, tm', t', H', hs', hw, hk⟩ := runCF_ok hm hc hp hn hs (show runCF own GL call pcall m n a t H kn ke kr = some x from h)
        exact ⟨e, tm', t', H', hs', WC.cond hv hw, hk⟩
      | false =>
        obtain ⟨e, tm', t', H', hs', hw, hk⟩ := runCF_ok hm hc hp hn hs (show runCF own GL call pcall m n b t H kn ke kr = some x from h)
        exact ⟨e, tm', t', H', hs', WC.cond hv hw, hk⟩
    · cases h
  | .block id b, t, H, kn, ke, kr, x, tm, hs, h => by
    obtain ⟨e, tm', t', H', hs', hw, hk⟩ := runCF_ok hm hc hp hn hs (show runCF own GL call pcall m n b t H kn (fun i t' H' => bif Nat.beq i id then kn t' H' else ke i t' H') kr = some x from h)
    cases e with
    | normal =>
      refine ⟨.normal, tm', t', H', hs', WC.block (hw.mono ?_), hk⟩
      rintro e' s' ⟨rfl, rfl⟩
      exact ⟨rfl, rfl⟩
    | exit i =>
      have hk : (bif Nat.beq i id then kn t' H' else ke i t' H') = some x := hk
      by_cases hi : i = id
      · subst hi
        rw [Nat.beq_refl, cond_true] at hk
        refine ⟨.normal, tm', t', H', hs', WC.block (hw.mono ?_), hk⟩
        rintro e' s' ⟨rfl, rfl⟩
        show if i = i then _ else _
        rw [if_pos rfl]; exact ⟨rfl, rfl⟩
      · rw [beq_ff hi, cond_false] at hk
        refine ⟨.exit i, tm', t', H', hs', WC.block (hw.mono ?_), hk⟩
        rintro e' s' ⟨rfl, rfl⟩
        show if i = id then _ else _
        rw [if_neg hi]; exact ⟨rfl, rfl⟩
    | ret =>
      refine ⟨.ret, tm', t', H', hs', WC.block (hw.mono ?_), hk⟩
      rintro e' s' ⟨rfl, rfl⟩
      exact ⟨rfl, rfl⟩
  | .loop b, t, H, kn, ke, kr, x, tm, hs, h => by
    have h : loopF (runCF own GL call pcall m n b) m t H ke kr = some x := h
    have key : ∀ (k : Nat) (t : T) (H : Heap) (tm : List (Nat × V)), Sim tm t → loopF (runCF own GL call pcall m n b) k t H ke kr = some x →
        ∃ e tm' t' H', Sim tm' t' ∧ LoopTo P GL b e ⟨n, tm', H'⟩ k ⟨n, tm, H⟩ ∧ OutK kn ke kr e t' H' = some x := by
      intro k
      induction k with
      | zero => intro t H tm _ h0; cases h0
      | succ k ih =>
        intro t H tm hs h0
        have h0 : runCF own GL call pcall m n b t H (fun t' H' => loopF (runCF own GL call pcall m n b) k t' H' ke kr) ke kr = some x := h0
        obtain ⟨e, tm', t', H', hs', hw, hk⟩ := runCF_ok hm hc hp hn hs h0
        cases e with
        | normal =>
          obtain ⟨e2, tm2, t2, H2, hs2, hw2, hk2⟩ := ih t' H' tm' hs' hk
          refine ⟨e2, tm2, t2, H2, hs2, WC.mono hw ?_, hk2⟩
          rintro e' s' ⟨rfl, rfl⟩
          exact hw2
        | exit i =>
          refine ⟨.exit i, tm', t', H', hs', WC.mono hw ?_, hk⟩
          rintro e' s' ⟨rfl, rfl⟩
          exact ⟨rfl, rfl⟩
        | ret =>
          refine ⟨.ret, tm', t', H', hs', WC.mono hw ?_, hk⟩
          rintro e' s' ⟨rfl, rfl⟩
          exact ⟨rfl, rfl⟩
    obtain ⟨e, tm', t', H', hs', hw, hk⟩ := key m t H tm hs h
    exact ⟨e, tm', t', H', hs', hw.wc, hk⟩
  | .exit id, t, H, kn, ke, kr, x, tm, hs, h => ⟨.exit id, tm, t, H, hs, WC.exit ⟨rfl, rfl⟩, h⟩
  | .ret, t, H, kn, ke, kr, x, tm, hs, h => ⟨.ret, tm, t, H, hs, WC.ret ⟨rfl, rfl⟩, h⟩

/-! ### Tables -/

inductive FT (α : Type) where
  | e
  | n (l : FT α) (k : Nat) (a : α) (r : FT α)

noncomputable def ftget {α : Type} (t : FT α) (f : Nat) : Option α :=
  @FT.rec α (fun _ => Option α) none (fun _ k a _ il ir => @Bool.rec (fun _ => Option α) (@Bool.rec (fun _ => Option α) ir il (Nat.ble f k)) (some a) (Nat.beq f k)) t

def FtAll {α : Type} (p : Nat → α → Prop) : FT α → Prop
  | .e => True
  | .n l k a r => FtAll p l ∧ p k a ∧ FtAll p r

theorem ftget_all {α : Type} {p : Nat → α → Prop} : ∀ {t : FT α} {f : Nat} {a : α}, FtAll p t → ftget t f = some a → p f a
  | .e, f, a, _, h => by cases h
  | .n l k b r, f, a, ht, h => by
    have h : @Bool.rec (fun _ => Option α) (@Bool.rec (fun _ => Option α) (ftget r f) (ftget l f) (Nat.ble f k)) (some b) (Nat.beq f k) = some a := h
    cases h1 : Nat.beq f k with
    | true =>
      rw [h1] at h
      have := Nat.eq_of_beq_eq_true h1; subst this
      simp only [Option.some.injEq] at h; subst h
      exact ht.2.1
    | false =>
      rw [h1] at h
      cases h2 : Nat.ble f k with
      | true => rw [h2] at h; exact ftget_all ht.1 h
      | false => rw [h2] at h; exact ftget_all ht.2.2 h

noncomputable def prT (t : FT (List V → Option V)) : PCallF := fun f args => match ftget t f with
  | some s => s args
  | none => none

theorem prT_ok {P : Program} {GL : GLT} {t : FT (List V → Option V)} (h : FtAll (fun f s => ∀ args v, s args = some v → PC P GL f args v) t) : PCallOk P GL (prT t) := by
  intro f args v hv
  unfold prT at hv
  split at hv
  · rename_i s hs
    exact ftget_all h hs _ _ hv
  · cases hv

/-! ### Calls -/

noncomputable def resOneF (t : T) (H : Heap) : IRes → Option V
  | .t n => some (tget t n)
  | .cell n size agg => match loadC H size (tget t n) with
    | some cs => mkV agg cs
    | none => none
noncomputable def resF (rs : List IRes) (t : T) (H : Heap) : Option XR :=
  match mapO (resOneF t H) rs with
  | some [v] => some (v, H)
  | some vs => some (.tuple vs, H)
  | none => none
theorem resF_ok {rs : List IRes} {n : Nat} {t : T} {H : Heap} {tm : List (Nat × V)} {x : XR} (hs : Sim tm t) (h : resF rs t H = some x) : resV rs ⟨n, tm, H⟩ = some x.1 ∧ x.2 = H := by
  have e : resOneF t H = resOne ⟨n, tm, H⟩ := funext fun r => by
    cases r with
    | t n => simp only [resOneF, resOne, hs _]
    | cell n size agg => simp only [resOneF, resOne, hs _]; cases loadC H size (tget t n) <;> rfl
  unfold resF at h
  unfold resV
  rw [e] at h
  split at h
  · rename_i v hv
    simp only [Option.some.injEq] at h; subst h
    rw [hv]; exact ⟨rfl, rfl⟩
  · rename_i vs hne hv
    simp only [Option.some.injEq] at h; subst h
    rw [hv]
    refine ⟨?_, rfl⟩
    split
    · rename_i v heq
      simp only [Option.some.injEq] at heq
      exact (hne v heq).elim
    · rename_i vs' _ heq; simp only [Option.some.injEq] at heq; rw [heq]
    · rename_i heq; cases heq
  · cases h

/-- the functions' run over calls that are made out of it -/
noncomputable def rawG (owns : FuncId → List Nat) (GL : GLT) (fns : FT IFn) (mk : CallF → CallF) (mkp : CallF → PCallF) (m : Nat) (d : Nat) : CallF :=
  @Nat.rec (fun _ => CallF) (fun _ _ _ => none)
    (fun _ ih f args H => match ftget fns f with
      | none => none
      | some fn => bif Nat.ble args.length fn.ntmps && Nat.ble fn.ntmps capT then
          runCF (owns f) GL (mk ih) (mkp ih) m fn.ntmps fn.body (treeA 0 args .e) H (fun t H => resF fn.res t H) (fun _ _ _ => none) (fun t H => resF fn.res t H)
        else none) d

theorem rawG_ok {P : Program} {GL : GLT} {owns : FuncId → List Nat} {fns : FT IFn} {mk : CallF → CallF} {mkp : CallF → PCallF} (hm : P.follows .mixedOrders = true) (hf : FtAll (fun f fn => compFn P f = some fn ∧ callable P f = true) fns)
    (hmk : ∀ raw, CallOk P GL raw → CallOk P GL (mk raw)) (hmkp : ∀ raw, CallOk P GL raw → PCallOk P GL (mkp raw)) (m : Nat) : ∀ d, CallOk P GL (rawG owns GL fns mk mkp m d)
  | 0 => by intro f args H v H' h; cases h
  | d + 1 => by
    intro f args H v H' h
    have ih := rawG_ok (owns := owns) hm hf hmk hmkp m d
    have h : (match ftget fns f with
      | none => none
      | some fn => bif Nat.ble args.length fn.ntmps && Nat.ble fn.ntmps capT then
          runCF (owns f) GL (mk (rawG owns GL fns mk mkp m d)) (mkp (rawG owns GL fns mk mkp m d)) m fn.ntmps fn.body (treeA 0 args .e) H (fun t H => resF fn.res t H) (fun _ _ _ => none) (fun t H => resF fn.res t H)
        else none) = some (v, H') := h
    split at h
    · cases h
    · rename_i fn hfn
      obtain ⟨h1, h2⟩ := ftget_all hf hfn
      cases hb : (Nat.ble args.length fn.ntmps && Nat.ble fn.ntmps capT) with
      | false => rw [hb] at h; cases h
      | true =>
        rw [hb] at h
        simp only [cond_true] at h
        simp only [Bool.and_eq_true] at hb
        have hb1 := Nat.le_of_ble_eq_true hb.1
        have hb2 := Nat.le_of_ble_eq_true hb.2
        obtain ⟨e, tm', t', H2, hs', hw, hk⟩ := runCF_ok hm (hmk _ ih) (hmkp _ ih) hb2 (Sim.args args (by omega)) h
        refine WF.body h1 h2 hb1 (hw.mono ?_)
        rintro e' s' ⟨rfl, rfl⟩
        cases e' with
        | normal =>
          obtain ⟨k1, k2⟩ := resF_ok (n := fn.ntmps) hs' (show resF fn.res t' H2 = some (v, H') from hk)
          exact ⟨v, k1, rfl, k2.symm⟩
        | exit i => cases (show (none : Option XR) = some (v, H') from hk)
        | ret =>
          obtain ⟨k1, k2⟩ := resF_ok (n := fn.ntmps) hs' (show resF fn.res t' H2 = some (v, H') from hk)
          exact ⟨v, k1, rfl, k2.symm⟩

abbrev Extra := FT (List V → Option V)

/-- a table of answers ahead of another -/
noncomputable def primX (ex : Extra) (prim : PCallF) : PCallF := fun f args =>
  match ftget ex f with
  | none => prim f args
  | some s => match s args with
    | some v => some v
    | none => prim f args

/-- calls: a few functions (those of kt) by tables and hooks, all others plainly -/
noncomputable def mkC (kt : FT Nat) (ex : Extra) (rf : FuncId → Bool) (hook : Hook) (prim : PCallF) (raw : CallF) : CallF := fun f args H =>
  match ftget kt f with
  | none => callOf0 (fun _ => false) (fun _ _ => none) raw f args H
  | some _ => match primX ex (fun _ _ => none) f args with
    | some v => some (v, H)
    | none => callOf rf hook (primX ex prim) raw f args H
noncomputable def mkPC (kt : FT Nat) (ex : Extra) (prim : PCallF) (raw : CallF) : PCallF := fun f args =>
  match ftget kt f with
  | none => pcallOf (fun _ _ => none) raw f args
  | some _ => pcallOf (primX ex prim) raw f args

def ExOk (P : Program) (GL : GLT) (ex : Extra) : Prop := FtAll (fun f s => ∀ args v, s args = some v → PC P GL f args v) ex

section
variable {P : Program} {GL : GLT}
theorem primX_ok {ex : Extra} {prim : PCallF} (he : ExOk P GL ex) (hp : PCallOk P GL prim) : PCallOk P GL (primX ex prim) := by
  intro f args v h
  unfold primX at h
  split at h
  · exact hp _ _ _ h
  · rename_i s hs
    split at h
    · rename_i u hu
      simp only [Option.some.injEq] at h; subst h
      exact ftget_all he hs _ _ hu
    · exact hp _ _ _ h
theorem noP_ok' : PCallOk P GL (fun _ _ => none) := by intro f a v h; cases h
theorem mkC_ok {kt : FT Nat} {ex : Extra} {rf : FuncId → Bool} {hook : Hook} {prim : PCallF} (he : ExOk P GL ex) (hh : HookOk P GL hook) (hp : PCallOk P GL prim) : ∀ raw, CallOk P GL raw → CallOk P GL (mkC kt ex rf hook prim raw) := by
  intro raw hr f args H v H' h
  unfold mkC at h
  split at h
  · exact callOf0_ok noP_ok' hr _ _ _ _ _ h
  · split at h
    · rename_i u hu
      simp only [Option.some.injEq, Prod.mk.injEq] at h
      obtain ⟨rfl, rfl⟩ := h
      exact WF.ofPC (primX_ok he noP_ok' _ _ _ hu) ⟨rfl, rfl⟩
    · exact callOf_ok hh (primX_ok he hp) hr _ _ _ _ _ h
theorem mkPC_ok {kt : FT Nat} {ex : Extra} {prim : PCallF} (he : ExOk P GL ex) (hp : PCallOk P GL prim) : ∀ raw, CallOk P GL raw → PCallOk P GL (mkPC kt ex prim raw) := by
  intro raw hr f args v h
  unfold mkPC at h
  split at h
  · exact pcallOf_ok noP_ok' hr _ _ _ h
  · exact pcallOf_ok (primX_ok he hp) hr _ _ _ h
end
end Fw

/-
  Pieces of code by the quicker run: from a state told by a few slots to another, or to a function's result.
-/
set_option linter.unusedSimpArgs false
set_option linter.unusedVariables false
namespace Fw
open Go

noncomputable def treeL : List (Nat × V) → T
  | [] => .e
  | (s, u) :: l => tset (treeL l) s u
def keysOk (tm : List (Nat × V)) : Bool := tm.all fun p => Nat.blt p.1 capT
theorem Sim.tree : ∀ {tm : List (Nat × V)}, keysOk tm = true → Sim tm (treeL tm)
  | [], _ => Sim.nil
  | (s, u) :: l, h => fun t => by
    simp only [keysOk, List.all_cons, Bool.and_eq_true] at h
    have hs : s < capT := by simpa [Nat.blt_eq] using h.1
    rw [get_cons, treeL, tget_tset _ _ _ _ hs, Sim.tree (by simpa [keysOk] using h.2) t]
    by_cases e : s = t
    · subst e; simp
    · rw [if_neg e, if_neg (fun e' => e e'.symm)]

/-- slots of which something is known; nothing is known of the others -/
def mkSt : List Nat → List V → List (Nat × V)
  | k :: ks, v :: vs => (k, v) :: mkSt ks vs
  | _, _ => []

theorem mkSt_get {t : T} (s : Nat) : ∀ (ks : List Nat), get (mkSt ks (ks.map (tget t))) s = tget t s ∨ get (mkSt ks (ks.map (tget t))) s = .any
  | [] => .inr rfl
  | k :: ks => by
    simp only [List.map_cons, mkSt, get_cons]
    by_cases e : k = s
    · subst e; rw [if_pos rfl]; exact .inl rfl
    · rw [if_neg e]; exact mkSt_get s ks

theorem R.weak {GL : GLT} {g : G} {w : World} {a : Act} {n : Nat} {tm tm2 : List (Nat × V)} {H : Heap} (hw : ∀ s, get tm2 s = get tm s ∨ get tm2 s = .any) (h : R GL g w a ⟨n, tm, H⟩) : R GL g w a ⟨n, tm2, H⟩ :=
  ⟨h.defers, h.size, fun t => by
    show RV g w (get tm2 t) _
    rcases hw t with e | e
    · rw [e]; exact h.tmps t
    · rw [e]; simp only [RV], h.heap, h.globs⟩

theorem Tidy.weak {m n : Nat} {tm tm2 : List (Nat × V)} {H : Heap} (hw : ∀ s, get tm2 s = get tm s ∨ get tm2 s = .any) : Tidy m ⟨n, tm, H⟩ ⟨n, tm2, H⟩ :=
  fun _ g _ _ hr => ⟨g, hr.weak hw, fun _ _ _ he => he⟩

section
variable {P : Program} {GL : GLT}

theorem WC.weak {c : IR} {n : Nat} {tm tm2 : List (Nat × V)} {H : Heap} {Q : Ex → St → Prop} (hw : ∀ s, get tm2 s = get tm s ∨ get tm2 s = .any) (h : WC P GL c ⟨n, tm2, H⟩ Q) : WC P GL c ⟨n, tm, H⟩ Q :=
  WC.tidy (Tidy.weak hw) h

/-- keep a few slots -/
theorem WC.keep {c : IR} {n : Nat} {tm : List (Nat × V)} {H : Heap} {Q : Ex → St → Prop} (ks : List Nat) (h : WC P GL c ⟨n, keepTm ks tm, H⟩ Q) : WC P GL c ⟨n, tm, H⟩ Q :=
  WC.weak (fun s => get_keepTm ks s tm) h

theorem WC.runK {own : List Nat} {call : CallF} {pcall : PCallF} (hm : P.follows .mixedOrders = true) (hc : CallOk P GL call) (hp : PCallOk P GL pcall) {m n : Nat} (hn : n ≤ capT) {c : IR} {tm : List (Nat × V)} {H H' : Heap} {vals : List V} {Q : Ex → St → Prop} (ks : List Nat)
    (hk : keysOk tm = true) (h : runCF own GL call pcall m n c (treeL tm) H (fun t' H' => some (.tuple (ks.map (tget t')), H')) (fun _ _ _ => none) (fun _ _ => none) = some (.tuple vals, H')) (hq : Q .normal ⟨n, mkSt ks vals, H'⟩) : WC P GL c ⟨n, tm, H⟩ Q := by
  obtain ⟨e, tm', t', H2, hs', hw, hk⟩ := runCF_ok hm hc hp hn (Sim.tree hk) h
  cases e with
  | exit i => cases (show (none : Option XR) = some (V.tuple vals, H') from hk)
  | ret => cases (show (none : Option XR) = some (V.tuple vals, H') from hk)
  | normal =>
    have hk : some (V.tuple (ks.map (tget t')), H2) = some (V.tuple vals, H') := hk
    simp only [Option.some.injEq, Prod.mk.injEq, V.tuple.injEq] at hk
    obtain ⟨rfl, rfl⟩ := hk
    refine WC.post (hw.mono ?_)
    rintro e' s' ⟨rfl, rfl⟩
    refine ⟨_, Tidy.weak (fun s => ?_), hq⟩
    rw [hs' s]
    exact mkSt_get s ks

theorem WC.runRet {own : List Nat} {call : CallF} {pcall : PCallF} (hm : P.follows .mixedOrders = true) (hc : CallOk P GL call) (hp : PCallOk P GL pcall) {m n : Nat} (hn : n ≤ capT) {c : IR} {tm : List (Nat × V)} {H H' : Heap} {rs : List IRes} {v r : V}
    (hk : keysOk tm = true) (h : runCF own GL call pcall m n c (treeL tm) H (fun t H => resF rs t H) (fun _ _ _ => none) (fun t H => resF rs t H) = some (v, H')) (hd : deepV H' v = some r) :
    WC P GL c ⟨n, tm, H⟩ (fun e σ => match e with | .exit _ => False | _ => (resV rs σ).bind (deepV σ.hp) = some r) := by
  obtain ⟨e, tm', t', H2, hs', hw, hk⟩ := runCF_ok hm hc hp hn (Sim.tree hk) h
  refine hw.mono ?_
  rintro e' s' ⟨rfl, rfl⟩
  cases e' with
  | normal =>
    obtain ⟨k1, k2⟩ := resF_ok (n := n) hs' (show resF rs t' H2 = some (v, H') from hk)
    simp only at k2; subst k2
    simp only [k1, Option.bind_some, hd]
  | exit i => cases (show (none : Option XR) = some (v, H') from hk)
  | ret =>
    obtain ⟨k1, k2⟩ := resF_ok (n := n) hs' (show resF rs t' H2 = some (v, H') from hk)
    simp only at k2; subst k2
    simp only [k1, Option.bind_some, hd]

/-- an argument of which nothing need be known -/
theorem RVs.anyOf {g : G} {w : World} : ∀ {as bs : List V} {vs : List Value}, (∀ (i : Nat) (b : V), bs[i]? = some b → b = .any ∨ as[i]? = some b) → as.length = bs.length → RVs g w as vs → RVs g w bs vs
  | [], [], [], _, _, h => h
  | a :: as, b :: bs, v :: vs, hab, hl, h => by
    simp only [RVs] at h ⊢
    refine ⟨?_, RVs.anyOf (fun i c hc => hab (i + 1) c (by simpa using hc)) (by simpa using hl) h.2⟩
    rcases hab 0 b rfl with e | e
    · rw [e]; simp only [RV]
    · simp only [List.getElem?_cons_zero, Option.some.injEq] at e; rw [← e]; exact h.1
  | [], [], _ :: _, _, _, h => by simp only [RVs] at h
  | _ :: _, _ :: _, [], _, _, h => by simp only [RVs] at h
  | [], _ :: _, _, _, hl, _ => by simp at hl
  | _ :: _, [], _, _, hl, _ => by simp at hl

theorem PC.anyOf {f : FuncId} {as bs : List V} {v : V} (h : PC P GL f bs v) (hab : ∀ (i : Nat) (b : V), bs[i]? = some b → b = .any ∨ as[i]? = some b) (hl : as.length = bs.length) : PC P GL f as v :=
  ⟨h.1, fun g w vs hvs => h.2 g w vs (RVs.anyOf hab hl hvs)⟩

end
end Fw

/-
  The quicker run, made ready once for each text of code: what an operation does, as a small function of slots and boxes.
-/
set_option linter.unusedSimpArgs false
set_option linter.unusedVariables false
namespace Fw
open Go

inductive Bx (α : Type) where
  | mk (a : α)

structure Env where
  GL : GLT
  call : CallF
  pcall : PCallF

abbrev VK := V → Heap → Option XR

/-! ### slots -/

noncomputable def getC (k : Nat) : Nat → Bx (T → V) :=
  @Nat.rec (fun _ => Nat → Bx (T → V)) (fun i => .mk (fun t => tget t i))
    (fun _ ih i => @Nat.rec (fun _ => Bx (T → V)) (.mk (fun t => @T.rec (fun _ => V) .any (fun _ v _ _ _ => v) t))
      (fun j _ => @Bx.rec (T → V) (fun _ => Bx (T → V)) (fun g => @Nat.rec (fun _ => Bx (T → V)) (.mk (fun t => @T.rec (fun _ => V) .any (fun l _ _ _ _ => g l) t)) (fun _ _ => .mk (fun t => @T.rec (fun _ => V) .any (fun _ _ r _ _ => g r) t)) (Nat.land j 1)) (ih (Nat.shiftRight j 1))) i) k

theorem getC_eq : ∀ (k i : Nat), ∃ g, getC k i = .mk g ∧ ∀ t, g t = tget t i
  | 0, i => ⟨_, rfl, fun _ => rfl⟩
  | k + 1, 0 => ⟨_, rfl, fun t => by cases t <;> rfl⟩
  | k + 1, j + 1 => by
    have h1 : Nat.shiftRight j 1 = j / 2 := by show j >>> 1 = _; simp [Nat.shiftRight_eq_div_pow]
    have h2 : Nat.land j 1 = j % 2 := Nat.and_one_is_mod j
    obtain ⟨g, hg, hg2⟩ := getC_eq k (Nat.shiftRight j 1)
    have h : getC (k + 1) (j + 1) = @Bx.rec (T → V) (fun _ => Bx (T → V)) (fun g => @Nat.rec (fun _ => Bx (T → V)) (.mk (fun t => @T.rec (fun _ => V) .any (fun l _ _ _ _ => g l) t)) (fun _ _ => .mk (fun t => @T.rec (fun _ => V) .any (fun _ _ r _ _ => g r) t)) (Nat.land j 1)) (getC k (Nat.shiftRight j 1)) := rfl
    rw [h, hg]
    rw [h1] at hg2
    rcases Nat.mod_two_eq_zero_or_one j with hj | hj
    · rw [h2, hj]
      refine ⟨_, rfl, fun t => ?_⟩
      cases t with
      | e => rfl
      | n l u r => rw [tget_ns, if_pos hj]; exact hg2 l
    · rw [h2, hj]
      refine ⟨_, rfl, fun t => ?_⟩
      cases t with
      | e => rfl
      | n l u r => rw [tget_ns, if_neg (by omega)]; exact hg2 r

noncomputable def setC (k : Nat) : Nat → Bx (T → V → T) :=
  @Nat.rec (fun _ => Nat → Bx (T → V → T)) (fun i => .mk (fun t _ => t))
    (fun _ ih i => @Nat.rec (fun _ => Bx (T → V → T)) (.mk (fun t v => @T.rec (fun _ => T) (.n .e v .e) (fun l _ r _ _ => .n l v r) t))
      (fun j _ => @Bx.rec (T → V → T) (fun _ => Bx (T → V → T)) (fun g => @Nat.rec (fun _ => Bx (T → V → T))
        (.mk (fun t v => @T.rec (fun _ => T) (.n (g .e v) .any .e) (fun l u r _ _ => .n (g l v) u r) t))
        (fun _ _ => .mk (fun t v => @T.rec (fun _ => T) (.n .e .any (g .e v)) (fun l u r _ _ => .n l u (g r v)) t)) (Nat.land j 1)) (ih (Nat.shiftRight j 1))) i) k

theorem setC_eq : ∀ (k i : Nat), ∃ g, setC k i = .mk g ∧ ∀ t v, g t v = tput k t i v
  | 0, i => ⟨_, rfl, fun _ _ => rfl⟩
  | k + 1, 0 => ⟨_, rfl, fun t v => by cases t <;> rfl⟩
  | k + 1, j + 1 => by
    have h1 : Nat.shiftRight j 1 = j / 2 := by show j >>> 1 = _; simp [Nat.shiftRight_eq_div_pow]
    have h2 : Nat.land j 1 = j % 2 := Nat.and_one_is_mod j
    obtain ⟨g, hg, hg2⟩ := setC_eq k (Nat.shiftRight j 1)
    have h : setC (k + 1) (j + 1) = @Bx.rec (T → V → T) (fun _ => Bx (T → V → T)) (fun g => @Nat.rec (fun _ => Bx (T → V → T))
        (.mk (fun t v => @T.rec (fun _ => T) (.n (g .e v) .any .e) (fun l u r _ _ => .n (g l v) u r) t))
        (fun _ _ => .mk (fun t v => @T.rec (fun _ => T) (.n .e .any (g .e v)) (fun l u r _ _ => .n l u (g r v)) t)) (Nat.land j 1)) (setC k (Nat.shiftRight j 1)) := rfl
    rw [h, hg]
    rw [h1] at hg2
    rcases Nat.mod_two_eq_zero_or_one j with hj | hj
    · rw [h2, hj]
      refine ⟨_, rfl, fun t v => ?_⟩
      cases t with
      | e => rw [tput_es, if_pos hj, ← hg2]
      | n l u r => rw [tput_ns, if_pos hj, ← hg2]
    · rw [h2, hj]
      refine ⟨_, rfl, fun t v => ?_⟩
      cases t with
      | e => rw [tput_es, if_neg (by omega), ← hg2]
      | n l u r => rw [tput_ns, if_neg (by omega), ← hg2]

/-! ### operands -/

noncomputable def opdC (x : Opd) : Bx (Env → T → V) :=
  @Opd.rec (fun _ => Bx (Env → T → V)) (fun n => @Bx.rec (T → V) (fun _ => Bx (Env → T → V)) (fun g => .mk (fun _ t => g t)) (getC 12 n)) (fun v => .mk (fun _ _ => v))
    (fun n => .mk (fun E t => evoF E.GL t (.g n))) (fun f => .mk (fun _ _ => .func f [] [])) x

theorem opdC_eq (x : Opd) : ∃ f, opdC x = .mk f ∧ ∀ E t, f E t = evoF E.GL t x := by
  cases x with
  | t n =>
    obtain ⟨g, hg, hg2⟩ := getC_eq 12 n
    have h : opdC (.t n) = @Bx.rec (T → V) (fun _ => Bx (Env → T → V)) (fun g => .mk (fun _ t => g t)) (getC 12 n) := rfl
    rw [h, hg]
    exact ⟨_, rfl, fun E t => hg2 t⟩
  | c v => exact ⟨_, rfl, fun _ _ => rfl⟩
  | g n => exact ⟨_, rfl, fun _ _ => rfl⟩
  | f f => exact ⟨_, rfl, fun _ _ => rfl⟩

noncomputable def argsC (l : List Opd) : Bx (Env → T → List V) :=
  @List.rec Opd (fun _ => Bx (Env → T → List V)) (.mk (fun _ _ => []))
    (fun x _ ih => @Bx.rec (Env → T → V) (fun _ => Bx (Env → T → List V)) (fun f => @Bx.rec (Env → T → List V) (fun _ => Bx (Env → T → List V)) (fun g => .mk (fun E t => f E t :: g E t)) ih) (opdC x)) l
theorem argsC_eq : ∀ (l : List Opd), ∃ f, argsC l = .mk f ∧ ∀ E t, f E t = mlist (evoF E.GL t) l
  | [] => ⟨_, rfl, fun _ _ => rfl⟩
  | x :: l => by
    obtain ⟨f, hf, hf2⟩ := opdC_eq x
    obtain ⟨g, hg, hg2⟩ := argsC_eq l
    have h : argsC (x :: l) = @Bx.rec (Env → T → V) (fun _ => Bx (Env → T → List V)) (fun f => @Bx.rec (Env → T → List V) (fun _ => Bx (Env → T → List V)) (fun g => .mk (fun E t => f E t :: g E t)) (argsC l)) (opdC x) := rfl
    rw [h, hf, hg]
    exact ⟨_, rfl, fun E t => by simp only [mlist, hf2, hg2]⟩

/-! ### operations -/

abbrev OC := Env → T → Heap → VK → Option XR

def resK (r : Option (V × Wr)) (H : Heap) (k : VK) : Option XR := match r with
  | some (v, wr) => k v (happ H wr)
  | none => none
def calK (r : Option XR) (k : VK) : Option XR := match r with
  | some (v, H') => k v H'
  | none => none

noncomputable def un1 (x : Opd) (F : (Env → T → V) → OC) : Bx OC := @Bx.rec (Env → T → V) (fun _ => Bx OC) (fun f => .mk (F f)) (opdC x)
noncomputable def un2 (x y : Opd) (F : (Env → T → V) → (Env → T → V) → OC) : Bx OC := @Bx.rec (Env → T → V) (fun _ => Bx OC) (fun f => @Bx.rec (Env → T → V) (fun _ => Bx OC) (fun g => .mk (F f g)) (opdC y)) (opdC x)

theorem un1_eq {x : Opd} {F : (Env → T → V) → OC} : ∃ f, un1 x F = .mk (F f) ∧ ∀ E t, f E t = evoF E.GL t x := by
  obtain ⟨f, hf, hf2⟩ := opdC_eq x
  exact ⟨f, by unfold un1; rw [hf], hf2⟩
theorem un2_eq {x y : Opd} {F : (Env → T → V) → (Env → T → V) → OC} : ∃ f g, un2 x y F = .mk (F f g) ∧ (∀ E t, f E t = evoF E.GL t x) ∧ ∀ E t, g E t = evoF E.GL t y := by
  obtain ⟨f, hf, hf2⟩ := opdC_eq x
  obtain ⟨g, hg, hg2⟩ := opdC_eq y
  exact ⟨f, g, by unfold un2; rw [hf, hg], hf2, hg2⟩

noncomputable def opC (own : List Nat) (dst : Option Nat) (op : IOp) : Bx OC :=
  match op with
  | .mv x => un1 x fun f E t H k => k (f E t) H
  | .load n agg a => un1 a fun f E t H k => resK (eLoad H n agg (f E t)) H k
  | .store n a x => un2 a x fun f g E t H k => resK (eStore H n (f E t) (g E t)) H k
  | .bin op x y => un2 x y fun f g E t H k => resK (binDF op (f E t) (g E t)) H k
  | .eq neg kk x y => un2 x y fun f g E t H k => resK (eEq H neg kk (f E t) (g E t)) H k
  | .un op x => un1 x fun f E t H k => resK (eUn op (f E t)) H k
  | .nilchk x => un1 x fun f E t H k => resK (eNil (f E t)) H k
  | .fld off n agg x => un1 x fun f E t H k => resK (eFld off n agg (f E t)) H k
  | .faddr off n x => un1 x fun f E t H k => resK (eFaddr off n (f E t)) H k
  | .iaddr sz x i => un2 x i fun f g E t H k => resK (eIaddr H sz (f E t) (g E t)) H k
  | .idxS x i => un2 x i fun f g E t H k => resK (eIdxS (f E t) (g E t)) H k
  | .ext x i => un1 x fun f E t H k => resK (eExt (f E t) i) H k
  | .call f args => @Bx.rec (Env → T → List V) (fun _ => Bx OC) (fun a => .mk fun E t H k => calK (E.call f (a E t) H) k) (argsC args)
  | op => .mk fun E t H k => opF own E.GL E.call dst op t H k

theorem resK_eq {r : Option (V × Wr)} {H : Heap} {k : VK} : resK r H k = match r with | some (v, wr) => k v (happ H wr) | none => none := rfl

theorem opC_eq (own : List Nat) (dst : Option Nat) (op : IOp) : ∃ f, opC own dst op = .mk f ∧ ∀ E t H k, f E t H k = opF own E.GL E.call dst op t H k := by
  cases op with
  | mv x => obtain ⟨f, h, hf⟩ := un1_eq (x := x) (F := fun f E t H k => k (f E t) H); exact ⟨_, h, fun E t H k => by simp only [hf]; rfl⟩
  | load n agg a => obtain ⟨f, h, hf⟩ := un1_eq (x := a) (F := fun f E t H k => resK (eLoad H n agg (f E t)) H k); exact ⟨_, h, fun E t H k => by simp only [hf]; rfl⟩
  | store n a x => obtain ⟨f, g, h, hf, hg⟩ := un2_eq (x := a) (y := x) (F := fun f g E t H k => resK (eStore H n (f E t) (g E t)) H k); exact ⟨_, h, fun E t H k => by simp only [hf, hg]; rfl⟩
  | bin op x y => obtain ⟨f, g, h, hf, hg⟩ := un2_eq (x := x) (y := y) (F := fun f g E t H k => resK (binDF op (f E t) (g E t)) H k); exact ⟨_, h, fun E t H k => by simp only [hf, hg]; rfl⟩
  | eq neg kk x y => obtain ⟨f, g, h, hf, hg⟩ := un2_eq (x := x) (y := y) (F := fun f g E t H k => resK (eEq H neg kk (f E t) (g E t)) H k); exact ⟨_, h, fun E t H k => by simp only [hf, hg]; rfl⟩
  | un op x => obtain ⟨f, h, hf⟩ := un1_eq (x := x) (F := fun f E t H k => resK (eUn op (f E t)) H k); exact ⟨_, h, fun E t H k => by simp only [hf]; rfl⟩
  | nilchk x => obtain ⟨f, h, hf⟩ := un1_eq (x := x) (F := fun f E t H k => resK (eNil (f E t)) H k); exact ⟨_, h, fun E t H k => by simp only [hf]; rfl⟩
  | fld off n agg x => obtain ⟨f, h, hf⟩ := un1_eq (x := x) (F := fun f E t H k => resK (eFld off n agg (f E t)) H k); exact ⟨_, h, fun E t H k => by simp only [hf]; rfl⟩
  | faddr off n x => obtain ⟨f, h, hf⟩ := un1_eq (x := x) (F := fun f E t H k => resK (eFaddr off n (f E t)) H k); exact ⟨_, h, fun E t H k => by simp only [hf]; rfl⟩
  | iaddr sz x i => obtain ⟨f, g, h, hf, hg⟩ := un2_eq (x := x) (y := i) (F := fun f g E t H k => resK (eIaddr H sz (f E t) (g E t)) H k); exact ⟨_, h, fun E t H k => by simp only [hf, hg]; rfl⟩
  | idxS x i => obtain ⟨f, g, h, hf, hg⟩ := un2_eq (x := x) (y := i) (F := fun f g E t H k => resK (eIdxS (f E t) (g E t)) H k); exact ⟨_, h, fun E t H k => by simp only [hf, hg]; rfl⟩
  | ext x i => obtain ⟨f, h, hf⟩ := un1_eq (x := x) (F := fun f E t H k => resK (eExt (f E t) i) H k); exact ⟨_, h, fun E t H k => by simp only [hf]; rfl⟩
  | call f args =>
    obtain ⟨a, ha, ha2⟩ := argsC_eq args
    refine ⟨fun E t H k => calK (E.call f (a E t) H) k, ?_, ?_⟩
    · simp only [opC]; rw [ha]
    · intro E t H k
      simp only [ha2]
      rfl
  | _ => exact ⟨_, rfl, fun _ _ _ _ => rfl⟩

/-! ### guarded operations in a row -/

abbrev SC := Env → T → Heap → KN → Option XR

noncomputable def putC (n : Nat) (dst : Option Nat) : Bx (V → T → Heap → KN → Option XR) :=
  match dst with
  | none => .mk fun _ t H k => k t H
  | some d => @Bool.rec (fun _ => Bx (V → T → Heap → KN → Option XR)) (.mk fun _ _ _ _ => none) (@Bx.rec (T → V → T) (fun _ => Bx (V → T → Heap → KN → Option XR)) (fun s => .mk fun v t H k => k (s t v) H) (setC 12 d)) (Nat.blt d n)
theorem putC_eq (n : Nat) (dst : Option Nat) : ∃ f, putC n dst = .mk f ∧ ∀ v t H k, f v t H k = putF n dst v t H k := by
  cases dst with
  | none => exact ⟨_, rfl, fun _ _ _ _ => rfl⟩
  | some d =>
    simp only [putC, putF]
    cases h : Nat.blt d n with
    | false => exact ⟨_, rfl, fun _ _ _ _ => rfl⟩
    | true =>
      obtain ⟨s, hs, hs2⟩ := setC_eq 12 d
      simp only [hs]
      exact ⟨_, rfl, fun v t H k => by simp only [hs2]; rfl⟩

noncomputable def guaK (v : V) (skipT skipF : Option XR) (skip : Option XR) : Option XR := match v with
  | .d (.bool b) => @Bool.rec (fun _ => Option XR) skipF skipT b
  | .tuple [] => skip
  | _ => none

noncomputable def stepC (own : List Nat) (n : Nat) (o : IOper) : Bx SC :=
  match o with
  | ⟨dst, op, gd, _⟩ => @Bx.rec OC (fun _ => Bx SC) (fun f => @Bx.rec (V → T → Heap → KN → Option XR) (fun _ => Bx SC) (fun p =>
      match gd with
      | none => .mk fun E t H k => f E t H (fun v H' => p v t H' k)
      | some (d, want) => @Bx.rec (T → V) (fun _ => Bx SC) (fun g => match want with
        | true => .mk fun E t H k => guaK (g t) (f E t H (fun v H' => p v t H' k)) (p (.tuple []) t H k) (p (.tuple []) t H k)
        | false => .mk fun E t H k => guaK (g t) (p (.tuple []) t H k) (f E t H (fun v H' => p v t H' k)) (p (.tuple []) t H k)) (getC 12 d)) (putC n dst)) (opC own dst op)

theorem stepC_eq (own : List Nat) (n : Nat) (o : IOper) : ∃ f, stepC own n o = .mk f ∧ ∀ E t H k, f E t H k = stepF own E.GL E.call n o t H k := by
  obtain ⟨dst, op, gd, af⟩ := o
  obtain ⟨f, hf, hf2⟩ := opC_eq own dst op
  obtain ⟨p, hp, hp2⟩ := putC_eq n dst
  simp only [stepC, hf, hp]
  cases gd with
  | none => exact ⟨_, rfl, fun E t H k => by simp only [stepF, guardF, hf2, hp2]⟩
  | some q =>
    obtain ⟨d, want⟩ := q
    obtain ⟨g, hg, hg2⟩ := getC_eq 12 d
    simp only [hg]
    cases want with
    | true =>
      refine ⟨_, rfl, fun E t H k => ?_⟩
      simp only [stepF, guardF, guaK, hf2, hp2, hg2]
      generalize tget t d = v
      cases v with
      | d x => cases x with
        | bool b => cases b <;> rfl
        | _ => rfl
      | tuple vs => cases vs <;> rfl
      | _ => rfl
    | false =>
      refine ⟨_, rfl, fun E t H k => ?_⟩
      simp only [stepF, guardF, guaK, hf2, hp2, hg2]
      generalize tget t d = v
      cases v with
      | d x => cases x with
        | bool b => cases b <;> rfl
        | _ => rfl
      | tuple vs => cases vs <;> rfl
      | _ => rfl

noncomputable def opsC (own : List Nat) (n : Nat) (l : List IOper) : Bx SC :=
  @List.rec IOper (fun _ => Bx SC) (.mk fun _ t H k => k t H)
    (fun o _ ih => @Bx.rec SC (fun _ => Bx SC) (fun f => @Bx.rec SC (fun _ => Bx SC) (fun g => .mk fun E t H k => f E t H (fun t' H' => g E t' H' k)) ih) (stepC own n o)) l

theorem opsC_eq (own : List Nat) (n : Nat) : ∀ (l : List IOper), ∃ f, opsC own n l = .mk f ∧ ∀ E t H k, f E t H k = runOF own E.GL E.call n l t H k
  | [] => ⟨_, rfl, fun _ _ _ _ => rfl⟩
  | o :: l => by
    obtain ⟨f, hf, hf2⟩ := stepC_eq own n o
    obtain ⟨g, hg, hg2⟩ := opsC_eq own n l
    have h : opsC own n (o :: l) = @Bx.rec SC (fun _ => Bx SC) (fun f => @Bx.rec SC (fun _ => Bx SC) (fun g => .mk fun E t H k => f E t H (fun t' H' => g E t' H' k)) (opsC own n l)) (stepC own n o) := rfl
    rw [h, hf, hg]
    exact ⟨_, rfl, fun E t H k => by simp only [hf2, hg2]; rfl⟩

/-! ### code -/

abbrev CC := Env → T → Heap → KN → (Nat → KN) → KN → Option XR

noncomputable def irC (own : List Nat) (m n : Nat) (c : IR) : Bx CC :=
  @IR.rec (fun _ => Bx CC)
    (.mk fun _ t H kn _ _ => kn t H)
    (fun l => @Bx.rec SC (fun _ => Bx CC) (fun f => .mk fun E t H kn _ _ => f E t H kn) (opsC own n l))
    (fun l => .mk fun E t H kn _ _ => runDTF E.GL E.call E.pcall n l t H kn)
    (fun _ _ ia ib => @Bx.rec CC (fun _ => Bx CC) (fun f => @Bx.rec CC (fun _ => Bx CC) (fun g => .mk fun E t H kn ke kr => f E t H (fun t' H' => g E t' H' kn ke kr) ke kr) ib) ia)
    (fun c _ _ ia ib => @Bx.rec (Env → T → V) (fun _ => Bx CC) (fun x => @Bx.rec CC (fun _ => Bx CC) (fun f => @Bx.rec CC (fun _ => Bx CC) (fun g => .mk fun E t H kn ke kr => condF (x E t) (f E t H kn ke kr) (g E t H kn ke kr)) ib) ia) (opdC c))
    (fun id _ ib => @Bx.rec CC (fun _ => Bx CC) (fun f => .mk fun E t H kn ke kr => f E t H kn (fun i t' H' => bif Nat.beq i id then kn t' H' else ke i t' H') kr) ib)
    (fun _ ib => @Bx.rec CC (fun _ => Bx CC) (fun f => .mk fun E t H _ ke kr => loopF (f E) m t H ke kr) ib)
    (fun id => .mk fun _ t H _ ke _ => ke id t H)
    (.mk fun _ t H _ _ kr => kr t H) c

theorem irC_eq (own : List Nat) (m n : Nat) : ∀ (c : IR), ∃ f, irC own m n c = .mk f ∧ ∀ E t H kn ke kr, f E t H kn ke kr = runCF own E.GL E.call E.pcall m n c t H kn ke kr
  | .skip => ⟨_, rfl, fun _ _ _ _ _ _ => rfl⟩
  | .region l => by
    obtain ⟨f, hf, hf2⟩ := opsC_eq own n l
    have h : irC own m n (.region l) = @Bx.rec SC (fun _ => Bx CC) (fun f => .mk fun E t H kn _ _ => f E t H kn) (opsC own n l) := rfl
    rw [h, hf]
    exact ⟨_, rfl, fun E t H kn ke kr => by simp only [hf2]; rfl⟩
  | .draw l => ⟨_, rfl, fun _ _ _ _ _ _ => rfl⟩
  | .seq a b => by
    obtain ⟨f, hf, hf2⟩ := irC_eq own m n a
    obtain ⟨g, hg, hg2⟩ := irC_eq own m n b
    have h : irC own m n (.seq a b) = @Bx.rec CC (fun _ => Bx CC) (fun f => @Bx.rec CC (fun _ => Bx CC) (fun g => .mk fun E t H kn ke kr => f E t H (fun t' H' => g E t' H' kn ke kr) ke kr) (irC own m n b)) (irC own m n a) := rfl
    rw [h, hf, hg]
    exact ⟨_, rfl, fun E t H kn ke kr => by simp only [hf2, hg2]; rfl⟩
  | .cond c a b => by
    obtain ⟨x, hx, hx2⟩ := opdC_eq c
    obtain ⟨f, hf, hf2⟩ := irC_eq own m n a
    obtain ⟨g, hg, hg2⟩ := irC_eq own m n b
    have h : irC own m n (.cond c a b) = @Bx.rec (Env → T → V) (fun _ => Bx CC) (fun x => @Bx.rec CC (fun _ => Bx CC) (fun f => @Bx.rec CC (fun _ => Bx CC) (fun g => .mk fun E t H kn ke kr => condF (x E t) (f E t H kn ke kr) (g E t H kn ke kr)) (irC own m n b)) (irC own m n a)) (opdC c) := rfl
    rw [h, hx, hf, hg]
    exact ⟨_, rfl, fun E t H kn ke kr => by simp only [hx2, hf2, hg2]; rfl⟩
  | .block id b => by
    obtain ⟨f, hf, hf2⟩ := irC_eq own m n b
    have h : irC own m n (.block id b) = @Bx.rec CC (fun _ => Bx CC) (fun f => .mk fun E t H kn ke kr => f E t H kn (fun i t' H' => bif Nat.beq i id then kn t' H' else ke i t' H') kr) (irC own m n b) := rfl
    rw [h, hf]
    exact ⟨_, rfl, fun E t H kn ke kr => by simp only [hf2]; rfl⟩
  | .loop b => by
    obtain ⟨f, hf, hf2⟩ := irC_eq own m n b
    have h : irC own m n (.loop b) = @Bx.rec CC (fun _ => Bx CC) (fun f => .mk fun E t H _ ke kr => loopF (f E) m t H ke kr) (irC own m n b) := rfl
    rw [h, hf]
    refine ⟨_, rfl, fun E t H kn ke kr => ?_⟩
    have e : f E = runCF own E.GL E.call E.pcall m n b := funext fun t => funext fun H => funext fun kn => funext fun ke => funext fun kr => hf2 E t H kn ke kr
    show loopF (f E) m t H ke kr = loopF (runCF own E.GL E.call E.pcall m n b) m t H ke kr
    rw [e]
  | .exit id => ⟨_, rfl, fun _ _ _ _ _ _ => rfl⟩
  | .ret => ⟨_, rfl, fun _ _ _ _ _ _ => rfl⟩

/-- the run of code that was made ready -/
noncomputable def runCC (own : List Nat) (GL : GLT) (call : CallF) (pcall : PCallF) (m n : Nat) (c : IR) (t : T) (H : Heap) (kn : KN) (ke : Nat → KN) (kr : KN) : Option XR :=
  @Bx.rec CC (fun _ => Option XR) (fun f => f ⟨GL, call, pcall⟩ t H kn ke kr) (irC own m n c)
theorem runCC_eq (own : List Nat) (GL : GLT) (call : CallF) (pcall : PCallF) (m n : Nat) (c : IR) : runCC own GL call pcall m n c = runCF own GL call pcall m n c := by
  obtain ⟨f, hf, hf2⟩ := irC_eq own m n c
  funext t H kn ke kr
  unfold runCC
  rw [hf]
  exact hf2 ⟨GL, call, pcall⟩ t H kn ke kr

noncomputable def rawC (owns : FuncId → List Nat) (GL : GLT) (fns : FT IFn) (mk : CallF → CallF) (mkp : CallF → PCallF) (m : Nat) (d : Nat) : CallF :=
  @Nat.rec (fun _ => CallF) (fun _ _ _ => none)
    (fun _ ih f args H => match ftget fns f with
      | none => none
      | some fn => bif Nat.ble args.length fn.ntmps && Nat.ble fn.ntmps capT then
          runCC (owns f) GL (mk ih) (mkp ih) m fn.ntmps fn.body (treeA 0 args .e) H (fun t H => resF fn.res t H) (fun _ _ _ => none) (fun t H => resF fn.res t H)
        else none) d
theorem rawC_eq (owns : FuncId → List Nat) (GL : GLT) (fns : FT IFn) (mk : CallF → CallF) (mkp : CallF → PCallF) (m : Nat) : ∀ d, rawC owns GL fns mk mkp m d = rawG owns GL fns mk mkp m d
  | 0 => rfl
  | d + 1 => by
    have ih := rawC_eq owns GL fns mk mkp m d
    funext f args H
    show (match ftget fns f with
      | none => none
      | some fn => bif Nat.ble args.length fn.ntmps && Nat.ble fn.ntmps capT then
          runCC (owns f) GL (mk (rawC owns GL fns mk mkp m d)) (mkp (rawC owns GL fns mk mkp m d)) m fn.ntmps fn.body (treeA 0 args .e) H (fun t H => resF fn.res t H) (fun _ _ _ => none) (fun t H => resF fn.res t H)
        else none) = (match ftget fns f with
      | none => none
      | some fn => bif Nat.ble args.length fn.ntmps && Nat.ble fn.ntmps capT then
          runCF (owns f) GL (mk (rawG owns GL fns mk mkp m d)) (mkp (rawG owns GL fns mk mkp m d)) m fn.ntmps fn.body (treeA 0 args .e) H (fun t H => resF fn.res t H) (fun _ _ _ => none) (fun t H => resF fn.res t H)
        else none)
    rw [ih]
    simp only [runCC_eq]
end Fw
