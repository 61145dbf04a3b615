/-
  What closed runs lean on: the library's functions, as tables that reckon.
-/
import Derived.Test.YtonjnjkdebpilaaGreatDoorTa
import Derived.Test.YtonjnjkdebpilaaGreatDoorIr
import Derived.Test.YtonjnjkdebpilaaGreatDoorFf

set_option linter.unusedSimpArgs false
set_option maxRecDepth 100000
namespace Fw.Tz
open Go Go.Proofs
variable {W : World}
theorem is45c : compFn P 45 = some (cloneT 3 56) := by kernel_rfl
theorem is59c : compFn P 59 = some (cloneT 2 32) := by kernel_rfl
theorem is60c : compFn P 60 = some (cloneT 1 8) := by kernel_rfl
theorem is186c : compFn P 186 = some (cloneT 7 112) := by kernel_rfl
theorem is310c : compFn P 310 = some (cloneT 2 24) := by kernel_rfl
def asc : List UInt8 → Bool
  | [] => true
  | c :: l => bif Nat.blt c.toNat 128 then asc l else false
theorem asc_ok : ∀ {l : List UInt8}, asc l = true → ∀ (j : Nat) b, l[j]? = some b → b.toNat < 128
  | [], _, j, b, h => by simp at h
  | c :: l, ha, j, b, h => by
    simp only [asc] at ha
    cases hc : Nat.blt c.toNat 128 with
    | false => rw [hc] at ha; cases ha
    | true =>
      rw [hc] at ha
      cases j with
      | zero => simp at h; subst h; rwa [Nat.blt_eq] at hc
      | succ j => simp at h; exact asc_ok ha j b h
def strsOfD : List (List D) → Option (List (List UInt8))
  | [] => some []
  | [.str s] :: l => match strsOfD l with
    | some ss => some (s :: ss)
    | none => none
  | _ => none
theorem strsOfD_ok : ∀ {l : List (List D)} {ss : List (List UInt8)}, strsOfD l = some ss → D.list l = strsD ss
  | [], ss, h => by simp only [strsOfD, Option.some.injEq] at h; subst h; rfl
  | v :: l, ss, h => by
    unfold strsOfD at h
    split at h
    · rename_i e; cases e
    · rename_i s l' heq
      split at h
      · rename_i ss' hes
        simp only [Option.some.injEq] at h; subst h
        simp only [List.cons.injEq] at heq
        obtain ⟨rfl, rfl⟩ := heq
        have := strsOfD_ok hes
        simp [strsD] at this ⊢
        exact this
      · cases h
    · cases h
def sums : Sums := [
  (77, fun args => match args with | [.d (.str s), .d (.str p)] => some (.d (.bool (Lib.hasPrefix s p))) | _ => none),
  (249, fun args => match args with | [.d (.str s), .d (.str p)] => bif Nat.ble s.length 1048576 then some (.d (.str (Lib.trimSuffix s p))) else none | _ => none),
  (140, fun args => match args with | [.d (.str s), .d (.str p)] => some (.tuple [.d (.str (Lib.trimPrefix s p)), .d (.bool (Lib.hasPrefix s p))]) | _ => none),
  (235, fun args => match args with | [.d (.str s), .d (.str p)] => bif Nat.ble s.length 1048576 then some (.tuple [.d (.str (Lib.trimSuffix s p)), .d (.bool (Lib.hasSuffix s p))]) else none | _ => none),
  (195, fun args => match args with | [.d (.str s), .d (.int .u8 c)] => some (.d (.int .i64 (Lib.indexByte s c.toNat.toUInt8))) | _ => none),
  (55, fun args => match args with | [.d (.str s), .d (.str p)] => bif Nat.ble s.length 1048576 then some (.tuple [.d (.str (Lib.cut s p).1), .d (.str (Lib.cut s p).2.1), .d (.bool (Lib.cut s p).2.2)]) else none | _ => none),
  (143, fun args => match args with | [.d (.str s), .d (.str p)] => bif Nat.ble s.length 1048576 && Nat.ble 1 p.length then some (.d (strsD (Lib.split s p))) else none | _ => none),
  (247, fun args => match args with | [.nils, .d (.str _)] => some (.d (.str [])) | [.d (.list l), .d (.str p)] => (match strsOfD l with | some ss => bif Nat.ble ss.length 1048576 && Nat.ble (Lib.join ss p).length 1048576 then some (.d (.str (Lib.join ss p))) else none | none => none) | _ => none),
  (244, fun args => match args with | [.d (.str s), .d (.str [c])] => bif Nat.blt c.toNat 128 then some (.d (.str (Lib.trimLeftB s c))) else none | _ => none),
  (79, fun args => match args with | [.d (.int .i64 (.ofNat n))] => bif Nat.ble n 1048576 then some (.d (.str (Lib.itoa (.ofNat n)))) else none | [.d (.int .i64 (.negSucc n))] => bif Nat.ble n 1048576 then some (.d (.str (Lib.itoa (.negSucc n)))) else none | _ => none),
  (78, fun args => match args with | [.d (.str s)] => bif Nat.ble s.length 1048576 then some (atoiV s) else none | _ => none),
  (139, fun args => match args with | [.d (.str s)] => bif asc s && Nat.ble s.length 1048576 then some (.d (strsD (Lib.fields s))) else none | _ => none),
  (45, fun args => match args with | [.d (.list [])] => some (.d (.list [])) | _ => none),
  (59, fun args => match args with | [.d (.list [])] => some (.d (.list [])) | _ => none),
  (60, fun args => match args with | [.d (.list [])] => some (.d (.list [])) | _ => none),
  (186, fun args => match args with | [.d (.list [])] => some (.d (.list [])) | _ => none),
  (310, fun args => match args with | [.d (.list [])] => some (.d (.list [])) | _ => none)]
theorem bif_some {c : Bool} {α : Type} {a b : α} (h : (bif c then some a else none) = some b) : c = true ∧ a = b := by
  cases c with
  | true => simp at h; exact ⟨rfl, h⟩
  | false => simp at h
theorem sums_ok (hW : W0 W) : PCallOk P (gl W) (pr sums) := by
  refine pr_ok fun p hp args v h => ?_
  simp only [sums, List.mem_cons, List.not_mem_nil, or_false] at hp
  rcases hp with rfl | rfl | rfl | rfl | rfl | rfl | rfl | rfl | rfl | rfl | rfl | rfl | rfl | rfl | rfl | rfl | rfl <;> simp only at h ⊢ <;> (try split at h) <;> (try (cases h; done))
  · simp only [Option.some.injEq] at h; subst h; exact p_HasPrefix _ _
  · obtain ⟨c, rfl⟩ := bif_some h; exact p_TrimSuffix _ _ (by have := Nat.le_of_ble_eq_true c; omega)
  · simp only [Option.some.injEq] at h; subst h; exact p_CutPrefix _ _
  · obtain ⟨c, rfl⟩ := bif_some h; exact p_CutSuffix _ _ (by have := Nat.le_of_ble_eq_true c; omega)
  · simp only [Option.some.injEq] at h; subst h; exact p_IndexByte _ _
  · obtain ⟨c, rfl⟩ := bif_some h; exact p_Cut hW _ _ (by have := Nat.le_of_ble_eq_true c; omega)
  · obtain ⟨c, rfl⟩ := bif_some h; simp only [Bool.and_eq_true] at c; exact p_Split hW _ _ (by have := Nat.le_of_ble_eq_true c.1; omega) (Nat.le_of_ble_eq_true c.2)
  · simp only [Option.some.injEq] at h; subst h; exact p_JoinN _
  · split at h
    · rename_i ss hss
      obtain ⟨c, rfl⟩ := bif_some h; simp only [Bool.and_eq_true] at c
      rw [strsOfD_ok hss]
      exact p_Join _ _ (by have := Nat.le_of_ble_eq_true c.1; omega) (by have := Nat.le_of_ble_eq_true c.2; omega)
    · cases h
  · obtain ⟨c, rfl⟩ := bif_some h; exact p_TrimLeft _ _ (by rwa [Nat.blt_eq] at c)
  · obtain ⟨c, rfl⟩ := bif_some h
    have := Nat.le_of_ble_eq_true c
    exact p_Itoa hW _ (by first | omega | (simp; done) | (simp; omega)) (by first | omega | (simp; done) | (simp; omega))
  · obtain ⟨c, rfl⟩ := bif_some h
    have := Nat.le_of_ble_eq_true c
    exact p_Itoa hW _ (by omega) (by omega)
  · obtain ⟨c, rfl⟩ := bif_some h; exact p_Atoi hW _ (by have := Nat.le_of_ble_eq_true c; omega)
  · obtain ⟨c, rfl⟩ := bif_some h; simp only [Bool.and_eq_true] at c; exact p_Fields hW hW.asc _ (by have := Nat.le_of_ble_eq_true c.2; omega) (asc_ok c.1)
  · simp only [Option.some.injEq] at h; subst h; exact clone_nil (by decide) is45c (by kernel_rfl)
  · simp only [Option.some.injEq] at h; subst h; exact clone_nil (by decide) is59c (by kernel_rfl)
  · simp only [Option.some.injEq] at h; subst h; exact clone_nil (by decide) is60c (by kernel_rfl)
  · simp only [Option.some.injEq] at h; subst h; exact clone_nil (by decide) is186c (by kernel_rfl)
  · simp only [Option.some.injEq] at h; subst h; exact clone_nil (by decide) is310c (by kernel_rfl)
def bfs : List FuncId := [247, 18, 75, 40, 17, 145, 205, 237, 77, 249, 140, 235, 137, 138]
def memF (f : FuncId) : List FuncId → Bool
  | [] => false
  | x :: l => bif Nat.beq x f then true else memF f l
def hkB (pcall : PCallF) (f : FuncId) (args : List V) (H : Heap) : Option (V × Heap) :=
  bif memF f bfs && !(refsLtL 0 args) then match mapO (deepA H) args with
    | some d => match pcall f d with
      | some v => bif scalV v then some (v, H) else none
      | none => none
    | none => none
  else none
theorem hkB_ok {pcall : PCallF} (hp : PCallOk P (gl W) pcall) {f : FuncId} {args : List V} {H : Heap} {v : V} {H' : Heap} (h : hkB pcall f args H = some (v, H')) : WF P (gl W) f args H (fun r k => r = v ∧ k = H') := by
  unfold hkB at h
  cases hr : (memF f bfs && !(refsLtL 0 args)) with
  | false => rw [hr] at h; cases h
  | true =>
    rw [hr] at h
    simp only [cond_true] at h
    split at h
    · rename_i d hd
      split at h
      · rename_i x hx
        cases hs : scalV x with
        | false => rw [hs] at h; cases h
        | true =>
          rw [hs] at h
          simp only [cond_true, Option.some.injEq, Prod.mk.injEq] at h
          obtain ⟨rfl, rfl⟩ := h
          exact WF.borrow hd (hp _ _ _ hx) hs ⟨rfl, rfl⟩
      · cases h
    · cases h
def hkG (sz : Nat) (args : List V) (H : Heap) : Option (V × Heap) :=
  match args, H with
  | [.nils, .d (.int .i64 (.ofNat n))], [] => bif Nat.ble n 1048576 then some (growV sz n, growH n) else none
  | _, _ => none
theorem hkG_ok {f sz bytes ti : Nat} {z : List V} (hs : 0 < sz) (hz : z.length = sz) (hzo : z.all okC = true) (hb : bytes ≤ 1000) (hf : compFn P f = some (growT sz bytes ti z)) (hc : callable P f = true) {args : List V} {H : Heap} {v : V} {H' : Heap} (h : hkG sz args H = some (v, H')) : WF P (gl W) f args H (fun r k => r = v ∧ k = H') := by
  unfold hkG at h
  split at h
  · rename_i n
    obtain ⟨c, e⟩ := bif_some h
    simp only [Prod.mk.injEq] at e
    obtain ⟨rfl, rfl⟩ := e
    exact grow_nil hs hz hzo hb hf hc n (Nat.le_of_ble_eq_true c)
  · cases h
theorem is97g : compFn P 97 = some (growT 3 56 9 [.d (.str []), .d (.str []), .nils]) := by kernel_rfl
theorem is311g : compFn P 311 = some (growT 2 32 9 [.d (.int .i64 0), .nils]) := by kernel_rfl
def hook : Hook := fun pcall f args H => bif Nat.beq f 97 then hkG 3 args H else bif Nat.beq f 311 then hkG 2 args H else hkB pcall f args H
theorem hook_ok : HookOk P (gl W) hook := by
  intro pcall hp f args H v H' h
  unfold hook at h
  cases h97 : Nat.beq f 97 with
  | true =>
    rw [h97, cond_true] at h
    obtain rfl := Nat.eq_of_beq_eq_true h97
    exact hkG_ok (sz := 3) (bytes := 56) (by decide) rfl rfl (by decide) is97g (by kernel_rfl) h
  | false =>
    rw [h97, cond_false] at h
    cases h311 : Nat.beq f 311 with
    | true =>
      rw [h311, cond_true] at h
      obtain rfl := Nat.eq_of_beq_eq_true h311
      exact hkG_ok (sz := 2) (bytes := 32) (by decide) rfl rfl (by decide) is311g (by kernel_rfl) h
    | false =>
      rw [h311, cond_false] at h
      exact hkB_ok hp h
end Fw.Tz

/-
  The functions that closed runs enter.
-/
namespace Fw.Tz
open Go Go.Proofs Fw.X
noncomputable def cfn (i : Nat) : IFn := (compFn P i).getD ⟨0, 0, [], .skip⟩
theorem cfn_is {i : Nat} (h : (compFn P i).isSome = true) : compFn P i = some (cfn i) := by
  unfold cfn
  cases hc : compFn P i with
  | none => rw [hc] at h; cases h
  | some f => rfl
theorem is3 : compFn P 3 = some f3 := by kernel_rfl
theorem ca3 : callable P 3 = true := by kernel_rfl
theorem is5 : compFn P 5 = some f5 := by kernel_rfl
theorem ca5 : callable P 5 = true := by kernel_rfl
theorem is6 : compFn P 6 = some f6 := by kernel_rfl
theorem ca6 : callable P 6 = true := by kernel_rfl
theorem is7 : compFn P 7 = some f7 := by kernel_rfl
theorem ca7 : callable P 7 = true := by kernel_rfl
theorem is8 : compFn P 8 = some f8 := by kernel_rfl
theorem ca8 : callable P 8 = true := by kernel_rfl
theorem is9 : compFn P 9 = some f9 := by kernel_rfl
theorem ca9 : callable P 9 = true := by kernel_rfl
theorem is10 : compFn P 10 = some f10 := by kernel_rfl
theorem ca10 : callable P 10 = true := by kernel_rfl
theorem is14 : compFn P 14 = some f14 := by kernel_rfl
theorem ca14 : callable P 14 = true := by kernel_rfl
theorem is15 : compFn P 15 = some f15 := by kernel_rfl
theorem ca15 : callable P 15 = true := by kernel_rfl
theorem is16 : compFn P 16 = some f16 := by kernel_rfl
theorem ca16 : callable P 16 = true := by kernel_rfl
theorem is17 : compFn P 17 = some f17 := by kernel_rfl
theorem ca17 : callable P 17 = true := by kernel_rfl
theorem is18 : compFn P 18 = some f18 := by kernel_rfl
theorem ca18 : callable P 18 = true := by kernel_rfl
theorem is19 : compFn P 19 = some f19 := by kernel_rfl
theorem ca19 : callable P 19 = true := by kernel_rfl
theorem is20 : compFn P 20 = some f20 := by kernel_rfl
theorem ca20 : callable P 20 = true := by kernel_rfl
theorem is21 : compFn P 21 = some f21 := by kernel_rfl
theorem ca21 : callable P 21 = true := by kernel_rfl
theorem is22 : compFn P 22 = some f22 := by kernel_rfl
theorem ca22 : callable P 22 = true := by kernel_rfl
theorem is23 : compFn P 23 = some f23 := by kernel_rfl
theorem ca23 : callable P 23 = true := by kernel_rfl
theorem is24 : compFn P 24 = some f24 := by kernel_rfl
theorem ca24 : callable P 24 = true := by kernel_rfl
theorem is25 : compFn P 25 = some f25 := by kernel_rfl
theorem ca25 : callable P 25 = true := by kernel_rfl
theorem is26 : compFn P 26 = some f26 := by kernel_rfl
theorem ca26 : callable P 26 = true := by kernel_rfl
theorem is27 : compFn P 27 = some f27 := by kernel_rfl
theorem ca27 : callable P 27 = true := by kernel_rfl
theorem is28 : compFn P 28 = some f28 := by kernel_rfl
theorem ca28 : callable P 28 = true := by kernel_rfl
theorem is29 : compFn P 29 = some f29 := by kernel_rfl
theorem ca29 : callable P 29 = true := by kernel_rfl
theorem is38 : compFn P 38 = some f38 := by kernel_rfl
theorem ca38 : callable P 38 = true := by kernel_rfl
theorem is39 : compFn P 39 = some f39 := by kernel_rfl
theorem ca39 : callable P 39 = true := by kernel_rfl
theorem is40 : compFn P 40 = some f40 := by kernel_rfl
theorem ca40 : callable P 40 = true := by kernel_rfl
theorem is41 : compFn P 41 = some f41 := by kernel_rfl
theorem ca41 : callable P 41 = true := by kernel_rfl
theorem is42 : compFn P 42 = some f42 := by kernel_rfl
theorem ca42 : callable P 42 = true := by kernel_rfl
theorem is43 : compFn P 43 = some f43 := by kernel_rfl
theorem ca43 : callable P 43 = true := by kernel_rfl
theorem is44 : compFn P 44 = some f44 := by kernel_rfl
theorem ca44 : callable P 44 = true := by kernel_rfl
theorem is45 : compFn P 45 = some f45 := by kernel_rfl
theorem ca45 : callable P 45 = true := by kernel_rfl
theorem is46 : compFn P 46 = some f46 := by kernel_rfl
theorem ca46 : callable P 46 = true := by kernel_rfl
theorem is47 : compFn P 47 = some f47 := by kernel_rfl
theorem ca47 : callable P 47 = true := by kernel_rfl
theorem is48 : compFn P 48 = some f48 := by kernel_rfl
theorem ca48 : callable P 48 = true := by kernel_rfl
theorem is49 : compFn P 49 = some f49 := by kernel_rfl
theorem ca49 : callable P 49 = true := by kernel_rfl
theorem is50 : compFn P 50 = some f50 := by kernel_rfl
theorem ca50 : callable P 50 = true := by kernel_rfl
theorem is51 : compFn P 51 = some f51 := by kernel_rfl
theorem ca51 : callable P 51 = true := by kernel_rfl
theorem is52 : compFn P 52 = some f52 := by kernel_rfl
theorem ca52 : callable P 52 = true := by kernel_rfl
theorem is74 : compFn P 74 = some f74 := by kernel_rfl
theorem ca74 : callable P 74 = true := by kernel_rfl
theorem is75 : compFn P 75 = some f75 := by kernel_rfl
theorem ca75 : callable P 75 = true := by kernel_rfl
theorem is76 : compFn P 76 = some f76 := by kernel_rfl
theorem ca76 : callable P 76 = true := by kernel_rfl
theorem is80 : compFn P 80 = some f80 := by kernel_rfl
theorem ca80 : callable P 80 = true := by kernel_rfl
theorem is81 : compFn P 81 = some f81 := by kernel_rfl
theorem ca81 : callable P 81 = true := by kernel_rfl
theorem is82 : compFn P 82 = some f82 := by kernel_rfl
theorem ca82 : callable P 82 = true := by kernel_rfl
theorem is83 : compFn P 83 = some f83 := by kernel_rfl
theorem ca83 : callable P 83 = true := by kernel_rfl
theorem is84 : compFn P 84 = some f84 := by kernel_rfl
theorem ca84 : callable P 84 = true := by kernel_rfl
theorem is85 : compFn P 85 = some f85 := by kernel_rfl
theorem ca85 : callable P 85 = true := by kernel_rfl
theorem ca86 : callable P 86 = true := by kernel_rfl
theorem is87 : compFn P 87 = some f87 := by kernel_rfl
theorem ca87 : callable P 87 = true := by kernel_rfl
theorem is111 : compFn P 111 = some f111 := by kernel_rfl
theorem ca111 : callable P 111 = true := by kernel_rfl
theorem is112 : compFn P 112 = some f112 := by kernel_rfl
theorem ca112 : callable P 112 = true := by kernel_rfl
theorem is117 : compFn P 117 = some f117 := by kernel_rfl
theorem ca117 : callable P 117 = true := by kernel_rfl
theorem is149 : compFn P 149 = some f149 := by kernel_rfl
theorem ca149 : callable P 149 = true := by kernel_rfl
theorem is150 : compFn P 150 = some f150 := by kernel_rfl
theorem ca150 : callable P 150 = true := by kernel_rfl
noncomputable def fnt : FT IFn := (.n (.n (.n (.n (.n (.n (.n (.n (.n .e 3 f3 .e) 4 (cfn 4) .e) 5 f5 (.n .e 6 f6 .e)) 7 f7 (.n (.n (.n .e 8 f8 .e) 9 f9 .e) 10 f10 (.n .e 11 (cfn 11) .e))) 12 (cfn 12) (.n (.n (.n (.n .e 13 (cfn 13) .e) 14 f14 .e) 15 f15 (.n .e 16 f16 .e)) 17 f17 (.n (.n (.n .e 18 f18 .e) 19 f19 .e) 20 f20 (.n .e 21 f21 .e)))) 22 f22 (.n (.n (.n (.n (.n .e 23 f23 .e) 24 f24 .e) 25 f25 (.n .e 26 f26 .e)) 27 f27 (.n (.n (.n .e 28 f28 .e) 29 f29 .e) 30 (cfn 30) (.n .e 31 (cfn 31) .e))) 32 (cfn 32) (.n (.n (.n (.n .e 33 (cfn 33) .e) 34 (cfn 34) .e) 35 (cfn 35) (.n .e 36 (cfn 36) .e)) 37 (cfn 37) (.n (.n (.n .e 38 f38 .e) 39 f39 .e) 40 f40 (.n .e 41 f41 .e))))) 42 f42 (.n (.n (.n (.n (.n (.n .e 43 f43 .e) 44 f44 .e) 45 f45 (.n .e 46 f46 .e)) 47 f47 (.n (.n (.n .e 48 f48 .e) 49 f49 .e) 50 f50 (.n .e 51 f51 .e))) 52 f52 (.n (.n (.n (.n .e 53 (cfn 53) .e) 54 (cfn 54) .e) 55 (cfn 55) (.n .e 56 (cfn 56) .e)) 57 (cfn 57) (.n (.n (.n .e 58 (cfn 58) .e) 59 (cfn 59) .e) 60 (cfn 60) (.n .e 61 (cfn 61) .e)))) 62 (cfn 62) (.n (.n (.n (.n (.n .e 63 (cfn 63) .e) 64 (cfn 64) .e) 65 (cfn 65) (.n .e 66 (cfn 66) .e)) 67 (cfn 67) (.n (.n (.n .e 68 (cfn 68) .e) 69 (cfn 69) .e) 70 (cfn 70) (.n .e 71 (cfn 71) .e))) 72 (cfn 72) (.n (.n (.n (.n .e 73 (cfn 73) .e) 74 f74 .e) 75 f75 (.n .e 76 f76 .e)) 77 (cfn 77) (.n (.n .e 78 (cfn 78) .e) 79 (cfn 79) (.n .e 80 f80 .e)))))) 81 f81 (.n (.n (.n (.n (.n (.n (.n .e 82 f82 .e) 83 f83 .e) 84 f84 (.n .e 85 f85 .e)) 86 f86 (.n (.n (.n .e 87 f87 .e) 88 (cfn 88) .e) 89 (cfn 89) (.n .e 90 (cfn 90) .e))) 91 (cfn 91) (.n (.n (.n (.n .e 92 (cfn 92) .e) 93 (cfn 93) .e) 94 (cfn 94) (.n .e 95 (cfn 95) .e)) 96 (cfn 96) (.n (.n (.n .e 97 (cfn 97) .e) 98 (cfn 98) .e) 99 (cfn 99) (.n .e 100 (cfn 100) .e)))) 101 (cfn 101) (.n (.n (.n (.n (.n .e 102 (cfn 102) .e) 103 (cfn 103) .e) 104 (cfn 104) (.n .e 105 (cfn 105) .e)) 106 (cfn 106) (.n (.n (.n .e 107 (cfn 107) .e) 108 (cfn 108) .e) 109 (cfn 109) (.n .e 110 (cfn 110) .e))) 111 f111 (.n (.n (.n (.n .e 112 f112 .e) 113 (cfn 113) .e) 114 (cfn 114) (.n .e 115 (cfn 115) .e)) 116 (cfn 116) (.n (.n (.n .e 117 f117 .e) 118 (cfn 118) .e) 119 (cfn 119) (.n .e 120 (cfn 120) .e))))) 121 (cfn 121) (.n (.n (.n (.n (.n (.n .e 122 (cfn 122) .e) 123 (cfn 123) .e) 124 (cfn 124) (.n .e 125 (cfn 125) .e)) 126 (cfn 126) (.n (.n (.n .e 127 (cfn 127) .e) 128 (cfn 128) .e) 129 (cfn 129) (.n .e 130 (cfn 130) .e))) 131 (cfn 131) (.n (.n (.n (.n .e 132 (cfn 132) .e) 133 (cfn 133) .e) 134 (cfn 134) (.n .e 135 (cfn 135) .e)) 136 (cfn 136) (.n (.n (.n .e 137 (cfn 137) .e) 138 (cfn 138) .e) 139 (cfn 139) (.n .e 140 (cfn 140) .e)))) 141 (cfn 141) (.n (.n (.n (.n (.n .e 142 (cfn 142) .e) 143 (cfn 143) .e) 144 (cfn 144) (.n .e 145 (cfn 145) .e)) 146 (cfn 146) (.n (.n (.n .e 147 (cfn 147) .e) 148 (cfn 148) .e) 149 f149 (.n .e 150 f150 .e))) 151 (cfn 151) (.n (.n (.n (.n .e 152 (cfn 152) .e) 153 (cfn 153) .e) 154 (cfn 154) (.n .e 155 (cfn 155) .e)) 156 (cfn 156) (.n (.n .e 157 (cfn 157) .e) 158 (cfn 158) (.n .e 160 (cfn 160) .e))))))) 162 (cfn 162) (.n (.n (.n (.n (.n (.n (.n (.n .e 163 (cfn 163) .e) 164 (cfn 164) .e) 165 (cfn 165) (.n .e 166 (cfn 166) .e)) 167 (cfn 167) (.n (.n (.n .e 168 (cfn 168) .e) 169 (cfn 169) .e) 170 (cfn 170) (.n .e 171 (cfn 171) .e))) 172 (cfn 172) (.n (.n (.n (.n .e 173 (cfn 173) .e) 174 (cfn 174) .e) 175 (cfn 175) (.n .e 176 (cfn 176) .e)) 177 (cfn 177) (.n (.n (.n .e 178 (cfn 178) .e) 179 (cfn 179) .e) 180 (cfn 180) (.n .e 181 (cfn 181) .e)))) 182 (cfn 182) (.n (.n (.n (.n (.n .e 183 (cfn 183) .e) 184 (cfn 184) .e) 185 (cfn 185) (.n .e 186 (cfn 186) .e)) 187 (cfn 187) (.n (.n (.n .e 188 (cfn 188) .e) 189 (cfn 189) .e) 190 (cfn 190) (.n .e 191 (cfn 191) .e))) 192 (cfn 192) (.n (.n (.n (.n .e 193 (cfn 193) .e) 194 (cfn 194) .e) 195 (cfn 195) (.n .e 196 (cfn 196) .e)) 197 (cfn 197) (.n (.n (.n .e 198 (cfn 198) .e) 199 (cfn 199) .e) 200 (cfn 200) (.n .e 201 (cfn 201) .e))))) 202 (cfn 202) (.n (.n (.n (.n (.n (.n .e 203 (cfn 203) .e) 204 (cfn 204) .e) 205 (cfn 205) (.n .e 206 (cfn 206) .e)) 207 (cfn 207) (.n (.n (.n .e 208 (cfn 208) .e) 209 (cfn 209) .e) 210 (cfn 210) (.n .e 211 (cfn 211) .e))) 212 (cfn 212) (.n (.n (.n (.n .e 213 (cfn 213) .e) 214 (cfn 214) .e) 215 (cfn 215) (.n .e 216 (cfn 216) .e)) 218 (cfn 218) (.n (.n (.n .e 219 (cfn 219) .e) 220 (cfn 220) .e) 221 (cfn 221) (.n .e 222 (cfn 222) .e)))) 223 (cfn 223) (.n (.n (.n (.n (.n .e 224 (cfn 224) .e) 225 (cfn 225) .e) 226 (cfn 226) (.n .e 227 (cfn 227) .e)) 228 (cfn 228) (.n (.n (.n .e 229 (cfn 229) .e) 230 (cfn 230) .e) 231 (cfn 231) (.n .e 232 (cfn 232) .e))) 233 (cfn 233) (.n (.n (.n (.n .e 234 (cfn 234) .e) 235 (cfn 235) .e) 236 (cfn 236) (.n .e 237 (cfn 237) .e)) 238 (cfn 238) (.n (.n .e 239 (cfn 239) .e) 240 (cfn 240) (.n .e 241 (cfn 241) .e)))))) 242 (cfn 242) (.n (.n (.n (.n (.n (.n (.n .e 243 (cfn 243) .e) 244 (cfn 244) .e) 245 (cfn 245) (.n .e 246 (cfn 246) .e)) 247 (cfn 247) (.n (.n (.n .e 248 (cfn 248) .e) 249 (cfn 249) .e) 250 (cfn 250) (.n .e 252 (cfn 252) .e))) 253 (cfn 253) (.n (.n (.n (.n .e 254 (cfn 254) .e) 255 (cfn 255) .e) 256 (cfn 256) (.n .e 257 (cfn 257) .e)) 258 (cfn 258) (.n (.n (.n .e 259 (cfn 259) .e) 260 (cfn 260) .e) 261 (cfn 261) (.n .e 262 (cfn 262) .e)))) 263 (cfn 263) (.n (.n (.n (.n (.n .e 264 (cfn 264) .e) 265 (cfn 265) .e) 266 (cfn 266) (.n .e 267 (cfn 267) .e)) 268 (cfn 268) (.n (.n (.n .e 269 (cfn 269) .e) 270 (cfn 270) .e) 271 (cfn 271) (.n .e 272 (cfn 272) .e))) 274 (cfn 274) (.n (.n (.n (.n .e 275 (cfn 275) .e) 276 (cfn 276) .e) 277 (cfn 277) (.n .e 278 (cfn 278) .e)) 279 (cfn 279) (.n (.n (.n .e 280 (cfn 280) .e) 281 (cfn 281) .e) 282 (cfn 282) (.n .e 283 (cfn 283) .e))))) 284 (cfn 284) (.n (.n (.n (.n (.n (.n .e 285 (cfn 285) .e) 286 (cfn 286) .e) 287 (cfn 287) (.n .e 288 (cfn 288) .e)) 289 (cfn 289) (.n (.n (.n .e 290 (cfn 290) .e) 291 (cfn 291) .e) 292 (cfn 292) (.n .e 293 (cfn 293) .e))) 294 (cfn 294) (.n (.n (.n (.n .e 295 (cfn 295) .e) 296 (cfn 296) .e) 297 (cfn 297) (.n .e 298 (cfn 298) .e)) 299 (cfn 299) (.n (.n (.n .e 301 (cfn 301) .e) 302 (cfn 302) .e) 303 (cfn 303) (.n .e 304 (cfn 304) .e)))) 305 (cfn 305) (.n (.n (.n (.n (.n .e 306 (cfn 306) .e) 307 (cfn 307) .e) 308 (cfn 308) (.n .e 309 (cfn 309) .e)) 310 (cfn 310) (.n (.n (.n .e 311 (cfn 311) .e) 312 (cfn 312) .e) 313 (cfn 313) (.n .e 314 (cfn 314) .e))) 315 (cfn 315) (.n (.n (.n (.n .e 316 (cfn 316) .e) 317 (cfn 317) .e) 320 (cfn 320) (.n .e 321 (cfn 321) .e)) 322 (cfn 322) (.n (.n .e 323 (cfn 323) .e) 324 (cfn 324) (.n .e 359 (cfn 359) .e))))))))
noncomputable def fre : FT IFn → FT IFn
  | .e => .e
  | .n l k _ r => .n (fre l) k (cfn k) (fre r)
noncomputable def fok : FT IFn → Bool
  | .e => true
  | .n l k _ r => (compFn P k).isSome && (callable P k && (fok l && fok r))
theorem fok_all : ∀ t, fok t = true → FtAll (fun f fn => compFn P f = some fn ∧ callable P f = true) (fre t)
  | .e, _ => trivial
  | .n l k _ r, h => by
    simp only [fok, Bool.and_eq_true] at h
    exact ⟨fok_all l h.2.2.1, ⟨cfn_is h.1, h.2.1⟩, fok_all r h.2.2.2⟩
theorem fnt_ok : FtAll (fun f fn => compFn P f = some fn ∧ callable P f = true) fnt := (show fre fnt = fnt by kernel_rfl) ▸ fok_all fnt (by kernel_rfl)
def owns (f : FuncId) : List Nat :=
  bif Nat.beq f 8 then [22] else bif Nat.beq f 14 then [3] else bif Nat.beq f 45 then [5] else bif Nat.beq f 59 then [5] else bif Nat.beq f 60 then [5] else bif Nat.beq f 73 then [7] else bif Nat.beq f 186 then [5] else bif Nat.beq f 310 then [5] else []
def rf (f : FuncId) : Bool := Nat.beq f 45
end Fw.Tz

/-
  The quicker run over the program's functions.
-/
namespace Fw.Tz
open Go Go.Proofs Fw.X
def kt0 : FT Nat := (.n (.n (.n (.n (.n (.n .e 7 0 .e) 14 0 .e) 17 0 (.n .e 18 0 .e)) 40 0 (.n (.n .e 45 0 .e) 55 0 (.n .e 59 0 .e))) 60 0 (.n (.n (.n .e 69 0 .e) 75 0 (.n .e 77 0 .e)) 78 0 (.n (.n .e 79 0 .e) 97 0 (.n .e 137 0 .e)))) 138 0 (.n (.n (.n (.n (.n .e 139 0 .e) 140 0 .e) 143 0 (.n .e 145 0 .e)) 176 0 (.n (.n .e 179 0 .e) 186 0 (.n .e 195 0 .e))) 205 0 (.n (.n (.n .e 235 0 .e) 237 0 (.n .e 244 0 .e)) 247 0 (.n (.n .e 249 0 .e) 310 0 (.n .e 311 0 .e)))))
noncomputable def callX (_ : World) (kt : FT Nat) (ex : Extra) (raw : CallF) : CallF := mkC kt ex rf hook (pr sums) raw
noncomputable def pcallX (kt : FT Nat) (ex : Extra) (raw : CallF) : PCallF := mkPC kt ex rf (pr sums) raw
noncomputable def rawX (W : World) (kt : FT Nat) (ex : Extra) (d : Nat) : CallF := rawC (compCode P) owns (gl W) fnt (callX W kt ex) (pcallX kt ex) 1000 d
noncomputable def pcX (W : World) (kt : FT Nat) (ex : Extra) (d : Nat) : PCallF := pcallX kt ex (rawX W kt ex d)
variable {W : World}
theorem orders : P.follows .mixedOrders = true := by kernel_rfl
theorem callX_ok (hW : W0 W) {kt : FT Nat} {ex : Extra} (he : ExOk P (gl W) ex) : ∀ raw, CallOk P (gl W) raw → CallOk P (gl W) (callX W kt ex raw) := mkC_ok he hook_ok (sums_ok hW)
theorem pcallX_ok (hW : W0 W) {kt : FT Nat} {ex : Extra} (he : ExOk P (gl W) ex) : ∀ raw, CallOk P (gl W) raw → PCallOk P (gl W) (pcallX kt ex raw) := mkPC_ok he (sums_ok hW)
theorem rawX_ok (hW : W0 W) {kt : FT Nat} {ex : Extra} (he : ExOk P (gl W) ex) (d : Nat) : CallOk P (gl W) (rawX W kt ex d) := by
  unfold rawX; rw [rawC_eq]; exact rawG_ok orders fnt_ok (callX_ok hW he) (pcallX_ok hW he) 1000 d
theorem pcX_ok (hW : W0 W) {kt : FT Nat} {ex : Extra} (he : ExOk P (gl W) ex) (d : Nat) : PCallOk P (gl W) (pcX W kt ex d) := pcallX_ok hW he _ (rawX_ok hW he d)
theorem ex0 : ExOk P (gl W) .e := trivial
theorem bytesEq_eq : ∀ {x y : List UInt8}, Fw.bytesEq x y = true → x = y
  | [], [], _ => rfl
  | [], _ :: _, h => by simp [Fw.bytesEq] at h
  | _ :: _, [], h => by simp [Fw.bytesEq] at h
  | a :: x, b :: y, h => by
    simp only [Fw.bytesEq] at h
    cases hb : Nat.beq a.toNat b.toNat with
    | false => rw [hb] at h; cases h
    | true =>
      rw [hb] at h
      rw [bytesEq_eq h, UInt8.toNat_inj.1 (Nat.eq_of_beq_eq_true hb)]
def atS : List (List UInt8 × V) → List UInt8 → Option V
  | [], _ => none
  | (k, v) :: l, s => bif Fw.bytesEq k s then some v else atS l s
theorem atS_ok {p : List UInt8 → V → Prop} : ∀ {l : List (List UInt8 × V)} {s : List UInt8} {v : V}, (∀ q ∈ l, p q.1 q.2) → atS l s = some v → p s v
  | [], _, _, _, h => by cases h
  | (k, u) :: l, s, v, hl, h => by
    simp only [atS] at h
    cases hb : Fw.bytesEq k s with
    | true =>
      rw [hb] at h
      simp only [cond_true, Option.some.injEq] at h; subst h
      rw [← bytesEq_eq hb]; exact hl _ List.mem_cons_self
    | false => rw [hb] at h; exact atS_ok (fun q hq => hl q (List.mem_cons_of_mem _ hq)) h
def tab0 (v : V) : List V → Option V
  | [] => some v
  | _ => none
def tabS (l : List (List UInt8 × V)) : List V → Option V
  | [.d (.str s)] => atS l s
  | _ => none
theorem tab0_ok {f : FuncId} {v : V} (h : PC P (gl W) f [] v) : ∀ args r, tab0 v args = some r → PC P (gl W) f args r := by
  intro args r hr
  unfold tab0 at hr
  split at hr
  · simp only [Option.some.injEq] at hr; subst hr; exact h
  · cases hr
theorem tabS_ok {f : FuncId} {l : List (List UInt8 × V)} (h : ∀ q ∈ l, PC P (gl W) f [.d (.str q.1)] q.2) : ∀ args r, tabS l args = some r → PC P (gl W) f args r := by
  intro args r hr
  unfold tabS at hr
  split at hr
  · exact atS_ok (p := fun s v => PC P (gl W) f [.d (.str s)] v) h hr
  · cases hr
end Fw.Tz

/-
  The interpreter over the program's functions, and what its answers prove.
-/
namespace Fw.Tz
open Go Go.Proofs Fw.X
noncomputable def pcT (W : World) (d : Nat) : PCallF := pcX W kt0 .e d
variable {W : World}
theorem pcT_ok (hW : W0 W) (d : Nat) : PCallOk P (gl W) (pcT W d) := pcX_ok hW ex0 d
end Fw.Tz
