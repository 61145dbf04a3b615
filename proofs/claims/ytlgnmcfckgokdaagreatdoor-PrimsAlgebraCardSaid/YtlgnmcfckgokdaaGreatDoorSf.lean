/-
  PrimsAlgebra: the law's regions over any answers of its callees.
-/
import Derived.Test.YtlgnmcfckgokdaaGreatDoorTc
import Derived.Test.YtlgnmcfckgokdaaGreatDoorFf
import Derived.Test.YtlgnmcfckgokdaaGreatDoorTf

set_option linter.unusedSimpArgs false
set_option linter.unusedVariables false
set_option maxRecDepth 1000000
set_option maxHeartbeats 4000000
namespace Fw.Tz
open Go Go.Proofs Fw.X
variable {W : World}
attribute [local simp] runO asData guardB eff evo get_cons put_cons put_nil stput_some stput_none happ binD binS binI eqV unV fillC putCells cellsV okC storeC hget hput nbeq nble loadC mkV mlist sliceC dcells chunk inO effF
def tmA (s : List UInt8) (a b c : Int) : List (Nat × V) := [(4, .d (.bool false)), (6, .d (.str s)), (7, .d (.int .i64 a)), (8, .d (.int .i64 b)), (9, .d (.int .i64 c))]
def stA (s : List UInt8) (a b c : Int) (H : Heap) : St := ⟨187, tmA s a b c, H⟩
def tmAz (s : List UInt8) (a b c z : Int) (bz : Bool) : List (Nat × V) := tmA s a b c ++ [(16, .d (.int .i64 z)), (17, .d (.bool bz))]
def tmAy (s : List UInt8) (a b c z : Int) (bz : Bool) : List (Nat × V) := tmA s a b c ++ [(18, .d (.int .i64 z)), (19, .d (.bool bz))]
theorem al11 {s : List UInt8} {a b c : Int} {H : Heap} (hH : heapLt H.length H = true) {g : Int → Int → Int} {e : Int → Int} (h44 : ∀ x y, PC P (gl W) 44 [.d (.str s), .d (.list [[.int .i64 x], [.int .i64 y]])] (.d (.int .i64 (g x y)))) (h45 : ∀ x, PC P (gl W) 45 [.d (.str s), .d (.int .i64 x)] (.d (.int .i64 (e x)))) {bf : Bool} (hf : PC P (gl W) 38 [.d (.str s)] (.d (.bool bf))) (hl : bf = true → ∀ x y, g x y = g y x) {d : IR} {Q : Ex → St → Prop} (hq : WC P (gl W) d (stA s a b c H) Q) :
    WC P (gl W) (.seq (.seq (.region f10.r11) (.cond (.t 97) (.seq (.region f10.r12) .ret) .skip)) d) (stA s a b c H) Q := by
  cases bf with
  | false =>
    refine WC.seq (WC.seq ?_)
    refine WC.region ?_
    refine WO.preN 1 (own := []) noC_ok (by simp [f10.r11, tmA, tmAz, tmAy, stA, runO]; rfl) ?_
    refine WO.callPC rfl rfl (hf) (by simp [f10.r11, tmA, tmAz, tmAy, stA, get_cons, put_cons, put_nil, stput_some]; rfl) ?_
    refine runO_ok (own := []) noC_ok (by simp [tmA, tmAz, tmAy, stA, runO]; rfl) ?_
    refine WC.cond (t := false) (by simp [evo, get_cons]) (WC.skip ?_)
    exact WC.pre [4, 6, 7, 8, 9] (σ' := stA s a b c H) (by simp [cleanSt, keepTm, tmLt, refsLt, nbeq, stA, tmA, hH]) hq
  | true =>
    have hl := hl rfl
    have hne : (g a b != g b a) = false := by rw [hl a b]; simp
    refine WC.seq (WC.seq ?_)
    refine WC.region ?_
    refine WO.preN 1 (own := []) noC_ok (by simp [f10.r11, tmA, tmAz, tmAy, stA, runO, hne]; rfl) ?_
    refine WO.callPC rfl rfl (hf) (by simp [f10.r11, tmA, tmAz, tmAy, stA, get_cons, put_cons, put_nil, stput_some]; rfl) ?_
    refine WO.preN 5 (own := []) noC_ok (by simp [tmA, tmAz, tmAy, stA, runO, hne]; rfl) ?_
    refine WO.callPC rfl rfl (h44 a b) (by simp [tmA, tmAz, tmAy, stA, get_cons, put_cons, put_nil, stput_some]; rfl) ?_
    refine WO.preN 4 (own := []) noC_ok (by simp [tmA, tmAz, tmAy, stA, runO, hne]; rfl) ?_
    refine WO.callPC rfl rfl (h44 b a) (by simp [tmA, tmAz, tmAy, stA, get_cons, put_cons, put_nil, stput_some]; rfl) ?_
    refine runO_ok (own := []) noC_ok (by simp [tmA, tmAz, tmAy, stA, runO, hne]; rfl) ?_
    refine WC.cond (t := false) (by simp [evo, get_cons]) (WC.skip ?_)
    exact WC.pre [4, 6, 7, 8, 9] (σ' := stA s a b c H) (by simp [cleanSt, keepTm, tmLt, refsLt, nbeq, stA, tmA, hH]) hq
theorem al13 {s : List UInt8} {a b c : Int} {H : Heap} (hH : heapLt H.length H = true) {g : Int → Int → Int} {e : Int → Int} (h44 : ∀ x y, PC P (gl W) 44 [.d (.str s), .d (.list [[.int .i64 x], [.int .i64 y]])] (.d (.int .i64 (g x y)))) (h45 : ∀ x, PC P (gl W) 45 [.d (.str s), .d (.int .i64 x)] (.d (.int .i64 (e x)))) {bf : Bool} (hf : PC P (gl W) 40 [.d (.str s)] (.d (.bool bf))) (hl : bf = true → ∀ x y z, g (g x y) z = g x (g y z)) {d : IR} {Q : Ex → St → Prop} (hq : WC P (gl W) d (stA s a b c H) Q) :
    WC P (gl W) (.seq (.seq (.region f10.r13) (.cond (.t 120) (.seq (.region f10.r14) .ret) .skip)) d) (stA s a b c H) Q := by
  cases bf with
  | false =>
    refine WC.seq (WC.seq ?_)
    refine WC.region ?_
    refine WO.preN 1 (own := []) noC_ok (by simp [f10.r13, tmA, tmAz, tmAy, stA, runO]; rfl) ?_
    refine WO.callPC rfl rfl (hf) (by simp [f10.r13, tmA, tmAz, tmAy, stA, get_cons, put_cons, put_nil, stput_some]; rfl) ?_
    refine runO_ok (own := []) noC_ok (by simp [tmA, tmAz, tmAy, stA, runO]; rfl) ?_
    refine WC.cond (t := false) (by simp [evo, get_cons]) (WC.skip ?_)
    exact WC.pre [4, 6, 7, 8, 9] (σ' := stA s a b c H) (by simp [cleanSt, keepTm, tmLt, refsLt, nbeq, stA, tmA, hH]) hq
  | true =>
    have hl := hl rfl
    have hne : (g (g a b) c != g a (g b c)) = false := by rw [hl a b c]; simp
    refine WC.seq (WC.seq ?_)
    refine WC.region ?_
    refine WO.preN 1 (own := []) noC_ok (by simp [f10.r13, tmA, tmAz, tmAy, stA, runO, hne]; rfl) ?_
    refine WO.callPC rfl rfl (hf) (by simp [f10.r13, tmA, tmAz, tmAy, stA, get_cons, put_cons, put_nil, stput_some]; rfl) ?_
    refine WO.preN 6 (own := []) noC_ok (by simp [tmA, tmAz, tmAy, stA, runO, hne]; rfl) ?_
    refine WO.callPC rfl rfl (h44 a b) (by simp [tmA, tmAz, tmAy, stA, get_cons, put_cons, put_nil, stput_some]; rfl) ?_
    refine WO.preN 2 (own := []) noC_ok (by simp [tmA, tmAz, tmAy, stA, runO, hne]; rfl) ?_
    refine WO.callPC rfl rfl (h44 (g a b) c) (by simp [tmA, tmAz, tmAy, stA, get_cons, put_cons, put_nil, stput_some]; rfl) ?_
    refine WO.preN 6 (own := []) noC_ok (by simp [tmA, tmAz, tmAy, stA, runO, hne]; rfl) ?_
    refine WO.callPC rfl rfl (h44 b c) (by simp [tmA, tmAz, tmAy, stA, get_cons, put_cons, put_nil, stput_some]; rfl) ?_
    refine WO.preN 1 (own := []) noC_ok (by simp [tmA, tmAz, tmAy, stA, runO, hne]; rfl) ?_
    refine WO.callPC rfl rfl (h44 a (g b c)) (by simp [tmA, tmAz, tmAy, stA, get_cons, put_cons, put_nil, stput_some]; rfl) ?_
    refine runO_ok (own := []) noC_ok (by simp [tmA, tmAz, tmAy, stA, runO, hne]; rfl) ?_
    refine WC.cond (t := false) (by simp [evo, get_cons]) (WC.skip ?_)
    exact WC.pre [4, 6, 7, 8, 9] (σ' := stA s a b c H) (by simp [cleanSt, keepTm, tmLt, refsLt, nbeq, stA, tmA, hH]) hq
theorem al15 {s : List UInt8} {a b c : Int} {H : Heap} (hH : heapLt H.length H = true) {g : Int → Int → Int} {e : Int → Int} (h44 : ∀ x y, PC P (gl W) 44 [.d (.str s), .d (.list [[.int .i64 x], [.int .i64 y]])] (.d (.int .i64 (g x y)))) (h45 : ∀ x, PC P (gl W) 45 [.d (.str s), .d (.int .i64 x)] (.d (.int .i64 (e x)))) {bf : Bool} (hf : PC P (gl W) 42 [.d (.str s)] (.d (.bool bf))) (hl : bf = true → ∀ x, g x x = e x) {d : IR} {Q : Ex → St → Prop} (hq : WC P (gl W) d (stA s a b c H) Q) :
    WC P (gl W) (.seq (.seq (.region f10.r15) (.cond (.t 133) (.seq (.region f10.r16) .ret) .skip)) d) (stA s a b c H) Q := by
  cases bf with
  | false =>
    refine WC.seq (WC.seq ?_)
    refine WC.region ?_
    refine WO.preN 1 (own := []) noC_ok (by simp [f10.r15, tmA, tmAz, tmAy, stA, runO]; rfl) ?_
    refine WO.callPC rfl rfl (hf) (by simp [f10.r15, tmA, tmAz, tmAy, stA, get_cons, put_cons, put_nil, stput_some]; rfl) ?_
    refine runO_ok (own := []) noC_ok (by simp [tmA, tmAz, tmAy, stA, runO]; rfl) ?_
    refine WC.cond (t := false) (by simp [evo, get_cons]) (WC.skip ?_)
    exact WC.pre [4, 6, 7, 8, 9] (σ' := stA s a b c H) (by simp [cleanSt, keepTm, tmLt, refsLt, nbeq, stA, tmA, hH]) hq
  | true =>
    have hl := hl rfl
    have hne : (g a a != e a) = false := by rw [hl a]; simp
    refine WC.seq (WC.seq ?_)
    refine WC.region ?_
    refine WO.preN 1 (own := []) noC_ok (by simp [f10.r15, tmA, tmAz, tmAy, stA, runO, hne]; rfl) ?_
    refine WO.callPC rfl rfl (hf) (by simp [f10.r15, tmA, tmAz, tmAy, stA, get_cons, put_cons, put_nil, stput_some]; rfl) ?_
    refine WO.preN 5 (own := []) noC_ok (by simp [tmA, tmAz, tmAy, stA, runO, hne]; rfl) ?_
    refine WO.callPC rfl rfl (h44 a a) (by simp [tmA, tmAz, tmAy, stA, get_cons, put_cons, put_nil, stput_some]; rfl) ?_
    refine WO.preN 2 (own := []) noC_ok (by simp [tmA, tmAz, tmAy, stA, runO, hne]; rfl) ?_
    refine WO.callPC rfl rfl (h45 a) (by simp [tmA, tmAz, tmAy, stA, get_cons, put_cons, put_nil, stput_some]; rfl) ?_
    refine runO_ok (own := []) noC_ok (by simp [tmA, tmAz, tmAy, stA, runO, hne]; rfl) ?_
    refine WC.cond (t := false) (by simp [evo, get_cons]) (WC.skip ?_)
    exact WC.pre [4, 6, 7, 8, 9] (σ' := stA s a b c H) (by simp [cleanSt, keepTm, tmLt, refsLt, nbeq, stA, tmA, hH]) hq
theorem al17 {s : List UInt8} {a b c : Int} {H : Heap} (hH : heapLt H.length H = true) {g : Int → Int → Int} {e : Int → Int} (h44 : ∀ x y, PC P (gl W) 44 [.d (.str s), .d (.list [[.int .i64 x], [.int .i64 y]])] (.d (.int .i64 (g x y)))) (h45 : ∀ x, PC P (gl W) 45 [.d (.str s), .d (.int .i64 x)] (.d (.int .i64 (e x)))) {z : Int} {bf : Bool} (hf : PC P (gl W) 34 [.d (.str s)] (.tuple [.d (.int .i64 z), .d (.bool bf)])) (hl : bf = true → ∀ x, g x z = e x ∧ g z x = e x) {d : IR} {Q : Ex → St → Prop} (hq : WC P (gl W) d (stA s a b c H) Q) :
    WC P (gl W) (.seq (.seq (.region f10.r17) (.seq (.region f10.r18) (.cond (.t 161) (.seq (.region f10.r19) .ret) .skip))) d) (stA s a b c H) Q := by
  refine WC.seq (WC.seq ?_)
  refine WC.region ?_
  refine WO.preN 1 (own := []) noC_ok (by simp [f10.r17, tmA, tmAz, tmAy, stA, runO]; rfl) ?_
  refine WO.callPC rfl rfl (hf) (by simp [f10.r17, tmA, tmAz, tmAy, stA, get_cons, put_cons, put_nil, stput_some]; rfl) ?_
  refine runO_ok (own := []) noC_ok (by simp [tmA, tmAz, tmAy, stA, runO]; rfl) ?_
  refine WC.pre [4, 6, 7, 8, 9, 16, 17] (σ' := ⟨187, tmAz s a b c z bf, H⟩) (by simp [cleanSt, keepTm, tmLt, refsLt, nbeq, stA, tmA, tmAz, hH]) ?_
  refine WC.seq ?_
  cases bf with
  | false =>
    refine WC.region ?_
    refine runO_ok (own := []) noC_ok (by simp [f10.r18, tmA, tmAz, tmAy, stA, runO]; rfl) ?_
    refine WC.cond (t := false) (by simp [evo, get_cons]) (WC.skip ?_)
    exact WC.pre [4, 6, 7, 8, 9] (σ' := stA s a b c H) (by simp [cleanSt, keepTm, tmLt, refsLt, nbeq, stA, tmA, hH]) hq
  | true =>
    have hl := hl rfl
    have hn1 : (g a z != e a) = false := by rw [(hl a).1]; simp
    have hn2 : (g z a != e a) = false := by rw [(hl a).2]; simp
    refine WC.region ?_
    refine WO.preN 6 (own := []) noC_ok (by simp [f10.r18, tmA, tmAz, tmAy, stA, runO, hn1, hn2]; rfl) ?_
    refine WO.callPC rfl rfl (h44 a z) (by simp [f10.r18, tmA, tmAz, tmAy, stA, get_cons, put_cons, put_nil, stput_some]; rfl) ?_
    refine WO.preN 2 (own := []) noC_ok (by simp [tmA, tmAz, tmAy, stA, runO, hn1, hn2]; rfl) ?_
    refine WO.callPC rfl rfl (h45 a) (by simp [tmA, tmAz, tmAy, stA, get_cons, put_cons, put_nil, stput_some]; rfl) ?_
    refine WO.preN 6 (own := []) noC_ok (by simp [tmA, tmAz, tmAy, stA, runO, hn1, hn2]; rfl) ?_
    refine WO.callPC rfl rfl (h44 z a) (by simp [tmA, tmAz, tmAy, stA, get_cons, put_cons, put_nil, stput_some]; rfl) ?_
    refine WO.preN 2 (own := []) noC_ok (by simp [tmA, tmAz, tmAy, stA, runO, hn1, hn2]; rfl) ?_
    refine WO.callPC rfl rfl (h45 a) (by simp [tmA, tmAz, tmAy, stA, get_cons, put_cons, put_nil, stput_some]; rfl) ?_
    refine runO_ok (own := []) noC_ok (by simp [tmA, tmAz, tmAy, stA, runO, hn1, hn2]; rfl) ?_
    refine WC.cond (t := false) (by simp [evo, get_cons]) (WC.skip ?_)
    exact WC.pre [4, 6, 7, 8, 9] (σ' := stA s a b c H) (by simp [cleanSt, keepTm, tmLt, refsLt, nbeq, stA, tmA, hH]) hq
theorem al20 {s : List UInt8} {a b c : Int} {H : Heap} (hH : heapLt H.length H = true) {g : Int → Int → Int} {e : Int → Int} (h44 : ∀ x y, PC P (gl W) 44 [.d (.str s), .d (.list [[.int .i64 x], [.int .i64 y]])] (.d (.int .i64 (g x y)))) (h45 : ∀ x, PC P (gl W) 45 [.d (.str s), .d (.int .i64 x)] (.d (.int .i64 (e x)))) {z : Int} {bf : Bool} (hf : PC P (gl W) 36 [.d (.str s)] (.tuple [.d (.int .i64 z), .d (.bool bf)])) (hl : bf = true → ∀ x, g x z = z ∧ g z x = z) :
    WC P (gl W) (.seq (.region f10.r20) (.seq (.region f10.r21) .ret)) (stA s a b c H) (fun e σ => match e with | .exit _ => False | _ => (resV f10.res σ).bind (deepV σ.hp) = some (.d (.bool true))) := by
  refine WC.seq ?_
  refine WC.region ?_
  refine WO.preN 1 (own := []) noC_ok (by simp [f10.r20, tmA, tmAz, tmAy, stA, runO]; rfl) ?_
  refine WO.callPC rfl rfl (hf) (by simp [f10.r20, tmA, tmAz, tmAy, stA, get_cons, put_cons, put_nil, stput_some]; rfl) ?_
  refine runO_ok (own := []) noC_ok (by simp [tmA, tmAz, tmAy, stA, runO]; rfl) ?_
  refine WC.pre [4, 6, 7, 8, 9, 18, 19] (σ' := ⟨187, tmAy s a b c z bf, H⟩) (by simp [cleanSt, keepTm, tmLt, refsLt, nbeq, stA, tmA, tmAy, hH]) ?_
  refine WC.seq ?_
  cases bf with
  | false =>
    refine WC.region ?_
    refine runO_ok (own := []) noC_ok (by simp [f10.r21, tmA, tmAz, tmAy, stA, runO]; rfl) ?_
    refine WC.ret ?_
    simp [resV, f10, mapO, resOne, get_cons, deepV, deepA, deepC, deepFuel]
  | true =>
    have hl := hl rfl
    have hn1 : (g a z == z) = true := by rw [(hl a).1]; simp
    have hn2 : (g z a == z) = true := by rw [(hl a).2]; simp
    refine WC.region ?_
    refine WO.preN 7 (own := []) noC_ok (by simp [f10.r21, tmA, tmAz, tmAy, stA, runO, hn1, hn2]; rfl) ?_
    refine WO.callPC rfl rfl (h44 a z) (by simp [f10.r21, tmA, tmAz, tmAy, stA, get_cons, put_cons, put_nil, stput_some]; rfl) ?_
    refine WO.preN 7 (own := []) noC_ok (by simp [tmA, tmAz, tmAy, stA, runO, hn1, hn2]; rfl) ?_
    refine WO.callPC rfl rfl (h44 z a) (by simp [tmA, tmAz, tmAy, stA, get_cons, put_cons, put_nil, stput_some]; rfl) ?_
    refine runO_ok (own := []) noC_ok (by simp [tmA, tmAz, tmAy, stA, runO, hn1, hn2]; rfl) ?_
    refine WC.ret ?_
    simp [resV, f10, mapO, resOne, get_cons, deepV, deepA, deepC, deepFuel]
end Fw.Tz

/-
  Walks over the program's functions: pieces of code run by the quicker run.
-/
set_option maxRecDepth 100000
namespace Fw.Tz
open Go Go.Proofs Fw.X
variable {W : World}
noncomputable def rk (W : World) (n : Nat) (c : IR) (ks : List Nat) (tm : List (Nat × V)) (H : Heap) : Option XR :=
  runP [] (gl W) (callX W kt0 .e (rawX W kt0 .e 40)) (pcallX kt0 .e (rawX W kt0 .e 40)) n c ks tm H
noncomputable def ro (W : World) (n : Nat) (l : List IOper) (ks : List Nat) (tm : List (Nat × V)) (H : Heap) : Option XR :=
  runQ1 [] (gl W) (callX W kt0 .e (rawX W kt0 .e 40)) (pcallX kt0 .e (rawX W kt0 .e 40)) n l ks tm H
theorem sn (hW : W0 W) (k : Nat) {n : Nat} {c : IR} {tm tm' : List (Nat × V)} {H H' : Heap} {Q : Ex → St → Prop}
    (h : rk W n (cTake k c) (tm'.map Prod.fst) tm H = some (.tuple (tm'.map Prod.snd), H')) (hq : WC P (gl W) (cDrop k c) ⟨n, tm', H'⟩ Q) : WC P (gl W) c ⟨n, tm, H⟩ Q :=
  WC.runN orders (callX_ok hW ex0 _ (rawX_ok hW ex0 40)) (pcallX_ok hW ex0 _ (rawX_ok hW ex0 40)) k h hq
theorem so (hW : W0 W) (k : Nat) {n : Nat} {l : List IOper} {tm tm' : List (Nat × V)} {H H' : Heap} {Q : St → Prop}
    (h : ro W n (l.take k) (tm'.map Prod.fst) tm H = some (.tuple (tm'.map Prod.snd), H')) (hq : WO P (gl W) (l.drop k) ⟨n, tm', H'⟩ Q) : WO P (gl W) l ⟨n, tm, H⟩ Q :=
  WO.runP (callX_ok hW ex0 _ (rawX_ok hW ex0 40)) k h hq
end Fw.Tz

/-
  The law's own apply and element.
-/
set_option linter.unusedSimpArgs false
set_option maxRecDepth 1000000
set_option maxHeartbeats 4000000
namespace Fw.Tz
open Go Go.Proofs Fw.X
variable {W : World}
def an (x : Int) : Int := IntKind.wrap .i64 (BitVec.ofInt IntKind.i64.bits x &&& BitVec.ofInt IntKind.i64.bits 1).toNat
theorem wr_in (x : Int) : -2147483648 ≤ wr x ∧ wr x ≤ 2147483647 := by
  unfold wr; rw [IntKind.wrap_i64, IntKind.wrap_i32]; omega
theorem an_in (x : Int) : an x = 0 ∨ an x = 1 := by
  unfold an
  have h : (BitVec.ofInt IntKind.i64.bits x &&& BitVec.ofInt IntKind.i64.bits 1).toNat ≤ 1 := by
    rw [BitVec.toNat_and]; exact Nat.and_le_right
  generalize (BitVec.ofInt IntKind.i64.bits x &&& BitVec.ofInt IntKind.i64.bits 1).toNat = n at h
  rw [IntKind.wrap_i64]; omega
theorem k45add (W : World) (x : Int) : pcT W 40 45 [.d (.str [97, 100, 100]), .d (.int .i64 x)] = some (.d (.int .i64 (wr x))) := by kernel_rfl
theorem pc45add (hW : W0 W) (x : Int) : PC P (gl W) 45 [.d (.str [97, 100, 100]), .d (.int .i64 x)] (.d (.int .i64 (wr x))) := pcT_ok hW 40 _ _ _ (k45add W x)
theorem pc44add (hW : W0 W) (x y : Int) : PC P (gl W) 44 [.d (.str [97, 100, 100]), .d (.list [[.int .i64 x], [.int .i64 y]])] (.d (.int .i64 (gadd (wr x) (wr y)))) := by
  refine PC.bodyQ is44 ca44 rfl ?_
  show WC P (gl W) (.seq (.region f44.r0) (.seq (.region f44.r1) (.seq (.region f44.r2) (.seq (.seq (.region f44.r3) (.block 0 (.loop f44.l10))) (.seq (.region f44.r11) (.seq (.region f44.r12) .ret)))))) ⟨52, [(0, .d (.str [97, 100, 100])), (1, .d (.list [[.int .i64 x], [.int .i64 y]]))], []⟩ _
  refine sn hW 4 (tm' := [(0, (.d (.str [97, 100, 100]))), (4, (.d (.int .i64 0))), (7, (.sl 1 2 0 2 1))]) (H' := [some (.cells [(.d (.str [97, 100, 100])), (.d (.bool true)), (.d (.bool false)), (.d (.bool false)), (.d (.list [])), (.d (.list [[(.str [105, 110, 116]), (.str []), (.list [])], [(.str [105, 110, 116]), (.str []), (.list [])]])), (.d (.str [105, 110, 116])), (.d (.str [])), (.d (.list [])), (.d (.list []))]), some (.cells [(.d (.int .i64 (IntKind.wrap IntKind.i64 (IntKind.wrap IntKind.i32 x)))), (.d (.int .i64 (IntKind.wrap IntKind.i64 (IntKind.wrap IntKind.i32 y))))])]) (by kernel_rfl) ?_
  refine WC.seq ?_
  refine WC.region ?_
  refine so hW 2 (tm' := [(4, (.d (.int .i64 0))), (46, (.d (.str [97, 100, 100]))), (47, (.sl 1 2 0 2 1))]) (H' := [some (.cells [(.d (.str [97, 100, 100])), (.d (.bool true)), (.d (.bool false)), (.d (.bool false)), (.d (.list [])), (.d (.list [[(.str [105, 110, 116]), (.str []), (.list [])], [(.str [105, 110, 116]), (.str []), (.list [])]])), (.d (.str [105, 110, 116])), (.d (.str [])), (.d (.list [])), (.d (.list []))]), some (.cells [(.d (.int .i64 (IntKind.wrap IntKind.i64 (IntKind.wrap IntKind.i32 x)))), (.d (.int .i64 (IntKind.wrap IntKind.i64 (IntKind.wrap IntKind.i32 y))))])]) (by kernel_rfl) ?_
  refine WO.bor (pc75add hW (wr_in x) (wr_in y)) rfl (by kernel_rfl) (by rfl) ?_
  refine so hW 5 (tm' := [(4, (.d (.int .i64 0))), (10, (.d (.int .i64 (gadd (wr x) (wr y)))))]) (H' := [some (.cells [(.d (.str [97, 100, 100])), (.d (.bool true)), (.d (.bool false)), (.d (.bool false)), (.d (.list [])), (.d (.list [[(.str [105, 110, 116]), (.str []), (.list [])], [(.str [105, 110, 116]), (.str []), (.list [])]])), (.d (.str [105, 110, 116])), (.d (.str [])), (.d (.list [])), (.d (.list []))]), some (.cells [(.d (.int .i64 (IntKind.wrap IntKind.i64 (IntKind.wrap IntKind.i32 x)))), (.d (.int .i64 (IntKind.wrap IntKind.i64 (IntKind.wrap IntKind.i32 y))))])]) (by kernel_rfl) ?_
  refine WO.nil ?_
  refine sn hW 1 (tm' := [(4, (.d (.int .i64 (gadd (wr x) (wr y)))))]) (H' := [some (.cells [(.d (.str [97, 100, 100])), (.d (.bool true)), (.d (.bool false)), (.d (.bool false)), (.d (.list [])), (.d (.list [[(.str [105, 110, 116]), (.str []), (.list [])], [(.str [105, 110, 116]), (.str []), (.list [])]])), (.d (.str [105, 110, 116])), (.d (.str [])), (.d (.list [])), (.d (.list []))]), some (.cells [(.d (.int .i64 (IntKind.wrap IntKind.i64 (IntKind.wrap IntKind.i32 x)))), (.d (.int .i64 (IntKind.wrap IntKind.i64 (IntKind.wrap IntKind.i32 y))))])]) (by kernel_rfl) ?_
  refine WC.ret ?_
  exact RetQ.ret (by kernel_rfl) rfl
theorem k45mul (W : World) (x : Int) : pcT W 40 45 [.d (.str [109, 117, 108]), .d (.int .i64 x)] = some (.d (.int .i64 (wr x))) := by kernel_rfl
theorem pc45mul (hW : W0 W) (x : Int) : PC P (gl W) 45 [.d (.str [109, 117, 108]), .d (.int .i64 x)] (.d (.int .i64 (wr x))) := pcT_ok hW 40 _ _ _ (k45mul W x)
theorem pc44mul (hW : W0 W) (x y : Int) : PC P (gl W) 44 [.d (.str [109, 117, 108]), .d (.list [[.int .i64 x], [.int .i64 y]])] (.d (.int .i64 (gmul (wr x) (wr y)))) := by
  refine PC.bodyQ is44 ca44 rfl ?_
  show WC P (gl W) (.seq (.region f44.r0) (.seq (.region f44.r1) (.seq (.region f44.r2) (.seq (.seq (.region f44.r3) (.block 0 (.loop f44.l10))) (.seq (.region f44.r11) (.seq (.region f44.r12) .ret)))))) ⟨52, [(0, .d (.str [109, 117, 108])), (1, .d (.list [[.int .i64 x], [.int .i64 y]]))], []⟩ _
  refine sn hW 4 (tm' := [(0, (.d (.str [109, 117, 108]))), (4, (.d (.int .i64 0))), (7, (.sl 1 2 0 2 1))]) (H' := [some (.cells [(.d (.str [109, 117, 108])), (.d (.bool true)), (.d (.bool false)), (.d (.bool false)), (.d (.list [])), (.d (.list [[(.str [105, 110, 116]), (.str []), (.list [])], [(.str [105, 110, 116]), (.str []), (.list [])]])), (.d (.str [105, 110, 116])), (.d (.str [])), (.d (.list [])), (.d (.list []))]), some (.cells [(.d (.int .i64 (IntKind.wrap IntKind.i64 (IntKind.wrap IntKind.i32 x)))), (.d (.int .i64 (IntKind.wrap IntKind.i64 (IntKind.wrap IntKind.i32 y))))])]) (by kernel_rfl) ?_
  refine WC.seq ?_
  refine WC.region ?_
  refine so hW 2 (tm' := [(4, (.d (.int .i64 0))), (46, (.d (.str [109, 117, 108]))), (47, (.sl 1 2 0 2 1))]) (H' := [some (.cells [(.d (.str [109, 117, 108])), (.d (.bool true)), (.d (.bool false)), (.d (.bool false)), (.d (.list [])), (.d (.list [[(.str [105, 110, 116]), (.str []), (.list [])], [(.str [105, 110, 116]), (.str []), (.list [])]])), (.d (.str [105, 110, 116])), (.d (.str [])), (.d (.list [])), (.d (.list []))]), some (.cells [(.d (.int .i64 (IntKind.wrap IntKind.i64 (IntKind.wrap IntKind.i32 x)))), (.d (.int .i64 (IntKind.wrap IntKind.i64 (IntKind.wrap IntKind.i32 y))))])]) (by kernel_rfl) ?_
  refine WO.bor (pc75mul hW (wr_in x) (wr_in y)) rfl (by kernel_rfl) (by rfl) ?_
  refine so hW 5 (tm' := [(4, (.d (.int .i64 0))), (10, (.d (.int .i64 (gmul (wr x) (wr y)))))]) (H' := [some (.cells [(.d (.str [109, 117, 108])), (.d (.bool true)), (.d (.bool false)), (.d (.bool false)), (.d (.list [])), (.d (.list [[(.str [105, 110, 116]), (.str []), (.list [])], [(.str [105, 110, 116]), (.str []), (.list [])]])), (.d (.str [105, 110, 116])), (.d (.str [])), (.d (.list [])), (.d (.list []))]), some (.cells [(.d (.int .i64 (IntKind.wrap IntKind.i64 (IntKind.wrap IntKind.i32 x)))), (.d (.int .i64 (IntKind.wrap IntKind.i64 (IntKind.wrap IntKind.i32 y))))])]) (by kernel_rfl) ?_
  refine WO.nil ?_
  refine sn hW 1 (tm' := [(4, (.d (.int .i64 (gmul (wr x) (wr y)))))]) (H' := [some (.cells [(.d (.str [109, 117, 108])), (.d (.bool true)), (.d (.bool false)), (.d (.bool false)), (.d (.list [])), (.d (.list [[(.str [105, 110, 116]), (.str []), (.list [])], [(.str [105, 110, 116]), (.str []), (.list [])]])), (.d (.str [105, 110, 116])), (.d (.str [])), (.d (.list [])), (.d (.list []))]), some (.cells [(.d (.int .i64 (IntKind.wrap IntKind.i64 (IntKind.wrap IntKind.i32 x)))), (.d (.int .i64 (IntKind.wrap IntKind.i64 (IntKind.wrap IntKind.i32 y))))])]) (by kernel_rfl) ?_
  refine WC.ret ?_
  exact RetQ.ret (by kernel_rfl) rfl
theorem k45min (W : World) (x : Int) : pcT W 40 45 [.d (.str [109, 105, 110]), .d (.int .i64 x)] = some (.d (.int .i64 (wr x))) := by kernel_rfl
theorem pc45min (hW : W0 W) (x : Int) : PC P (gl W) 45 [.d (.str [109, 105, 110]), .d (.int .i64 x)] (.d (.int .i64 (wr x))) := pcT_ok hW 40 _ _ _ (k45min W x)
theorem pc44min (hW : W0 W) (x y : Int) : PC P (gl W) 44 [.d (.str [109, 105, 110]), .d (.list [[.int .i64 x], [.int .i64 y]])] (.d (.int .i64 (gmin (wr x) (wr y)))) := by
  refine PC.bodyQ is44 ca44 rfl ?_
  show WC P (gl W) (.seq (.region f44.r0) (.seq (.region f44.r1) (.seq (.region f44.r2) (.seq (.seq (.region f44.r3) (.block 0 (.loop f44.l10))) (.seq (.region f44.r11) (.seq (.region f44.r12) .ret)))))) ⟨52, [(0, .d (.str [109, 105, 110])), (1, .d (.list [[.int .i64 x], [.int .i64 y]]))], []⟩ _
  refine sn hW 4 (tm' := [(0, (.d (.str [109, 105, 110]))), (4, (.d (.int .i64 0))), (7, (.sl 1 2 0 2 1))]) (H' := [some (.cells [(.d (.str [109, 105, 110])), (.d (.bool true)), (.d (.bool false)), (.d (.bool false)), (.d (.list [])), (.d (.list [[(.str [105, 110, 116]), (.str []), (.list [])], [(.str [105, 110, 116]), (.str []), (.list [])]])), (.d (.str [105, 110, 116])), (.d (.str [])), (.d (.list [])), (.d (.list []))]), some (.cells [(.d (.int .i64 (IntKind.wrap IntKind.i64 (IntKind.wrap IntKind.i32 x)))), (.d (.int .i64 (IntKind.wrap IntKind.i64 (IntKind.wrap IntKind.i32 y))))])]) (by kernel_rfl) ?_
  refine WC.seq ?_
  refine WC.region ?_
  refine so hW 2 (tm' := [(4, (.d (.int .i64 0))), (46, (.d (.str [109, 105, 110]))), (47, (.sl 1 2 0 2 1))]) (H' := [some (.cells [(.d (.str [109, 105, 110])), (.d (.bool true)), (.d (.bool false)), (.d (.bool false)), (.d (.list [])), (.d (.list [[(.str [105, 110, 116]), (.str []), (.list [])], [(.str [105, 110, 116]), (.str []), (.list [])]])), (.d (.str [105, 110, 116])), (.d (.str [])), (.d (.list [])), (.d (.list []))]), some (.cells [(.d (.int .i64 (IntKind.wrap IntKind.i64 (IntKind.wrap IntKind.i32 x)))), (.d (.int .i64 (IntKind.wrap IntKind.i64 (IntKind.wrap IntKind.i32 y))))])]) (by kernel_rfl) ?_
  refine WO.bor (pc75min hW (wr_in x) (wr_in y)) rfl (by kernel_rfl) (by rfl) ?_
  refine so hW 5 (tm' := [(4, (.d (.int .i64 0))), (10, (.d (.int .i64 (gmin (wr x) (wr y)))))]) (H' := [some (.cells [(.d (.str [109, 105, 110])), (.d (.bool true)), (.d (.bool false)), (.d (.bool false)), (.d (.list [])), (.d (.list [[(.str [105, 110, 116]), (.str []), (.list [])], [(.str [105, 110, 116]), (.str []), (.list [])]])), (.d (.str [105, 110, 116])), (.d (.str [])), (.d (.list [])), (.d (.list []))]), some (.cells [(.d (.int .i64 (IntKind.wrap IntKind.i64 (IntKind.wrap IntKind.i32 x)))), (.d (.int .i64 (IntKind.wrap IntKind.i64 (IntKind.wrap IntKind.i32 y))))])]) (by kernel_rfl) ?_
  refine WO.nil ?_
  refine sn hW 1 (tm' := [(4, (.d (.int .i64 (gmin (wr x) (wr y)))))]) (H' := [some (.cells [(.d (.str [109, 105, 110])), (.d (.bool true)), (.d (.bool false)), (.d (.bool false)), (.d (.list [])), (.d (.list [[(.str [105, 110, 116]), (.str []), (.list [])], [(.str [105, 110, 116]), (.str []), (.list [])]])), (.d (.str [105, 110, 116])), (.d (.str [])), (.d (.list [])), (.d (.list []))]), some (.cells [(.d (.int .i64 (IntKind.wrap IntKind.i64 (IntKind.wrap IntKind.i32 x)))), (.d (.int .i64 (IntKind.wrap IntKind.i64 (IntKind.wrap IntKind.i32 y))))])]) (by kernel_rfl) ?_
  refine WC.ret ?_
  exact RetQ.ret (by kernel_rfl) rfl
theorem k45max (W : World) (x : Int) : pcT W 40 45 [.d (.str [109, 97, 120]), .d (.int .i64 x)] = some (.d (.int .i64 (wr x))) := by kernel_rfl
theorem pc45max (hW : W0 W) (x : Int) : PC P (gl W) 45 [.d (.str [109, 97, 120]), .d (.int .i64 x)] (.d (.int .i64 (wr x))) := pcT_ok hW 40 _ _ _ (k45max W x)
theorem pc44max (hW : W0 W) (x y : Int) : PC P (gl W) 44 [.d (.str [109, 97, 120]), .d (.list [[.int .i64 x], [.int .i64 y]])] (.d (.int .i64 (gmax (wr x) (wr y)))) := by
  refine PC.bodyQ is44 ca44 rfl ?_
  show WC P (gl W) (.seq (.region f44.r0) (.seq (.region f44.r1) (.seq (.region f44.r2) (.seq (.seq (.region f44.r3) (.block 0 (.loop f44.l10))) (.seq (.region f44.r11) (.seq (.region f44.r12) .ret)))))) ⟨52, [(0, .d (.str [109, 97, 120])), (1, .d (.list [[.int .i64 x], [.int .i64 y]]))], []⟩ _
  refine sn hW 4 (tm' := [(0, (.d (.str [109, 97, 120]))), (4, (.d (.int .i64 0))), (7, (.sl 1 2 0 2 1))]) (H' := [some (.cells [(.d (.str [109, 97, 120])), (.d (.bool true)), (.d (.bool false)), (.d (.bool false)), (.d (.list [])), (.d (.list [[(.str [105, 110, 116]), (.str []), (.list [])], [(.str [105, 110, 116]), (.str []), (.list [])]])), (.d (.str [105, 110, 116])), (.d (.str [])), (.d (.list [])), (.d (.list []))]), some (.cells [(.d (.int .i64 (IntKind.wrap IntKind.i64 (IntKind.wrap IntKind.i32 x)))), (.d (.int .i64 (IntKind.wrap IntKind.i64 (IntKind.wrap IntKind.i32 y))))])]) (by kernel_rfl) ?_
  refine WC.seq ?_
  refine WC.region ?_
  refine so hW 2 (tm' := [(4, (.d (.int .i64 0))), (46, (.d (.str [109, 97, 120]))), (47, (.sl 1 2 0 2 1))]) (H' := [some (.cells [(.d (.str [109, 97, 120])), (.d (.bool true)), (.d (.bool false)), (.d (.bool false)), (.d (.list [])), (.d (.list [[(.str [105, 110, 116]), (.str []), (.list [])], [(.str [105, 110, 116]), (.str []), (.list [])]])), (.d (.str [105, 110, 116])), (.d (.str [])), (.d (.list [])), (.d (.list []))]), some (.cells [(.d (.int .i64 (IntKind.wrap IntKind.i64 (IntKind.wrap IntKind.i32 x)))), (.d (.int .i64 (IntKind.wrap IntKind.i64 (IntKind.wrap IntKind.i32 y))))])]) (by kernel_rfl) ?_
  refine WO.bor (pc75max hW (wr_in x) (wr_in y)) rfl (by kernel_rfl) (by rfl) ?_
  refine so hW 5 (tm' := [(4, (.d (.int .i64 0))), (10, (.d (.int .i64 (gmax (wr x) (wr y)))))]) (H' := [some (.cells [(.d (.str [109, 97, 120])), (.d (.bool true)), (.d (.bool false)), (.d (.bool false)), (.d (.list [])), (.d (.list [[(.str [105, 110, 116]), (.str []), (.list [])], [(.str [105, 110, 116]), (.str []), (.list [])]])), (.d (.str [105, 110, 116])), (.d (.str [])), (.d (.list [])), (.d (.list []))]), some (.cells [(.d (.int .i64 (IntKind.wrap IntKind.i64 (IntKind.wrap IntKind.i32 x)))), (.d (.int .i64 (IntKind.wrap IntKind.i64 (IntKind.wrap IntKind.i32 y))))])]) (by kernel_rfl) ?_
  refine WO.nil ?_
  refine sn hW 1 (tm' := [(4, (.d (.int .i64 (gmax (wr x) (wr y)))))]) (H' := [some (.cells [(.d (.str [109, 97, 120])), (.d (.bool true)), (.d (.bool false)), (.d (.bool false)), (.d (.list [])), (.d (.list [[(.str [105, 110, 116]), (.str []), (.list [])], [(.str [105, 110, 116]), (.str []), (.list [])]])), (.d (.str [105, 110, 116])), (.d (.str [])), (.d (.list [])), (.d (.list []))]), some (.cells [(.d (.int .i64 (IntKind.wrap IntKind.i64 (IntKind.wrap IntKind.i32 x)))), (.d (.int .i64 (IntKind.wrap IntKind.i64 (IntKind.wrap IntKind.i32 y))))])]) (by kernel_rfl) ?_
  refine WC.ret ?_
  exact RetQ.ret (by kernel_rfl) rfl
theorem k45eq (W : World) (x : Int) : pcT W 40 45 [.d (.str [101, 113]), .d (.int .i64 x)] = some (.d (.int .i64 (wr x))) := by kernel_rfl
theorem pc45eq (hW : W0 W) (x : Int) : PC P (gl W) 45 [.d (.str [101, 113]), .d (.int .i64 x)] (.d (.int .i64 (wr x))) := pcT_ok hW 40 _ _ _ (k45eq W x)
theorem pc44eq (hW : W0 W) (x y : Int) : PC P (gl W) 44 [.d (.str [101, 113]), .d (.list [[.int .i64 x], [.int .i64 y]])] (.d (.int .i64 (geq (wr x) (wr y)))) := by
  refine PC.bodyQ is44 ca44 rfl ?_
  show WC P (gl W) (.seq (.region f44.r0) (.seq (.region f44.r1) (.seq (.region f44.r2) (.seq (.seq (.region f44.r3) (.block 0 (.loop f44.l10))) (.seq (.region f44.r11) (.seq (.region f44.r12) .ret)))))) ⟨52, [(0, .d (.str [101, 113])), (1, .d (.list [[.int .i64 x], [.int .i64 y]]))], []⟩ _
  refine sn hW 4 (tm' := [(0, (.d (.str [101, 113]))), (4, (.d (.int .i64 0))), (7, (.sl 1 2 0 2 1))]) (H' := [some (.cells [(.d (.str [101, 113])), (.d (.bool true)), (.d (.bool false)), (.d (.bool false)), (.d (.list [])), (.d (.list [[(.str [65]), (.str []), (.list [])], [(.str [65]), (.str []), (.list [])]])), (.d (.str [98, 111, 111, 108])), (.d (.str [])), (.d (.list [])), (.d (.list []))]), some (.cells [(.d (.int .i64 (IntKind.wrap IntKind.i64 (IntKind.wrap IntKind.i32 x)))), (.d (.int .i64 (IntKind.wrap IntKind.i64 (IntKind.wrap IntKind.i32 y))))])]) (by kernel_rfl) ?_
  refine WC.seq ?_
  refine WC.region ?_
  refine so hW 2 (tm' := [(4, (.d (.int .i64 0))), (46, (.d (.str [101, 113]))), (47, (.sl 1 2 0 2 1))]) (H' := [some (.cells [(.d (.str [101, 113])), (.d (.bool true)), (.d (.bool false)), (.d (.bool false)), (.d (.list [])), (.d (.list [[(.str [65]), (.str []), (.list [])], [(.str [65]), (.str []), (.list [])]])), (.d (.str [98, 111, 111, 108])), (.d (.str [])), (.d (.list [])), (.d (.list []))]), some (.cells [(.d (.int .i64 (IntKind.wrap IntKind.i64 (IntKind.wrap IntKind.i32 x)))), (.d (.int .i64 (IntKind.wrap IntKind.i64 (IntKind.wrap IntKind.i32 y))))])]) (by kernel_rfl) ?_
  refine WO.bor (pc75eq hW (wr_in x) (wr_in y)) rfl (by kernel_rfl) (by rfl) ?_
  refine so hW 5 (tm' := [(4, (.d (.int .i64 0))), (10, (.d (.int .i64 (geq (wr x) (wr y)))))]) (H' := [some (.cells [(.d (.str [101, 113])), (.d (.bool true)), (.d (.bool false)), (.d (.bool false)), (.d (.list [])), (.d (.list [[(.str [65]), (.str []), (.list [])], [(.str [65]), (.str []), (.list [])]])), (.d (.str [98, 111, 111, 108])), (.d (.str [])), (.d (.list [])), (.d (.list []))]), some (.cells [(.d (.int .i64 (IntKind.wrap IntKind.i64 (IntKind.wrap IntKind.i32 x)))), (.d (.int .i64 (IntKind.wrap IntKind.i64 (IntKind.wrap IntKind.i32 y))))])]) (by kernel_rfl) ?_
  refine WO.nil ?_
  refine sn hW 1 (tm' := [(4, (.d (.int .i64 (geq (wr x) (wr y)))))]) (H' := [some (.cells [(.d (.str [101, 113])), (.d (.bool true)), (.d (.bool false)), (.d (.bool false)), (.d (.list [])), (.d (.list [[(.str [65]), (.str []), (.list [])], [(.str [65]), (.str []), (.list [])]])), (.d (.str [98, 111, 111, 108])), (.d (.str [])), (.d (.list [])), (.d (.list []))]), some (.cells [(.d (.int .i64 (IntKind.wrap IntKind.i64 (IntKind.wrap IntKind.i32 x)))), (.d (.int .i64 (IntKind.wrap IntKind.i64 (IntKind.wrap IntKind.i32 y))))])]) (by kernel_rfl) ?_
  refine WC.ret ?_
  exact RetQ.ret (by kernel_rfl) rfl
theorem k45ne (W : World) (x : Int) : pcT W 40 45 [.d (.str [110, 101]), .d (.int .i64 x)] = some (.d (.int .i64 (wr x))) := by kernel_rfl
theorem pc45ne (hW : W0 W) (x : Int) : PC P (gl W) 45 [.d (.str [110, 101]), .d (.int .i64 x)] (.d (.int .i64 (wr x))) := pcT_ok hW 40 _ _ _ (k45ne W x)
theorem pc44ne (hW : W0 W) (x y : Int) : PC P (gl W) 44 [.d (.str [110, 101]), .d (.list [[.int .i64 x], [.int .i64 y]])] (.d (.int .i64 (gne (wr x) (wr y)))) := by
  refine PC.bodyQ is44 ca44 rfl ?_
  show WC P (gl W) (.seq (.region f44.r0) (.seq (.region f44.r1) (.seq (.region f44.r2) (.seq (.seq (.region f44.r3) (.block 0 (.loop f44.l10))) (.seq (.region f44.r11) (.seq (.region f44.r12) .ret)))))) ⟨52, [(0, .d (.str [110, 101])), (1, .d (.list [[.int .i64 x], [.int .i64 y]]))], []⟩ _
  refine sn hW 4 (tm' := [(0, (.d (.str [110, 101]))), (4, (.d (.int .i64 0))), (7, (.sl 1 2 0 2 1))]) (H' := [some (.cells [(.d (.str [110, 101])), (.d (.bool true)), (.d (.bool false)), (.d (.bool false)), (.d (.list [])), (.d (.list [[(.str [65]), (.str []), (.list [])], [(.str [65]), (.str []), (.list [])]])), (.d (.str [98, 111, 111, 108])), (.d (.str [])), (.d (.list [])), (.d (.list []))]), some (.cells [(.d (.int .i64 (IntKind.wrap IntKind.i64 (IntKind.wrap IntKind.i32 x)))), (.d (.int .i64 (IntKind.wrap IntKind.i64 (IntKind.wrap IntKind.i32 y))))])]) (by kernel_rfl) ?_
  refine WC.seq ?_
  refine WC.region ?_
  refine so hW 2 (tm' := [(4, (.d (.int .i64 0))), (46, (.d (.str [110, 101]))), (47, (.sl 1 2 0 2 1))]) (H' := [some (.cells [(.d (.str [110, 101])), (.d (.bool true)), (.d (.bool false)), (.d (.bool false)), (.d (.list [])), (.d (.list [[(.str [65]), (.str []), (.list [])], [(.str [65]), (.str []), (.list [])]])), (.d (.str [98, 111, 111, 108])), (.d (.str [])), (.d (.list [])), (.d (.list []))]), some (.cells [(.d (.int .i64 (IntKind.wrap IntKind.i64 (IntKind.wrap IntKind.i32 x)))), (.d (.int .i64 (IntKind.wrap IntKind.i64 (IntKind.wrap IntKind.i32 y))))])]) (by kernel_rfl) ?_
  refine WO.bor (pc75ne hW (wr_in x) (wr_in y)) rfl (by kernel_rfl) (by rfl) ?_
  refine so hW 5 (tm' := [(4, (.d (.int .i64 0))), (10, (.d (.int .i64 (gne (wr x) (wr y)))))]) (H' := [some (.cells [(.d (.str [110, 101])), (.d (.bool true)), (.d (.bool false)), (.d (.bool false)), (.d (.list [])), (.d (.list [[(.str [65]), (.str []), (.list [])], [(.str [65]), (.str []), (.list [])]])), (.d (.str [98, 111, 111, 108])), (.d (.str [])), (.d (.list [])), (.d (.list []))]), some (.cells [(.d (.int .i64 (IntKind.wrap IntKind.i64 (IntKind.wrap IntKind.i32 x)))), (.d (.int .i64 (IntKind.wrap IntKind.i64 (IntKind.wrap IntKind.i32 y))))])]) (by kernel_rfl) ?_
  refine WO.nil ?_
  refine sn hW 1 (tm' := [(4, (.d (.int .i64 (gne (wr x) (wr y)))))]) (H' := [some (.cells [(.d (.str [110, 101])), (.d (.bool true)), (.d (.bool false)), (.d (.bool false)), (.d (.list [])), (.d (.list [[(.str [65]), (.str []), (.list [])], [(.str [65]), (.str []), (.list [])]])), (.d (.str [98, 111, 111, 108])), (.d (.str [])), (.d (.list [])), (.d (.list []))]), some (.cells [(.d (.int .i64 (IntKind.wrap IntKind.i64 (IntKind.wrap IntKind.i32 x)))), (.d (.int .i64 (IntKind.wrap IntKind.i64 (IntKind.wrap IntKind.i32 y))))])]) (by kernel_rfl) ?_
  refine WC.ret ?_
  exact RetQ.ret (by kernel_rfl) rfl
theorem k45xor (W : World) (x : Int) : pcT W 40 45 [.d (.str [120, 111, 114]), .d (.int .i64 x)] = some (.d (.int .i64 (an x))) := by kernel_rfl
theorem pc45xor (hW : W0 W) (x : Int) : PC P (gl W) 45 [.d (.str [120, 111, 114]), .d (.int .i64 x)] (.d (.int .i64 (an x))) := pcT_ok hW 40 _ _ _ (k45xor W x)
theorem pc44xor (hW : W0 W) (x y : Int) : PC P (gl W) 44 [.d (.str [120, 111, 114]), .d (.list [[.int .i64 x], [.int .i64 y]])] (.d (.int .i64 (gxor (an x) (an y)))) := by
  refine PC.bodyQ is44 ca44 rfl ?_
  show WC P (gl W) (.seq (.region f44.r0) (.seq (.region f44.r1) (.seq (.region f44.r2) (.seq (.seq (.region f44.r3) (.block 0 (.loop f44.l10))) (.seq (.region f44.r11) (.seq (.region f44.r12) .ret)))))) ⟨52, [(0, .d (.str [120, 111, 114])), (1, .d (.list [[.int .i64 x], [.int .i64 y]]))], []⟩ _
  refine sn hW 4 (tm' := [(0, (.d (.str [120, 111, 114]))), (4, (.d (.int .i64 0))), (7, (.sl 1 2 0 2 1))]) (H' := [some (.cells [(.d (.str [120, 111, 114])), (.d (.bool true)), (.d (.bool false)), (.d (.bool false)), (.d (.list [])), (.d (.list [[(.str [98, 111, 111, 108]), (.str []), (.list [])], [(.str [98, 111, 111, 108]), (.str []), (.list [])]])), (.d (.str [98, 111, 111, 108])), (.d (.str [])), (.d (.list [])), (.d (.list []))]), some (.cells [(.d (.int .i64 (IntKind.wrap IntKind.i64 ↑(BitVec.toNat (BitVec.ofInt (IntKind.bits IntKind.i64) x &&& BitVec.ofInt (IntKind.bits IntKind.i64) 1))))), (.d (.int .i64 (IntKind.wrap IntKind.i64 ↑(BitVec.toNat (BitVec.ofInt (IntKind.bits IntKind.i64) y &&& BitVec.ofInt (IntKind.bits IntKind.i64) 1)))))])]) (by kernel_rfl) ?_
  refine WC.seq ?_
  refine WC.region ?_
  refine so hW 2 (tm' := [(4, (.d (.int .i64 0))), (46, (.d (.str [120, 111, 114]))), (47, (.sl 1 2 0 2 1))]) (H' := [some (.cells [(.d (.str [120, 111, 114])), (.d (.bool true)), (.d (.bool false)), (.d (.bool false)), (.d (.list [])), (.d (.list [[(.str [98, 111, 111, 108]), (.str []), (.list [])], [(.str [98, 111, 111, 108]), (.str []), (.list [])]])), (.d (.str [98, 111, 111, 108])), (.d (.str [])), (.d (.list [])), (.d (.list []))]), some (.cells [(.d (.int .i64 (IntKind.wrap IntKind.i64 ↑(BitVec.toNat (BitVec.ofInt (IntKind.bits IntKind.i64) x &&& BitVec.ofInt (IntKind.bits IntKind.i64) 1))))), (.d (.int .i64 (IntKind.wrap IntKind.i64 ↑(BitVec.toNat (BitVec.ofInt (IntKind.bits IntKind.i64) y &&& BitVec.ofInt (IntKind.bits IntKind.i64) 1)))))])]) (by kernel_rfl) ?_
  refine WO.bor (pc75xor hW (an_in x) (an_in y)) rfl (by kernel_rfl) (by rfl) ?_
  refine so hW 5 (tm' := [(4, (.d (.int .i64 0))), (10, (.d (.int .i64 (gxor (an x) (an y)))))]) (H' := [some (.cells [(.d (.str [120, 111, 114])), (.d (.bool true)), (.d (.bool false)), (.d (.bool false)), (.d (.list [])), (.d (.list [[(.str [98, 111, 111, 108]), (.str []), (.list [])], [(.str [98, 111, 111, 108]), (.str []), (.list [])]])), (.d (.str [98, 111, 111, 108])), (.d (.str [])), (.d (.list [])), (.d (.list []))]), some (.cells [(.d (.int .i64 (IntKind.wrap IntKind.i64 ↑(BitVec.toNat (BitVec.ofInt (IntKind.bits IntKind.i64) x &&& BitVec.ofInt (IntKind.bits IntKind.i64) 1))))), (.d (.int .i64 (IntKind.wrap IntKind.i64 ↑(BitVec.toNat (BitVec.ofInt (IntKind.bits IntKind.i64) y &&& BitVec.ofInt (IntKind.bits IntKind.i64) 1)))))])]) (by kernel_rfl) ?_
  refine WO.nil ?_
  refine sn hW 1 (tm' := [(4, (.d (.int .i64 (gxor (an x) (an y)))))]) (H' := [some (.cells [(.d (.str [120, 111, 114])), (.d (.bool true)), (.d (.bool false)), (.d (.bool false)), (.d (.list [])), (.d (.list [[(.str [98, 111, 111, 108]), (.str []), (.list [])], [(.str [98, 111, 111, 108]), (.str []), (.list [])]])), (.d (.str [98, 111, 111, 108])), (.d (.str [])), (.d (.list [])), (.d (.list []))]), some (.cells [(.d (.int .i64 (IntKind.wrap IntKind.i64 ↑(BitVec.toNat (BitVec.ofInt (IntKind.bits IntKind.i64) x &&& BitVec.ofInt (IntKind.bits IntKind.i64) 1))))), (.d (.int .i64 (IntKind.wrap IntKind.i64 ↑(BitVec.toNat (BitVec.ofInt (IntKind.bits IntKind.i64) y &&& BitVec.ofInt (IntKind.bits IntKind.i64) 1)))))])]) (by kernel_rfl) ?_
  refine WC.ret ?_
  exact RetQ.ret (by kernel_rfl) rfl
theorem k45and (W : World) (x : Int) : pcT W 40 45 [.d (.str [97, 110, 100]), .d (.int .i64 x)] = some (.d (.int .i64 (an x))) := by kernel_rfl
theorem pc45and (hW : W0 W) (x : Int) : PC P (gl W) 45 [.d (.str [97, 110, 100]), .d (.int .i64 x)] (.d (.int .i64 (an x))) := pcT_ok hW 40 _ _ _ (k45and W x)
theorem pc44and (hW : W0 W) (x y : Int) : PC P (gl W) 44 [.d (.str [97, 110, 100]), .d (.list [[.int .i64 x], [.int .i64 y]])] (.d (.int .i64 (gand (an x) (an y)))) := by
  refine PC.bodyQ is44 ca44 rfl ?_
  show WC P (gl W) (.seq (.region f44.r0) (.seq (.region f44.r1) (.seq (.region f44.r2) (.seq (.seq (.region f44.r3) (.block 0 (.loop f44.l10))) (.seq (.region f44.r11) (.seq (.region f44.r12) .ret)))))) ⟨52, [(0, .d (.str [97, 110, 100])), (1, .d (.list [[.int .i64 x], [.int .i64 y]]))], []⟩ _
  refine sn hW 4 (tm' := [(0, (.d (.str [97, 110, 100]))), (4, (.d (.int .i64 0))), (7, (.sl 1 2 0 2 1))]) (H' := [some (.cells [(.d (.str [97, 110, 100])), (.d (.bool true)), (.d (.bool false)), (.d (.bool false)), (.d (.list [])), (.d (.list [[(.str [98, 111, 111, 108]), (.str []), (.list [])], [(.str [98, 111, 111, 108]), (.str []), (.list [])]])), (.d (.str [98, 111, 111, 108])), (.d (.str [])), (.d (.list [])), (.d (.list []))]), some (.cells [(.d (.int .i64 (IntKind.wrap IntKind.i64 ↑(BitVec.toNat (BitVec.ofInt (IntKind.bits IntKind.i64) x &&& BitVec.ofInt (IntKind.bits IntKind.i64) 1))))), (.d (.int .i64 (IntKind.wrap IntKind.i64 ↑(BitVec.toNat (BitVec.ofInt (IntKind.bits IntKind.i64) y &&& BitVec.ofInt (IntKind.bits IntKind.i64) 1)))))])]) (by kernel_rfl) ?_
  refine WC.seq ?_
  refine WC.region ?_
  refine so hW 2 (tm' := [(4, (.d (.int .i64 0))), (46, (.d (.str [97, 110, 100]))), (47, (.sl 1 2 0 2 1))]) (H' := [some (.cells [(.d (.str [97, 110, 100])), (.d (.bool true)), (.d (.bool false)), (.d (.bool false)), (.d (.list [])), (.d (.list [[(.str [98, 111, 111, 108]), (.str []), (.list [])], [(.str [98, 111, 111, 108]), (.str []), (.list [])]])), (.d (.str [98, 111, 111, 108])), (.d (.str [])), (.d (.list [])), (.d (.list []))]), some (.cells [(.d (.int .i64 (IntKind.wrap IntKind.i64 ↑(BitVec.toNat (BitVec.ofInt (IntKind.bits IntKind.i64) x &&& BitVec.ofInt (IntKind.bits IntKind.i64) 1))))), (.d (.int .i64 (IntKind.wrap IntKind.i64 ↑(BitVec.toNat (BitVec.ofInt (IntKind.bits IntKind.i64) y &&& BitVec.ofInt (IntKind.bits IntKind.i64) 1)))))])]) (by kernel_rfl) ?_
  refine WO.bor (pc75and hW (an_in x) (an_in y)) rfl (by kernel_rfl) (by rfl) ?_
  refine so hW 5 (tm' := [(4, (.d (.int .i64 0))), (10, (.d (.int .i64 (gand (an x) (an y)))))]) (H' := [some (.cells [(.d (.str [97, 110, 100])), (.d (.bool true)), (.d (.bool false)), (.d (.bool false)), (.d (.list [])), (.d (.list [[(.str [98, 111, 111, 108]), (.str []), (.list [])], [(.str [98, 111, 111, 108]), (.str []), (.list [])]])), (.d (.str [98, 111, 111, 108])), (.d (.str [])), (.d (.list [])), (.d (.list []))]), some (.cells [(.d (.int .i64 (IntKind.wrap IntKind.i64 ↑(BitVec.toNat (BitVec.ofInt (IntKind.bits IntKind.i64) x &&& BitVec.ofInt (IntKind.bits IntKind.i64) 1))))), (.d (.int .i64 (IntKind.wrap IntKind.i64 ↑(BitVec.toNat (BitVec.ofInt (IntKind.bits IntKind.i64) y &&& BitVec.ofInt (IntKind.bits IntKind.i64) 1)))))])]) (by kernel_rfl) ?_
  refine WO.nil ?_
  refine sn hW 1 (tm' := [(4, (.d (.int .i64 (gand (an x) (an y)))))]) (H' := [some (.cells [(.d (.str [97, 110, 100])), (.d (.bool true)), (.d (.bool false)), (.d (.bool false)), (.d (.list [])), (.d (.list [[(.str [98, 111, 111, 108]), (.str []), (.list [])], [(.str [98, 111, 111, 108]), (.str []), (.list [])]])), (.d (.str [98, 111, 111, 108])), (.d (.str [])), (.d (.list [])), (.d (.list []))]), some (.cells [(.d (.int .i64 (IntKind.wrap IntKind.i64 ↑(BitVec.toNat (BitVec.ofInt (IntKind.bits IntKind.i64) x &&& BitVec.ofInt (IntKind.bits IntKind.i64) 1))))), (.d (.int .i64 (IntKind.wrap IntKind.i64 ↑(BitVec.toNat (BitVec.ofInt (IntKind.bits IntKind.i64) y &&& BitVec.ofInt (IntKind.bits IntKind.i64) 1)))))])]) (by kernel_rfl) ?_
  refine WC.ret ?_
  exact RetQ.ret (by kernel_rfl) rfl
theorem k45or (W : World) (x : Int) : pcT W 40 45 [.d (.str [111, 114]), .d (.int .i64 x)] = some (.d (.int .i64 (an x))) := by kernel_rfl
theorem pc45or (hW : W0 W) (x : Int) : PC P (gl W) 45 [.d (.str [111, 114]), .d (.int .i64 x)] (.d (.int .i64 (an x))) := pcT_ok hW 40 _ _ _ (k45or W x)
theorem pc44or (hW : W0 W) (x y : Int) : PC P (gl W) 44 [.d (.str [111, 114]), .d (.list [[.int .i64 x], [.int .i64 y]])] (.d (.int .i64 (gor (an x) (an y)))) := by
  refine PC.bodyQ is44 ca44 rfl ?_
  show WC P (gl W) (.seq (.region f44.r0) (.seq (.region f44.r1) (.seq (.region f44.r2) (.seq (.seq (.region f44.r3) (.block 0 (.loop f44.l10))) (.seq (.region f44.r11) (.seq (.region f44.r12) .ret)))))) ⟨52, [(0, .d (.str [111, 114])), (1, .d (.list [[.int .i64 x], [.int .i64 y]]))], []⟩ _
  refine sn hW 4 (tm' := [(0, (.d (.str [111, 114]))), (4, (.d (.int .i64 0))), (7, (.sl 1 2 0 2 1))]) (H' := [some (.cells [(.d (.str [111, 114])), (.d (.bool true)), (.d (.bool false)), (.d (.bool false)), (.d (.list [])), (.d (.list [[(.str [98, 111, 111, 108]), (.str []), (.list [])], [(.str [98, 111, 111, 108]), (.str []), (.list [])]])), (.d (.str [98, 111, 111, 108])), (.d (.str [])), (.d (.list [])), (.d (.list []))]), some (.cells [(.d (.int .i64 (IntKind.wrap IntKind.i64 ↑(BitVec.toNat (BitVec.ofInt (IntKind.bits IntKind.i64) x &&& BitVec.ofInt (IntKind.bits IntKind.i64) 1))))), (.d (.int .i64 (IntKind.wrap IntKind.i64 ↑(BitVec.toNat (BitVec.ofInt (IntKind.bits IntKind.i64) y &&& BitVec.ofInt (IntKind.bits IntKind.i64) 1)))))])]) (by kernel_rfl) ?_
  refine WC.seq ?_
  refine WC.region ?_
  refine so hW 2 (tm' := [(4, (.d (.int .i64 0))), (46, (.d (.str [111, 114]))), (47, (.sl 1 2 0 2 1))]) (H' := [some (.cells [(.d (.str [111, 114])), (.d (.bool true)), (.d (.bool false)), (.d (.bool false)), (.d (.list [])), (.d (.list [[(.str [98, 111, 111, 108]), (.str []), (.list [])], [(.str [98, 111, 111, 108]), (.str []), (.list [])]])), (.d (.str [98, 111, 111, 108])), (.d (.str [])), (.d (.list [])), (.d (.list []))]), some (.cells [(.d (.int .i64 (IntKind.wrap IntKind.i64 ↑(BitVec.toNat (BitVec.ofInt (IntKind.bits IntKind.i64) x &&& BitVec.ofInt (IntKind.bits IntKind.i64) 1))))), (.d (.int .i64 (IntKind.wrap IntKind.i64 ↑(BitVec.toNat (BitVec.ofInt (IntKind.bits IntKind.i64) y &&& BitVec.ofInt (IntKind.bits IntKind.i64) 1)))))])]) (by kernel_rfl) ?_
  refine WO.bor (pc75or hW (an_in x) (an_in y)) rfl (by kernel_rfl) (by rfl) ?_
  refine so hW 5 (tm' := [(4, (.d (.int .i64 0))), (10, (.d (.int .i64 (gor (an x) (an y)))))]) (H' := [some (.cells [(.d (.str [111, 114])), (.d (.bool true)), (.d (.bool false)), (.d (.bool false)), (.d (.list [])), (.d (.list [[(.str [98, 111, 111, 108]), (.str []), (.list [])], [(.str [98, 111, 111, 108]), (.str []), (.list [])]])), (.d (.str [98, 111, 111, 108])), (.d (.str [])), (.d (.list [])), (.d (.list []))]), some (.cells [(.d (.int .i64 (IntKind.wrap IntKind.i64 ↑(BitVec.toNat (BitVec.ofInt (IntKind.bits IntKind.i64) x &&& BitVec.ofInt (IntKind.bits IntKind.i64) 1))))), (.d (.int .i64 (IntKind.wrap IntKind.i64 ↑(BitVec.toNat (BitVec.ofInt (IntKind.bits IntKind.i64) y &&& BitVec.ofInt (IntKind.bits IntKind.i64) 1)))))])]) (by kernel_rfl) ?_
  refine WO.nil ?_
  refine sn hW 1 (tm' := [(4, (.d (.int .i64 (gor (an x) (an y)))))]) (H' := [some (.cells [(.d (.str [111, 114])), (.d (.bool true)), (.d (.bool false)), (.d (.bool false)), (.d (.list [])), (.d (.list [[(.str [98, 111, 111, 108]), (.str []), (.list [])], [(.str [98, 111, 111, 108]), (.str []), (.list [])]])), (.d (.str [98, 111, 111, 108])), (.d (.str [])), (.d (.list [])), (.d (.list []))]), some (.cells [(.d (.int .i64 (IntKind.wrap IntKind.i64 ↑(BitVec.toNat (BitVec.ofInt (IntKind.bits IntKind.i64) x &&& BitVec.ofInt (IntKind.bits IntKind.i64) 1))))), (.d (.int .i64 (IntKind.wrap IntKind.i64 ↑(BitVec.toNat (BitVec.ofInt (IntKind.bits IntKind.i64) y &&& BitVec.ofInt (IntKind.bits IntKind.i64) 1)))))])]) (by kernel_rfl) ?_
  refine WC.ret ?_
  exact RetQ.ret (by kernel_rfl) rfl
end Fw.Tz
