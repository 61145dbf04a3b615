/-
  The scalar operations applied.
-/
import Derived.Test.YtlgnmcfckgokdaaGreatDoorTe

set_option linter.unusedSimpArgs false
set_option maxRecDepth 1000000
set_option maxHeartbeats 4000000
namespace Fw.Tz
open Go Go.Proofs Fw.X
def LoopQ (P : Program) (GL : GLT) (b : IR) (Q : Ex → St → Prop) : Nat → St → Prop
  | 0, _ => False
  | n + 1, s => WC P GL b s (fun e s' => match e with | .normal => LoopQ P GL b Q n s' | e => Q e s')
theorem LoopQ.step {P : Program} {GL : GLT} {b : IR} {Q : Ex → St → Prop} {n : Nat} {s : St} (h : WC P GL b s (fun e s' => match e with | .normal => LoopQ P GL b Q n s' | e => Q e s')) : LoopQ P GL b Q (n + 1) s := h
theorem LoopQ.wc {P : Program} {GL : GLT} {b : IR} {Q : Ex → St → Prop} {n : Nat} {s : St} (h : LoopQ P GL b Q n s) : WC P GL (.loop b) s Q :=
  WC.loop (fun m s => LoopQ P GL b Q m s) (fun m s hm => by
    cases m with
    | zero => exact absurd hm (by simp [LoopQ])
    | succ m =>
      refine WC.mono hm fun e s' hq => ?_
      cases e with
      | normal => exact ⟨m, by omega, hq⟩
      | exit i => exact hq
      | ret => exact hq) h
def BlockQ (id : Nat) (Q : Ex → St → Prop) : Ex → St → Prop
  | .exit i, s => if i = id then Q .normal s else Q (.exit i) s
  | .normal, s => Q .normal s
  | .ret, s => Q .ret s
theorem BlockQ.exit {id : Nat} {Q : Ex → St → Prop} {s : St} (h : Q .normal s) : BlockQ id Q (.exit id) s := by simpa [BlockQ] using h
theorem WC.blockQ {P : Program} {GL : GLT} {id : Nat} {b : IR} {σ : St} {Q : Ex → St → Prop} (h : WC P GL b σ (BlockQ id Q)) : WC P GL (.block id b) σ Q :=
  WC.block (WC.mono h fun e s hq => by cases e <;> exact hq)
variable {W : World}
attribute [local simp] runO asData guardB eff evo get_cons put_cons put_nil stput_some stput_none happ binD binS binI eqV unV fillC putCells cellsV okC storeC hget hput nbeq nble loadC mkV mlist foldMM
def tab2 (nm : List UInt8) (f : Int → Int → Int) : List V → Option V
  | [.d (.str t), .d (.int .i64 a), .d (.int .i64 b)] => bif Fw.bytesEq nm t then some (.d (.int .i64 (f a b))) else none
  | _ => none
theorem tab2_ok {g : FuncId} {nm : List UInt8} {f : Int → Int → Int} (h : ∀ a b, PC P (gl W) g [.d (.str nm), .d (.int .i64 a), .d (.int .i64 b)] (.d (.int .i64 (f a b)))) : ∀ args r, tab2 nm f args = some r → PC P (gl W) g args r := by
  intro args r hr
  unfold tab2 at hr
  split at hr
  · rename_i t a b
    cases hb : Fw.bytesEq nm t with
    | true =>
      rw [hb] at hr
      simp only [cond_true, Option.some.injEq] at hr; subst hr
      rw [← bytesEq_eq hb]; exact h a b
    | false => rw [hb] at hr; cases hr
  · cases hr
def kt121 : FT Nat := .n .e 121 0 .e
theorem w64_1 : IntKind.wrap .i64 1 = 1 := rfl
theorem w64_2 : IntKind.wrap .i64 2 = 2 := rfl
def gadd (a b : Int) : Int := (wr (w64 (a + b)))
theorem k118add (W : World) : pcT W 40 118 [.d (.str [97, 100, 100])] = some (.tuple [.d (.list [[.str [105, 110, 116]], [.str [105, 110, 116]]]), .d (.str [105, 110, 116]), .d (.bool true)]) := by kernel_rfl
def ex121add : Extra := .n .e 121 (tab2 [97, 100, 100] gadd) .e
theorem ex121add_ok (W : World) : ExOk P (gl W) ex121add := ⟨trivial, tab2_ok (fun a b => pc121add a b), trivial⟩
theorem pc75add (hW : W0 W) {x y : Int} (hx : -2147483648 ≤ x ∧ x ≤ 2147483647) (hy : -2147483648 ≤ y ∧ y ≤ 2147483647) : PC P (gl W) 75 [.d (.str [97, 100, 100]), .d (.list [[(.int .i64 x)], [(.int .i64 y)]])] (.tuple [.d (.int .i64 (gadd x y)), .d (.bool true)]) := by
  refine PC.body is75 ca75 (by simp [f75]) rfl ?_
  show WC P (gl W) (.seq (.region f75.r0) (.seq (.region f75.r1) (.seq (.seq (.region f75.r2) (.cond (.t 25) (.seq (.region f75.r3) .ret) .skip)) (.seq (.seq (.region f75.r4) (.block 0 (.loop f75.l12))) (.seq (.seq (.region f75.r13) (.block 2 (.seq (.region f75.r14) (.cond (.t 46) (.seq (.region f75.r15) .ret) (.seq (.region f75.r16) (.cond (.t 53) (.seq (.draw f75.r17) .ret) .skip)))))) (.seq (.seq (.region f75.r18) (.cond (.t 66) (.seq (.region f75.r19) .ret) .skip)) (.seq (.region f75.r20) .ret))))))) ⟨73, [(0, .d (.str [97, 100, 100])), (1, .d (.list [[(.int .i64 x)], [(.int .i64 y)]]))], []⟩ _
  refine WC.seq ?_
  refine WC.reg (own := []) (by simp [f75.r0, runO, w64_1, w64_2, (show Fw.bytesEq [105, 110, 116] [98, 111, 111, 108] = false from rfl)]; rfl) ?_
  refine WC.seq ?_
  refine WC.region ?_
  refine WO.preN 1 (own := []) noC_ok (by simp [f75.r1, runO, w64_1, w64_2, (show Fw.bytesEq [105, 110, 116] [98, 111, 111, 108] = false from rfl)]; rfl) ?_
  refine WO.callPC rfl rfl (pcT_ok hW 40 _ _ _ (k118add W)) (by simp [get_cons, put_cons, put_nil, stput_some]; rfl) ?_
  refine runO_ok (own := []) noC_ok (by simp [runO, w64_1, w64_2, (show Fw.bytesEq [105, 110, 116] [98, 111, 111, 108] = false from rfl)]; rfl) ?_
  refine WC.seq ?_
  refine WC.seq ?_
  refine WC.reg (own := []) (by simp [f75.r2, runO, w64_1, w64_2, (show Fw.bytesEq [105, 110, 116] [98, 111, 111, 108] = false from rfl)]; rfl) ?_
  refine WC.cond (t := false) (by simp [evo, get_cons, w64_1, w64_2, (show Fw.bytesEq [105, 110, 116] [98, 111, 111, 108] = false from rfl)]) ?_
  refine WC.skip ?_
  refine WC.seq ?_
  refine WC.seq ?_
  refine WC.reg (own := []) (by simp [f75.r4, runO, w64_1, w64_2, (show Fw.bytesEq [105, 110, 116] [98, 111, 111, 108] = false from rfl)]; rfl) ?_
  refine WC.blockQ ?_
  refine LoopQ.wc (n := 3) ?_
  refine LoopQ.step ?_
  show WC P (gl W) (.seq (.seq (.region f75.r5) (.cond (.t 29) .skip (.exit 0))) (.seq (.block 1 (.seq (.region f75.r6) (.seq (.seq (.region f75.r7) (.cond (.t 36) (.region f75.r8) .skip)) (.seq (.region f75.r9) (.cond (.t 43) (.seq (.region f75.r10) .ret) .skip))))) (.region f75.r11))) _ _
  refine WC.seq ?_
  refine WC.seq ?_
  refine WC.reg (own := []) (by simp [f75.r5, runO, w64_1, w64_2, (show Fw.bytesEq [105, 110, 116] [98, 111, 111, 108] = false from rfl)]; rfl) ?_
  refine WC.cond (t := true) (by simp [evo, get_cons, w64_1, w64_2, (show Fw.bytesEq [105, 110, 116] [98, 111, 111, 108] = false from rfl)]) ?_
  refine WC.skip ?_
  refine WC.seq ?_
  refine WC.blockQ ?_
  refine WC.seq ?_
  refine WC.reg (own := []) (by simp [f75.r6, runO, w64_1, w64_2, (show Fw.bytesEq [105, 110, 116] [98, 111, 111, 108] = false from rfl)]; rfl) ?_
  refine WC.seq ?_
  refine WC.seq ?_
  refine WC.reg (own := []) (by simp [f75.r7, runO, w64_1, w64_2, (show Fw.bytesEq [105, 110, 116] [98, 111, 111, 108] = false from rfl)]; rfl) ?_
  refine WC.cond (t := false) (by simp [evo, get_cons, w64_1, w64_2, (show Fw.bytesEq [105, 110, 116] [98, 111, 111, 108] = false from rfl)]) ?_
  refine WC.skip ?_
  refine WC.seq ?_
  refine WC.region ?_
  refine WO.preN 5 (own := []) noC_ok (by simp [f75.r9, runO, w64_1, w64_2, (show Fw.bytesEq [105, 110, 116] [98, 111, 111, 108] = false from rfl)]; rfl) ?_
  refine WO.callPC rfl rfl (pc119i hx.1 hx.2) (by simp [get_cons, put_cons, put_nil, stput_some]; rfl) ?_
  refine runO_ok (own := []) noC_ok (by simp [runO, w64_1, w64_2, (show Fw.bytesEq [105, 110, 116] [98, 111, 111, 108] = false from rfl)]; rfl) ?_
  refine WC.cond (t := false) (by simp [evo, get_cons, w64_1, w64_2, (show Fw.bytesEq [105, 110, 116] [98, 111, 111, 108] = false from rfl)]) ?_
  refine WC.skip ?_
  refine WC.reg (own := []) (by simp [f75.r11, runO, w64_1, w64_2, (show Fw.bytesEq [105, 110, 116] [98, 111, 111, 108] = false from rfl)]; rfl) ?_
  refine LoopQ.step ?_
  show WC P (gl W) (.seq (.seq (.region f75.r5) (.cond (.t 29) .skip (.exit 0))) (.seq (.block 1 (.seq (.region f75.r6) (.seq (.seq (.region f75.r7) (.cond (.t 36) (.region f75.r8) .skip)) (.seq (.region f75.r9) (.cond (.t 43) (.seq (.region f75.r10) .ret) .skip))))) (.region f75.r11))) _ _
  refine WC.seq ?_
  refine WC.seq ?_
  refine WC.reg (own := []) (by simp [f75.r5, runO, w64_1, w64_2, (show Fw.bytesEq [105, 110, 116] [98, 111, 111, 108] = false from rfl)]; rfl) ?_
  refine WC.cond (t := true) (by simp [evo, get_cons, w64_1, w64_2, (show Fw.bytesEq [105, 110, 116] [98, 111, 111, 108] = false from rfl)]) ?_
  refine WC.skip ?_
  refine WC.seq ?_
  refine WC.blockQ ?_
  refine WC.seq ?_
  refine WC.reg (own := []) (by simp [f75.r6, runO, w64_1, w64_2, (show Fw.bytesEq [105, 110, 116] [98, 111, 111, 108] = false from rfl)]; rfl) ?_
  refine WC.seq ?_
  refine WC.seq ?_
  refine WC.reg (own := []) (by simp [f75.r7, runO, w64_1, w64_2, (show Fw.bytesEq [105, 110, 116] [98, 111, 111, 108] = false from rfl)]; rfl) ?_
  refine WC.cond (t := false) (by simp [evo, get_cons, w64_1, w64_2, (show Fw.bytesEq [105, 110, 116] [98, 111, 111, 108] = false from rfl)]) ?_
  refine WC.skip ?_
  refine WC.seq ?_
  refine WC.region ?_
  refine WO.preN 5 (own := []) noC_ok (by simp [f75.r9, runO, w64_1, w64_2, (show Fw.bytesEq [105, 110, 116] [98, 111, 111, 108] = false from rfl)]; rfl) ?_
  refine WO.callPC rfl rfl (pc119i hy.1 hy.2) (by simp [get_cons, put_cons, put_nil, stput_some]; rfl) ?_
  refine runO_ok (own := []) noC_ok (by simp [runO, w64_1, w64_2, (show Fw.bytesEq [105, 110, 116] [98, 111, 111, 108] = false from rfl)]; rfl) ?_
  refine WC.cond (t := false) (by simp [evo, get_cons, w64_1, w64_2, (show Fw.bytesEq [105, 110, 116] [98, 111, 111, 108] = false from rfl)]) ?_
  refine WC.skip ?_
  refine WC.reg (own := []) (by simp [f75.r11, runO, w64_1, w64_2, (show Fw.bytesEq [105, 110, 116] [98, 111, 111, 108] = false from rfl)]; rfl) ?_
  refine LoopQ.step ?_
  show WC P (gl W) (.seq (.seq (.region f75.r5) (.cond (.t 29) .skip (.exit 0))) (.seq (.block 1 (.seq (.region f75.r6) (.seq (.seq (.region f75.r7) (.cond (.t 36) (.region f75.r8) .skip)) (.seq (.region f75.r9) (.cond (.t 43) (.seq (.region f75.r10) .ret) .skip))))) (.region f75.r11))) _ _
  refine WC.seq ?_
  refine WC.seq ?_
  refine WC.reg (own := []) (by simp [f75.r5, runO, w64_1, w64_2, (show Fw.bytesEq [105, 110, 116] [98, 111, 111, 108] = false from rfl)]; rfl) ?_
  refine WC.cond (t := false) (by simp [evo, get_cons, w64_1, w64_2, (show Fw.bytesEq [105, 110, 116] [98, 111, 111, 108] = false from rfl)]) ?_
  refine WC.exit ?_
  refine BlockQ.exit ?_
  exact WC.runRX hW (ex121add_ok W) (own := []) (kt := kt121) (v := .tuple [.d (.int .i64 (gadd x y)), .d (.bool true)]) (H' := List.replicate 10 none) (by decide) (by rfl) (by kernel_rfl) rfl
def gmul (a b : Int) : Int := (wr (w64 (a * b)))
theorem k118mul (W : World) : pcT W 40 118 [.d (.str [109, 117, 108])] = some (.tuple [.d (.list [[.str [105, 110, 116]], [.str [105, 110, 116]]]), .d (.str [105, 110, 116]), .d (.bool true)]) := by kernel_rfl
def ex121mul : Extra := .n .e 121 (tab2 [109, 117, 108] gmul) .e
theorem ex121mul_ok (W : World) : ExOk P (gl W) ex121mul := ⟨trivial, tab2_ok (fun a b => pc121mul a b), trivial⟩
theorem pc75mul (hW : W0 W) {x y : Int} (hx : -2147483648 ≤ x ∧ x ≤ 2147483647) (hy : -2147483648 ≤ y ∧ y ≤ 2147483647) : PC P (gl W) 75 [.d (.str [109, 117, 108]), .d (.list [[(.int .i64 x)], [(.int .i64 y)]])] (.tuple [.d (.int .i64 (gmul x y)), .d (.bool true)]) := by
  refine PC.body is75 ca75 (by simp [f75]) rfl ?_
  show WC P (gl W) (.seq (.region f75.r0) (.seq (.region f75.r1) (.seq (.seq (.region f75.r2) (.cond (.t 25) (.seq (.region f75.r3) .ret) .skip)) (.seq (.seq (.region f75.r4) (.block 0 (.loop f75.l12))) (.seq (.seq (.region f75.r13) (.block 2 (.seq (.region f75.r14) (.cond (.t 46) (.seq (.region f75.r15) .ret) (.seq (.region f75.r16) (.cond (.t 53) (.seq (.draw f75.r17) .ret) .skip)))))) (.seq (.seq (.region f75.r18) (.cond (.t 66) (.seq (.region f75.r19) .ret) .skip)) (.seq (.region f75.r20) .ret))))))) ⟨73, [(0, .d (.str [109, 117, 108])), (1, .d (.list [[(.int .i64 x)], [(.int .i64 y)]]))], []⟩ _
  refine WC.seq ?_
  refine WC.reg (own := []) (by simp [f75.r0, runO, w64_1, w64_2, (show Fw.bytesEq [105, 110, 116] [98, 111, 111, 108] = false from rfl)]; rfl) ?_
  refine WC.seq ?_
  refine WC.region ?_
  refine WO.preN 1 (own := []) noC_ok (by simp [f75.r1, runO, w64_1, w64_2, (show Fw.bytesEq [105, 110, 116] [98, 111, 111, 108] = false from rfl)]; rfl) ?_
  refine WO.callPC rfl rfl (pcT_ok hW 40 _ _ _ (k118mul W)) (by simp [get_cons, put_cons, put_nil, stput_some]; rfl) ?_
  refine runO_ok (own := []) noC_ok (by simp [runO, w64_1, w64_2, (show Fw.bytesEq [105, 110, 116] [98, 111, 111, 108] = false from rfl)]; rfl) ?_
  refine WC.seq ?_
  refine WC.seq ?_
  refine WC.reg (own := []) (by simp [f75.r2, runO, w64_1, w64_2, (show Fw.bytesEq [105, 110, 116] [98, 111, 111, 108] = false from rfl)]; rfl) ?_
  refine WC.cond (t := false) (by simp [evo, get_cons, w64_1, w64_2, (show Fw.bytesEq [105, 110, 116] [98, 111, 111, 108] = false from rfl)]) ?_
  refine WC.skip ?_
  refine WC.seq ?_
  refine WC.seq ?_
  refine WC.reg (own := []) (by simp [f75.r4, runO, w64_1, w64_2, (show Fw.bytesEq [105, 110, 116] [98, 111, 111, 108] = false from rfl)]; rfl) ?_
  refine WC.blockQ ?_
  refine LoopQ.wc (n := 3) ?_
  refine LoopQ.step ?_
  show WC P (gl W) (.seq (.seq (.region f75.r5) (.cond (.t 29) .skip (.exit 0))) (.seq (.block 1 (.seq (.region f75.r6) (.seq (.seq (.region f75.r7) (.cond (.t 36) (.region f75.r8) .skip)) (.seq (.region f75.r9) (.cond (.t 43) (.seq (.region f75.r10) .ret) .skip))))) (.region f75.r11))) _ _
  refine WC.seq ?_
  refine WC.seq ?_
  refine WC.reg (own := []) (by simp [f75.r5, runO, w64_1, w64_2, (show Fw.bytesEq [105, 110, 116] [98, 111, 111, 108] = false from rfl)]; rfl) ?_
  refine WC.cond (t := true) (by simp [evo, get_cons, w64_1, w64_2, (show Fw.bytesEq [105, 110, 116] [98, 111, 111, 108] = false from rfl)]) ?_
  refine WC.skip ?_
  refine WC.seq ?_
  refine WC.blockQ ?_
  refine WC.seq ?_
  refine WC.reg (own := []) (by simp [f75.r6, runO, w64_1, w64_2, (show Fw.bytesEq [105, 110, 116] [98, 111, 111, 108] = false from rfl)]; rfl) ?_
  refine WC.seq ?_
  refine WC.seq ?_
  refine WC.reg (own := []) (by simp [f75.r7, runO, w64_1, w64_2, (show Fw.bytesEq [105, 110, 116] [98, 111, 111, 108] = false from rfl)]; rfl) ?_
  refine WC.cond (t := false) (by simp [evo, get_cons, w64_1, w64_2, (show Fw.bytesEq [105, 110, 116] [98, 111, 111, 108] = false from rfl)]) ?_
  refine WC.skip ?_
  refine WC.seq ?_
  refine WC.region ?_
  refine WO.preN 5 (own := []) noC_ok (by simp [f75.r9, runO, w64_1, w64_2, (show Fw.bytesEq [105, 110, 116] [98, 111, 111, 108] = false from rfl)]; rfl) ?_
  refine WO.callPC rfl rfl (pc119i hx.1 hx.2) (by simp [get_cons, put_cons, put_nil, stput_some]; rfl) ?_
  refine runO_ok (own := []) noC_ok (by simp [runO, w64_1, w64_2, (show Fw.bytesEq [105, 110, 116] [98, 111, 111, 108] = false from rfl)]; rfl) ?_
  refine WC.cond (t := false) (by simp [evo, get_cons, w64_1, w64_2, (show Fw.bytesEq [105, 110, 116] [98, 111, 111, 108] = false from rfl)]) ?_
  refine WC.skip ?_
  refine WC.reg (own := []) (by simp [f75.r11, runO, w64_1, w64_2, (show Fw.bytesEq [105, 110, 116] [98, 111, 111, 108] = false from rfl)]; rfl) ?_
  refine LoopQ.step ?_
  show WC P (gl W) (.seq (.seq (.region f75.r5) (.cond (.t 29) .skip (.exit 0))) (.seq (.block 1 (.seq (.region f75.r6) (.seq (.seq (.region f75.r7) (.cond (.t 36) (.region f75.r8) .skip)) (.seq (.region f75.r9) (.cond (.t 43) (.seq (.region f75.r10) .ret) .skip))))) (.region f75.r11))) _ _
  refine WC.seq ?_
  refine WC.seq ?_
  refine WC.reg (own := []) (by simp [f75.r5, runO, w64_1, w64_2, (show Fw.bytesEq [105, 110, 116] [98, 111, 111, 108] = false from rfl)]; rfl) ?_
  refine WC.cond (t := true) (by simp [evo, get_cons, w64_1, w64_2, (show Fw.bytesEq [105, 110, 116] [98, 111, 111, 108] = false from rfl)]) ?_
  refine WC.skip ?_
  refine WC.seq ?_
  refine WC.blockQ ?_
  refine WC.seq ?_
  refine WC.reg (own := []) (by simp [f75.r6, runO, w64_1, w64_2, (show Fw.bytesEq [105, 110, 116] [98, 111, 111, 108] = false from rfl)]; rfl) ?_
  refine WC.seq ?_
  refine WC.seq ?_
  refine WC.reg (own := []) (by simp [f75.r7, runO, w64_1, w64_2, (show Fw.bytesEq [105, 110, 116] [98, 111, 111, 108] = false from rfl)]; rfl) ?_
  refine WC.cond (t := false) (by simp [evo, get_cons, w64_1, w64_2, (show Fw.bytesEq [105, 110, 116] [98, 111, 111, 108] = false from rfl)]) ?_
  refine WC.skip ?_
  refine WC.seq ?_
  refine WC.region ?_
  refine WO.preN 5 (own := []) noC_ok (by simp [f75.r9, runO, w64_1, w64_2, (show Fw.bytesEq [105, 110, 116] [98, 111, 111, 108] = false from rfl)]; rfl) ?_
  refine WO.callPC rfl rfl (pc119i hy.1 hy.2) (by simp [get_cons, put_cons, put_nil, stput_some]; rfl) ?_
  refine runO_ok (own := []) noC_ok (by simp [runO, w64_1, w64_2, (show Fw.bytesEq [105, 110, 116] [98, 111, 111, 108] = false from rfl)]; rfl) ?_
  refine WC.cond (t := false) (by simp [evo, get_cons, w64_1, w64_2, (show Fw.bytesEq [105, 110, 116] [98, 111, 111, 108] = false from rfl)]) ?_
  refine WC.skip ?_
  refine WC.reg (own := []) (by simp [f75.r11, runO, w64_1, w64_2, (show Fw.bytesEq [105, 110, 116] [98, 111, 111, 108] = false from rfl)]; rfl) ?_
  refine LoopQ.step ?_
  show WC P (gl W) (.seq (.seq (.region f75.r5) (.cond (.t 29) .skip (.exit 0))) (.seq (.block 1 (.seq (.region f75.r6) (.seq (.seq (.region f75.r7) (.cond (.t 36) (.region f75.r8) .skip)) (.seq (.region f75.r9) (.cond (.t 43) (.seq (.region f75.r10) .ret) .skip))))) (.region f75.r11))) _ _
  refine WC.seq ?_
  refine WC.seq ?_
  refine WC.reg (own := []) (by simp [f75.r5, runO, w64_1, w64_2, (show Fw.bytesEq [105, 110, 116] [98, 111, 111, 108] = false from rfl)]; rfl) ?_
  refine WC.cond (t := false) (by simp [evo, get_cons, w64_1, w64_2, (show Fw.bytesEq [105, 110, 116] [98, 111, 111, 108] = false from rfl)]) ?_
  refine WC.exit ?_
  refine BlockQ.exit ?_
  exact WC.runRX hW (ex121mul_ok W) (own := []) (kt := kt121) (v := .tuple [.d (.int .i64 (gmul x y)), .d (.bool true)]) (H' := List.replicate 10 none) (by decide) (by rfl) (by kernel_rfl) rfl
def gmin (a b : Int) : Int := (if b < a then b else a)
theorem k118min (W : World) : pcT W 40 118 [.d (.str [109, 105, 110])] = some (.tuple [.d (.list [[.str [105, 110, 116]], [.str [105, 110, 116]]]), .d (.str [105, 110, 116]), .d (.bool true)]) := by kernel_rfl
def ex121min : Extra := .n .e 121 (tab2 [109, 105, 110] gmin) .e
theorem ex121min_ok (W : World) : ExOk P (gl W) ex121min := ⟨trivial, tab2_ok (fun a b => pc121min a b), trivial⟩
theorem pc75min (hW : W0 W) {x y : Int} (hx : -2147483648 ≤ x ∧ x ≤ 2147483647) (hy : -2147483648 ≤ y ∧ y ≤ 2147483647) : PC P (gl W) 75 [.d (.str [109, 105, 110]), .d (.list [[(.int .i64 x)], [(.int .i64 y)]])] (.tuple [.d (.int .i64 (gmin x y)), .d (.bool true)]) := by
  refine PC.body is75 ca75 (by simp [f75]) rfl ?_
  show WC P (gl W) (.seq (.region f75.r0) (.seq (.region f75.r1) (.seq (.seq (.region f75.r2) (.cond (.t 25) (.seq (.region f75.r3) .ret) .skip)) (.seq (.seq (.region f75.r4) (.block 0 (.loop f75.l12))) (.seq (.seq (.region f75.r13) (.block 2 (.seq (.region f75.r14) (.cond (.t 46) (.seq (.region f75.r15) .ret) (.seq (.region f75.r16) (.cond (.t 53) (.seq (.draw f75.r17) .ret) .skip)))))) (.seq (.seq (.region f75.r18) (.cond (.t 66) (.seq (.region f75.r19) .ret) .skip)) (.seq (.region f75.r20) .ret))))))) ⟨73, [(0, .d (.str [109, 105, 110])), (1, .d (.list [[(.int .i64 x)], [(.int .i64 y)]]))], []⟩ _
  refine WC.seq ?_
  refine WC.reg (own := []) (by simp [f75.r0, runO, w64_1, w64_2, (show Fw.bytesEq [105, 110, 116] [98, 111, 111, 108] = false from rfl)]; rfl) ?_
  refine WC.seq ?_
  refine WC.region ?_
  refine WO.preN 1 (own := []) noC_ok (by simp [f75.r1, runO, w64_1, w64_2, (show Fw.bytesEq [105, 110, 116] [98, 111, 111, 108] = false from rfl)]; rfl) ?_
  refine WO.callPC rfl rfl (pcT_ok hW 40 _ _ _ (k118min W)) (by simp [get_cons, put_cons, put_nil, stput_some]; rfl) ?_
  refine runO_ok (own := []) noC_ok (by simp [runO, w64_1, w64_2, (show Fw.bytesEq [105, 110, 116] [98, 111, 111, 108] = false from rfl)]; rfl) ?_
  refine WC.seq ?_
  refine WC.seq ?_
  refine WC.reg (own := []) (by simp [f75.r2, runO, w64_1, w64_2, (show Fw.bytesEq [105, 110, 116] [98, 111, 111, 108] = false from rfl)]; rfl) ?_
  refine WC.cond (t := false) (by simp [evo, get_cons, w64_1, w64_2, (show Fw.bytesEq [105, 110, 116] [98, 111, 111, 108] = false from rfl)]) ?_
  refine WC.skip ?_
  refine WC.seq ?_
  refine WC.seq ?_
  refine WC.reg (own := []) (by simp [f75.r4, runO, w64_1, w64_2, (show Fw.bytesEq [105, 110, 116] [98, 111, 111, 108] = false from rfl)]; rfl) ?_
  refine WC.blockQ ?_
  refine LoopQ.wc (n := 3) ?_
  refine LoopQ.step ?_
  show WC P (gl W) (.seq (.seq (.region f75.r5) (.cond (.t 29) .skip (.exit 0))) (.seq (.block 1 (.seq (.region f75.r6) (.seq (.seq (.region f75.r7) (.cond (.t 36) (.region f75.r8) .skip)) (.seq (.region f75.r9) (.cond (.t 43) (.seq (.region f75.r10) .ret) .skip))))) (.region f75.r11))) _ _
  refine WC.seq ?_
  refine WC.seq ?_
  refine WC.reg (own := []) (by simp [f75.r5, runO, w64_1, w64_2, (show Fw.bytesEq [105, 110, 116] [98, 111, 111, 108] = false from rfl)]; rfl) ?_
  refine WC.cond (t := true) (by simp [evo, get_cons, w64_1, w64_2, (show Fw.bytesEq [105, 110, 116] [98, 111, 111, 108] = false from rfl)]) ?_
  refine WC.skip ?_
  refine WC.seq ?_
  refine WC.blockQ ?_
  refine WC.seq ?_
  refine WC.reg (own := []) (by simp [f75.r6, runO, w64_1, w64_2, (show Fw.bytesEq [105, 110, 116] [98, 111, 111, 108] = false from rfl)]; rfl) ?_
  refine WC.seq ?_
  refine WC.seq ?_
  refine WC.reg (own := []) (by simp [f75.r7, runO, w64_1, w64_2, (show Fw.bytesEq [105, 110, 116] [98, 111, 111, 108] = false from rfl)]; rfl) ?_
  refine WC.cond (t := false) (by simp [evo, get_cons, w64_1, w64_2, (show Fw.bytesEq [105, 110, 116] [98, 111, 111, 108] = false from rfl)]) ?_
  refine WC.skip ?_
  refine WC.seq ?_
  refine WC.region ?_
  refine WO.preN 5 (own := []) noC_ok (by simp [f75.r9, runO, w64_1, w64_2, (show Fw.bytesEq [105, 110, 116] [98, 111, 111, 108] = false from rfl)]; rfl) ?_
  refine WO.callPC rfl rfl (pc119i hx.1 hx.2) (by simp [get_cons, put_cons, put_nil, stput_some]; rfl) ?_
  refine runO_ok (own := []) noC_ok (by simp [runO, w64_1, w64_2, (show Fw.bytesEq [105, 110, 116] [98, 111, 111, 108] = false from rfl)]; rfl) ?_
  refine WC.cond (t := false) (by simp [evo, get_cons, w64_1, w64_2, (show Fw.bytesEq [105, 110, 116] [98, 111, 111, 108] = false from rfl)]) ?_
  refine WC.skip ?_
  refine WC.reg (own := []) (by simp [f75.r11, runO, w64_1, w64_2, (show Fw.bytesEq [105, 110, 116] [98, 111, 111, 108] = false from rfl)]; rfl) ?_
  refine LoopQ.step ?_
  show WC P (gl W) (.seq (.seq (.region f75.r5) (.cond (.t 29) .skip (.exit 0))) (.seq (.block 1 (.seq (.region f75.r6) (.seq (.seq (.region f75.r7) (.cond (.t 36) (.region f75.r8) .skip)) (.seq (.region f75.r9) (.cond (.t 43) (.seq (.region f75.r10) .ret) .skip))))) (.region f75.r11))) _ _
  refine WC.seq ?_
  refine WC.seq ?_
  refine WC.reg (own := []) (by simp [f75.r5, runO, w64_1, w64_2, (show Fw.bytesEq [105, 110, 116] [98, 111, 111, 108] = false from rfl)]; rfl) ?_
  refine WC.cond (t := true) (by simp [evo, get_cons, w64_1, w64_2, (show Fw.bytesEq [105, 110, 116] [98, 111, 111, 108] = false from rfl)]) ?_
  refine WC.skip ?_
  refine WC.seq ?_
  refine WC.blockQ ?_
  refine WC.seq ?_
  refine WC.reg (own := []) (by simp [f75.r6, runO, w64_1, w64_2, (show Fw.bytesEq [105, 110, 116] [98, 111, 111, 108] = false from rfl)]; rfl) ?_
  refine WC.seq ?_
  refine WC.seq ?_
  refine WC.reg (own := []) (by simp [f75.r7, runO, w64_1, w64_2, (show Fw.bytesEq [105, 110, 116] [98, 111, 111, 108] = false from rfl)]; rfl) ?_
  refine WC.cond (t := false) (by simp [evo, get_cons, w64_1, w64_2, (show Fw.bytesEq [105, 110, 116] [98, 111, 111, 108] = false from rfl)]) ?_
  refine WC.skip ?_
  refine WC.seq ?_
  refine WC.region ?_
  refine WO.preN 5 (own := []) noC_ok (by simp [f75.r9, runO, w64_1, w64_2, (show Fw.bytesEq [105, 110, 116] [98, 111, 111, 108] = false from rfl)]; rfl) ?_
  refine WO.callPC rfl rfl (pc119i hy.1 hy.2) (by simp [get_cons, put_cons, put_nil, stput_some]; rfl) ?_
  refine runO_ok (own := []) noC_ok (by simp [runO, w64_1, w64_2, (show Fw.bytesEq [105, 110, 116] [98, 111, 111, 108] = false from rfl)]; rfl) ?_
  refine WC.cond (t := false) (by simp [evo, get_cons, w64_1, w64_2, (show Fw.bytesEq [105, 110, 116] [98, 111, 111, 108] = false from rfl)]) ?_
  refine WC.skip ?_
  refine WC.reg (own := []) (by simp [f75.r11, runO, w64_1, w64_2, (show Fw.bytesEq [105, 110, 116] [98, 111, 111, 108] = false from rfl)]; rfl) ?_
  refine LoopQ.step ?_
  show WC P (gl W) (.seq (.seq (.region f75.r5) (.cond (.t 29) .skip (.exit 0))) (.seq (.block 1 (.seq (.region f75.r6) (.seq (.seq (.region f75.r7) (.cond (.t 36) (.region f75.r8) .skip)) (.seq (.region f75.r9) (.cond (.t 43) (.seq (.region f75.r10) .ret) .skip))))) (.region f75.r11))) _ _
  refine WC.seq ?_
  refine WC.seq ?_
  refine WC.reg (own := []) (by simp [f75.r5, runO, w64_1, w64_2, (show Fw.bytesEq [105, 110, 116] [98, 111, 111, 108] = false from rfl)]; rfl) ?_
  refine WC.cond (t := false) (by simp [evo, get_cons, w64_1, w64_2, (show Fw.bytesEq [105, 110, 116] [98, 111, 111, 108] = false from rfl)]) ?_
  refine WC.exit ?_
  refine BlockQ.exit ?_
  exact WC.runRX hW (ex121min_ok W) (own := []) (kt := kt121) (v := .tuple [.d (.int .i64 (gmin x y)), .d (.bool true)]) (H' := List.replicate 10 none) (by decide) (by rfl) (by kernel_rfl) rfl
def gmax (a b : Int) : Int := (if a < b then b else a)
theorem k118max (W : World) : pcT W 40 118 [.d (.str [109, 97, 120])] = some (.tuple [.d (.list [[.str [105, 110, 116]], [.str [105, 110, 116]]]), .d (.str [105, 110, 116]), .d (.bool true)]) := by kernel_rfl
def ex121max : Extra := .n .e 121 (tab2 [109, 97, 120] gmax) .e
theorem ex121max_ok (W : World) : ExOk P (gl W) ex121max := ⟨trivial, tab2_ok (fun a b => pc121max a b), trivial⟩
theorem pc75max (hW : W0 W) {x y : Int} (hx : -2147483648 ≤ x ∧ x ≤ 2147483647) (hy : -2147483648 ≤ y ∧ y ≤ 2147483647) : PC P (gl W) 75 [.d (.str [109, 97, 120]), .d (.list [[(.int .i64 x)], [(.int .i64 y)]])] (.tuple [.d (.int .i64 (gmax x y)), .d (.bool true)]) := by
  refine PC.body is75 ca75 (by simp [f75]) rfl ?_
  show WC P (gl W) (.seq (.region f75.r0) (.seq (.region f75.r1) (.seq (.seq (.region f75.r2) (.cond (.t 25) (.seq (.region f75.r3) .ret) .skip)) (.seq (.seq (.region f75.r4) (.block 0 (.loop f75.l12))) (.seq (.seq (.region f75.r13) (.block 2 (.seq (.region f75.r14) (.cond (.t 46) (.seq (.region f75.r15) .ret) (.seq (.region f75.r16) (.cond (.t 53) (.seq (.draw f75.r17) .ret) .skip)))))) (.seq (.seq (.region f75.r18) (.cond (.t 66) (.seq (.region f75.r19) .ret) .skip)) (.seq (.region f75.r20) .ret))))))) ⟨73, [(0, .d (.str [109, 97, 120])), (1, .d (.list [[(.int .i64 x)], [(.int .i64 y)]]))], []⟩ _
  refine WC.seq ?_
  refine WC.reg (own := []) (by simp [f75.r0, runO, w64_1, w64_2, (show Fw.bytesEq [105, 110, 116] [98, 111, 111, 108] = false from rfl)]; rfl) ?_
  refine WC.seq ?_
  refine WC.region ?_
  refine WO.preN 1 (own := []) noC_ok (by simp [f75.r1, runO, w64_1, w64_2, (show Fw.bytesEq [105, 110, 116] [98, 111, 111, 108] = false from rfl)]; rfl) ?_
  refine WO.callPC rfl rfl (pcT_ok hW 40 _ _ _ (k118max W)) (by simp [get_cons, put_cons, put_nil, stput_some]; rfl) ?_
  refine runO_ok (own := []) noC_ok (by simp [runO, w64_1, w64_2, (show Fw.bytesEq [105, 110, 116] [98, 111, 111, 108] = false from rfl)]; rfl) ?_
  refine WC.seq ?_
  refine WC.seq ?_
  refine WC.reg (own := []) (by simp [f75.r2, runO, w64_1, w64_2, (show Fw.bytesEq [105, 110, 116] [98, 111, 111, 108] = false from rfl)]; rfl) ?_
  refine WC.cond (t := false) (by simp [evo, get_cons, w64_1, w64_2, (show Fw.bytesEq [105, 110, 116] [98, 111, 111, 108] = false from rfl)]) ?_
  refine WC.skip ?_
  refine WC.seq ?_
  refine WC.seq ?_
  refine WC.reg (own := []) (by simp [f75.r4, runO, w64_1, w64_2, (show Fw.bytesEq [105, 110, 116] [98, 111, 111, 108] = false from rfl)]; rfl) ?_
  refine WC.blockQ ?_
  refine LoopQ.wc (n := 3) ?_
  refine LoopQ.step ?_
  show WC P (gl W) (.seq (.seq (.region f75.r5) (.cond (.t 29) .skip (.exit 0))) (.seq (.block 1 (.seq (.region f75.r6) (.seq (.seq (.region f75.r7) (.cond (.t 36) (.region f75.r8) .skip)) (.seq (.region f75.r9) (.cond (.t 43) (.seq (.region f75.r10) .ret) .skip))))) (.region f75.r11))) _ _
  refine WC.seq ?_
  refine WC.seq ?_
  refine WC.reg (own := []) (by simp [f75.r5, runO, w64_1, w64_2, (show Fw.bytesEq [105, 110, 116] [98, 111, 111, 108] = false from rfl)]; rfl) ?_
  refine WC.cond (t := true) (by simp [evo, get_cons, w64_1, w64_2, (show Fw.bytesEq [105, 110, 116] [98, 111, 111, 108] = false from rfl)]) ?_
  refine WC.skip ?_
  refine WC.seq ?_
  refine WC.blockQ ?_
  refine WC.seq ?_
  refine WC.reg (own := []) (by simp [f75.r6, runO, w64_1, w64_2, (show Fw.bytesEq [105, 110, 116] [98, 111, 111, 108] = false from rfl)]; rfl) ?_
  refine WC.seq ?_
  refine WC.seq ?_
  refine WC.reg (own := []) (by simp [f75.r7, runO, w64_1, w64_2, (show Fw.bytesEq [105, 110, 116] [98, 111, 111, 108] = false from rfl)]; rfl) ?_
  refine WC.cond (t := false) (by simp [evo, get_cons, w64_1, w64_2, (show Fw.bytesEq [105, 110, 116] [98, 111, 111, 108] = false from rfl)]) ?_
  refine WC.skip ?_
  refine WC.seq ?_
  refine WC.region ?_
  refine WO.preN 5 (own := []) noC_ok (by simp [f75.r9, runO, w64_1, w64_2, (show Fw.bytesEq [105, 110, 116] [98, 111, 111, 108] = false from rfl)]; rfl) ?_
  refine WO.callPC rfl rfl (pc119i hx.1 hx.2) (by simp [get_cons, put_cons, put_nil, stput_some]; rfl) ?_
  refine runO_ok (own := []) noC_ok (by simp [runO, w64_1, w64_2, (show Fw.bytesEq [105, 110, 116] [98, 111, 111, 108] = false from rfl)]; rfl) ?_
  refine WC.cond (t := false) (by simp [evo, get_cons, w64_1, w64_2, (show Fw.bytesEq [105, 110, 116] [98, 111, 111, 108] = false from rfl)]) ?_
  refine WC.skip ?_
  refine WC.reg (own := []) (by simp [f75.r11, runO, w64_1, w64_2, (show Fw.bytesEq [105, 110, 116] [98, 111, 111, 108] = false from rfl)]; rfl) ?_
  refine LoopQ.step ?_
  show WC P (gl W) (.seq (.seq (.region f75.r5) (.cond (.t 29) .skip (.exit 0))) (.seq (.block 1 (.seq (.region f75.r6) (.seq (.seq (.region f75.r7) (.cond (.t 36) (.region f75.r8) .skip)) (.seq (.region f75.r9) (.cond (.t 43) (.seq (.region f75.r10) .ret) .skip))))) (.region f75.r11))) _ _
  refine WC.seq ?_
  refine WC.seq ?_
  refine WC.reg (own := []) (by simp [f75.r5, runO, w64_1, w64_2, (show Fw.bytesEq [105, 110, 116] [98, 111, 111, 108] = false from rfl)]; rfl) ?_
  refine WC.cond (t := true) (by simp [evo, get_cons, w64_1, w64_2, (show Fw.bytesEq [105, 110, 116] [98, 111, 111, 108] = false from rfl)]) ?_
  refine WC.skip ?_
  refine WC.seq ?_
  refine WC.blockQ ?_
  refine WC.seq ?_
  refine WC.reg (own := []) (by simp [f75.r6, runO, w64_1, w64_2, (show Fw.bytesEq [105, 110, 116] [98, 111, 111, 108] = false from rfl)]; rfl) ?_
  refine WC.seq ?_
  refine WC.seq ?_
  refine WC.reg (own := []) (by simp [f75.r7, runO, w64_1, w64_2, (show Fw.bytesEq [105, 110, 116] [98, 111, 111, 108] = false from rfl)]; rfl) ?_
  refine WC.cond (t := false) (by simp [evo, get_cons, w64_1, w64_2, (show Fw.bytesEq [105, 110, 116] [98, 111, 111, 108] = false from rfl)]) ?_
  refine WC.skip ?_
  refine WC.seq ?_
  refine WC.region ?_
  refine WO.preN 5 (own := []) noC_ok (by simp [f75.r9, runO, w64_1, w64_2, (show Fw.bytesEq [105, 110, 116] [98, 111, 111, 108] = false from rfl)]; rfl) ?_
  refine WO.callPC rfl rfl (pc119i hy.1 hy.2) (by simp [get_cons, put_cons, put_nil, stput_some]; rfl) ?_
  refine runO_ok (own := []) noC_ok (by simp [runO, w64_1, w64_2, (show Fw.bytesEq [105, 110, 116] [98, 111, 111, 108] = false from rfl)]; rfl) ?_
  refine WC.cond (t := false) (by simp [evo, get_cons, w64_1, w64_2, (show Fw.bytesEq [105, 110, 116] [98, 111, 111, 108] = false from rfl)]) ?_
  refine WC.skip ?_
  refine WC.reg (own := []) (by simp [f75.r11, runO, w64_1, w64_2, (show Fw.bytesEq [105, 110, 116] [98, 111, 111, 108] = false from rfl)]; rfl) ?_
  refine LoopQ.step ?_
  show WC P (gl W) (.seq (.seq (.region f75.r5) (.cond (.t 29) .skip (.exit 0))) (.seq (.block 1 (.seq (.region f75.r6) (.seq (.seq (.region f75.r7) (.cond (.t 36) (.region f75.r8) .skip)) (.seq (.region f75.r9) (.cond (.t 43) (.seq (.region f75.r10) .ret) .skip))))) (.region f75.r11))) _ _
  refine WC.seq ?_
  refine WC.seq ?_
  refine WC.reg (own := []) (by simp [f75.r5, runO, w64_1, w64_2, (show Fw.bytesEq [105, 110, 116] [98, 111, 111, 108] = false from rfl)]; rfl) ?_
  refine WC.cond (t := false) (by simp [evo, get_cons, w64_1, w64_2, (show Fw.bytesEq [105, 110, 116] [98, 111, 111, 108] = false from rfl)]) ?_
  refine WC.exit ?_
  refine BlockQ.exit ?_
  exact WC.runRX hW (ex121max_ok W) (own := []) (kt := kt121) (v := .tuple [.d (.int .i64 (gmax x y)), .d (.bool true)]) (H' := List.replicate 10 none) (by decide) (by rfl) (by kernel_rfl) rfl
def geq (a b : Int) : Int := (tr (a == b))
theorem k118eq (W : World) : pcT W 40 118 [.d (.str [101, 113])] = some (.tuple [.d (.list [[.str [65]], [.str [65]]]), .d (.str [98, 111, 111, 108]), .d (.bool true)]) := by kernel_rfl
def ex121eq : Extra := .n .e 121 (tab2 [101, 113] geq) .e
theorem ex121eq_ok (W : World) : ExOk P (gl W) ex121eq := ⟨trivial, tab2_ok (fun a b => pc121eq a b), trivial⟩
theorem pc75eq (hW : W0 W) {x y : Int} (hx : -2147483648 ≤ x ∧ x ≤ 2147483647) (hy : -2147483648 ≤ y ∧ y ≤ 2147483647) : PC P (gl W) 75 [.d (.str [101, 113]), .d (.list [[(.int .i64 x)], [(.int .i64 y)]])] (.tuple [.d (.int .i64 (geq x y)), .d (.bool true)]) := by
  refine PC.body is75 ca75 (by simp [f75]) rfl ?_
  show WC P (gl W) (.seq (.region f75.r0) (.seq (.region f75.r1) (.seq (.seq (.region f75.r2) (.cond (.t 25) (.seq (.region f75.r3) .ret) .skip)) (.seq (.seq (.region f75.r4) (.block 0 (.loop f75.l12))) (.seq (.seq (.region f75.r13) (.block 2 (.seq (.region f75.r14) (.cond (.t 46) (.seq (.region f75.r15) .ret) (.seq (.region f75.r16) (.cond (.t 53) (.seq (.draw f75.r17) .ret) .skip)))))) (.seq (.seq (.region f75.r18) (.cond (.t 66) (.seq (.region f75.r19) .ret) .skip)) (.seq (.region f75.r20) .ret))))))) ⟨73, [(0, .d (.str [101, 113])), (1, .d (.list [[(.int .i64 x)], [(.int .i64 y)]]))], []⟩ _
  refine WC.seq ?_
  refine WC.reg (own := []) (by simp [f75.r0, runO, w64_1, w64_2, (show Fw.bytesEq [65] [98, 111, 111, 108] = false from rfl)]; rfl) ?_
  refine WC.seq ?_
  refine WC.region ?_
  refine WO.preN 1 (own := []) noC_ok (by simp [f75.r1, runO, w64_1, w64_2, (show Fw.bytesEq [65] [98, 111, 111, 108] = false from rfl)]; rfl) ?_
  refine WO.callPC rfl rfl (pcT_ok hW 40 _ _ _ (k118eq W)) (by simp [get_cons, put_cons, put_nil, stput_some]; rfl) ?_
  refine runO_ok (own := []) noC_ok (by simp [runO, w64_1, w64_2, (show Fw.bytesEq [65] [98, 111, 111, 108] = false from rfl)]; rfl) ?_
  refine WC.seq ?_
  refine WC.seq ?_
  refine WC.reg (own := []) (by simp [f75.r2, runO, w64_1, w64_2, (show Fw.bytesEq [65] [98, 111, 111, 108] = false from rfl)]; rfl) ?_
  refine WC.cond (t := false) (by simp [evo, get_cons, w64_1, w64_2, (show Fw.bytesEq [65] [98, 111, 111, 108] = false from rfl)]) ?_
  refine WC.skip ?_
  refine WC.seq ?_
  refine WC.seq ?_
  refine WC.reg (own := []) (by simp [f75.r4, runO, w64_1, w64_2, (show Fw.bytesEq [65] [98, 111, 111, 108] = false from rfl)]; rfl) ?_
  refine WC.blockQ ?_
  refine LoopQ.wc (n := 3) ?_
  refine LoopQ.step ?_
  show WC P (gl W) (.seq (.seq (.region f75.r5) (.cond (.t 29) .skip (.exit 0))) (.seq (.block 1 (.seq (.region f75.r6) (.seq (.seq (.region f75.r7) (.cond (.t 36) (.region f75.r8) .skip)) (.seq (.region f75.r9) (.cond (.t 43) (.seq (.region f75.r10) .ret) .skip))))) (.region f75.r11))) _ _
  refine WC.seq ?_
  refine WC.seq ?_
  refine WC.reg (own := []) (by simp [f75.r5, runO, w64_1, w64_2, (show Fw.bytesEq [65] [98, 111, 111, 108] = false from rfl)]; rfl) ?_
  refine WC.cond (t := true) (by simp [evo, get_cons, w64_1, w64_2, (show Fw.bytesEq [65] [98, 111, 111, 108] = false from rfl)]) ?_
  refine WC.skip ?_
  refine WC.seq ?_
  refine WC.blockQ ?_
  refine WC.seq ?_
  refine WC.reg (own := []) (by simp [f75.r6, runO, w64_1, w64_2, (show Fw.bytesEq [65] [98, 111, 111, 108] = false from rfl)]; rfl) ?_
  refine WC.seq ?_
  refine WC.seq ?_
  refine WC.reg (own := []) (by simp [f75.r7, runO, w64_1, w64_2, (show Fw.bytesEq [65] [98, 111, 111, 108] = false from rfl)]; rfl) ?_
  refine WC.cond (t := false) (by simp [evo, get_cons, w64_1, w64_2, (show Fw.bytesEq [65] [98, 111, 111, 108] = false from rfl)]) ?_
  refine WC.skip ?_
  refine WC.seq ?_
  refine WC.region ?_
  refine WO.preN 5 (own := []) noC_ok (by simp [f75.r9, runO, w64_1, w64_2, (show Fw.bytesEq [65] [98, 111, 111, 108] = false from rfl)]; rfl) ?_
  refine WO.callPC rfl rfl (pc119i hx.1 hx.2) (by simp [get_cons, put_cons, put_nil, stput_some]; rfl) ?_
  refine runO_ok (own := []) noC_ok (by simp [runO, w64_1, w64_2, (show Fw.bytesEq [65] [98, 111, 111, 108] = false from rfl)]; rfl) ?_
  refine WC.cond (t := false) (by simp [evo, get_cons, w64_1, w64_2, (show Fw.bytesEq [65] [98, 111, 111, 108] = false from rfl)]) ?_
  refine WC.skip ?_
  refine WC.reg (own := []) (by simp [f75.r11, runO, w64_1, w64_2, (show Fw.bytesEq [65] [98, 111, 111, 108] = false from rfl)]; rfl) ?_
  refine LoopQ.step ?_
  show WC P (gl W) (.seq (.seq (.region f75.r5) (.cond (.t 29) .skip (.exit 0))) (.seq (.block 1 (.seq (.region f75.r6) (.seq (.seq (.region f75.r7) (.cond (.t 36) (.region f75.r8) .skip)) (.seq (.region f75.r9) (.cond (.t 43) (.seq (.region f75.r10) .ret) .skip))))) (.region f75.r11))) _ _
  refine WC.seq ?_
  refine WC.seq ?_
  refine WC.reg (own := []) (by simp [f75.r5, runO, w64_1, w64_2, (show Fw.bytesEq [65] [98, 111, 111, 108] = false from rfl)]; rfl) ?_
  refine WC.cond (t := true) (by simp [evo, get_cons, w64_1, w64_2, (show Fw.bytesEq [65] [98, 111, 111, 108] = false from rfl)]) ?_
  refine WC.skip ?_
  refine WC.seq ?_
  refine WC.blockQ ?_
  refine WC.seq ?_
  refine WC.reg (own := []) (by simp [f75.r6, runO, w64_1, w64_2, (show Fw.bytesEq [65] [98, 111, 111, 108] = false from rfl)]; rfl) ?_
  refine WC.seq ?_
  refine WC.seq ?_
  refine WC.reg (own := []) (by simp [f75.r7, runO, w64_1, w64_2, (show Fw.bytesEq [65] [98, 111, 111, 108] = false from rfl)]; rfl) ?_
  refine WC.cond (t := false) (by simp [evo, get_cons, w64_1, w64_2, (show Fw.bytesEq [65] [98, 111, 111, 108] = false from rfl)]) ?_
  refine WC.skip ?_
  refine WC.seq ?_
  refine WC.region ?_
  refine WO.preN 5 (own := []) noC_ok (by simp [f75.r9, runO, w64_1, w64_2, (show Fw.bytesEq [65] [98, 111, 111, 108] = false from rfl)]; rfl) ?_
  refine WO.callPC rfl rfl (pc119i hy.1 hy.2) (by simp [get_cons, put_cons, put_nil, stput_some]; rfl) ?_
  refine runO_ok (own := []) noC_ok (by simp [runO, w64_1, w64_2, (show Fw.bytesEq [65] [98, 111, 111, 108] = false from rfl)]; rfl) ?_
  refine WC.cond (t := false) (by simp [evo, get_cons, w64_1, w64_2, (show Fw.bytesEq [65] [98, 111, 111, 108] = false from rfl)]) ?_
  refine WC.skip ?_
  refine WC.reg (own := []) (by simp [f75.r11, runO, w64_1, w64_2, (show Fw.bytesEq [65] [98, 111, 111, 108] = false from rfl)]; rfl) ?_
  refine LoopQ.step ?_
  show WC P (gl W) (.seq (.seq (.region f75.r5) (.cond (.t 29) .skip (.exit 0))) (.seq (.block 1 (.seq (.region f75.r6) (.seq (.seq (.region f75.r7) (.cond (.t 36) (.region f75.r8) .skip)) (.seq (.region f75.r9) (.cond (.t 43) (.seq (.region f75.r10) .ret) .skip))))) (.region f75.r11))) _ _
  refine WC.seq ?_
  refine WC.seq ?_
  refine WC.reg (own := []) (by simp [f75.r5, runO, w64_1, w64_2, (show Fw.bytesEq [65] [98, 111, 111, 108] = false from rfl)]; rfl) ?_
  refine WC.cond (t := false) (by simp [evo, get_cons, w64_1, w64_2, (show Fw.bytesEq [65] [98, 111, 111, 108] = false from rfl)]) ?_
  refine WC.exit ?_
  refine BlockQ.exit ?_
  exact WC.runRX hW (ex121eq_ok W) (own := []) (kt := kt121) (v := .tuple [.d (.int .i64 (geq x y)), .d (.bool true)]) (H' := List.replicate 10 none) (by decide) (by rfl) (by kernel_rfl) rfl
def gne (a b : Int) : Int := (tr (a != b))
theorem k118ne (W : World) : pcT W 40 118 [.d (.str [110, 101])] = some (.tuple [.d (.list [[.str [65]], [.str [65]]]), .d (.str [98, 111, 111, 108]), .d (.bool true)]) := by kernel_rfl
def ex121ne : Extra := .n .e 121 (tab2 [110, 101] gne) .e
theorem ex121ne_ok (W : World) : ExOk P (gl W) ex121ne := ⟨trivial, tab2_ok (fun a b => pc121ne a b), trivial⟩
theorem pc75ne (hW : W0 W) {x y : Int} (hx : -2147483648 ≤ x ∧ x ≤ 2147483647) (hy : -2147483648 ≤ y ∧ y ≤ 2147483647) : PC P (gl W) 75 [.d (.str [110, 101]), .d (.list [[(.int .i64 x)], [(.int .i64 y)]])] (.tuple [.d (.int .i64 (gne x y)), .d (.bool true)]) := by
  refine PC.body is75 ca75 (by simp [f75]) rfl ?_
  show WC P (gl W) (.seq (.region f75.r0) (.seq (.region f75.r1) (.seq (.seq (.region f75.r2) (.cond (.t 25) (.seq (.region f75.r3) .ret) .skip)) (.seq (.seq (.region f75.r4) (.block 0 (.loop f75.l12))) (.seq (.seq (.region f75.r13) (.block 2 (.seq (.region f75.r14) (.cond (.t 46) (.seq (.region f75.r15) .ret) (.seq (.region f75.r16) (.cond (.t 53) (.seq (.draw f75.r17) .ret) .skip)))))) (.seq (.seq (.region f75.r18) (.cond (.t 66) (.seq (.region f75.r19) .ret) .skip)) (.seq (.region f75.r20) .ret))))))) ⟨73, [(0, .d (.str [110, 101])), (1, .d (.list [[(.int .i64 x)], [(.int .i64 y)]]))], []⟩ _
  refine WC.seq ?_
  refine WC.reg (own := []) (by simp [f75.r0, runO, w64_1, w64_2, (show Fw.bytesEq [65] [98, 111, 111, 108] = false from rfl)]; rfl) ?_
  refine WC.seq ?_
  refine WC.region ?_
  refine WO.preN 1 (own := []) noC_ok (by simp [f75.r1, runO, w64_1, w64_2, (show Fw.bytesEq [65] [98, 111, 111, 108] = false from rfl)]; rfl) ?_
  refine WO.callPC rfl rfl (pcT_ok hW 40 _ _ _ (k118ne W)) (by simp [get_cons, put_cons, put_nil, stput_some]; rfl) ?_
  refine runO_ok (own := []) noC_ok (by simp [runO, w64_1, w64_2, (show Fw.bytesEq [65] [98, 111, 111, 108] = false from rfl)]; rfl) ?_
  refine WC.seq ?_
  refine WC.seq ?_
  refine WC.reg (own := []) (by simp [f75.r2, runO, w64_1, w64_2, (show Fw.bytesEq [65] [98, 111, 111, 108] = false from rfl)]; rfl) ?_
  refine WC.cond (t := false) (by simp [evo, get_cons, w64_1, w64_2, (show Fw.bytesEq [65] [98, 111, 111, 108] = false from rfl)]) ?_
  refine WC.skip ?_
  refine WC.seq ?_
  refine WC.seq ?_
  refine WC.reg (own := []) (by simp [f75.r4, runO, w64_1, w64_2, (show Fw.bytesEq [65] [98, 111, 111, 108] = false from rfl)]; rfl) ?_
  refine WC.blockQ ?_
  refine LoopQ.wc (n := 3) ?_
  refine LoopQ.step ?_
  show WC P (gl W) (.seq (.seq (.region f75.r5) (.cond (.t 29) .skip (.exit 0))) (.seq (.block 1 (.seq (.region f75.r6) (.seq (.seq (.region f75.r7) (.cond (.t 36) (.region f75.r8) .skip)) (.seq (.region f75.r9) (.cond (.t 43) (.seq (.region f75.r10) .ret) .skip))))) (.region f75.r11))) _ _
  refine WC.seq ?_
  refine WC.seq ?_
  refine WC.reg (own := []) (by simp [f75.r5, runO, w64_1, w64_2, (show Fw.bytesEq [65] [98, 111, 111, 108] = false from rfl)]; rfl) ?_
  refine WC.cond (t := true) (by simp [evo, get_cons, w64_1, w64_2, (show Fw.bytesEq [65] [98, 111, 111, 108] = false from rfl)]) ?_
  refine WC.skip ?_
  refine WC.seq ?_
  refine WC.blockQ ?_
  refine WC.seq ?_
  refine WC.reg (own := []) (by simp [f75.r6, runO, w64_1, w64_2, (show Fw.bytesEq [65] [98, 111, 111, 108] = false from rfl)]; rfl) ?_
  refine WC.seq ?_
  refine WC.seq ?_
  refine WC.reg (own := []) (by simp [f75.r7, runO, w64_1, w64_2, (show Fw.bytesEq [65] [98, 111, 111, 108] = false from rfl)]; rfl) ?_
  refine WC.cond (t := false) (by simp [evo, get_cons, w64_1, w64_2, (show Fw.bytesEq [65] [98, 111, 111, 108] = false from rfl)]) ?_
  refine WC.skip ?_
  refine WC.seq ?_
  refine WC.region ?_
  refine WO.preN 5 (own := []) noC_ok (by simp [f75.r9, runO, w64_1, w64_2, (show Fw.bytesEq [65] [98, 111, 111, 108] = false from rfl)]; rfl) ?_
  refine WO.callPC rfl rfl (pc119i hx.1 hx.2) (by simp [get_cons, put_cons, put_nil, stput_some]; rfl) ?_
  refine runO_ok (own := []) noC_ok (by simp [runO, w64_1, w64_2, (show Fw.bytesEq [65] [98, 111, 111, 108] = false from rfl)]; rfl) ?_
  refine WC.cond (t := false) (by simp [evo, get_cons, w64_1, w64_2, (show Fw.bytesEq [65] [98, 111, 111, 108] = false from rfl)]) ?_
  refine WC.skip ?_
  refine WC.reg (own := []) (by simp [f75.r11, runO, w64_1, w64_2, (show Fw.bytesEq [65] [98, 111, 111, 108] = false from rfl)]; rfl) ?_
  refine LoopQ.step ?_
  show WC P (gl W) (.seq (.seq (.region f75.r5) (.cond (.t 29) .skip (.exit 0))) (.seq (.block 1 (.seq (.region f75.r6) (.seq (.seq (.region f75.r7) (.cond (.t 36) (.region f75.r8) .skip)) (.seq (.region f75.r9) (.cond (.t 43) (.seq (.region f75.r10) .ret) .skip))))) (.region f75.r11))) _ _
  refine WC.seq ?_
  refine WC.seq ?_
  refine WC.reg (own := []) (by simp [f75.r5, runO, w64_1, w64_2, (show Fw.bytesEq [65] [98, 111, 111, 108] = false from rfl)]; rfl) ?_
  refine WC.cond (t := true) (by simp [evo, get_cons, w64_1, w64_2, (show Fw.bytesEq [65] [98, 111, 111, 108] = false from rfl)]) ?_
  refine WC.skip ?_
  refine WC.seq ?_
  refine WC.blockQ ?_
  refine WC.seq ?_
  refine WC.reg (own := []) (by simp [f75.r6, runO, w64_1, w64_2, (show Fw.bytesEq [65] [98, 111, 111, 108] = false from rfl)]; rfl) ?_
  refine WC.seq ?_
  refine WC.seq ?_
  refine WC.reg (own := []) (by simp [f75.r7, runO, w64_1, w64_2, (show Fw.bytesEq [65] [98, 111, 111, 108] = false from rfl)]; rfl) ?_
  refine WC.cond (t := false) (by simp [evo, get_cons, w64_1, w64_2, (show Fw.bytesEq [65] [98, 111, 111, 108] = false from rfl)]) ?_
  refine WC.skip ?_
  refine WC.seq ?_
  refine WC.region ?_
  refine WO.preN 5 (own := []) noC_ok (by simp [f75.r9, runO, w64_1, w64_2, (show Fw.bytesEq [65] [98, 111, 111, 108] = false from rfl)]; rfl) ?_
  refine WO.callPC rfl rfl (pc119i hy.1 hy.2) (by simp [get_cons, put_cons, put_nil, stput_some]; rfl) ?_
  refine runO_ok (own := []) noC_ok (by simp [runO, w64_1, w64_2, (show Fw.bytesEq [65] [98, 111, 111, 108] = false from rfl)]; rfl) ?_
  refine WC.cond (t := false) (by simp [evo, get_cons, w64_1, w64_2, (show Fw.bytesEq [65] [98, 111, 111, 108] = false from rfl)]) ?_
  refine WC.skip ?_
  refine WC.reg (own := []) (by simp [f75.r11, runO, w64_1, w64_2, (show Fw.bytesEq [65] [98, 111, 111, 108] = false from rfl)]; rfl) ?_
  refine LoopQ.step ?_
  show WC P (gl W) (.seq (.seq (.region f75.r5) (.cond (.t 29) .skip (.exit 0))) (.seq (.block 1 (.seq (.region f75.r6) (.seq (.seq (.region f75.r7) (.cond (.t 36) (.region f75.r8) .skip)) (.seq (.region f75.r9) (.cond (.t 43) (.seq (.region f75.r10) .ret) .skip))))) (.region f75.r11))) _ _
  refine WC.seq ?_
  refine WC.seq ?_
  refine WC.reg (own := []) (by simp [f75.r5, runO, w64_1, w64_2, (show Fw.bytesEq [65] [98, 111, 111, 108] = false from rfl)]; rfl) ?_
  refine WC.cond (t := false) (by simp [evo, get_cons, w64_1, w64_2, (show Fw.bytesEq [65] [98, 111, 111, 108] = false from rfl)]) ?_
  refine WC.exit ?_
  refine BlockQ.exit ?_
  exact WC.runRX hW (ex121ne_ok W) (own := []) (kt := kt121) (v := .tuple [.d (.int .i64 (gne x y)), .d (.bool true)]) (H' := List.replicate 10 none) (by decide) (by rfl) (by kernel_rfl) rfl
def gxor (a b : Int) : Int := (tr (a != b))
theorem k118xor (W : World) : pcT W 40 118 [.d (.str [120, 111, 114])] = some (.tuple [.d (.list [[.str [98, 111, 111, 108]], [.str [98, 111, 111, 108]]]), .d (.str [98, 111, 111, 108]), .d (.bool true)]) := by kernel_rfl
def ex121xor : Extra := .n .e 121 (tab2 [120, 111, 114] gxor) .e
theorem ex121xor_ok (W : World) : ExOk P (gl W) ex121xor := ⟨trivial, tab2_ok (fun a b => pc121xor a b), trivial⟩
theorem pc75xor (hW : W0 W) {x y : Int} (hx : x = 0 ∨ x = 1) (hy : y = 0 ∨ y = 1) : PC P (gl W) 75 [.d (.str [120, 111, 114]), .d (.list [[(.int .i64 x)], [(.int .i64 y)]])] (.tuple [.d (.int .i64 (gxor x y)), .d (.bool true)]) := by
  refine PC.body is75 ca75 (by simp [f75]) rfl ?_
  show WC P (gl W) (.seq (.region f75.r0) (.seq (.region f75.r1) (.seq (.seq (.region f75.r2) (.cond (.t 25) (.seq (.region f75.r3) .ret) .skip)) (.seq (.seq (.region f75.r4) (.block 0 (.loop f75.l12))) (.seq (.seq (.region f75.r13) (.block 2 (.seq (.region f75.r14) (.cond (.t 46) (.seq (.region f75.r15) .ret) (.seq (.region f75.r16) (.cond (.t 53) (.seq (.draw f75.r17) .ret) .skip)))))) (.seq (.seq (.region f75.r18) (.cond (.t 66) (.seq (.region f75.r19) .ret) .skip)) (.seq (.region f75.r20) .ret))))))) ⟨73, [(0, .d (.str [120, 111, 114])), (1, .d (.list [[(.int .i64 x)], [(.int .i64 y)]]))], []⟩ _
  refine WC.seq ?_
  refine WC.reg (own := []) (by simp [f75.r0, runO, w64_1, w64_2, (show Fw.bytesEq [98, 111, 111, 108] [98, 111, 111, 108] = true from rfl)]; rfl) ?_
  refine WC.seq ?_
  refine WC.region ?_
  refine WO.preN 1 (own := []) noC_ok (by simp [f75.r1, runO, w64_1, w64_2, (show Fw.bytesEq [98, 111, 111, 108] [98, 111, 111, 108] = true from rfl)]; rfl) ?_
  refine WO.callPC rfl rfl (pcT_ok hW 40 _ _ _ (k118xor W)) (by simp [get_cons, put_cons, put_nil, stput_some]; rfl) ?_
  refine runO_ok (own := []) noC_ok (by simp [runO, w64_1, w64_2, (show Fw.bytesEq [98, 111, 111, 108] [98, 111, 111, 108] = true from rfl)]; rfl) ?_
  refine WC.seq ?_
  refine WC.seq ?_
  refine WC.reg (own := []) (by simp [f75.r2, runO, w64_1, w64_2, (show Fw.bytesEq [98, 111, 111, 108] [98, 111, 111, 108] = true from rfl)]; rfl) ?_
  refine WC.cond (t := false) (by simp [evo, get_cons, w64_1, w64_2, (show Fw.bytesEq [98, 111, 111, 108] [98, 111, 111, 108] = true from rfl)]) ?_
  refine WC.skip ?_
  refine WC.seq ?_
  refine WC.seq ?_
  refine WC.reg (own := []) (by simp [f75.r4, runO, w64_1, w64_2, (show Fw.bytesEq [98, 111, 111, 108] [98, 111, 111, 108] = true from rfl)]; rfl) ?_
  refine WC.blockQ ?_
  refine LoopQ.wc (n := 3) ?_
  refine LoopQ.step ?_
  show WC P (gl W) (.seq (.seq (.region f75.r5) (.cond (.t 29) .skip (.exit 0))) (.seq (.block 1 (.seq (.region f75.r6) (.seq (.seq (.region f75.r7) (.cond (.t 36) (.region f75.r8) .skip)) (.seq (.region f75.r9) (.cond (.t 43) (.seq (.region f75.r10) .ret) .skip))))) (.region f75.r11))) _ _
  refine WC.seq ?_
  refine WC.seq ?_
  refine WC.reg (own := []) (by simp [f75.r5, runO, w64_1, w64_2, (show Fw.bytesEq [98, 111, 111, 108] [98, 111, 111, 108] = true from rfl)]; rfl) ?_
  refine WC.cond (t := true) (by simp [evo, get_cons, w64_1, w64_2, (show Fw.bytesEq [98, 111, 111, 108] [98, 111, 111, 108] = true from rfl)]) ?_
  refine WC.skip ?_
  refine WC.seq ?_
  refine WC.blockQ ?_
  refine WC.seq ?_
  refine WC.reg (own := []) (by simp [f75.r6, runO, w64_1, w64_2, (show Fw.bytesEq [98, 111, 111, 108] [98, 111, 111, 108] = true from rfl)]; rfl) ?_
  refine WC.seq ?_
  refine WC.seq ?_
  refine WC.reg (own := []) (by simp [f75.r7, runO, w64_1, w64_2, (show Fw.bytesEq [98, 111, 111, 108] [98, 111, 111, 108] = true from rfl)]; rfl) ?_
  refine WC.cond (t := true) (by simp [evo, get_cons, w64_1, w64_2, (show Fw.bytesEq [98, 111, 111, 108] [98, 111, 111, 108] = true from rfl)]) ?_
  refine WC.reg (own := []) (by simp [f75.r8, runO, w64_1, w64_2, (show Fw.bytesEq [98, 111, 111, 108] [98, 111, 111, 108] = true from rfl)]; rfl) ?_
  refine WC.seq ?_
  refine WC.region ?_
  refine WO.preN 5 (own := []) noC_ok (by simp [f75.r9, runO, w64_1, w64_2, (show Fw.bytesEq [98, 111, 111, 108] [98, 111, 111, 108] = true from rfl)]; rfl) ?_
  refine WO.callPC rfl rfl (pc119b hx) (by simp [get_cons, put_cons, put_nil, stput_some]; rfl) ?_
  refine runO_ok (own := []) noC_ok (by simp [runO, w64_1, w64_2, (show Fw.bytesEq [98, 111, 111, 108] [98, 111, 111, 108] = true from rfl)]; rfl) ?_
  refine WC.cond (t := false) (by simp [evo, get_cons, w64_1, w64_2, (show Fw.bytesEq [98, 111, 111, 108] [98, 111, 111, 108] = true from rfl)]) ?_
  refine WC.skip ?_
  refine WC.reg (own := []) (by simp [f75.r11, runO, w64_1, w64_2, (show Fw.bytesEq [98, 111, 111, 108] [98, 111, 111, 108] = true from rfl)]; rfl) ?_
  refine LoopQ.step ?_
  show WC P (gl W) (.seq (.seq (.region f75.r5) (.cond (.t 29) .skip (.exit 0))) (.seq (.block 1 (.seq (.region f75.r6) (.seq (.seq (.region f75.r7) (.cond (.t 36) (.region f75.r8) .skip)) (.seq (.region f75.r9) (.cond (.t 43) (.seq (.region f75.r10) .ret) .skip))))) (.region f75.r11))) _ _
  refine WC.seq ?_
  refine WC.seq ?_
  refine WC.reg (own := []) (by simp [f75.r5, runO, w64_1, w64_2, (show Fw.bytesEq [98, 111, 111, 108] [98, 111, 111, 108] = true from rfl)]; rfl) ?_
  refine WC.cond (t := true) (by simp [evo, get_cons, w64_1, w64_2, (show Fw.bytesEq [98, 111, 111, 108] [98, 111, 111, 108] = true from rfl)]) ?_
  refine WC.skip ?_
  refine WC.seq ?_
  refine WC.blockQ ?_
  refine WC.seq ?_
  refine WC.reg (own := []) (by simp [f75.r6, runO, w64_1, w64_2, (show Fw.bytesEq [98, 111, 111, 108] [98, 111, 111, 108] = true from rfl)]; rfl) ?_
  refine WC.seq ?_
  refine WC.seq ?_
  refine WC.reg (own := []) (by simp [f75.r7, runO, w64_1, w64_2, (show Fw.bytesEq [98, 111, 111, 108] [98, 111, 111, 108] = true from rfl)]; rfl) ?_
  refine WC.cond (t := true) (by simp [evo, get_cons, w64_1, w64_2, (show Fw.bytesEq [98, 111, 111, 108] [98, 111, 111, 108] = true from rfl)]) ?_
  refine WC.reg (own := []) (by simp [f75.r8, runO, w64_1, w64_2, (show Fw.bytesEq [98, 111, 111, 108] [98, 111, 111, 108] = true from rfl)]; rfl) ?_
  refine WC.seq ?_
  refine WC.region ?_
  refine WO.preN 5 (own := []) noC_ok (by simp [f75.r9, runO, w64_1, w64_2, (show Fw.bytesEq [98, 111, 111, 108] [98, 111, 111, 108] = true from rfl)]; rfl) ?_
  refine WO.callPC rfl rfl (pc119b hy) (by simp [get_cons, put_cons, put_nil, stput_some]; rfl) ?_
  refine runO_ok (own := []) noC_ok (by simp [runO, w64_1, w64_2, (show Fw.bytesEq [98, 111, 111, 108] [98, 111, 111, 108] = true from rfl)]; rfl) ?_
  refine WC.cond (t := false) (by simp [evo, get_cons, w64_1, w64_2, (show Fw.bytesEq [98, 111, 111, 108] [98, 111, 111, 108] = true from rfl)]) ?_
  refine WC.skip ?_
  refine WC.reg (own := []) (by simp [f75.r11, runO, w64_1, w64_2, (show Fw.bytesEq [98, 111, 111, 108] [98, 111, 111, 108] = true from rfl)]; rfl) ?_
  refine LoopQ.step ?_
  show WC P (gl W) (.seq (.seq (.region f75.r5) (.cond (.t 29) .skip (.exit 0))) (.seq (.block 1 (.seq (.region f75.r6) (.seq (.seq (.region f75.r7) (.cond (.t 36) (.region f75.r8) .skip)) (.seq (.region f75.r9) (.cond (.t 43) (.seq (.region f75.r10) .ret) .skip))))) (.region f75.r11))) _ _
  refine WC.seq ?_
  refine WC.seq ?_
  refine WC.reg (own := []) (by simp [f75.r5, runO, w64_1, w64_2, (show Fw.bytesEq [98, 111, 111, 108] [98, 111, 111, 108] = true from rfl)]; rfl) ?_
  refine WC.cond (t := false) (by simp [evo, get_cons, w64_1, w64_2, (show Fw.bytesEq [98, 111, 111, 108] [98, 111, 111, 108] = true from rfl)]) ?_
  refine WC.exit ?_
  refine BlockQ.exit ?_
  exact WC.runRX hW (ex121xor_ok W) (own := []) (kt := kt121) (v := .tuple [.d (.int .i64 (gxor x y)), .d (.bool true)]) (H' := List.replicate 10 none) (by decide) (by rfl) (by kernel_rfl) rfl
def gand (a b : Int) : Int := (w64 (a * b))
theorem k118and (W : World) : pcT W 40 118 [.d (.str [97, 110, 100])] = some (.tuple [.d (.list [[.str [98, 111, 111, 108]], [.str [98, 111, 111, 108]]]), .d (.str [98, 111, 111, 108]), .d (.bool true)]) := by kernel_rfl
def ex121and : Extra := .n .e 121 (tab2 [97, 110, 100] gand) .e
theorem ex121and_ok (W : World) : ExOk P (gl W) ex121and := ⟨trivial, tab2_ok (fun a b => pc121and a b), trivial⟩
theorem pc75and (hW : W0 W) {x y : Int} (hx : x = 0 ∨ x = 1) (hy : y = 0 ∨ y = 1) : PC P (gl W) 75 [.d (.str [97, 110, 100]), .d (.list [[(.int .i64 x)], [(.int .i64 y)]])] (.tuple [.d (.int .i64 (gand x y)), .d (.bool true)]) := by
  refine PC.body is75 ca75 (by simp [f75]) rfl ?_
  show WC P (gl W) (.seq (.region f75.r0) (.seq (.region f75.r1) (.seq (.seq (.region f75.r2) (.cond (.t 25) (.seq (.region f75.r3) .ret) .skip)) (.seq (.seq (.region f75.r4) (.block 0 (.loop f75.l12))) (.seq (.seq (.region f75.r13) (.block 2 (.seq (.region f75.r14) (.cond (.t 46) (.seq (.region f75.r15) .ret) (.seq (.region f75.r16) (.cond (.t 53) (.seq (.draw f75.r17) .ret) .skip)))))) (.seq (.seq (.region f75.r18) (.cond (.t 66) (.seq (.region f75.r19) .ret) .skip)) (.seq (.region f75.r20) .ret))))))) ⟨73, [(0, .d (.str [97, 110, 100])), (1, .d (.list [[(.int .i64 x)], [(.int .i64 y)]]))], []⟩ _
  refine WC.seq ?_
  refine WC.reg (own := []) (by simp [f75.r0, runO, w64_1, w64_2, (show Fw.bytesEq [98, 111, 111, 108] [98, 111, 111, 108] = true from rfl)]; rfl) ?_
  refine WC.seq ?_
  refine WC.region ?_
  refine WO.preN 1 (own := []) noC_ok (by simp [f75.r1, runO, w64_1, w64_2, (show Fw.bytesEq [98, 111, 111, 108] [98, 111, 111, 108] = true from rfl)]; rfl) ?_
  refine WO.callPC rfl rfl (pcT_ok hW 40 _ _ _ (k118and W)) (by simp [get_cons, put_cons, put_nil, stput_some]; rfl) ?_
  refine runO_ok (own := []) noC_ok (by simp [runO, w64_1, w64_2, (show Fw.bytesEq [98, 111, 111, 108] [98, 111, 111, 108] = true from rfl)]; rfl) ?_
  refine WC.seq ?_
  refine WC.seq ?_
  refine WC.reg (own := []) (by simp [f75.r2, runO, w64_1, w64_2, (show Fw.bytesEq [98, 111, 111, 108] [98, 111, 111, 108] = true from rfl)]; rfl) ?_
  refine WC.cond (t := false) (by simp [evo, get_cons, w64_1, w64_2, (show Fw.bytesEq [98, 111, 111, 108] [98, 111, 111, 108] = true from rfl)]) ?_
  refine WC.skip ?_
  refine WC.seq ?_
  refine WC.seq ?_
  refine WC.reg (own := []) (by simp [f75.r4, runO, w64_1, w64_2, (show Fw.bytesEq [98, 111, 111, 108] [98, 111, 111, 108] = true from rfl)]; rfl) ?_
  refine WC.blockQ ?_
  refine LoopQ.wc (n := 3) ?_
  refine LoopQ.step ?_
  show WC P (gl W) (.seq (.seq (.region f75.r5) (.cond (.t 29) .skip (.exit 0))) (.seq (.block 1 (.seq (.region f75.r6) (.seq (.seq (.region f75.r7) (.cond (.t 36) (.region f75.r8) .skip)) (.seq (.region f75.r9) (.cond (.t 43) (.seq (.region f75.r10) .ret) .skip))))) (.region f75.r11))) _ _
  refine WC.seq ?_
  refine WC.seq ?_
  refine WC.reg (own := []) (by simp [f75.r5, runO, w64_1, w64_2, (show Fw.bytesEq [98, 111, 111, 108] [98, 111, 111, 108] = true from rfl)]; rfl) ?_
  refine WC.cond (t := true) (by simp [evo, get_cons, w64_1, w64_2, (show Fw.bytesEq [98, 111, 111, 108] [98, 111, 111, 108] = true from rfl)]) ?_
  refine WC.skip ?_
  refine WC.seq ?_
  refine WC.blockQ ?_
  refine WC.seq ?_
  refine WC.reg (own := []) (by simp [f75.r6, runO, w64_1, w64_2, (show Fw.bytesEq [98, 111, 111, 108] [98, 111, 111, 108] = true from rfl)]; rfl) ?_
  refine WC.seq ?_
  refine WC.seq ?_
  refine WC.reg (own := []) (by simp [f75.r7, runO, w64_1, w64_2, (show Fw.bytesEq [98, 111, 111, 108] [98, 111, 111, 108] = true from rfl)]; rfl) ?_
  refine WC.cond (t := true) (by simp [evo, get_cons, w64_1, w64_2, (show Fw.bytesEq [98, 111, 111, 108] [98, 111, 111, 108] = true from rfl)]) ?_
  refine WC.reg (own := []) (by simp [f75.r8, runO, w64_1, w64_2, (show Fw.bytesEq [98, 111, 111, 108] [98, 111, 111, 108] = true from rfl)]; rfl) ?_
  refine WC.seq ?_
  refine WC.region ?_
  refine WO.preN 5 (own := []) noC_ok (by simp [f75.r9, runO, w64_1, w64_2, (show Fw.bytesEq [98, 111, 111, 108] [98, 111, 111, 108] = true from rfl)]; rfl) ?_
  refine WO.callPC rfl rfl (pc119b hx) (by simp [get_cons, put_cons, put_nil, stput_some]; rfl) ?_
  refine runO_ok (own := []) noC_ok (by simp [runO, w64_1, w64_2, (show Fw.bytesEq [98, 111, 111, 108] [98, 111, 111, 108] = true from rfl)]; rfl) ?_
  refine WC.cond (t := false) (by simp [evo, get_cons, w64_1, w64_2, (show Fw.bytesEq [98, 111, 111, 108] [98, 111, 111, 108] = true from rfl)]) ?_
  refine WC.skip ?_
  refine WC.reg (own := []) (by simp [f75.r11, runO, w64_1, w64_2, (show Fw.bytesEq [98, 111, 111, 108] [98, 111, 111, 108] = true from rfl)]; rfl) ?_
  refine LoopQ.step ?_
  show WC P (gl W) (.seq (.seq (.region f75.r5) (.cond (.t 29) .skip (.exit 0))) (.seq (.block 1 (.seq (.region f75.r6) (.seq (.seq (.region f75.r7) (.cond (.t 36) (.region f75.r8) .skip)) (.seq (.region f75.r9) (.cond (.t 43) (.seq (.region f75.r10) .ret) .skip))))) (.region f75.r11))) _ _
  refine WC.seq ?_
  refine WC.seq ?_
  refine WC.reg (own := []) (by simp [f75.r5, runO, w64_1, w64_2, (show Fw.bytesEq [98, 111, 111, 108] [98, 111, 111, 108] = true from rfl)]; rfl) ?_
  refine WC.cond (t := true) (by simp [evo, get_cons, w64_1, w64_2, (show Fw.bytesEq [98, 111, 111, 108] [98, 111, 111, 108] = true from rfl)]) ?_
  refine WC.skip ?_
  refine WC.seq ?_
  refine WC.blockQ ?_
  refine WC.seq ?_
  refine WC.reg (own := []) (by simp [f75.r6, runO, w64_1, w64_2, (show Fw.bytesEq [98, 111, 111, 108] [98, 111, 111, 108] = true from rfl)]; rfl) ?_
  refine WC.seq ?_
  refine WC.seq ?_
  refine WC.reg (own := []) (by simp [f75.r7, runO, w64_1, w64_2, (show Fw.bytesEq [98, 111, 111, 108] [98, 111, 111, 108] = true from rfl)]; rfl) ?_
  refine WC.cond (t := true) (by simp [evo, get_cons, w64_1, w64_2, (show Fw.bytesEq [98, 111, 111, 108] [98, 111, 111, 108] = true from rfl)]) ?_
  refine WC.reg (own := []) (by simp [f75.r8, runO, w64_1, w64_2, (show Fw.bytesEq [98, 111, 111, 108] [98, 111, 111, 108] = true from rfl)]; rfl) ?_
  refine WC.seq ?_
  refine WC.region ?_
  refine WO.preN 5 (own := []) noC_ok (by simp [f75.r9, runO, w64_1, w64_2, (show Fw.bytesEq [98, 111, 111, 108] [98, 111, 111, 108] = true from rfl)]; rfl) ?_
  refine WO.callPC rfl rfl (pc119b hy) (by simp [get_cons, put_cons, put_nil, stput_some]; rfl) ?_
  refine runO_ok (own := []) noC_ok (by simp [runO, w64_1, w64_2, (show Fw.bytesEq [98, 111, 111, 108] [98, 111, 111, 108] = true from rfl)]; rfl) ?_
  refine WC.cond (t := false) (by simp [evo, get_cons, w64_1, w64_2, (show Fw.bytesEq [98, 111, 111, 108] [98, 111, 111, 108] = true from rfl)]) ?_
  refine WC.skip ?_
  refine WC.reg (own := []) (by simp [f75.r11, runO, w64_1, w64_2, (show Fw.bytesEq [98, 111, 111, 108] [98, 111, 111, 108] = true from rfl)]; rfl) ?_
  refine LoopQ.step ?_
  show WC P (gl W) (.seq (.seq (.region f75.r5) (.cond (.t 29) .skip (.exit 0))) (.seq (.block 1 (.seq (.region f75.r6) (.seq (.seq (.region f75.r7) (.cond (.t 36) (.region f75.r8) .skip)) (.seq (.region f75.r9) (.cond (.t 43) (.seq (.region f75.r10) .ret) .skip))))) (.region f75.r11))) _ _
  refine WC.seq ?_
  refine WC.seq ?_
  refine WC.reg (own := []) (by simp [f75.r5, runO, w64_1, w64_2, (show Fw.bytesEq [98, 111, 111, 108] [98, 111, 111, 108] = true from rfl)]; rfl) ?_
  refine WC.cond (t := false) (by simp [evo, get_cons, w64_1, w64_2, (show Fw.bytesEq [98, 111, 111, 108] [98, 111, 111, 108] = true from rfl)]) ?_
  refine WC.exit ?_
  refine BlockQ.exit ?_
  exact WC.runRX hW (ex121and_ok W) (own := []) (kt := kt121) (v := .tuple [.d (.int .i64 (gand x y)), .d (.bool true)]) (H' := List.replicate 10 none) (by decide) (by rfl) (by kernel_rfl) rfl
def gor (a b : Int) : Int := (if a < b then b else a)
theorem k118or (W : World) : pcT W 40 118 [.d (.str [111, 114])] = some (.tuple [.d (.list [[.str [98, 111, 111, 108]], [.str [98, 111, 111, 108]]]), .d (.str [98, 111, 111, 108]), .d (.bool true)]) := by kernel_rfl
def ex121or : Extra := .n .e 121 (tab2 [111, 114] gor) .e
theorem ex121or_ok (W : World) : ExOk P (gl W) ex121or := ⟨trivial, tab2_ok (fun a b => pc121or a b), trivial⟩
theorem pc75or (hW : W0 W) {x y : Int} (hx : x = 0 ∨ x = 1) (hy : y = 0 ∨ y = 1) : PC P (gl W) 75 [.d (.str [111, 114]), .d (.list [[(.int .i64 x)], [(.int .i64 y)]])] (.tuple [.d (.int .i64 (gor x y)), .d (.bool true)]) := by
  refine PC.body is75 ca75 (by simp [f75]) rfl ?_
  show WC P (gl W) (.seq (.region f75.r0) (.seq (.region f75.r1) (.seq (.seq (.region f75.r2) (.cond (.t 25) (.seq (.region f75.r3) .ret) .skip)) (.seq (.seq (.region f75.r4) (.block 0 (.loop f75.l12))) (.seq (.seq (.region f75.r13) (.block 2 (.seq (.region f75.r14) (.cond (.t 46) (.seq (.region f75.r15) .ret) (.seq (.region f75.r16) (.cond (.t 53) (.seq (.draw f75.r17) .ret) .skip)))))) (.seq (.seq (.region f75.r18) (.cond (.t 66) (.seq (.region f75.r19) .ret) .skip)) (.seq (.region f75.r20) .ret))))))) ⟨73, [(0, .d (.str [111, 114])), (1, .d (.list [[(.int .i64 x)], [(.int .i64 y)]]))], []⟩ _
  refine WC.seq ?_
  refine WC.reg (own := []) (by simp [f75.r0, runO, w64_1, w64_2, (show Fw.bytesEq [98, 111, 111, 108] [98, 111, 111, 108] = true from rfl)]; rfl) ?_
  refine WC.seq ?_
  refine WC.region ?_
  refine WO.preN 1 (own := []) noC_ok (by simp [f75.r1, runO, w64_1, w64_2, (show Fw.bytesEq [98, 111, 111, 108] [98, 111, 111, 108] = true from rfl)]; rfl) ?_
  refine WO.callPC rfl rfl (pcT_ok hW 40 _ _ _ (k118or W)) (by simp [get_cons, put_cons, put_nil, stput_some]; rfl) ?_
  refine runO_ok (own := []) noC_ok (by simp [runO, w64_1, w64_2, (show Fw.bytesEq [98, 111, 111, 108] [98, 111, 111, 108] = true from rfl)]; rfl) ?_
  refine WC.seq ?_
  refine WC.seq ?_
  refine WC.reg (own := []) (by simp [f75.r2, runO, w64_1, w64_2, (show Fw.bytesEq [98, 111, 111, 108] [98, 111, 111, 108] = true from rfl)]; rfl) ?_
  refine WC.cond (t := false) (by simp [evo, get_cons, w64_1, w64_2, (show Fw.bytesEq [98, 111, 111, 108] [98, 111, 111, 108] = true from rfl)]) ?_
  refine WC.skip ?_
  refine WC.seq ?_
  refine WC.seq ?_
  refine WC.reg (own := []) (by simp [f75.r4, runO, w64_1, w64_2, (show Fw.bytesEq [98, 111, 111, 108] [98, 111, 111, 108] = true from rfl)]; rfl) ?_
  refine WC.blockQ ?_
  refine LoopQ.wc (n := 3) ?_
  refine LoopQ.step ?_
  show WC P (gl W) (.seq (.seq (.region f75.r5) (.cond (.t 29) .skip (.exit 0))) (.seq (.block 1 (.seq (.region f75.r6) (.seq (.seq (.region f75.r7) (.cond (.t 36) (.region f75.r8) .skip)) (.seq (.region f75.r9) (.cond (.t 43) (.seq (.region f75.r10) .ret) .skip))))) (.region f75.r11))) _ _
  refine WC.seq ?_
  refine WC.seq ?_
  refine WC.reg (own := []) (by simp [f75.r5, runO, w64_1, w64_2, (show Fw.bytesEq [98, 111, 111, 108] [98, 111, 111, 108] = true from rfl)]; rfl) ?_
  refine WC.cond (t := true) (by simp [evo, get_cons, w64_1, w64_2, (show Fw.bytesEq [98, 111, 111, 108] [98, 111, 111, 108] = true from rfl)]) ?_
  refine WC.skip ?_
  refine WC.seq ?_
  refine WC.blockQ ?_
  refine WC.seq ?_
  refine WC.reg (own := []) (by simp [f75.r6, runO, w64_1, w64_2, (show Fw.bytesEq [98, 111, 111, 108] [98, 111, 111, 108] = true from rfl)]; rfl) ?_
  refine WC.seq ?_
  refine WC.seq ?_
  refine WC.reg (own := []) (by simp [f75.r7, runO, w64_1, w64_2, (show Fw.bytesEq [98, 111, 111, 108] [98, 111, 111, 108] = true from rfl)]; rfl) ?_
  refine WC.cond (t := true) (by simp [evo, get_cons, w64_1, w64_2, (show Fw.bytesEq [98, 111, 111, 108] [98, 111, 111, 108] = true from rfl)]) ?_
  refine WC.reg (own := []) (by simp [f75.r8, runO, w64_1, w64_2, (show Fw.bytesEq [98, 111, 111, 108] [98, 111, 111, 108] = true from rfl)]; rfl) ?_
  refine WC.seq ?_
  refine WC.region ?_
  refine WO.preN 5 (own := []) noC_ok (by simp [f75.r9, runO, w64_1, w64_2, (show Fw.bytesEq [98, 111, 111, 108] [98, 111, 111, 108] = true from rfl)]; rfl) ?_
  refine WO.callPC rfl rfl (pc119b hx) (by simp [get_cons, put_cons, put_nil, stput_some]; rfl) ?_
  refine runO_ok (own := []) noC_ok (by simp [runO, w64_1, w64_2, (show Fw.bytesEq [98, 111, 111, 108] [98, 111, 111, 108] = true from rfl)]; rfl) ?_
  refine WC.cond (t := false) (by simp [evo, get_cons, w64_1, w64_2, (show Fw.bytesEq [98, 111, 111, 108] [98, 111, 111, 108] = true from rfl)]) ?_
  refine WC.skip ?_
  refine WC.reg (own := []) (by simp [f75.r11, runO, w64_1, w64_2, (show Fw.bytesEq [98, 111, 111, 108] [98, 111, 111, 108] = true from rfl)]; rfl) ?_
  refine LoopQ.step ?_
  show WC P (gl W) (.seq (.seq (.region f75.r5) (.cond (.t 29) .skip (.exit 0))) (.seq (.block 1 (.seq (.region f75.r6) (.seq (.seq (.region f75.r7) (.cond (.t 36) (.region f75.r8) .skip)) (.seq (.region f75.r9) (.cond (.t 43) (.seq (.region f75.r10) .ret) .skip))))) (.region f75.r11))) _ _
  refine WC.seq ?_
  refine WC.seq ?_
  refine WC.reg (own := []) (by simp [f75.r5, runO, w64_1, w64_2, (show Fw.bytesEq [98, 111, 111, 108] [98, 111, 111, 108] = true from rfl)]; rfl) ?_
  refine WC.cond (t := true) (by simp [evo, get_cons, w64_1, w64_2, (show Fw.bytesEq [98, 111, 111, 108] [98, 111, 111, 108] = true from rfl)]) ?_
  refine WC.skip ?_
  refine WC.seq ?_
  refine WC.blockQ ?_
  refine WC.seq ?_
  refine WC.reg (own := []) (by simp [f75.r6, runO, w64_1, w64_2, (show Fw.bytesEq [98, 111, 111, 108] [98, 111, 111, 108] = true from rfl)]; rfl) ?_
  refine WC.seq ?_
  refine WC.seq ?_
  refine WC.reg (own := []) (by simp [f75.r7, runO, w64_1, w64_2, (show Fw.bytesEq [98, 111, 111, 108] [98, 111, 111, 108] = true from rfl)]; rfl) ?_
  refine WC.cond (t := true) (by simp [evo, get_cons, w64_1, w64_2, (show Fw.bytesEq [98, 111, 111, 108] [98, 111, 111, 108] = true from rfl)]) ?_
  refine WC.reg (own := []) (by simp [f75.r8, runO, w64_1, w64_2, (show Fw.bytesEq [98, 111, 111, 108] [98, 111, 111, 108] = true from rfl)]; rfl) ?_
  refine WC.seq ?_
  refine WC.region ?_
  refine WO.preN 5 (own := []) noC_ok (by simp [f75.r9, runO, w64_1, w64_2, (show Fw.bytesEq [98, 111, 111, 108] [98, 111, 111, 108] = true from rfl)]; rfl) ?_
  refine WO.callPC rfl rfl (pc119b hy) (by simp [get_cons, put_cons, put_nil, stput_some]; rfl) ?_
  refine runO_ok (own := []) noC_ok (by simp [runO, w64_1, w64_2, (show Fw.bytesEq [98, 111, 111, 108] [98, 111, 111, 108] = true from rfl)]; rfl) ?_
  refine WC.cond (t := false) (by simp [evo, get_cons, w64_1, w64_2, (show Fw.bytesEq [98, 111, 111, 108] [98, 111, 111, 108] = true from rfl)]) ?_
  refine WC.skip ?_
  refine WC.reg (own := []) (by simp [f75.r11, runO, w64_1, w64_2, (show Fw.bytesEq [98, 111, 111, 108] [98, 111, 111, 108] = true from rfl)]; rfl) ?_
  refine LoopQ.step ?_
  show WC P (gl W) (.seq (.seq (.region f75.r5) (.cond (.t 29) .skip (.exit 0))) (.seq (.block 1 (.seq (.region f75.r6) (.seq (.seq (.region f75.r7) (.cond (.t 36) (.region f75.r8) .skip)) (.seq (.region f75.r9) (.cond (.t 43) (.seq (.region f75.r10) .ret) .skip))))) (.region f75.r11))) _ _
  refine WC.seq ?_
  refine WC.seq ?_
  refine WC.reg (own := []) (by simp [f75.r5, runO, w64_1, w64_2, (show Fw.bytesEq [98, 111, 111, 108] [98, 111, 111, 108] = true from rfl)]; rfl) ?_
  refine WC.cond (t := false) (by simp [evo, get_cons, w64_1, w64_2, (show Fw.bytesEq [98, 111, 111, 108] [98, 111, 111, 108] = true from rfl)]) ?_
  refine WC.exit ?_
  refine BlockQ.exit ?_
  exact WC.runRX hW (ex121or_ok W) (own := []) (kt := kt121) (v := .tuple [.d (.int .i64 (gor x y)), .d (.bool true)]) (H' := List.replicate 10 none) (by decide) (by rfl) (by kernel_rfl) rfl
end Fw.Tz
