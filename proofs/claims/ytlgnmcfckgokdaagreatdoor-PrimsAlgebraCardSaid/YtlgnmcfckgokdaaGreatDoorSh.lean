/-
  PrimsAlgebra: the call returns true.
-/
import Derived.Test.YtlgnmcfckgokdaaGreatDoorSg
import Derived.Test.YtlgnmcfckgokdaaGreatDoorTd

set_option maxRecDepth 1000000
set_option maxHeartbeats 4000000
namespace Fw.Tz.A10
open Go Go.Proofs Fw.X Fw.Tz
variable {W : World}
def kt : FT Nat := (.n (.n (.n (.n (.n (.n .e 11 0 .e) 15 0 .e) 19 0 (.n .e 23 0 .e)) 47 0 (.n (.n (.n .e 48 0 .e) 53 0 .e) 54 0 (.n .e 58 0 .e))) 61 0 (.n (.n (.n (.n .e 64 0 .e) 67 0 .e) 79 0 (.n .e 81 0 .e)) 86 0 (.n (.n (.n .e 87 0 .e) 96 0 .e) 97 0 (.n .e 100 0 .e)))) 102 0 (.n (.n (.n (.n (.n .e 106 0 .e) 122 0 .e) 123 0 (.n .e 125 0 .e)) 129 0 (.n (.n (.n .e 131 0 .e) 135 0 .e) 138 0 (.n .e 156 0 .e))) 165 0 (.n (.n (.n (.n .e 175 0 .e) 181 0 .e) 182 0 (.n .e 193 0 .e)) 202 0 (.n (.n .e 204 0 .e) 206 0 (.n .e 224 0 .e)))))
def ex : Extra := .n .e 11 (tab0 (.d (.bool true))) .e
theorem exOk (hW : W0 W) : ExOk P (gl W) ex := ⟨trivial, tab0_ok (awake hW), trivial⟩
noncomputable def rk (W : World) (n : Nat) (c : IR) (ks : List Nat) (tm : List (Nat × V)) (H : Heap) : Option XR :=
  runP [] (gl W) (callX W kt ex (rawX W kt ex 40)) (pcallX kt ex (rawX W kt ex 40)) n c ks tm H
noncomputable def ro (W : World) (n : Nat) (l : List IOper) (ks : List Nat) (tm : List (Nat × V)) (H : Heap) : Option XR :=
  runQ1 [] (gl W) (callX W kt ex (rawX W kt ex 40)) (pcallX kt ex (rawX W kt ex 40)) n l ks tm H
theorem sn (hW : W0 W) (k : Nat) {n : Nat} {c : IR} {tm tm' : List (Nat × V)} {H H' : Heap} {Q : Ex → St → Prop}
    (h : rk W n (cTake k c) (tm'.map Prod.fst) tm H = some (.tuple (tm'.map Prod.snd), H')) (hq : WC P (gl W) (cDrop k c) ⟨n, tm', H'⟩ Q) : WC P (gl W) c ⟨n, tm, H⟩ Q :=
  WC.runN orders (callX_ok hW (exOk hW) _ (rawX_ok hW (exOk hW) 40)) (pcallX_ok hW (exOk hW) _ (rawX_ok hW (exOk hW) 40)) k h hq
theorem so (hW : W0 W) (k : Nat) {n : Nat} {l : List IOper} {tm tm' : List (Nat × V)} {H H' : Heap} {Q : St → Prop}
    (h : ro W n (l.take k) (tm'.map Prod.fst) tm H = some (.tuple (tm'.map Prod.snd), H')) (hq : WO P (gl W) (l.drop k) ⟨n, tm', H'⟩ Q) : WO P (gl W) l ⟨n, tm, H⟩ Q :=
  WO.runP (callX_ok hW (exOk hW) _ (rawX_ok hW (exOk hW) 40)) k h hq
theorem at34 (a : Nat) (h : a < 256) : Int.tmod (IntKind.wrap IntKind.i64 (.ofNat a)) 34 = .ofNat (a % 34) := by
  have e : IntKind.wrap IntKind.i64 (.ofNat a) = (a : Int) := by rw [IntKind.wrap_i64]; simp only [Int.ofNat_eq_natCast]; omega
  rw [e, Int.tmod_eq_emod_of_nonneg (by omega)]; rfl
theorem law10 (hW : W0 W) (a : Nat) (ha : a < 256) (x y z : Int) : PC P (gl W) 10 [.d (.int .u8 (.ofNat a)), .agg [.d (.int .i64 x), .d (.int .i64 y), .d (.int .i64 z)]] (.d (.bool true)) := by
  refine PC.bodyQ is10 ca10 rfl ?_
  show WC P (gl W) (.seq (.region f10.r0) (.seq (.seq (.region f10.r1) (.cond (.t 21) (.seq (.region f10.r2) .ret) .skip)) (.seq (.region f10.r3) (.seq (.region f10.r4) (.seq (.draw f10.r5) (.seq (.seq (.region f10.r6) (.seq (.region f10.r7) (.cond (.t 51) (.seq (.region f10.r8) (.seq (.region f10.r9) (.seq (.region f10.r10) .ret))) .skip))) (.seq (.seq (.region f10.r11) (.cond (.t 97) (.seq (.region f10.r12) .ret) .skip)) (.seq (.seq (.region f10.r13) (.cond (.t 120) (.seq (.region f10.r14) .ret) .skip)) (.seq (.seq (.region f10.r15) (.cond (.t 133) (.seq (.region f10.r16) .ret) .skip)) (.seq (.seq (.region f10.r17) (.seq (.region f10.r18) (.cond (.t 161) (.seq (.region f10.r19) .ret) .skip))) (.seq (.region f10.r20) (.seq (.region f10.r21) .ret)))))))))))) ⟨187, [(0, .d (.int .u8 (.ofNat a))), (1, .agg [.d (.int .i64 x), .d (.int .i64 y), .d (.int .i64 z)])], []⟩ _
  refine sn hW 1 (tm' := [(0, (.d (.int .u8 (.ofNat a)))), (3, (.ptr 0 3 0)), (4, (.d (.bool false)))]) (H' := [some (.cells [(.d (.int .i64 x)), (.d (.int .i64 y)), (.d (.int .i64 z))])]) (by kernel_rfl) ?_
  refine WC.seq ?_
  refine sn hW 1 (tm' := [(0, (.d (.int .u8 (.ofNat a)))), (3, (.ptr 0 3 0)), (4, (.d (.bool false))), (21, (.d (.bool false)))]) (H' := [some (.cells [(.d (.int .i64 x)), (.d (.int .i64 y)), (.d (.int .i64 z))])]) (by kernel_rfl) ?_
  refine WC.cond (t := false) (by kernel_rfl) ?_
  refine WC.skip ?_
  refine sn hW 1 (tm' := [(0, (.d (.int .u8 (.ofNat a)))), (3, (.ptr 0 3 0)), (4, (.d (.bool false))), (5, (.d (.list [[(.str [97, 98, 115])], [(.str [97, 100, 100])], [(.str [97, 110, 100])], [(.str [97, 112, 112, 101, 110, 100])], [(.str [99, 104, 117, 110, 107])], [(.str [100, 105, 97, 103, 111, 110, 97, 108])], [(.str [100, 105, 118])], [(.str [100, 114, 111, 112])], [(.str [101, 113])], [(.str [102, 105, 108, 108])], [(.str [103, 101])], [(.str [103, 116])], [(.str [105, 110, 100, 101, 120])], [(.str [105, 111, 116, 97])], [(.str [108, 101])], [(.str [108, 116])], [(.str [109, 97, 120])], [(.str [109, 105, 110])], [(.str [109, 111, 100])], [(.str [109, 117, 108])], [(.str [110, 101])], [(.str [110, 101, 103])], [(.str [110, 111, 116])], [(.str [111, 114])], [(.str [114, 101, 118, 101, 114, 115, 101])], [(.str [115, 101, 108, 101, 99, 116])], [(.str [115, 105, 103, 110])], [(.str [115, 117, 98])], [(.str [116, 97, 107, 101])], [(.str [116, 111, 105, 110, 116])], [(.str [116, 114, 97, 110, 115, 112, 111, 115, 101])], [(.str [117, 112, 100, 97, 116, 101])], [(.str [119, 105, 110, 100, 111, 119, 115])], [(.str [120, 111, 114])]])))]) (H' := [some (.cells [(.d (.int .i64 x)), (.d (.int .i64 y)), (.d (.int .i64 z))])]) (by kernel_rfl) ?_
  refine WC.seq ?_
  refine WC.region ?_
  refine so hW 6 (tm' := [(3, (.ptr 0 3 0)), (4, (.d (.bool false))), (23, (.d (.list [[(.str [97, 98, 115])], [(.str [97, 100, 100])], [(.str [97, 110, 100])], [(.str [97, 112, 112, 101, 110, 100])], [(.str [99, 104, 117, 110, 107])], [(.str [100, 105, 97, 103, 111, 110, 97, 108])], [(.str [100, 105, 118])], [(.str [100, 114, 111, 112])], [(.str [101, 113])], [(.str [102, 105, 108, 108])], [(.str [103, 101])], [(.str [103, 116])], [(.str [105, 110, 100, 101, 120])], [(.str [105, 111, 116, 97])], [(.str [108, 101])], [(.str [108, 116])], [(.str [109, 97, 120])], [(.str [109, 105, 110])], [(.str [109, 111, 100])], [(.str [109, 117, 108])], [(.str [110, 101])], [(.str [110, 101, 103])], [(.str [110, 111, 116])], [(.str [111, 114])], [(.str [114, 101, 118, 101, 114, 115, 101])], [(.str [115, 101, 108, 101, 99, 116])], [(.str [115, 105, 103, 110])], [(.str [115, 117, 98])], [(.str [116, 97, 107, 101])], [(.str [116, 111, 105, 110, 116])], [(.str [116, 114, 97, 110, 115, 112, 111, 115, 101])], [(.str [117, 112, 100, 97, 116, 101])], [(.str [119, 105, 110, 100, 111, 119, 115])], [(.str [120, 111, 114])]]))), (28, (.d (.int .i64 (Int.tmod (IntKind.wrap IntKind.i64 (Int.ofNat a)) 34))))]) (H' := [some (.cells [(.d (.int .i64 x)), (.d (.int .i64 y)), (.d (.int .i64 z))])]) (by kernel_rfl) ?_
  rw [at34 a ha]
  have hi : a % 34 < 34 := Nat.mod_lt _ (by omega)
  generalize a % 34 = i at hi
  have hc : i = 0 ∨ i = 1 ∨ i = 2 ∨ i = 3 ∨ i = 4 ∨ i = 5 ∨ i = 6 ∨ i = 7 ∨ i = 8 ∨ i = 9 ∨ i = 10 ∨ i = 11 ∨ i = 12 ∨ i = 13 ∨ i = 14 ∨ i = 15 ∨ i = 16 ∨ i = 17 ∨ i = 18 ∨ i = 19 ∨ i = 20 ∨ i = 21 ∨ i = 22 ∨ i = 23 ∨ i = 24 ∨ i = 25 ∨ i = 26 ∨ i = 27 ∨ i = 28 ∨ i = 29 ∨ i = 30 ∨ i = 31 ∨ i = 32 ∨ i = 33 := by omega
  rcases hc with rfl | rfl | rfl | rfl | rfl | rfl | rfl | rfl | rfl | rfl | rfl | rfl | rfl | rfl | rfl | rfl | rfl | rfl | rfl | rfl | rfl | rfl | rfl | rfl | rfl | rfl | rfl | rfl | rfl | rfl | rfl | rfl | rfl | rfl
  · refine so hW 3 (tm' := [(3, (.ptr 0 3 0)), (4, (.d (.bool false))), (6, (.d (.str [97, 98, 115])))]) (H' := [some (.cells [(.d (.int .i64 x)), (.d (.int .i64 y)), (.d (.int .i64 z))])]) (by kernel_rfl) ?_
    refine WO.nil ?_
    refine sn hW 1 (tm' := [(4, (.d (.bool false))), (6, (.d (.str [97, 98, 115]))), (7, (.d (.int .i64 x))), (8, (.d (.int .i64 y))), (9, (.d (.int .i64 z)))]) (H' := [some (.cells [(.d (.int .i64 x)), (.d (.int .i64 y)), (.d (.int .i64 z))]), none, none, none, none, none, none, none, none, none]) (by kernel_rfl) ?_
    refine WC.seq ?_
    refine sn hW 2 (tm' := [(4, (.d (.bool false))), (6, (.d (.str [97, 98, 115]))), (7, (.d (.int .i64 x))), (8, (.d (.int .i64 y))), (9, (.d (.int .i64 z))), (51, (.d (.bool true)))]) (H' := [some (.cells [(.d (.int .i64 x)), (.d (.int .i64 y)), (.d (.int .i64 z))]), none, none, none, none, none, none, none, none, none, some (.cells [(.d (.str [97, 98, 115])), (.d (.bool true)), (.d (.bool false)), (.d (.bool false)), (.d (.list [])), (.d (.list [[(.str [105, 110, 116]), (.str []), (.list [])]])), (.d (.str [105, 110, 116])), (.d (.str [])), (.d (.list [])), (.d (.list []))])]) (by kernel_rfl) ?_
    refine WC.cond (t := true) (by kernel_rfl) ?_
    refine sn hW 3 (tm' := [(4, (.d (.bool true))), (6, (.d (.str [97, 98, 115]))), (7, (.d (.int .i64 x))), (8, (.d (.int .i64 y))), (9, (.d (.int .i64 z)))]) (H' := [some (.cells [(.d (.int .i64 x)), (.d (.int .i64 y)), (.d (.int .i64 z))]), none, none, none, none, none, none, none, none, none, some (.cells [(.d (.str [97, 98, 115])), (.d (.bool true)), (.d (.bool false)), (.d (.bool false)), (.d (.list [])), (.d (.list [[(.str [105, 110, 116]), (.str []), (.list [])]])), (.d (.str [105, 110, 116])), (.d (.str [])), (.d (.list [])), (.d (.list []))])]) (by kernel_rfl) ?_
    refine WC.ret ?_
    exact RetQ.ret (by kernel_rfl) rfl
  · refine so hW 3 (tm' := [(3, (.ptr 0 3 0)), (4, (.d (.bool false))), (6, (.d (.str [97, 100, 100])))]) (H' := [some (.cells [(.d (.int .i64 x)), (.d (.int .i64 y)), (.d (.int .i64 z))])]) (by kernel_rfl) ?_
    refine WO.nil ?_
    refine sn hW 1 (tm' := [(4, (.d (.bool false))), (6, (.d (.str [97, 100, 100]))), (7, (.d (.int .i64 x))), (8, (.d (.int .i64 y))), (9, (.d (.int .i64 z)))]) (H' := [some (.cells [(.d (.int .i64 x)), (.d (.int .i64 y)), (.d (.int .i64 z))]), none, none, none, none, none, none, none, none, none]) (by kernel_rfl) ?_
    refine WC.seq ?_
    refine sn hW 2 (tm' := [(4, (.d (.bool false))), (6, (.d (.str [97, 100, 100]))), (7, (.d (.int .i64 x))), (8, (.d (.int .i64 y))), (9, (.d (.int .i64 z))), (51, (.d (.bool false)))]) (H' := [some (.cells [(.d (.int .i64 x)), (.d (.int .i64 y)), (.d (.int .i64 z))]), none, none, none, none, none, none, none, none, none, some (.cells [(.d (.str [97, 100, 100])), (.d (.bool true)), (.d (.bool false)), (.d (.bool false)), (.d (.list [])), (.d (.list [[(.str [105, 110, 116]), (.str []), (.list [])], [(.str [105, 110, 116]), (.str []), (.list [])]])), (.d (.str [105, 110, 116])), (.d (.str [])), (.d (.list [])), (.d (.list []))])]) (by kernel_rfl) ?_
    refine WC.cond (t := false) (by kernel_rfl) ?_
    refine WC.skip ?_
    refine WC.keep [4, 6, 7, 8, 9] ?_
    refine tail_add hW x y z ?_
    rfl
  · refine so hW 3 (tm' := [(3, (.ptr 0 3 0)), (4, (.d (.bool false))), (6, (.d (.str [97, 110, 100])))]) (H' := [some (.cells [(.d (.int .i64 x)), (.d (.int .i64 y)), (.d (.int .i64 z))])]) (by kernel_rfl) ?_
    refine WO.nil ?_
    refine sn hW 1 (tm' := [(4, (.d (.bool false))), (6, (.d (.str [97, 110, 100]))), (7, (.d (.int .i64 x))), (8, (.d (.int .i64 y))), (9, (.d (.int .i64 z)))]) (H' := [some (.cells [(.d (.int .i64 x)), (.d (.int .i64 y)), (.d (.int .i64 z))]), none, none, none, none, none, none, none, none, none]) (by kernel_rfl) ?_
    refine WC.seq ?_
    refine sn hW 2 (tm' := [(4, (.d (.bool false))), (6, (.d (.str [97, 110, 100]))), (7, (.d (.int .i64 x))), (8, (.d (.int .i64 y))), (9, (.d (.int .i64 z))), (51, (.d (.bool false)))]) (H' := [some (.cells [(.d (.int .i64 x)), (.d (.int .i64 y)), (.d (.int .i64 z))]), none, none, none, none, none, none, none, none, none, some (.cells [(.d (.str [97, 110, 100])), (.d (.bool true)), (.d (.bool false)), (.d (.bool false)), (.d (.list [])), (.d (.list [[(.str [98, 111, 111, 108]), (.str []), (.list [])], [(.str [98, 111, 111, 108]), (.str []), (.list [])]])), (.d (.str [98, 111, 111, 108])), (.d (.str [])), (.d (.list [])), (.d (.list []))])]) (by kernel_rfl) ?_
    refine WC.cond (t := false) (by kernel_rfl) ?_
    refine WC.skip ?_
    refine WC.keep [4, 6, 7, 8, 9] ?_
    refine tail_and hW x y z ?_
    rfl
  · refine so hW 3 (tm' := [(3, (.ptr 0 3 0)), (4, (.d (.bool false))), (6, (.d (.str [97, 112, 112, 101, 110, 100])))]) (H' := [some (.cells [(.d (.int .i64 x)), (.d (.int .i64 y)), (.d (.int .i64 z))])]) (by kernel_rfl) ?_
    refine WO.nil ?_
    refine sn hW 1 (tm' := [(4, (.d (.bool false))), (6, (.d (.str [97, 112, 112, 101, 110, 100]))), (7, (.d (.int .i64 x))), (8, (.d (.int .i64 y))), (9, (.d (.int .i64 z)))]) (H' := [some (.cells [(.d (.int .i64 x)), (.d (.int .i64 y)), (.d (.int .i64 z))]), none, none, none, none, none, none, none, none, none]) (by kernel_rfl) ?_
    refine WC.seq ?_
    refine sn hW 2 (tm' := [(4, (.d (.bool false))), (6, (.d (.str [97, 112, 112, 101, 110, 100]))), (7, (.d (.int .i64 x))), (8, (.d (.int .i64 y))), (9, (.d (.int .i64 z))), (51, (.d (.bool true)))]) (H' := [some (.cells [(.d (.int .i64 x)), (.d (.int .i64 y)), (.d (.int .i64 z))]), none, none, none, none, none, none, none, none, none, some (.cells [(.d (.str [97, 112, 112, 101, 110, 100])), (.d (.bool false)), (.d (.bool false)), (.d (.bool false)), (.d (.list [])), (.d (.list [[(.str [65]), (.str []), (.list [[(.int .i64 0), (.list [[(.str [110]), (.int .i64 1)]])]])], [(.str [65]), (.str []), (.list [[(.int .i64 0), (.list [[(.str [109]), (.int .i64 1)]])]])]])), (.d (.str [65])), (.d (.str [])), (.d (.list [[(.int .i64 0), (.list [[(.str [109]), (.int .i64 1)], [(.str [110]), (.int .i64 1)]])]])), (.d (.list []))])]) (by kernel_rfl) ?_
    refine WC.cond (t := true) (by kernel_rfl) ?_
    refine sn hW 3 (tm' := [(4, (.d (.bool true))), (6, (.d (.str [97, 112, 112, 101, 110, 100]))), (7, (.d (.int .i64 x))), (8, (.d (.int .i64 y))), (9, (.d (.int .i64 z)))]) (H' := [some (.cells [(.d (.int .i64 x)), (.d (.int .i64 y)), (.d (.int .i64 z))]), none, none, none, none, none, none, none, none, none, some (.cells [(.d (.str [97, 112, 112, 101, 110, 100])), (.d (.bool false)), (.d (.bool false)), (.d (.bool false)), (.d (.list [])), (.d (.list [[(.str [65]), (.str []), (.list [[(.int .i64 0), (.list [[(.str [110]), (.int .i64 1)]])]])], [(.str [65]), (.str []), (.list [[(.int .i64 0), (.list [[(.str [109]), (.int .i64 1)]])]])]])), (.d (.str [65])), (.d (.str [])), (.d (.list [[(.int .i64 0), (.list [[(.str [109]), (.int .i64 1)], [(.str [110]), (.int .i64 1)]])]])), (.d (.list []))])]) (by kernel_rfl) ?_
    refine WC.ret ?_
    exact RetQ.ret (by kernel_rfl) rfl
  · refine so hW 3 (tm' := [(3, (.ptr 0 3 0)), (4, (.d (.bool false))), (6, (.d (.str [99, 104, 117, 110, 107])))]) (H' := [some (.cells [(.d (.int .i64 x)), (.d (.int .i64 y)), (.d (.int .i64 z))])]) (by kernel_rfl) ?_
    refine WO.nil ?_
    refine sn hW 1 (tm' := [(4, (.d (.bool false))), (6, (.d (.str [99, 104, 117, 110, 107]))), (7, (.d (.int .i64 x))), (8, (.d (.int .i64 y))), (9, (.d (.int .i64 z)))]) (H' := [some (.cells [(.d (.int .i64 x)), (.d (.int .i64 y)), (.d (.int .i64 z))]), none, none, none, none, none, none, none, none, none]) (by kernel_rfl) ?_
    refine WC.seq ?_
    refine sn hW 2 (tm' := [(4, (.d (.bool false))), (6, (.d (.str [99, 104, 117, 110, 107]))), (7, (.d (.int .i64 x))), (8, (.d (.int .i64 y))), (9, (.d (.int .i64 z))), (51, (.d (.bool true)))]) (H' := [some (.cells [(.d (.int .i64 x)), (.d (.int .i64 y)), (.d (.int .i64 z))]), none, none, none, none, none, none, none, none, none, some (.cells [(.d (.str [99, 104, 117, 110, 107])), (.d (.bool false)), (.d (.bool true)), (.d (.bool false)), (.d (.list [])), (.d (.list [[(.str [65]), (.str []), (.list [[(.int .i64 0), (.list [[(.str [110]), (.int .i64 1)]])]])]])), (.d (.str [65])), (.d (.str [])), (.d (.list [[(.int .i64 0), (.list [[(.str [110]), (.int .i64 1)]])], [(.int .i64 1), (.list [])]])), (.d (.list []))])]) (by kernel_rfl) ?_
    refine WC.cond (t := true) (by kernel_rfl) ?_
    refine sn hW 3 (tm' := [(4, (.d (.bool true))), (6, (.d (.str [99, 104, 117, 110, 107]))), (7, (.d (.int .i64 x))), (8, (.d (.int .i64 y))), (9, (.d (.int .i64 z)))]) (H' := [some (.cells [(.d (.int .i64 x)), (.d (.int .i64 y)), (.d (.int .i64 z))]), none, none, none, none, none, none, none, none, none, some (.cells [(.d (.str [99, 104, 117, 110, 107])), (.d (.bool false)), (.d (.bool true)), (.d (.bool false)), (.d (.list [])), (.d (.list [[(.str [65]), (.str []), (.list [[(.int .i64 0), (.list [[(.str [110]), (.int .i64 1)]])]])]])), (.d (.str [65])), (.d (.str [])), (.d (.list [[(.int .i64 0), (.list [[(.str [110]), (.int .i64 1)]])], [(.int .i64 1), (.list [])]])), (.d (.list []))])]) (by kernel_rfl) ?_
    refine WC.ret ?_
    exact RetQ.ret (by kernel_rfl) rfl
  · refine so hW 3 (tm' := [(3, (.ptr 0 3 0)), (4, (.d (.bool false))), (6, (.d (.str [100, 105, 97, 103, 111, 110, 97, 108])))]) (H' := [some (.cells [(.d (.int .i64 x)), (.d (.int .i64 y)), (.d (.int .i64 z))])]) (by kernel_rfl) ?_
    refine WO.nil ?_
    refine sn hW 1 (tm' := [(4, (.d (.bool false))), (6, (.d (.str [100, 105, 97, 103, 111, 110, 97, 108]))), (7, (.d (.int .i64 x))), (8, (.d (.int .i64 y))), (9, (.d (.int .i64 z)))]) (H' := [some (.cells [(.d (.int .i64 x)), (.d (.int .i64 y)), (.d (.int .i64 z))]), none, none, none, none, none, none, none, none, none]) (by kernel_rfl) ?_
    refine WC.seq ?_
    refine sn hW 2 (tm' := [(4, (.d (.bool false))), (6, (.d (.str [100, 105, 97, 103, 111, 110, 97, 108]))), (7, (.d (.int .i64 x))), (8, (.d (.int .i64 y))), (9, (.d (.int .i64 z))), (51, (.d (.bool true)))]) (H' := [some (.cells [(.d (.int .i64 x)), (.d (.int .i64 y)), (.d (.int .i64 z))]), none, none, none, none, none, none, none, none, none, some (.cells [(.d (.str [100, 105, 97, 103, 111, 110, 97, 108])), (.d (.bool false)), (.d (.bool false)), (.d (.bool false)), (.d (.list [])), (.d (.list [[(.str [65]), (.str []), (.list [[(.int .i64 0), (.list [[(.str [110]), (.int .i64 1)]])], [(.int .i64 0), (.list [[(.str [110]), (.int .i64 1)]])]])]])), (.d (.str [65])), (.d (.str [])), (.d (.list [[(.int .i64 0), (.list [[(.str [110]), (.int .i64 1)]])]])), (.d (.list []))])]) (by kernel_rfl) ?_
    refine WC.cond (t := true) (by kernel_rfl) ?_
    refine sn hW 3 (tm' := [(4, (.d (.bool true))), (6, (.d (.str [100, 105, 97, 103, 111, 110, 97, 108]))), (7, (.d (.int .i64 x))), (8, (.d (.int .i64 y))), (9, (.d (.int .i64 z)))]) (H' := [some (.cells [(.d (.int .i64 x)), (.d (.int .i64 y)), (.d (.int .i64 z))]), none, none, none, none, none, none, none, none, none, some (.cells [(.d (.str [100, 105, 97, 103, 111, 110, 97, 108])), (.d (.bool false)), (.d (.bool false)), (.d (.bool false)), (.d (.list [])), (.d (.list [[(.str [65]), (.str []), (.list [[(.int .i64 0), (.list [[(.str [110]), (.int .i64 1)]])], [(.int .i64 0), (.list [[(.str [110]), (.int .i64 1)]])]])]])), (.d (.str [65])), (.d (.str [])), (.d (.list [[(.int .i64 0), (.list [[(.str [110]), (.int .i64 1)]])]])), (.d (.list []))])]) (by kernel_rfl) ?_
    refine WC.ret ?_
    exact RetQ.ret (by kernel_rfl) rfl
  · refine so hW 3 (tm' := [(3, (.ptr 0 3 0)), (4, (.d (.bool false))), (6, (.d (.str [100, 105, 118])))]) (H' := [some (.cells [(.d (.int .i64 x)), (.d (.int .i64 y)), (.d (.int .i64 z))])]) (by kernel_rfl) ?_
    refine WO.nil ?_
    refine sn hW 1 (tm' := [(4, (.d (.bool false))), (6, (.d (.str [100, 105, 118]))), (7, (.d (.int .i64 x))), (8, (.d (.int .i64 y))), (9, (.d (.int .i64 z)))]) (H' := [some (.cells [(.d (.int .i64 x)), (.d (.int .i64 y)), (.d (.int .i64 z))]), none, none, none, none, none, none, none, none, none]) (by kernel_rfl) ?_
    refine WC.seq ?_
    refine sn hW 2 (tm' := [(4, (.d (.bool false))), (6, (.d (.str [100, 105, 118]))), (7, (.d (.int .i64 x))), (8, (.d (.int .i64 y))), (9, (.d (.int .i64 z))), (51, (.d (.bool false)))]) (H' := [some (.cells [(.d (.int .i64 x)), (.d (.int .i64 y)), (.d (.int .i64 z))]), none, none, none, none, none, none, none, none, none, some (.cells [(.d (.str [100, 105, 118])), (.d (.bool true)), (.d (.bool false)), (.d (.bool false)), (.d (.list [])), (.d (.list [[(.str [105, 110, 116]), (.str []), (.list [])], [(.str [105, 110, 116]), (.str []), (.list [])]])), (.d (.str [105, 110, 116])), (.d (.str [])), (.d (.list [])), (.d (.list []))])]) (by kernel_rfl) ?_
    refine WC.cond (t := false) (by kernel_rfl) ?_
    refine WC.skip ?_
    refine WC.seq ?_
    refine sn hW 1 (tm' := [(4, (.d (.bool false))), (6, (.d (.str [100, 105, 118]))), (7, (.d (.int .i64 x))), (8, (.d (.int .i64 y))), (9, (.d (.int .i64 z))), (97, (.d (.bool false)))]) (H' := [some (.cells [(.d (.int .i64 x)), (.d (.int .i64 y)), (.d (.int .i64 z))]), none, none, none, none, none, none, none, none, none, some (.cells [(.d (.str [100, 105, 118])), (.d (.bool true)), (.d (.bool false)), (.d (.bool false)), (.d (.list [])), (.d (.list [[(.str [105, 110, 116]), (.str []), (.list [])], [(.str [105, 110, 116]), (.str []), (.list [])]])), (.d (.str [105, 110, 116])), (.d (.str [])), (.d (.list [])), (.d (.list []))])]) (by kernel_rfl) ?_
    refine WC.cond (t := false) (by kernel_rfl) ?_
    refine WC.skip ?_
    refine WC.seq ?_
    refine sn hW 1 (tm' := [(4, (.d (.bool false))), (6, (.d (.str [100, 105, 118]))), (7, (.d (.int .i64 x))), (120, (.d (.bool false)))]) (H' := [some (.cells [(.d (.int .i64 x)), (.d (.int .i64 y)), (.d (.int .i64 z))]), none, none, none, none, none, none, none, none, none, some (.cells [(.d (.str [100, 105, 118])), (.d (.bool true)), (.d (.bool false)), (.d (.bool false)), (.d (.list [])), (.d (.list [[(.str [105, 110, 116]), (.str []), (.list [])], [(.str [105, 110, 116]), (.str []), (.list [])]])), (.d (.str [105, 110, 116])), (.d (.str [])), (.d (.list [])), (.d (.list []))])]) (by kernel_rfl) ?_
    refine WC.cond (t := false) (by kernel_rfl) ?_
    refine WC.skip ?_
    refine WC.seq ?_
    refine sn hW 1 (tm' := [(4, (.d (.bool false))), (6, (.d (.str [100, 105, 118]))), (7, (.d (.int .i64 x))), (133, (.d (.bool false)))]) (H' := [some (.cells [(.d (.int .i64 x)), (.d (.int .i64 y)), (.d (.int .i64 z))]), none, none, none, none, none, none, none, none, none, some (.cells [(.d (.str [100, 105, 118])), (.d (.bool true)), (.d (.bool false)), (.d (.bool false)), (.d (.list [])), (.d (.list [[(.str [105, 110, 116]), (.str []), (.list [])], [(.str [105, 110, 116]), (.str []), (.list [])]])), (.d (.str [105, 110, 116])), (.d (.str [])), (.d (.list [])), (.d (.list []))])]) (by kernel_rfl) ?_
    refine WC.cond (t := false) (by kernel_rfl) ?_
    refine WC.skip ?_
    refine WC.seq ?_
    refine sn hW 2 (tm' := [(4, (.d (.bool false))), (6, (.d (.str [100, 105, 118]))), (7, (.d (.int .i64 x))), (161, (.d (.bool false)))]) (H' := [some (.cells [(.d (.int .i64 x)), (.d (.int .i64 y)), (.d (.int .i64 z))]), none, none, none, none, none, none, none, none, none, some (.cells [(.d (.str [100, 105, 118])), (.d (.bool true)), (.d (.bool false)), (.d (.bool false)), (.d (.list [])), (.d (.list [[(.str [105, 110, 116]), (.str []), (.list [])], [(.str [105, 110, 116]), (.str []), (.list [])]])), (.d (.str [105, 110, 116])), (.d (.str [])), (.d (.list [])), (.d (.list []))])]) (by kernel_rfl) ?_
    refine WC.cond (t := false) (by kernel_rfl) ?_
    refine WC.skip ?_
    refine sn hW 2 (tm' := [(4, (.d (.bool true)))]) (H' := [some (.cells [(.d (.int .i64 x)), (.d (.int .i64 y)), (.d (.int .i64 z))]), none, none, none, none, none, none, none, none, none, some (.cells [(.d (.str [100, 105, 118])), (.d (.bool true)), (.d (.bool false)), (.d (.bool false)), (.d (.list [])), (.d (.list [[(.str [105, 110, 116]), (.str []), (.list [])], [(.str [105, 110, 116]), (.str []), (.list [])]])), (.d (.str [105, 110, 116])), (.d (.str [])), (.d (.list [])), (.d (.list []))])]) (by kernel_rfl) ?_
    refine WC.ret ?_
    exact RetQ.ret (by kernel_rfl) rfl
  · refine so hW 3 (tm' := [(3, (.ptr 0 3 0)), (4, (.d (.bool false))), (6, (.d (.str [100, 114, 111, 112])))]) (H' := [some (.cells [(.d (.int .i64 x)), (.d (.int .i64 y)), (.d (.int .i64 z))])]) (by kernel_rfl) ?_
    refine WO.nil ?_
    refine sn hW 1 (tm' := [(4, (.d (.bool false))), (6, (.d (.str [100, 114, 111, 112]))), (7, (.d (.int .i64 x))), (8, (.d (.int .i64 y))), (9, (.d (.int .i64 z)))]) (H' := [some (.cells [(.d (.int .i64 x)), (.d (.int .i64 y)), (.d (.int .i64 z))]), none, none, none, none, none, none, none, none, none]) (by kernel_rfl) ?_
    refine WC.seq ?_
    refine sn hW 2 (tm' := [(4, (.d (.bool false))), (6, (.d (.str [100, 114, 111, 112]))), (7, (.d (.int .i64 x))), (8, (.d (.int .i64 y))), (9, (.d (.int .i64 z))), (51, (.d (.bool true)))]) (H' := [some (.cells [(.d (.int .i64 x)), (.d (.int .i64 y)), (.d (.int .i64 z))]), none, none, none, none, none, none, none, none, none, some (.cells [(.d (.str [100, 114, 111, 112])), (.d (.bool false)), (.d (.bool false)), (.d (.bool false)), (.d (.list [[(.str [107])]])), (.d (.list [[(.str [65]), (.str []), (.list [[(.int .i64 0), (.list [[(.str [110]), (.int .i64 1)]])]])]])), (.d (.str [65])), (.d (.str [])), (.d (.list [[(.int .i64 0), (.list [[(.str [107]), (.int .i64 (-1))], [(.str [110]), (.int .i64 1)]])]])), (.d (.list [[(.int .i64 0), (.list [[(.str [107]), (.int .i64 1)]])], [(.int .i64 0), (.list [[(.str [107]), (.int .i64 (-1))], [(.str [110]), (.int .i64 1)]])]]))])]) (by kernel_rfl) ?_
    refine WC.cond (t := true) (by kernel_rfl) ?_
    refine sn hW 3 (tm' := [(4, (.d (.bool true))), (6, (.d (.str [100, 114, 111, 112]))), (7, (.d (.int .i64 x))), (8, (.d (.int .i64 y))), (9, (.d (.int .i64 z)))]) (H' := [some (.cells [(.d (.int .i64 x)), (.d (.int .i64 y)), (.d (.int .i64 z))]), none, none, none, none, none, none, none, none, none, some (.cells [(.d (.str [100, 114, 111, 112])), (.d (.bool false)), (.d (.bool false)), (.d (.bool false)), (.d (.list [[(.str [107])]])), (.d (.list [[(.str [65]), (.str []), (.list [[(.int .i64 0), (.list [[(.str [110]), (.int .i64 1)]])]])]])), (.d (.str [65])), (.d (.str [])), (.d (.list [[(.int .i64 0), (.list [[(.str [107]), (.int .i64 (-1))], [(.str [110]), (.int .i64 1)]])]])), (.d (.list [[(.int .i64 0), (.list [[(.str [107]), (.int .i64 1)]])], [(.int .i64 0), (.list [[(.str [107]), (.int .i64 (-1))], [(.str [110]), (.int .i64 1)]])]]))])]) (by kernel_rfl) ?_
    refine WC.ret ?_
    exact RetQ.ret (by kernel_rfl) rfl
  · refine so hW 3 (tm' := [(3, (.ptr 0 3 0)), (4, (.d (.bool false))), (6, (.d (.str [101, 113])))]) (H' := [some (.cells [(.d (.int .i64 x)), (.d (.int .i64 y)), (.d (.int .i64 z))])]) (by kernel_rfl) ?_
    refine WO.nil ?_
    refine sn hW 1 (tm' := [(4, (.d (.bool false))), (6, (.d (.str [101, 113]))), (7, (.d (.int .i64 x))), (8, (.d (.int .i64 y))), (9, (.d (.int .i64 z)))]) (H' := [some (.cells [(.d (.int .i64 x)), (.d (.int .i64 y)), (.d (.int .i64 z))]), none, none, none, none, none, none, none, none, none]) (by kernel_rfl) ?_
    refine WC.seq ?_
    refine sn hW 2 (tm' := [(4, (.d (.bool false))), (6, (.d (.str [101, 113]))), (7, (.d (.int .i64 x))), (8, (.d (.int .i64 y))), (9, (.d (.int .i64 z))), (51, (.d (.bool false)))]) (H' := [some (.cells [(.d (.int .i64 x)), (.d (.int .i64 y)), (.d (.int .i64 z))]), none, none, none, none, none, none, none, none, none, some (.cells [(.d (.str [101, 113])), (.d (.bool true)), (.d (.bool false)), (.d (.bool false)), (.d (.list [])), (.d (.list [[(.str [65]), (.str []), (.list [])], [(.str [65]), (.str []), (.list [])]])), (.d (.str [98, 111, 111, 108])), (.d (.str [])), (.d (.list [])), (.d (.list []))])]) (by kernel_rfl) ?_
    refine WC.cond (t := false) (by kernel_rfl) ?_
    refine WC.skip ?_
    refine WC.keep [4, 6, 7, 8, 9] ?_
    refine tail_eq hW x y z ?_
    rfl
  · refine so hW 3 (tm' := [(3, (.ptr 0 3 0)), (4, (.d (.bool false))), (6, (.d (.str [102, 105, 108, 108])))]) (H' := [some (.cells [(.d (.int .i64 x)), (.d (.int .i64 y)), (.d (.int .i64 z))])]) (by kernel_rfl) ?_
    refine WO.nil ?_
    refine sn hW 1 (tm' := [(4, (.d (.bool false))), (6, (.d (.str [102, 105, 108, 108]))), (7, (.d (.int .i64 x))), (8, (.d (.int .i64 y))), (9, (.d (.int .i64 z)))]) (H' := [some (.cells [(.d (.int .i64 x)), (.d (.int .i64 y)), (.d (.int .i64 z))]), none, none, none, none, none, none, none, none, none]) (by kernel_rfl) ?_
    refine WC.seq ?_
    refine sn hW 2 (tm' := [(4, (.d (.bool false))), (6, (.d (.str [102, 105, 108, 108]))), (7, (.d (.int .i64 x))), (8, (.d (.int .i64 y))), (9, (.d (.int .i64 z))), (51, (.d (.bool true)))]) (H' := [some (.cells [(.d (.int .i64 x)), (.d (.int .i64 y)), (.d (.int .i64 z))]), none, none, none, none, none, none, none, none, none, some (.cells [(.d (.str [102, 105, 108, 108])), (.d (.bool false)), (.d (.bool false)), (.d (.bool false)), (.d (.list [[(.str [107])]])), (.d (.list [[(.str [65]), (.str []), (.list [])]])), (.d (.str [65])), (.d (.str [])), (.d (.list [[(.int .i64 0), (.list [[(.str [107]), (.int .i64 1)]])]])), (.d (.list [[(.int .i64 0), (.list [[(.str [107]), (.int .i64 1)]])]]))])]) (by kernel_rfl) ?_
    refine WC.cond (t := true) (by kernel_rfl) ?_
    refine sn hW 3 (tm' := [(4, (.d (.bool true))), (6, (.d (.str [102, 105, 108, 108]))), (7, (.d (.int .i64 x))), (8, (.d (.int .i64 y))), (9, (.d (.int .i64 z)))]) (H' := [some (.cells [(.d (.int .i64 x)), (.d (.int .i64 y)), (.d (.int .i64 z))]), none, none, none, none, none, none, none, none, none, some (.cells [(.d (.str [102, 105, 108, 108])), (.d (.bool false)), (.d (.bool false)), (.d (.bool false)), (.d (.list [[(.str [107])]])), (.d (.list [[(.str [65]), (.str []), (.list [])]])), (.d (.str [65])), (.d (.str [])), (.d (.list [[(.int .i64 0), (.list [[(.str [107]), (.int .i64 1)]])]])), (.d (.list [[(.int .i64 0), (.list [[(.str [107]), (.int .i64 1)]])]]))])]) (by kernel_rfl) ?_
    refine WC.ret ?_
    exact RetQ.ret (by kernel_rfl) rfl
  · refine so hW 3 (tm' := [(3, (.ptr 0 3 0)), (4, (.d (.bool false))), (6, (.d (.str [103, 101])))]) (H' := [some (.cells [(.d (.int .i64 x)), (.d (.int .i64 y)), (.d (.int .i64 z))])]) (by kernel_rfl) ?_
    refine WO.nil ?_
    refine sn hW 1 (tm' := [(4, (.d (.bool false))), (6, (.d (.str [103, 101]))), (7, (.d (.int .i64 x))), (8, (.d (.int .i64 y))), (9, (.d (.int .i64 z)))]) (H' := [some (.cells [(.d (.int .i64 x)), (.d (.int .i64 y)), (.d (.int .i64 z))]), none, none, none, none, none, none, none, none, none]) (by kernel_rfl) ?_
    refine WC.seq ?_
    refine sn hW 2 (tm' := [(4, (.d (.bool false))), (6, (.d (.str [103, 101]))), (7, (.d (.int .i64 x))), (8, (.d (.int .i64 y))), (9, (.d (.int .i64 z))), (51, (.d (.bool false)))]) (H' := [some (.cells [(.d (.int .i64 x)), (.d (.int .i64 y)), (.d (.int .i64 z))]), none, none, none, none, none, none, none, none, none, some (.cells [(.d (.str [103, 101])), (.d (.bool true)), (.d (.bool false)), (.d (.bool false)), (.d (.list [])), (.d (.list [[(.str [105, 110, 116]), (.str []), (.list [])], [(.str [105, 110, 116]), (.str []), (.list [])]])), (.d (.str [98, 111, 111, 108])), (.d (.str [])), (.d (.list [])), (.d (.list []))])]) (by kernel_rfl) ?_
    refine WC.cond (t := false) (by kernel_rfl) ?_
    refine WC.skip ?_
    refine WC.seq ?_
    refine sn hW 1 (tm' := [(4, (.d (.bool false))), (6, (.d (.str [103, 101]))), (7, (.d (.int .i64 x))), (8, (.d (.int .i64 y))), (9, (.d (.int .i64 z))), (97, (.d (.bool false)))]) (H' := [some (.cells [(.d (.int .i64 x)), (.d (.int .i64 y)), (.d (.int .i64 z))]), none, none, none, none, none, none, none, none, none, some (.cells [(.d (.str [103, 101])), (.d (.bool true)), (.d (.bool false)), (.d (.bool false)), (.d (.list [])), (.d (.list [[(.str [105, 110, 116]), (.str []), (.list [])], [(.str [105, 110, 116]), (.str []), (.list [])]])), (.d (.str [98, 111, 111, 108])), (.d (.str [])), (.d (.list [])), (.d (.list []))])]) (by kernel_rfl) ?_
    refine WC.cond (t := false) (by kernel_rfl) ?_
    refine WC.skip ?_
    refine WC.seq ?_
    refine sn hW 1 (tm' := [(4, (.d (.bool false))), (6, (.d (.str [103, 101]))), (7, (.d (.int .i64 x))), (120, (.d (.bool false)))]) (H' := [some (.cells [(.d (.int .i64 x)), (.d (.int .i64 y)), (.d (.int .i64 z))]), none, none, none, none, none, none, none, none, none, some (.cells [(.d (.str [103, 101])), (.d (.bool true)), (.d (.bool false)), (.d (.bool false)), (.d (.list [])), (.d (.list [[(.str [105, 110, 116]), (.str []), (.list [])], [(.str [105, 110, 116]), (.str []), (.list [])]])), (.d (.str [98, 111, 111, 108])), (.d (.str [])), (.d (.list [])), (.d (.list []))])]) (by kernel_rfl) ?_
    refine WC.cond (t := false) (by kernel_rfl) ?_
    refine WC.skip ?_
    refine WC.seq ?_
    refine sn hW 1 (tm' := [(4, (.d (.bool false))), (6, (.d (.str [103, 101]))), (7, (.d (.int .i64 x))), (133, (.d (.bool false)))]) (H' := [some (.cells [(.d (.int .i64 x)), (.d (.int .i64 y)), (.d (.int .i64 z))]), none, none, none, none, none, none, none, none, none, some (.cells [(.d (.str [103, 101])), (.d (.bool true)), (.d (.bool false)), (.d (.bool false)), (.d (.list [])), (.d (.list [[(.str [105, 110, 116]), (.str []), (.list [])], [(.str [105, 110, 116]), (.str []), (.list [])]])), (.d (.str [98, 111, 111, 108])), (.d (.str [])), (.d (.list [])), (.d (.list []))])]) (by kernel_rfl) ?_
    refine WC.cond (t := false) (by kernel_rfl) ?_
    refine WC.skip ?_
    refine WC.seq ?_
    refine sn hW 2 (tm' := [(4, (.d (.bool false))), (6, (.d (.str [103, 101]))), (7, (.d (.int .i64 x))), (161, (.d (.bool false)))]) (H' := [some (.cells [(.d (.int .i64 x)), (.d (.int .i64 y)), (.d (.int .i64 z))]), none, none, none, none, none, none, none, none, none, some (.cells [(.d (.str [103, 101])), (.d (.bool true)), (.d (.bool false)), (.d (.bool false)), (.d (.list [])), (.d (.list [[(.str [105, 110, 116]), (.str []), (.list [])], [(.str [105, 110, 116]), (.str []), (.list [])]])), (.d (.str [98, 111, 111, 108])), (.d (.str [])), (.d (.list [])), (.d (.list []))])]) (by kernel_rfl) ?_
    refine WC.cond (t := false) (by kernel_rfl) ?_
    refine WC.skip ?_
    refine sn hW 2 (tm' := [(4, (.d (.bool true)))]) (H' := [some (.cells [(.d (.int .i64 x)), (.d (.int .i64 y)), (.d (.int .i64 z))]), none, none, none, none, none, none, none, none, none, some (.cells [(.d (.str [103, 101])), (.d (.bool true)), (.d (.bool false)), (.d (.bool false)), (.d (.list [])), (.d (.list [[(.str [105, 110, 116]), (.str []), (.list [])], [(.str [105, 110, 116]), (.str []), (.list [])]])), (.d (.str [98, 111, 111, 108])), (.d (.str [])), (.d (.list [])), (.d (.list []))])]) (by kernel_rfl) ?_
    refine WC.ret ?_
    exact RetQ.ret (by kernel_rfl) rfl
  · refine so hW 3 (tm' := [(3, (.ptr 0 3 0)), (4, (.d (.bool false))), (6, (.d (.str [103, 116])))]) (H' := [some (.cells [(.d (.int .i64 x)), (.d (.int .i64 y)), (.d (.int .i64 z))])]) (by kernel_rfl) ?_
    refine WO.nil ?_
    refine sn hW 1 (tm' := [(4, (.d (.bool false))), (6, (.d (.str [103, 116]))), (7, (.d (.int .i64 x))), (8, (.d (.int .i64 y))), (9, (.d (.int .i64 z)))]) (H' := [some (.cells [(.d (.int .i64 x)), (.d (.int .i64 y)), (.d (.int .i64 z))]), none, none, none, none, none, none, none, none, none]) (by kernel_rfl) ?_
    refine WC.seq ?_
    refine sn hW 2 (tm' := [(4, (.d (.bool false))), (6, (.d (.str [103, 116]))), (7, (.d (.int .i64 x))), (8, (.d (.int .i64 y))), (9, (.d (.int .i64 z))), (51, (.d (.bool false)))]) (H' := [some (.cells [(.d (.int .i64 x)), (.d (.int .i64 y)), (.d (.int .i64 z))]), none, none, none, none, none, none, none, none, none, some (.cells [(.d (.str [103, 116])), (.d (.bool true)), (.d (.bool false)), (.d (.bool false)), (.d (.list [])), (.d (.list [[(.str [105, 110, 116]), (.str []), (.list [])], [(.str [105, 110, 116]), (.str []), (.list [])]])), (.d (.str [98, 111, 111, 108])), (.d (.str [])), (.d (.list [])), (.d (.list []))])]) (by kernel_rfl) ?_
    refine WC.cond (t := false) (by kernel_rfl) ?_
    refine WC.skip ?_
    refine WC.seq ?_
    refine sn hW 1 (tm' := [(4, (.d (.bool false))), (6, (.d (.str [103, 116]))), (7, (.d (.int .i64 x))), (8, (.d (.int .i64 y))), (9, (.d (.int .i64 z))), (97, (.d (.bool false)))]) (H' := [some (.cells [(.d (.int .i64 x)), (.d (.int .i64 y)), (.d (.int .i64 z))]), none, none, none, none, none, none, none, none, none, some (.cells [(.d (.str [103, 116])), (.d (.bool true)), (.d (.bool false)), (.d (.bool false)), (.d (.list [])), (.d (.list [[(.str [105, 110, 116]), (.str []), (.list [])], [(.str [105, 110, 116]), (.str []), (.list [])]])), (.d (.str [98, 111, 111, 108])), (.d (.str [])), (.d (.list [])), (.d (.list []))])]) (by kernel_rfl) ?_
    refine WC.cond (t := false) (by kernel_rfl) ?_
    refine WC.skip ?_
    refine WC.seq ?_
    refine sn hW 1 (tm' := [(4, (.d (.bool false))), (6, (.d (.str [103, 116]))), (7, (.d (.int .i64 x))), (120, (.d (.bool false)))]) (H' := [some (.cells [(.d (.int .i64 x)), (.d (.int .i64 y)), (.d (.int .i64 z))]), none, none, none, none, none, none, none, none, none, some (.cells [(.d (.str [103, 116])), (.d (.bool true)), (.d (.bool false)), (.d (.bool false)), (.d (.list [])), (.d (.list [[(.str [105, 110, 116]), (.str []), (.list [])], [(.str [105, 110, 116]), (.str []), (.list [])]])), (.d (.str [98, 111, 111, 108])), (.d (.str [])), (.d (.list [])), (.d (.list []))])]) (by kernel_rfl) ?_
    refine WC.cond (t := false) (by kernel_rfl) ?_
    refine WC.skip ?_
    refine WC.seq ?_
    refine sn hW 1 (tm' := [(4, (.d (.bool false))), (6, (.d (.str [103, 116]))), (7, (.d (.int .i64 x))), (133, (.d (.bool false)))]) (H' := [some (.cells [(.d (.int .i64 x)), (.d (.int .i64 y)), (.d (.int .i64 z))]), none, none, none, none, none, none, none, none, none, some (.cells [(.d (.str [103, 116])), (.d (.bool true)), (.d (.bool false)), (.d (.bool false)), (.d (.list [])), (.d (.list [[(.str [105, 110, 116]), (.str []), (.list [])], [(.str [105, 110, 116]), (.str []), (.list [])]])), (.d (.str [98, 111, 111, 108])), (.d (.str [])), (.d (.list [])), (.d (.list []))])]) (by kernel_rfl) ?_
    refine WC.cond (t := false) (by kernel_rfl) ?_
    refine WC.skip ?_
    refine WC.seq ?_
    refine sn hW 2 (tm' := [(4, (.d (.bool false))), (6, (.d (.str [103, 116]))), (7, (.d (.int .i64 x))), (161, (.d (.bool false)))]) (H' := [some (.cells [(.d (.int .i64 x)), (.d (.int .i64 y)), (.d (.int .i64 z))]), none, none, none, none, none, none, none, none, none, some (.cells [(.d (.str [103, 116])), (.d (.bool true)), (.d (.bool false)), (.d (.bool false)), (.d (.list [])), (.d (.list [[(.str [105, 110, 116]), (.str []), (.list [])], [(.str [105, 110, 116]), (.str []), (.list [])]])), (.d (.str [98, 111, 111, 108])), (.d (.str [])), (.d (.list [])), (.d (.list []))])]) (by kernel_rfl) ?_
    refine WC.cond (t := false) (by kernel_rfl) ?_
    refine WC.skip ?_
    refine sn hW 2 (tm' := [(4, (.d (.bool true)))]) (H' := [some (.cells [(.d (.int .i64 x)), (.d (.int .i64 y)), (.d (.int .i64 z))]), none, none, none, none, none, none, none, none, none, some (.cells [(.d (.str [103, 116])), (.d (.bool true)), (.d (.bool false)), (.d (.bool false)), (.d (.list [])), (.d (.list [[(.str [105, 110, 116]), (.str []), (.list [])], [(.str [105, 110, 116]), (.str []), (.list [])]])), (.d (.str [98, 111, 111, 108])), (.d (.str [])), (.d (.list [])), (.d (.list []))])]) (by kernel_rfl) ?_
    refine WC.ret ?_
    exact RetQ.ret (by kernel_rfl) rfl
  · refine so hW 3 (tm' := [(3, (.ptr 0 3 0)), (4, (.d (.bool false))), (6, (.d (.str [105, 110, 100, 101, 120])))]) (H' := [some (.cells [(.d (.int .i64 x)), (.d (.int .i64 y)), (.d (.int .i64 z))])]) (by kernel_rfl) ?_
    refine WO.nil ?_
    refine sn hW 1 (tm' := [(4, (.d (.bool false))), (6, (.d (.str [105, 110, 100, 101, 120]))), (7, (.d (.int .i64 x))), (8, (.d (.int .i64 y))), (9, (.d (.int .i64 z)))]) (H' := [some (.cells [(.d (.int .i64 x)), (.d (.int .i64 y)), (.d (.int .i64 z))]), none, none, none, none, none, none, none, none, none]) (by kernel_rfl) ?_
    refine WC.seq ?_
    refine sn hW 2 (tm' := [(4, (.d (.bool false))), (6, (.d (.str [105, 110, 100, 101, 120]))), (7, (.d (.int .i64 x))), (8, (.d (.int .i64 y))), (9, (.d (.int .i64 z))), (51, (.d (.bool true)))]) (H' := [some (.cells [(.d (.int .i64 x)), (.d (.int .i64 y)), (.d (.int .i64 z))]), none, none, none, none, none, none, none, none, none, some (.cells [(.d (.str [105, 110, 100, 101, 120])), (.d (.bool false)), (.d (.bool false)), (.d (.bool true)), (.d (.list [])), (.d (.list [[(.str [65]), (.str []), (.list [[(.int .i64 0), (.list [[(.str [110]), (.int .i64 1)]])]])], [(.str [105, 110, 116]), (.str []), (.list [])]])), (.d (.str [65])), (.d (.str [])), (.d (.list [])), (.d (.list []))])]) (by kernel_rfl) ?_
    refine WC.cond (t := true) (by kernel_rfl) ?_
    refine sn hW 3 (tm' := [(4, (.d (.bool true))), (6, (.d (.str [105, 110, 100, 101, 120]))), (7, (.d (.int .i64 x))), (8, (.d (.int .i64 y))), (9, (.d (.int .i64 z)))]) (H' := [some (.cells [(.d (.int .i64 x)), (.d (.int .i64 y)), (.d (.int .i64 z))]), none, none, none, none, none, none, none, none, none, some (.cells [(.d (.str [105, 110, 100, 101, 120])), (.d (.bool false)), (.d (.bool false)), (.d (.bool true)), (.d (.list [])), (.d (.list [[(.str [65]), (.str []), (.list [[(.int .i64 0), (.list [[(.str [110]), (.int .i64 1)]])]])], [(.str [105, 110, 116]), (.str []), (.list [])]])), (.d (.str [65])), (.d (.str [])), (.d (.list [])), (.d (.list []))])]) (by kernel_rfl) ?_
    refine WC.ret ?_
    exact RetQ.ret (by kernel_rfl) rfl
  · refine so hW 3 (tm' := [(3, (.ptr 0 3 0)), (4, (.d (.bool false))), (6, (.d (.str [105, 111, 116, 97])))]) (H' := [some (.cells [(.d (.int .i64 x)), (.d (.int .i64 y)), (.d (.int .i64 z))])]) (by kernel_rfl) ?_
    refine WO.nil ?_
    refine sn hW 1 (tm' := [(4, (.d (.bool false))), (6, (.d (.str [105, 111, 116, 97]))), (7, (.d (.int .i64 x))), (8, (.d (.int .i64 y))), (9, (.d (.int .i64 z)))]) (H' := [some (.cells [(.d (.int .i64 x)), (.d (.int .i64 y)), (.d (.int .i64 z))]), none, none, none, none, none, none, none, none, none]) (by kernel_rfl) ?_
    refine WC.seq ?_
    refine sn hW 2 (tm' := [(4, (.d (.bool false))), (6, (.d (.str [105, 111, 116, 97]))), (7, (.d (.int .i64 x))), (8, (.d (.int .i64 y))), (9, (.d (.int .i64 z))), (51, (.d (.bool true)))]) (H' := [some (.cells [(.d (.int .i64 x)), (.d (.int .i64 y)), (.d (.int .i64 z))]), none, none, none, none, none, none, none, none, none, some (.cells [(.d (.str [105, 111, 116, 97])), (.d (.bool false)), (.d (.bool false)), (.d (.bool false)), (.d (.list [[(.str [107])]])), (.d (.list [])), (.d (.str [105, 110, 116])), (.d (.str [])), (.d (.list [[(.int .i64 0), (.list [[(.str [107]), (.int .i64 1)]])]])), (.d (.list [[(.int .i64 0), (.list [[(.str [107]), (.int .i64 1)]])]]))])]) (by kernel_rfl) ?_
    refine WC.cond (t := true) (by kernel_rfl) ?_
    refine sn hW 3 (tm' := [(4, (.d (.bool true))), (6, (.d (.str [105, 111, 116, 97]))), (7, (.d (.int .i64 x))), (8, (.d (.int .i64 y))), (9, (.d (.int .i64 z)))]) (H' := [some (.cells [(.d (.int .i64 x)), (.d (.int .i64 y)), (.d (.int .i64 z))]), none, none, none, none, none, none, none, none, none, some (.cells [(.d (.str [105, 111, 116, 97])), (.d (.bool false)), (.d (.bool false)), (.d (.bool false)), (.d (.list [[(.str [107])]])), (.d (.list [])), (.d (.str [105, 110, 116])), (.d (.str [])), (.d (.list [[(.int .i64 0), (.list [[(.str [107]), (.int .i64 1)]])]])), (.d (.list [[(.int .i64 0), (.list [[(.str [107]), (.int .i64 1)]])]]))])]) (by kernel_rfl) ?_
    refine WC.ret ?_
    exact RetQ.ret (by kernel_rfl) rfl
  · refine so hW 3 (tm' := [(3, (.ptr 0 3 0)), (4, (.d (.bool false))), (6, (.d (.str [108, 101])))]) (H' := [some (.cells [(.d (.int .i64 x)), (.d (.int .i64 y)), (.d (.int .i64 z))])]) (by kernel_rfl) ?_
    refine WO.nil ?_
    refine sn hW 1 (tm' := [(4, (.d (.bool false))), (6, (.d (.str [108, 101]))), (7, (.d (.int .i64 x))), (8, (.d (.int .i64 y))), (9, (.d (.int .i64 z)))]) (H' := [some (.cells [(.d (.int .i64 x)), (.d (.int .i64 y)), (.d (.int .i64 z))]), none, none, none, none, none, none, none, none, none]) (by kernel_rfl) ?_
    refine WC.seq ?_
    refine sn hW 2 (tm' := [(4, (.d (.bool false))), (6, (.d (.str [108, 101]))), (7, (.d (.int .i64 x))), (8, (.d (.int .i64 y))), (9, (.d (.int .i64 z))), (51, (.d (.bool false)))]) (H' := [some (.cells [(.d (.int .i64 x)), (.d (.int .i64 y)), (.d (.int .i64 z))]), none, none, none, none, none, none, none, none, none, some (.cells [(.d (.str [108, 101])), (.d (.bool true)), (.d (.bool false)), (.d (.bool false)), (.d (.list [])), (.d (.list [[(.str [105, 110, 116]), (.str []), (.list [])], [(.str [105, 110, 116]), (.str []), (.list [])]])), (.d (.str [98, 111, 111, 108])), (.d (.str [])), (.d (.list [])), (.d (.list []))])]) (by kernel_rfl) ?_
    refine WC.cond (t := false) (by kernel_rfl) ?_
    refine WC.skip ?_
    refine WC.seq ?_
    refine sn hW 1 (tm' := [(4, (.d (.bool false))), (6, (.d (.str [108, 101]))), (7, (.d (.int .i64 x))), (8, (.d (.int .i64 y))), (9, (.d (.int .i64 z))), (97, (.d (.bool false)))]) (H' := [some (.cells [(.d (.int .i64 x)), (.d (.int .i64 y)), (.d (.int .i64 z))]), none, none, none, none, none, none, none, none, none, some (.cells [(.d (.str [108, 101])), (.d (.bool true)), (.d (.bool false)), (.d (.bool false)), (.d (.list [])), (.d (.list [[(.str [105, 110, 116]), (.str []), (.list [])], [(.str [105, 110, 116]), (.str []), (.list [])]])), (.d (.str [98, 111, 111, 108])), (.d (.str [])), (.d (.list [])), (.d (.list []))])]) (by kernel_rfl) ?_
    refine WC.cond (t := false) (by kernel_rfl) ?_
    refine WC.skip ?_
    refine WC.seq ?_
    refine sn hW 1 (tm' := [(4, (.d (.bool false))), (6, (.d (.str [108, 101]))), (7, (.d (.int .i64 x))), (120, (.d (.bool false)))]) (H' := [some (.cells [(.d (.int .i64 x)), (.d (.int .i64 y)), (.d (.int .i64 z))]), none, none, none, none, none, none, none, none, none, some (.cells [(.d (.str [108, 101])), (.d (.bool true)), (.d (.bool false)), (.d (.bool false)), (.d (.list [])), (.d (.list [[(.str [105, 110, 116]), (.str []), (.list [])], [(.str [105, 110, 116]), (.str []), (.list [])]])), (.d (.str [98, 111, 111, 108])), (.d (.str [])), (.d (.list [])), (.d (.list []))])]) (by kernel_rfl) ?_
    refine WC.cond (t := false) (by kernel_rfl) ?_
    refine WC.skip ?_
    refine WC.seq ?_
    refine sn hW 1 (tm' := [(4, (.d (.bool false))), (6, (.d (.str [108, 101]))), (7, (.d (.int .i64 x))), (133, (.d (.bool false)))]) (H' := [some (.cells [(.d (.int .i64 x)), (.d (.int .i64 y)), (.d (.int .i64 z))]), none, none, none, none, none, none, none, none, none, some (.cells [(.d (.str [108, 101])), (.d (.bool true)), (.d (.bool false)), (.d (.bool false)), (.d (.list [])), (.d (.list [[(.str [105, 110, 116]), (.str []), (.list [])], [(.str [105, 110, 116]), (.str []), (.list [])]])), (.d (.str [98, 111, 111, 108])), (.d (.str [])), (.d (.list [])), (.d (.list []))])]) (by kernel_rfl) ?_
    refine WC.cond (t := false) (by kernel_rfl) ?_
    refine WC.skip ?_
    refine WC.seq ?_
    refine sn hW 2 (tm' := [(4, (.d (.bool false))), (6, (.d (.str [108, 101]))), (7, (.d (.int .i64 x))), (161, (.d (.bool false)))]) (H' := [some (.cells [(.d (.int .i64 x)), (.d (.int .i64 y)), (.d (.int .i64 z))]), none, none, none, none, none, none, none, none, none, some (.cells [(.d (.str [108, 101])), (.d (.bool true)), (.d (.bool false)), (.d (.bool false)), (.d (.list [])), (.d (.list [[(.str [105, 110, 116]), (.str []), (.list [])], [(.str [105, 110, 116]), (.str []), (.list [])]])), (.d (.str [98, 111, 111, 108])), (.d (.str [])), (.d (.list [])), (.d (.list []))])]) (by kernel_rfl) ?_
    refine WC.cond (t := false) (by kernel_rfl) ?_
    refine WC.skip ?_
    refine sn hW 2 (tm' := [(4, (.d (.bool true)))]) (H' := [some (.cells [(.d (.int .i64 x)), (.d (.int .i64 y)), (.d (.int .i64 z))]), none, none, none, none, none, none, none, none, none, some (.cells [(.d (.str [108, 101])), (.d (.bool true)), (.d (.bool false)), (.d (.bool false)), (.d (.list [])), (.d (.list [[(.str [105, 110, 116]), (.str []), (.list [])], [(.str [105, 110, 116]), (.str []), (.list [])]])), (.d (.str [98, 111, 111, 108])), (.d (.str [])), (.d (.list [])), (.d (.list []))])]) (by kernel_rfl) ?_
    refine WC.ret ?_
    exact RetQ.ret (by kernel_rfl) rfl
  · refine so hW 3 (tm' := [(3, (.ptr 0 3 0)), (4, (.d (.bool false))), (6, (.d (.str [108, 116])))]) (H' := [some (.cells [(.d (.int .i64 x)), (.d (.int .i64 y)), (.d (.int .i64 z))])]) (by kernel_rfl) ?_
    refine WO.nil ?_
    refine sn hW 1 (tm' := [(4, (.d (.bool false))), (6, (.d (.str [108, 116]))), (7, (.d (.int .i64 x))), (8, (.d (.int .i64 y))), (9, (.d (.int .i64 z)))]) (H' := [some (.cells [(.d (.int .i64 x)), (.d (.int .i64 y)), (.d (.int .i64 z))]), none, none, none, none, none, none, none, none, none]) (by kernel_rfl) ?_
    refine WC.seq ?_
    refine sn hW 2 (tm' := [(4, (.d (.bool false))), (6, (.d (.str [108, 116]))), (7, (.d (.int .i64 x))), (8, (.d (.int .i64 y))), (9, (.d (.int .i64 z))), (51, (.d (.bool false)))]) (H' := [some (.cells [(.d (.int .i64 x)), (.d (.int .i64 y)), (.d (.int .i64 z))]), none, none, none, none, none, none, none, none, none, some (.cells [(.d (.str [108, 116])), (.d (.bool true)), (.d (.bool false)), (.d (.bool false)), (.d (.list [])), (.d (.list [[(.str [105, 110, 116]), (.str []), (.list [])], [(.str [105, 110, 116]), (.str []), (.list [])]])), (.d (.str [98, 111, 111, 108])), (.d (.str [])), (.d (.list [])), (.d (.list []))])]) (by kernel_rfl) ?_
    refine WC.cond (t := false) (by kernel_rfl) ?_
    refine WC.skip ?_
    refine WC.seq ?_
    refine sn hW 1 (tm' := [(4, (.d (.bool false))), (6, (.d (.str [108, 116]))), (7, (.d (.int .i64 x))), (8, (.d (.int .i64 y))), (9, (.d (.int .i64 z))), (97, (.d (.bool false)))]) (H' := [some (.cells [(.d (.int .i64 x)), (.d (.int .i64 y)), (.d (.int .i64 z))]), none, none, none, none, none, none, none, none, none, some (.cells [(.d (.str [108, 116])), (.d (.bool true)), (.d (.bool false)), (.d (.bool false)), (.d (.list [])), (.d (.list [[(.str [105, 110, 116]), (.str []), (.list [])], [(.str [105, 110, 116]), (.str []), (.list [])]])), (.d (.str [98, 111, 111, 108])), (.d (.str [])), (.d (.list [])), (.d (.list []))])]) (by kernel_rfl) ?_
    refine WC.cond (t := false) (by kernel_rfl) ?_
    refine WC.skip ?_
    refine WC.seq ?_
    refine sn hW 1 (tm' := [(4, (.d (.bool false))), (6, (.d (.str [108, 116]))), (7, (.d (.int .i64 x))), (120, (.d (.bool false)))]) (H' := [some (.cells [(.d (.int .i64 x)), (.d (.int .i64 y)), (.d (.int .i64 z))]), none, none, none, none, none, none, none, none, none, some (.cells [(.d (.str [108, 116])), (.d (.bool true)), (.d (.bool false)), (.d (.bool false)), (.d (.list [])), (.d (.list [[(.str [105, 110, 116]), (.str []), (.list [])], [(.str [105, 110, 116]), (.str []), (.list [])]])), (.d (.str [98, 111, 111, 108])), (.d (.str [])), (.d (.list [])), (.d (.list []))])]) (by kernel_rfl) ?_
    refine WC.cond (t := false) (by kernel_rfl) ?_
    refine WC.skip ?_
    refine WC.seq ?_
    refine sn hW 1 (tm' := [(4, (.d (.bool false))), (6, (.d (.str [108, 116]))), (7, (.d (.int .i64 x))), (133, (.d (.bool false)))]) (H' := [some (.cells [(.d (.int .i64 x)), (.d (.int .i64 y)), (.d (.int .i64 z))]), none, none, none, none, none, none, none, none, none, some (.cells [(.d (.str [108, 116])), (.d (.bool true)), (.d (.bool false)), (.d (.bool false)), (.d (.list [])), (.d (.list [[(.str [105, 110, 116]), (.str []), (.list [])], [(.str [105, 110, 116]), (.str []), (.list [])]])), (.d (.str [98, 111, 111, 108])), (.d (.str [])), (.d (.list [])), (.d (.list []))])]) (by kernel_rfl) ?_
    refine WC.cond (t := false) (by kernel_rfl) ?_
    refine WC.skip ?_
    refine WC.seq ?_
    refine sn hW 2 (tm' := [(4, (.d (.bool false))), (6, (.d (.str [108, 116]))), (7, (.d (.int .i64 x))), (161, (.d (.bool false)))]) (H' := [some (.cells [(.d (.int .i64 x)), (.d (.int .i64 y)), (.d (.int .i64 z))]), none, none, none, none, none, none, none, none, none, some (.cells [(.d (.str [108, 116])), (.d (.bool true)), (.d (.bool false)), (.d (.bool false)), (.d (.list [])), (.d (.list [[(.str [105, 110, 116]), (.str []), (.list [])], [(.str [105, 110, 116]), (.str []), (.list [])]])), (.d (.str [98, 111, 111, 108])), (.d (.str [])), (.d (.list [])), (.d (.list []))])]) (by kernel_rfl) ?_
    refine WC.cond (t := false) (by kernel_rfl) ?_
    refine WC.skip ?_
    refine sn hW 2 (tm' := [(4, (.d (.bool true)))]) (H' := [some (.cells [(.d (.int .i64 x)), (.d (.int .i64 y)), (.d (.int .i64 z))]), none, none, none, none, none, none, none, none, none, some (.cells [(.d (.str [108, 116])), (.d (.bool true)), (.d (.bool false)), (.d (.bool false)), (.d (.list [])), (.d (.list [[(.str [105, 110, 116]), (.str []), (.list [])], [(.str [105, 110, 116]), (.str []), (.list [])]])), (.d (.str [98, 111, 111, 108])), (.d (.str [])), (.d (.list [])), (.d (.list []))])]) (by kernel_rfl) ?_
    refine WC.ret ?_
    exact RetQ.ret (by kernel_rfl) rfl
  · refine so hW 3 (tm' := [(3, (.ptr 0 3 0)), (4, (.d (.bool false))), (6, (.d (.str [109, 97, 120])))]) (H' := [some (.cells [(.d (.int .i64 x)), (.d (.int .i64 y)), (.d (.int .i64 z))])]) (by kernel_rfl) ?_
    refine WO.nil ?_
    refine sn hW 1 (tm' := [(4, (.d (.bool false))), (6, (.d (.str [109, 97, 120]))), (7, (.d (.int .i64 x))), (8, (.d (.int .i64 y))), (9, (.d (.int .i64 z)))]) (H' := [some (.cells [(.d (.int .i64 x)), (.d (.int .i64 y)), (.d (.int .i64 z))]), none, none, none, none, none, none, none, none, none]) (by kernel_rfl) ?_
    refine WC.seq ?_
    refine sn hW 2 (tm' := [(4, (.d (.bool false))), (6, (.d (.str [109, 97, 120]))), (7, (.d (.int .i64 x))), (8, (.d (.int .i64 y))), (9, (.d (.int .i64 z))), (51, (.d (.bool false)))]) (H' := [some (.cells [(.d (.int .i64 x)), (.d (.int .i64 y)), (.d (.int .i64 z))]), none, none, none, none, none, none, none, none, none, some (.cells [(.d (.str [109, 97, 120])), (.d (.bool true)), (.d (.bool false)), (.d (.bool false)), (.d (.list [])), (.d (.list [[(.str [105, 110, 116]), (.str []), (.list [])], [(.str [105, 110, 116]), (.str []), (.list [])]])), (.d (.str [105, 110, 116])), (.d (.str [])), (.d (.list [])), (.d (.list []))])]) (by kernel_rfl) ?_
    refine WC.cond (t := false) (by kernel_rfl) ?_
    refine WC.skip ?_
    refine WC.keep [4, 6, 7, 8, 9] ?_
    refine tail_max hW x y z ?_
    rfl
  · refine so hW 3 (tm' := [(3, (.ptr 0 3 0)), (4, (.d (.bool false))), (6, (.d (.str [109, 105, 110])))]) (H' := [some (.cells [(.d (.int .i64 x)), (.d (.int .i64 y)), (.d (.int .i64 z))])]) (by kernel_rfl) ?_
    refine WO.nil ?_
    refine sn hW 1 (tm' := [(4, (.d (.bool false))), (6, (.d (.str [109, 105, 110]))), (7, (.d (.int .i64 x))), (8, (.d (.int .i64 y))), (9, (.d (.int .i64 z)))]) (H' := [some (.cells [(.d (.int .i64 x)), (.d (.int .i64 y)), (.d (.int .i64 z))]), none, none, none, none, none, none, none, none, none]) (by kernel_rfl) ?_
    refine WC.seq ?_
    refine sn hW 2 (tm' := [(4, (.d (.bool false))), (6, (.d (.str [109, 105, 110]))), (7, (.d (.int .i64 x))), (8, (.d (.int .i64 y))), (9, (.d (.int .i64 z))), (51, (.d (.bool false)))]) (H' := [some (.cells [(.d (.int .i64 x)), (.d (.int .i64 y)), (.d (.int .i64 z))]), none, none, none, none, none, none, none, none, none, some (.cells [(.d (.str [109, 105, 110])), (.d (.bool true)), (.d (.bool false)), (.d (.bool false)), (.d (.list [])), (.d (.list [[(.str [105, 110, 116]), (.str []), (.list [])], [(.str [105, 110, 116]), (.str []), (.list [])]])), (.d (.str [105, 110, 116])), (.d (.str [])), (.d (.list [])), (.d (.list []))])]) (by kernel_rfl) ?_
    refine WC.cond (t := false) (by kernel_rfl) ?_
    refine WC.skip ?_
    refine WC.keep [4, 6, 7, 8, 9] ?_
    refine tail_min hW x y z ?_
    rfl
  · refine so hW 3 (tm' := [(3, (.ptr 0 3 0)), (4, (.d (.bool false))), (6, (.d (.str [109, 111, 100])))]) (H' := [some (.cells [(.d (.int .i64 x)), (.d (.int .i64 y)), (.d (.int .i64 z))])]) (by kernel_rfl) ?_
    refine WO.nil ?_
    refine sn hW 1 (tm' := [(4, (.d (.bool false))), (6, (.d (.str [109, 111, 100]))), (7, (.d (.int .i64 x))), (8, (.d (.int .i64 y))), (9, (.d (.int .i64 z)))]) (H' := [some (.cells [(.d (.int .i64 x)), (.d (.int .i64 y)), (.d (.int .i64 z))]), none, none, none, none, none, none, none, none, none]) (by kernel_rfl) ?_
    refine WC.seq ?_
    refine sn hW 2 (tm' := [(4, (.d (.bool false))), (6, (.d (.str [109, 111, 100]))), (7, (.d (.int .i64 x))), (8, (.d (.int .i64 y))), (9, (.d (.int .i64 z))), (51, (.d (.bool false)))]) (H' := [some (.cells [(.d (.int .i64 x)), (.d (.int .i64 y)), (.d (.int .i64 z))]), none, none, none, none, none, none, none, none, none, some (.cells [(.d (.str [109, 111, 100])), (.d (.bool true)), (.d (.bool false)), (.d (.bool false)), (.d (.list [])), (.d (.list [[(.str [105, 110, 116]), (.str []), (.list [])], [(.str [105, 110, 116]), (.str []), (.list [])]])), (.d (.str [105, 110, 116])), (.d (.str [])), (.d (.list [])), (.d (.list []))])]) (by kernel_rfl) ?_
    refine WC.cond (t := false) (by kernel_rfl) ?_
    refine WC.skip ?_
    refine WC.seq ?_
    refine sn hW 1 (tm' := [(4, (.d (.bool false))), (6, (.d (.str [109, 111, 100]))), (7, (.d (.int .i64 x))), (8, (.d (.int .i64 y))), (9, (.d (.int .i64 z))), (97, (.d (.bool false)))]) (H' := [some (.cells [(.d (.int .i64 x)), (.d (.int .i64 y)), (.d (.int .i64 z))]), none, none, none, none, none, none, none, none, none, some (.cells [(.d (.str [109, 111, 100])), (.d (.bool true)), (.d (.bool false)), (.d (.bool false)), (.d (.list [])), (.d (.list [[(.str [105, 110, 116]), (.str []), (.list [])], [(.str [105, 110, 116]), (.str []), (.list [])]])), (.d (.str [105, 110, 116])), (.d (.str [])), (.d (.list [])), (.d (.list []))])]) (by kernel_rfl) ?_
    refine WC.cond (t := false) (by kernel_rfl) ?_
    refine WC.skip ?_
    refine WC.seq ?_
    refine sn hW 1 (tm' := [(4, (.d (.bool false))), (6, (.d (.str [109, 111, 100]))), (7, (.d (.int .i64 x))), (120, (.d (.bool false)))]) (H' := [some (.cells [(.d (.int .i64 x)), (.d (.int .i64 y)), (.d (.int .i64 z))]), none, none, none, none, none, none, none, none, none, some (.cells [(.d (.str [109, 111, 100])), (.d (.bool true)), (.d (.bool false)), (.d (.bool false)), (.d (.list [])), (.d (.list [[(.str [105, 110, 116]), (.str []), (.list [])], [(.str [105, 110, 116]), (.str []), (.list [])]])), (.d (.str [105, 110, 116])), (.d (.str [])), (.d (.list [])), (.d (.list []))])]) (by kernel_rfl) ?_
    refine WC.cond (t := false) (by kernel_rfl) ?_
    refine WC.skip ?_
    refine WC.seq ?_
    refine sn hW 1 (tm' := [(4, (.d (.bool false))), (6, (.d (.str [109, 111, 100]))), (7, (.d (.int .i64 x))), (133, (.d (.bool false)))]) (H' := [some (.cells [(.d (.int .i64 x)), (.d (.int .i64 y)), (.d (.int .i64 z))]), none, none, none, none, none, none, none, none, none, some (.cells [(.d (.str [109, 111, 100])), (.d (.bool true)), (.d (.bool false)), (.d (.bool false)), (.d (.list [])), (.d (.list [[(.str [105, 110, 116]), (.str []), (.list [])], [(.str [105, 110, 116]), (.str []), (.list [])]])), (.d (.str [105, 110, 116])), (.d (.str [])), (.d (.list [])), (.d (.list []))])]) (by kernel_rfl) ?_
    refine WC.cond (t := false) (by kernel_rfl) ?_
    refine WC.skip ?_
    refine WC.seq ?_
    refine sn hW 2 (tm' := [(4, (.d (.bool false))), (6, (.d (.str [109, 111, 100]))), (7, (.d (.int .i64 x))), (161, (.d (.bool false)))]) (H' := [some (.cells [(.d (.int .i64 x)), (.d (.int .i64 y)), (.d (.int .i64 z))]), none, none, none, none, none, none, none, none, none, some (.cells [(.d (.str [109, 111, 100])), (.d (.bool true)), (.d (.bool false)), (.d (.bool false)), (.d (.list [])), (.d (.list [[(.str [105, 110, 116]), (.str []), (.list [])], [(.str [105, 110, 116]), (.str []), (.list [])]])), (.d (.str [105, 110, 116])), (.d (.str [])), (.d (.list [])), (.d (.list []))])]) (by kernel_rfl) ?_
    refine WC.cond (t := false) (by kernel_rfl) ?_
    refine WC.skip ?_
    refine sn hW 2 (tm' := [(4, (.d (.bool true)))]) (H' := [some (.cells [(.d (.int .i64 x)), (.d (.int .i64 y)), (.d (.int .i64 z))]), none, none, none, none, none, none, none, none, none, some (.cells [(.d (.str [109, 111, 100])), (.d (.bool true)), (.d (.bool false)), (.d (.bool false)), (.d (.list [])), (.d (.list [[(.str [105, 110, 116]), (.str []), (.list [])], [(.str [105, 110, 116]), (.str []), (.list [])]])), (.d (.str [105, 110, 116])), (.d (.str [])), (.d (.list [])), (.d (.list []))])]) (by kernel_rfl) ?_
    refine WC.ret ?_
    exact RetQ.ret (by kernel_rfl) rfl
  · refine so hW 3 (tm' := [(3, (.ptr 0 3 0)), (4, (.d (.bool false))), (6, (.d (.str [109, 117, 108])))]) (H' := [some (.cells [(.d (.int .i64 x)), (.d (.int .i64 y)), (.d (.int .i64 z))])]) (by kernel_rfl) ?_
    refine WO.nil ?_
    refine sn hW 1 (tm' := [(4, (.d (.bool false))), (6, (.d (.str [109, 117, 108]))), (7, (.d (.int .i64 x))), (8, (.d (.int .i64 y))), (9, (.d (.int .i64 z)))]) (H' := [some (.cells [(.d (.int .i64 x)), (.d (.int .i64 y)), (.d (.int .i64 z))]), none, none, none, none, none, none, none, none, none]) (by kernel_rfl) ?_
    refine WC.seq ?_
    refine sn hW 2 (tm' := [(4, (.d (.bool false))), (6, (.d (.str [109, 117, 108]))), (7, (.d (.int .i64 x))), (8, (.d (.int .i64 y))), (9, (.d (.int .i64 z))), (51, (.d (.bool false)))]) (H' := [some (.cells [(.d (.int .i64 x)), (.d (.int .i64 y)), (.d (.int .i64 z))]), none, none, none, none, none, none, none, none, none, some (.cells [(.d (.str [109, 117, 108])), (.d (.bool true)), (.d (.bool false)), (.d (.bool false)), (.d (.list [])), (.d (.list [[(.str [105, 110, 116]), (.str []), (.list [])], [(.str [105, 110, 116]), (.str []), (.list [])]])), (.d (.str [105, 110, 116])), (.d (.str [])), (.d (.list [])), (.d (.list []))])]) (by kernel_rfl) ?_
    refine WC.cond (t := false) (by kernel_rfl) ?_
    refine WC.skip ?_
    refine WC.keep [4, 6, 7, 8, 9] ?_
    refine tail_mul hW x y z ?_
    rfl
  · refine so hW 3 (tm' := [(3, (.ptr 0 3 0)), (4, (.d (.bool false))), (6, (.d (.str [110, 101])))]) (H' := [some (.cells [(.d (.int .i64 x)), (.d (.int .i64 y)), (.d (.int .i64 z))])]) (by kernel_rfl) ?_
    refine WO.nil ?_
    refine sn hW 1 (tm' := [(4, (.d (.bool false))), (6, (.d (.str [110, 101]))), (7, (.d (.int .i64 x))), (8, (.d (.int .i64 y))), (9, (.d (.int .i64 z)))]) (H' := [some (.cells [(.d (.int .i64 x)), (.d (.int .i64 y)), (.d (.int .i64 z))]), none, none, none, none, none, none, none, none, none]) (by kernel_rfl) ?_
    refine WC.seq ?_
    refine sn hW 2 (tm' := [(4, (.d (.bool false))), (6, (.d (.str [110, 101]))), (7, (.d (.int .i64 x))), (8, (.d (.int .i64 y))), (9, (.d (.int .i64 z))), (51, (.d (.bool false)))]) (H' := [some (.cells [(.d (.int .i64 x)), (.d (.int .i64 y)), (.d (.int .i64 z))]), none, none, none, none, none, none, none, none, none, some (.cells [(.d (.str [110, 101])), (.d (.bool true)), (.d (.bool false)), (.d (.bool false)), (.d (.list [])), (.d (.list [[(.str [65]), (.str []), (.list [])], [(.str [65]), (.str []), (.list [])]])), (.d (.str [98, 111, 111, 108])), (.d (.str [])), (.d (.list [])), (.d (.list []))])]) (by kernel_rfl) ?_
    refine WC.cond (t := false) (by kernel_rfl) ?_
    refine WC.skip ?_
    refine WC.keep [4, 6, 7, 8, 9] ?_
    refine tail_ne hW x y z ?_
    rfl
  · refine so hW 3 (tm' := [(3, (.ptr 0 3 0)), (4, (.d (.bool false))), (6, (.d (.str [110, 101, 103])))]) (H' := [some (.cells [(.d (.int .i64 x)), (.d (.int .i64 y)), (.d (.int .i64 z))])]) (by kernel_rfl) ?_
    refine WO.nil ?_
    refine sn hW 1 (tm' := [(4, (.d (.bool false))), (6, (.d (.str [110, 101, 103]))), (7, (.d (.int .i64 x))), (8, (.d (.int .i64 y))), (9, (.d (.int .i64 z)))]) (H' := [some (.cells [(.d (.int .i64 x)), (.d (.int .i64 y)), (.d (.int .i64 z))]), none, none, none, none, none, none, none, none, none]) (by kernel_rfl) ?_
    refine WC.seq ?_
    refine sn hW 2 (tm' := [(4, (.d (.bool false))), (6, (.d (.str [110, 101, 103]))), (7, (.d (.int .i64 x))), (8, (.d (.int .i64 y))), (9, (.d (.int .i64 z))), (51, (.d (.bool true)))]) (H' := [some (.cells [(.d (.int .i64 x)), (.d (.int .i64 y)), (.d (.int .i64 z))]), none, none, none, none, none, none, none, none, none, some (.cells [(.d (.str [110, 101, 103])), (.d (.bool true)), (.d (.bool false)), (.d (.bool false)), (.d (.list [])), (.d (.list [[(.str [105, 110, 116]), (.str []), (.list [])]])), (.d (.str [105, 110, 116])), (.d (.str [])), (.d (.list [])), (.d (.list []))])]) (by kernel_rfl) ?_
    refine WC.cond (t := true) (by kernel_rfl) ?_
    refine sn hW 3 (tm' := [(4, (.d (.bool true))), (6, (.d (.str [110, 101, 103]))), (7, (.d (.int .i64 x))), (8, (.d (.int .i64 y))), (9, (.d (.int .i64 z)))]) (H' := [some (.cells [(.d (.int .i64 x)), (.d (.int .i64 y)), (.d (.int .i64 z))]), none, none, none, none, none, none, none, none, none, some (.cells [(.d (.str [110, 101, 103])), (.d (.bool true)), (.d (.bool false)), (.d (.bool false)), (.d (.list [])), (.d (.list [[(.str [105, 110, 116]), (.str []), (.list [])]])), (.d (.str [105, 110, 116])), (.d (.str [])), (.d (.list [])), (.d (.list []))])]) (by kernel_rfl) ?_
    refine WC.ret ?_
    exact RetQ.ret (by kernel_rfl) rfl
  · refine so hW 3 (tm' := [(3, (.ptr 0 3 0)), (4, (.d (.bool false))), (6, (.d (.str [110, 111, 116])))]) (H' := [some (.cells [(.d (.int .i64 x)), (.d (.int .i64 y)), (.d (.int .i64 z))])]) (by kernel_rfl) ?_
    refine WO.nil ?_
    refine sn hW 1 (tm' := [(4, (.d (.bool false))), (6, (.d (.str [110, 111, 116]))), (7, (.d (.int .i64 x))), (8, (.d (.int .i64 y))), (9, (.d (.int .i64 z)))]) (H' := [some (.cells [(.d (.int .i64 x)), (.d (.int .i64 y)), (.d (.int .i64 z))]), none, none, none, none, none, none, none, none, none]) (by kernel_rfl) ?_
    refine WC.seq ?_
    refine sn hW 2 (tm' := [(4, (.d (.bool false))), (6, (.d (.str [110, 111, 116]))), (7, (.d (.int .i64 x))), (8, (.d (.int .i64 y))), (9, (.d (.int .i64 z))), (51, (.d (.bool true)))]) (H' := [some (.cells [(.d (.int .i64 x)), (.d (.int .i64 y)), (.d (.int .i64 z))]), none, none, none, none, none, none, none, none, none, some (.cells [(.d (.str [110, 111, 116])), (.d (.bool true)), (.d (.bool false)), (.d (.bool false)), (.d (.list [])), (.d (.list [[(.str [98, 111, 111, 108]), (.str []), (.list [])]])), (.d (.str [98, 111, 111, 108])), (.d (.str [])), (.d (.list [])), (.d (.list []))])]) (by kernel_rfl) ?_
    refine WC.cond (t := true) (by kernel_rfl) ?_
    refine sn hW 3 (tm' := [(4, (.d (.bool true))), (6, (.d (.str [110, 111, 116]))), (7, (.d (.int .i64 x))), (8, (.d (.int .i64 y))), (9, (.d (.int .i64 z)))]) (H' := [some (.cells [(.d (.int .i64 x)), (.d (.int .i64 y)), (.d (.int .i64 z))]), none, none, none, none, none, none, none, none, none, some (.cells [(.d (.str [110, 111, 116])), (.d (.bool true)), (.d (.bool false)), (.d (.bool false)), (.d (.list [])), (.d (.list [[(.str [98, 111, 111, 108]), (.str []), (.list [])]])), (.d (.str [98, 111, 111, 108])), (.d (.str [])), (.d (.list [])), (.d (.list []))])]) (by kernel_rfl) ?_
    refine WC.ret ?_
    exact RetQ.ret (by kernel_rfl) rfl
  · refine so hW 3 (tm' := [(3, (.ptr 0 3 0)), (4, (.d (.bool false))), (6, (.d (.str [111, 114])))]) (H' := [some (.cells [(.d (.int .i64 x)), (.d (.int .i64 y)), (.d (.int .i64 z))])]) (by kernel_rfl) ?_
    refine WO.nil ?_
    refine sn hW 1 (tm' := [(4, (.d (.bool false))), (6, (.d (.str [111, 114]))), (7, (.d (.int .i64 x))), (8, (.d (.int .i64 y))), (9, (.d (.int .i64 z)))]) (H' := [some (.cells [(.d (.int .i64 x)), (.d (.int .i64 y)), (.d (.int .i64 z))]), none, none, none, none, none, none, none, none, none]) (by kernel_rfl) ?_
    refine WC.seq ?_
    refine sn hW 2 (tm' := [(4, (.d (.bool false))), (6, (.d (.str [111, 114]))), (7, (.d (.int .i64 x))), (8, (.d (.int .i64 y))), (9, (.d (.int .i64 z))), (51, (.d (.bool false)))]) (H' := [some (.cells [(.d (.int .i64 x)), (.d (.int .i64 y)), (.d (.int .i64 z))]), none, none, none, none, none, none, none, none, none, some (.cells [(.d (.str [111, 114])), (.d (.bool true)), (.d (.bool false)), (.d (.bool false)), (.d (.list [])), (.d (.list [[(.str [98, 111, 111, 108]), (.str []), (.list [])], [(.str [98, 111, 111, 108]), (.str []), (.list [])]])), (.d (.str [98, 111, 111, 108])), (.d (.str [])), (.d (.list [])), (.d (.list []))])]) (by kernel_rfl) ?_
    refine WC.cond (t := false) (by kernel_rfl) ?_
    refine WC.skip ?_
    refine WC.keep [4, 6, 7, 8, 9] ?_
    refine tail_or hW x y z ?_
    rfl
  · refine so hW 3 (tm' := [(3, (.ptr 0 3 0)), (4, (.d (.bool false))), (6, (.d (.str [114, 101, 118, 101, 114, 115, 101])))]) (H' := [some (.cells [(.d (.int .i64 x)), (.d (.int .i64 y)), (.d (.int .i64 z))])]) (by kernel_rfl) ?_
    refine WO.nil ?_
    refine sn hW 1 (tm' := [(4, (.d (.bool false))), (6, (.d (.str [114, 101, 118, 101, 114, 115, 101]))), (7, (.d (.int .i64 x))), (8, (.d (.int .i64 y))), (9, (.d (.int .i64 z)))]) (H' := [some (.cells [(.d (.int .i64 x)), (.d (.int .i64 y)), (.d (.int .i64 z))]), none, none, none, none, none, none, none, none, none]) (by kernel_rfl) ?_
    refine WC.seq ?_
    refine sn hW 2 (tm' := [(4, (.d (.bool false))), (6, (.d (.str [114, 101, 118, 101, 114, 115, 101]))), (7, (.d (.int .i64 x))), (8, (.d (.int .i64 y))), (9, (.d (.int .i64 z))), (51, (.d (.bool true)))]) (H' := [some (.cells [(.d (.int .i64 x)), (.d (.int .i64 y)), (.d (.int .i64 z))]), none, none, none, none, none, none, none, none, none, some (.cells [(.d (.str [114, 101, 118, 101, 114, 115, 101])), (.d (.bool false)), (.d (.bool false)), (.d (.bool false)), (.d (.list [])), (.d (.list [[(.str [65]), (.str []), (.list [[(.int .i64 0), (.list [[(.str [110]), (.int .i64 1)]])]])]])), (.d (.str [65])), (.d (.str [])), (.d (.list [[(.int .i64 0), (.list [[(.str [110]), (.int .i64 1)]])]])), (.d (.list []))])]) (by kernel_rfl) ?_
    refine WC.cond (t := true) (by kernel_rfl) ?_
    refine sn hW 3 (tm' := [(4, (.d (.bool true))), (6, (.d (.str [114, 101, 118, 101, 114, 115, 101]))), (7, (.d (.int .i64 x))), (8, (.d (.int .i64 y))), (9, (.d (.int .i64 z)))]) (H' := [some (.cells [(.d (.int .i64 x)), (.d (.int .i64 y)), (.d (.int .i64 z))]), none, none, none, none, none, none, none, none, none, some (.cells [(.d (.str [114, 101, 118, 101, 114, 115, 101])), (.d (.bool false)), (.d (.bool false)), (.d (.bool false)), (.d (.list [])), (.d (.list [[(.str [65]), (.str []), (.list [[(.int .i64 0), (.list [[(.str [110]), (.int .i64 1)]])]])]])), (.d (.str [65])), (.d (.str [])), (.d (.list [[(.int .i64 0), (.list [[(.str [110]), (.int .i64 1)]])]])), (.d (.list []))])]) (by kernel_rfl) ?_
    refine WC.ret ?_
    exact RetQ.ret (by kernel_rfl) rfl
  · refine so hW 3 (tm' := [(3, (.ptr 0 3 0)), (4, (.d (.bool false))), (6, (.d (.str [115, 101, 108, 101, 99, 116])))]) (H' := [some (.cells [(.d (.int .i64 x)), (.d (.int .i64 y)), (.d (.int .i64 z))])]) (by kernel_rfl) ?_
    refine WO.nil ?_
    refine sn hW 1 (tm' := [(4, (.d (.bool false))), (6, (.d (.str [115, 101, 108, 101, 99, 116]))), (7, (.d (.int .i64 x))), (8, (.d (.int .i64 y))), (9, (.d (.int .i64 z)))]) (H' := [some (.cells [(.d (.int .i64 x)), (.d (.int .i64 y)), (.d (.int .i64 z))]), none, none, none, none, none, none, none, none, none]) (by kernel_rfl) ?_
    refine WC.seq ?_
    refine sn hW 2 (tm' := [(4, (.d (.bool false))), (6, (.d (.str [115, 101, 108, 101, 99, 116]))), (7, (.d (.int .i64 x))), (8, (.d (.int .i64 y))), (9, (.d (.int .i64 z))), (51, (.d (.bool true)))]) (H' := [some (.cells [(.d (.int .i64 x)), (.d (.int .i64 y)), (.d (.int .i64 z))]), none, none, none, none, none, none, none, none, none, some (.cells [(.d (.str [115, 101, 108, 101, 99, 116])), (.d (.bool true)), (.d (.bool false)), (.d (.bool false)), (.d (.list [])), (.d (.list [[(.str [98, 111, 111, 108]), (.str []), (.list [])], [(.str [65]), (.str []), (.list [])], [(.str [65]), (.str []), (.list [])]])), (.d (.str [65])), (.d (.str [])), (.d (.list [])), (.d (.list []))])]) (by kernel_rfl) ?_
    refine WC.cond (t := true) (by kernel_rfl) ?_
    refine sn hW 3 (tm' := [(4, (.d (.bool true))), (6, (.d (.str [115, 101, 108, 101, 99, 116]))), (7, (.d (.int .i64 x))), (8, (.d (.int .i64 y))), (9, (.d (.int .i64 z)))]) (H' := [some (.cells [(.d (.int .i64 x)), (.d (.int .i64 y)), (.d (.int .i64 z))]), none, none, none, none, none, none, none, none, none, some (.cells [(.d (.str [115, 101, 108, 101, 99, 116])), (.d (.bool true)), (.d (.bool false)), (.d (.bool false)), (.d (.list [])), (.d (.list [[(.str [98, 111, 111, 108]), (.str []), (.list [])], [(.str [65]), (.str []), (.list [])], [(.str [65]), (.str []), (.list [])]])), (.d (.str [65])), (.d (.str [])), (.d (.list [])), (.d (.list []))])]) (by kernel_rfl) ?_
    refine WC.ret ?_
    exact RetQ.ret (by kernel_rfl) rfl
  · refine so hW 3 (tm' := [(3, (.ptr 0 3 0)), (4, (.d (.bool false))), (6, (.d (.str [115, 105, 103, 110])))]) (H' := [some (.cells [(.d (.int .i64 x)), (.d (.int .i64 y)), (.d (.int .i64 z))])]) (by kernel_rfl) ?_
    refine WO.nil ?_
    refine sn hW 1 (tm' := [(4, (.d (.bool false))), (6, (.d (.str [115, 105, 103, 110]))), (7, (.d (.int .i64 x))), (8, (.d (.int .i64 y))), (9, (.d (.int .i64 z)))]) (H' := [some (.cells [(.d (.int .i64 x)), (.d (.int .i64 y)), (.d (.int .i64 z))]), none, none, none, none, none, none, none, none, none]) (by kernel_rfl) ?_
    refine WC.seq ?_
    refine sn hW 2 (tm' := [(4, (.d (.bool false))), (6, (.d (.str [115, 105, 103, 110]))), (7, (.d (.int .i64 x))), (8, (.d (.int .i64 y))), (9, (.d (.int .i64 z))), (51, (.d (.bool true)))]) (H' := [some (.cells [(.d (.int .i64 x)), (.d (.int .i64 y)), (.d (.int .i64 z))]), none, none, none, none, none, none, none, none, none, some (.cells [(.d (.str [115, 105, 103, 110])), (.d (.bool true)), (.d (.bool false)), (.d (.bool false)), (.d (.list [])), (.d (.list [[(.str [105, 110, 116]), (.str []), (.list [])]])), (.d (.str [105, 110, 116])), (.d (.str [])), (.d (.list [])), (.d (.list []))])]) (by kernel_rfl) ?_
    refine WC.cond (t := true) (by kernel_rfl) ?_
    refine sn hW 3 (tm' := [(4, (.d (.bool true))), (6, (.d (.str [115, 105, 103, 110]))), (7, (.d (.int .i64 x))), (8, (.d (.int .i64 y))), (9, (.d (.int .i64 z)))]) (H' := [some (.cells [(.d (.int .i64 x)), (.d (.int .i64 y)), (.d (.int .i64 z))]), none, none, none, none, none, none, none, none, none, some (.cells [(.d (.str [115, 105, 103, 110])), (.d (.bool true)), (.d (.bool false)), (.d (.bool false)), (.d (.list [])), (.d (.list [[(.str [105, 110, 116]), (.str []), (.list [])]])), (.d (.str [105, 110, 116])), (.d (.str [])), (.d (.list [])), (.d (.list []))])]) (by kernel_rfl) ?_
    refine WC.ret ?_
    exact RetQ.ret (by kernel_rfl) rfl
  · refine so hW 3 (tm' := [(3, (.ptr 0 3 0)), (4, (.d (.bool false))), (6, (.d (.str [115, 117, 98])))]) (H' := [some (.cells [(.d (.int .i64 x)), (.d (.int .i64 y)), (.d (.int .i64 z))])]) (by kernel_rfl) ?_
    refine WO.nil ?_
    refine sn hW 1 (tm' := [(4, (.d (.bool false))), (6, (.d (.str [115, 117, 98]))), (7, (.d (.int .i64 x))), (8, (.d (.int .i64 y))), (9, (.d (.int .i64 z)))]) (H' := [some (.cells [(.d (.int .i64 x)), (.d (.int .i64 y)), (.d (.int .i64 z))]), none, none, none, none, none, none, none, none, none]) (by kernel_rfl) ?_
    refine WC.seq ?_
    refine sn hW 2 (tm' := [(4, (.d (.bool false))), (6, (.d (.str [115, 117, 98]))), (7, (.d (.int .i64 x))), (8, (.d (.int .i64 y))), (9, (.d (.int .i64 z))), (51, (.d (.bool false)))]) (H' := [some (.cells [(.d (.int .i64 x)), (.d (.int .i64 y)), (.d (.int .i64 z))]), none, none, none, none, none, none, none, none, none, some (.cells [(.d (.str [115, 117, 98])), (.d (.bool true)), (.d (.bool false)), (.d (.bool false)), (.d (.list [])), (.d (.list [[(.str [105, 110, 116]), (.str []), (.list [])], [(.str [105, 110, 116]), (.str []), (.list [])]])), (.d (.str [105, 110, 116])), (.d (.str [])), (.d (.list [])), (.d (.list []))])]) (by kernel_rfl) ?_
    refine WC.cond (t := false) (by kernel_rfl) ?_
    refine WC.skip ?_
    refine WC.seq ?_
    refine sn hW 1 (tm' := [(4, (.d (.bool false))), (6, (.d (.str [115, 117, 98]))), (7, (.d (.int .i64 x))), (8, (.d (.int .i64 y))), (9, (.d (.int .i64 z))), (97, (.d (.bool false)))]) (H' := [some (.cells [(.d (.int .i64 x)), (.d (.int .i64 y)), (.d (.int .i64 z))]), none, none, none, none, none, none, none, none, none, some (.cells [(.d (.str [115, 117, 98])), (.d (.bool true)), (.d (.bool false)), (.d (.bool false)), (.d (.list [])), (.d (.list [[(.str [105, 110, 116]), (.str []), (.list [])], [(.str [105, 110, 116]), (.str []), (.list [])]])), (.d (.str [105, 110, 116])), (.d (.str [])), (.d (.list [])), (.d (.list []))])]) (by kernel_rfl) ?_
    refine WC.cond (t := false) (by kernel_rfl) ?_
    refine WC.skip ?_
    refine WC.seq ?_
    refine sn hW 1 (tm' := [(4, (.d (.bool false))), (6, (.d (.str [115, 117, 98]))), (7, (.d (.int .i64 x))), (120, (.d (.bool false)))]) (H' := [some (.cells [(.d (.int .i64 x)), (.d (.int .i64 y)), (.d (.int .i64 z))]), none, none, none, none, none, none, none, none, none, some (.cells [(.d (.str [115, 117, 98])), (.d (.bool true)), (.d (.bool false)), (.d (.bool false)), (.d (.list [])), (.d (.list [[(.str [105, 110, 116]), (.str []), (.list [])], [(.str [105, 110, 116]), (.str []), (.list [])]])), (.d (.str [105, 110, 116])), (.d (.str [])), (.d (.list [])), (.d (.list []))])]) (by kernel_rfl) ?_
    refine WC.cond (t := false) (by kernel_rfl) ?_
    refine WC.skip ?_
    refine WC.seq ?_
    refine sn hW 1 (tm' := [(4, (.d (.bool false))), (6, (.d (.str [115, 117, 98]))), (7, (.d (.int .i64 x))), (133, (.d (.bool false)))]) (H' := [some (.cells [(.d (.int .i64 x)), (.d (.int .i64 y)), (.d (.int .i64 z))]), none, none, none, none, none, none, none, none, none, some (.cells [(.d (.str [115, 117, 98])), (.d (.bool true)), (.d (.bool false)), (.d (.bool false)), (.d (.list [])), (.d (.list [[(.str [105, 110, 116]), (.str []), (.list [])], [(.str [105, 110, 116]), (.str []), (.list [])]])), (.d (.str [105, 110, 116])), (.d (.str [])), (.d (.list [])), (.d (.list []))])]) (by kernel_rfl) ?_
    refine WC.cond (t := false) (by kernel_rfl) ?_
    refine WC.skip ?_
    refine WC.seq ?_
    refine sn hW 2 (tm' := [(4, (.d (.bool false))), (6, (.d (.str [115, 117, 98]))), (7, (.d (.int .i64 x))), (161, (.d (.bool false)))]) (H' := [some (.cells [(.d (.int .i64 x)), (.d (.int .i64 y)), (.d (.int .i64 z))]), none, none, none, none, none, none, none, none, none, some (.cells [(.d (.str [115, 117, 98])), (.d (.bool true)), (.d (.bool false)), (.d (.bool false)), (.d (.list [])), (.d (.list [[(.str [105, 110, 116]), (.str []), (.list [])], [(.str [105, 110, 116]), (.str []), (.list [])]])), (.d (.str [105, 110, 116])), (.d (.str [])), (.d (.list [])), (.d (.list []))])]) (by kernel_rfl) ?_
    refine WC.cond (t := false) (by kernel_rfl) ?_
    refine WC.skip ?_
    refine sn hW 2 (tm' := [(4, (.d (.bool true)))]) (H' := [some (.cells [(.d (.int .i64 x)), (.d (.int .i64 y)), (.d (.int .i64 z))]), none, none, none, none, none, none, none, none, none, some (.cells [(.d (.str [115, 117, 98])), (.d (.bool true)), (.d (.bool false)), (.d (.bool false)), (.d (.list [])), (.d (.list [[(.str [105, 110, 116]), (.str []), (.list [])], [(.str [105, 110, 116]), (.str []), (.list [])]])), (.d (.str [105, 110, 116])), (.d (.str [])), (.d (.list [])), (.d (.list []))])]) (by kernel_rfl) ?_
    refine WC.ret ?_
    exact RetQ.ret (by kernel_rfl) rfl
  · refine so hW 3 (tm' := [(3, (.ptr 0 3 0)), (4, (.d (.bool false))), (6, (.d (.str [116, 97, 107, 101])))]) (H' := [some (.cells [(.d (.int .i64 x)), (.d (.int .i64 y)), (.d (.int .i64 z))])]) (by kernel_rfl) ?_
    refine WO.nil ?_
    refine sn hW 1 (tm' := [(4, (.d (.bool false))), (6, (.d (.str [116, 97, 107, 101]))), (7, (.d (.int .i64 x))), (8, (.d (.int .i64 y))), (9, (.d (.int .i64 z)))]) (H' := [some (.cells [(.d (.int .i64 x)), (.d (.int .i64 y)), (.d (.int .i64 z))]), none, none, none, none, none, none, none, none, none]) (by kernel_rfl) ?_
    refine WC.seq ?_
    refine sn hW 2 (tm' := [(4, (.d (.bool false))), (6, (.d (.str [116, 97, 107, 101]))), (7, (.d (.int .i64 x))), (8, (.d (.int .i64 y))), (9, (.d (.int .i64 z))), (51, (.d (.bool true)))]) (H' := [some (.cells [(.d (.int .i64 x)), (.d (.int .i64 y)), (.d (.int .i64 z))]), none, none, none, none, none, none, none, none, none, some (.cells [(.d (.str [116, 97, 107, 101])), (.d (.bool false)), (.d (.bool false)), (.d (.bool false)), (.d (.list [[(.str [107])]])), (.d (.list [[(.str [65]), (.str []), (.list [[(.int .i64 0), (.list [[(.str [110]), (.int .i64 1)]])]])]])), (.d (.str [65])), (.d (.str [])), (.d (.list [[(.int .i64 0), (.list [[(.str [107]), (.int .i64 1)]])]])), (.d (.list [[(.int .i64 0), (.list [[(.str [107]), (.int .i64 1)]])], [(.int .i64 0), (.list [[(.str [107]), (.int .i64 (-1))], [(.str [110]), (.int .i64 1)]])]]))])]) (by kernel_rfl) ?_
    refine WC.cond (t := true) (by kernel_rfl) ?_
    refine sn hW 3 (tm' := [(4, (.d (.bool true))), (6, (.d (.str [116, 97, 107, 101]))), (7, (.d (.int .i64 x))), (8, (.d (.int .i64 y))), (9, (.d (.int .i64 z)))]) (H' := [some (.cells [(.d (.int .i64 x)), (.d (.int .i64 y)), (.d (.int .i64 z))]), none, none, none, none, none, none, none, none, none, some (.cells [(.d (.str [116, 97, 107, 101])), (.d (.bool false)), (.d (.bool false)), (.d (.bool false)), (.d (.list [[(.str [107])]])), (.d (.list [[(.str [65]), (.str []), (.list [[(.int .i64 0), (.list [[(.str [110]), (.int .i64 1)]])]])]])), (.d (.str [65])), (.d (.str [])), (.d (.list [[(.int .i64 0), (.list [[(.str [107]), (.int .i64 1)]])]])), (.d (.list [[(.int .i64 0), (.list [[(.str [107]), (.int .i64 1)]])], [(.int .i64 0), (.list [[(.str [107]), (.int .i64 (-1))], [(.str [110]), (.int .i64 1)]])]]))])]) (by kernel_rfl) ?_
    refine WC.ret ?_
    exact RetQ.ret (by kernel_rfl) rfl
  · refine so hW 3 (tm' := [(3, (.ptr 0 3 0)), (4, (.d (.bool false))), (6, (.d (.str [116, 111, 105, 110, 116])))]) (H' := [some (.cells [(.d (.int .i64 x)), (.d (.int .i64 y)), (.d (.int .i64 z))])]) (by kernel_rfl) ?_
    refine WO.nil ?_
    refine sn hW 1 (tm' := [(4, (.d (.bool false))), (6, (.d (.str [116, 111, 105, 110, 116]))), (7, (.d (.int .i64 x))), (8, (.d (.int .i64 y))), (9, (.d (.int .i64 z)))]) (H' := [some (.cells [(.d (.int .i64 x)), (.d (.int .i64 y)), (.d (.int .i64 z))]), none, none, none, none, none, none, none, none, none]) (by kernel_rfl) ?_
    refine WC.seq ?_
    refine sn hW 2 (tm' := [(4, (.d (.bool false))), (6, (.d (.str [116, 111, 105, 110, 116]))), (7, (.d (.int .i64 x))), (8, (.d (.int .i64 y))), (9, (.d (.int .i64 z))), (51, (.d (.bool true)))]) (H' := [some (.cells [(.d (.int .i64 x)), (.d (.int .i64 y)), (.d (.int .i64 z))]), none, none, none, none, none, none, none, none, none, some (.cells [(.d (.str [116, 111, 105, 110, 116])), (.d (.bool true)), (.d (.bool false)), (.d (.bool false)), (.d (.list [])), (.d (.list [[(.str [98, 111, 111, 108]), (.str []), (.list [])]])), (.d (.str [105, 110, 116])), (.d (.str [])), (.d (.list [])), (.d (.list []))])]) (by kernel_rfl) ?_
    refine WC.cond (t := true) (by kernel_rfl) ?_
    refine sn hW 3 (tm' := [(4, (.d (.bool true))), (6, (.d (.str [116, 111, 105, 110, 116]))), (7, (.d (.int .i64 x))), (8, (.d (.int .i64 y))), (9, (.d (.int .i64 z)))]) (H' := [some (.cells [(.d (.int .i64 x)), (.d (.int .i64 y)), (.d (.int .i64 z))]), none, none, none, none, none, none, none, none, none, some (.cells [(.d (.str [116, 111, 105, 110, 116])), (.d (.bool true)), (.d (.bool false)), (.d (.bool false)), (.d (.list [])), (.d (.list [[(.str [98, 111, 111, 108]), (.str []), (.list [])]])), (.d (.str [105, 110, 116])), (.d (.str [])), (.d (.list [])), (.d (.list []))])]) (by kernel_rfl) ?_
    refine WC.ret ?_
    exact RetQ.ret (by kernel_rfl) rfl
  · refine so hW 3 (tm' := [(3, (.ptr 0 3 0)), (4, (.d (.bool false))), (6, (.d (.str [116, 114, 97, 110, 115, 112, 111, 115, 101])))]) (H' := [some (.cells [(.d (.int .i64 x)), (.d (.int .i64 y)), (.d (.int .i64 z))])]) (by kernel_rfl) ?_
    refine WO.nil ?_
    refine sn hW 1 (tm' := [(4, (.d (.bool false))), (6, (.d (.str [116, 114, 97, 110, 115, 112, 111, 115, 101]))), (7, (.d (.int .i64 x))), (8, (.d (.int .i64 y))), (9, (.d (.int .i64 z)))]) (H' := [some (.cells [(.d (.int .i64 x)), (.d (.int .i64 y)), (.d (.int .i64 z))]), none, none, none, none, none, none, none, none, none]) (by kernel_rfl) ?_
    refine WC.seq ?_
    refine sn hW 2 (tm' := [(4, (.d (.bool false))), (6, (.d (.str [116, 114, 97, 110, 115, 112, 111, 115, 101]))), (7, (.d (.int .i64 x))), (8, (.d (.int .i64 y))), (9, (.d (.int .i64 z))), (51, (.d (.bool true)))]) (H' := [some (.cells [(.d (.int .i64 x)), (.d (.int .i64 y)), (.d (.int .i64 z))]), none, none, none, none, none, none, none, none, none, some (.cells [(.d (.str [116, 114, 97, 110, 115, 112, 111, 115, 101])), (.d (.bool false)), (.d (.bool false)), (.d (.bool false)), (.d (.list [])), (.d (.list [[(.str [65]), (.str []), (.list [[(.int .i64 0), (.list [[(.str [110]), (.int .i64 1)]])], [(.int .i64 0), (.list [[(.str [109]), (.int .i64 1)]])]])]])), (.d (.str [65])), (.d (.str [])), (.d (.list [[(.int .i64 0), (.list [[(.str [109]), (.int .i64 1)]])], [(.int .i64 0), (.list [[(.str [110]), (.int .i64 1)]])]])), (.d (.list []))])]) (by kernel_rfl) ?_
    refine WC.cond (t := true) (by kernel_rfl) ?_
    refine sn hW 3 (tm' := [(4, (.d (.bool true))), (6, (.d (.str [116, 114, 97, 110, 115, 112, 111, 115, 101]))), (7, (.d (.int .i64 x))), (8, (.d (.int .i64 y))), (9, (.d (.int .i64 z)))]) (H' := [some (.cells [(.d (.int .i64 x)), (.d (.int .i64 y)), (.d (.int .i64 z))]), none, none, none, none, none, none, none, none, none, some (.cells [(.d (.str [116, 114, 97, 110, 115, 112, 111, 115, 101])), (.d (.bool false)), (.d (.bool false)), (.d (.bool false)), (.d (.list [])), (.d (.list [[(.str [65]), (.str []), (.list [[(.int .i64 0), (.list [[(.str [110]), (.int .i64 1)]])], [(.int .i64 0), (.list [[(.str [109]), (.int .i64 1)]])]])]])), (.d (.str [65])), (.d (.str [])), (.d (.list [[(.int .i64 0), (.list [[(.str [109]), (.int .i64 1)]])], [(.int .i64 0), (.list [[(.str [110]), (.int .i64 1)]])]])), (.d (.list []))])]) (by kernel_rfl) ?_
    refine WC.ret ?_
    exact RetQ.ret (by kernel_rfl) rfl
  · refine so hW 3 (tm' := [(3, (.ptr 0 3 0)), (4, (.d (.bool false))), (6, (.d (.str [117, 112, 100, 97, 116, 101])))]) (H' := [some (.cells [(.d (.int .i64 x)), (.d (.int .i64 y)), (.d (.int .i64 z))])]) (by kernel_rfl) ?_
    refine WO.nil ?_
    refine sn hW 1 (tm' := [(4, (.d (.bool false))), (6, (.d (.str [117, 112, 100, 97, 116, 101]))), (7, (.d (.int .i64 x))), (8, (.d (.int .i64 y))), (9, (.d (.int .i64 z)))]) (H' := [some (.cells [(.d (.int .i64 x)), (.d (.int .i64 y)), (.d (.int .i64 z))]), none, none, none, none, none, none, none, none, none]) (by kernel_rfl) ?_
    refine WC.seq ?_
    refine sn hW 2 (tm' := [(4, (.d (.bool false))), (6, (.d (.str [117, 112, 100, 97, 116, 101]))), (7, (.d (.int .i64 x))), (8, (.d (.int .i64 y))), (9, (.d (.int .i64 z))), (51, (.d (.bool true)))]) (H' := [some (.cells [(.d (.int .i64 x)), (.d (.int .i64 y)), (.d (.int .i64 z))]), none, none, none, none, none, none, none, none, none, some (.cells [(.d (.str [117, 112, 100, 97, 116, 101])), (.d (.bool false)), (.d (.bool false)), (.d (.bool true)), (.d (.list [])), (.d (.list [[(.str [65]), (.str []), (.list [[(.int .i64 0), (.list [[(.str [110]), (.int .i64 1)]])]])], [(.str [105, 110, 116]), (.str []), (.list [])], [(.str [65]), (.str []), (.list [])]])), (.d (.str [65])), (.d (.str [])), (.d (.list [[(.int .i64 0), (.list [[(.str [110]), (.int .i64 1)]])]])), (.d (.list []))])]) (by kernel_rfl) ?_
    refine WC.cond (t := true) (by kernel_rfl) ?_
    refine sn hW 3 (tm' := [(4, (.d (.bool true))), (6, (.d (.str [117, 112, 100, 97, 116, 101]))), (7, (.d (.int .i64 x))), (8, (.d (.int .i64 y))), (9, (.d (.int .i64 z)))]) (H' := [some (.cells [(.d (.int .i64 x)), (.d (.int .i64 y)), (.d (.int .i64 z))]), none, none, none, none, none, none, none, none, none, some (.cells [(.d (.str [117, 112, 100, 97, 116, 101])), (.d (.bool false)), (.d (.bool false)), (.d (.bool true)), (.d (.list [])), (.d (.list [[(.str [65]), (.str []), (.list [[(.int .i64 0), (.list [[(.str [110]), (.int .i64 1)]])]])], [(.str [105, 110, 116]), (.str []), (.list [])], [(.str [65]), (.str []), (.list [])]])), (.d (.str [65])), (.d (.str [])), (.d (.list [[(.int .i64 0), (.list [[(.str [110]), (.int .i64 1)]])]])), (.d (.list []))])]) (by kernel_rfl) ?_
    refine WC.ret ?_
    exact RetQ.ret (by kernel_rfl) rfl
  · refine so hW 3 (tm' := [(3, (.ptr 0 3 0)), (4, (.d (.bool false))), (6, (.d (.str [119, 105, 110, 100, 111, 119, 115])))]) (H' := [some (.cells [(.d (.int .i64 x)), (.d (.int .i64 y)), (.d (.int .i64 z))])]) (by kernel_rfl) ?_
    refine WO.nil ?_
    refine sn hW 1 (tm' := [(4, (.d (.bool false))), (6, (.d (.str [119, 105, 110, 100, 111, 119, 115]))), (7, (.d (.int .i64 x))), (8, (.d (.int .i64 y))), (9, (.d (.int .i64 z)))]) (H' := [some (.cells [(.d (.int .i64 x)), (.d (.int .i64 y)), (.d (.int .i64 z))]), none, none, none, none, none, none, none, none, none]) (by kernel_rfl) ?_
    refine WC.seq ?_
    refine sn hW 2 (tm' := [(4, (.d (.bool false))), (6, (.d (.str [119, 105, 110, 100, 111, 119, 115]))), (7, (.d (.int .i64 x))), (8, (.d (.int .i64 y))), (9, (.d (.int .i64 z))), (51, (.d (.bool true)))]) (H' := [some (.cells [(.d (.int .i64 x)), (.d (.int .i64 y)), (.d (.int .i64 z))]), none, none, none, none, none, none, none, none, none, some (.cells [(.d (.str [119, 105, 110, 100, 111, 119, 115])), (.d (.bool false)), (.d (.bool false)), (.d (.bool false)), (.d (.list [[(.str [107])]])), (.d (.list [[(.str [65]), (.str []), (.list [[(.int .i64 0), (.list [[(.str [110]), (.int .i64 1)]])]])]])), (.d (.str [65])), (.d (.str [])), (.d (.list [[(.int .i64 1), (.list [[(.str [107]), (.int .i64 (-1))], [(.str [110]), (.int .i64 1)]])], [(.int .i64 0), (.list [[(.str [107]), (.int .i64 1)]])]])), (.d (.list [[(.int .i64 0), (.list [[(.str [107]), (.int .i64 1)]])], [(.int .i64 0), (.list [[(.str [107]), (.int .i64 (-1))], [(.str [110]), (.int .i64 1)]])]]))])]) (by kernel_rfl) ?_
    refine WC.cond (t := true) (by kernel_rfl) ?_
    refine sn hW 3 (tm' := [(4, (.d (.bool true))), (6, (.d (.str [119, 105, 110, 100, 111, 119, 115]))), (7, (.d (.int .i64 x))), (8, (.d (.int .i64 y))), (9, (.d (.int .i64 z)))]) (H' := [some (.cells [(.d (.int .i64 x)), (.d (.int .i64 y)), (.d (.int .i64 z))]), none, none, none, none, none, none, none, none, none, some (.cells [(.d (.str [119, 105, 110, 100, 111, 119, 115])), (.d (.bool false)), (.d (.bool false)), (.d (.bool false)), (.d (.list [[(.str [107])]])), (.d (.list [[(.str [65]), (.str []), (.list [[(.int .i64 0), (.list [[(.str [110]), (.int .i64 1)]])]])]])), (.d (.str [65])), (.d (.str [])), (.d (.list [[(.int .i64 1), (.list [[(.str [107]), (.int .i64 (-1))], [(.str [110]), (.int .i64 1)]])], [(.int .i64 0), (.list [[(.str [107]), (.int .i64 1)]])]])), (.d (.list [[(.int .i64 0), (.list [[(.str [107]), (.int .i64 1)]])], [(.int .i64 0), (.list [[(.str [107]), (.int .i64 (-1))], [(.str [110]), (.int .i64 1)]])]]))])]) (by kernel_rfl) ?_
    refine WC.ret ?_
    exact RetQ.ret (by kernel_rfl) rfl
  · refine so hW 3 (tm' := [(3, (.ptr 0 3 0)), (4, (.d (.bool false))), (6, (.d (.str [120, 111, 114])))]) (H' := [some (.cells [(.d (.int .i64 x)), (.d (.int .i64 y)), (.d (.int .i64 z))])]) (by kernel_rfl) ?_
    refine WO.nil ?_
    refine sn hW 1 (tm' := [(4, (.d (.bool false))), (6, (.d (.str [120, 111, 114]))), (7, (.d (.int .i64 x))), (8, (.d (.int .i64 y))), (9, (.d (.int .i64 z)))]) (H' := [some (.cells [(.d (.int .i64 x)), (.d (.int .i64 y)), (.d (.int .i64 z))]), none, none, none, none, none, none, none, none, none]) (by kernel_rfl) ?_
    refine WC.seq ?_
    refine sn hW 2 (tm' := [(4, (.d (.bool false))), (6, (.d (.str [120, 111, 114]))), (7, (.d (.int .i64 x))), (8, (.d (.int .i64 y))), (9, (.d (.int .i64 z))), (51, (.d (.bool false)))]) (H' := [some (.cells [(.d (.int .i64 x)), (.d (.int .i64 y)), (.d (.int .i64 z))]), none, none, none, none, none, none, none, none, none, some (.cells [(.d (.str [120, 111, 114])), (.d (.bool true)), (.d (.bool false)), (.d (.bool false)), (.d (.list [])), (.d (.list [[(.str [98, 111, 111, 108]), (.str []), (.list [])], [(.str [98, 111, 111, 108]), (.str []), (.list [])]])), (.d (.str [98, 111, 111, 108])), (.d (.str [])), (.d (.list [])), (.d (.list []))])]) (by kernel_rfl) ?_
    refine WC.cond (t := false) (by kernel_rfl) ?_
    refine WC.skip ?_
    refine WC.keep [4, 6, 7, 8, 9] ?_
    refine tail_xor hW x y z ?_
    rfl
end Fw.Tz.A10
