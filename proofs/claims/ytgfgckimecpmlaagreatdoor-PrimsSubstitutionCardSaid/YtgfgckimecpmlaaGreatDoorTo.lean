/-
  What prims.Sig answers at abs, chunk, eq, index, max, ne, reverse, take, windows.
-/
import Derived.Test.YtgfgckimecpmlaaGreatDoorTn
set_option linter.unusedVariables false
set_option maxRecDepth 1000000
set_option maxHeartbeats 1000000
set_option linter.unusedSimpArgs false
namespace Fw.Tz.Yv
open Go Go.Proofs Fw.X Fw.Tz Fw.Tz.Va Fw.Tz.Yd Fw.Tz.Yn Fw.Tz.Ye Fw.Tz.Yq Fw.Tz.Yw
variable {W:World}
abbrev Ik:V:=.tuple [lY [97,98,115] true false false [] (.list [[.str [105,110,116],.str [],.list []]]) (.str [105,110,116]) (.str []) (.list []) (.list []),.d (.bool true)]
theorem Il(W:World):lZ W 40 44 [.d (.str [97,98,115])]=some Ik:=k_
abbrev Ay:V:=.tuple [lY [99,104,117,110,107] false true false [] (.list [[.str [65],.str [],.list [[.int .i64 0,.list [[.str [110],.int .i64 1]]]]]]) (.str [65]) (.str []) (.list [[.int .i64 0,.list [[.str [110],.int .i64 1]]],[.int .i64 1,.list []]]) (.list []),.d (.bool true)]
theorem aI(W:World):lZ W 40 44 [.d (.str [99,104,117,110,107])]=some Ay:=k_
abbrev L4:V:=.tuple [lY [101,113] true false false [] (.list [[.str [65],.str [],.list []],[.str [65],.str [],.list []]]) (.str [98,111,111,108]) (.str []) (.list []) (.list []),.d (.bool true)]
theorem L5(W:World):lZ W 40 44 [.d (.str [101,113])]=some L4:=k_
abbrev Az:V:=.tuple [lY [105,110,100,101,120] false false true [] (.list [[.str [65],.str [],.list [[.int .i64 0,.list [[.str [110],.int .i64 1]]]]],[.str [105,110,116],.str [],.list []]]) (.str [65]) (.str []) (.list []) (.list []),.d (.bool true)]
theorem AA(W:World):lZ W 40 44 [.d (.str [105,110,100,101,120])]=some Az:=k_
abbrev Im:V:=.tuple [lY [109,97,120] true false false [] (.list [[.str [105,110,116],.str [],.list []],[.str [105,110,116],.str [],.list []]]) (.str [105,110,116]) (.str []) (.list []) (.list []),.d (.bool true)]
theorem Io(W:World):lZ W 40 44 [.d (.str [109,97,120])]=some Im:=k_
abbrev L6:V:=.tuple [lY [110,101] true false false [] (.list [[.str [65],.str [],.list []],[.str [65],.str [],.list []]]) (.str [98,111,111,108]) (.str []) (.list []) (.list []),.d (.bool true)]
theorem L7(W:World):lZ W 40 44 [.d (.str [110,101])]=some L6:=k_
abbrev um:V:=.tuple [lY [114,101,118,101,114,115,101] false false false [] (.list [[.str [65],.str [],.list [[.int .i64 0,.list [[.str [110],.int .i64 1]]]]]]) (.str [65]) (.str []) (.list [[.int .i64 0,.list [[.str [110],.int .i64 1]]]]) (.list []),.d (.bool true)]
theorem uo(W:World):lZ W 40 44 [.d (.str [114,101,118,101,114,115,101])]=some um:=k_
abbrev Dh:V:=.tuple [lY [116,97,107,101] false false false [[107]] (.list [[.str [65],.str [],.list [[.int .i64 0,.list [[.str [110],.int .i64 1]]]]]]) (.str [65]) (.str []) (.list [[.int .i64 0,.list [[.str [107],.int .i64 1]]]]) (.list [[.int .i64 0,.list [[.str [107],.int .i64 1]]],[.int .i64 0,.list [[.str [107],.int .i64 (-1)],[.str [110],.int .i64 1]]]]),.d (.bool true)]
theorem ya(W:World):lZ W 40 44 [.d (.str [116,97,107,101])]=some Dh:=k_
abbrev uq:V:=.tuple [lY [119,105,110,100,111,119,115] false false false [[107]] (.list [[.str [65],.str [],.list [[.int .i64 0,.list [[.str [110],.int .i64 1]]]]]]) (.str [65]) (.str []) (.list [[.int .i64 1,.list [[.str [107],.int .i64 (-1)],[.str [110],.int .i64 1]]],[.int .i64 0,.list [[.str [107],.int .i64 1]]]]) (.list [[.int .i64 0,.list [[.str [107],.int .i64 1]]],[.int .i64 0,.list [[.str [107],.int .i64 (-1)],[.str [110],.int .i64 1]]]]),.d (.bool true)]
theorem ur(W:World):lZ W 40 44 [.d (.str [119,105,110,100,111,119,115])]=some uq:=k_
end Fw.Tz.Yv
/-
  What prims.Sig answers at add, diagonal, fill, iota, min, neg, select, toint, xor.
-/
namespace Fw.Tz.Yv
open Go Go.Proofs Fw.X Fw.Tz Fw.Tz.Va Fw.Tz.Yd Fw.Tz.Yn Fw.Tz.Ye Fw.Tz.Yq Fw.Tz.Yw
variable {W:World}
abbrev Ip:V:=.tuple [lY [97,100,100] true false false [] (.list [[.str [105,110,116],.str [],.list []],[.str [105,110,116],.str [],.list []]]) (.str [105,110,116]) (.str []) (.list []) (.list []),.d (.bool true)]
theorem Iq(W:World):lZ W 40 44 [.d (.str [97,100,100])]=some Ip:=k_
abbrev rA:V:=.tuple [lY [100,105,97,103,111,110,97,108] false false false [] (.list [[.str [65],.str [],.list [[.int .i64 0,.list [[.str [110],.int .i64 1]]],[.int .i64 0,.list [[.str [110],.int .i64 1]]]]]]) (.str [65]) (.str []) (.list [[.int .i64 0,.list [[.str [110],.int .i64 1]]]]) (.list []),.d (.bool true)]
theorem rB(W:World):lZ W 40 44 [.d (.str [100,105,97,103,111,110,97,108])]=some rA:=k_
abbrev Di:V:=.tuple [lY [102,105,108,108] false false false [[107]] (.list [[.str [65],.str [],.list []]]) (.str [65]) (.str []) (.list [[.int .i64 0,.list [[.str [107],.int .i64 1]]]]) (.list [[.int .i64 0,.list [[.str [107],.int .i64 1]]]]),.d (.bool true)]
theorem Dj(W:World):lZ W 40 44 [.d (.str [102,105,108,108])]=some Di:=k_
abbrev Dk:V:=.tuple [lY [105,111,116,97] false false false [[107]] (.list []) (.str [105,110,116]) (.str []) (.list [[.int .i64 0,.list [[.str [107],.int .i64 1]]]]) (.list [[.int .i64 0,.list [[.str [107],.int .i64 1]]]]),.d (.bool true)]
theorem Dl(W:World):lZ W 40 44 [.d (.str [105,111,116,97])]=some Dk:=k_
abbrev Ir:V:=.tuple [lY [109,105,110] true false false [] (.list [[.str [105,110,116],.str [],.list []],[.str [105,110,116],.str [],.list []]]) (.str [105,110,116]) (.str []) (.list []) (.list []),.d (.bool true)]
theorem Is(W:World):lZ W 40 44 [.d (.str [109,105,110])]=some Ir:=k_
abbrev It:V:=.tuple [lY [110,101,103] true false false [] (.list [[.str [105,110,116],.str [],.list []]]) (.str [105,110,116]) (.str []) (.list []) (.list []),.d (.bool true)]
theorem Iu(W:World):lZ W 40 44 [.d (.str [110,101,103])]=some It:=k_
abbrev wq:V:=.tuple [lY [115,101,108,101,99,116] true false false [] (.list [[.str [98,111,111,108],.str [],.list []],[.str [65],.str [],.list []],[.str [65],.str [],.list []]]) (.str [65]) (.str []) (.list []) (.list []),.d (.bool true)]
theorem wt(W:World):lZ W 40 44 [.d (.str [115,101,108,101,99,116])]=some wq:=k_
abbrev AB:V:=.tuple [lY [116,111,105,110,116] true false false [] (.list [[.str [98,111,111,108],.str [],.list []]]) (.str [105,110,116]) (.str []) (.list []) (.list []),.d (.bool true)]
theorem AC(W:World):lZ W 40 44 [.d (.str [116,111,105,110,116])]=some AB:=k_
abbrev Iv:V:=.tuple [lY [120,111,114] true false false [] (.list [[.str [98,111,111,108],.str [],.list []],[.str [98,111,111,108],.str [],.list []]]) (.str [98,111,111,108]) (.str []) (.list []) (.list []),.d (.bool true)]
theorem Iw(W:World):lZ W 40 44 [.d (.str [120,111,114])]=some Iv:=k_
end Fw.Tz.Yv
/-
  What prims.Sig answers at and, div, ge, le, mod, not, sign, transpose.
-/
namespace Fw.Tz.Yv
open Go Go.Proofs Fw.X Fw.Tz Fw.Tz.Va Fw.Tz.Yd Fw.Tz.Yn Fw.Tz.Ye Fw.Tz.Yq Fw.Tz.Yw
variable {W:World}
abbrev Ix:V:=.tuple [lY [97,110,100] true false false [] (.list [[.str [98,111,111,108],.str [],.list []],[.str [98,111,111,108],.str [],.list []]]) (.str [98,111,111,108]) (.str []) (.list []) (.list []),.d (.bool true)]
theorem Iy(W:World):lZ W 40 44 [.d (.str [97,110,100])]=some Ix:=k_
abbrev Iz:V:=.tuple [lY [100,105,118] true false false [] (.list [[.str [105,110,116],.str [],.list []],[.str [105,110,116],.str [],.list []]]) (.str [105,110,116]) (.str []) (.list []) (.list []),.d (.bool true)]
theorem IA(W:World):lZ W 40 44 [.d (.str [100,105,118])]=some Iz:=k_
abbrev L8:V:=.tuple [lY [103,101] true false false [] (.list [[.str [105,110,116],.str [],.list []],[.str [105,110,116],.str [],.list []]]) (.str [98,111,111,108]) (.str []) (.list []) (.list []),.d (.bool true)]
theorem L9(W:World):lZ W 40 44 [.d (.str [103,101])]=some L8:=k_
abbrev L':V:=.tuple [lY [108,101] true false false [] (.list [[.str [105,110,116],.str [],.list []],[.str [105,110,116],.str [],.list []]]) (.str [98,111,111,108]) (.str []) (.list []) (.list []),.d (.bool true)]
theorem L_(W:World):lZ W 40 44 [.d (.str [108,101])]=some L':=k_
abbrev IB:V:=.tuple [lY [109,111,100] true false false [] (.list [[.str [105,110,116],.str [],.list []],[.str [105,110,116],.str [],.list []]]) (.str [105,110,116]) (.str []) (.list []) (.list []),.d (.bool true)]
theorem IC(W:World):lZ W 40 44 [.d (.str [109,111,100])]=some IB:=k_
abbrev ID:V:=.tuple [lY [110,111,116] true false false [] (.list [[.str [98,111,111,108],.str [],.list []]]) (.str [98,111,111,108]) (.str []) (.list []) (.list []),.d (.bool true)]
theorem IE(W:World):lZ W 40 44 [.d (.str [110,111,116])]=some ID:=k_
abbrev Dm:V:=.tuple [lY [115,105,103,110] true false false [] (.list [[.str [105,110,116],.str [],.list []]]) (.str [105,110,116]) (.str []) (.list []) (.list []),.d (.bool true)]
theorem Dn(W:World):lZ W 40 44 [.d (.str [115,105,103,110])]=some Dm:=k_
abbrev pL:V:=.tuple [lY [116,114,97,110,115,112,111,115,101] false false false [] (.list [[.str [65],.str [],.list [[.int .i64 0,.list [[.str [110],.int .i64 1]]],[.int .i64 0,.list [[.str [109],.int .i64 1]]]]]]) (.str [65]) (.str []) (.list [[.int .i64 0,.list [[.str [109],.int .i64 1]]],[.int .i64 0,.list [[.str [110],.int .i64 1]]]]) (.list []),.d (.bool true)]
theorem pM(W:World):lZ W 40 44 [.d (.str [116,114,97,110,115,112,111,115,101])]=some pL:=k_
end Fw.Tz.Yv
/-
  What prims.Sig answers at append, drop, gt, lt, mul, or, sub, update.
-/
namespace Fw.Tz.Yv
open Go Go.Proofs Fw.X Fw.Tz Fw.Tz.Va Fw.Tz.Yd Fw.Tz.Yn Fw.Tz.Ye Fw.Tz.Yq Fw.Tz.Yw
variable {W:World}
abbrev wu:V:=.tuple [lY [97,112,112,101,110,100] false false false [] (.list [[.str [65],.str [],.list [[.int .i64 0,.list [[.str [110],.int .i64 1]]]]],[.str [65],.str [],.list [[.int .i64 0,.list [[.str [109],.int .i64 1]]]]]]) (.str [65]) (.str []) (.list [[.int .i64 0,.list [[.str [109],.int .i64 1],[.str [110],.int .i64 1]]]]) (.list []),.d (.bool true)]
theorem wv(W:World):lZ W 40 44 [.d (.str [97,112,112,101,110,100])]=some wu:=k_
abbrev Do:V:=.tuple [lY [100,114,111,112] false false false [[107]] (.list [[.str [65],.str [],.list [[.int .i64 0,.list [[.str [110],.int .i64 1]]]]]]) (.str [65]) (.str []) (.list [[.int .i64 0,.list [[.str [107],.int .i64 (-1)],[.str [110],.int .i64 1]]]]) (.list [[.int .i64 0,.list [[.str [107],.int .i64 1]]],[.int .i64 0,.list [[.str [107],.int .i64 (-1)],[.str [110],.int .i64 1]]]]),.d (.bool true)]
theorem Dp(W:World):lZ W 40 44 [.d (.str [100,114,111,112])]=some Do:=k_
abbrev Ma:V:=.tuple [lY [103,116] true false false [] (.list [[.str [105,110,116],.str [],.list []],[.str [105,110,116],.str [],.list []]]) (.str [98,111,111,108]) (.str []) (.list []) (.list []),.d (.bool true)]
theorem Mb(W:World):lZ W 40 44 [.d (.str [103,116])]=some Ma:=k_
abbrev Mc:V:=.tuple [lY [108,116] true false false [] (.list [[.str [105,110,116],.str [],.list []],[.str [105,110,116],.str [],.list []]]) (.str [98,111,111,108]) (.str []) (.list []) (.list []),.d (.bool true)]
theorem Md(W:World):lZ W 40 44 [.d (.str [108,116])]=some Mc:=k_
abbrev IF:V:=.tuple [lY [109,117,108] true false false [] (.list [[.str [105,110,116],.str [],.list []],[.str [105,110,116],.str [],.list []]]) (.str [105,110,116]) (.str []) (.list []) (.list []),.d (.bool true)]
theorem IG(W:World):lZ W 40 44 [.d (.str [109,117,108])]=some IF:=k_
abbrev Me:V:=.tuple [lY [111,114] true false false [] (.list [[.str [98,111,111,108],.str [],.list []],[.str [98,111,111,108],.str [],.list []]]) (.str [98,111,111,108]) (.str []) (.list []) (.list []),.d (.bool true)]
theorem Mf(W:World):lZ W 40 44 [.d (.str [111,114])]=some Me:=k_
abbrev IH:V:=.tuple [lY [115,117,98] true false false [] (.list [[.str [105,110,116],.str [],.list []],[.str [105,110,116],.str [],.list []]]) (.str [105,110,116]) (.str []) (.list []) (.list []),.d (.bool true)]
theorem II(W:World):lZ W 40 44 [.d (.str [115,117,98])]=some IH:=k_
abbrev wx:V:=.tuple [lY [117,112,100,97,116,101] false false true [] (.list [[.str [65],.str [],.list [[.int .i64 0,.list [[.str [110],.int .i64 1]]]]],[.str [105,110,116],.str [],.list []],[.str [65],.str [],.list []]]) (.str [65]) (.str []) (.list [[.int .i64 0,.list [[.str [110],.int .i64 1]]]]) (.list []),.d (.bool true)]
theorem wy(W:World):lZ W 40 44 [.d (.str [117,112,100,97,116,101])]=some wx:=k_
end Fw.Tz.Yv
/-
  What prims.Sig answers at the names, as a table.
-/
namespace Fw.Tz.Yv
open Go Go.Proofs Fw.X Fw.Tz Fw.Tz.Va Fw.Tz.Yd Fw.Tz.Yn Fw.Tz.Ye Fw.Tz.Yq Fw.Tz.Yw
variable {W:World}
def XE:List (List UInt8×V):=[([97,98,115],Ik),([97,100,100],Ip),([97,110,100],Ix),([97,112,112,101,110,100],wu),([99,104,117,110,107],Ay),([100,105,97,103,111,110,97,108],rA),([100,105,118],Iz),([100,114,111,112],Do),([101,113],L4),([102,105,108,108],Di),([103,101],L8),([103,116],Ma),([105,110,100,101,120],Az),([105,111,116,97],Dk),([108,101],L'),([108,116],Mc),([109,97,120],Im),([109,105,110],Ir),([109,111,100],IB),([109,117,108],IF),([110,101],L6),([110,101,103],It),([110,111,116],ID),([111,114],Me),([114,101,118,101,114,115,101],um),([115,101,108,101,99,116],wq),([115,105,103,110],Dm),([115,117,98],IH),([116,97,107,101],Dh),([116,111,105,110,116],AB),([116,114,97,110,115,112,111,115,101],pL),([117,112,100,97,116,101],wx),([119,105,110,100,111,119,115],uq),([120,111,114],Iv)]
theorem Ov(hW:W0 W)(hA:aE W):∀q∈XE,PC P (gl W) 44 [.d (.str q.1)] q.2:=by
 intro q hq;simp only[XE,aaH,acN,or_false]at hq;rcases hq with rfl|rfl|rfl|rfl|rfl|rfl|rfl|rfl|rfl|rfl|rfl|rfl|rfl|rfl|rfl|rfl|rfl|rfl|rfl|rfl|rfl|rfl|rfl|rfl|rfl|rfl|rfl|rfl|rfl|rfl|rfl|rfl|rfl|rfl
 ·exact bP hW hA 40 _ _ _ (Il W)
 ·exact bP hW hA 40 _ _ _ (Iq W)
 ·exact bP hW hA 40 _ _ _ (Iy W)
 ·exact bP hW hA 40 _ _ _ (wv W)
 ·exact bP hW hA 40 _ _ _ (aI W)
 ·exact bP hW hA 40 _ _ _ (rB W)
 ·exact bP hW hA 40 _ _ _ (IA W)
 ·exact bP hW hA 40 _ _ _ (Dp W)
 ·exact bP hW hA 40 _ _ _ (L5 W)
 ·exact bP hW hA 40 _ _ _ (Dj W)
 ·exact bP hW hA 40 _ _ _ (L9 W)
 ·exact bP hW hA 40 _ _ _ (Mb W)
 ·exact bP hW hA 40 _ _ _ (AA W)
 ·exact bP hW hA 40 _ _ _ (Dl W)
 ·exact bP hW hA 40 _ _ _ (L_ W)
 ·exact bP hW hA 40 _ _ _ (Md W)
 ·exact bP hW hA 40 _ _ _ (Io W)
 ·exact bP hW hA 40 _ _ _ (Is W)
 ·exact bP hW hA 40 _ _ _ (IC W)
 ·exact bP hW hA 40 _ _ _ (IG W)
 ·exact bP hW hA 40 _ _ _ (L7 W)
 ·exact bP hW hA 40 _ _ _ (Iu W)
 ·exact bP hW hA 40 _ _ _ (IE W)
 ·exact bP hW hA 40 _ _ _ (Mf W)
 ·exact bP hW hA 40 _ _ _ (uo W)
 ·exact bP hW hA 40 _ _ _ (wt W)
 ·exact bP hW hA 40 _ _ _ (Dn W)
 ·exact bP hW hA 40 _ _ _ (II W)
 ·exact bP hW hA 40 _ _ _ (ya W)
 ·exact bP hW hA 40 _ _ _ (AC W)
 ·exact bP hW hA 40 _ _ _ (pM W)
 ·exact bP hW hA 40 _ _ _ (wy W)
 ·exact bP hW hA 40 _ _ _ (ur W)
 ·exact bP hW hA 40 _ _ _ (Iw W)
def Y7:Extra:=.n .e 44 (Ks XE) .e
theorem Ow(hW:W0 W)(hA:aE W):uM P (gl W) Y7:=⟨trivial,CZ (Ov hW hA),trivial⟩
def ktG:FT Nat:=(.n (.n (.n (.n (.n (.n .e 42 0 .e) 44 0 .e) 48 0 (.n .e 51 0 .e)) 59 0 (.n (.n (.n .e 88 0 .e) 89 0 .e) 94 0 (.n .e 97 0 .e))) 101 0 (.n (.n (.n (.n .e 104 0 .e) 107 0 .e) 108 0 (.n .e 110 0 .e)) 118 0 (.n (.n (.n .e 143 0 .e) 144 0 .e) 149 0 (.n .e 150 0 .e)))) 154 0 (.n (.n (.n (.n (.n .e 160 0 .e) 161 0 .e) 163 0 (.n .e 165 0 .e)) 167 0 (.n (.n (.n .e 170 0 .e) 172 0 .e) 173 0 (.n .e 175 0 .e))) 181 0 (.n (.n (.n (.n .e 200 0 .e) 203 0 .e) 206 0 (.n .e 232 0 .e)) 235 0 (.n (.n (.n .e 248 0 .e) 271 0 .e) 273 0 (.n .e 275 0 .e)))))
noncomputable def jM(W:World)(d:Nat):aT:=TY W ktG Y7 d
theorem IJ(hW:W0 W)(hA:aE W)(d:Nat):bt P (gl W) (jM W d):=BC hW (Ow hW hA) d
end Fw.Tz.Yv
/-
  Under of both sides at abs, append, drop, ge, iota, max, mul, not, select, take, update.
-/
namespace Fw.Tz.Yv
open Go Go.Proofs Fw.X Fw.Tz Fw.Tz.Va Fw.Tz.Yd Fw.Tz.Yn Fw.Tz.Ye Fw.Tz.Yq Fw.Tz.Yw
variable {W:World}
def oQ:bz:=⟨[⟨[65],[],[⟨0,[⟨[110],1⟩]⟩]⟩],⟨[65],[],[⟨0,[⟨[107],1⟩]⟩]⟩,[⟨0,[⟨[107],1⟩]⟩,⟨0,[⟨[107],-1⟩,⟨[110],1⟩]⟩]⟩
def uv:List Bd:=[⟨1,[110],⟨0,[]⟩,[],[],[]⟩,⟨3,[65],⟨0,[]⟩,[],[],[]⟩,⟨1,[107],⟨0,[]⟩,[],[],[]⟩]
theorem K5(W:World):jM W 40 45 [.d (.str [116,97,107,101]),.d (.int .i64 0)]=some (.tuple [qR oQ,.d (.int .i64 0)]):=k_
theorem K6(W:World):N0 W 40 90 [qR oQ]=some (.d (.list (uv.map Bd.aa))):=k_
theorem K7(W:World):N0 W 40 143 [qR oQ]=some (.d (.bool true)):=k_
theorem K8:S1 oQ [[107]] uv=true:=k_
end Fw.Tz.Yv
/-
  Under of both sides at add, diagonal, eq, gt, le, min, ne, or, sign, toint, windows.
-/
/-
  Under of both sides at and, div, fill, index, lt, mod, neg, reverse, sub, transpose, xor.
-/
/-
  Under of both sides at chunk, numbers 1 to 16.
-/
namespace Fw.Tz.Yv
open Go Go.Proofs Fw.X Fw.Tz Fw.Tz.Va Fw.Tz.Yd Fw.Tz.Yn Fw.Tz.Ye Fw.Tz.Yq Fw.Tz.Yw
variable {W:World}
def sC(n:Int):bz:=⟨[⟨[65],[],[⟨0,[⟨[110],n⟩]⟩]⟩],⟨[65],[],[⟨0,[⟨[110],1⟩]⟩,⟨n,[]⟩]⟩,[]⟩
def vC:List Bd:=[⟨1,[110],⟨0,[]⟩,[],[],[]⟩,⟨3,[65],⟨0,[]⟩,[],[],[]⟩]
end Fw.Tz.Yv
