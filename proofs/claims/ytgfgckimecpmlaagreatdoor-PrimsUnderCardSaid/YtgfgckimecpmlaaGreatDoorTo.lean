/-
  What prims.Sig answers at abs, chunk, eq, index, max, ne, reverse, take, windows.
-/
import Derived.Test.YtgfgckimecpmlaaGreatDoorTn
set_option linter.unusedVariables false
set_option maxRecDepth 1000000
set_option maxHeartbeats 1000000
set_option linter.unusedSimpArgs false
namespace Fw.Tz.Yv
open Go Go.Proofs Fw.X Fw.Tz Fw.Tz.Va Fw.Tz.Yd Fw.Tz.Yn Fw.Tz.Ye Fw.Tz.Yq Fw.Tz.Yw
variable {W:World}
abbrev Cw:V:=.tuple [jm [97,98,115] true false false [] (.list [[.str [105,110,116],.str [],.list []]]) (.str [105,110,116]) (.str []) (.list []) (.list []),.d (.bool true)]
theorem Cx(W:World):me W 40 44 [.d (.str [97,98,115])]=some Cw:=k_
abbrev uI:V:=.tuple [jm [99,104,117,110,107] false true false [] (.list [[.str [65],.str [],.list [[.int .i64 0,.list [[.str [110],.int .i64 1]]]]]]) (.str [65]) (.str []) (.list [[.int .i64 0,.list [[.str [110],.int .i64 1]]],[.int .i64 1,.list []]]) (.list []),.d (.bool true)]
theorem aK(W:World):me W 40 44 [.d (.str [99,104,117,110,107])]=some uI:=k_
abbrev Jx:V:=.tuple [jm [101,113] true false false [] (.list [[.str [65],.str [],.list []],[.str [65],.str [],.list []]]) (.str [98,111,111,108]) (.str []) (.list []) (.list []),.d (.bool true)]
theorem Jy(W:World):me W 40 44 [.d (.str [101,113])]=some Jx:=k_
abbrev uJ:V:=.tuple [jm [105,110,100,101,120] false false true [] (.list [[.str [65],.str [],.list [[.int .i64 0,.list [[.str [110],.int .i64 1]]]]],[.str [105,110,116],.str [],.list []]]) (.str [65]) (.str []) (.list []) (.list []),.d (.bool true)]
theorem uK(W:World):me W 40 44 [.d (.str [105,110,100,101,120])]=some uJ:=k_
abbrev Cy:V:=.tuple [jm [109,97,120] true false false [] (.list [[.str [105,110,116],.str [],.list []],[.str [105,110,116],.str [],.list []]]) (.str [105,110,116]) (.str []) (.list []) (.list []),.d (.bool true)]
theorem Cz(W:World):me W 40 44 [.d (.str [109,97,120])]=some Cy:=k_
abbrev Jz:V:=.tuple [jm [110,101] true false false [] (.list [[.str [65],.str [],.list []],[.str [65],.str [],.list []]]) (.str [98,111,111,108]) (.str []) (.list []) (.list []),.d (.bool true)]
theorem JA(W:World):me W 40 44 [.d (.str [110,101])]=some Jz:=k_
abbrev pb:V:=.tuple [jm [114,101,118,101,114,115,101] false false false [] (.list [[.str [65],.str [],.list [[.int .i64 0,.list [[.str [110],.int .i64 1]]]]]]) (.str [65]) (.str []) (.list [[.int .i64 0,.list [[.str [110],.int .i64 1]]]]) (.list []),.d (.bool true)]
theorem pc(W:World):me W 40 44 [.d (.str [114,101,118,101,114,115,101])]=some pb:=k_
abbrev yh:V:=.tuple [jm [116,97,107,101] false false false [[107]] (.list [[.str [65],.str [],.list [[.int .i64 0,.list [[.str [110],.int .i64 1]]]]]]) (.str [65]) (.str []) (.list [[.int .i64 0,.list [[.str [107],.int .i64 1]]]]) (.list [[.int .i64 0,.list [[.str [107],.int .i64 1]]],[.int .i64 0,.list [[.str [107],.int .i64 (-1)],[.str [110],.int .i64 1]]]]),.d (.bool true)]
theorem s5(W:World):me W 40 44 [.d (.str [116,97,107,101])]=some yh:=k_
abbrev pd:V:=.tuple [jm [119,105,110,100,111,119,115] false false false [[107]] (.list [[.str [65],.str [],.list [[.int .i64 0,.list [[.str [110],.int .i64 1]]]]]]) (.str [65]) (.str []) (.list [[.int .i64 1,.list [[.str [107],.int .i64 (-1)],[.str [110],.int .i64 1]]],[.int .i64 0,.list [[.str [107],.int .i64 1]]]]) (.list [[.int .i64 0,.list [[.str [107],.int .i64 1]]],[.int .i64 0,.list [[.str [107],.int .i64 (-1)],[.str [110],.int .i64 1]]]]),.d (.bool true)]
theorem pf(W:World):me W 40 44 [.d (.str [119,105,110,100,111,119,115])]=some pd:=k_
end Fw.Tz.Yv
/-
  What prims.Sig answers at add, diagonal, fill, iota, min, neg, select, toint, xor.
-/
namespace Fw.Tz.Yv
open Go Go.Proofs Fw.X Fw.Tz Fw.Tz.Va Fw.Tz.Yd Fw.Tz.Yn Fw.Tz.Ye Fw.Tz.Yq Fw.Tz.Yw
variable {W:World}
abbrev CA:V:=.tuple [jm [97,100,100] true false false [] (.list [[.str [105,110,116],.str [],.list []],[.str [105,110,116],.str [],.list []]]) (.str [105,110,116]) (.str []) (.list []) (.list []),.d (.bool true)]
theorem CB(W:World):me W 40 44 [.d (.str [97,100,100])]=some CA:=k_
abbrev nj:V:=.tuple [jm [100,105,97,103,111,110,97,108] false false false [] (.list [[.str [65],.str [],.list [[.int .i64 0,.list [[.str [110],.int .i64 1]]],[.int .i64 0,.list [[.str [110],.int .i64 1]]]]]]) (.str [65]) (.str []) (.list [[.int .i64 0,.list [[.str [110],.int .i64 1]]]]) (.list []),.d (.bool true)]
theorem nk(W:World):me W 40 44 [.d (.str [100,105,97,103,111,110,97,108])]=some nj:=k_
abbrev yi:V:=.tuple [jm [102,105,108,108] false false false [[107]] (.list [[.str [65],.str [],.list []]]) (.str [65]) (.str []) (.list [[.int .i64 0,.list [[.str [107],.int .i64 1]]]]) (.list [[.int .i64 0,.list [[.str [107],.int .i64 1]]]]),.d (.bool true)]
theorem yj(W:World):me W 40 44 [.d (.str [102,105,108,108])]=some yi:=k_
abbrev yk:V:=.tuple [jm [105,111,116,97] false false false [[107]] (.list []) (.str [105,110,116]) (.str []) (.list [[.int .i64 0,.list [[.str [107],.int .i64 1]]]]) (.list [[.int .i64 0,.list [[.str [107],.int .i64 1]]]]),.d (.bool true)]
theorem yl(W:World):me W 40 44 [.d (.str [105,111,116,97])]=some yk:=k_
abbrev CD:V:=.tuple [jm [109,105,110] true false false [] (.list [[.str [105,110,116],.str [],.list []],[.str [105,110,116],.str [],.list []]]) (.str [105,110,116]) (.str []) (.list []) (.list []),.d (.bool true)]
theorem CE(W:World):me W 40 44 [.d (.str [109,105,110])]=some CD:=k_
abbrev CF:V:=.tuple [jm [110,101,103] true false false [] (.list [[.str [105,110,116],.str [],.list []]]) (.str [105,110,116]) (.str []) (.list []) (.list []),.d (.bool true)]
theorem CH(W:World):me W 40 44 [.d (.str [110,101,103])]=some CF:=k_
abbrev rp:V:=.tuple [jm [115,101,108,101,99,116] true false false [] (.list [[.str [98,111,111,108],.str [],.list []],[.str [65],.str [],.list []],[.str [65],.str [],.list []]]) (.str [65]) (.str []) (.list []) (.list []),.d (.bool true)]
theorem rq(W:World):me W 40 44 [.d (.str [115,101,108,101,99,116])]=some rp:=k_
abbrev uL:V:=.tuple [jm [116,111,105,110,116] true false false [] (.list [[.str [98,111,111,108],.str [],.list []]]) (.str [105,110,116]) (.str []) (.list []) (.list []),.d (.bool true)]
theorem uM(W:World):me W 40 44 [.d (.str [116,111,105,110,116])]=some uL:=k_
abbrev CI:V:=.tuple [jm [120,111,114] true false false [] (.list [[.str [98,111,111,108],.str [],.list []],[.str [98,111,111,108],.str [],.list []]]) (.str [98,111,111,108]) (.str []) (.list []) (.list []),.d (.bool true)]
theorem CJ(W:World):me W 40 44 [.d (.str [120,111,114])]=some CI:=k_
end Fw.Tz.Yv
/-
  What prims.Sig answers at and, div, ge, le, mod, not, sign, transpose.
-/
namespace Fw.Tz.Yv
open Go Go.Proofs Fw.X Fw.Tz Fw.Tz.Va Fw.Tz.Yd Fw.Tz.Yn Fw.Tz.Ye Fw.Tz.Yq Fw.Tz.Yw
variable {W:World}
abbrev CK:V:=.tuple [jm [97,110,100] true false false [] (.list [[.str [98,111,111,108],.str [],.list []],[.str [98,111,111,108],.str [],.list []]]) (.str [98,111,111,108]) (.str []) (.list []) (.list []),.d (.bool true)]
theorem CL(W:World):me W 40 44 [.d (.str [97,110,100])]=some CK:=k_
abbrev CM:V:=.tuple [jm [100,105,118] true false false [] (.list [[.str [105,110,116],.str [],.list []],[.str [105,110,116],.str [],.list []]]) (.str [105,110,116]) (.str []) (.list []) (.list []),.d (.bool true)]
theorem CN(W:World):me W 40 44 [.d (.str [100,105,118])]=some CM:=k_
abbrev JB:V:=.tuple [jm [103,101] true false false [] (.list [[.str [105,110,116],.str [],.list []],[.str [105,110,116],.str [],.list []]]) (.str [98,111,111,108]) (.str []) (.list []) (.list []),.d (.bool true)]
theorem JC(W:World):me W 40 44 [.d (.str [103,101])]=some JB:=k_
abbrev JD:V:=.tuple [jm [108,101] true false false [] (.list [[.str [105,110,116],.str [],.list []],[.str [105,110,116],.str [],.list []]]) (.str [98,111,111,108]) (.str []) (.list []) (.list []),.d (.bool true)]
theorem JE(W:World):me W 40 44 [.d (.str [108,101])]=some JD:=k_
abbrev CO:V:=.tuple [jm [109,111,100] true false false [] (.list [[.str [105,110,116],.str [],.list []],[.str [105,110,116],.str [],.list []]]) (.str [105,110,116]) (.str []) (.list []) (.list []),.d (.bool true)]
theorem CP(W:World):me W 40 44 [.d (.str [109,111,100])]=some CO:=k_
abbrev CQ:V:=.tuple [jm [110,111,116] true false false [] (.list [[.str [98,111,111,108],.str [],.list []]]) (.str [98,111,111,108]) (.str []) (.list []) (.list []),.d (.bool true)]
theorem CR(W:World):me W 40 44 [.d (.str [110,111,116])]=some CQ:=k_
abbrev ym:V:=.tuple [jm [115,105,103,110] true false false [] (.list [[.str [105,110,116],.str [],.list []]]) (.str [105,110,116]) (.str []) (.list []) (.list []),.d (.bool true)]
theorem yn(W:World):me W 40 44 [.d (.str [115,105,103,110])]=some ym:=k_
abbrev lT:V:=.tuple [jm [116,114,97,110,115,112,111,115,101] false false false [] (.list [[.str [65],.str [],.list [[.int .i64 0,.list [[.str [110],.int .i64 1]]],[.int .i64 0,.list [[.str [109],.int .i64 1]]]]]]) (.str [65]) (.str []) (.list [[.int .i64 0,.list [[.str [109],.int .i64 1]]],[.int .i64 0,.list [[.str [110],.int .i64 1]]]]) (.list []),.d (.bool true)]
theorem lU(W:World):me W 40 44 [.d (.str [116,114,97,110,115,112,111,115,101])]=some lT:=k_
end Fw.Tz.Yv
/-
  What prims.Sig answers at append, drop, gt, lt, mul, or, sub, update.
-/
namespace Fw.Tz.Yv
open Go Go.Proofs Fw.X Fw.Tz Fw.Tz.Va Fw.Tz.Yd Fw.Tz.Yn Fw.Tz.Ye Fw.Tz.Yq Fw.Tz.Yw
variable {W:World}
abbrev rr:V:=.tuple [jm [97,112,112,101,110,100] false false false [] (.list [[.str [65],.str [],.list [[.int .i64 0,.list [[.str [110],.int .i64 1]]]]],[.str [65],.str [],.list [[.int .i64 0,.list [[.str [109],.int .i64 1]]]]]]) (.str [65]) (.str []) (.list [[.int .i64 0,.list [[.str [109],.int .i64 1],[.str [110],.int .i64 1]]]]) (.list []),.d (.bool true)]
theorem ru(W:World):me W 40 44 [.d (.str [97,112,112,101,110,100])]=some rr:=k_
abbrev yo:V:=.tuple [jm [100,114,111,112] false false false [[107]] (.list [[.str [65],.str [],.list [[.int .i64 0,.list [[.str [110],.int .i64 1]]]]]]) (.str [65]) (.str []) (.list [[.int .i64 0,.list [[.str [107],.int .i64 (-1)],[.str [110],.int .i64 1]]]]) (.list [[.int .i64 0,.list [[.str [107],.int .i64 1]]],[.int .i64 0,.list [[.str [107],.int .i64 (-1)],[.str [110],.int .i64 1]]]]),.d (.bool true)]
theorem yp(W:World):me W 40 44 [.d (.str [100,114,111,112])]=some yo:=k_
abbrev JF:V:=.tuple [jm [103,116] true false false [] (.list [[.str [105,110,116],.str [],.list []],[.str [105,110,116],.str [],.list []]]) (.str [98,111,111,108]) (.str []) (.list []) (.list []),.d (.bool true)]
theorem JG(W:World):me W 40 44 [.d (.str [103,116])]=some JF:=k_
abbrev JH:V:=.tuple [jm [108,116] true false false [] (.list [[.str [105,110,116],.str [],.list []],[.str [105,110,116],.str [],.list []]]) (.str [98,111,111,108]) (.str []) (.list []) (.list []),.d (.bool true)]
theorem JI(W:World):me W 40 44 [.d (.str [108,116])]=some JH:=k_
abbrev CS:V:=.tuple [jm [109,117,108] true false false [] (.list [[.str [105,110,116],.str [],.list []],[.str [105,110,116],.str [],.list []]]) (.str [105,110,116]) (.str []) (.list []) (.list []),.d (.bool true)]
theorem CT(W:World):me W 40 44 [.d (.str [109,117,108])]=some CS:=k_
abbrev JJ:V:=.tuple [jm [111,114] true false false [] (.list [[.str [98,111,111,108],.str [],.list []],[.str [98,111,111,108],.str [],.list []]]) (.str [98,111,111,108]) (.str []) (.list []) (.list []),.d (.bool true)]
theorem JK(W:World):me W 40 44 [.d (.str [111,114])]=some JJ:=k_
abbrev CU:V:=.tuple [jm [115,117,98] true false false [] (.list [[.str [105,110,116],.str [],.list []],[.str [105,110,116],.str [],.list []]]) (.str [105,110,116]) (.str []) (.list []) (.list []),.d (.bool true)]
theorem CV(W:World):me W 40 44 [.d (.str [115,117,98])]=some CU:=k_
abbrev ry:V:=.tuple [jm [117,112,100,97,116,101] false false true [] (.list [[.str [65],.str [],.list [[.int .i64 0,.list [[.str [110],.int .i64 1]]]]],[.str [105,110,116],.str [],.list []],[.str [65],.str [],.list []]]) (.str [65]) (.str []) (.list [[.int .i64 0,.list [[.str [110],.int .i64 1]]]]) (.list []),.d (.bool true)]
theorem rz(W:World):me W 40 44 [.d (.str [117,112,100,97,116,101])]=some ry:=k_
end Fw.Tz.Yv
/-
  What prims.Sig answers at the names, as a table.
-/
namespace Fw.Tz.Yv
open Go Go.Proofs Fw.X Fw.Tz Fw.Tz.Va Fw.Tz.Yd Fw.Tz.Yn Fw.Tz.Ye Fw.Tz.Yq Fw.Tz.Yw
variable {W:World}
def Z_:List (List UInt8×V):=[([97,98,115],Cw),([97,100,100],CA),([97,110,100],CK),([97,112,112,101,110,100],rr),([99,104,117,110,107],uI),([100,105,97,103,111,110,97,108],nj),([100,105,118],CM),([100,114,111,112],yo),([101,113],Jx),([102,105,108,108],yi),([103,101],JB),([103,116],JF),([105,110,100,101,120],uJ),([105,111,116,97],yk),([108,101],JD),([108,116],JH),([109,97,120],Cy),([109,105,110],CD),([109,111,100],CO),([109,117,108],CS),([110,101],Jz),([110,101,103],CF),([110,111,116],CQ),([111,114],JJ),([114,101,118,101,114,115,101],pb),([115,101,108,101,99,116],rp),([115,105,103,110],ym),([115,117,98],CU),([116,97,107,101],yh),([116,111,105,110,116],uL),([116,114,97,110,115,112,111,115,101],lT),([117,112,100,97,116,101],ry),([119,105,110,100,111,119,115],pd),([120,111,114],CI)]
theorem PW(hW:W0 W)(hA:aw W):∀q∈Z_,PC P (gl W) 44 [.d (.str q.1)] q.2:=by
 intro q hq;simp only[Z_,aa',acu,or_false]at hq;rcases hq with rfl|rfl|rfl|rfl|rfl|rfl|rfl|rfl|rfl|rfl|rfl|rfl|rfl|rfl|rfl|rfl|rfl|rfl|rfl|rfl|rfl|rfl|rfl|rfl|rfl|rfl|rfl|rfl|rfl|rfl|rfl|rfl|rfl|rfl
 ·exact aW hW hA 40 _ _ _ (Cx W)
 ·exact aW hW hA 40 _ _ _ (CB W)
 ·exact aW hW hA 40 _ _ _ (CL W)
 ·exact aW hW hA 40 _ _ _ (ru W)
 ·exact aW hW hA 40 _ _ _ (aK W)
 ·exact aW hW hA 40 _ _ _ (nk W)
 ·exact aW hW hA 40 _ _ _ (CN W)
 ·exact aW hW hA 40 _ _ _ (yp W)
 ·exact aW hW hA 40 _ _ _ (Jy W)
 ·exact aW hW hA 40 _ _ _ (yj W)
 ·exact aW hW hA 40 _ _ _ (JC W)
 ·exact aW hW hA 40 _ _ _ (JG W)
 ·exact aW hW hA 40 _ _ _ (uK W)
 ·exact aW hW hA 40 _ _ _ (yl W)
 ·exact aW hW hA 40 _ _ _ (JE W)
 ·exact aW hW hA 40 _ _ _ (JI W)
 ·exact aW hW hA 40 _ _ _ (Cz W)
 ·exact aW hW hA 40 _ _ _ (CE W)
 ·exact aW hW hA 40 _ _ _ (CP W)
 ·exact aW hW hA 40 _ _ _ (CT W)
 ·exact aW hW hA 40 _ _ _ (JA W)
 ·exact aW hW hA 40 _ _ _ (CH W)
 ·exact aW hW hA 40 _ _ _ (CR W)
 ·exact aW hW hA 40 _ _ _ (JK W)
 ·exact aW hW hA 40 _ _ _ (pc W)
 ·exact aW hW hA 40 _ _ _ (rq W)
 ·exact aW hW hA 40 _ _ _ (yn W)
 ·exact aW hW hA 40 _ _ _ (CV W)
 ·exact aW hW hA 40 _ _ _ (s5 W)
 ·exact aW hW hA 40 _ _ _ (uM W)
 ·exact aW hW hA 40 _ _ _ (lU W)
 ·exact aW hW hA 40 _ _ _ (rz W)
 ·exact aW hW hA 40 _ _ _ (pf W)
 ·exact aW hW hA 40 _ _ _ (CJ W)
def exG:Extra:=.n .e 44 (LH Z_) .e
theorem PX(hW:W0 W)(hA:aw W):u_ P (gl W) exG:=⟨trivial,DL (PW hW hA),trivial⟩
def ktG:FT Nat:=(.n (.n (.n (.n (.n (.n .e 42 0 .e) 44 0 .e) 48 0 (.n .e 51 0 .e)) 59 0 (.n (.n (.n .e 88 0 .e) 89 0 .e) 94 0 (.n .e 97 0 .e))) 101 0 (.n (.n (.n (.n .e 104 0 .e) 107 0 .e) 108 0 (.n .e 110 0 .e)) 118 0 (.n (.n (.n .e 143 0 .e) 144 0 .e) 149 0 (.n .e 150 0 .e)))) 154 0 (.n (.n (.n (.n (.n .e 160 0 .e) 161 0 .e) 163 0 (.n .e 165 0 .e)) 167 0 (.n (.n (.n .e 170 0 .e) 172 0 .e) 173 0 (.n .e 175 0 .e))) 181 0 (.n (.n (.n (.n .e 200 0 .e) 203 0 .e) 206 0 (.n .e 232 0 .e)) 235 0 (.n (.n (.n .e 248 0 .e) 271 0 .e) 273 0 (.n .e 275 0 .e)))))
noncomputable def kL(W:World)(d:Nat):aU:=VI W ktG exG d
theorem JL(hW:W0 W)(hA:aw W)(d:Nat):bu P (gl W) (kL W d):=B2 hW (PX hW hA) d
theorem bt(hW:W0 W)(hA:aw W){N:List UInt8}{n:Int}(s:cl)(v:List Bd){nm:List UInt8}{p1 p2 p3 ok:Bool}{z:List (List UInt8)}{d4 d5 d6 d7 d8:D}(g1:me W 40 44 [.d (.str N)]=some (.tuple [jm nm p1 p2 p3 z d4 d5 d6 d7 d8,.d (.bool ok)]))(g2:kL W 40 45 [.d (.str N),.d (.int .i64 n)]=some (.tuple [ng s,.d (.int .i64 0)]))(g3:kD W 40 90 [ng s]=some (.d (.list (v.map Bd.aa))))(g4:kD W 40 143 [ng s]=some (.d (.bool true)))(g5:kD W 40 95 [.d (.str N),.d (.int .i64 n)]=some (.tuple [ng s,.d (.int .i64 0)]))(g6:kD W 40 96 [.d (.str N)]=some (.tuple [jm nm p1 p2 p3 z d4 d5 d6 d7 d8,.d (.bool ok)]))(hz:z.all (fun s=>decide (s.length<1000))=true)(g7:Jm s z v=true):c_ W N n:=PU hW (JL hW hA 40 _ _ _ g2) (aW hW hA 40 _ _ _ g1) (bH hW 40 _ _ _ g3) (bH hW 40 _ _ _ g4) (bH hW 40 _ _ _ g5) (bH hW 40 _ _ _ g6) hz g7
end Fw.Tz.Yv
/-
  Under of both sides at abs, append, drop, ge, iota, max, mul, not, select, take, update.
-/
namespace Fw.Tz.Yv
open Go Go.Proofs Fw.X Fw.Tz Fw.Tz.Va Fw.Tz.Yd Fw.Tz.Yn Fw.Tz.Ye Fw.Tz.Yq Fw.Tz.Yw
variable {W:World}
theorem JM(W:World):kD W 40 96 [.d (.str [97,98,115])]=some Cw:=k_
theorem UI(hW:W0 W)(hA:aw W):c_ W [97,98,115] 0:=bt hW hA ⟨[⟨[105,110,116],[],[]⟩],⟨[105,110,116],[],[]⟩,[]⟩ [] (Cx W) k_ k_ k_ k_ (JM W) (by decide) k_
theorem wK(W:World):kD W 40 96 [.d (.str [97,112,112,101,110,100])]=some rr:=k_
theorem JN(hW:W0 W)(hA:aw W):c_ W [97,112,112,101,110,100] 0:=bt hW hA ⟨[⟨[65],[],[⟨0,[⟨[110],1⟩]⟩]⟩,⟨[65],[],[⟨0,[⟨[109],1⟩]⟩]⟩],⟨[65],[],[⟨0,[⟨[109],1⟩,⟨[110],1⟩]⟩]⟩,[]⟩ [⟨1,[110],⟨0,[]⟩,[],[],[]⟩,⟨3,[65],⟨0,[]⟩,[],[],[]⟩,⟨1,[109],⟨0,[]⟩,[],[],[]⟩] (ru W) k_ k_ k_ k_ (wK W) (by decide) k_
theorem D9(W:World):kD W 40 96 [.d (.str [100,114,111,112])]=some yo:=k_
theorem PY(hW:W0 W)(hA:aw W):c_ W [100,114,111,112] 0:=bt hW hA ⟨[⟨[65],[],[⟨0,[⟨[110],1⟩]⟩]⟩],⟨[65],[],[⟨0,[⟨[107],-1⟩,⟨[110],1⟩]⟩]⟩,[⟨0,[⟨[107],1⟩]⟩,⟨0,[⟨[107],-1⟩,⟨[110],1⟩]⟩]⟩ [⟨1,[110],⟨0,[]⟩,[],[],[]⟩,⟨3,[65],⟨0,[]⟩,[],[],[]⟩,⟨1,[107],⟨0,[]⟩,[],[],[]⟩] (yp W) k_ k_ k_ k_ (D9 W) (by decide) k_
theorem Np(W:World):kD W 40 96 [.d (.str [103,101])]=some JB:=k_
theorem aaa(hW:W0 W)(hA:aw W):c_ W [103,101] 0:=bt hW hA ⟨[⟨[105,110,116],[],[]⟩,⟨[105,110,116],[],[]⟩],⟨[98,111,111,108],[],[]⟩,[]⟩ [] (JC W) k_ k_ k_ k_ (Np W) (by decide) k_
theorem D_(W:World):kD W 40 96 [.d (.str [105,111,116,97])]=some yk:=k_
theorem PZ(hW:W0 W)(hA:aw W):c_ W [105,111,116,97] 0:=bt hW hA ⟨[],⟨[105,110,116],[],[⟨0,[⟨[107],1⟩]⟩]⟩,[⟨0,[⟨[107],1⟩]⟩]⟩ [⟨1,[107],⟨0,[]⟩,[],[],[]⟩] (yl W) k_ k_ k_ k_ (D_ W) (by decide) k_
theorem JO(W:World):kD W 40 96 [.d (.str [109,97,120])]=some Cy:=k_
theorem UJ(hW:W0 W)(hA:aw W):c_ W [109,97,120] 0:=bt hW hA ⟨[⟨[105,110,116],[],[]⟩,⟨[105,110,116],[],[]⟩],⟨[105,110,116],[],[]⟩,[]⟩ [] (Cz W) k_ k_ k_ k_ (JO W) (by decide) k_
theorem JP(W:World):kD W 40 96 [.d (.str [109,117,108])]=some CS:=k_
theorem UK(hW:W0 W)(hA:aw W):c_ W [109,117,108] 0:=bt hW hA ⟨[⟨[105,110,116],[],[]⟩,⟨[105,110,116],[],[]⟩],⟨[105,110,116],[],[]⟩,[]⟩ [] (CT W) k_ k_ k_ k_ (JP W) (by decide) k_
theorem JQ(W:World):kD W 40 96 [.d (.str [110,111,116])]=some CQ:=k_
theorem UL(hW:W0 W)(hA:aw W):c_ W [110,111,116] 0:=bt hW hA ⟨[⟨[98,111,111,108],[],[]⟩],⟨[98,111,111,108],[],[]⟩,[]⟩ [] (CR W) k_ k_ k_ k_ (JQ W) (by decide) k_
theorem wL(W:World):kD W 40 96 [.d (.str [115,101,108,101,99,116])]=some rp:=k_
theorem JR(hW:W0 W)(hA:aw W):c_ W [115,101,108,101,99,116] 0:=bt hW hA ⟨[⟨[98,111,111,108],[],[]⟩,⟨[65],[],[]⟩,⟨[65],[],[]⟩],⟨[65],[],[]⟩,[]⟩ [⟨3,[65],⟨0,[]⟩,[],[],[]⟩] (rq W) k_ k_ k_ k_ (wL W) (by decide) k_
theorem Ea(W:World):kD W 40 96 [.d (.str [116,97,107,101])]=some yh:=k_
def ph:cl:=⟨[⟨[65],[],[⟨0,[⟨[110],1⟩]⟩]⟩],⟨[65],[],[⟨0,[⟨[107],1⟩]⟩]⟩,[⟨0,[⟨[107],1⟩]⟩,⟨0,[⟨[107],-1⟩,⟨[110],1⟩]⟩]⟩
def uN:List Bd:=[⟨1,[110],⟨0,[]⟩,[],[],[]⟩,⟨3,[65],⟨0,[]⟩,[],[],[]⟩,⟨1,[107],⟨0,[]⟩,[],[],[]⟩]
theorem Mu(W:World):kL W 40 45 [.d (.str [116,97,107,101]),.d (.int .i64 0)]=some (.tuple [ng ph,.d (.int .i64 0)]):=k_
theorem Mv(W:World):kD W 40 90 [ng ph]=some (.d (.list (uN.map Bd.aa))):=k_
theorem Mw(W:World):kD W 40 143 [ng ph]=some (.d (.bool true)):=k_
theorem Mx:Jm ph [[107]] uN=true:=k_
theorem P0(hW:W0 W)(hA:aw W):c_ W [116,97,107,101] 0:=bt hW hA ph uN (s5 W) k_ k_ k_ k_ (Ea W) (by decide) k_
theorem wM(W:World):kD W 40 96 [.d (.str [117,112,100,97,116,101])]=some ry:=k_
theorem JS(hW:W0 W)(hA:aw W):c_ W [117,112,100,97,116,101] 0:=bt hW hA ⟨[⟨[65],[],[⟨0,[⟨[110],1⟩]⟩]⟩,⟨[105,110,116],[],[]⟩,⟨[65],[],[]⟩],⟨[65],[],[⟨0,[⟨[110],1⟩]⟩]⟩,[]⟩ [⟨1,[110],⟨0,[]⟩,[],[],[]⟩,⟨3,[65],⟨0,[]⟩,[],[],[]⟩] (rz W) k_ k_ k_ k_ (wM W) (by decide) k_
end Fw.Tz.Yv
/-
  Under of both sides at add, diagonal, eq, gt, le, min, ne, or, sign, toint, windows.
-/
namespace Fw.Tz.Yv
open Go Go.Proofs Fw.X Fw.Tz Fw.Tz.Va Fw.Tz.Yd Fw.Tz.Yn Fw.Tz.Ye Fw.Tz.Yq Fw.Tz.Yw
variable {W:World}
theorem JT(W:World):kD W 40 96 [.d (.str [97,100,100])]=some CA:=k_
theorem UM(hW:W0 W)(hA:aw W):c_ W [97,100,100] 0:=bt hW hA ⟨[⟨[105,110,116],[],[]⟩,⟨[105,110,116],[],[]⟩],⟨[105,110,116],[],[]⟩,[]⟩ [] (CB W) k_ k_ k_ k_ (JT W) (by decide) k_
theorem rY(W:World):kD W 40 96 [.d (.str [100,105,97,103,111,110,97,108])]=some nj:=k_
theorem CW(hW:W0 W)(hA:aw W):c_ W [100,105,97,103,111,110,97,108] 0:=bt hW hA ⟨[⟨[65],[],[⟨0,[⟨[110],1⟩]⟩,⟨0,[⟨[110],1⟩]⟩]⟩],⟨[65],[],[⟨0,[⟨[110],1⟩]⟩]⟩,[]⟩ [⟨1,[110],⟨0,[]⟩,[],[],[]⟩,⟨3,[65],⟨0,[]⟩,[],[],[]⟩] (nk W) k_ k_ k_ k_ (rY W) (by decide) k_
theorem Nq(W:World):kD W 40 96 [.d (.str [101,113])]=some Jx:=k_
theorem aab(hW:W0 W)(hA:aw W):c_ W [101,113] 0:=bt hW hA ⟨[⟨[65],[],[]⟩,⟨[65],[],[]⟩],⟨[98,111,111,108],[],[]⟩,[]⟩ [⟨3,[65],⟨0,[]⟩,[],[],[]⟩] (Jy W) k_ k_ k_ k_ (Nq W) (by decide) k_
theorem Nr(W:World):kD W 40 96 [.d (.str [103,116])]=some JF:=k_
theorem aac(hW:W0 W)(hA:aw W):c_ W [103,116] 0:=bt hW hA ⟨[⟨[105,110,116],[],[]⟩,⟨[105,110,116],[],[]⟩],⟨[98,111,111,108],[],[]⟩,[]⟩ [] (JG W) k_ k_ k_ k_ (Nr W) (by decide) k_
theorem Ns(W:World):kD W 40 96 [.d (.str [108,101])]=some JD:=k_
theorem aad(hW:W0 W)(hA:aw W):c_ W [108,101] 0:=bt hW hA ⟨[⟨[105,110,116],[],[]⟩,⟨[105,110,116],[],[]⟩],⟨[98,111,111,108],[],[]⟩,[]⟩ [] (JE W) k_ k_ k_ k_ (Ns W) (by decide) k_
theorem JU(W:World):kD W 40 96 [.d (.str [109,105,110])]=some CD:=k_
theorem UN(hW:W0 W)(hA:aw W):c_ W [109,105,110] 0:=bt hW hA ⟨[⟨[105,110,116],[],[]⟩,⟨[105,110,116],[],[]⟩],⟨[105,110,116],[],[]⟩,[]⟩ [] (CE W) k_ k_ k_ k_ (JU W) (by decide) k_
theorem Nt(W:World):kD W 40 96 [.d (.str [110,101])]=some Jz:=k_
theorem aae(hW:W0 W)(hA:aw W):c_ W [110,101] 0:=bt hW hA ⟨[⟨[65],[],[]⟩,⟨[65],[],[]⟩],⟨[98,111,111,108],[],[]⟩,[]⟩ [⟨3,[65],⟨0,[]⟩,[],[],[]⟩] (JA W) k_ k_ k_ k_ (Nt W) (by decide) k_
theorem Nv(W:World):kD W 40 96 [.d (.str [111,114])]=some JJ:=k_
theorem aaf(hW:W0 W)(hA:aw W):c_ W [111,114] 0:=bt hW hA ⟨[⟨[98,111,111,108],[],[]⟩,⟨[98,111,111,108],[],[]⟩],⟨[98,111,111,108],[],[]⟩,[]⟩ [] (JK W) k_ k_ k_ k_ (Nv W) (by decide) k_
theorem Eb(W:World):kD W 40 96 [.d (.str [115,105,103,110])]=some ym:=k_
theorem P1(hW:W0 W)(hA:aw W):c_ W [115,105,103,110] 0:=bt hW hA ⟨[⟨[105,110,116],[],[]⟩],⟨[105,110,116],[],[]⟩,[]⟩ [] (yn W) k_ k_ k_ k_ (Eb W) (by decide) k_
theorem AX(W:World):kD W 40 96 [.d (.str [116,111,105,110,116])]=some uL:=k_
theorem My(hW:W0 W)(hA:aw W):c_ W [116,111,105,110,116] 0:=bt hW hA ⟨[⟨[98,111,111,108],[],[]⟩],⟨[105,110,116],[],[]⟩,[]⟩ [] (uM W) k_ k_ k_ k_ (AX W) (by decide) k_
theorem uO(W:World):kD W 40 96 [.d (.str [119,105,110,100,111,119,115])]=some pd:=k_
theorem FE(hW:W0 W)(hA:aw W):c_ W [119,105,110,100,111,119,115] 0:=bt hW hA ⟨[⟨[65],[],[⟨0,[⟨[110],1⟩]⟩]⟩],⟨[65],[],[⟨1,[⟨[107],-1⟩,⟨[110],1⟩]⟩,⟨0,[⟨[107],1⟩]⟩]⟩,[⟨0,[⟨[107],1⟩]⟩,⟨0,[⟨[107],-1⟩,⟨[110],1⟩]⟩]⟩ [⟨1,[110],⟨0,[]⟩,[],[],[]⟩,⟨3,[65],⟨0,[]⟩,[],[],[]⟩,⟨1,[107],⟨0,[]⟩,[],[],[]⟩] (pf W) k_ k_ k_ k_ (uO W) (by decide) k_
end Fw.Tz.Yv
/-
  Under of both sides at and, div, fill, index, lt, mod, neg, reverse, sub, transpose, xor.
-/
namespace Fw.Tz.Yv
open Go Go.Proofs Fw.X Fw.Tz Fw.Tz.Va Fw.Tz.Yd Fw.Tz.Yn Fw.Tz.Ye Fw.Tz.Yq Fw.Tz.Yw
variable {W:World}
theorem JV(W:World):kD W 40 96 [.d (.str [97,110,100])]=some CK:=k_
theorem UO(hW:W0 W)(hA:aw W):c_ W [97,110,100] 0:=bt hW hA ⟨[⟨[98,111,111,108],[],[]⟩,⟨[98,111,111,108],[],[]⟩],⟨[98,111,111,108],[],[]⟩,[]⟩ [] (CL W) k_ k_ k_ k_ (JV W) (by decide) k_
theorem JW(W:World):kD W 40 96 [.d (.str [100,105,118])]=some CM:=k_
theorem UP(hW:W0 W)(hA:aw W):c_ W [100,105,118] 0:=bt hW hA ⟨[⟨[105,110,116],[],[]⟩,⟨[105,110,116],[],[]⟩],⟨[105,110,116],[],[]⟩,[]⟩ [] (CN W) k_ k_ k_ k_ (JW W) (by decide) k_
theorem Ec(W:World):kD W 40 96 [.d (.str [102,105,108,108])]=some yi:=k_
theorem P2(hW:W0 W)(hA:aw W):c_ W [102,105,108,108] 0:=bt hW hA ⟨[⟨[65],[],[]⟩],⟨[65],[],[⟨0,[⟨[107],1⟩]⟩]⟩,[⟨0,[⟨[107],1⟩]⟩]⟩ [⟨3,[65],⟨0,[]⟩,[],[],[]⟩,⟨1,[107],⟨0,[]⟩,[],[],[]⟩] (yj W) k_ k_ k_ k_ (Ec W) (by decide) k_
theorem AY(W:World):kD W 40 96 [.d (.str [105,110,100,101,120])]=some uJ:=k_
theorem Mz(hW:W0 W)(hA:aw W):c_ W [105,110,100,101,120] 0:=bt hW hA ⟨[⟨[65],[],[⟨0,[⟨[110],1⟩]⟩]⟩,⟨[105,110,116],[],[]⟩],⟨[65],[],[]⟩,[]⟩ [⟨1,[110],⟨0,[]⟩,[],[],[]⟩,⟨3,[65],⟨0,[]⟩,[],[],[]⟩] (uK W) k_ k_ k_ k_ (AY W) (by decide) k_
theorem Nw(W:World):kD W 40 96 [.d (.str [108,116])]=some JH:=k_
theorem aag(hW:W0 W)(hA:aw W):c_ W [108,116] 0:=bt hW hA ⟨[⟨[105,110,116],[],[]⟩,⟨[105,110,116],[],[]⟩],⟨[98,111,111,108],[],[]⟩,[]⟩ [] (JI W) k_ k_ k_ k_ (Nw W) (by decide) k_
theorem JX(W:World):kD W 40 96 [.d (.str [109,111,100])]=some CO:=k_
theorem UQ(hW:W0 W)(hA:aw W):c_ W [109,111,100] 0:=bt hW hA ⟨[⟨[105,110,116],[],[]⟩,⟨[105,110,116],[],[]⟩],⟨[105,110,116],[],[]⟩,[]⟩ [] (CP W) k_ k_ k_ k_ (JX W) (by decide) k_
theorem JY(W:World):kD W 40 96 [.d (.str [110,101,103])]=some CF:=k_
theorem UR(hW:W0 W)(hA:aw W):c_ W [110,101,103] 0:=bt hW hA ⟨[⟨[105,110,116],[],[]⟩],⟨[105,110,116],[],[]⟩,[]⟩ [] (CH W) k_ k_ k_ k_ (JY W) (by decide) k_
theorem uP(W:World):kD W 40 96 [.d (.str [114,101,118,101,114,115,101])]=some pb:=k_
theorem FF(hW:W0 W)(hA:aw W):c_ W [114,101,118,101,114,115,101] 0:=bt hW hA ⟨[⟨[65],[],[⟨0,[⟨[110],1⟩]⟩]⟩],⟨[65],[],[⟨0,[⟨[110],1⟩]⟩]⟩,[]⟩ [⟨1,[110],⟨0,[]⟩,[],[],[]⟩,⟨3,[65],⟨0,[]⟩,[],[],[]⟩] (pc W) k_ k_ k_ k_ (uP W) (by decide) k_
theorem JZ(W:World):kD W 40 96 [.d (.str [115,117,98])]=some CU:=k_
theorem US(hW:W0 W)(hA:aw W):c_ W [115,117,98] 0:=bt hW hA ⟨[⟨[105,110,116],[],[]⟩,⟨[105,110,116],[],[]⟩],⟨[105,110,116],[],[]⟩,[]⟩ [] (CV W) k_ k_ k_ k_ (JZ W) (by decide) k_
theorem qi(W:World):kD W 40 96 [.d (.str [116,114,97,110,115,112,111,115,101])]=some lT:=k_
theorem AZ(hW:W0 W)(hA:aw W):c_ W [116,114,97,110,115,112,111,115,101] 0:=bt hW hA ⟨[⟨[65],[],[⟨0,[⟨[110],1⟩]⟩,⟨0,[⟨[109],1⟩]⟩]⟩],⟨[65],[],[⟨0,[⟨[109],1⟩]⟩,⟨0,[⟨[110],1⟩]⟩]⟩,[]⟩ [⟨1,[110],⟨0,[]⟩,[],[],[]⟩,⟨1,[109],⟨0,[]⟩,[],[],[]⟩,⟨3,[65],⟨0,[]⟩,[],[],[]⟩] (lU W) k_ k_ k_ k_ (qi W) (by decide) k_
theorem J0(W:World):kD W 40 96 [.d (.str [120,111,114])]=some CI:=k_
theorem UT(hW:W0 W)(hA:aw W):c_ W [120,111,114] 0:=bt hW hA ⟨[⟨[98,111,111,108],[],[]⟩,⟨[98,111,111,108],[],[]⟩],⟨[98,111,111,108],[],[]⟩,[]⟩ [] (CJ W) k_ k_ k_ k_ (J0 W) (by decide) k_
end Fw.Tz.Yv
