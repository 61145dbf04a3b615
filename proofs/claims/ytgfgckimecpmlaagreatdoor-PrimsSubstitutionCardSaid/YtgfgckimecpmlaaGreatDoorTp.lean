/-
  Under of both sides at chunk, numbers 17 to 32.
-/
import Derived.Test.YtgfgckimecpmlaaGreatDoorTo
import Derived.Test.YtgfgckimecpmlaaGreatDoorTn
import Derived.Test.YtgfgckimecpmlaaGreatDoorTm
set_option linter.unusedVariables false
set_option maxRecDepth 1000000
set_option maxHeartbeats 4000000
set_option linter.unusedSimpArgs false
/-
  Under of both sides at chunk, numbers 33 to 48.
-/
/-
  Under of both sides at chunk, numbers 49 to 64.
-/
/-
  Under of both sides at any name and number.
-/
/-
  Few sizes and binds.
-/
namespace Fw.Tz.Bb
open Go Go.Proofs Fw.X Fw.Tz Fw.Nu Fw.Tz.Sd Fw.Tz.Na Fw.Tz.El Fw.Tz.Va Fw.Tz.Vb Fw.Tz.Vw Fw.Tz.Eq Fw.Tz.Ew Fw.Tz.Su Fw.Tz.Yd Fw.Tz.Ya Fw.Tz.Yc Fw.Tz.Yb Fw.Tz.Yf Fw.Tz.Yj Fw.Tz.Yn
variable {W:World}
def S2(x:aj):Bool:=decide (x.ts.length≤6)
def S3(b:Bd):Bool:=decide (b.bh.ts.length≤6)&&decide (b.ae.length≤7)&&decide (b.var.length+b.elem.length+b.row.length≤100)
def S4(a8:List aj)(binds:List Bd):Bool:=a8.all S2&&binds.all S3&&decide (a8.length≤3)&&decide (binds.length≤5)
def rdB(b:Bd):Prop:=b.var.length≤281474976710656∧b.elem.length≤281474976710656∧b.row.length≤281474976710656∧aj.sw b.bh∧b.ae.length≤281474976710656∧∀x∈b.ae,aj.sw x
def rdX(a8:List aj)(binds:List Bd):Prop:=a8.length≤281474976710656∧binds.length≤281474976710656∧(∀x∈a8,aj.sw x)∧∀b∈binds,rdB b
theorem K9{a8:List aj}{binds:List Bd}(h:rdX a8 binds)(hf:S4 a8 binds=true):SX a8 binds:=by
 obtain⟨h1,h2,h3,h4⟩:=h;simp only[S4,aac,aam,aaq]at hf;obtain⟨⟨⟨f1,f2⟩,f3⟩,f4⟩:=hf;refine⟨by omega,by omega,fun x hx=>⟨?_,(h3 x hx).2⟩,by omega,fun b hb=>?_ ⟩
 ·have:=f1 x hx;simp only[S2,aam]at this;omega
 ·have:=f2 b hb;simp only[S3,aac,aam]at this;obtain⟨r1,r2,r3,r4,r5,r6⟩:=h4 b hb;exact⟨by omega,by omega,by omega,by omega,r4.2,by omega,r6⟩
end Fw.Tz.Bb
/-
  The law of Under: awake and the call.
-/
namespace Fw.Tz.Bc
open Go Go.Proofs Fw.X Fw.Tz Fw.Nu Fw.Tz.Sd Fw.Tz.Na Fw.Tz.El Fw.Tz.Va Fw.Tz.Vb Fw.Tz.Vw Fw.Tz.Eq Fw.Tz.Ew Fw.Tz.Su Fw.Tz.Yd Fw.Tz.Ya Fw.Tz.Yc Fw.Tz.Yb Fw.Tz.Yf Fw.Tz.Yj Fw.Tz.Yn Fw.Tz.Yq Fw.Tz.Yw Fw.Tz.Yv Fw.Tz.Yx Fw.Tz.Bb
variable {W:World}
def Mg:List UInt8:=[116,97,107,101]
def S5:List aj:=[⟨2,[]⟩]
def S6:List Bd:=[⟨1,[110],⟨2,[⟨[112],1⟩]⟩,[],[],[]⟩,⟨3,[65],⟨0,[]⟩,[],[],[105,110,116]⟩]
def r0:bz:=⟨[⟨[105,110,116],[],[⟨2,[⟨[112],1⟩]⟩]⟩],⟨[105,110,116],[],[⟨2,[]⟩]⟩,[⟨2,[]⟩,⟨0,[⟨[112],1⟩]⟩]⟩
theorem XF:iN oQ [[107]] uv S5 S6=(r0,0):=k_
theorem ok0:SX S5 S6:=K9 (by
 refine⟨by decide,by decide,?_,?_ ⟩
 ·intro x hx;simp[S5]at hx;subst hx;exact⟨by decide,by simp⟩
 ·intro b hb;simp[S6]at hb;rcases hb with rfl|rfl
  ·exact⟨by decide,by decide,by decide,⟨by decide,by simp⟩,by decide,by simp⟩
  ·exact⟨by decide,by decide,by decide,⟨by decide,by simp⟩,by decide,by simp⟩) (by decide)
theorem k87(W:World):lZ W 40 87 [.d (.str [37]),.d (.bool false)]=some (.tuple [.d (.str [109,111,100]),.d (.int .i64 5),.d (.bool true)]):=k_
theorem Y8(W:World):lZ W 40 43 []=some (.d (.list [[.str [97,98,115]],[.str [97,100,100]],[.str [97,110,100]],[.str [97,112,112,101,110,100]],[.str [99,104,117,110,107]],[.str [100,105,97,103,111,110,97,108]],[.str [100,105,118]],[.str [100,114,111,112]],[.str [101,113]],[.str [102,105,108,108]],[.str [103,101]],[.str [103,116]],[.str [105,110,100,101,120]],[.str [105,111,116,97]],[.str [108,101]],[.str [108,116]],[.str [109,97,120]],[.str [109,105,110]],[.str [109,111,100]],[.str [109,117,108]],[.str [110,101]],[.str [110,101,103]],[.str [110,111,116]],[.str [111,114]],[.str [114,101,118,101,114,115,101]],[.str [115,101,108,101,99,116]],[.str [115,105,103,110]],[.str [115,117,98]],[.str [116,97,107,101]],[.str [116,111,105,110,116]],[.str [116,114,97,110,115,112,111,115,101]],[.str [117,112,100,97,116,101]],[.str [119,105,110,100,111,119,115]],[.str [120,111,114]]])):=k_
theorem XG(W:World):N0 W 40 56 [.agg [.d (.int .i64 2),.d (.list [])],.agg [.d (.int .i64 2),.d (.list [])]]=some (.d (.bool true)):=k_
theorem XH(W:World):N0 W 40 56 [.agg [.d (.int .i64 2),.d (.list [[.str [112],.int .i64 1]])],.agg [.d (.int .i64 2),.d (.list [[.str [112],.int .i64 1]])]]=some (.d (.bool true)):=k_
theorem K_(hW:W0 W)(hA:aE W):PC P (gl W) 40 [.d (.str Mg),.d (.list (S5.map aj.aa)),.d (.int .i64 0),.d (.list (S6.map Bd.aa))] (Ye.oe (r0,0)):=by have h:=K8;simp only[S1,aac]at h;obtain⟨hs,hn⟩:=uj h.1.1.1.1.1.1;have:=nA hW Mg 0 oQ [[107]] uv S5 S6 _ _ _ _ _ _ _ _ _ _ (IJ hW hA 40 _ _ _ (K5 W)) (bP hW hA 40 _ _ _ (ya W)) (qG hW 40 _ _ _ (K6 W)) (qG hW 40 _ _ _ (K7 W)) hs hn h.1.1.1.1.1.2 (by decide) (by decide) ok0;rw[XF]at this;exact this
theorem S7(hW:W0 W)(hA:aE W):PC P (gl W) 38 [] (.d (.bool true)):=by refine CG.start VZ V0 rfl ?_;have h1:=K_ hW hA;unfold Ye.oe r0 at h1;have h2:=bP hW hA 40 _ _ _ (k87 W);have h3:=bP hW hA 40 _ _ _ (Y8 W);have h4:=qG hW 40 _ _ _ (XG W);have h5:=qG hW 40 _ _ _ (XH W);refine s4 hW 10 6 [] 0 [(0,bF),(1,.ptr 0 2 0),(2,.ptr 1 2 0),(14,.d (.list [[.int .i64 2,.list []]])),(18,.d (.list [[.int .i64 1,.str [110],.int .i64 2,.list [[.str [112],.int .i64 1]],.str [],.list [],.str []],[.int .i64 3,.str [65],.int .i64 0,.list [],.str [],.list [],.str [105,110,116]]]))] [(0,.cells [io 2,.ab]),(1,.cells [io 2,.d (.list [[.str [112],.int .i64 1]])])] ?_;refine CG.pg (h1) rfl k_ ?_;refine s4 hW 6 0 [] 7 [(3,.ptr 2 5 0),(4,i0),(5,so [109,111,100]),(6,io 5),(7,bT)] [(2,.cells [.d (.list [[.str [105,110,116],.str [],.list [[.int .i64 2,.list [[.str [112],.int .i64 1]]]]]]),so [105,110,116],sE,.d (.list [[.int .i64 2,.list []]]),.d (.list [[.int .i64 2,.list []],[.int .i64 0,.list [[.str [112],.int .i64 1]]]])])] ?_;refine dg hW [] [(42,.d (.list [[.str [97,98,115]],[.str [97,100,100]],[.str [97,110,100]],[.str [97,112,112,101,110,100]],[.str [99,104,117,110,107]],[.str [100,105,97,103,111,110,97,108]],[.str [100,105,118]],[.str [100,114,111,112]],[.str [101,113]],[.str [102,105,108,108]],[.str [103,101]],[.str [103,116]],[.str [105,110,100,101,120]],[.str [105,111,116,97]],[.str [108,101]],[.str [108,116]],[.str [109,97,120]],[.str [109,105,110]],[.str [109,111,100]],[.str [109,117,108]],[.str [110,101]],[.str [110,101,103]],[.str [110,111,116]],[.str [111,114]],[.str [114,101,118,101,114,115,101]],[.str [115,101,108,101,99,116]],[.str [115,105,103,110]],[.str [115,117,98]],[.str [116,97,107,101]],[.str [116,111,105,110,116]],[.str [116,114,97,110,115,112,111,115,101]],[.str [117,112,100,97,116,101]],[.str [119,105,110,100,111,119,115]],[.str [120,111,114]]]))] (aY:=[(0,bT)]) (H':=[some (.cells [io 2,.ab]),some (.cells [io 2,.d (.list [[.str [112],.int .i64 1]])]),some (.cells [.d (.list [[.str [105,110,116],.str [],.list [[.int .i64 2,.list [[.str [112],.int .i64 1]]]]]]),so [105,110,116],sE,.d (.list [[.int .i64 2,.list []]]),.d (.list [[.int .i64 2,.list []],[.int .i64 0,.list [[.str [112],.int .i64 1]]]])])]++nn 47 ([])) (cs:=[]) (calls:=[(43,[],.d (.list [[.str [97,98,115]],[.str [97,100,100]],[.str [97,110,100]],[.str [97,112,112,101,110,100]],[.str [99,104,117,110,107]],[.str [100,105,97,103,111,110,97,108]],[.str [100,105,118]],[.str [100,114,111,112]],[.str [101,113]],[.str [102,105,108,108]],[.str [103,101]],[.str [103,116]],[.str [105,110,100,101,120]],[.str [105,111,116,97]],[.str [108,101]],[.str [108,116]],[.str [109,97,120]],[.str [109,105,110]],[.str [109,111,100]],[.str [109,117,108]],[.str [110,101]],[.str [110,101,103]],[.str [110,111,116]],[.str [111,114]],[.str [114,101,118,101,114,115,101]],[.str [115,101,108,101,99,116]],[.str [115,105,103,110]],[.str [115,117,98]],[.str [116,97,107,101]],[.str [116,111,105,110,116]],[.str [116,114,97,110,115,112,111,115,101]],[.str [117,112,100,97,116,101]],[.str [119,105,110,100,111,119,115]],[.str [120,111,114]]]))]) k_ trivial ⟨h3,trivial⟩ ?_;refine s1 hW 1 0 [] 1 [] ?_;refine CG.rt (bT) ?_;with_reducible rfl
end Fw.Tz.Bc
