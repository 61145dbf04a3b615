/-
  The two modules of layer 28's examples: what their texts parse to.
-/
import Derived.Test.YtpeomfjbcdahnaaGreatDoorTb
import Derived.Test.YtpeomfjbcdahnaaGreatDoorTq
import Derived.Test.YtpeomfjbcdahnaaGreatDoorFh
set_option linter.unusedSimpArgs false
set_option maxRecDepth 1000000
set_option linter.unusedVariables false
namespace Fw.Tz.Am
open Go Go.Proofs Fw.X Fw.Tz Fw.Tz.Va Fw.Tz.Vb Fw.Tz.Tm
variable {W:World}
def t1:List UInt8:=[109,111,100,117,108,101,32,109,10,100,101,102,32,102,40,97,100,100,41,32,61,32,49]
def t2:List UInt8:=[109,111,100,117,108,101,32,109,32,101,120,112,111,114,116,32,102,32,100,101,102,32,102,40,120,41,32,61,32,103,40,120,41,32,100,101,102,32,103,40,120,41,32,61,32,107,46,104,40,120,41]
def KB:Ty:=⟨[],[],[]⟩
def m1:Md:=⟨[109],[],[],[⟨[102],2,[⟨[97,100,100],false,KB⟩],false,KB,.mk 2 2 [105,110,116] 1 [] [] [] [] [] []⟩]⟩
def vx:Tm:=.mk 1 1 [120] 0 [] [] [] [] [] []
def m2:Md:=⟨[109],[],[[102]],[⟨[102],1,[⟨[120],false,KB⟩],false,KB,.mk 6 1 [103] 0 [] [] [] [] [] [vx]⟩,⟨[103],1,[⟨[120],false,KB⟩],false,KB,.mk 6 1 [107,46,104] 0 [] [] [] [] [] [vx]⟩]⟩
theorem k1(W:World):Yp.lq W 40 15 [.d (.str t1)]=some (.tuple [vM m1,.d (.int .i64 0),.d (.int .i64 0)]):=k_
theorem k2(W:World):Yp.lq W 40 15 [.d (.str t2)]=some (.tuple [vM m2,.d (.int .i64 0),.d (.int .i64 0)]):=k_
theorem c1:Ck.dF m1=(2,8):=k_
theorem c2:Ck.dF m2=(0,0):=k_
end Fw.Tz.Am
/-
  The examples of layer 28 hold; their answer as a table.
-/
namespace Fw.Tz.Am
open Go Go.Proofs Fw.X Fw.Tz Fw.Nu Fw.Tz.Sd Fw.Tz.Va Fw.Tz.Vb Fw.Tz.Tm Fw.Tz.Pn Fw.Tz.Cv
open Fw.Tz.Px (qy)
variable {W:World}
def sz(n:Nat):Bool:=Nat.blt n 1000
theorem hM{n:Nat}(h:sz n=true):n<1000:=by rwa[sz,aaU]at h
def YI(x:Tm):Bool:=sz x.name.length&&sz x.ae.length&&sz x.ad.length&&sz x.av.length&&x.ak.isEmpty&&sz x.al.length&&sz x.kids.length
def I'(t:Ty):Bool:=sz t.elem.length&&sz t.row.length&&t.aF.isEmpty
def pOk(p:Pm):Bool:=sz p.name.length&&I' p.ty
def YJ(d:Df):Bool:=sz d.name.length&&sz d.ps.length&&d.ps.all pOk&&I' d.res&&d.body.pre.all YI&&sz d.body.pre.length&&sz (Td.je [] (d.body.dy 1)).length
def BQ(l:List (List UInt8)):Bool:=sz l.length&&l.all fun s=>sz s.length
def UF(m:Md):Bool:=sz m.name.length&&BQ m.imports&&BQ m.ai&&sz m.defs.length&&m.defs.all YJ
theorem Gz{t:Ty}(h:I' t=true):Dg t:=by simp only[I',aas,List.isEmpty_iff]at h;have h1:=hM h.1.1;have h2:=hM h.1.2;refine⟨by omega,by omega,by rw[h.2];decide,fun x hx=>by rw[h.2]at hx;simp at hx⟩
theorem KC{x:Tm}(h:YI x=true):zp x/\x.ak=[]:=by simp only[YI,aas,List.isEmpty_iff]at h;obtain⟨⟨⟨⟨⟨⟨h1,h2⟩,h3⟩,h4⟩,h5⟩,h6⟩,h7⟩:=h;have h1:=hM h1;have h2:=hM h2;have h3:=hM h3;have h4:=hM h4;have h6:=hM h6;have h7:=hM h7;exact⟨⟨by omega,by omega,by omega,by omega,by rw[h5];decide,fun l hl=>by rw[h5]at hl;simp at hl,by omega,by omega⟩,h5⟩
theorem KD{d:Df}(h:YJ d=true):xj d:=by simp only[YJ,aas,aaJ]at h;obtain⟨⟨⟨⟨⟨⟨h1,h2⟩,h3⟩,h4⟩,h5⟩,h6⟩,h7⟩:=h;have h1:=hM h1;have h2:=hM h2;have h6:=hM h6;have h7:=hM h7;refine⟨⟨by omega,by omega,fun p hp=>?_,Gz h4,⟨⟨fun x hx=>(KC (h5 x hx)).1,by omega⟩,by omega⟩⟩,fun y hy x hx=>by rw[(KC (h5 y hy)).2]at hx;simp at hx⟩;have:=h3 p hp;rw[pOk,aas]at this;have h8:=hM this.1;exact⟨by omega,Gz this.2⟩
theorem BR{l:List (List UInt8)}(h:BQ l=true):l.length<1048577/\∀s∈l,s.length<1048577:=by simp only[BQ,aas,aaJ]at h;have h1:=hM h.1;exact⟨by omega,fun s hs=>by have:=hM (h.2 s hs);omega⟩
theorem BS{m:Md}(h:UF m=true):qy m/\∀d∈m.defs,xj d:=by simp only[UF,aas,aaJ]at h;obtain⟨⟨⟨⟨h1,h2⟩,h3⟩,h4⟩,h5⟩:=h;have h1:=hM h1;have h4:=hM h4;exact⟨⟨by omega,BR h2,BR h3,by omega,fun d hd=>(KD (h5 d hd)).df⟩,fun d hd=>KD (h5 d hd)⟩
theorem ok1:UF m1=true:=k_
theorem YK:UF m2=true:=k_
def t7:List V->Option V|[.agg x]=>bif bq x (m2.aa.map .d)then some (.tuple [.d (.int .i64 0),.d (.int .i64 0)])else bif bq x (m1.aa.map .d)then some (.tuple [.d (.int .i64 2),.d (.int .i64 8)])else none|_=>none
def g2:Df:=⟨[103],1,[⟨[120],false,KB⟩],false,KB,.mk 6 1 [107,46,104] 0 [] [] [] [] [] [vx]⟩
def t8:List V->Option V|[.agg x,.d (.str s)]=>bif bq x (m2.aa.map .d)&&Fw.ah s [103]then some (.tuple [ue g2,.d (.bool true)])else none|_=>none
def exW:Extra:=.n (.n .e 7 t7 (.n .e 8 t8 .e)) 15 (IN [(t1,.tuple [vM m1,.d (.int .i64 0),.d (.int .i64 0)]),(t2,.tuple [vM m2,.d (.int .i64 0),.d (.int .i64 0)])]) .e
def ktW:FT Nat:=(.n (.n (.n (.n (.n .e 7 0 .e) 8 0 (.n .e 15 0 .e)) 65 0 (.n (.n .e 92 0 .e) 118 0 .e)) 119 0 (.n (.n (.n .e 156 0 .e) 160 0 .e) 161 0 (.n (.n .e 164 0 .e) 166 0 .e))) 167 0 (.n (.n (.n (.n .e 198 0 .e) 206 0 (.n .e 210 0 .e)) 212 0 (.n (.n .e 221 0 .e) 228 0 .e)) 261 0 (.n (.n (.n .e 267 0 .e) 278 0 .e) 286 0 (.n (.n .e 287 0 .e) 312 0 .e))))
theorem TC(hW:W0 W):∀args r,t7 args=some r->PC P (gl W) 7 args r:=by
 intro args r hr;have hP:=Yt.FL hW hW.FB;unfold t7 at hr;split at hr
 ·rename_i x;cases h2:bq x (m2.aa.map .d)with
   |true=>rw[h2]at hr;simp only[aaw,aat]at hr;rw[dQ h2,←hr];have h:=Ck.mQ hW hP m2 (BS YK).1;rwa[c2]at h
   |false=>
    rw[h2,aaK]at hr;cases h1:bq x (m1.aa.map .d)with
     |true=>rw[h1]at hr;simp only[aaw,aat]at hr;rw[dQ h1,←hr];have h:=Ck.mQ hW hP m1 (BS ok1).1;rwa[c1]at h
     |false=>rw[h1]at hr;cases hr
 ·cases hr
theorem f2:nv m2 [103]=.tuple [ue g2,.d (.bool true)]:=k_
theorem TD(hW:W0 W):∀args r,t8 args=some r->PC P (gl W) 8 args r:=by
 intro args r hr;unfold t8 at hr;split at hr
 ·rename_i x s;cases hc:(bq x (m2.aa.map .d)&&Fw.ah s [103])with
   |true=>rw[hc]at hr;simp only[aaw,aat]at hr;rw[aas]at hc;rw[dQ hc.1,cN hc.2,←hr,←f2];exact rL hW (Yt.FL hW hW.FB) m2 (BS YK).1 (BS YK).2 [103]
   |false=>rw[hc]at hr;cases hr
 ·cases hr
theorem MW(hW:W0 W):sJ P (gl W) exW:=by
 refine⟨⟨trivial,TC hW,trivial,TD hW,trivial⟩,BG fun q hq=>?_,trivial⟩;simp only[aaX,aby,acd]at hq;rcases hq with rfl|rfl
 ·exact Yp.Ao hW hW.FB 40 _ _ _ (k1 W)
 ·exact Yp.Ao hW hW.FB 40 _ _ _ (k2 W)
theorem kA(W:World):Tb W ktW exW 40 5 []=some (bT):=k_
theorem GA(hW:W0 W):PC P (gl W) 5 [] (bT):=tl hW (MW hW) 40 _ _ _ (kA W)
def Dh:Extra:=.n .e 5 (MD (bT)) .e
theorem mi(hW:W0 W):sJ P (gl W) Dh:=⟨trivial,IP (GA hW),trivial⟩
end Fw.Tz.Am
