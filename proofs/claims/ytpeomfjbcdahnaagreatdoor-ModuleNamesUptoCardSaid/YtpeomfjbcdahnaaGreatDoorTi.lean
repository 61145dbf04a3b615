/-
  The two modules of layer 28's examples: what their texts parse to.
-/
import Derived.Test.YtpeomfjbcdahnaaGreatDoorTb
import Derived.Test.YtpeomfjbcdahnaaGreatDoorTq
import Derived.Test.YtpeomfjbcdahnaaGreatDoorFh
set_option linter.unusedSimpArgs false
set_option maxRecDepth 1000000
set_option maxHeartbeats 4000000
set_option linter.unusedVariables false
namespace Fw.Tz.Am
open Go Go.Proofs Fw.X Fw.Tz Fw.Tz.Va Fw.Tz.Vb Fw.Tz.Tm
variable {W:World}
def t1:List UInt8:=[109,111,100,117,108,101,32,109,10,100,101,102,32,102,40,97,100,100,41,32,61,32,49]
def t2:List UInt8:=[109,111,100,117,108,101,32,109,32,101,120,112,111,114,116,32,102,32,100,101,102,32,102,40,120,41,32,61,32,103,40,120,41,32,100,101,102,32,103,40,120,41,32,61,32,107,46,104,40,120,41]
def KC:Ty:=⟨[],[],[]⟩
def m1:Md:=⟨[109],[],[],[⟨[102],2,[⟨[97,100,100],false,KC⟩],false,KC,.mk 2 2 [105,110,116] 1 [] [] [] [] [] []⟩]⟩
def vx:Tm:=.mk 1 1 [120] 0 [] [] [] [] [] []
def m2:Md:=⟨[109],[],[[102]],[⟨[102],1,[⟨[120],false,KC⟩],false,KC,.mk 6 1 [103] 0 [] [] [] [] [] [vx]⟩,⟨[103],1,[⟨[120],false,KC⟩],false,KC,.mk 6 1 [107,46,104] 0 [] [] [] [] [] [vx]⟩]⟩
theorem k1(W:World):Yp.Ul W 40 15 [.d (.str t1)]=some (.tuple [vM m1,.d (.int .i64 0),.d (.int .i64 0)]):=k_
theorem k2(W:World):Yp.Ul W 40 15 [.d (.str t2)]=some (.tuple [vM m2,.d (.int .i64 0),.d (.int .i64 0)]):=k_
theorem c1:Ck.dC m1=(2,8):=k_
theorem c2:Ck.dC m2=(0,0):=k_
end Fw.Tz.Am
/-
  The examples of layer 28 hold; their answer as a table.
-/
namespace Fw.Tz.Am
open Go Go.Proofs Fw.X Fw.Tz Fw.Nu Fw.Tz.Sd Fw.Tz.Va Fw.Tz.Vb Fw.Tz.Tm Fw.Tz.Pn Fw.Tz.Cv
open Fw.Tz.Px (zy)
variable {W:World}
def sz(n:Nat):Bool:=Nat.blt n 1000
theorem gY{n:Nat}(h:sz n=true):n<1000:=by rwa[sz,aaR]at h
def XX(x:Tm):Bool:=sz x.name.length&&sz x.ae.length&&sz x.ad.length&&sz x.av.length&&x.ai.isEmpty&&sz x.aj.length&&sz x.kids.length
def Je(t:Ty):Bool:=sz t.elem.length&&sz t.row.length&&t.az.isEmpty
def Z4(p:Pm):Bool:=sz p.name.length&&Je p.ty
def XY(d:Df):Bool:=sz d.name.length&&sz d.ps.length&&d.ps.all Z4&&Je d.res&&d.body.pre.all XX&&sz d.body.pre.length&&sz (Td.jl [] (d.body.dv 1)).length
def B6(l:List (List UInt8)):Bool:=sz l.length&&l.all fun s=>sz s.length
def Us(m:Md):Bool:=sz m.name.length&&B6 m.imports&&B6 m.aA&&sz m.defs.length&&m.defs.all XY
theorem Gz{t:Ty}(h:Je t=true):Dn t:=by simp only[Je,aas,List.isEmpty_iff]at h;have h1:=gY h.1.1;have h2:=gY h.1.2;refine⟨by omega,by omega,by rw[h.2];decide,fun x hx=>by rw[h.2]at hx;simp at hx⟩
theorem KD{x:Tm}(h:XX x=true):zB x/\x.ai=[]:=by simp only[XX,aas,List.isEmpty_iff]at h;obtain⟨⟨⟨⟨⟨⟨h1,h2⟩,h3⟩,h4⟩,h5⟩,h6⟩,h7⟩:=h;have h1:=gY h1;have h2:=gY h2;have h3:=gY h3;have h4:=gY h4;have h6:=gY h6;have h7:=gY h7;exact⟨⟨by omega,by omega,by omega,by omega,by rw[h5];decide,fun l hl=>by rw[h5]at hl;simp at hl,by omega,by omega⟩,h5⟩
theorem KE{d:Df}(h:XY d=true):Mu d:=by simp only[XY,aas,aaJ]at h;obtain⟨⟨⟨⟨⟨⟨h1,h2⟩,h3⟩,h4⟩,h5⟩,h6⟩,h7⟩:=h;have h1:=gY h1;have h2:=gY h2;have h6:=gY h6;have h7:=gY h7;refine⟨⟨by omega,by omega,fun p hp=>?_,Gz h4,⟨⟨fun x hx=>(KD (h5 x hx)).1,by omega⟩,by omega⟩⟩,fun y hy x hx=>by rw[(KD (h5 y hy)).2]at hx;simp at hx⟩;have:=h3 p hp;rw[Z4,aas]at this;have h8:=gY this.1;exact⟨by omega,Gz this.2⟩
theorem B7{l:List (List UInt8)}(h:B6 l=true):l.length<1048577/\∀s∈l,s.length<1048577:=by simp only[B6,aas,aaJ]at h;have h1:=gY h.1;exact⟨by omega,fun s hs=>by have:=gY (h.2 s hs);omega⟩
theorem B8{m:Md}(h:Us m=true):zy m/\∀d∈m.defs,Mu d:=by simp only[Us,aas,aaJ]at h;obtain⟨⟨⟨⟨h1,h2⟩,h3⟩,h4⟩,h5⟩:=h;have h1:=gY h1;have h4:=gY h4;exact⟨⟨by omega,B7 h2,B7 h3,by omega,fun d hd=>(KE (h5 d hd)).df⟩,fun d hd=>KE (h5 d hd)⟩
theorem ok1:Us m1=true:=k_
theorem XZ:Us m2=true:=k_
def t7:List V->Option V|[.agg x]=>bif bn x (m2.aa.map .d)then some (.tuple [.d (.int .i64 0),.d (.int .i64 0)])else bif bn x (m1.aa.map .d)then some (.tuple [.d (.int .i64 2),.d (.int .i64 8)])else none|_=>none
def g2:Df:=⟨[103],1,[⟨[120],false,KC⟩],false,KC,.mk 6 1 [107,46,104] 0 [] [] [] [] [] [vx]⟩
def t8:List V->Option V|[.agg x,.d (.str s)]=>bif bn x (m2.aa.map .d)&&Fw.ah s [103]then some (.tuple [Dc g2,.d (.bool true)])else none|_=>none
def Z5:Extra:=.n (.n .e 7 t7 (.n .e 8 t8 .e)) 15 (IV [(t1,.tuple [vM m1,.d (.int .i64 0),.d (.int .i64 0)]),(t2,.tuple [vM m2,.d (.int .i64 0),.d (.int .i64 0)])]) .e
def ktW:FT Nat:=(.n (.n (.n (.n (.n .e 7 0 .e) 8 0 (.n .e 15 0 .e)) 65 0 (.n (.n .e 92 0 .e) 118 0 .e)) 119 0 (.n (.n (.n .e 156 0 .e) 160 0 .e) 161 0 (.n (.n .e 164 0 .e) 166 0 .e))) 167 0 (.n (.n (.n (.n .e 198 0 .e) 206 0 (.n .e 210 0 .e)) 212 0 (.n (.n .e 221 0 .e) 228 0 .e)) 261 0 (.n (.n (.n .e 267 0 .e) 278 0 .e) 286 0 (.n (.n .e 287 0 .e) 312 0 .e))))
theorem Tt(hW:W0 W):∀args r,t7 args=some r->PC P (gl W) 7 args r:=by
 intro args r hr;have hP:=Yt.FN hW hW.FD;unfold t7 at hr;split at hr
 ·rename_i x;cases h2:bn x (m2.aa.map .d)with
   |true=>rw[h2]at hr;simp only[aaw,aar]at hr;rw[dJ h2,←hr];have h:=Ck.mY hW hP m2 (B8 XZ).1;rwa[c2]at h
   |false=>
    rw[h2,aaM]at hr;cases h1:bn x (m1.aa.map .d)with
     |true=>rw[h1]at hr;simp only[aaw,aar]at hr;rw[dJ h1,←hr];have h:=Ck.mY hW hP m1 (B8 ok1).1;rwa[c1]at h
     |false=>rw[h1]at hr;cases hr
 ·cases hr
theorem f2:vq m2 [103]=.tuple [Dc g2,.d (.bool true)]:=k_
theorem Tu(hW:W0 W):∀args r,t8 args=some r->PC P (gl W) 8 args r:=by
 intro args r hr;unfold t8 at hr;split at hr
 ·rename_i x s;cases hc:(bn x (m2.aa.map .d)&&Fw.ah s [103])with
   |true=>rw[hc]at hr;simp only[aaw,aar]at hr;rw[aas]at hc;rw[dJ hc.1,cL hc.2,←hr,←f2];exact w6 hW (Yt.FN hW hW.FD) m2 (B8 XZ).1 (B8 XZ).2 [103]
   |false=>rw[hc]at hr;cases hr
 ·cases hr
theorem MY(hW:W0 W):sY P (gl W) Z5:=by
 refine⟨⟨trivial,Tt hW,trivial,Tu hW,trivial⟩,BV fun q hq=>?_,trivial⟩;simp only[aaT,abh,abV]at hq;rcases hq with rfl|rfl
 ·exact Yp.AD hW hW.FD 40 _ _ _ (k1 W)
 ·exact Yp.AD hW hW.FD 40 _ _ _ (k2 W)
theorem kA(W:World):S8 W ktW Z5 40 5 []=some (bT):=k_
theorem GA(hW:W0 W):PC P (gl W) 5 [] (bT):=tF hW (MY hW) 40 _ _ _ (kA W)
def Do:Extra:=.n .e 5 (MC (bT)) .e
theorem my(hW:W0 W):sY P (gl W) Do:=⟨trivial,IW (GA hW),trivial⟩
end Fw.Tz.Am
/-
  ModuleNames: the law's call returns true.
-/
namespace Fw.Tz.Mw
open Go Go.Proofs Fw.X Fw.Tz Fw.Nu Fw.Tz.Na Fw.Tz.El Fw.Tz.Va Fw.Tz.Vb Fw.Tz.Tm Fw.Tz.Ck Fw.Tz.Cv
open Fw.Tz.Px (zy)
variable {W:World}
variable {cur c':lI}{K K':List Fr}{n:Nat}{tm:List (Nat×V)}{H:an}{Q:Ex->St->Prop}
def DZ:FT Nat:=(.n (.n (.n (.n (.n .e 5 0 .e) 65 0 .e) 118 0 (.n .e 119 0 .e)) 156 0 (.n (.n .e 160 0 .e) 161 0 (.n .e 166 0 .e))) 167 0 (.n (.n (.n (.n .e 198 0 .e) 210 0 .e) 212 0 (.n .e 228 0 .e)) 261 0 (.n (.n .e 267 0 .e) 278 0 (.n .e 287 0 .e))))
noncomputable def rk(W:World)(n:Nat)(c:IR)(ks:List Nat)(tm:List (Nat×V))(H:an):Option XR:=VL [] (gl W) (mq W DZ Am.Do (jt W DZ Am.Do 40)) (fQ DZ Am.Do (jt W DZ Am.Do 40)) n c ks tm H
noncomputable def rd(W:World)(ov:List (Nat×Bool))(sp:List (Nat×V))(n:Nat)(l:List ab)(ks:List Nat)(tm:List (Nat×V))(H:an):Option (List V×an×List (Bool×Bool)×lz):=yp [] (gl W) (mS (fQ DZ Am.Do (jt W DZ Am.Do 40)) (mq W DZ Am.Do (jt W DZ Am.Do 40))) ov sp n l ks tm H
noncomputable def rg(W:World)(n:Nat)(N j:Nat)(bs:List Bool)(cur:lI)(K:List Fr)(ks:List Nat)(tm:List (Nat×V))(H:an):Option XR:=yr [] (gl W) (mq W DZ Am.Do (jt W DZ Am.Do 40)) (fQ DZ Am.Do (jt W DZ Am.Do 40)) n N j bs cur K ks tm H
theorem s2(hW:W0 W)(N j:Nat)(bs:List Bool)(m:Nat)(nw:List (Nat×V))(H':an)(hq:CG P (gl W) c' K' n (cK m nw tm) H' Q)(h1:dz N j bs cur K=some (c',K'):=by rfl)(h2:rg W n N j bs cur K ((cK m nw tm).map Prod.fst) tm H=some (.tuple ((cK m nw tm).map Prod.snd),H'):=by kernel_rfl):CG P (gl W) cur K n tm H Q:=CG.st bC (dE hW (Am.my hW) _ (bX hW (Am.my hW) 40)) (cm hW (Am.my hW) _ (bX hW (Am.my hW) 40)) N j bs h1 h2 hq
theorem s1(hW:W0 W)(N j:Nat)(bs:List Bool)(m:Nat)(nw:List (Nat×V))(hq:CG P (gl W) c' K' n (cK m nw tm) H Q)(h1:dz N j bs cur K=some (c',K'):=by rfl)(h2:rg W n N j bs cur K ((cK m nw tm).map Prod.fst) tm H=some (.tuple ((cK m nw tm).map Prod.snd),H):=by kernel_rfl):CG P (gl W) cur K n tm H Q:=s2 hW N j bs m nw H hq h1 h2
theorem fx(hW:W0 W)(N j:Nat)(bs:List Bool)(m:Nat)(nw:List (Nat×V)){c:aU}{a d:IR}{b:Bool}(h:b=true)(hq:CG P (gl W) (.code a) K' n (cK m nw tm) H Q)(h1:dz N j bs cur K=some (.code (.cond c a d),K'):=by rfl)(h2:rg W n N j bs cur K ((cK m nw tm).map Prod.fst) tm H=some (.tuple ((cK m nw tm).map Prod.snd),H):=by kernel_rfl)(ht:aT (gl W) (cK m nw tm) c=.d (.bool b):=by kernel_rfl):CG P (gl W) cur K n tm H Q:=s1 hW N j bs m nw (CG.ay h ht hq) h1 h2
theorem gF(hW:W0 W)(N j:Nat)(bs:List Bool)(m:Nat)(nw:List (Nat×V)){c:aU}{a d:IR}{b:Bool}(h:b=false)(hq:CG P (gl W) (.code d) K' n (cK m nw tm) H Q)(h1:dz N j bs cur K=some (.code (.cond c a d),K'):=by rfl)(h2:rg W n N j bs cur K ((cK m nw tm).map Prod.fst) tm H=some (.tuple ((cK m nw tm).map Prod.snd),H):=by kernel_rfl)(ht:aT (gl W) (cK m nw tm) c=.d (.bool b):=by kernel_rfl):CG P (gl W) cur K n tm H Q:=s1 hW N j bs m nw (CG.ao h ht hq) h1 h2
theorem gi(hW:W0 W)(N j:Nat)(bs:List Bool)(m:Nat)(nw:List (Nat×V)){rs:List iQ}{v:V}(v':V)(h1:dz N j bs cur K=some (.code .ret,K'):=by rfl)(h2:rg W n N j bs cur K ((cK m nw tm).map Prod.fst) tm H=some (.tuple ((cK m nw tm).map Prod.snd),H):=by kernel_rfl)(h:(h_ rs ⟨n,cK m nw tm,H⟩).bind (fA H)=some v':=by kernel_rfl)(e:v'=v:=by first|with_reducible rfl|rfl):CG P (gl W) cur K n tm H (me rs v):=s1 hW N j bs m nw (CG.ret h e) h1 h2
theorem a_(hW:W0 W)(N j:Nat)(bs:List Bool)(m:Nat)(nw:List (Nat×V)){d:Nat}{g:Option (Nat×Bool)}{af:List Nat}{l:List ab}{f:FuncId}{args:List aU}{vs:List V}{v:V}(h:PC P (gl W) f vs v)(hq:CG P (gl W) (.ops (l.drop 1)) K' n (put (cK m nw tm) d v) H Q)(h1:dz N j bs cur K=some (.ops l,K'):=by rfl)(h2:rg W n N j bs cur K ((cK m nw tm).map Prod.fst) tm H=some (.tuple ((cK m nw tm).map Prod.snd),H):=by kernel_rfl)(ho:l.head?=some ⟨some d,.call f args,g,af⟩:=by rfl)(hc:(aB g (cK m nw tm),bI (aT (gl W) (cK m nw tm)) args,Nat.blt d n)=(some true,vs,true):=by kernel_rfl):CG P (gl W) cur K n tm H Q:=s1 hW N j bs m nw (CG.pg h ho hc hq) h1 h2
theorem s4(hW:W0 W)(N j:Nat)(bs:List Bool)(m:Nat)(nw:List (Nat×V))(hd:List (Nat×bR))(hq:CG P (gl W) c' K' n (cK m nw tm) (vg hd H) Q)(h1:dz N j bs cur K=some (c',K'):=by rfl)(h2:rg W n N j bs cur K ((cK m nw tm).map Prod.fst) tm H=some (.tuple ((cK m nw tm).map Prod.snd),vg hd H):=by kernel_rfl):CG P (gl W) cur K n tm H Q:=s2 hW N j bs m nw (vg hd H) hq h1 h2
theorem s3(hW:W0 W)(N j:Nat)(bs:List Bool)(a7:List (Nat×V))(H':an)(hq:CG P (gl W) c' K' n a7 H' Q)(h1:dz N j bs cur K=some (c',K'):=by rfl)(h2:rg W n N j bs cur K (a7.map Prod.fst) tm H=some (.tuple (a7.map Prod.snd),H'):=by kernel_rfl):CG P (gl W) cur K n tm H Q:=CG.st bC (dE hW (Am.my hW) _ (bX hW (Am.my hW) 40)) (cm hW (Am.my hW) _ (bX hW (Am.my hW) 40)) N j bs h1 h2 hq
theorem fU(hW:W0 W)(N j:Nat)(bs:List Bool)(a7:List (Nat×V))(H':an){K0:List Fr}{l:List ab}{R:St->Prop}(h:R ⟨n,a7,H'⟩)(h1:dz N j bs cur K=some (.ops l,[]):=by rfl)(h2:rg W n N j bs cur K (a7.map Prod.fst) tm H=some (.tuple (a7.map Prod.snd),H'):=by kernel_rfl)(hl:l.length=0:=by rfl):CG P (gl W) cur K n tm H (LQ P (gl W) K0 Q R):=s3 hW N j bs a7 H' (CG.fu hl h) h1 h2
theorem Gy(hW:W0 W)(m:Md)(hs:zy m)(hc:∀d∈m.defs,Mu d)(hz:∀d∈m.defs,d.body.pre.length<1048577):PC P (gl W) 3 [vM m] (bT):=by
 have hP:=Yt.FN hW hW.FD;have hf:=Fg.Mm hW m hs hz;have hk:=mY hW hP m hs;refine CG.start is3 ca3 rfl ?_;refine s1 hW 1 0 [] 1 [] ?_;refine CG.dt ?_;refine CG.cU (cs:=[.str m.name,.list (m.imports.map Tm.encS),.list (m.aA.map Tm.encS),.list (m.defs.map Df.aa)]) rfl k_ rfl ?_;refine s1 hW 11 1 [false] 2 [(2,bF),(15,.agg [so m.name,lo Tm.encS m.imports,lo Tm.encS m.aA,lo Df.aa m.defs])] ?_;rotate_left;refine CG.yx hf rfl rfl k_ rfl ?_;rintro v H' ⟨b,rfl,rfl⟩;cases b with
  |false=>exact gi hW 6 0 [true] 1 [(2,bT)] (bT)
  |true=>
   cases hr:ji m with
    |false=>have uH:aP (dC m).2 0=false:=hr;refine a_ hW 7 1 [false] 3 [(19,.agg [so m.name,lo Tm.encS m.imports,lo Tm.encS m.aA,lo Df.aa m.defs])] (hk) ?_;refine s1 hW 5 0 [] 3 [(24,bo (!aP (dC m).2 0))] ?_;refine CG.ay (b:=(!aP (dC m).2 0)) (by rw[uH];rfl) k_ ?_;exact gi hW 3 0 [] 1 [(2,bT)] (bT)
    |true=>
     have uH:aP (dC m).2 0=true:=hr;have m1:=hs.defs;have m2:=hs.AF.1;refine a_ hW 7 1 [false] 3 [(19,.agg [so m.name,lo Tm.encS m.imports,lo Tm.encS m.aA,lo Df.aa m.defs])] (hk) ?_;refine s1 hW 5 0 [] 3 [(24,bo (!aP (dC m).2 0))] ?_;refine CG.ao (b:=(!aP (dC m).2 0)) (by rw[uH];rfl) k_ ?_;refine s1 hW 7 0 [] 3 [(5,i0)] ?_;rotate_left;have ij:True:=trivial;refine CG.bh m.defs (fun i u=>[(1,.aO [.str m.name,.list (m.imports.map Tm.encS),.list (m.aA.map Tm.encS),.list (m.defs.map Df.aa)]),(2,bF),(5,.d (.int .i64 (.ofNat i)))]) (fun i u=>[]) (fun i u r=>(True)) () ?_ (ax.rC k_) ?_ ?_
     ·trivial
     ·intro i u hi cQ aF;refine gF hW 4 0 [] 7 [(29,bo (aI (Int.ofNat i) (Int.ofNat (m.defs.map Df.aa).length)))] (fp i (m.defs.map Df.aa).length) ?_;refine CG.aX (by decide) ?_;refine s1 hW 7 0 [] 3 [(10,i0)] ?_;rotate_left;refine CG.bh m.aA (fun j v=>[(1,.aO [.str m.name,.list (m.imports.map Tm.encS),.list (m.aA.map Tm.encS),.list (m.defs.map Df.aa)]),(2,bF),(10,.d (.int .i64 (.ofNat j)))]) (fun j v=>[]) (fun j v s=>(True)) () ?_ (ax.rC k_) ?_ ?_
      ·trivial
      ·intro j v hj FY mr;refine gF hW 4 0 [] 7 [(72,bo (aI (Int.ofNat j) (Int.ofNat (m.aA.map Tm.encS).length)))] (fp j (m.aA.map Tm.encS).length) ?_;refine CG.aX (by decide) ?_;exact gi hW 5 0 [] 0 [(2,bT)] (bT)
      ·intro j v y s FY hy FZ mr;have hm:=aat hy;obtain⟨d,e⟩:=Mn.FP hr hm;have h1:=w6 hW hP m hs hc y;rw[e]at h1;have h2:=ze hW hP m hs y;have e2:w9 m.aA y=true:=ab2.2 ⟨y,hm,by rw[cr];simp⟩;rw[e2,hr]at h2;refine fx hW 4 0 [] 7 [(72,bo (aI (Int.ofNat j) (Int.ofNat (m.aA.map Tm.encS).length)))] (eV j (m.aA.map Tm.encS).length) ?_;refine s1 hW 5 0 [] 7 [] ?_;refine CG.pI bC k_ ?_;refine AW.rk 4 [(76,.agg [so m.name,lo Tm.encS m.imports,lo Tm.encS m.aA,lo Df.aa m.defs]),(77,.aO [.list (m.aA.map Tm.encS)]),(78,lo Tm.encS m.aA),(79,no j)] [] k_ ?_;refine AW.idx (aG (aa:=Tm.encS) hy) rfl k_ k_ k_ rfl ?_;refine AW.rk 1 [(81,so y)] [] k_ ?_;refine AW.od h1 rfl k_ k_ ?_;refine AW.rk 6 [(11,.ptr 10 17 0),(12,bT),(75,.tuple [.agg [so d.name,io d.line,lo Pm.aa d.ps,bo d.given,so d.res.elem,so d.res.row,lo aq.aa d.res.az,io (Tm.kind d.body),io (Tm.line d.body),so (Tm.name d.body),io (Tm.num d.body),so (Tm.ae d.body),lo Tm.encI (Tm.ad d.body),lo Tm.encI (Tm.av d.body),lo aq.aa (Tm.ai d.body),lo Tm.encI (Tm.aj d.body),lo Tm.aa (Tm.kids d.body)],bT]),(83,.agg [so d.name,io d.line,lo Pm.aa d.ps,bo d.given,so d.res.elem,so d.res.row,lo aq.aa d.res.az,io (Tm.kind d.body),io (Tm.line d.body),so (Tm.name d.body),io (Tm.num d.body),so (Tm.ae d.body),lo Tm.encI (Tm.ad d.body),lo Tm.encI (Tm.av d.body),lo aq.aa (Tm.ai d.body),lo Tm.encI (Tm.aj d.body),lo Tm.aa (Tm.kids d.body)]),(84,bT)] [(10,.cells [so d.name,io d.line,lo Pm.aa d.ps,bo d.given,so d.res.elem,so d.res.row,lo aq.aa d.res.az,io (Tm.kind d.body),io (Tm.line d.body),so (Tm.name d.body),io (Tm.num d.body),so (Tm.ae d.body),lo Tm.encI (Tm.ad d.body),lo Tm.encI (Tm.av d.body),lo aq.aa (Tm.ai d.body),lo Tm.encI (Tm.aj d.body),lo Tm.aa (Tm.kids d.body)])] k_ ?_;refine AW.nil rfl ⟨k_,AW.fin 11 [1,2,10,12] k_ rfl k_ rfl k_ ?_⟩;refine s1 hW 2 0 [] 15 [] ?_;refine CG.iy bC k_ k_ ?_;refine AO.rd 7 [(85,bT),(86,bF),(87,bF),(88,.agg [so m.name,lo Tm.encS m.imports,lo Tm.encS m.aA,lo Df.aa m.defs]),(89,.aO [.list (m.aA.map Tm.encS)]),(90,lo Tm.encS m.aA),(91,no j)] k_ ?_;refine AO.idx (aG (aa:=Tm.encS) hy) rfl k_ k_ k_ rfl ?_;refine AO.rd 1 [(93,so y)] k_ ?_;refine AO.od h2 rfl k_ k_ ?_;refine AO.rd 2 [(95,bF),(96,bF)] k_ ?_;refine AO.done [1,2,10,96] rfl rfl k_ ?_;refine fU hW 5 3 [false] [(1,.aO [.str m.name,.list (m.imports.map Tm.encS),.list (m.aA.map Tm.encS),.list (m.defs.map Df.aa)]),(2,bF),(10,io (aW IntKind.i64 (bJ (Int.ofNat j) 1)))] (nn 10 ([some (.cells [so d.name,io d.line,lo Pm.aa d.ps,bo d.given,so d.res.elem,so d.res.row,lo aq.aa d.res.az,io (Tm.kind d.body),io (Tm.line d.body),so (Tm.name d.body),io (Tm.num d.body),so (Tm.ae d.body),lo Tm.encI (Tm.ad d.body),lo Tm.encI (Tm.av d.body),lo aq.aa (Tm.ai d.body),lo Tm.encI (Tm.aj d.body),lo Tm.aa (Tm.kids d.body)])])) ?_;rw[bf (by omega)];rotate_left;exact⟨(),trivial,ax.trim 0 [1,2,10] rfl rfl rfl rfl rfl⟩
     ·intro i u x r cQ hx cy aF;obtain⟨e1,e2⟩:=Mn.yR hr hx;have h1:=w6 hW hP m hs hc x.name;rw[e1]at h1;have h2:=Yw.GC hW x.name e2;have h3:=Es.IU hW x (hc x (aat hx));refine fx hW 4 0 [] 7 [(29,bo (aI (Int.ofNat i) (Int.ofNat (m.defs.map Df.aa).length)))] (eV i (m.defs.map Df.aa).length) ?_;refine s1 hW 5 0 [] 7 [] ?_;refine CG.pI bC k_ ?_;refine AW.rk 4 [(33,.agg [so m.name,lo Tm.encS m.imports,lo Tm.encS m.aA,lo Df.aa m.defs]),(34,.aO [.list (m.defs.map Df.aa)]),(35,lo Df.aa m.defs),(36,no i)] [] k_ ?_;refine AW.idx (aG (aa:=Df.aa) hx) rfl k_ k_ k_ rfl ?_;refine AW.rk 2 [(38,.aO [.str x.name]),(39,so x.name)] [] k_ ?_;refine AW.od h1 rfl k_ k_ ?_;refine AW.rk 6 [(6,.ptr 11 17 0),(7,bT),(32,.tuple [.agg [so x.name,io x.line,lo Pm.aa x.ps,bo x.given,so x.res.elem,so x.res.row,lo aq.aa x.res.az,io (Tm.kind x.body),io (Tm.line x.body),so (Tm.name x.body),io (Tm.num x.body),so (Tm.ae x.body),lo Tm.encI (Tm.ad x.body),lo Tm.encI (Tm.av x.body),lo aq.aa (Tm.ai x.body),lo Tm.encI (Tm.aj x.body),lo Tm.aa (Tm.kids x.body)],bT]),(41,.agg [so x.name,io x.line,lo Pm.aa x.ps,bo x.given,so x.res.elem,so x.res.row,lo aq.aa x.res.az,io (Tm.kind x.body),io (Tm.line x.body),so (Tm.name x.body),io (Tm.num x.body),so (Tm.ae x.body),lo Tm.encI (Tm.ad x.body),lo Tm.encI (Tm.av x.body),lo aq.aa (Tm.ai x.body),lo Tm.encI (Tm.aj x.body),lo Tm.aa (Tm.kids x.body)]),(42,bT)] [(11,.cells [so x.name,io x.line,lo Pm.aa x.ps,bo x.given,so x.res.elem,so x.res.row,lo aq.aa x.res.az,io (Tm.kind x.body),io (Tm.line x.body),so (Tm.name x.body),io (Tm.num x.body),so (Tm.ae x.body),lo Tm.encI (Tm.ad x.body),lo Tm.encI (Tm.av x.body),lo aq.aa (Tm.ai x.body),lo Tm.encI (Tm.aj x.body),lo Tm.aa (Tm.kids x.body)])] k_ ?_;refine AW.nil rfl ⟨k_,AW.fin 12 [1,2,5,6,7] k_ rfl k_ rfl k_ ?_⟩;refine s1 hW 2 3 [] 31 [(45,lo Df.aa m.defs),(46,no i)] ?_;refine CG.ix (aG (aa:=Df.aa) hx) rfl k_ ?_;refine a_ hW 0 2 [] 31 [(49,so x.name)] (h2) ?_;refine s4 hW 3 0 [] 31 [(9,bF)] [(12,.cells [sE,bF,bF,bF,.d (.list []),.d (.list []),sE,sE,.d (.list []),.d (.list [])])] ?_;refine CG.iy bC k_ k_ ?_;refine AO.rd 10 [(53,bF),(54,bF),(55,bT),(56,bF),(57,bF),(58,bF),(59,.agg [so x.name,io x.line,lo Pm.aa x.ps,bo x.given,so x.res.elem,so x.res.row,lo aq.aa x.res.az,io (Tm.kind x.body),io (Tm.line x.body),so (Tm.name x.body),io (Tm.num x.body),so (Tm.ae x.body),lo Tm.encI (Tm.ad x.body),lo Tm.encI (Tm.av x.body),lo aq.aa (Tm.ai x.body),lo Tm.encI (Tm.aj x.body),lo Tm.aa (Tm.kids x.body)]),(60,.aO [.list (m.defs.map Df.aa)]),(61,lo Df.aa m.defs),(62,no i)] k_ ?_;refine AO.idx (aG (aa:=Df.aa) hx) rfl k_ k_ k_ rfl ?_;refine AO.rd 1 [(64,.agg [so x.name,io x.line,lo Pm.aa x.ps,bo x.given,so x.res.elem,so x.res.row,lo aq.aa x.res.az,io (Tm.kind x.body),io (Tm.line x.body),so (Tm.name x.body),io (Tm.num x.body),so (Tm.ae x.body),lo Tm.encI (Tm.ad x.body),lo Tm.encI (Tm.av x.body),lo aq.aa (Tm.ai x.body),lo Tm.encI (Tm.aj x.body),lo Tm.aa (Tm.kids x.body)])] k_ ?_;refine AO.od h3 rfl k_ k_ ?_;refine AO.rd 2 [(66,bF),(67,bF)] k_ ?_;refine AO.done [1,2,5,67] rfl rfl k_ ?_;refine fU hW 5 3 [false] [(1,.aO [.str m.name,.list (m.imports.map Tm.encS),.list (m.aA.map Tm.encS),.list (m.defs.map Df.aa)]),(2,bF),(5,io (aW IntKind.i64 (bJ (Int.ofNat i) 1)))] (nn 11 ([some (.cells [so x.name,io x.line,lo Pm.aa x.ps,bo x.given,so x.res.elem,so x.res.row,lo aq.aa x.res.az,io (Tm.kind x.body),io (Tm.line x.body),so (Tm.name x.body),io (Tm.num x.body),so (Tm.ae x.body),lo Tm.encI (Tm.ad x.body),lo Tm.encI (Tm.av x.body),lo aq.aa (Tm.ai x.body),lo Tm.encI (Tm.aj x.body),lo Tm.aa (Tm.kids x.body)]),some (.cells [sE,bF,bF,bF,.d (.list []),.d (.list []),sE,sE,.d (.list []),.d (.list [])])])) ?_;rw[bf (by omega)];rotate_left;exact⟨(),trivial,ax.trim 0 [1,2,5] rfl rfl rfl rfl rfl⟩
end Fw.Tz.Mw
