/-
  linear.sum.result, further: the sort and the second loop.
-/
import Derived.Test.YtgfgckimecpmlaaGreatDoorTa
import Derived.Test.YtgfgckimecpmlaaGreatDoorFe
set_option linter.unusedSimpArgs false
set_option maxRecDepth 100000
set_option linter.unusedVariables false
namespace Fw.Tz
open Go Go.Proofs Fw.X
variable {W:World}
theorem qD(k:List UInt8):∀(es:Es)(j:Nat),∃r,kz (.str k) (cX es) j=some r∧r.map (·.2)=(es.find? fun e=>e.1==k).map fun e=>V.d (.int .i64 e.2)
 |[],j=>⟨none,rfl,rfl⟩
 |(a,c)::es,j=>by
  simp only[cX,aax,kz,yd];rw[cS];by_cases h:k=a
  ·subst h;simp only[beq_self_eq_true];exact⟨_,rfl,by simp⟩
  ·have e1:(k==a)=false:=by simpa using h
   have e2:(a==k)=false:=by simpa using ack h
   rw[e1];obtain⟨r,h1,h2⟩:=qD k es (j+1);refine⟨r,h1,?_⟩;rw[h2,acT,e2]
theorem rj(k:List UInt8)(es:Es):(match kz (.str k) (cX es) 0 with
 |some (some (_,v))=>some v
 |some none=>some (V.d (.int .i64 0))
 |none=>none)=some (V.d (.int .i64 (bm es k))):=by
 obtain⟨r,h1,h2⟩:=qD k es 0;rw[h1];unfold bm;cases hf:es.find? fun e=>
  e.1==k with
   |none=>rw[hf]at h2;simp at h2;subst h2;rfl
   |some e=>
    rw[hf]at h2;cases r with
     |none=>simp at h2
     |some p=>obtain⟨i,v⟩:=p;simp at h2;subst h2;rfl
def bI(es:Es):List V:=es.flatMap fun e=>[.d (.str e.1),.d (.int .i64 e.2)]
theorem dL(es:Es):(bI es).length=2*es.length:=by
 induction es with
  |nil=>rfl
  |cons e es ih=>simp[bI]at ih⊢;omega
def ma(b:Nat)(l:Es):V:=match l with|[]=>.ab|_=>.sl b (2*l.length) 0 l.length 2
def nG(l:Es):ah:=match l with|[]=>[]|_=>[none,none,none,none,none,none,none,none,none,none,none,some (.cells (bI l))]
theorem j6{b:Nat}{l:Es}(h:l≠[]):ma b l=.sl b (2*l.length) 0 l.length 2:=by cases l<;>simp_all[ma]
theorem gw{l:Es}(h:l≠[]):nG l=[none,none,none,none,none,none,none,none,none,none,none,some (.cells (bI l))]:=by cases l<;>simp_all[nG]
def jD(cs:List V)(h off:Nat)(n:Int)(es:Es)(seen:List Nat)(s:List (List UInt8))(l:Es):St:=⟨58,[(0,.ptr 0 h off),(2,.ptr 2 2 0),(3,.d (.int .i64 0)),(4,.ptr 3 2 0),(33,.sl 5 s.length 0 s.length 1),(34,.d (.int .i64 s.length)),(35,.d (.int .i64 l.length))],[some (.cells cs),some (.map (cX es)),some (.cells [.d (.int .i64 0),.ab]),some (.cells [.d (.int .i64 n),ma 17 l]),some (.dC 1 es.length seen),some (.cells (s.map eC))]++nG l⟩
theorem xA:n6 f206.iM=true:=k_
theorem CV:eO 58 f206.iM=true:=k_
theorem tI(m:Nat)(l:Es):ak m (bI l)=true:=by
 induction l with
  |nil=>rfl
  |cons x l ih=>simp[bI,ak,an]at ih⊢;exact ih
theorem NR{cs:List V}{h off:Nat}{n:Int}{es:Es}(h1:cs.length=h)(h3:cs[off+1]? =some (.map 1))(gR:ak 2 cs=true)(cx:es.length≤2^20){seen:List Nat}{s:List (List UInt8)}{l:Es}{k:List UInt8}(hk:s[l.length]? =some k)(YN:s.length≤2^20)(Q:Ex→St→Prop)(hq:∀aL,ar (jD cs h off n es seen s l).hp.length aL (jD cs h off n es seen s (l++[(k,bm es k)]))→Q .normal aL):WC P (gl W) f206.Jc (jD cs h off n es seen s l) Q:=by
 have bL:l.length<s.length:=(aai.1 hk).1;have Vz:(s.map eC)[l.length]? =some (.d (.str k)):=by simp[hk,eC]
 have k2:∀(t:ah),cY (some (.cells cs)::t) 1 (.ptr 0 h (off+1))=some [.map 1]:=fun l=>CU rfl h1 h3
 have k3:∀(t:ah),cY (some (.cells cs)::some (.map (cX es))::some (.cells [.d (.int .i64 0),.ab])::some (.cells [.d (.int .i64 n),ma 17 l])::some (.dC 1 es.length seen)::some (.cells (s.map eC))::t) 1 (.ptr 5 s.length l.length)=some [.d (.str k)]:=fun t=>CU rfl (by simp) Vz
 have Yo:(l.length:Int)<s.length:=by omega
 have tJ:=bC (show 2≤18 by omega) gR;have pw:∀m,((cX es).all fun p=>an m p.2)=true:=by intro m;simp[cX,aaP,an]
 have hB:off+1+1≤h:=by have:=(aai.1 h3).1;omega
 have hC:(cs.drop (off+1)).take 1=[.map 1]:=by have bL:=(aai.1 h3).1;rw[aa6 bL];have:=(aai.1 h3).2;simp[this]
 have hc:(kz (.str k) (cX es) 0=some none∧bm es k=0)∨∃i,kz (.str k) (cX es) 0=some (some (i,V.d (.int .i64 (bm es k)))):=by
  have:=rj k es;obtain⟨r,h1,_⟩:=qD k es 0;rw[h1]at this⊢;rcases r with _|⟨i,v⟩
  ·left;simp at this;exact⟨rfl,by omega⟩
  ·right;simp at this;subst this;exact⟨i,rfl⟩
 refine WC.seq (WC.gM (own:=[]) (by simp[jD,f206.jh,cH,bB,ao,bu,aU,az,aM,aV,aC,b6,aX,j_,ky,bL];rfl) ?_ );refine WC.seq (WC.cond (t:=true) (by simp[aU,az]) (WC.skip ?_ ));refine WC.seq (WC.block (WC.seq (WC.gM (own:=[]) (by simp[f206.kq,cH,bB,ao,bu,aU,az,aM,aV,aC,b6,aX,dp,eo,iw,dP,aA,bL,k3,oW];rfl) ?_ )));by_cases DE:l=[]
 ·subst DE;have w1:IntKind.i64.wrap 1=1:=rfl;have fin:∀aL,aL=(⟨58,[(0,V.ptr 0 h off),(2,V.ptr 2 2 0),(3,V.d (D.int IntKind.i64 0)),(4,V.ptr 3 2 0),(33,V.sl 5 s.length 0 s.length 1),(34,V.d (D.int IntKind.i64 s.length)),(35,V.d (D.int IntKind.i64 1))],[some (.cells cs),some (.map (cX es)),some (.cells [.d (.int .i64 0),.ab]),some (.cells [.d (.int .i64 n),.sl 17 2 0 1 2]),some (.dC 1 es.length seen),some (.cells (s.map eC)),none,none,none,none,none,none,none,none,none,none,none,some (.cells [.d (.str k),.d (.int .i64 (bm es k))])]⟩:St)→aL=jD cs h off n es seen s ([]++[(k,bm es k)]):=by rintro aL rfl;simp[jD,ma,nG,bI]
  rcases hc with⟨jW,hz⟩|⟨i,jW⟩
  ·refine WC.Ct (aw:=P0) Hs qh (by simp[f206.iM,b8,List.replicate,uL,eI,bw,ao,fS,dO,putCells,bK,dV,eL,dE,bu,aU,az,aM,aV,fN,fO,aX,ma,nG,cY,aA,hB,hC,h1,oW,eo,nE,eM,lS,jW,cC,cF,cq,bj,dz];rfl) ?_ CV ?_ ?_
   ·simp only[cT,xA,aaE];kernel_rfl
   ·kernel_rfl
   refine WC.gM (own:=[]) (by simp[f206.mP,f206.iM,ax,b8,List.replicate,fN,fO,aX,bj,nG,cH,bB,ao,bu,aU,az,aM,aV,aC,b6,j_,ky];rfl) ?_;refine hq _ (ar.clean (n:=18) (by simp[jD,nG]) (b9:=[0,2,3,4,33,34,35]) ?_ );rw[←fin _ rfl];simp[b_,cb,gk,aG,an,ak,cu,iw,eo,tJ,pw,cg,w1,hz]
  ·refine WC.Ct (aw:=P0) Hs qh (by simp[f206.iM,b8,List.replicate,uL,eI,bw,ao,fS,dO,putCells,bK,dV,eL,dE,bu,aU,az,aM,aV,fN,fO,aX,ma,nG,cY,aA,hB,hC,h1,oW,eo,nE,eM,lS,jW,cC,cF,cq,bj,dz];rfl) ?_ CV ?_ ?_
   ·simp only[cT,xA,aaE];kernel_rfl
   ·kernel_rfl
   refine WC.gM (own:=[]) (by simp[f206.mP,f206.iM,ax,b8,List.replicate,fN,fO,aX,bj,nG,cH,bB,ao,bu,aU,az,aM,aV,aC,b6,j_,ky];rfl) ?_;refine hq _ (ar.clean (n:=18) (by simp[jD,nG]) (b9:=[0,2,3,4,33,34,35]) ?_ );rw[←fin _ rfl];simp[b_,cb,gk,aG,an,ak,cu,iw,eo,tJ,pw,cg,w1]
 ·have ew:l++[(k,bm es k)]≠[]:=by simp
  have xu:bI (l++[(k,bm es k)])=bI l++[.d (.str k),.d (.int .i64 (bm es k))]:=by simp[bI]
  have Pf:ak 18 (bI l++[.d (.str k),.d (.int .i64 (bm es k))])=true:=by rw[←xu];exact tI _ _
  have jT:(2*l.length+2)*25≤1099511627776:=by omega
  have QV:l.length*2=2*l.length:=by omega
  have QW:l++[(k,(0:Int))]≠[]:=by simp
  have Kh:bI (l++[(k,0)])=bI l++[.d (.str k),.d (.int .i64 0)]:=by simp[bI]
  have Pg:2*(l.length+1)=2*l.length+2:=by omega
  have VB:bm es k=0→ak 18 (bI l++[.d (.str k),.d (.int .i64 0)])=true:=fun e=>by rw[e]at Pf;exact Pf
  have wl:IntKind.i64.wrap ((l.length:Int)+1)=(l.length:Int)+1:=by rw[IntKind.wrap_i64];omega
  rcases hc with⟨jW,hz⟩|⟨i,jW⟩
  ·refine WC.Ct (aw:=P0) Hs qh (by simp[f206.iM,b8,List.replicate,uL,eI,bw,ao,fS,dO,putCells,bK,dV,eL,dE,bu,aU,az,aM,aV,fN,fO,aX,j6 DE,gw DE,dL,cY,aA,hB,hC,h1,oW,eo,nE,eM,lS,jW,cC,cF,cq,bj,dz,jT,QV];rfl) ?_ CV ?_ ?_
   ·simp only[cT,xA,aaE];kernel_rfl
   ·kernel_rfl
   refine WC.gM (own:=[]) (by simp[f206.mP,f206.iM,ax,b8,List.replicate,fN,fO,aX,bj,gw DE,cH,bB,ao,bu,aU,az,aM,aV,aC,b6,j_,ky];rfl) ?_;refine hq _ (ar.clean (n:=18) (by simp[jD,gw DE]) (b9:=[0,2,3,4,33,34,35]) ?_ );simp[b_,cb,gk,aG,an,ak,cu,iw,eo,tJ,pw,cg,wl,jD,j6 QW,gw QW,Kh,Pg,hz,VB hz]
  ·refine WC.Ct (aw:=P0) Hs qh (by simp[f206.iM,b8,List.replicate,uL,eI,bw,ao,fS,dO,putCells,bK,dV,eL,dE,bu,aU,az,aM,aV,fN,fO,aX,j6 DE,gw DE,dL,cY,aA,hB,hC,h1,oW,eo,nE,eM,lS,jW,cC,cF,cq,bj,dz,jT,QV];rfl) ?_ CV ?_ ?_
   ·simp only[cT,xA,aaE];kernel_rfl
   ·kernel_rfl
   refine WC.gM (own:=[]) (by simp[f206.mP,f206.iM,ax,b8,List.replicate,fN,fO,aX,bj,gw DE,cH,bB,ao,bu,aU,az,aM,aV,aC,b6,j_,ky];rfl) ?_;refine hq _ (ar.clean (n:=18) (by simp[jD,gw DE]) (b9:=[0,2,3,4,33,34,35]) ?_ );simp[b_,cb,gk,aG,an,ak,cu,iw,eo,tJ,pw,cg,wl,jD,j6 ew,gw ew,xu,Pf,Pg]
end Fw.Tz
/-
  linear.sum.result, as a whole.
-/
namespace Fw.Tz
open Go Go.Proofs Fw.X
variable {W:World}
mutual
theorem CW{b m:Nat}(hb:m≤b)(ds:List D):∀{u:V},an m u=true→bO b ds u=u
 | .ptr c _ _,hh=>by simp only[an,aas]at hh;simp only[bO,cw (show c≠b by omega),aaw]
 | .sl c _ _ _ _,hh=>by simp only[an,aas]at hh;simp only[bO,cw (show c≠b by omega),aaw]
 | .map c,hh=>by simp only[an,aas]at hh;simp only[bO,cw (show c≠b by omega),aaw]
 | .iter c _,hh=>by simp only[an,aac,aas]at hh;simp only[bO,cw (show c≠b by omega),aaw]
 | .func _ a c,hh=>by simp only[an,aac]at hh;simp only[bO,lK hb ds hh.1,lK hb ds hh.2]
 | .iface _ v,hh=>by simp only[an]at hh;simp only[bO,CW hb ds hh]
 | .agg cs,hh=>by simp only[an]at hh;simp only[bO,lK hb ds hh]
 | .tuple cs,hh=>by simp only[an]at hh;simp only[bO,lK hb ds hh]
 | .any,_=>rfl
 | .d _,_=>rfl
 | .ab,_=>rfl
 | .ji,_=>rfl
 | .cA _,_=>rfl
 | .kV,_=>rfl
 | .mh,_=>rfl
 | .bX,_=>rfl
 | .gD,_=>rfl
theorem lK{b m:Nat}(hb:m≤b)(ds:List D):∀{us:List V},ak m us=true→gG b ds us=us|[],_=>rfl|v::vs,hh=>by simp only[ak,aac]at hh;simp only[gG,CW hb ds hh.1,lK hb ds hh.2]
end
def dw(l:Es):List D:=l.flatMap fun e=>[.str e.1,.int .i64 e.2]
theorem px(l:Es):dV (bI l)=some (dw l):=by
 induction l with
  |nil=>rfl
  |cons e l ih=>simp[bI,dw,dV]at ih⊢;simp[ih]
theorem rm(l:Es):eL 2 l.length (dw l)=l.map fun e=>[D.str e.1,.int .i64 e.2]:=by
 induction l with
  |nil=>rfl
  |cons e l ih=>simp[dw,eL]at ih⊢;exact ih
theorem rM(l:Es):(dw l).length=2*l.length:=by have:=(ju (px l)).1;rw[←this,dL]
theorem tK(H:ah)(f:Nat):∀(l:Es),bJ (fi H f) (bI l)=some (dw l)
 |[]=>rfl
 |e::l=>by
  have:=tK H f l;simp only[bI,abr,abo,abv,bJ,dw]at this⊢;have e1:∀x,fi H f (.d x)=some x:=fun x=>by cases f<;>rfl
  simp only[e1,this]
def nX(es:Es)(k:List UInt8):List UInt8×Int:=(k,bm es k)
theorem QX{cs:List V}{h off:Nat}{n:Int}{es:Es}(h1:cs.length=h)(h3:cs[off+1]? =some (.map 1))(gR:ak 2 cs=true)(cx:es.length≤2^20){seen:List Nat}{s:List (List UInt8)}(YN:s.length≤2^20)(Q:Ex→St→Prop)(hq:Q .normal (jD cs h off n es seen s (s.map (nX es)))):WC P (gl W) (.block 2 (.loop f206.Jc)) (jD cs h off n es seen s []) Q:=by
 refine WC.block (WC.GP (α:={j // j≤s.length}) (fun j=>jD cs h off n es seen s ((s.take j.1).map (nX es))) (fun j=>s.length - j.1) ?_ ⟨0,by omega⟩ (by simpa using ar.refl _ _));rintro⟨j,hj⟩;have hlen:((s.take j).map (nX es)).length=j:=by simp;omega
 by_cases bL:j<s.length
 ·obtain⟨k,hk⟩:∃k,s[j]? =some k:=⟨_,aaf bL⟩;refine NR (k:=k) h1 h3 gR cx (by rw[hlen];exact hk) YN _ fun aL ht=>⟨⟨j+1,by omega⟩,by simp;omega,?_ ⟩
  have:(s.take (j+1)).map (nX es)=(s.take j).map (nX es)++[(k,bm es k)]:=by rw[abj,hk];simp[nX]
  simp only[this];exact ht
 ·obtain rfl:j=s.length:=by omega
  have tJ:=bC (show 2≤18 by omega) gR;have xz:=bC (show 2≤6 by omega) gR;have pw:∀m,((cX es).all fun p=>an m p.2)=true:=by intro m;simp[cX,aaP,an]
  refine WC.post ?_;refine WC.seq (WC.gM (own:=[]) (by simp[jD,hlen,f206.jh,cH,bB,ao,bu,aU,az,aM,aV,aC,b6,aX,j_,ky];rfl) ?_ );refine WC.seq (WC.cond (t:=false) (by simp[aU,az]) (WC.exit ⟨jD cs h off n es seen s (s.map (nX es)),?_,by simpa using hq⟩));refine ar.clean (aao _) (b9:=[0,2,3,4,33,34,35]) ?_;by_cases hN:s.map (nX es)=[]
  ·have hs:s=[]:=by simpa using hN
   subst hs;simp[b_,cb,gk,aG,an,ak,cu,iw,eo,jD,ma,nG,xz,pw,cg]
  ·simp[b_,cb,gk,aG,an,ak,cu,iw,eo,jD,j6 hN,gw hN,tJ,pw,cg,tI]
theorem D9{seen:List Nat}{n:Nat}(hn:seen.Nodup)(hb:∀i∈seen,i<n)(hf:∀i,i<n→i∈seen):seen.Perm (List.range n):=(List.perm_ext_iff_of_nodup hn List.nodup_range).2 fun i=>⟨fun h=>aaJ.2 (hb i h),fun h=>hf i (aaJ.1 h)⟩
theorem zM{α β:Type}{f g:α→Option β}:∀{l:List α},(∀x∈l,f x=g x)→l.filterMap f=l.filterMap g|[],_=>rfl|x::l,h=>by rw[acw,acw,h x abU,zM fun y hy=>h y (abL _ hy)]
theorem zN(es:Es):bg es (List.range es.length)=bY es:=by
 have:∀(l:Es)(k:Nat),(List.range' k l.length).filterMap (fun i=>nm l (i - k))=bY l:=by
  intro l;induction l with
   |nil=>intro k;rfl
   |cons e l ih=>
    intro k;rw[aav,List.range'_succ,acw];have h0:nm (e::l) (k - k)=if e.2=0 then none else some e.1:=by simp[nm]
    have h1:(List.range' (k+1) l.length).filterMap (fun i=>nm (e::l) (i - k))=(List.range' (k+1) l.length).filterMap (fun i=>nm l (i - (k+1))):=by apply zM;intro i hi;have:=(List.mem_range'_1.1 hi).1;simp only[nm,show i - k=(i - (k+1))+1 by omega,acH]
    rw[h0,h1,ih];by_cases hc:e.2=0
    ·simp[hc,bY]
    ·simp[hc,bY]
 have:=this es 0;simp only[abS]at this;rw[List.range_eq_range',bg];exact this
theorem Bz{a b:List (List UInt8)}(h:a.Perm b):du a=du b:=by
 have Ph:∀(x y:List UInt8),(decide (x≤y)||decide (y≤x))=true:=fun x y=>by rcases ac1 x y with h|h<;>simp[h]
 have Pj:∀(x y z:List UInt8),decide (x≤y)=true→decide (y≤z)=true→decide (x≤z)=true:=fun x y z h1 h2=>by simp only[aam]at*;exact ac2 h1 h2
 refine acC (le:=fun x y=>decide (x≤y)=true) (fun x y _ _ h1 h2=>?_ ) (ab7 Pj Ph a) (ab7 Pj Ph b) ?_
 ·simp only[aam]at h1 h2;exact ab3 h1 h2
 ·exact(ab6 a _).trans (h.trans (ab6 b _).symm)
theorem BA{es:Es}{seen:List Nat}(hs:Ht es seen)(hf:∀i,i<es.length→i∈seen):du (bg es seen)=du (bY es):=by rw[←zN];exact Bz ((D9 hs.1 hs.2 hf).filterMap _)
theorem NS(b:Nat)(ds:List D)(x:D):bO b ds (.d x)=.d x:=rfl
theorem QY(x:D):dE (.d x)=true:=rfl
def xB(cs:List V)(h off:Nat)(n:Int)(es:Es)(seen:List Nat)(QZ Q1 Q3:V)(t:Es)(X:ah):St:=⟨58,[(0,.ptr 0 h off),(2,.ptr 2 2 0),(3,.d (.int .i64 0)),(4,.ptr 3 2 0),(33,QZ),(34,Q1),(35,Q3)],[some (.cells cs),some (.map (cX es)),some (.cells [.d (.int .i64 0),.ab]),some (.cells [.d (.int .i64 n),ma 17 t]),some (.dC 1 es.length seen)]++X⟩
def lL(cs:List V)(n:Int)(es:Es)(seen:List Nat)(t:Es)(ok:Bool)(X:ah):ah:=[some (.cells cs),some (.map (cX es)),some (.cells (if ok then[.d (.int .i64 n),ma 17 t]else[.d (.int .i64 0),.ab])),some (.cells [.d (.int .i64 n),ma 17 t]),some (.dC 1 es.length seen)]++X
def Hu(t:Es)(X:ah):Prop:=t=[]∨aA X 12=some (.cells (bI t))
theorem Q4{cs:List V}{n:Int}{es:Es}{seen:List Nat}{t:Es}{X:ah}{b:dU}(hX:Hu t X):bJ (mi ([some (.cells cs),some (.map (cX es)),some b,some (.cells [.d (.int .i64 n),ma 17 t]),some (.dC 1 es.length seen)]++X)) [.agg [.d (.int .i64 n),ma 17 t]]=some [oK n t]:=by
 by_cases ht:t=[]
 ·subst ht;rfl
 ·rcases hX with hX|hX
  ·exact absurd hX ht
  ·rw[j6 ht];generalize hH:([some (.cells cs),some (.map (cX es)),some b,some (.cells [.d (.int .i64 n),.sl 17 (2*t.length) 0 t.length 2]),some (.dC 1 es.length seen)]++X:ah)=H;have hb:aA H 17=some (.cells (bI t)):=by rw[←hH];simpa[aA]using hX
   have h6:bJ (fi H 5) (((bI t).drop 0).take (t.length*2))=some (dw t):=by rw[abz,abf (by rw[dL];omega)];exact tK _ _ t
   have e1:fi H 6 (.sl 17 (2*t.length) 0 t.length 2)=some (mQ t):=by simp only[fi,hb,dL,aaz,aau,aaE];rw[aba (by omega)];simp only[aag];rw[h6];simp only[rm,mQ]
   simp only[bJ,mi,kx,e1];rfl
theorem LH{cs:List V}{h off:Nat}{n:Int}{es:Es}{seen:List Nat}{QZ Q1 Q3:V}{X:ah}{ok:Bool}(t:Es)(hX:Hu t X)(hv:PC P (gl W) 89 [oK n t] (.d (.bool ok)))(Q:Ex→St→Prop)(hq:∀tm,get tm 2=.ptr 2 2 0→get tm 3=.d (.int .i64 (if ok then 0 else 3))→Q .ret ⟨58,tm,lL cs n es seen t ok X⟩):WC P (gl W) (.seq (.seq (.region f206.r16) (.cond (.t 55) (.seq (.region f206.nV) .ret) .skip)) (.seq (.region f206.pT) .ret)) (xB cs h off n es seen QZ Q1 Q3 t X) Q:=by
 have Q5:cY (xB cs h off n es seen QZ Q1 Q3 t X).hp 2 (.ptr 3 2 0)=some [.d (.int .i64 n),ma 17 t]:=by simp[xB,cY,aA,eo,nE]
 refine WC.seq (WC.seq (WC.JF 1 (own:=[]) (by simp only[f206.r16,List.take,cH,bB,ao,bu,aU];rw[show get (xB cs h off n es seen QZ Q1 Q3 t X).tm 4=.ptr 3 2 0 from rfl,Q5];simp[oW,xB,aC,aM,aV,aX];rfl) ?_ ));refine WO.call rfl (by simp[ao]) (WF.borrow (q0:=[oK n t]) (by simpa[bd,aU,az]using Q4 hX) hv rfl ⟨_,by simp[aC,aM,aV];rfl,?_ ⟩);refine WO.bu (v:=.d (.bool !ok)) (wr:=none) (by simp[ao]) (by simp[bu,aU,az,OF]) (by simp[aC,aM,aV,aX];rfl) (WO.nil ?_ );cases ok with
  |false=>refine WC.cond (t:=true) (by simp[aU,az]) ?_;refine WC.seq (WC.gM (own:=[]) (by simp[f206.nV,cH,bB,ao,bu,aU,az,aM,aV,aC,b6,aX,dO,dz,aA,bj,eo,nE,bK,dE,putCells];rfl) ?_ );refine WC.ret ?_;have:=hq;simp only[aa8,abt]at this;exact this _ (by simp[az]) (by simp[az])
  |true=>
   refine WC.cond (t:=false) (by simp[aU,az]) (WC.skip ?_ );have VC:dE (ma 17 t)=true:=by cases t<;>rfl
   refine WC.seq (WC.gM (own:=[]) (aL:=⟨58,_,lL cs n es seen t true X⟩) (by simp[lL,f206.pT,cH,bB,ao,bu,aU,az,aM,aV,aC,b6,aX,cY,oW,dz,aA,bj,eo,nE,bK,VC,QY,putCells];rfl) ?_ );refine WC.ret ?_;have:=hq;simp only[aa4]at this;exact this _ (by simp[az]) (by simp[az])
def LI:FuncId→Option cD:=fun f=>bif Nat.beq f 104 then some f104 else bif Nat.beq f 157 then some f157 else bif Nat.beq f 158 then some Bt else bif Nat.beq f 222 then some jC else bif Nat.beq f 212 then some lI else none
theorem Ki:PC P (gl W) 104 [.ab] (.tuple []):=by
 have hf:∀f fn,LI f=some fn→aK P f=some fn∧aq P f=true:=by
  intro f fn h;unfold LI at h;cases h1:Nat.beq f 104 with
   |true=>rw[h1]at h;simp only[aag,aab]at h;obtain rfl:=aah h1;subst h;exact⟨k_,k_⟩
   |false=>
    rw[h1]at h;cases h2:Nat.beq f 157 with
     |true=>rw[h2]at h;simp only[aag,aaw,aab]at h;obtain rfl:=aah h2;subst h;exact⟨k_,k_⟩
     |false=>
      rw[h2]at h;cases h3:Nat.beq f 158 with
       |true=>rw[h3]at h;simp only[aag,aaw,aab]at h;obtain rfl:=aah h3;subst h;exact⟨k_,k_⟩
       |false=>
        rw[h3]at h;cases h4:Nat.beq f 222 with
         |true=>rw[h4]at h;simp only[aag,aaw,aab]at h;obtain rfl:=aah h4;subst h;exact⟨k_,k_⟩
         |false=>
          rw[h4]at h;cases h5:Nat.beq f 212 with
           |true=>rw[h5]at h;simp only[aag,aaw,aab]at h;obtain rfl:=aah h5;subst h;exact⟨k_,k_⟩
           |false=>rw[h5]at h;cases h
 have hk:qg P (gl W) (fun _=>TA):=fun _ _=>A9
 have cl:=Co (eB:=fun _=>[]) (rf:=fun _=>false) (n:=10) hk Hs hf (qh (P:=P) (GL:=gl W)) 5;exact gX qh cl 104 [.ab] _ k_
theorem NT{cs:List V}{n:Int}{es:Es}{seen:List Nat}{ok:Bool}{t:Es}{X:ah}(hX:Hu t X)(gR:ak 2 cs=true)(eF:cs.all dE=true)(VD:∀ds,((eU 17 ds 5 X).all fk)=true){tm:List (Nat×V)}(g2:get tm 2=.ptr 2 2 0)(g3:get tm 3=.d (.int .i64 (if ok then 0 else 3))):∃v,fb f206.res ⟨58,tm,lL cs n es seen t ok X⟩=some v∧∃aL,ar 2 ⟨1,[(0,v)],lL cs n es seen t ok X⟩ aL∧get aL.tm 0=(if ok then .tuple [tG n t,.d (.int .i64 0)]else .tuple [tG 0 [],.d (.int .i64 3)])∧aL.hp=[some (.cells cs),some (.map (cX es))]:=by
 have pw:∀m,((cX es).all fun p=>an m p.2)=true:=by intro m;simp[cX,aaP,an]
 have LJ:∀ds,gG 17 ds cs=cs:=fun ds=>lK (show 2≤17 by omega) ds gR
 have Q6:∀ds,(cX es).map (fun p=>(p.1,bO 17 ds p.2))=cX es:=fun ds=>by simp[cX,aaP,bO]
 cases ok with
  |false=>refine⟨_,by simp[fb,f206,bJ,eA,g2,g3,lL,cY,aA,eo,nE,oW];rfl,_,ar.clean (n:=2) (aao _) (b9:=[0]) (by simp[b_,cb,lL,gk,aG,cu,an,ak,gR,pw];rfl),?_,rfl⟩;rfl
  |true=>
   by_cases ht:t=[]
   ·subst ht;refine⟨_,by simp[fb,f206,bJ,eA,g2,g3,lL,ma,cY,aA,eo,nE,oW];rfl,_,ar.clean (n:=2) (aao _) (b9:=[0]) (by simp[b_,cb,lL,gk,aG,cu,an,ak,gR,pw];rfl),?_,rfl⟩;rfl
   ·rcases hX with hX|hX
    ·exact absurd hX ht
    ·have hb:rD (lL cs n es seen t true X) 17=some (dw t):=by
      have:aA (lL cs n es seen t true X) 17=some (.cells (bI t)):=by simpa[lL,aA]using hX
      simp only[rD,this,px]
     have hT:bO 17 (dw t) (.sl 17 (2*t.length) 0 t.length 2)=.d (mQ t):=by simp only[bO,aaz,aag,rM,aau,aaE];rw[aba (by omega)];simp only[aag,abz,rm,mQ]
     refine⟨.tuple [.agg [.d (.int .i64 n),.sl 17 (2*t.length) 0 t.length 2],.d (.int .i64 0)],by simp[fb,f206,bJ,eA,g2,g3,lL,j6 ht,cY,aA,eo,nE,oW],⟨1,[(0,.tuple [oK n t,.d (.int .i64 0)])],[some (.cells cs),some (.map (cX es))]⟩,ar.trans (ar.nL (b:=17) (aL:=⟨1,[(0,.tuple [oK n t,.d (.int .i64 0)])],eU 17 (dw t) 0 (lL cs n es seen t true X)⟩) ?_ ) (ar.clean (n:=2) (aao _) (b9:=[0]) ?_ ),?_,rfl⟩
     ·simp only[iQ,hb];have jw:(eU 17 (dw t) 0 (lL cs n es seen t true X)).all fk=true:=by have:=VD (dw t);simp[lL,eU,ez,j6 ht,LJ,Q6,fk,eF,gG,hT,dE,eo,NS];exact fun x hx=>aaq.1 this x hx
      rw[jw];have h1:bO 17 (dw t) (.tuple [.agg [.d (.int .i64 n),.sl 17 (2*t.length) 0 t.length 2],.d (.int .i64 0)])=.tuple [oK n t,.d (.int .i64 0)]:=by rw[bO,gG,bO,gG,gG,hT];rfl
      simp only[aag,aax,ac',h1]
     ·simp[eo,b_,cb,lL,eU,ez,LJ,Q6,gk,aG,cu,an,ak,gR,pw,oK]
     ·rw[Kg ht];rfl
theorem xC{es:Es}(h:bY es=[]):ba es=[]:=by simp[ba,h,du]
theorem Kj(s:List (List UInt8))(t:Es)(ds:List D):((eU 17 ds 5 ([some (.cells (s.map eC))]++nG t)).all fk)=true:=by
 have h1:gG 17 ds (s.map eC)=s.map eC:=lK (m:=0) (by omega) ds (cg 0 s);by_cases ht:t=[]
 ·subst ht;simp[nG,eU,ez,h1,fk,eo,eC,dE]
 ·simp[gw ht,eU,ez,h1,fk,eo,eC,dE]
theorem Q7{cs:List V}{h off:Nat}{n:Int}{es:Es}{ok:Bool}(h1:cs.length=h)(h2:cs[off]? =some (.d (.int .i64 n)))(h3:cs[off+1]? =some (.map 1))(gR:ak 2 cs=true)(eF:cs.all dE=true)(cx:es.length≤2^20)(hv:PC P (gl W) 89 [oK n (ba es)] (.d (.bool ok))):WF P (gl W) 206 [.ptr 0 h off] [some (.cells cs),some (.map (cX es))] (fun v H'=>v=jb n es ok∧H'=[some (.cells cs),some (.map (cX es))]):=by
 refine WF.fw (WF.body Kf VA (by simp[f206]) ?_ );have tJ:=bC (show 2≤18 by omega) gR;have xz:=bC (show 2≤6 by omega) gR;have By:=bC (show 2≤5 by omega) gR;have pw:∀m,((cX es).all fun p=>an m p.2)=true:=by intro m;simp[cX,aaP,an]
 refine QT h1 h2 h3 gR _ _ _ ?_;refine QU gR cx _ fun seen hs hf=>?_
 have LK:=BA hs hf;have fin:∀(X:ah)(tm:List (Nat×V)),Hu (ba es) X→(∀ds,((eU 17 ds 5 X).all fk)=true)→get tm 2=.ptr 2 2 0→get tm 3=.d (.int .i64 (if ok then 0 else 3))→∃v,fb f206.res ⟨58,tm,lL cs n es seen (ba es) ok X⟩=some v∧∃aL,ar [some (dU.cells cs),some (dU.map (cX es))].length ⟨1,[(0,v)],lL cs n es seen (ba es) ok X⟩ aL∧get aL.tm 0=jb n es ok∧aL.hp=[some (.cells cs),some (.map (cX es))]:=fun X tm hX VD g2 g3=>NT hX gR eF VD g2 g3
 by_cases hN:bg es seen=[]
 ·have sR:ba es=[]:=xC (by
   have:=dv (bY es);rw[←LK,hN]at this;have h0:(du []).length=0:=by simp[du]
   exact List.length_eq_zero_iff.1 (by omega))
  have hI:hO cs h off n es seen=⟨58,[(0,.ptr 0 h off),(2,.ptr 2 2 0),(3,.d (.int .i64 0)),(4,.ptr 3 2 0),(5,.ab),(19,.iter 4 1)],[some (.cells cs),some (.map (cX es)),some (.cells [.d (.int .i64 0),.ab]),some (.cells [.d (.int .i64 n),.ab]),some (.dC 1 es.length seen)]⟩:=by simp[hO,hN,nW,mR]
  rw[hI];refine WC.seq (WC.JF 1 (own:=[]) (by simp[f206.r9,cH,bB,ao,bu,aU,az,aM,aV,aC,aX];rfl) ?_ );refine WO.Lq Ki rfl (by simp[ao]) (by simp[bd,aU,az]) (by simp[aC,aM,aV];rfl) (WO.nil ?_ );refine WC.seq (WC.seq (WC.gM (own:=[]) (by simp[f206.fV,cH,bB,ao,bu,aU,az,aM,aV,aC,aX,fZ];rfl) ?_ ));refine WC.block (WC.once (WC.seq (WC.gM (own:=[]) (by simp[f206.jh,cH,bB,ao,bu,aU,az,aM,aV,aC,aX,j_,ky];rfl) (WC.seq (WC.cond (t:=false) (by simp[aU,az]) (WC.exit ?_ ))))));dsimp only;rw[aan rfl];refine WC.tidy (aL:=xB cs h off n es seen .ab (.d (.int .i64 0)) (.d (.int .i64 0)) [] []) (ar.clean (aao _) (b9:=[0,2,3,4,33,34,35]) ?_ ) ?_
  ·simp[b_,cb,gk,aG,an,ak,cu,iw,eo,xB,ma,By,pw]
  ·rw[sR]at hv;refine LH [] (.inl rfl) hv _ fun tm g2 g3=>?_
   have:=fin [] tm (.inl sR) (fun ds=>rfl) g2 g3;rw[sR]at this;exact this
 ·have jo:(bg es seen).length≤2^20:=aa_ (aa_ (List.length_filterMap_le _ _) (mS hs.1 hs.2)) cx;have hI:hO cs h off n es seen=⟨58,[(0,.ptr 0 h off),(2,.ptr 2 2 0),(3,.d (.int .i64 0)),(4,.ptr 3 2 0),(5,.sl 5 (bg es seen).length 0 (bg es seen).length 1),(19,.iter 4 1)],[some (.cells cs),some (.map (cX es)),some (.cells [.d (.int .i64 0),.ab]),some (.cells [.d (.int .i64 n),.ab]),some (.dC 1 es.length seen),some (.cells ((bg es seen).map eC))]⟩:=by simp[hO,kO hN,kP hN]
  rw[hI];have hw:WF P (gl W) 104 [.sl 5 (bg es seen).length 0 (bg es seen).length 1] [some (.cells cs),some (.map (cX es)),some (.cells [.d (.int .i64 0),.ab]),some (.cells [.d (.int .i64 n),.ab]),some (.dC 1 es.length seen),some (.cells ((bg es seen).map eC))] (fun v H'=>v=.tuple []∧H'=[some (.cells cs),some (.map (cX es)),some (.cells [.d (.int .i64 0),.ab]),some (.cells [.d (.int .i64 n),.ab]),some (.dC 1 es.length seen),some (.cells ((du (bg es seen)).map eC))]):=by
   refine WF.frame [5] (QS (bg es seen) (by omega)) (by simp) rfl (by simp[ak,an,iw]) (by simp[aG,cu,cg]) ?_ ?_
   ·intro i hi;obtain rfl:i=0:=by simp at hi;exact hi
    refine⟨_,rfl,?_⟩;simp[aA,cy];rw[et (cg 0 _)]
   ·rintro v H' ⟨rfl,rfl⟩;refine⟨rfl,by simp[an,ak],by simp[aG,cu,cg],by simp[dt,eX],?_ ⟩;simp[d_,aA,bj,cy];rw[et (cg 0 _)]
  refine WC.seq (WC.JF 1 (own:=[]) (by simp[f206.r9,cH,bB,ao,bu,aU,az,aM,aV,aC,aX];rfl) ?_ );refine WO.P2 hw rfl (by simp[ao]) (by simp[bd,aU,az]) ?_;rintro v H' ⟨rfl,rfl⟩;refine⟨_,by simp[aC,aM,aV];rfl,WO.nil ?_ ⟩;refine WC.seq (WC.seq (WC.gM (own:=[]) (by simp[f206.fV,cH,bB,ao,bu,aU,az,aM,aV,aC,aX,fZ,dP,aA,dv,eo];rfl) ?_ ));refine WC.tidy (aL:=jD cs h off n es seen (du (bg es seen)) []) (ar.clean (aao _) (b9:=[0,2,3,4,33,34,35]) ?_ ) ?_
  ·simp[b_,cb,gk,aG,an,ak,cu,iw,eo,jD,ma,nG,xz,pw,cg,dv]
  ·refine QX h1 h3 gR cx (by rw[dv];exact jo) _ ?_;have hK:jD cs h off n es seen (du (bg es seen)) ((du (bg es seen)).map (nX es))=xB cs h off n es seen (.sl 5 (du (bg es seen)).length 0 (du (bg es seen)).length 1) (.d (.int .i64 (du (bg es seen)).length)) (.d (.int .i64 (ba es).length)) (ba es) ([some (.cells ((du (bg es seen)).map eC))]++nG (ba es)):=by
    have:(du (bg es seen)).map (nX es)=ba es:=by rw[LK];rfl
    rw[this];simp[jD,xB]
   rw[hK];have hX:Hu (ba es) ([some (.cells ((du (bg es seen)).map eC))]++nG (ba es)):=by
    by_cases ht:ba es=[]
    ·exact .inl ht
    ·exact .inr (by simp[gw ht,aA])
   exact LH (ba es) hX hv _ fun tm g2 g3=>fin _ tm hX (fun ds=>Kj _ _ ds) g2 g3
end Fw.Tz
/-
  slices.Grow of nil: an empty row with room.
-/
namespace Fw.Tz
open Go Go.Proofs Fw.X
variable {W:World}
theorem VE:aq P 118=true:=k_
theorem Kk:aK P 118=some f118:=k_
def xD(n:Nat):V:=if n=0 then .ab else .sl 1 0 0 0 3
def xE(n:Nat):ah:=if n=0 then[]else[none,some (.cells [])]
theorem VF(n:Nat)(hn:n≤2^30):WF P (gl W) 118 [.ab,.d (.int .i64 n)] [] (fun v H'=>v=xD n∧H'=xE n):=by
 have hw:IntKind.i64.wrap (n:Int)=n:=by rw[IntKind.wrap_i64];omega
 have NU:¬((n:Int)<0):=by omega
 have VG:IntKind.i64.wrap 0=0:=rfl;refine WF.fw (WF.body Kk VE (by simp[f118]) ?_ );show WC P (gl W) (.seq (.region f118.r0) (.seq (.seq (.region f118.r1) (.cond (.t 6) (.region f118.r2) .skip)) (.seq (.seq (.region f118.r3) (.seq (.region f118.r4) (.cond (.t 16) (.region f118.r5) .skip))) (.seq (.region f118.r6) .ret)))) ⟨27,[(0,.ab),(1,.d (.int .i64 n))],[]⟩ _;refine WC.seq (WC.gM (own:=[]) (by simp[f118.r0,cH,bB,ao,bu,aU,az,aM,aV,aC,aX];rfl) ?_ );refine WC.seq (WC.seq (WC.gM (own:=[]) (by simp[f118.r1,cH,bB,ao,bu,aU,az,aM,aV,aC,aX,j_,ky,NU];rfl) ?_ ));refine WC.cond (t:=false) (by simp[aU,az]) (WC.skip ?_ );refine WC.seq (WC.seq (WC.gM (own:=[]) (by simp[f118.r3,cH,bB,ao,bu,aU,az,aM,aV,aC,aX,j_,ky,fZ,hw,VG];rfl) ?_ ));refine WC.seq (WC.gM (own:=[]) (by simp[f118.r4,cH,bB,ao,bu,aU,az,aM,aV,aC,aX,j_,ky];rfl) ?_ );by_cases h0:n=0
 ·subst h0;refine WC.cond (t:=false) (by simp[aU,az]) (WC.skip ?_ );refine WC.seq (WC.gM (own:=[]) (by simp[f118.r6,cH,bB,ao,bu,aU,az,aM,aV,aC,aX];rfl) (WC.ret ?_ ));refine⟨.ab,by simp[fb,f118,bJ,eA,az],_,ar.refl _ _,by simp[az,xD],rfl⟩
 ·have nD:0<n:=by omega
  have jT:n*57≤1099511627776:=by omega
  have tH:n≤1099511627776:=by omega
  refine WC.cond (t:=true) (by simp[aU,az];omega) ?_;refine WC.gM (own:=[]) (by simp[f118.r5,cH,bB,ao,bu,aU,az,aM,aV,aC,aX,fZ,bounds,dp,eo,nE,iw,nD,jT,tH,cq,dE,bj,dP,aA,uE];rfl) ?_;refine WC.seq (WC.gM (own:=[]) (by simp[f118.r6,cH,bB,ao,bu,aU,az,aM,aV,aC,aX];rfl) (WC.ret ?_ ));refine⟨.sl 0 (n*3) 0 0 3,by simp[fb,f118,bJ,eA,az],⟨1,[(0,.sl 1 0 0 0 3)],[none,some (.cells [])]⟩,?_,by simp[az,xD,h0],by simp[xE,h0]⟩;rcases ar.shrink (h:=n*3) (sz:=3) (cs:=(List.range (n*3)).map fun i=>[V.d (.str []),.d (.str []),.ab].getD (i%3) .any)with h|h
  ·simpa using h
  ·exact absurd (by simp) h
end Fw.Tz
/-
  slices.Clone of an empty row of coefficients.
-/
namespace Fw.Tz
open Go Go.Proofs Fw.X
variable {W:World}
theorem Kl:aK P 170=some f170:=k_
theorem VH:aq P 170=true:=k_
theorem vK:PC P (gl W) 170 [.d (.list [])] (.d (.list [])):=by
 refine PC.Zt rfl (WF.body Kl VH (by simp[f170]) ?_ );show WC P (gl W) (.seq (.region f170.r0) (.seq (.seq (.region f170.r1) (.cond (.t 4) (.seq (.region f170.r2) .ret) .skip)) (.seq (.region f170.r3) .ret))) ⟨8,[(0,.d (.list []))],[]⟩ _;refine WC.seq (WC.gM (own:=[]) (by simp[f170.r0,cH,bB,ao,bu,aU,az,aM,aV,aC,aX];rfl) ?_ );refine WC.seq (WC.seq (WC.JF 1 (own:=[]) (by simp[f170.r1,cH,bB,ao,bu,aU,az,aM,aV,aC,aX];rfl) ?_ ));refine WO.se (x:=.t 3) (y:=.c .ab) rfl rfl (by simp[aU,az]) (by simp[aU,az]) fun b=>?_
 refine⟨_,by simp[aM,aV,aC];rfl,WO.nil ?_ ⟩;cases b with
  |true=>refine WC.cond (t:=true) (by simp[aU,az]) ?_;refine WC.seq (WC.gM (own:=[]) (by simp[f170.r2,cH,bB,ao,bu,aU,az,aM,aV,aC,aX];rfl) (WC.ret ?_ ));exact⟨.ab,by simp[fb,f170,bJ,eA,az],.inl ⟨rfl,rfl⟩⟩
  |false=>refine WC.cond (t:=false) (by simp[aU,az]) (WC.skip ?_ );refine WC.seq (WC.gM (own:=[5]) (by simp[f170.r3,cH,bB,nM,ao,bu,fS,aU,az,aM,aV,aC,aX,cC,cF,eo,nE,aA,dE,cq];rfl) (WC.ret ?_ ));exact⟨_,by simp[fb,f170,bJ,eA,az];rfl,.inr (by simp[fY];rfl)⟩
end Fw.Tz
