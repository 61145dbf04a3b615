/-
  linear.sum.result, further: the sort and the second loop.
-/
import Derived.Test.YtgfgckimecpmlaaGreatDoorTa
import Derived.Test.YtgfgckimecpmlaaGreatDoorFe
set_option linter.unusedSimpArgs false
set_option maxRecDepth 100000
set_option linter.unusedVariables false
namespace Fw.Tz
open Go Go.Proofs Fw.X
variable {W:World}
theorem qT(k:List UInt8):∀(es:Es)(j:Nat),∃r,kP (.str k) (db es) j=some r∧r.map (·.2)=(es.find? fun e=>e.1==k).map fun e=>V.d (.int .i64 e.2)
 |[],j=>⟨none,rfl,rfl⟩
 |(a,c)::es,j=>by
  simp only[db,aaY,kP,yr];rw[cZ];by_cases h:k=a
  ·subst h;simp only[beq_self_eq_true];exact⟨_,rfl,by simp⟩
  ·have e1:(k==a)=false:=by simpa using h
   have e2:(a==k)=false:=by simpa using acM h
   rw[e1];obtain⟨r,h1,h2⟩:=qT k es (j+1);refine⟨r,h1,?_⟩;rw[h2,adn,e2]
theorem rO(k:List UInt8)(es:Es):(match kP (.str k) (db es) 0 with
 |some (some (_,v))=>some v
 |some none=>some (V.d (.int .i64 0))
 |none=>none)=some (V.d (.int .i64 (bp es k))):=by
 obtain⟨r,h1,h2⟩:=qT k es 0;rw[h1];unfold bp;cases hf:es.find? fun e=>
  e.1==k with
   |none=>rw[hf]at h2;simp at h2;subst h2;rfl
   |some e=>
    rw[hf]at h2;cases r with
     |none=>simp at h2
     |some p=>obtain⟨i,v⟩:=p;simp at h2;subst h2;rfl
def bJ(es:Es):List V:=es.flatMap fun e=>[.d (.str e.1),.d (.int .i64 e.2)]
theorem dV(es:Es):(bJ es).length=2*es.length:=by
 induction es with
  |nil=>rfl
  |cons e es ih=>simp[bJ]at ih⊢;omega
def ml(b:Nat)(l:Es):V:=match l with|[]=>.ab|_=>.sl b (2*l.length) 0 l.length 2
def nQ(l:Es):ai:=match l with|[]=>[]|_=>[none,none,none,none,none,none,none,none,none,none,none,some (.cells (bJ l))]
theorem kq{b:Nat}{l:Es}(h:l≠[]):ml b l=.sl b (2*l.length) 0 l.length 2:=by cases l<;>simp_all[ml]
theorem gI{l:Es}(h:l≠[]):nQ l=[none,none,none,none,none,none,none,none,none,none,none,some (.cells (bJ l))]:=by cases l<;>simp_all[nQ]
def jK(cs:List V)(h off:Nat)(n:Int)(es:Es)(seen:List Nat)(s:List (List UInt8))(l:Es):St:=⟨58,[(0,.ptr 0 h off),(2,.ptr 2 2 0),(3,.d (.int .i64 0)),(4,.ptr 3 2 0),(33,.sl 5 s.length 0 s.length 1),(34,.d (.int .i64 s.length)),(35,.d (.int .i64 l.length))],[some (.cells cs),some (.map (db es)),some (.cells [.d (.int .i64 0),.ab]),some (.cells [.d (.int .i64 n),ml 17 l]),some (.dK 1 es.length seen),some (.cells (s.map eP))]++nQ l⟩
theorem xK:oh f206.jI=true:=k_
theorem DH:eZ 58 f206.jI=true:=k_
theorem uc(m:Nat)(l:Es):an m (bJ l)=true:=by
 induction l with
  |nil=>rfl
  |cons x l ih=>simp[bJ,an,aq]at ih⊢;exact ih
theorem O5{cs:List V}{h off:Nat}{n:Int}{es:Es}(h1:cs.length=h)(h3:cs[off+1]? =some (.map 1))(gZ:an 2 cs=true)(cB:es.length≤2^20){seen:List Nat}{s:List (List UInt8)}{l:Es}{k:List UInt8}(hk:s[l.length]? =some k)(hls:s.length≤2^20)(Q:Ex→St→Prop)(hq:∀aS,au (jK cs h off n es seen s l).hp.length aS (jK cs h off n es seen s (l++[(k,bp es k)]))→Q .normal aS):WC P (gl W) f206.OI (jK cs h off n es seen s l) Q:=by
 have bS:l.length<s.length:=(aaK.1 hk).1;have Xw:(s.map eP)[l.length]? =some (.d (.str k)):=by simp[hk,eP]
 have k2:∀(t:ai),df (some (.cells cs)::t) 1 (.ptr 0 h (off+1))=some [.map 1]:=fun l=>DG rfl h1 h3
 have k3:∀(t:ai),df (some (.cells cs)::some (.map (db es))::some (.cells [.d (.int .i64 0),.ab])::some (.cells [.d (.int .i64 n),ml 17 l])::some (.dK 1 es.length seen)::some (.cells (s.map eP))::t) 1 (.ptr 5 s.length l.length)=some [.d (.str k)]:=fun t=>DG rfl (by simp) Xw
 have hsl:(l.length:Int)<s.length:=by omega
 have ud:=bC (show 2≤18 by omega) gZ;have pO:∀m,((db es).all fun p=>aq m p.2)=true:=by intro m;simp[db,abh,aq]
 have hB:off+1+1≤h:=by have:=(aaK.1 h3).1;omega
 have hC:(cs.drop (off+1)).take 1=[.map 1]:=by have bS:=(aaK.1 h3).1;rw[abz bS];have:=(aaK.1 h3).2;simp[this]
 have hc:(kP (.str k) (db es) 0=some none∧bp es k=0)∨∃i,kP (.str k) (db es) 0=some (some (i,V.d (.int .i64 (bp es k)))):=by
  have:=rO k es;obtain⟨r,h1,_⟩:=qT k es 0;rw[h1]at this⊢;rcases r with _|⟨i,v⟩
  ·left;simp at this;exact⟨rfl,by omega⟩
  ·right;simp at this;subst this;exact⟨i,rfl⟩
 refine WC.seq (WC.gO (own:=[]) (by simp[jK,f206.km,cO,bB,ar,bw,aX,aC,aQ,aY,aG,bZ,aZ,ky,kO,bS];rfl) ?_ );refine WC.seq (WC.cond (t:=true) (by simp[aX,aC]) (WC.skip ?_ ));refine WC.seq (WC.block (WC.seq (WC.gO (own:=[]) (by simp[f206.l_,cO,bB,ar,bw,aX,aC,aQ,aY,aG,bZ,aZ,dC,eI,iH,ef,aE,bS,k3,pj];rfl) ?_ )));by_cases Eu:l=[]
 ·subst Eu;have w1:IntKind.i64.wrap 1=1:=rfl;have fin:∀aS,aS=(⟨58,[(0,V.ptr 0 h off),(2,V.ptr 2 2 0),(3,V.d (D.int IntKind.i64 0)),(4,V.ptr 3 2 0),(33,V.sl 5 s.length 0 s.length 1),(34,V.d (D.int IntKind.i64 s.length)),(35,V.d (D.int IntKind.i64 1))],[some (.cells cs),some (.map (db es)),some (.cells [.d (.int .i64 0),.ab]),some (.cells [.d (.int .i64 n),.sl 17 2 0 1 2]),some (.dK 1 es.length seen),some (.cells (s.map eP)),none,none,none,none,none,none,none,none,none,none,none,some (.cells [.d (.str k),.d (.int .i64 (bp es k))])]⟩:St)→aS=jK cs h off n es seen s ([]++[(k,bp es k)]):=by rintro aS rfl;simp[jK,ml,nQ,bJ]
  rcases hc with⟨ka,hz⟩|⟨i,ka⟩
  ·refine WC.Dh (aA:=Rs) Ir qz (by simp[f206.jI,ca,List.replicate,u9,eX,bA,ar,f_,d_,putCells,bU,ep,eV,dO,bw,aX,aC,aQ,aY,fV,fW,aZ,ml,nQ,df,aE,hB,hC,h1,pj,eI,nO,eW,lV,ka,cF,cM,cy,bn,er];rfl) ?_ DH ?_ ?_
   ·simp only[c6,xK,aa2];kernel_rfl
   ·kernel_rfl
   refine WC.gO (own:=[]) (by simp[f206.o5,f206.jI,aB,ca,List.replicate,fV,fW,aZ,bn,nQ,cO,bB,ar,bw,aX,aC,aQ,aY,aG,bZ,ky,kO];rfl) ?_;refine hq _ (au.clean (n:=18) (by simp[jK,nQ]) (cw:=[0,2,3,4,33,34,35]) ?_ );rw[←fin _ rfl];simp[cf,cg,gx,aH,aq,an,cE,iH,eI,ud,pO,cm,w1,hz]
  ·refine WC.Dh (aA:=Rs) Ir qz (by simp[f206.jI,ca,List.replicate,u9,eX,bA,ar,f_,d_,putCells,bU,ep,eV,dO,bw,aX,aC,aQ,aY,fV,fW,aZ,ml,nQ,df,aE,hB,hC,h1,pj,eI,nO,eW,lV,ka,cF,cM,cy,bn,er];rfl) ?_ DH ?_ ?_
   ·simp only[c6,xK,aa2];kernel_rfl
   ·kernel_rfl
   refine WC.gO (own:=[]) (by simp[f206.o5,f206.jI,aB,ca,List.replicate,fV,fW,aZ,bn,nQ,cO,bB,ar,bw,aX,aC,aQ,aY,aG,bZ,ky,kO];rfl) ?_;refine hq _ (au.clean (n:=18) (by simp[jK,nQ]) (cw:=[0,2,3,4,33,34,35]) ?_ );rw[←fin _ rfl];simp[cf,cg,gx,aH,aq,an,cE,iH,eI,ud,pO,cm,w1]
 ·have et:l++[(k,bp es k)]≠[]:=by simp
  have xF:bJ (l++[(k,bp es k)])=bJ l++[.d (.str k),.d (.int .i64 (bp es k))]:=by simp[bJ]
  have QJ:an 18 (bJ l++[.d (.str k),.d (.int .i64 (bp es k))])=true:=by rw[←xF];exact uc _ _
  have j7:(2*l.length+2)*25≤1099511627776:=by omega
  have Sw:l.length*2=2*l.length:=by omega
  have Sx:l++[(k,(0:Int))]≠[]:=by simp
  have Lv:bJ (l++[(k,0)])=bJ l++[.d (.str k),.d (.int .i64 0)]:=by simp[bJ]
  have QK:2*(l.length+1)=2*l.length+2:=by omega
  have Xy:bp es k=0→an 18 (bJ l++[.d (.str k),.d (.int .i64 0)])=true:=fun e=>by rw[e]at QJ;exact QJ
  have wl:IntKind.i64.wrap ((l.length:Int)+1)=(l.length:Int)+1:=by rw[IntKind.wrap_i64];omega
  rcases hc with⟨ka,hz⟩|⟨i,ka⟩
  ·refine WC.Dh (aA:=Rs) Ir qz (by simp[f206.jI,ca,List.replicate,u9,eX,bA,ar,f_,d_,putCells,bU,ep,eV,dO,bw,aX,aC,aQ,aY,fV,fW,aZ,kq Eu,gI Eu,dV,df,aE,hB,hC,h1,pj,eI,nO,eW,lV,ka,cF,cM,cy,bn,er,j7,Sw];rfl) ?_ DH ?_ ?_
   ·simp only[c6,xK,aa2];kernel_rfl
   ·kernel_rfl
   refine WC.gO (own:=[]) (by simp[f206.o5,f206.jI,aB,ca,List.replicate,fV,fW,aZ,bn,gI Eu,cO,bB,ar,bw,aX,aC,aQ,aY,aG,bZ,ky,kO];rfl) ?_;refine hq _ (au.clean (n:=18) (by simp[jK,gI Eu]) (cw:=[0,2,3,4,33,34,35]) ?_ );simp[cf,cg,gx,aH,aq,an,cE,iH,eI,ud,pO,cm,wl,jK,kq Sx,gI Sx,Lv,QK,hz,Xy hz]
  ·refine WC.Dh (aA:=Rs) Ir qz (by simp[f206.jI,ca,List.replicate,u9,eX,bA,ar,f_,d_,putCells,bU,ep,eV,dO,bw,aX,aC,aQ,aY,fV,fW,aZ,kq Eu,gI Eu,dV,df,aE,hB,hC,h1,pj,eI,nO,eW,lV,ka,cF,cM,cy,bn,er,j7,Sw];rfl) ?_ DH ?_ ?_
   ·simp only[c6,xK,aa2];kernel_rfl
   ·kernel_rfl
   refine WC.gO (own:=[]) (by simp[f206.o5,f206.jI,aB,ca,List.replicate,fV,fW,aZ,bn,gI Eu,cO,bB,ar,bw,aX,aC,aQ,aY,aG,bZ,ky,kO];rfl) ?_;refine hq _ (au.clean (n:=18) (by simp[jK,gI Eu]) (cw:=[0,2,3,4,33,34,35]) ?_ );simp[cf,cg,gx,aH,aq,an,cE,iH,eI,ud,pO,cm,wl,jK,kq et,gI et,xF,QJ,QK]
end Fw.Tz
/-
  linear.sum.result, as a whole.
-/
namespace Fw.Tz
open Go Go.Proofs Fw.X
variable {W:World}
mutual
theorem DI{b m:Nat}(hb:m≤b)(ds:List D):∀{u:V},aq m u=true→bP b ds u=u
 | .ptr c _ _,hh=>by simp only[aq,aaT]at hh;simp only[bP,cG (show c≠b by omega),aaX]
 | .sl c _ _ _ _,hh=>by simp only[aq,aaT]at hh;simp only[bP,cG (show c≠b by omega),aaX]
 | .map c,hh=>by simp only[aq,aaT]at hh;simp only[bP,cG (show c≠b by omega),aaX]
 | .iter c _,hh=>by simp only[aq,aaD,aaT]at hh;simp only[bP,cG (show c≠b by omega),aaX]
 | .func _ a c,hh=>by simp only[aq,aaD]at hh;simp only[bP,lN hb ds hh.1,lN hb ds hh.2]
 | .iface _ v,hh=>by simp only[aq]at hh;simp only[bP,DI hb ds hh]
 | .agg cs,hh=>by simp only[aq]at hh;simp only[bP,lN hb ds hh]
 | .tuple cs,hh=>by simp only[aq]at hh;simp only[bP,lN hb ds hh]
 | .any,_=>rfl
 | .d _,_=>rfl
 | .ab,_=>rfl
 | .jU,_=>rfl
 | .ct _,_=>rfl
 | .mf,_=>rfl
 | .nK,_=>rfl
 | .cd,_=>rfl
 | .gX,_=>rfl
theorem lN{b m:Nat}(hb:m≤b)(ds:List D):∀{us:List V},an m us=true→gN b ds us=us|[],_=>rfl|v::vs,hh=>by simp only[an,aaD]at hh;simp only[gN,DI hb ds hh.1,lN hb ds hh.2]
end
def dH(l:Es):List D:=l.flatMap fun e=>[.str e.1,.int .i64 e.2]
theorem pP(l:Es):ep (bJ l)=some (dH l):=by
 induction l with
  |nil=>rfl
  |cons e l ih=>simp[bJ,dH,ep]at ih⊢;simp[ih]
theorem rP(l:Es):eV 2 l.length (dH l)=l.map fun e=>[D.str e.1,.int .i64 e.2]:=by
 induction l with
  |nil=>rfl
  |cons e l ih=>simp[dH,eV]at ih⊢;exact ih
theorem si(l:Es):(dH l).length=2*l.length:=by have:=(jy (pP l)).1;rw[←this,dV]
theorem ue(H:ai)(f:Nat):∀(l:Es),bK (fB H f) (bJ l)=some (dH l)
 |[]=>rfl
 |e::l=>by
  have:=ue H f l;simp only[bJ,ace,abQ,abV,bK,dH]at this⊢;have e1:∀x,fB H f (.d x)=some x:=fun x=>by cases f<;>rfl
  simp only[e1,this]
def n_(es:Es)(k:List UInt8):List UInt8×Int:=(k,bp es k)
theorem Sy{cs:List V}{h off:Nat}{n:Int}{es:Es}(h1:cs.length=h)(h3:cs[off+1]? =some (.map 1))(gZ:an 2 cs=true)(cB:es.length≤2^20){seen:List Nat}{s:List (List UInt8)}(hls:s.length≤2^20)(Q:Ex→St→Prop)(hq:Q .normal (jK cs h off n es seen s (s.map (n_ es)))):WC P (gl W) (.block 2 (.loop f206.OI)) (jK cs h off n es seen s []) Q:=by
 refine WC.block (WC.HH (α:={j // j≤s.length}) (fun j=>jK cs h off n es seen s ((s.take j.1).map (n_ es))) (fun j=>s.length - j.1) ?_ ⟨0,by omega⟩ (by simpa using au.refl _ _));rintro⟨j,hj⟩;have hlen:((s.take j).map (n_ es)).length=j:=by simp;omega
 by_cases bS:j<s.length
 ·obtain⟨k,hk⟩:∃k,s[j]? =some k:=⟨_,aaG bS⟩;refine O5 (k:=k) h1 h3 gZ cB (by rw[hlen];exact hk) hls _ fun aS ht=>⟨⟨j+1,by omega⟩,by simp;omega,?_ ⟩
  have:(s.take (j+1)).map (n_ es)=(s.take j).map (n_ es)++[(k,bp es k)]:=by rw[acf,hk];simp[n_]
  simp only[this];exact ht
 ·obtain rfl:j=s.length:=by omega
  have ud:=bC (show 2≤18 by omega) gZ;have xJ:=bC (show 2≤6 by omega) gZ;have pO:∀m,((db es).all fun p=>aq m p.2)=true:=by intro m;simp[db,abh,aq]
  refine WC.post ?_;refine WC.seq (WC.gO (own:=[]) (by simp[jK,hlen,f206.km,cO,bB,ar,bw,aX,aC,aQ,aY,aG,bZ,aZ,ky,kO];rfl) ?_ );refine WC.seq (WC.cond (t:=false) (by simp[aX,aC]) (WC.exit ⟨jK cs h off n es seen s (s.map (n_ es)),?_,by simpa using hq⟩));refine au.clean (aaQ _) (cw:=[0,2,3,4,33,34,35]) ?_;by_cases hN:s.map (n_ es)=[]
  ·have hs:s=[]:=by simpa using hN
   subst hs;simp[cf,cg,gx,aH,aq,an,cE,iH,eI,jK,ml,nQ,xJ,pO,cm]
  ·simp[cf,cg,gx,aH,aq,an,cE,iH,eI,jK,kq hN,gI hN,ud,pO,cm,uc]
theorem E4{seen:List Nat}{n:Nat}(hn:seen.Nodup)(hb:∀i∈seen,i<n)(hf:∀i,i<n→i∈seen):seen.Perm (List.range n):=(List.perm_ext_iff_of_nodup hn List.nodup_range).2 fun i=>⟨fun h=>abb.2 (hb i h),fun h=>hf i (abb.1 h)⟩
theorem z_{α β:Type}{f g:α→Option β}:∀{l:List α},(∀x∈l,f x=g x)→l.filterMap f=l.filterMap g|[],_=>rfl|x::l,h=>by rw[acY,acY,h x ab',z_ fun y hy=>h y (ab0 _ hy)]
theorem Aa(es:Es):bm es (List.range es.length)=bW es:=by
 have:∀(l:Es)(k:Nat),(List.range' k l.length).filterMap (fun i=>nm l (i - k))=bW l:=by
  intro l;induction l with
   |nil=>intro k;rfl
   |cons e l ih=>
    intro k;rw[aaS,List.range'_succ,acY];have h0:nm (e::l) (k - k)=if e.2=0 then none else some e.1:=by simp[nm]
    have h1:(List.range' (k+1) l.length).filterMap (fun i=>nm (e::l) (i - k))=(List.range' (k+1) l.length).filterMap (fun i=>nm l (i - (k+1))):=by apply z_;intro i hi;have:=(List.mem_range'_1.1 hi).1;simp only[nm,show i - k=(i - (k+1))+1 by omega,adb]
    rw[h0,h1,ih];by_cases hc:e.2=0
    ·simp[hc,bW]
    ·simp[hc,bW]
 have:=this es 0;simp only[ach]at this;rw[List.range_eq_range',bm];exact this
theorem BZ{a b:List (List UInt8)}(h:a.Perm b):dF a=dF b:=by
 have QL:∀(x y:List UInt8),(decide (x≤y)||decide (y≤x))=true:=fun x y=>by rcases adw x y with h|h<;>simp[h]
 have QM:∀(x y z:List UInt8),decide (x≤y)=true→decide (y≤z)=true→decide (x≤z)=true:=fun x y z h1 h2=>by simp only[aaN]at*;exact adx h1 h2
 refine ac6 (le:=fun x y=>decide (x≤y)=true) (fun x y _ _ h1 h2=>?_ ) (acA QM QL a) (acA QM QL b) ?_
 ·simp only[aaN]at h1 h2;exact acw h1 h2
 ·exact(acz a _).trans (h.trans (acz b _).symm)
theorem B0{es:Es}{seen:List Nat}(hs:Is es seen)(hf:∀i,i<es.length→i∈seen):dF (bm es seen)=dF (bW es):=by rw[←Aa];exact BZ ((E4 hs.1 hs.2 hf).filterMap _)
theorem O6(b:Nat)(ds:List D)(x:D):bP b ds (.d x)=.d x:=rfl
theorem Sz(x:D):dO (.d x)=true:=rfl
def xL(cs:List V)(h off:Nat)(n:Int)(es:Es)(seen:List Nat)(SA SB SD:V)(t:Es)(X:ai):St:=⟨58,[(0,.ptr 0 h off),(2,.ptr 2 2 0),(3,.d (.int .i64 0)),(4,.ptr 3 2 0),(33,SA),(34,SB),(35,SD)],[some (.cells cs),some (.map (db es)),some (.cells [.d (.int .i64 0),.ab]),some (.cells [.d (.int .i64 n),ml 17 t]),some (.dK 1 es.length seen)]++X⟩
def lO(cs:List V)(n:Int)(es:Es)(seen:List Nat)(t:Es)(ok:Bool)(X:ai):ai:=[some (.cells cs),some (.map (db es)),some (.cells (if ok then[.d (.int .i64 n),ml 17 t]else[.d (.int .i64 0),.ab])),some (.cells [.d (.int .i64 n),ml 17 t]),some (.dK 1 es.length seen)]++X
def It(t:Es)(X:ai):Prop:=t=[]∨aE X 12=some (.cells (bJ t))
theorem SE{cs:List V}{n:Int}{es:Es}{seen:List Nat}{t:Es}{X:ai}{b:eG}(hX:It t X):bK (mu ([some (.cells cs),some (.map (db es)),some b,some (.cells [.d (.int .i64 n),ml 17 t]),some (.dK 1 es.length seen)]++X)) [.agg [.d (.int .i64 n),ml 17 t]]=some [o7 n t]:=by
 by_cases ht:t=[]
 ·subst ht;rfl
 ·rcases hX with hX|hX
  ·exact absurd hX ht
  ·rw[kq ht];generalize hH:([some (.cells cs),some (.map (db es)),some b,some (.cells [.d (.int .i64 n),.sl 17 (2*t.length) 0 t.length 2]),some (.dK 1 es.length seen)]++X:ai)=H;have hb:aE H 17=some (.cells (bJ t)):=by rw[←hH];simpa[aE]using hX
   have h6:bK (fB H 5) (((bJ t).drop 0).take (t.length*2))=some (dH t):=by rw[abZ,abS (by rw[dV];omega)];exact ue _ _ t
   have e1:fB H 6 (.sl 17 (2*t.length) 0 t.length 2)=some (mW t):=by simp only[fB,hb,dV,aa0,aaU,aa2];rw[abO (by omega)];simp only[aaH];rw[h6];simp only[rP,mW]
   simp only[bK,mu,kN,e1];rfl
theorem M3{cs:List V}{h off:Nat}{n:Int}{es:Es}{seen:List Nat}{SA SB SD:V}{X:ai}{ok:Bool}(t:Es)(hX:It t X)(hv:PC P (gl W) 89 [o7 n t] (.d (.bool ok)))(Q:Ex→St→Prop)(hq:∀tm,get tm 2=.ptr 2 2 0→get tm 3=.d (.int .i64 (if ok then 0 else 3))→Q .ret ⟨58,tm,lO cs n es seen t ok X⟩):WC P (gl W) (.seq (.seq (.region f206.r16) (.cond (.t 55) (.seq (.region f206.qS) .ret) .skip)) (.seq (.region f206.tY) .ret)) (xL cs h off n es seen SA SB SD t X) Q:=by
 have SF:df (xL cs h off n es seen SA SB SD t X).hp 2 (.ptr 3 2 0)=some [.d (.int .i64 n),ml 17 t]:=by simp[xL,df,aE,eI,nO]
 refine WC.seq (WC.seq (WC.KP 1 (own:=[]) (by simp only[f206.r16,List.take,cO,bB,ar,bw,aX];rw[show get (xL cs h off n es seen SA SB SD t X).tm 4=.ptr 3 2 0 from rfl,SF];simp[pj,xL,aG,aQ,aY,aZ];rfl) ?_ ));refine WO.call rfl (by simp[ar]) (WF.borrow (rI:=[o7 n t]) (by simpa[bh,aX,aC]using SE hX) hv rfl ⟨_,by simp[aG,aQ,aY];rfl,?_ ⟩);refine WO.bw (v:=.d (.bool !ok)) (wr:=none) (by simp[ar]) (by simp[bw,aX,aC,Qc]) (by simp[aG,aQ,aY,aZ];rfl) (WO.nil ?_ );cases ok with
  |false=>refine WC.cond (t:=true) (by simp[aX,aC]) ?_;refine WC.seq (WC.gO (own:=[]) (by simp[f206.qS,cO,bB,ar,bw,aX,aC,aQ,aY,aG,bZ,aZ,d_,er,aE,bn,eI,nO,bU,dO,putCells];rfl) ?_ );refine WC.ret ?_;have:=hq;simp only[abB,abT]at this;exact this _ (by simp[aC]) (by simp[aC])
  |true=>
   refine WC.cond (t:=false) (by simp[aX,aC]) (WC.skip ?_ );have Xz:dO (ml 17 t)=true:=by cases t<;>rfl
   refine WC.seq (WC.gO (own:=[]) (aS:=⟨58,_,lO cs n es seen t true X⟩) (by simp[lO,f206.tY,cO,bB,ar,bw,aX,aC,aQ,aY,aG,bZ,aZ,df,pj,er,aE,bn,eI,nO,bU,Xz,Sz,putCells];rfl) ?_ );refine WC.ret ?_;have:=hq;simp only[abv]at this;exact this _ (by simp[aC]) (by simp[aC])
def M4:FuncId→Option cL:=fun f=>bif Nat.beq f 104 then some f104 else bif Nat.beq f 157 then some f157 else bif Nat.beq f 158 then some BU else bif Nat.beq f 222 then some jJ else bif Nat.beq f 212 then some lM else none
theorem Lw:PC P (gl W) 104 [.ab] (.tuple []):=by
 have hf:∀f fn,M4 f=some fn→aI P f=some fn∧ao P f=true:=by
  intro f fn h;unfold M4 at h;cases h1:Nat.beq f 104 with
   |true=>rw[h1]at h;simp only[aaH,aaC]at h;obtain rfl:=aaI h1;subst h;exact⟨k_,k_⟩
   |false=>
    rw[h1]at h;cases h2:Nat.beq f 157 with
     |true=>rw[h2]at h;simp only[aaH,aaX,aaC]at h;obtain rfl:=aaI h2;subst h;exact⟨k_,k_⟩
     |false=>
      rw[h2]at h;cases h3:Nat.beq f 158 with
       |true=>rw[h3]at h;simp only[aaH,aaX,aaC]at h;obtain rfl:=aaI h3;subst h;exact⟨k_,k_⟩
       |false=>
        rw[h3]at h;cases h4:Nat.beq f 222 with
         |true=>rw[h4]at h;simp only[aaH,aaX,aaC]at h;obtain rfl:=aaI h4;subst h;exact⟨k_,k_⟩
         |false=>
          rw[h4]at h;cases h5:Nat.beq f 212 with
           |true=>rw[h5]at h;simp only[aaH,aaX,aaC]at h;obtain rfl:=aaI h5;subst h;exact⟨k_,k_⟩
           |false=>rw[h5]at h;cases h
 have hk:qy P (gl W) (fun _=>Vl):=fun _ _=>By
 have cD:=Dc (eO:=fun _=>[]) (rf:=fun _=>false) (n:=10) hk Ir hf (qz (P:=P) (GL:=gl W)) 5;exact h_ qz cD 104 [.ab] _ k_
theorem O7{cs:List V}{n:Int}{es:Es}{seen:List Nat}{ok:Bool}{t:Es}{X:ai}(hX:It t X)(gZ:an 2 cs=true)(eF:cs.all dO=true)(XA:∀ds,((ff 17 ds 5 X).all fD)=true){tm:List (Nat×V)}(g2:get tm 2=.ptr 2 2 0)(g3:get tm 3=.d (.int .i64 (if ok then 0 else 3))):∃v,fq f206.res ⟨58,tm,lO cs n es seen t ok X⟩=some v∧∃aS,au 2 ⟨1,[(0,v)],lO cs n es seen t ok X⟩ aS∧get aS.tm 0=(if ok then .tuple [ua n t,.d (.int .i64 0)]else .tuple [ua 0 [],.d (.int .i64 3)])∧aS.hp=[some (.cells cs),some (.map (db es))]:=by
 have pO:∀m,((db es).all fun p=>aq m p.2)=true:=by intro m;simp[db,abh,aq]
 have M5:∀ds,gN 17 ds cs=cs:=fun ds=>lN (show 2≤17 by omega) ds gZ
 have SG:∀ds,(db es).map (fun p=>(p.1,bP 17 ds p.2))=db es:=fun ds=>by simp[db,abh,bP]
 cases ok with
  |false=>refine⟨_,by simp[fq,f206,bK,eN,g2,g3,lO,df,aE,eI,nO,pj];rfl,_,au.clean (n:=2) (aaQ _) (cw:=[0]) (by simp[cf,cg,lO,gx,aH,cE,aq,an,gZ,pO];rfl),?_,rfl⟩;rfl
  |true=>
   by_cases ht:t=[]
   ·subst ht;refine⟨_,by simp[fq,f206,bK,eN,g2,g3,lO,ml,df,aE,eI,nO,pj];rfl,_,au.clean (n:=2) (aaQ _) (cw:=[0]) (by simp[cf,cg,lO,gx,aH,cE,aq,an,gZ,pO];rfl),?_,rfl⟩;rfl
   ·rcases hX with hX|hX
    ·exact absurd hX ht
    ·have hb:sb (lO cs n es seen t true X) 17=some (dH t):=by
      have:aE (lO cs n es seen t true X) 17=some (.cells (bJ t)):=by simpa[lO,aE]using hX
      simp only[sb,this,pP]
     have hT:bP 17 (dH t) (.sl 17 (2*t.length) 0 t.length 2)=.d (mW t):=by simp only[bP,aa0,aaH,si,aaU,aa2];rw[abO (by omega)];simp only[aaH,abZ,rP,mW]
     refine⟨.tuple [.agg [.d (.int .i64 n),.sl 17 (2*t.length) 0 t.length 2],.d (.int .i64 0)],by simp[fq,f206,bK,eN,g2,g3,lO,kq ht,df,aE,eI,nO,pj],⟨1,[(0,.tuple [o7 n t,.d (.int .i64 0)])],[some (.cells cs),some (.map (db es))]⟩,au.trans (au.oe (b:=17) (aS:=⟨1,[(0,.tuple [o7 n t,.d (.int .i64 0)])],ff 17 (dH t) 0 (lO cs n es seen t true X)⟩) ?_ ) (au.clean (n:=2) (aaQ _) (cw:=[0]) ?_ ),?_,rfl⟩
     ·simp only[j_,hb];have jA:(ff 17 (dH t) 0 (lO cs n es seen t true X)).all fD=true:=by have:=XA (dH t);simp[lO,ff,eM,kq ht,M5,SG,fD,eF,gN,hT,dO,eI,O6];exact fun x hx=>aaR.1 this x hx
      rw[jA];have h1:bP 17 (dH t) (.tuple [.agg [.d (.int .i64 n),.sl 17 (2*t.length) 0 t.length 2],.d (.int .i64 0)])=.tuple [o7 n t,.d (.int .i64 0)]:=by rw[bP,gN,bP,gN,gN,hT];rfl
      simp only[aaH,aaY,ac5,h1]
     ·simp[eI,cf,cg,lO,ff,eM,M5,SG,gx,aH,cE,aq,an,gZ,pO,o7]
     ·rw[Lu ht];rfl
theorem xM{es:Es}(h:bW es=[]):be es=[]:=by simp[be,h,dF]
theorem Lx(s:List (List UInt8))(t:Es)(ds:List D):((ff 17 ds 5 ([some (.cells (s.map eP))]++nQ t)).all fD)=true:=by
 have h1:gN 17 ds (s.map eP)=s.map eP:=lN (m:=0) (by omega) ds (cm 0 s);by_cases ht:t=[]
 ·subst ht;simp[nQ,ff,eM,h1,fD,eI,eP,dO]
 ·simp[gI ht,ff,eM,h1,fD,eI,eP,dO]
theorem SH{cs:List V}{h off:Nat}{n:Int}{es:Es}{ok:Bool}(h1:cs.length=h)(h2:cs[off]? =some (.d (.int .i64 n)))(h3:cs[off+1]? =some (.map 1))(gZ:an 2 cs=true)(eF:cs.all dO=true)(cB:es.length≤2^20)(hv:PC P (gl W) 89 [o7 n (be es)] (.d (.bool ok))):WF P (gl W) 206 [.ptr 0 h off] [some (.cells cs),some (.map (db es))] (fun v H'=>v=jg n es ok∧H'=[some (.cells cs),some (.map (db es))]):=by
 refine WF.gy (WF.body Lt Xx (by simp[f206]) ?_ );have ud:=bC (show 2≤18 by omega) gZ;have xJ:=bC (show 2≤6 by omega) gZ;have BY:=bC (show 2≤5 by omega) gZ;have pO:∀m,((db es).all fun p=>aq m p.2)=true:=by intro m;simp[db,abh,aq]
 refine Ss h1 h2 h3 gZ _ _ _ ?_;refine Sv gZ cB _ fun seen hs hf=>?_
 have M6:=B0 hs hf;have fin:∀(X:ai)(tm:List (Nat×V)),It (be es) X→(∀ds,((ff 17 ds 5 X).all fD)=true)→get tm 2=.ptr 2 2 0→get tm 3=.d (.int .i64 (if ok then 0 else 3))→∃v,fq f206.res ⟨58,tm,lO cs n es seen (be es) ok X⟩=some v∧∃aS,au [some (eG.cells cs),some (eG.map (db es))].length ⟨1,[(0,v)],lO cs n es seen (be es) ok X⟩ aS∧get aS.tm 0=jg n es ok∧aS.hp=[some (.cells cs),some (.map (db es))]:=fun X tm hX XA g2 g3=>O7 hX gZ eF XA g2 g3
 by_cases hN:bm es seen=[]
 ·have tn:be es=[]:=xM (by
   have:=dG (bW es);rw[←M6,hN]at this;have h0:(dF []).length=0:=by simp[dF]
   exact List.length_eq_zero_iff.1 (by omega))
  have hI:iu cs h off n es seen=⟨58,[(0,.ptr 0 h off),(2,.ptr 2 2 0),(3,.d (.int .i64 0)),(4,.ptr 3 2 0),(5,.ab),(19,.iter 4 1)],[some (.cells cs),some (.map (db es)),some (.cells [.d (.int .i64 0),.ab]),some (.cells [.d (.int .i64 n),.ab]),some (.dK 1 es.length seen)]⟩:=by simp[iu,hN,n9,mX]
  rw[hI];refine WC.seq (WC.KP 1 (own:=[]) (by simp[f206.r9,cO,bB,ar,bw,aX,aC,aQ,aY,aG,aZ];rfl) ?_ );refine WO.MP Lw rfl (by simp[ar]) (by simp[bh,aX,aC]) (by simp[aG,aQ,aY];rfl) (WO.nil ?_ );refine WC.seq (WC.seq (WC.gO (own:=[]) (by simp[f206.iq,cO,bB,ar,bw,aX,aC,aQ,aY,aG,aZ,gm];rfl) ?_ ));refine WC.block (WC.once (WC.seq (WC.gO (own:=[]) (by simp[f206.km,cO,bB,ar,bw,aX,aC,aQ,aY,aG,aZ,ky,kO];rfl) (WC.seq (WC.cond (t:=false) (by simp[aX,aC]) (WC.exit ?_ ))))));dsimp only;rw[aaP rfl];refine WC.tidy (aS:=xL cs h off n es seen .ab (.d (.int .i64 0)) (.d (.int .i64 0)) [] []) (au.clean (aaQ _) (cw:=[0,2,3,4,33,34,35]) ?_ ) ?_
  ·simp[cf,cg,gx,aH,aq,an,cE,iH,eI,xL,ml,BY,pO]
  ·rw[tn]at hv;refine M3 [] (.inl rfl) hv _ fun tm g2 g3=>?_
   have:=fin [] tm (.inl tn) (fun ds=>rfl) g2 g3;rw[tn]at this;exact this
 ·have jt:(bm es seen).length≤2^20:=aby (aby (List.length_filterMap_le _ _) (mY hs.1 hs.2)) cB;have hI:iu cs h off n es seen=⟨58,[(0,.ptr 0 h off),(2,.ptr 2 2 0),(3,.d (.int .i64 0)),(4,.ptr 3 2 0),(5,.sl 5 (bm es seen).length 0 (bm es seen).length 1),(19,.iter 4 1)],[some (.cells cs),some (.map (db es)),some (.cells [.d (.int .i64 0),.ab]),some (.cells [.d (.int .i64 n),.ab]),some (.dK 1 es.length seen),some (.cells ((bm es seen).map eP))]⟩:=by simp[iu,lb hN,ld hN]
  rw[hI];have hw:WF P (gl W) 104 [.sl 5 (bm es seen).length 0 (bm es seen).length 1] [some (.cells cs),some (.map (db es)),some (.cells [.d (.int .i64 0),.ab]),some (.cells [.d (.int .i64 n),.ab]),some (.dK 1 es.length seen),some (.cells ((bm es seen).map eP))] (fun v H'=>v=.tuple []∧H'=[some (.cells cs),some (.map (db es)),some (.cells [.d (.int .i64 0),.ab]),some (.cells [.d (.int .i64 n),.ab]),some (.dK 1 es.length seen),some (.cells ((dF (bm es seen)).map eP))]):=by
   refine WF.frame [5] (Sr (bm es seen) (by omega)) (by simp) rfl (by simp[an,aq,iH]) (by simp[aH,cE,cm]) ?_ ?_
   ·intro i hi;obtain rfl:i=0:=by simp at hi;exact hi
    refine⟨_,rfl,?_⟩;simp[aE,cH];rw[eK (cm 0 _)]
   ·rintro v H' ⟨rfl,rfl⟩;refine⟨rfl,by simp[aq,an],by simp[aH,cE,cm],by simp[dU,fE],?_ ⟩;simp[eB,aE,bn,cH];rw[eK (cm 0 _)]
  refine WC.seq (WC.KP 1 (own:=[]) (by simp[f206.r9,cO,bB,ar,bw,aX,aC,aQ,aY,aG,aZ];rfl) ?_ );refine WO.Ru hw rfl (by simp[ar]) (by simp[bh,aX,aC]) ?_;rintro v H' ⟨rfl,rfl⟩;refine⟨_,by simp[aG,aQ,aY];rfl,WO.nil ?_ ⟩;refine WC.seq (WC.seq (WC.gO (own:=[]) (by simp[f206.iq,cO,bB,ar,bw,aX,aC,aQ,aY,aG,aZ,gm,ef,aE,dG,eI];rfl) ?_ ));refine WC.tidy (aS:=jK cs h off n es seen (dF (bm es seen)) []) (au.clean (aaQ _) (cw:=[0,2,3,4,33,34,35]) ?_ ) ?_
  ·simp[cf,cg,gx,aH,aq,an,cE,iH,eI,jK,ml,nQ,xJ,pO,cm,dG]
  ·refine Sy h1 h3 gZ cB (by rw[dG];exact jt) _ ?_;have hK:jK cs h off n es seen (dF (bm es seen)) ((dF (bm es seen)).map (n_ es))=xL cs h off n es seen (.sl 5 (dF (bm es seen)).length 0 (dF (bm es seen)).length 1) (.d (.int .i64 (dF (bm es seen)).length)) (.d (.int .i64 (be es).length)) (be es) ([some (.cells ((dF (bm es seen)).map eP))]++nQ (be es)):=by
    have:(dF (bm es seen)).map (n_ es)=be es:=by rw[M6];rfl
    rw[this];simp[jK,xL]
   rw[hK];have hX:It (be es) ([some (.cells ((dF (bm es seen)).map eP))]++nQ (be es)):=by
    by_cases ht:be es=[]
    ·exact .inl ht
    ·exact .inr (by simp[gI ht,aE])
   exact M3 (be es) hX hv _ fun tm g2 g3=>fin _ tm hX (fun ds=>Lx _ _ ds) g2 g3
end Fw.Tz
/-
  slices.Grow of nil: an empty row with room.
-/
namespace Fw.Tz
open Go Go.Proofs Fw.X
variable {W:World}
theorem XB:ao P 118=true:=k_
theorem Ly:aI P 118=some f118:=k_
def xN(n:Nat):V:=if n=0 then .ab else .sl 1 0 0 0 3
def xO(n:Nat):ai:=if n=0 then[]else[none,some (.cells [])]
theorem XC(n:Nat)(hn:n≤2^30):WF P (gl W) 118 [.ab,.d (.int .i64 n)] [] (fun v H'=>v=xN n∧H'=xO n):=by
 have hw:IntKind.i64.wrap (n:Int)=n:=by rw[IntKind.wrap_i64];omega
 have O8:¬((n:Int)<0):=by omega
 have XD:IntKind.i64.wrap 0=0:=rfl;refine WF.gy (WF.body Ly XB (by simp[f118]) ?_ );show WC P (gl W) (.seq (.region f118.r0) (.seq (.seq (.region f118.r1) (.cond (.t 6) (.region f118.r2) .skip)) (.seq (.seq (.region f118.r3) (.seq (.region f118.r4) (.cond (.t 16) (.region f118.r5) .skip))) (.seq (.region f118.r6) .ret)))) ⟨27,[(0,.ab),(1,.d (.int .i64 n))],[]⟩ _;refine WC.seq (WC.gO (own:=[]) (by simp[f118.r0,cO,bB,ar,bw,aX,aC,aQ,aY,aG,aZ];rfl) ?_ );refine WC.seq (WC.seq (WC.gO (own:=[]) (by simp[f118.r1,cO,bB,ar,bw,aX,aC,aQ,aY,aG,aZ,ky,kO,O8];rfl) ?_ ));refine WC.cond (t:=false) (by simp[aX,aC]) (WC.skip ?_ );refine WC.seq (WC.seq (WC.gO (own:=[]) (by simp[f118.r3,cO,bB,ar,bw,aX,aC,aQ,aY,aG,aZ,ky,kO,gm,hw,XD];rfl) ?_ ));refine WC.seq (WC.gO (own:=[]) (by simp[f118.r4,cO,bB,ar,bw,aX,aC,aQ,aY,aG,aZ,ky,kO];rfl) ?_ );by_cases h0:n=0
 ·subst h0;refine WC.cond (t:=false) (by simp[aX,aC]) (WC.skip ?_ );refine WC.seq (WC.gO (own:=[]) (by simp[f118.r6,cO,bB,ar,bw,aX,aC,aQ,aY,aG,aZ];rfl) (WC.ret ?_ ));refine⟨.ab,by simp[fq,f118,bK,eN,aC],_,au.refl _ _,by simp[aC,xN],rfl⟩
 ·have nN:0<n:=by omega
  have j7:n*57≤1099511627776:=by omega
  have ub:n≤1099511627776:=by omega
  refine WC.cond (t:=true) (by simp[aX,aC];omega) ?_;refine WC.gO (own:=[]) (by simp[f118.r5,cO,bB,ar,bw,aX,aC,aQ,aY,aG,aZ,gm,bounds,dC,eI,nO,iH,nN,j7,ub,cy,dO,bn,ef,aE,uY];rfl) ?_;refine WC.seq (WC.gO (own:=[]) (by simp[f118.r6,cO,bB,ar,bw,aX,aC,aQ,aY,aG,aZ];rfl) (WC.ret ?_ ));refine⟨.sl 0 (n*3) 0 0 3,by simp[fq,f118,bK,eN,aC],⟨1,[(0,.sl 1 0 0 0 3)],[none,some (.cells [])]⟩,?_,by simp[aC,xN,h0],by simp[xO,h0]⟩;rcases au.shrink (h:=n*3) (sz:=3) (cs:=(List.range (n*3)).map fun i=>[V.d (.str []),.d (.str []),.ab].getD (i%3) .any)with h|h
  ·simpa using h
  ·exact absurd (by simp) h
end Fw.Tz
/-
  slices.Clone of an empty row of coefficients.
-/
namespace Fw.Tz
open Go Go.Proofs Fw.X
variable {W:World}
theorem Lz:aI P 170=some f170:=k_
theorem XE:ao P 170=true:=k_
theorem wb:PC P (gl W) 170 [.d (.list [])] (.d (.list [])):=by
 refine PC.ofE rfl (WF.body Lz XE (by simp[f170]) ?_ );show WC P (gl W) (.seq (.region f170.r0) (.seq (.seq (.region f170.r1) (.cond (.t 4) (.seq (.region f170.r2) .ret) .skip)) (.seq (.region f170.r3) .ret))) ⟨8,[(0,.d (.list []))],[]⟩ _;refine WC.seq (WC.gO (own:=[]) (by simp[f170.r0,cO,bB,ar,bw,aX,aC,aQ,aY,aG,aZ];rfl) ?_ );refine WC.seq (WC.seq (WC.KP 1 (own:=[]) (by simp[f170.r1,cO,bB,ar,bw,aX,aC,aQ,aY,aG,aZ];rfl) ?_ ));refine WO.sK (x:=.t 3) (y:=.c .ab) rfl rfl (by simp[aX,aC]) (by simp[aX,aC]) fun b=>?_
 refine⟨_,by simp[aQ,aY,aG];rfl,WO.nil ?_ ⟩;cases b with
  |true=>refine WC.cond (t:=true) (by simp[aX,aC]) ?_;refine WC.seq (WC.gO (own:=[]) (by simp[f170.r2,cO,bB,ar,bw,aX,aC,aQ,aY,aG,aZ];rfl) (WC.ret ?_ ));exact⟨.ab,by simp[fq,f170,bK,eN,aC],.inl ⟨rfl,rfl⟩⟩
  |false=>refine WC.cond (t:=false) (by simp[aX,aC]) (WC.skip ?_ );refine WC.seq (WC.gO (own:=[5]) (by simp[f170.r3,cO,bB,nW,ar,bw,f_,aX,aC,aQ,aY,aG,aZ,cF,cM,eI,nO,aE,dO,cy];rfl) (WC.ret ?_ ));exact⟨_,by simp[fq,f170,bK,eN,aC];rfl,.inr (by simp[gk];rfl)⟩
end Fw.Tz
