/-
  A drawn region whose last operations come one behind the other, behind all others.
-/
import Derived.Test.YtgfgckimecpmlaaGreatDoorFe
set_option linter.unusedSimpArgs false
set_option linter.unusedVariables false
namespace Fw
open Go
section
variable {P:Program}{GL:cj}
def dt(P:Program)(GL:cj)(o:ad)(σ:St)(X:St→Prop):Prop:=∀(o':Oper)(ops:Array Oper),(bD P o'.op).getD .bad=o.op→fR ops.toList o'=some o.guard→o'.dst=o.dst→∀g w a,R GL g w a σ→∀(K:Act→World→Prop)(Q':Exit→Act→World→Prop),(∀g' w' a' aS,R GL g' w' a' aS→cr g w g' w'→X aS→K a' w')→if Region.wanted o' (yielded ops a.tmps)then o'.wp P a w K Q' else K (a.put o'.dst undef) w
def tJ(P:Program)(GL:cj):List ad→St→(St→Prop)→Prop|[],σ,Q=>Q σ|o::l,σ,Q=>dt P GL o σ (fun aS=>tJ P GL l aS Q)
theorem dt.bw{o:ad}{σ aS:St}{X:St→Prop}{v:V}{wr:Wr}(hg:ar o.guard σ.tm=some true)(he:bw (aX GL σ.tm) σ.hp σ.hp.length o.op=some (v,wr))(hp:σ.put o.dst v (aZ σ.hp wr)=some aS)(h:X aS):dt P GL o σ X:=by
 intro o' ops eH lz dY g w a hr K Q' hK;rw[dk hr lz hg,aaP rfl];obtain⟨g',w',nx,h1,h2,h3,h4,_⟩:=tg (P:=P) (a:=a) (o:=o') (eR eH (fun e=>by rw[e]at he;cases he)) he hr.ev hr.heap hr.heap.fresh;unfold Oper.wp;rw[h1];rcases h2 with⟨x,rfl,hx⟩|⟨rfl,rfl⟩
 ·simp only[Oper.upon];rw[dY];exact hK g' w' _ aS (hr.gv h4 h3 hp hx) h4 h
 ·simp only[Oper.upon];rw[dY];exact hK g' w' _ aS (hr.gv h4 h3 hp (by simp only[RV])) h4 h
theorem dt.skip{o:ad}{σ aS:St}{X:St→Prop}(hg:ar o.guard σ.tm=some false)(hp:σ.put o.dst (.tuple []) σ.hp=some aS)(h:X aS):dt P GL o σ X:=by intro o' ops eH lz dY g w a hr K Q' hK;rw[dk hr lz hg,aaL (by simp),dY];exact hK g w _ aS (hr.gv (cr.refl _ _) hr.heap hp (by simp only[RV];exact⟨#[],rfl,by simp[aV]⟩)) (cr.refl _ _) h
theorem dt.pq{o:ad}{σ:St}{X:St→Prop}{f:FuncId}{args:List V}(hg:ar o.guard σ.tm=some true)(eL:∀(o':Oper)(g:G)(w:World)(a:Act),(bD P o'.op).getD .bad=o.op→R GL g w a σ→ao P f=true→∃vs:Array Value,aV g w args vs.toList∧(execOp a.eval o').run P w=.ok (.enter f vs) w)(h:WF P GL f args σ.hp fun v H'=>∃aS,σ.put o.dst v H'=some aS∧X aS):dt P GL o σ X:=by intro o' ops eH lz dY g w a hr K Q' hK;rw[dk hr lz hg,aaP rfl];obtain⟨vs,dX,u6⟩:=eL o' g w a eH hr h.1;unfold Oper.wp;rw[u6];simp only[Oper.upon];refine(h.2 g w vs dX hr.heap hr.eg).mono ?_;rintro e w' ⟨x,v,g',H',rfl,⟨aS,bn,KF⟩,hx,hh,he⟩;simp only;rw[dY];exact hK g' w' _ aS (hr.gv he hh bn hx) he KF
theorem dt.call{o:ad}{σ:St}{X:St→Prop}{f:FuncId}{args:List ba}(ho:o.op=.call f args)(hg:ar o.guard σ.tm=some true)(h:WF P GL f (bh (aX GL σ.tm) args) σ.hp fun v H'=>∃aS,σ.put o.dst v H'=some aS∧X aS):dt P GL o σ X:=by
 refine dt.pq hg (fun o' g w a eH hr w6=>?_ ) h;rw[ho]at eH;obtain⟨c,hc,kz⟩:=fU (eR eH (by simp)) (.inl ⟨f,args,rfl⟩);have fe:c.callee=.value (.func f)∧bK av c.args.toList=some args:=by
  unfold dR at kz;split at kz;case h_6 f' Hi=>
   split at kz
   ·simp only[aaE,kI.call.injEq]at kz;obtain⟨l,hl,rfl,rfl⟩:=kz;exact⟨Hi,hl⟩
   ·cases kz
  all_goals exfalso
  all_goals first|(simp at kz;done)|(repeat' split at kz)<;>simp at kz
 refine⟨c.args.map a.eval,by simpa using iw hr.ev fe.2,?_ ⟩;have:=fg w6 (c.args.map a.eval) w;simp[execOp,hc,resolve,fe.1,Act.eval,Deferred.ofValue,invoke,this]
theorem dt.fm{o:ad}{σ:St}{X:St→Prop}{f:FuncId}{x:ba}{first cap:List V}{args:List ba}(ho:o.op=.fm x args)(hx:aX GL σ.tm x=.func f first cap)(hg:ar o.guard σ.tm=some true)(h:WF P GL f (first++bh (aX GL σ.tm) args++cap) σ.hp fun v H'=>∃aS,σ.put o.dst v H'=some aS∧X aS):dt P GL o σ X:=by
 refine dt.pq hg (fun o' g w a eH hr w6=>?_ ) h;rw[ho]at eH;obtain⟨c,hc,kz⟩:=fU (eR eH (by simp)) (.inr ⟨x,args,rfl⟩);have fe:∃t,c.callee=.value (.tmp t)∧x=.t t∧bK av c.args.toList=some args:=by
  unfold dR at kz;split at kz;case h_7 t' Hi=>simp only[aaE,kI.fm.injEq]at kz;obtain⟨l,hl,rfl,rfl⟩:=kz;exact⟨t',Hi,rfl,hl⟩
  all_goals exfalso
  all_goals first|(simp at kz;done)|(repeat' split at kz)<;>simp at kz
 obtain⟨t,ht,rfl,gR⟩:=fe;have hv:=hr.ev (.tmp t) (.t t) rfl;rw[hx]at hv;simp only[RV]at hv;obtain⟨p,q,e1,e2,e3⟩:=hv;refine⟨p++c.args.map a.eval++q,?_,?_⟩
 ·simp only[ab4,acP];exact aV.append (aV.append e2 (iw hr.ev gR)) e3
 ·have:=fg w6 (p++c.args.map a.eval++q) w;simp only[Array.append_assoc]at this;simp[execOp,hc,resolve,ht,e1,Deferred.ofValue,invoke,this]
theorem dt.f_{o:ad}{σ aS:St}{X:St→Prop}{v:V}(hg:ar o.guard σ.tm=some true)(he:f_ (aX GL σ.tm) o.op=some v)(hp:σ.put o.dst v σ.hp=some aS)(h:X aS):dt P GL o σ X:=by intro o' ops eH lz dY g w a hr K Q' hK;rw[dk hr lz hg,aaP rfl];obtain⟨w',x,k1,k2,k3,k4⟩:=qu (P:=P) (a:=a) (o:=o') (eR eH (fun e=>by rw[e]at he;cases he)) he hr.ev hr.heap;unfold Oper.wp;rw[k1];simp only[Oper.upon];rw[dY];exact hK g w' _ aS (hr.gv k4 k3 hp k2) k4 h
theorem WC.KS{l ts:List ad}{σ:St}{Q:Ex→St→Prop}{qc:Nat→Option V}{rs:List ((V×Wr)×List Nat)}(hm:P.follows .mixedOrders=true)(eL:mg GL σ.hp.length qc 0 l (ca σ l.length)=some rs)(eF:c6 l rs=true)(dY:eZ σ.n l=true)(px:dT (σ.hp.length+l.length) rs=true)(hq:∀(i:Nat)(o:ad)(r:(V×Wr)×List Nat),l[i]? =some o→rs[i]? =some r→∀f args,bA o.op=some (f,args)→ar o.guard (dE l rs (ca σ l.length) i).tm=some true→gU P GL f (bh (aX GL (dE l rs (ca σ l.length) i).tm) args) (dE l rs (ca σ l.length) i).hp r.1.1)(et:ts≠[])(KK:∀(k:Nat)(ot:ad),ts[k]? =some ot→∀e∈ot.after,e<l.length+k)(N5:∀ot,ts[0]? =some ot→∀j,j<l.length→∃e∈ot.after,e<l.length∧(j=e∨Nat.testBit ((cT 0 [] l).getD e 0) j=true))(MQ:∀(k:Nat)(ot:ad),ts[k+1]? =some ot→l.length+k∈ot.after)(h:tJ P GL ts (aB (fun _=>true) 0 l rs (ca σ l.length)) (Q .normal)):WC P GL (.draw (l++ts)) σ Q:=by
 intro code hc g w sB hr;obtain⟨id,ops,rfl,hl⟩:∃id ops,code=.region id ops true∧i_ P ops.toList true ops.toList=some (l++ts):=by
  cases code with
   |region id ops draw=>
    simp only[aJ]at hc;split at hc
    ·rename_i l' GG;cases draw with
      |false=>simp at hc
      |true=>simp at hc;subst hc;exact⟨id,ops,rfl,GG⟩
    ·cases hc
   |seq=>simp only[aJ]at hc;split at hc<;>simp at hc
   |cond=>simp only[aJ]at hc;split at hc<;>simp at hc
   |_=>simp[aJ]at hc
 obtain⟨Hu,dL⟩:=hY hl;have hlen:l.length+ts.length=ops.size:=by simpa using Hu
 have aas:0<ts.length:=List.length_pos_iff.2 et;obtain⟨NZ,N0⟩:=mG eL;have yY:=kg eF NZ;have tx:∀(i:Nat)(o:ad),l[i]? =some o→∀d,o.dst=some d→d<σ.n:=by intro i o ho d hd;have:=(aaR.1 dY) o (aaO ho);rw[hd]at this;simpa[aaT]using this
 have dr:∀r∈rs,∀b,bq r.1.2=some b→b<σ.hp.length+l.length:=by intro r hr b hb;have:=(aaR.1 px) r hr;rw[hb]at this;simpa[aaT]using this
 generalize oo:ca σ l.length=dz at*;have nM:dz.hp.length=σ.hp.length+l.length:=by rw[←oo];simp[ca]
 have N1:dz.n=σ.n:=by rw[←oo];rfl
 refine wp_region_any hm ?_;have phB:∀(dp k:Nat)(listed:Array Bool)(g1:G)(w1:World)(a1:Act)(s:St),k+dp=ts.length→listed.size=ops.size→(∀j,j<l.length+k→listed.getD j false=true)→(∀j,l.length+k≤j→listed.getD j false=false)→R GL g1 w1 a1 s→cr g w g1 w1→tJ P GL (ts.drop k) s (Q .normal)→wpAny P .any ops (cA GL g w Q) dp listed a1 w1:=by
  intro dp;induction dp with
   |zero=>
    intro k listed g1 w1 a1 s hk cB jA _ hR hE hS;have Vk:k=ts.length:=by omega
    subst Vk;rw[List.drop_length]at hS;refine⟨?_,g1,s,hR,hE,hS⟩;unfold Region.ready;rw[abn];intro j hj;simp only[abb]at hj;have h1:=jA j (by omega);have h2:listed.getD j true=true:=by rw[aaJ]at h1⊢;rw[Array.getElem?_eq_getElem (by omega)]at h1⊢;exact h1
    simp[h2]
   |succ dp ih=>
    intro k listed g1 w1 a1 s hk cB jA vA hR hE hS;have nT:k<ts.length:=by omega
    have MR:l.length+k<ops.size:=by omega
    have eF:ops[l.length+k]? =some ops[l.length+k]:=Array.getElem?_eq_getElem MR;obtain⟨o,EI,eH,lz,hd,iQ⟩:=dL (l.length+k) _ eF;have ho:ts[k]? =some o:=by rw[abo (by omega)]at EI;simpa using EI
    have Ht:ts[k]=o:=by rw[aaG nT]at ho;simpa using ho
    rw[abz nT,Ht]at hS;have hS:dt P GL o s (fun aS=>tJ P GL (ts.drop (k+1)) aS (Q .normal)):=hS;constructor
    ·intro oq;exfalso;have:l.length+k∈Region.ready .any ops listed:=by
      unfold Region.ready;rw[aaZ];refine⟨by simpa using MR,?_ ⟩;have h2:listed.getD (l.length+k) true=false:=by have:=vA (l.length+k) (aaQ _);rw[aaJ]at this⊢;rw[Array.getElem?_eq_getElem (by omega)]at this⊢;exact this
      simp only[h2,abD,aa2,eF,aaV,abe,aa3];intro e he;cases hb:Region.binds .any e with
       |false=>rfl
       |true=>
        simp only[abp,abM];have GM:e.on∈o.after:=by rw[iQ];simp only[cC,aa8,aaZ];exact⟨e,⟨by simpa using he,hb⟩,rfl⟩
        exact jA _ (KK k o ho _ GM)
     rw[oq]at this;cases this
    ·intro i hi;unfold Region.ready at hi;rw[aaZ]at hi;have sF:i<ops.size:=by simpa using hi.1
     have tz:ops[i]? =some ops[i]:=Array.getElem?_eq_getElem sF;have lA:=hi.2;simp only[aaD,abj,tz,aaV,abe,aa3]at lA;have rG:listed.getD i false=false:=by have:=lA.1;rw[aaJ]at this⊢;rw[Array.getElem?_eq_getElem (by omega)]at this⊢;exact this
     have A9:i=l.length+k:=by
      rcases adB i (l.length+k)with h1|h1|h1
      ·rw[jA i h1]at rG;cases rG
      ·exact h1
      ·exfalso;obtain⟨m,rfl⟩:∃m,i=l.length+(m+1):=⟨i - l.length - 1,by omega⟩;obtain⟨oi,Rw,_,_,_,Rx⟩:=dL _ _ tz;have WG:ts[m+1]? =some oi:=by rw[abo (by omega)]at Rw;simpa using Rw
       have WH:=MQ m oi WG;rw[Rx]at WH;simp only[cC,aa8,aaZ]at WH;obtain⟨ed,⟨vD,sy⟩,he3⟩:=WH;have:=lA.2 ed (by simpa using vD);rw[sy,he3]at this;have h3:listed.getD (l.length+m) false=true:=by simpa using this
       rw[vA (l.length+m) (by omega)]at h3;cases h3
     subst A9;unfold wpOp;simp only[eF];have sG:=hS ops[l.length+k] ops eH lz hd g1 w1 a1 hR (wpAny P .any ops (cA GL g w Q) dp (listed.setIfInBounds (l.length+k) true)) (cA GL g w Q) (by
      intro g2 w2 a2 s2 KH KI hS2;refine ih (k+1) _ g2 w2 a2 s2 (by omega) (by simpa using cB) ?_ ?_ KH (hE.trans KI) hS2
      ·intro j hj;rw[aaJ];by_cases hjk:j=l.length+k
       ·subst hjk;rw[aba (by omega)];rfl
       ·rw[aa6 (by omega),←aaJ];exact jA j (by omega)
      ·intro j hj;rw[aaJ,aa6 (by omega),←aaJ];exact vA j (by omega))
     split
     ·rename_i hw;simp only[hw,abv]at sG;exact .inl sG
     ·rename_i hw;simp only[hw]at sG;exact sG
 have key:∀(dp:Nat)(listed:Array Bool)(g1:G)(w1:World)(a1:Act),listed.size=ops.size→((List.range ops.size).filter fun j=> !listed.getD j false).length=dp→hU l (fun j=>listed.getD j false)→(∀j,l.length≤j→listed.getD j false=false)→R GL g1 w1 a1 (aB (fun j=>listed.getD j false) 0 l rs dz)→cr g w g1 w1→(∀b,g1.cR b→b<σ.hp.length∨∃j,listed.getD j false=true∧b=σ.hp.length+j)→wpAny P .any ops (cA GL g w Q) dp listed a1 w1:=by
  intro dp;induction dp with
   |zero=>intro listed g1 w1 a1 cB iG iE xa hR hE gY;exfalso;have:=abY iG;rw[abn]at this;have:=this l.length (by simp;omega);rw[xa l.length (aaQ _)]at this;simp at this
   |succ dp ih=>
    intro listed g1 w1 a1 cB iG iE xa hR hE gY;constructor
    ·intro oq;exfalso;have u6:∃j,j<ops.size∧listed.getD j false=false:=by
      have et:((List.range ops.size).filter fun j=> !listed.getD j false)≠[]:=by intro e;rw[e]at iG;simp at iG
      obtain⟨j,hj⟩:=acr _ et;rw[aaZ]at hj;exact⟨j,by simpa using hj.1,by simpa using hj.2⟩
     obtain⟨j,⟨GK,sA⟩,yS⟩:=vv u6;have Hn:ops[j]? =some ops[j]:=Array.getElem?_eq_getElem GK;obtain⟨o,ho,_,_,_,iQ⟩:=dL j _ Hn;have xd:∀e∈o.after,e<j:=by
      intro e he;rcases abm j l.length with qk|qk
      ·have Wz:l[j]? =some o:=by rwa[abt qk]at ho
       exact yY.before j _ (bz Wz (aaG (show j<rs.length by omega))) e he
      ·rw[abo qk]at ho;have:=KK (j - l.length) o ho e he;omega
     have:j∈Region.ready .any ops listed:=by
      unfold Region.ready;rw[aaZ];refine⟨by simpa using GK,?_ ⟩;have h2:listed.getD j true=false:=by rw[aaJ]at sA⊢;rw[Array.getElem?_eq_getElem (by omega)]at sA⊢;exact sA
      simp only[h2,abD,aa2,Hn,aaV,abe,aa3];intro e he;cases hb:Region.binds .any e with
       |false=>rfl
       |true=>
        simp only[abp,abM];have GM:e.on∈o.after:=by rw[iQ];simp only[cC,aa8,aaZ];exact⟨e,⟨by simpa using he,hb⟩,rfl⟩
        have bS:=xd e.on GM;cases Qj:listed.getD e.on false with
         |true=>rfl
         |false=>have:=yS e.on ⟨by omega,Qj⟩;omega
     rw[oq]at this;cases this
    ·intro i hi;unfold Region.ready at hi;rw[aaZ]at hi;have sF:i<ops.size:=by simpa using hi.1
     have tz:ops[i]? =some ops[i]:=Array.getElem?_eq_getElem sF;have lA:=hi.2;simp only[aaD,abj,tz,aaV,abe,aa3]at lA;obtain⟨o,EI,eH,lz,hd,iQ⟩:=dL i _ tz;rcases abm i l.length with N6|Ro;case inr=>
      have dI:∀e∈o.after,listed.getD e false=true:=by intro e he;rw[iQ]at he;simp only[cC,aa8,aaZ]at he;obtain⟨ed,⟨vD,sy⟩,rfl⟩:=he;have:=lA.2 ed (by simpa using vD);simpa[sy]using this
      have Ht:ts[i - l.length]? =some o:=by rwa[abo Ro]at EI
      have NT:i=l.length:=by
       rcases abm l.length i with h1|h1
       ·exfalso;obtain⟨m,rfl⟩:∃m,i=l.length+(m+1):=⟨i - l.length - 1,by omega⟩;have h2:=dI _ (MQ m o (by rw[←Ht];congr 1;omega));rw[xa _ (by omega)]at h2;cases h2
       ·omega
      subst NT;rw[ac4]at Ht;have tC:∀j,j<l.length→listed.getD j false=true:=by
       intro j hj;obtain⟨e,he,_,N7⟩:=N5 o Ht j hj;rcases N7 with rfl|N7
       ·exact dI _ he
       ·exact hU.reach yY iE e j N7 (dI e he)
      have mK:aB (fun j=>listed.getD j false) 0 l rs dz=aB (fun _=>true) 0 l rs dz:=bY (fun j hj=>by simp only[aaU];exact tC j hj);rw[mK]at hR;have MN:dp+1=ts.length:=by
       rw[←iG,←hlen];have:∀m,((List.range (l.length+m)).filter fun j=> !listed.getD j false).length=m:=by
        intro m;induction m with
         |zero=>
          have e1:(List.range l.length).filter (fun j=> !listed.getD j false)=[]:=by rw[abn];intro j hj;rw[tC j (abb.1 hj)];simp
          rw[abN,e1];rfl
         |succ m KJ=>rw[←Nat.add_assoc,acF,abC,aa1,KJ];have h3:=xa (l.length+m) (by omega);rw[ac_ (by simp only[h3];rfl)];rfl
       exact this _
      exact(phB (dp+1) 0 listed g1 w1 a1 _ (by omega) cB (fun j hj=>tC j (by omega)) (fun j hj=>xa j (by omega)) hR hE (by simpa using h)).2 l.length (by unfold Region.ready;rw[aaZ];exact hi)
     have ho:l[i]? =some o:=by rwa[abt N6]at EI
     have Ho:i<rs.length:=by omega
     have tA:rs[i]? =some rs[i]:=aaG Ho;obtain⟨r,ka,wZ,EH⟩:=N0 i o ho;rw[tA]at ka;simp only[aaC]at ka;simp only[aaU]at wZ EH;have rG:listed.getD i false=false:=by have:=lA.1;rw[aaJ]at this⊢;rw[Array.getElem?_eq_getElem (by omega)]at this⊢;exact this
     have dI:∀e∈o.after,listed.getD e false=true:=by intro e he;rw[iQ]at he;simp only[cC,aa8,aaZ]at he;obtain⟨ed,⟨vD,sy⟩,rfl⟩:=he;have:=lA.2 ed (by simpa using vD);simpa[sy]using this
     have Bq:=bz ho tA;have nV:∀{j:Nat}{y:lW},(gS l rs)[j]? =some y→hO {dst:=o.dst,lk:=dD o,rd:=rs[i].2,ws:=bq rs[i].1.2,after:=o.after} y=true→listed.getD j false=decide (j<i):=fun hy hm=>agree yY iE ho rG dI Bq hy hm (by rw[nv];exact hm)
     have Br:∀t∈dD o,get (aB (fun j=>listed.getD j false) 0 l rs dz).tm t=get (dE l rs dz i).tm t:=by
      intro t ht;refine kT rfl (fun j o' h1 h2=>?_ );simp only[aaU];have Bs:j<rs.length:=by have:=(aaK.1 h1).1;omega
      have fM:=bz h1 (aaG Bs);refine nV fM ?_;unfold hO;have:nW o'.dst (dD o)=true:=jb.2 ⟨t,h2,ht⟩;simp[this]
     have Hq:∀b∈lC (aX GL (dE l rs dz i).tm) o.op,aE (aB (fun j=>listed.getD j false) 0 l rs dz).hp b=aE (dE l rs dz i).hp b:=by
      intro b hb;refine kU rfl (fun j r' h1 h2=>?_ );simp only[aaU];have qk:j<l.length:=by have:=(aaK.1 h1).1;omega
      have fM:=bz (aaG qk) h1;refine nV fM ?_;unfold hO;have:nW (bq r'.1.2) rs[i].2=true:=jb.2 ⟨b,h2,by rw[ka,EH];exact hb⟩;simp[this]
     have qw:=lG (GL:=GL) (ns:=σ.hp.length+i) (cv:=qc i) Br Hq;have Bt:eX GL (dE l rs dz i).tm (dE l rs dz i).hp (σ.hp.length+i) o (qc i)=some r.1:=wZ;rw[Bt]at qw;have Bu:∀x∈looks o.op,aX GL (aB (fun j=>listed.getD j false) 0 l rs dz).tm x=aX GL (dE l rs dz i).tm x:=fun x hx=>kV (fun t ht=>Br t (by simp only[dD,abc,acE];exact .inl ⟨x,hx,ht⟩))
     have N2:ar o.guard (aB (fun j=>listed.getD j false) 0 l rs dz).tm=ar o.guard (dE l rs dz i).tm:=gw (fun d w hd=>Br d (by simp[dD,hd]));unfold wpOp;simp only[tz];have sG:=sD (P:=P) (GL:=GL) (ops:=ops) (v:=r.1.1) (wr:=r.1.2) eH lz hd qw (fun f args hc C9=>by
      rw[N2]at C9;have:=hq i o rs[i] ho tA f args hc C9;rw[ka]at this;have MM:bh (aX GL (aB (fun j=>listed.getD j false) 0 l rs dz).tm) args=bh (aX GL (dE l rs dz i).tm) args:=by refine ei (fun x hx=>Bu x ?_ );cases mJ:o.op<;>rw[mJ]at hc<;>simp[bA]at hc;obtain⟨rfl,rfl⟩:=hc;simpa[looks]using hx
      rw[MM];refine this.congr (fun b hb=>Hq b ?_ );cases mJ:o.op<;>rw[mJ]at hc<;>simp[bA]at hc;obtain⟨rfl,rfl⟩:=hc;simpa only[lC]using hb) hR (by
      intro yW;rcases gY _ yW with h1|⟨j,h1,h2⟩
      ·omega
      ·have:j=i:=by omega
       subst this;rw[rG]at h1;cases h1) (fun d yW=>by rw[eS,N1];exact tx i o ho d yW) (wpAny P .any ops (cA GL g w Q) dp (listed.setIfInBounds i true)) (cA GL g w Q) (by
      intro g2 w2 a2 KH KI N3;have sc:∀j,(listed.setIfInBounds i true).getD j false=dw (fun j=>listed.getD j false) i j:=by
       intro j;simp only[dw,aaJ];by_cases hj:j=i
       ·subst hj;rw[aba (by omega)];simp
       ·rw[aa6 (by omega)];simp[hj]
      have mK:aB (fun j=>(listed.setIfInBounds i true).getD j false) 0 l rs dz=aB (dw (fun j=>listed.getD j false) i) 0 l rs dz:=bY (fun j _=>sc _);refine ih _ g2 w2 a2 (by simpa using cB) ?_ ?_ (fun j hj=>by rw[sc];simp only[dw];rw[xa j hj];simp;omega) ?_ (hE.trans KI) ?_
      ·have e1:(fun j=> !(listed.setIfInBounds i true).getD j false)=fun j=> !listed.getD j false&& !decide (j=i):=by funext j;rw[sc j];simp[dw]
       rw[e1];have ou:∀(m:Nat)(f:Nat→Bool),i<m→f i=true→((List.range m).filter f).length=((List.range m).filter fun j=>f j&& !decide (j=i)).length+1:=by
        intro m f;induction m with
         |zero=>intro h;omega
         |succ m KJ=>
          intro ti Hr;rw[acF,abC,abC,aa1,aa1];rcases abm i m with h1|h1
          ·rw[KJ h1 Hr];have:m≠i:=by omega
           simp[abE,this];split<;>simp<;>omega
          ·have:m=i:=by omega
           subst this;have tB:(List.range m).filter f=(List.range m).filter fun j=>f j&& !decide (j=m):=by
            refine acJ (fun j hj=>?_ );have:j≠m:=by have:=abb.1 hj;omega
            simp[this]
           rw[←tB];simp[abE,Hr]
       have:=ou ops.size (fun j=> !listed.getD j false) sF (by simp[rG]);rw[iG]at this;omega
      ·intro j o' iV hj e he;simp only[sc]at hj⊢;simp only[dw,abq,aaN]at hj⊢;rcases hj with hj|rfl
       ·exact .inl (iE j o' iV hj e he)
       ·rw[ho]at iV;simp only[aaC]at iV;subst iV;exact .inl (dI e he)
      ·rw[mK];refine KH.congr ?_ (fun t=>?_ ) ?_
       ·rw[eS];have:∀(s:St)(v:V)(H:ai),(s.fu o.dst v H).n=s.n:=by intro s v H;cases o.dst<;>rfl
        rw[this,eS]
       ·rw[jc (k:=i) (by omega) ho tA rG (by omega) (fun j o' h1 h2 h3 h4 h5=>by
         simp only[aaU]at h5;have Bs:j<rs.length:=by have:=(aaK.1 h1).1;omega
         have fM:=bz h1 (aaG Bs);have:=nV fM (by unfold hO;have:gT o.dst o'.dst=true:=dm.2 ⟨t,h4,h3⟩;simp[this]);rw[h5]at this;simpa using this.symm),iF,ka]
       ·have Bn:∀(s:St)(v:V)(H:ai),(s.fu o.dst v H).hp=H:=by intro s v H;cases o.dst<;>rfl
        rw[Bn];refine mH ?_ (fun b=>?_ )
        ·rw[dn nM (by rw[←nM]at dr⊢;simpa[nM]using dr)];cases hw:r.1.2 with
          |none=>simp only[aZ];rw[dn nM (by simpa using dr)]
          |some p=>obtain⟨c,y⟩:=p;have hc:c<σ.hp.length+l.length:=dr rs[i] (abK Ho) c (by rw[ka,hw];rfl);have Kq:=dn (K:=fun j=>listed.getD j false) (i:=0) (l:=l) (rs:=rs) nM (by simpa using dr);simp only[aZ];rw[eY (by omega),Kq]
        ·have:=jd (K:=fun j=>listed.getD j false) (b:=b) (σ:=dz) (i0:=0) (k:=i) (l:=l) (by omega) (by omega) tA rG (fun j r' h1 h2 h3 h4 h5=>by
          simp only[aaU]at h5;have qk:j<l.length:=by have:=(aaK.1 h1).1;omega
          have fM:=bz (aaG qk) h1;have:=nV fM (by unfold hO;have:gT (bq rs[i].1.2) (bq r'.1.2)=true:=dm.2 ⟨b,h4,h3⟩;simp[this]);rw[h5]at this;simpa using this.symm)
         rw[this,ka]
      ·intro b hb;rcases N3 b hb with h1|rfl
       ·rcases gY b h1 with h2|⟨j,h2,h3⟩
        ·exact .inl h2
        ·exact .inr ⟨j,by rw[sc];simp[dw,h2],h3⟩
       ·exact .inr ⟨i,by rw[sc];simp[dw],rfl⟩)
     split
     ·rename_i hw;simp only[hw,abv]at sG;exact .inl sG
     ·rename_i hw;simp only[hw]at sG;exact sG
 have ey:∀j,(Array.replicate ops.size false).getD j false=false:=by intro j;rw[aaJ,acv];split<;>rfl
 have iW:aB (fun j=>(Array.replicate ops.size false).getD j false) 0 l rs dz=dz:=by
  have:∀(l:List ad)(rs:List ((V×Wr)×List Nat))(i:Nat)(s:St),aB (fun _=>false) i l rs s=s:=by
   intro l;induction l with
    |nil=>intro rs i s;simp[aB]
    |cons o l ih=>
     intro rs i s;cases rs with
      |nil=>simp[aB]
      |cons r rs=>simp only[aB,aaX];exact ih _ _ _
  rw[bY (K':=fun _=>false) (fun j _=>ey _)];exact this _ _ _ _
 refine key ops.size (Array.replicate ops.size false) g _ sB (by simp) ?_ ?_ (fun j _=>ey j) ?_ (cr.drawn g w _) ?_
 ·simp only[ey,abD];rw[ab5.2 (by simp)];simp
 ·intro j o _ hj;simp only[ey]at hj;cases hj
 ·rw[iW,←oo];exact(hr.pad l.length).drawn _
 ·intro b hb;exact .inl (hr.heap.cR b hb)
end
end Fw
/-
  A quicker run for what is known whole: slots in a tree, operations told apart in small steps, what comes next handed on.
-/
namespace Fw
open Go
inductive T where
 |e
 |n (l:T) (v:V) (r:T)
 deriving Inhabited
noncomputable def fi(t:T):Nat→V:=@T.rec (fun _=>Nat→V) (fun _=>V.any) (fun _ v _ gl gr i=>@Nat.rec (fun _=>V) v (fun j _=>@Nat.rec (fun _=>V) (gl (Nat.shiftRight j 1)) (fun _ _=>gr (Nat.shiftRight j 1)) (Nat.land j 1)) i) t
noncomputable def mO(k:Nat):T→Nat→V→T:=@Nat.rec (fun _=>T→Nat→V→T) (fun t _ _=>t) (fun _ ih t i v=>@T.rec (fun _=>T) (@Nat.rec (fun _=>T) (T.n T.e v T.e) (fun j _=>@Nat.rec (fun _=>T) (T.n (ih T.e (Nat.shiftRight j 1) v) V.any T.e) (fun _ _=>T.n T.e V.any (ih T.e (Nat.shiftRight j 1) v)) (Nat.land j 1)) i) (fun l u r _ _=>@Nat.rec (fun _=>T) (T.n l v r) (fun j _=>@Nat.rec (fun _=>T) (T.n (ih l (Nat.shiftRight j 1) v) u r) (fun _ _=>T.n l u (ih r (Nat.shiftRight j 1) v)) (Nat.land j 1)) i) t) k
theorem mP(i:Nat):fi .e i=.any:=rfl
theorem nA(l r:T)(v:V):fi (.n l v r) 0=v:=rfl
theorem gz(l r:T)(v:V)(j:Nat):fi (.n l v r) (j+1)=if j%2=0 then fi l (j / 2)else fi r (j / 2):=by
 have h:fi (.n l v r) (j+1)=@Nat.rec (fun _=>V) (fi l (Nat.shiftRight j 1)) (fun _ _=>fi r (Nat.shiftRight j 1)) (Nat.land j 1):=rfl;have h1:Nat.shiftRight j 1=j / 2:=by show j>>>1=_;simp[aca]
 have h2:Nat.land j 1=j%2:=acj j;rw[h,h1,h2];rcases abR j with hj|hj<;>rw[hj]<;>rfl
theorem KT(k:Nat)(v:V):mO (k+1) .e 0 v=.n .e v .e:=rfl
theorem xk(k j:Nat)(v:V):mO (k+1) .e (j+1) v=if j%2=0 then .n (mO k .e (j / 2) v) .any .e else .n .e .any (mO k .e (j / 2) v):=by
 have h:mO (k+1) .e (j+1) v=@Nat.rec (fun _=>T) (T.n (mO k T.e (Nat.shiftRight j 1) v) V.any T.e) (fun _ _=>T.n T.e V.any (mO k T.e (Nat.shiftRight j 1) v)) (Nat.land j 1):=rfl;have h1:Nat.shiftRight j 1=j / 2:=by show j>>>1=_;simp[aca]
 have h2:Nat.land j 1=j%2:=acj j;rw[h,h1,h2];rcases abR j with hj|hj<;>rw[hj]<;>rfl
theorem KU(k:Nat)(l r:T)(u v:V):mO (k+1) (.n l u r) 0 v=.n l v r:=rfl
theorem xl(k j:Nat)(l r:T)(u v:V):mO (k+1) (.n l u r) (j+1) v=if j%2=0 then .n (mO k l (j / 2) v) u r else .n l u (mO k r (j / 2) v):=by
 have h:mO (k+1) (.n l u r) (j+1) v=@Nat.rec (fun _=>T) (T.n (mO k l (Nat.shiftRight j 1) v) u r) (fun _ _=>T.n l u (mO k r (Nat.shiftRight j 1) v)) (Nat.land j 1):=rfl;have h1:Nat.shiftRight j 1=j / 2:=by show j>>>1=_;simp[aca]
 have h2:Nat.land j 1=j%2:=acj j;rw[h,h1,h2];rcases abR j with hj|hj<;>rw[hj]<;>rfl
theorem vI:∀(k:Nat)(t:T)(i s:Nat)(v:V),i+1<2^k→fi (mO k t i v) s=if s=i then v else fi t s
 |0,t,i,s,v,h=>by simp at h
 |k+1,t,i,s,v,h=>by
  have ih:=vI k;cases t with
   |e=>
    cases i with
     |zero=>
      rw[KT];cases s with
       |zero=>simp[nA]
       |succ s=>rw[gz];simp[mP]
     |succ j=>
      rw[xk];have hj:j / 2+1<2^k:=by rw[adF]at h;omega
      by_cases h2:j%2=0
      ·rw[aaP h2];cases s with
        |zero=>simp[nA,mP]
        |succ s=>
         rw[gz,ih _ _ _ _ hj];by_cases hs:s%2=0
         ·rw[aaP hs];by_cases e:s / 2=j / 2
          ·have:s=j:=by omega
           simp[this]
          ·have:s≠j:=by omega
           simp[e,this,mP]
         ·rw[aaL hs];have:s≠j:=by rintro rfl;exact hs h2
          simp[this,mP]
      ·rw[aaL h2];cases s with
        |zero=>simp[nA,mP]
        |succ s=>
         rw[gz,ih _ _ _ _ hj];by_cases hs:s%2=0
         ·rw[aaP hs];have:s≠j:=by rintro rfl;exact h2 hs
          simp[this,mP]
         ·rw[aaL hs];by_cases e:s / 2=j / 2
          ·have:s=j:=by omega
           simp[this]
          ·have:s≠j:=by omega
           simp[e,this,mP]
   |n l u r=>
    cases i with
     |zero=>
      rw[KU];cases s with
       |zero=>simp[nA]
       |succ s=>rw[gz,gz];simp
     |succ j=>
      rw[xl];have hj:j / 2+1<2^k:=by rw[adF]at h;omega
      by_cases h2:j%2=0
      ·rw[aaP h2];cases s with
        |zero=>simp[nA]
        |succ s=>
         rw[gz,gz,ih _ _ _ _ hj];by_cases hs:s%2=0
         ·rw[aaP hs,aaP hs];by_cases e:s / 2=j / 2
          ·have:s=j:=by omega
           simp[this]
          ·have:s≠j:=by omega
           simp[e,this]
         ·rw[aaL hs,aaL hs];have:s≠j:=by rintro rfl;exact hs h2
          simp[this]
      ·rw[aaL h2];cases s with
        |zero=>simp[nA]
        |succ s=>
         rw[gz,gz,ih _ _ _ _ hj];by_cases hs:s%2=0
         ·rw[aaP hs,aaP hs];have:s≠j:=by rintro rfl;exact h2 hs
          simp[this]
         ·rw[aaL hs,aaL hs];by_cases e:s / 2=j / 2
          ·have:s=j:=by omega
           simp[this]
          ·have:s≠j:=by omega
           simp[e,this]
def ic:Nat:=4000
noncomputable def EL(t:T)(i:Nat)(v:V):T:=mO 12 t i v
theorem qA(t:T)(i s:Nat)(v:V)(h:i<ic):fi (EL t i v) s=if s=i then v else fi t s:=vI 12 t i s v (by simp[ic]at h⊢;omega)
def jW(tm:List (Nat×V))(t:T):Prop:=∀s,get tm s=fi t s
theorem jW.put{tm:List (Nat×V)}{t:T}(h:jW tm t){i:Nat}{v:V}(hi:i<ic):jW (put tm i v) (EL t i v):=fun s=>by rw[np,qA _ _ _ _ hi,h s]
theorem jW.nil:jW [] .e:=fun _=>rfl
noncomputable def n5:Nat→List V→T→T|_,[],t=>t|n,v::vs,t=>n5 (n+1) vs (EL t n v)
theorem vJ:∀(vs:List V)(n:Nat)(t:T)(s:Nat),n+vs.length≤ic→fi (n5 n vs t) s=if n≤s∧s<n+vs.length then(vs[s - n]? ).getD .any else fi t s
 |[],n,t,s,_=>by simp[n5];intro h1 h2;omega
 |v::vs,n,t,s,h=>by
  simp only[aaS]at h;rw[n5,vJ vs (n+1) _ s (by omega),qA _ _ _ _ (by omega)];simp only[aaS];by_cases h1:s=n
  ·subst h1;simp;intro h2;omega
  ·by_cases h2:n+1≤s∧s<n+1+vs.length
   ·rw[aaP h2,aaP (by omega),show s - n=(s - (n+1))+1 by omega];simp
   ·rw[aaL h2,aaL h1,aaL (by omega)]
theorem jW.args(vs:List V)(h:vs.length≤ic):jW (tk 0 vs) (n5 0 vs .e):=fun s=>by
 rw[yT,vJ _ _ _ _ (by omega)];simp only[Nat.not_lt_zero,abT,acb,true_and,aaU,ach,mP];by_cases hs:s<vs.length
 ·rw[aaP hs]
 ·rw[aaL hs,acO (by omega)];rfl
def aP:Int→Int→Bool| .ofNat a,.ofNat b=>Nat.blt a b| .ofNat _,.negSucc _=>false| .negSucc _,.ofNat _=>true| .negSucc a,.negSucc b=>Nat.blt b a
def a_:Int→Int→Bool| .ofNat a,.ofNat b=>Nat.beq a b| .negSucc a,.negSucc b=>Nat.beq a b|_,_=>false
def bl:Int→Int→Int| .ofNat a,.ofNat b=>.ofNat (Nat.add a b)|a,b=>a+b
def aO(k:IntKind)(n:Int):Int:=match k with
 | .i64=>
  match n with
   | .ofNat m=>bif Nat.blt m 9223372036854775808 then .ofNat m else IntKind.i64.wrap n
   | .negSucc m=>bif Nat.blt m 9223372036854775808 then .negSucc m else IntKind.i64.wrap n
 |k=>k.wrap n
theorem fv(a b:Int):aP a b=decide (a<b):=by cases a<;>cases b<;>simp only[aP,iH]<;>(rw[aa_];simp;try omega)
theorem kB(a b:Int):a_ a b=(a==b):=by cases a<;>cases b<;>simp only[a_,eI]<;>(rw[aa_];simp;try omega)
theorem kh(a b:Int):bl a b=a+b:=by cases a<;>cases b<;>simp[bl]
theorem gA(k:IntKind)(n:Int):aO k n=k.wrap n:=by
 have Ry:∀(b:Bool)(x y z:Int),(b=true→x=z)→y=z→(bif b then x else y)=z:=fun b x y z h1 h2=>by
  cases b with
   |true=>exact h1 rfl
   |false=>exact h2
 unfold aO;split
 ·split
  ·rename_i m;refine Ry _ _ _ _ (fun h=>?_ ) rfl;have hm:m<9223372036854775808:=by rw[iH]at h;exact acK h
   rw[IntKind.wrap_i64];simp only[abI];omega
  ·rename_i m;refine Ry _ _ _ _ (fun h=>?_ ) rfl;have hm:m<9223372036854775808:=by rw[iH]at h;exact acK h
   rw[IntKind.wrap_i64,Int.negSucc_eq];omega
 ·rfl
def HJ(op:BinOp)(k:IntKind)(a b:Int):Option D:=match op with
 | .add=>some (.int k (aO k (bl a b)))
 | .sub=>some (.int k (aO k (a - b)))
 | .eql=>some (.bool (a_ a b))
 | .neq=>some (.bool (!a_ a b))
 | .lss=>some (.bool (aP a b))
 | .leq=>some (.bool (!aP b a))
 | .gtr=>some (.bool (aP b a))
 | .geq=>some (.bool (!aP a b))
 |op=>kO op k a b
theorem HK(op:BinOp)(k:IntKind)(a b:Int):HJ op k a b=kO op k a b:=by
 have hn:∀(x y:Int),(!decide (x<y))=decide (y≤x):=fun x y=>by rw[aa_];simp
 cases op<;>simp only[HJ,kO,gA,kh,kB,fv,hn,bne]<;>rfl
def Rz:IntKind→Nat| .i8=>0| .i16=>1| .i32=>2| .i64=>3| .u8=>4| .u16=>5| .u32=>6| .u64=>7
def KV(k k':IntKind):Bool:=Nat.beq (Rz k) (Rz k')
theorem tK{k k':IntKind}:KV k k'=true↔k=k':=by cases k<;>cases k'<;>decide
def zh(op:BinOp):V→V→Option (V×Wr)
 | .d (.int k a),.d (.int k' b)=>bif KV k k' then(match HJ op k a b with|some x=>some (.d x,none)|none=>none)else none
 | .d (.str a),.d (.str b)=>match GR op a b with|some x=>some (.d x,none)|none=>none
 |_,_=>none
theorem HL(op:BinOp)(x y:V):zh op x y=(ky op x y).map fun v=>(v,none):=by
 unfold zh;split
 ·rename_i k a k' b;simp only[ky,HK];cases h:KV k k' with
   |true=>have:=tK.1 h;rw[aaP this];cases kO op k a b<;>rfl
   |false=>
    have:¬k=k':=fun e=>by rw[tK.2 e]at h;cases h
    rw[aaL this];rfl
 ·rename_i a b;simp only[ky];cases GR op a b<;>rfl
 ·rename_i h1 h2;unfold ky;split
  ·exact absurd rfl (h1 _ _ _ _ rfl)
  ·exact absurd rfl (h2 _ _ rfl)
  ·rfl
def Di(H:ai)(n:Nat)(agg:Bool)(a:V):Option (V×Wr):=match df H n a with
 |some cs=>match pj agg cs with|some v=>some (v,none)|none=>none
 |none=>none
def xn(H:ai)(n:Nat)(a x:V):Option (V×Wr):=match er H n a x with
 |some p=>some (.any,some p)
 |none=>none
def RA(c a b:V):Option (V×Wr):=match c with
 | .d (.bool t)=>some (bif t then a else b,none)
 |_=>none
def WI(ns n:Nat)(x:V):Option (V×Wr):=bif Nat.beq (bU x).length n&&(bU x).all dO then some (.ptr ns n 0,some (ns,.cells (bU x)))else none
def HM(ρ:ba→V)(z:List V)(ps:List (Nat×Nat×ba)):Option (V×Wr):=match d_ ρ z ps with
 |some cs=>some (.agg cs,none)
 |none=>none
def Oc(x:V):Option (V×Wr):=match x with
 | .ptr b h off=>some (.ptr b h off,none)
 | .ct cs=>some (.ct cs,none)
 | .func f a b=>some (.func f a b,none)
 |_=>none
def Vn(H:ai)(neg:Bool)(k:qm)(x y:V):Option (V×Wr):=match GS H k x y with
 |some b=>some (.d (.bool (bif neg then !b else b)),none)
 |none=>none
def KW(off n:Nat)(agg:Bool)(x:V):Option (V×Wr):=match x with
 | .agg cs=>bif Nat.ble (off+n) cs.length then(match pj agg ((cs.drop off).take n)with|some v=>some (v,none)|none=>none)else none
 |_=>none
def Bz(off n:Nat)(x:V):Option (V×Wr):=match x with
 | .ptr b h o=>some (.ptr b h (o+off),none)
 | .ct cs=>some (.ct ((cs.drop off).take n),none)
 |_=>none
def BA(H:ai)(sz:Nat)(x i:V):Option (V×Wr):=match dC i with
 |none=>none
 |some j=>
  match x with
   | .d (.list es)=>
    (match es[j]? with
     |some e=>bif Nat.beq e.length sz then some (.ct e,none)else none
     |none=>none)
   | .sl b h off len uQ=>bif Nat.beq sz uQ&&Nat.blt j len&&ef H b h then some (.ptr b h (off+j*sz),none)else none
   |_=>none
def HN(x i:V):Option (V×Wr):=match dC i with
 |none=>none
 |some j=>
  match x with
   | .d (.str s)=>
    (match s[j]? with
     |some b=>some (.d (.int .u8 b.toNat),none)
     |none=>none)
   |_=>none
def KX(x:V)(i:Nat):Option (V×Wr):=match x with
 | .tuple vs=>(match vs[i]? with|some v=>some (v,none)|none=>none)
 |_=>none
def KY(H:ai)(k:ll)(x:V):Option (V×Wr):=match gm H k x with
 |some n=>some (.d (.int .i64 (Int.ofNat n)),none)
 |none=>none
def KZ(H:ai)(ns sz bytes:Nat)(x y:V):Option (V×Wr):=match cF H sz y with
 |some xs=>cM H ns sz bytes x xs
 |none=>none
def Vo(op:UnOp)(x:V):Option (V×Wr):=match Qc op x with|some v=>some (v,none)|none=>none
def K0(ρ:ba→V)(H:ai)(ns:Nat):kI→Option (V×Wr)| .mv x=>some (ρ x,none)| .pick c a b=>RA (ρ c) (ρ a) (ρ b)| .alloc z=>some (.ptr ns z.length 0,some (ns,.cells z))| .box n x=>WI ns n (ρ x)| .build z ps=>HM ρ z ps| .load n agg a=>Di H n agg (ρ a)| .store n a x=>xn H n (ρ a) (ρ x)| .gi x=>Oc (ρ x)| .bin op x y=>zh op (ρ x) (ρ y)| .eq neg k x y=>Vn H neg k (ρ x) (ρ y)| .un op x=>Vo op (ρ x)| .lq f a b=>some (.func f (bh ρ a) (bh ρ b),none)| .Ny off n agg x=>KW off n agg (ρ x)| .fQ off n x=>Bz off n (ρ x)| .de sz x i=>BA H sz (ρ x) (ρ i)| .gM x i=>HN (ρ x) (ρ i)| .ext x i=>KX (ρ x) i| .len .slice x=>KY H .slice (ρ x)| .len .str x=>KY H .str (ρ x)| .append sz bytes x y=>KZ H ns sz bytes (ρ x) (ρ y)|op=>bw ρ H ns op
theorem xo(ρ:ba→V)(H:ai)(ns:Nat)(op:kI):K0 ρ H ns op=bw ρ H ns op:=by
 unfold K0;split
 ·rfl
 ·rfl
 ·rfl
 ·rfl
 ·rename_i z ps;simp only[HM,bw];cases d_ ρ z ps<;>rfl
 ·rename_i n agg a;simp only[Di,bw];cases df H n (ρ a)with
   |none=>rfl
   |some cs=>simp only;cases pj agg cs<;>rfl
 ·rename_i n a x;simp only[xn,bw];cases er H n (ρ a) (ρ x)<;>rfl
 ·rfl
 ·simp only[HL,bw]
 ·rename_i neg k x y;simp only[Vn,bw];cases GS H k (ρ x) (ρ y)<;>rfl
 ·rename_i op x;simp only[Vo,bw];cases Qc op (ρ x)<;>rfl
 ·rfl
 ·rename_i off n agg x;simp only[KW,bw];cases ρ x with
   |agg cs=>
    simp only;cases Nat.ble (off+n) cs.length with
     |true=>simp only[aaH];cases pj agg ((cs.drop off).take n)<;>rfl
     |false=>rfl
   |_=>rfl
 ·rfl
 ·rfl
 ·rfl
 ·rename_i x i;simp only[KX,bw];cases ρ x with
   |tuple vs=>simp only;cases vs[i]? <;>rfl
   |_=>rfl
 ·rename_i x;simp only[KY,bw];cases gm H .slice (ρ x)<;>rfl
 ·rename_i x;simp only[KY,bw];cases gm H .str (ρ x)<;>rfl
 ·rfl
 ·rfl
end Fw
/-
  The quicker run: operations, drawn regions, code, calls; and that the model does the same.
-/
namespace Fw
open Go
abbrev XR:=V×ai
abbrev KN:=T→ai→Option XR
noncomputable def jC(GL:cj)(t:T)(x:ba):V:=match x with
 | .t n=>fi t n
 | .c v=>v
 | .g n=>(match GL.rd n with|some cs=>.ct cs|none=>.any)
 | .f f=>.func f [] []
theorem nB{GL:cj}{tm:List (Nat×V)}{t:T}(h:jW tm t):jC GL t=aX GL tm:=funext fun x=>by
 cases x with
  |t n=>simp[jC,aX,h _]
  |c v=>rfl
  |g n=>simp only[jC,aX];cases GL.rd n<;>rfl
  |f f=>rfl
noncomputable def EM(n:Nat)(dst:Option Nat)(v:V)(t:T)(H:ai)(k:KN):Option XR:=match dst with
 |none=>k t H
 |some d=>bif Nat.blt d n then k (EL t d v) H else none
noncomputable def qB(gd:Option (Nat×Bool))(t:T)(skip go:Option XR):Option XR:=match gd with
 |none=>go
 |some (d,nL)=>
  match fi t d with
   | .d (.bool b)=>bif b then(bif nL then go else skip)else(bif nL then skip else go)
   | .tuple []=>skip
   |_=>none
noncomputable def Od(own:List Nat)(GL:cj)(call:bd)(dst:Option Nat)(op:kI)(t:T)(H:ai)(k:V→ai→Option XR):Option XR:=match op with
 | .call f args=>(match call f (bh (jC GL t) args) H with|some (v,H')=>k v H'|none=>none)
 | .fm x args=>
  (match jC GL t x with
   | .func f first cap=>(match call f (first++bh (jC GL t) args++cap) H with|some (v,H')=>k v H'|none=>none)
   |_=>none)
 | .mkSlice sz len z ps=>
  (match(bif nW dst own then none else f_ (jC GL t) (.mkSlice sz len z ps))with
   |some v=>k v H
   |none=>(match bw (jC GL t) H H.length (.mkSlice sz len z ps)with|some (v,wr)=>k v (aZ H wr)|none=>none))
 |op=>(match K0 (jC GL t) H H.length op with|some (v,wr)=>k v (aZ H wr)|none=>none)
noncomputable def mQ(own:List Nat)(GL:cj)(call:bd)(n:Nat)(o:ad)(t:T)(H:ai)(k:KN):Option XR:=match o with|⟨dst,op,gd,_⟩=>qB gd t (EM n dst (.tuple []) t H k) (Od own GL call dst op t H (fun v H'=>EM n dst v t H' k))
noncomputable def lX(own:List Nat)(GL:cj)(call:bd)(n:Nat)(l:List ad):T→ai→KN→Option XR:=@List.rec ad (fun _=>T→ai→KN→Option XR) (fun t H k=>k t H) (fun o _ ih t H k=>mQ own GL call n o t H (fun t' H'=>ih t' H' k)) l
section
variable {P:Program}{GL:cj}
theorem nC{n:Nat}(hn:n≤ic){dst:Option Nat}{v:V}{t:T}{H:ai}{k:KN}{x:XR}{tm:List (Nat×V)}(hs:jW tm t)(h:EM n dst v t H k=some x):∃a7 t',jW a7 t'∧k t' H=some x∧∀H0,St.put ⟨n,tm,H0⟩ dst v H=some ⟨n,a7,H⟩:=by
 unfold EM at h;split at h
 ·exact⟨tm,t,hs,h,fun _=>rfl⟩
 ·rename_i d;cases hb:Nat.blt d n with
   |false=>rw[hb]at h;cases h
   |true=>
    rw[hb]at h;have hd:d<n:=by rwa[aaT]at hb
    exact⟨_,_,hs.put (by omega),h,fun H0=>by simp[St.put,hb]⟩
theorem qC{gd:Option (Nat×Bool)}{t:T}{tm:List (Nat×V)}{skip go:Option XR}{x:XR}(hs:jW tm t)(h:qB gd t skip go=some x):(ar gd tm=some true∧go=some x)∨(ar gd tm=some false∧skip=some x):=by
 unfold qB at h;unfold ar;split at h
 ·exact .inl ⟨rfl,h⟩
 ·rename_i d nL;simp only[hs d];split at h
  ·rename_i b hb;rw[hb];cases b<;>cases nL<;>simp at h⊢ <;>exact h
  ·rename_i hb;rw[hb];exact .inr ⟨rfl,h⟩
  ·cases h
theorem HO{own:List Nat}{call:bd}(hc:bQ P GL call){n:Nat}{dst:Option Nat}{op:kI}{gd:Option (Nat×Bool)}{af:List Nat}{t:T}{H:ai}{k:V→ai→Option XR}{x:XR}{tm:List (Nat×V)}(hs:jW tm t)(hg:ar gd tm=some true)(h:Od own GL call dst op t H k=some x):∃v H',k v H'=some x∧∀l aS Q,St.put ⟨n,tm,H⟩ dst v H'=some aS→WO P GL l aS Q→WO P GL (⟨dst,op,gd,af⟩::l) ⟨n,tm,H⟩ Q:=by
 unfold Od at h;rw[nB hs]at h;split at h
 ·rename_i f args;split at h
  ·rename_i v H' cD;refine⟨v,H',h,fun l aS Q hp hw=>WO.call rfl hg ((hc _ _ _ _ _ cD).mono ?_ )⟩;rintro r h2 ⟨rfl,rfl⟩;exact⟨aS,hp,hw⟩
  ·cases h
 ·rename_i y args;split at h
  ·rename_i f first cap hx
   split at h
   ·rename_i v H' cD;refine⟨v,H',h,fun l aS Q hp hw=>WO.fm rfl hx hg ((hc _ _ _ _ _ cD).mono ?_ )⟩;rintro r h2 ⟨rfl,rfl⟩;exact⟨aS,hp,hw⟩
   ·cases h
  ·cases h
 ·rename_i sz len z ps;split at h
  ·rename_i v hv;refine⟨v,H,h,fun l aS Q hp hw=>WO.f_ hg ?_ hp hw⟩;cases hi:nW dst own with
    |true=>rw[hi]at hv;cases hv
    |false=>rw[hi]at hv;exact hv
  ·split at h
   ·rename_i v wr he;exact⟨v,_,h,fun l aS Q hp hw=>WO.bw hg he hp hw⟩
   ·cases h
 ·split at h
  ·rename_i v wr he;rw[xo]at he;exact⟨v,_,h,fun l aS Q hp hw=>WO.bw hg he hp hw⟩
  ·cases h
theorem kY{own:List Nat}{call:bd}(hc:bQ P GL call){n:Nat}(hn:n≤ic):∀{l:List ad}{t:T}{H:ai}{k:KN}{x:XR}{tm:List (Nat×V)},jW tm t→lX own GL call n l t H k=some x→∃a7 t' H',jW a7 t'∧WO P GL l ⟨n,tm,H⟩ (fun s=>s=⟨n,a7,H'⟩)∧k t' H'=some x
 |[],t,H,k,x,tm,hs,h=>⟨tm,t,H,hs,WO.nil rfl,h⟩
 |o::l,t,H,k,x,tm,hs,h=>by
  have h:mQ own GL call n o t H (fun t' H'=>lX own GL call n l t' H' k)=some x:=h;obtain⟨dst,op,gd,af⟩:=o;simp only[mQ]at h;rcases qC hs h with⟨hg,h⟩|⟨hg,h⟩
  ·obtain⟨v,H',h1,h2⟩:=HO (n:=n) (af:=af) hc hs hg h;obtain⟨a7,t',iJ,h3,h4⟩:=nC hn hs h1;obtain⟨eU,t2,H2,BB,hw,hk⟩:=kY hc hn iJ h3;exact⟨eU,t2,H2,BB,h2 _ _ _ (h4 H) hw,hk⟩
  ·obtain⟨a7,t',iJ,h3,h4⟩:=nC hn hs h;obtain⟨eU,t2,H2,BB,hw,hk⟩:=kY hc hn iJ h3;exact⟨eU,t2,H2,BB,WO.skip hg (h4 H) hw,hk⟩
end
def tL(own:List Nat)(GL:cj)(aA:aU)(base:Nat):Nat→List ad→St→Option (List (((V×Wr)×List Nat)×Option V))
 |_,[],_=>some []
 |i,o::l,σ=>
  let cv:Option V:=match bA o.op with
   |some (f,args)=>aA f (bh (aX GL σ.tm) args)
   |none=>bif nW o.dst own then none else f_ (aX GL σ.tm) o.op
  match eX GL σ.tm σ.hp (base+i) o cv with
   |none=>none
   |some r=>
    match tL own GL aA base (i+1) l (σ.fu o.dst r.1 (aZ σ.hp r.2))with
     |none=>none
     |some rs=>some (((r,lC (aX GL σ.tm) o.op),cv)::rs)
def pA(own:List Nat)(GL:cj)(aA:aU)(l:List ad)(σ:St):Option St:=match tL own GL aA σ.hp.length 0 l (ca σ l.length)with
 |none=>none
 |some qs=>
  let rs:=qs.map (·.1);bif c6 l rs&&eZ σ.n l&&dT (σ.hp.length+l.length) rs then some (aB (fun _=>true) 0 l rs (ca σ l.length))
  else none
section
variable {P:Program}{GL:cj}
theorem tM{own:List Nat}{aA:aU}{base:Nat}:∀{l:List ad}{i:Nat}{σ:St}{qs:List (((V×Wr)×List Nat)×Option V)},tL own GL aA base i l σ=some qs→∀qc:Nat→Option V,(∀j q,qs[j]? =some q→qc (i+j)=q.2)→mg GL base qc i l σ=some (qs.map (·.1))∧qs.length=l.length∧∀k o q,l[k]? =some o→qs[k]? =some q→∀f args,bA o.op=some (f,args)→q.2=aA f (bh (aX GL (aB (fun j=>decide (j<i+k)) i l (qs.map (·.1)) σ).tm) args)∧(ar o.guard (aB (fun j=>decide (j<i+k)) i l (qs.map (·.1)) σ).tm=some true→q.2=some q.1.1.1)
 |[],i,σ,qs,h,qc,hq=>by simp only[tL,aaC]at h;subst h;exact⟨rfl,rfl,by simp⟩
 |o::l,i,σ,qs,h,qc,hq=>by
  simp only[tL]at h;split at h
  ·cases h
  ·rename_i r hr;split at h
   ·cases h
   ·rename_i rs Kg;simp only[aaC]at h;subst h;have h0:=hq 0 _ rfl;simp only[abN]at h0;obtain⟨k1,k2,k3⟩:=tM Kg qc (fun j q hj=>by have:=hq (j+1) q (by simpa using hj);rwa[show i+(j+1)=i+1+j by omega]at this);have iW:∀(l:List ad)(rs:List ((V×Wr)×List Nat))(k:Nat)(σ:St),i≤k→aB (fun j=>decide (j<i)) k l rs σ=σ:=by
     intro l rs k σ hk;rw[bY (K':=fun _=>false) (fun j _=>by simp;omega)];have:∀(l:List ad)(rs:List ((V×Wr)×List Nat))(i:Nat)(s:St),aB (fun _=>false) i l rs s=s:=by
      intro l;induction l with
       |nil=>intro rs i s;simp[aB]
       |cons o l ih=>
        intro rs i s;cases rs with
         |nil=>simp[aB]
         |cons r rs=>simp only[aB,aaX];exact ih _ _ _
     exact this _ _ _ _
    refine⟨?_,by simp[k2],fun k o' q iV yy f args iE=>?_ ⟩
    ·simp only[mg,h0,hr,k1,aaY]
    ·cases k with
      |zero=>
       simp at iV yy;subst iV;subst yy;simp only[abN];rw[iW _ _ _ _ (aaQ _)];refine⟨by simp only[iE],fun hg=>?_ ⟩;simp only[iE]at hr⊢;unfold eX at hr;rw[hg]at hr;simp only[iE]at hr;cases hp:aA f (bh (aX GL σ.tm) args)with
        |none=>rw[hp]at hr;simp at hr
        |some v=>rw[hp]at hr;simp at hr;rw[←hr]
      |succ k=>
       simp at iV yy;have e:i+(k+1)=i+1+k:=by omega
       have:=k3 k o' q iV yy f args iE;simp only[aaY,aB,e,show decide (i<i+1+k)=true by simp;omega,aaH];exact this
theorem zi{own:List Nat}{aA:aU}(hm:P.follows .mixedOrders=true)(hp:bu P GL aA){l:List ad}{σ aS:St}{Q:Ex→St→Prop}(h:pA own GL aA l σ=some aS)(hq:Q .normal aS):WC P GL (.draw l) σ Q:=by
 unfold pA at h;split at h
 ·cases h
 ·rename_i qs G2;simp only at h;cases hb:(c6 l (qs.map (·.1))&&eZ σ.n l&&dT (σ.hp.length+l.length) (qs.map (·.1)))with
   |false=>rw[hb]at h;cases h
   |true=>rw[hb]at h;simp only[aaH,aaC]at h;subst h;simp only[aaD]at hb;obtain⟨k1,k2,k3⟩:=tM G2 (fun i=>(qs[i]? ).bind (·.2)) (fun j q hj=>by simp[hj]);refine WC.draw hm k1 hb.1.1 hb.1.2 hb.2 (fun i o r ho hr f args iE hg=>?_ ) hq;simp only[abf,aaE]at hr;obtain⟨q,KO,rfl⟩:=hr;obtain⟨e1,e2⟩:=k3 i o q ho KO f args iE;simp only[aaU]at e1 e2;have e3:=e2 hg;rw[e1]at e3;exact(hp _ _ _ e3).rF
end
def tN(n k:Nat)(pre:List ad)(o:ad):Bool:=o.after.all (fun e=>Nat.blt e (n+k))&&(match k with
 |0=>(List.range n).all (fun j=>o.after.any fun e=>Nat.blt e n&&(Nat.beq j e||Nat.testBit ((cT 0 [] pre).getD e 0) j))
 |k+1=>o.after.any fun e=>Nat.beq e (n+k))
def vK(pre:List ad)(n:Nat):Nat→List ad→Bool|_,[]=>true|k,o::l=>tN n k pre o&&vK pre n (k+1) l
def Dj(l:List ad):Nat→Nat→Option Nat|0,_=>none|f+1,m=>bif vK (l.take m) m 0 (l.drop m)then some m else Dj l f (m+1)
theorem nD{pre:List ad}{n:Nat}:∀{k:Nat}{l:List ad},vK pre n k l=true→∀(i:Nat)(o:ad),l[i]? =some o→tN n (k+i) pre o=true
 |k,[],_,i,o,ho=>by simp at ho
 |k,x::l,h,i,o,ho=>by
  simp only[vK,aaD]at h;cases i with
   |zero=>simp at ho;subst ho;exact h.1
   |succ i=>simp at ho;have:=nD h.2 i o ho;rwa[show k+1+i=k+(i+1) by omega]at this
theorem zj{l:List ad}:∀{f m r:Nat},Dj l f m=some r→vK (l.take r) r 0 (l.drop r)=true∧r<m+f
 |0,m,r,h=>by cases h
 |f+1,m,r,h=>by
  simp only[Dj]at h;cases hb:vK (l.take m) m 0 (l.drop m)with
   |true=>rw[hb]at h;simp only[aaH,aaC]at h;subst h;exact⟨hb,by omega⟩
   |false=>rw[hb]at h;have:=zj h;exact⟨this.1,by omega⟩
section
variable {P:Program}{GL:cj}
theorem HP{own:List Nat}{call:bd}(hc:bQ P GL call){n:Nat}{dst:Option Nat}{op:kI}{gd:Option (Nat×Bool)}{af:List Nat}{t:T}{H:ai}{k:V→ai→Option XR}{x:XR}{tm:List (Nat×V)}(hs:jW tm t)(hg:ar gd tm=some true)(h:Od own GL call dst op t H k=some x):∃v H',k v H'=some x∧∀aS X,St.put ⟨n,tm,H⟩ dst v H'=some aS→X aS→dt P GL ⟨dst,op,gd,af⟩ ⟨n,tm,H⟩ X:=by
 unfold Od at h;rw[nB hs]at h;split at h
 ·rename_i f args;split at h
  ·rename_i v H' cD;refine⟨v,H',h,fun aS X hp hw=>dt.call rfl hg ((hc _ _ _ _ _ cD).mono ?_ )⟩;rintro r h2 ⟨rfl,rfl⟩;exact⟨aS,hp,hw⟩
  ·cases h
 ·rename_i y args;split at h
  ·rename_i f first cap hx
   split at h
   ·rename_i v H' cD;refine⟨v,H',h,fun aS X hp hw=>dt.fm rfl hx hg ((hc _ _ _ _ _ cD).mono ?_ )⟩;rintro r h2 ⟨rfl,rfl⟩;exact⟨aS,hp,hw⟩
   ·cases h
  ·cases h
 ·rename_i sz len z ps;split at h
  ·rename_i v hv;refine⟨v,H,h,fun aS X hp hw=>dt.f_ hg ?_ hp hw⟩;cases hi:nW dst own with
    |true=>rw[hi]at hv;cases hv
    |false=>rw[hi]at hv;exact hv
  ·split at h
   ·rename_i v wr he;exact⟨v,_,h,fun aS X hp hw=>dt.bw hg he hp hw⟩
   ·cases h
 ·split at h
  ·rename_i v wr he;rw[xo]at he;exact⟨v,_,h,fun aS X hp hw=>dt.bw hg he hp hw⟩
  ·cases h
theorem qD{own:List Nat}{call:bd}(hc:bQ P GL call){n:Nat}(hn:n≤ic):∀{l:List ad}{t:T}{H:ai}{k:KN}{x:XR}{tm:List (Nat×V)},jW tm t→lX own GL call n l t H k=some x→∃a7 t' H',jW a7 t'∧tJ P GL l ⟨n,tm,H⟩ (fun s=>s=⟨n,a7,H'⟩)∧k t' H'=some x
 |[],t,H,k,x,tm,hs,h=>⟨tm,t,H,hs,rfl,h⟩
 |o::l,t,H,k,x,tm,hs,h=>by
  have h:mQ own GL call n o t H (fun t' H'=>lX own GL call n l t' H' k)=some x:=h;obtain⟨dst,op,gd,af⟩:=o;simp only[mQ]at h;rcases qC hs h with⟨hg,h⟩|⟨hg,h⟩
  ·obtain⟨v,H',h1,h2⟩:=HP (n:=n) (af:=af) hc hs hg h;obtain⟨a7,t',iJ,h3,h4⟩:=nC hn hs h1;obtain⟨eU,t2,H2,BB,hw,hk⟩:=qD hc hn iJ h3;exact⟨eU,t2,H2,BB,h2 _ _ (h4 H) hw,hk⟩
  ·obtain⟨a7,t',iJ,h3,h4⟩:=nC hn hs h;obtain⟨eU,t2,H2,BB,hw,hk⟩:=qD hc hn iJ h3;exact⟨eU,t2,H2,BB,dt.skip hg (h4 H) hw,hk⟩
end
noncomputable def xp(gd:Option (Nat×Bool))(t:T):Option Bool:=match gd with
 |none=>some true
 |some (d,nL)=>
  match fi t d with
   | .d (.bool b)=>some (b==nL)
   | .tuple []=>some false
   |_=>none
theorem BC{gd:Option (Nat×Bool)}{t:T}{tm:List (Nat×V)}(hs:jW tm t):xp gd t=ar gd tm:=by
 unfold xp ar;cases gd with
  |none=>rfl
  |some p=>simp only[hs p.1];rfl
noncomputable def HQ(GL:cj)(t:T)(H:ai)(ns:Nat)(o:ad)(cv:Option V):Option (V×Wr):=match xp o.guard t with
 |none=>none
 |some false=>some (.tuple [],none)
 |some true=>
  match bA o.op with
   |some _=>cv.map fun v=>(v,none)
   |none=>
    match cv with
     |some _=>(f_ (jC GL t) o.op).map fun v=>(v,none)
     |none=>K0 (jC GL t) H ns o.op
theorem HR{GL:cj}{t:T}{tm:List (Nat×V)}(hs:jW tm t){H:ai}{ns:Nat}{o:ad}{cv:Option V}:HQ GL t H ns o cv=eX GL tm H ns o cv:=by unfold HQ eX;simp only[BC hs,nB hs,xo];rfl
noncomputable def MS(dst:Option Nat)(v:V)(t:T):T:=match dst with
 |none=>t
 |some d=>EL t d v
noncomputable def zk(own:List Nat)(GL:cj)(aA:aU)(base:Nat):Nat→List ad→T→ai→Option (List (((V×Wr)×List Nat)×Option V)×T×ai)
 |_,[],t,H=>some ([],t,H)
 |i,o::l,t,H=>
  let cv:Option V:=match bA o.op with
   |some (f,args)=>aA f (bh (jC GL t) args)
   |none=>bif nW o.dst own then none else f_ (jC GL t) o.op
  match HQ GL t H (base+i) o cv with
   |none=>none
   |some r=>
    match zk own GL aA base (i+1) l (MS o.dst r.1 t) (aZ H r.2)with
     |none=>none
     |some (rs,t',H')=>some (((r,lC (jC GL t) o.op),cv)::rs,t',H')
theorem tO{own:List Nat}{GL:cj}{aA:aU}{base n:Nat}(hn:n≤ic):∀{l:List ad}{i:Nat}{t:T}{H:ai}{tm:List (Nat×V)}{qs:List (((V×Wr)×List Nat)×Option V)}{t':T}{H':ai},jW tm t→eZ n l=true→zk own GL aA base i l t H=some (qs,t',H')→tL own GL aA base i l ⟨n,tm,H⟩=some qs∧∃a7,jW a7 t'∧aB (fun _=>true) i l (qs.map (·.1)) ⟨n,tm,H⟩=⟨n,a7,H'⟩
 |[],i,t,H,tm,qs,t',H',hs,hd,h=>by simp only[zk,aaC,aaF]at h;obtain⟨rfl,rfl,rfl⟩:=h;exact⟨rfl,tm,hs,rfl⟩
 |o::l,i,t,H,tm,qs,t',H',hs,hd,h=>by
  simp only[zk]at h;rw[HR hs,nB hs]at h;simp only[eZ,aa4,aaD]at hd;split at h
  ·cases h
  ·rename_i r hr;split at h
   ·cases h
   ·rename_i rs t2 H2 Kg;simp only[aaC,aaF]at h;obtain⟨rfl,rfl,rfl⟩:=h;have bn:∃Vp,jW Vp (MS o.dst r.1 t)∧St.fu ⟨n,tm,H⟩ o.dst r.1 (aZ H r.2)=⟨n,Vp,aZ H r.2⟩:=by
     cases dY:o.dst with
      |none=>exact⟨tm,hs,rfl⟩
      |some d=>
       have h1:=hd.1;rw[dY]at h1;have bS:d<n:=by simpa[aaT]using h1
       exact⟨_,hs.put (by omega),rfl⟩
    obtain⟨Vp,WJ,Oe⟩:=bn;obtain⟨k1,eU,BB,k2⟩:=tO hn (n:=n) WJ (by simpa[eZ]using hd.2) Kg;refine⟨?_,eU,BB,?_⟩
    ·have vz:=hr;simp only[tL];have e:eX GL tm H (base+i) o (match bA o.op with|some (f,args)=>aA f (bh (aX GL tm) args)|none=>bif nW o.dst own then none else f_ (aX GL tm) o.op)=some r:=hr;cases hic:bA o.op with
      |none=>rw[hic]at e;simp only[e,Oe,k1]
      |some p=>rw[hic]at e;simp only[e,Oe,k1]
    ·simp only[aaY,aB,aaH,Oe,k2]
noncomputable def zl(own:List Nat)(GL:cj)(aA:aU)(n:Nat)(l:List ad)(t:T)(H:ai):Option (T×ai):=bif oh l&&eZ n l then
 match zk own GL aA H.length 0 l t (H++List.replicate l.length none)with
  |none=>none
  |some (qs,t',H')=>bif (tq (qs.map (·.1))||KG 0 [] (Bm (qs.map (·.1))) (cT 0 [] l))&&dT (H.length+l.length) (qs.map (·.1))then some (t',H')else none else none
theorem HS{own:List Nat}{GL:cj}{aA:aU}{n:Nat}(hn:n≤ic){l:List ad}{t:T}{H:ai}{tm:List (Nat×V)}{t':T}{H':ai}(hs:jW tm t)(h:zl own GL aA n l t H=some (t',H')):∃a7,jW a7 t'∧pA own GL aA l ⟨n,tm,H⟩=some ⟨n,a7,H'⟩:=by
 unfold zl at h;cases h1:(oh l&&eZ n l)with
  |false=>rw[h1]at h;cases h
  |true=>
   rw[h1]at h;simp only[aaH]at h;simp only[aaD]at h1;split at h
   ·cases h
   ·rename_i qs t2 H2 hq;cases h2:((tq (qs.map (·.1))||KG 0 [] (Bm (qs.map (·.1))) (cT 0 [] l))&&dT (H.length+l.length) (qs.map (·.1)))with
     |false=>rw[h2]at h;cases h
     |true=>
      rw[h2]at h;simp only[aaH,aaC,aaF]at h;obtain⟨rfl,rfl⟩:=h;simp only[aaD]at h2;obtain⟨k1,a7,iJ,k2⟩:=tO hn hs h1.2 hq;refine⟨a7,iJ,?_⟩;unfold pA;have e1:ca ⟨n,tm,H⟩ l.length=⟨n,tm,H++List.replicate l.length none⟩:=rfl;simp only[e1,k1];have:(c6 l (qs.map (·.1))&&eZ n l&&dT (H.length+l.length) (qs.map (·.1)))=true:=by simp only[c6,aaD];exact⟨⟨⟨h1.1,h2.1⟩,h1.2⟩,h2.2⟩
      rw[this,aaH,k2]
noncomputable def HT(own:List Nat)(GL:cj)(call:bd)(aA:aU)(n:Nat)(l:List ad)(t:T)(H:ai)(k:KN):Option XR:=match Dj l l.length 0 with
 |none=>none
 |some m=>
  match zl own GL aA n (l.take m) t H with
   |none=>none
   |some (t1,H1)=>lX own GL call n (l.drop m) t1 H1 k
theorem HU{P:Program}{own:List Nat}{GL:cj}{call:bd}{aA:aU}(hm:P.follows .mixedOrders=true)(hc:bQ P GL call)(hp:bu P GL aA){n:Nat}(hn:n≤ic){l:List ad}{t:T}{H:ai}{k:KN}{x:XR}{tm:List (Nat×V)}(hs:jW tm t)(h:HT own GL call aA n l t H k=some x):∃a7 t' H',jW a7 t'∧WC P GL (.draw l) ⟨n,tm,H⟩ (fun e s=>e=.normal∧s=⟨n,a7,H'⟩)∧k t' H'=some x:=by
 unfold HT at h;split at h
 ·cases h
 ·rename_i m hfm;obtain⟨Ql,MM⟩:=zj hfm;split at h
  ·cases h
  ·rename_i t1 H1 hd;unfold zl at hd;cases h1:(oh (l.take m)&&eZ n (l.take m))with
    |false=>rw[h1]at hd;cases hd
    |true=>
     rw[h1]at hd;simp only[aaH]at hd;simp only[aaD]at h1;split at hd
     ·cases hd
     ·rename_i qs t2 H2 hq;cases h2:((tq (qs.map (·.1))||KG 0 [] (Bm (qs.map (·.1))) (cT 0 [] (l.take m)))&&dT (H.length+(l.take m).length) (qs.map (·.1)))with
       |false=>rw[h2]at hd;cases hd
       |true=>
        rw[h2]at hd;simp only[aaH,aaC,aaF]at hd;obtain⟨rfl,rfl⟩:=hd;simp only[aaD]at h2;obtain⟨k1,Vp,WJ,k2⟩:=tO hn hs h1.2 hq;obtain⟨a7,t',H',iJ,WK,hk⟩:=qD hc hn WJ h;refine⟨a7,t',H',iJ,?_,hk⟩;have WL:(l.take m).length=m:=by rw[abw];omega
        have e1:ca ⟨n,tm,H⟩ (l.take m).length=⟨n,tm,H++List.replicate (l.take m).length none⟩:=rfl;obtain⟨q1,q2,q3⟩:=tM k1 (fun i=>(qs[i]? ).bind (·.2)) (fun j q hj=>by simp[hj]);have dZ:c6 (l.take m) (qs.map (·.1))=true:=by simp only[c6,aaD];exact⟨h1.1,h2.1⟩
        have key:WC P GL (.draw (l.take m++l.drop m)) ⟨n,tm,H⟩ (fun e s=>e=.normal∧s=⟨n,a7,H'⟩):=by
         refine WC.KS (rs:=qs.map (·.1)) (qc:=fun i=>(qs[i]? ).bind (·.2)) hm (by rw[e1];exact q1) dZ h1.2 h2.2 (fun i o r ho hr f args iE hg=>?_ ) ?_ (fun k ot hk e he=>?_ ) (fun ot hk j hj=>?_ ) (fun k ot hk=>?_ ) ?_
         ·simp only[abf,aaE]at hr;obtain⟨q,KO,rfl⟩:=hr;obtain⟨f1,f2⟩:=q3 i o q ho KO f args iE;simp only[aaU]at f1 f2;have f3:=f2 hg;rw[f1]at f3;exact(hp _ _ _ f3).rF
         ·intro he;have:(l.drop m).length=0:=by rw[he];rfl
          rw[adi]at this;omega
         ·have hb:=nD Ql k ot hk;simp only[tN,aaD,aaU,aaR]at hb;have:=hb.1 e he;rw[WL];simpa[aaT]using this
         ·have hb:=nD Ql 0 ot hk;simp only[tN,aaD,aaU]at hb;rw[WL]at hj⊢;have h3:=(aaR.1 hb.2) j (abb.2 hj);rw[acR]at h3;obtain⟨e,he,h4⟩:=h3;simp only[aaD,abq]at h4;refine⟨e,he,by simpa[aaT]using h4.1,?_ ⟩;rcases h4.2 with h5|h5
          ·exact .inl (aaI h5)
          ·exact .inr h5
         ·have hb:=nD Ql (k+1) ot hk;simp only[tN,aaD,aaU]at hb;have h3:=hb.2;rw[acR]at h3;obtain⟨e,he,h4⟩:=h3;have h5:e=m+k:=by have:=aaI h4;rw[this];show m+(0+k)=m+k;rw[aaU]
          rw[WL,←h5];exact he
         ·rw[e1,k2];have mono:∀(l:List ad)(s:St)(Q Q':St→Prop),(∀s,Q s→Q' s)→tJ P GL l s Q→tJ P GL l s Q':=by
           intro l;induction l with
            |nil=>intro s Q Q' hq h0;exact hq _ h0
            |cons o l ih=>intro s Q Q' hq h0 o' ops a1 a2 a3 g w a hr K Q2 hK;exact h0 o' ops a1 a2 a3 g w a hr K Q2 (fun g' w' a' aS b1 b2 b3=>hK g' w' a' aS b1 b2 (ih _ _ _ hq b3))
          exact mono _ _ _ _ (fun s hs=>⟨rfl,hs⟩) WK
        rwa[acm]at key
noncomputable def qE(own:List Nat)(GL:cj)(call:bd)(aA:aU)(n:Nat)(l:List ad)(t:T)(H:ai)(k:KN):Option XR:=match zl own GL aA n l t H with
 |some (t',H')=>k t' H'
 |none=>HT own GL call aA n l t H k
theorem vM{own:List Nat}{P:Program}{GL:cj}{call:bd}{aA:aU}(hm:P.follows .mixedOrders=true)(hc:bQ P GL call)(hp:bu P GL aA){n:Nat}(hn:n≤ic){l:List ad}{t:T}{H:ai}{k:KN}{x:XR}{tm:List (Nat×V)}(hs:jW tm t)(h:qE own GL call aA n l t H k=some x):∃a7 t' H',jW a7 t'∧WC P GL (.draw l) ⟨n,tm,H⟩ (fun e s=>e=.normal∧s=⟨n,a7,H'⟩)∧k t' H'=some x:=by
 unfold qE at h;split at h
 ·rename_i t' H' hd;obtain⟨a7,iJ,hr⟩:=HS hn hs hd;exact⟨a7,t',H',iJ,zi hm hp hr ⟨rfl,rfl⟩,h⟩
 ·exact HU hm hc hp hn hs h
noncomputable def rK(body:T→ai→KN→(Nat→KN)→KN→Option XR)(m:Nat):T→ai→(Nat→KN)→KN→Option XR:=@Nat.rec (fun _=>T→ai→(Nat→KN)→KN→Option XR) (fun _ _ _ _=>none) (fun _ ih t H ke kr=>body t H (fun t' H'=>ih t' H' ke kr) ke kr) m
noncomputable def ay(v:V)(a b:Option XR):Option XR:=match v with
 | .d (.bool t)=>bif t then a else b
 |_=>none
noncomputable def fF(own:List Nat)(GL:cj)(call:bd)(aA:aU)(m n:Nat)(c:IR):T→ai→KN→(Nat→KN)→KN→Option XR:=@IR.rec (fun _=>T→ai→KN→(Nat→KN)→KN→Option XR) (fun t H kn _ _=>kn t H) (fun l t H kn _ _=>lX own GL call n l t H kn) (fun l t H kn _ _=>qE own GL call aA n l t H kn) (fun _ _ ia ib t H kn ke kr=>ia t H (fun t' H'=>ib t' H' kn ke kr) ke kr) (fun c _ _ ia ib t H kn ke kr=>ay (jC GL t c) (ia t H kn ke kr) (ib t H kn ke kr)) (fun id _ ib t H kn ke kr=>ib t H kn (fun i t' H'=>bif Nat.beq i id then kn t' H' else ke i t' H') kr) (fun _ ib t H _ ke kr=>rK ib m t H ke kr) (fun id t H _ ke _=>ke id t H) (fun t H _ _ kr=>kr t H) c
def RC(kn:KN)(ke:Nat→KN)(kr:KN)(e:Ex)(t:T)(H:ai):Option XR:=match e with
 | .normal=>kn t H
 | .exit i=>ke i t H
 | .ret=>kr t H
def tP(P:Program)(GL:cj)(b:IR)(e:Ex)(s':St):Nat→St→Prop
 |0,_=>False
 |k+1,s=>
  WC P GL b s (fun e1 s1=>
   match e1 with
    | .normal=>tP P GL b e s' k s1
    |e1=>e1=e∧s1=s')
theorem tP.wc{P:Program}{GL:cj}{b:IR}{e:Ex}{s':St}{k:Nat}{s:St}(h:tP P GL b e s' k s):WC P GL (.loop b) s (fun e1 s1=>e1=e∧s1=s'):=by
 refine WC.loop (fun m s=>tP P GL b e s' m s) (fun m s hm=>?_ ) h;cases m with
  |zero=>exact hm.elim
  |succ m=>
   refine WC.mono hm ?_;intro e1 s1 h1;cases e1 with
    |normal=>exact⟨m,by omega,h1⟩
    |exit i=>exact h1
    |ret=>exact h1
theorem iK{P:Program}{GL:cj}{own:List Nat}{call:bd}{aA:aU}(hm:P.follows .mixedOrders=true)(hc:bQ P GL call)(hp:bu P GL aA){m n:Nat}(hn:n≤ic):∀{c:IR}{t:T}{H:ai}{kn:KN}{ke:Nat→KN}{kr:KN}{x:XR}{tm:List (Nat×V)},jW tm t→fF own GL call aA m n c t H kn ke kr=some x→∃e a7 t' H',jW a7 t'∧WC P GL c ⟨n,tm,H⟩ (fun e' s=>e'=e∧s=⟨n,a7,H'⟩)∧RC kn ke kr e t' H'=some x
 | .skip,t,H,kn,ke,kr,x,tm,hs,h=>⟨.normal,tm,t,H,hs,WC.skip ⟨rfl,rfl⟩,h⟩
 | .region l,t,H,kn,ke,kr,x,tm,hs,h=>by obtain⟨a7,t',H',iJ,hw,hk⟩:=kY hc hn hs (show lX own GL call n l t H kn=some x from h);refine⟨.normal,a7,t',H',iJ,WC.region ?_,hk⟩;intro ops k h1 g w a hr;exact cW (fun e a w hp=>cA.mono (fun e s hq=>by cases e with|normal=>exact⟨rfl,hq⟩|exit i=>exact hq.elim|ret=>exact hq.elim) e a w hp) _ _ _ (hw ops k h1 g w a hr)
 | .draw l,t,H,kn,ke,kr,x,tm,hs,h=>by obtain⟨a7,t',H',iJ,hw,hk⟩:=vM hm hc hp hn hs (show qE own GL call aA n l t H kn=some x from h);exact⟨.normal,a7,t',H',iJ,hw,hk⟩
 | .seq a b,t,H,kn,ke,kr,x,tm,hs,h=>by
  obtain⟨e,a7,t',H',iJ,hw,hk⟩:=iK hm hc hp hn hs (show fF own GL call aA m n a t H (fun t' H'=>fF own GL call aA m n b t' H' kn ke kr) ke kr=some x from h);cases e with
   |normal=>obtain⟨e2,eU,t2,H2,BB,Dk,uS⟩:=iK hm hc hp hn iJ (show fF own GL call aA m n b t' H' kn ke kr=some x from hk);refine⟨e2,eU,t2,H2,BB,WC.seq (hw.mono ?_ ),uS⟩;rintro e' s' ⟨rfl,rfl⟩;exact Dk
   |exit i=>refine⟨.exit i,a7,t',H',iJ,WC.seq (hw.mono ?_ ),hk⟩;rintro e' s' ⟨rfl,rfl⟩;exact⟨rfl,rfl⟩
   |ret=>refine⟨.ret,a7,t',H',iJ,WC.seq (hw.mono ?_ ),hk⟩;rintro e' s' ⟨rfl,rfl⟩;exact⟨rfl,rfl⟩
 | .cond c a b,t,H,kn,ke,kr,x,tm,hs,h=>by
  have h:ay (jC GL t c) (fF own GL call aA m n a t H kn ke kr) (fF own GL call aA m n b t H kn ke kr)=some x:=h;rw[nB hs]at h;unfold ay at h;split at h
  ·rename_i tb hv;cases tb with
    |true=>obtain⟨e,a7,t',H',iJ,hw,hk⟩:=iK hm hc hp hn hs (show fF own GL call aA m n a t H kn ke kr=some x from h);exact⟨e,a7,t',H',iJ,WC.cond hv hw,hk⟩
    |false=>obtain⟨e,a7,t',H',iJ,hw,hk⟩:=iK hm hc hp hn hs (show fF own GL call aA m n b t H kn ke kr=some x from h);exact⟨e,a7,t',H',iJ,WC.cond hv hw,hk⟩
  ·cases h
 | .block id b,t,H,kn,ke,kr,x,tm,hs,h=>by
  obtain⟨e,a7,t',H',iJ,hw,hk⟩:=iK hm hc hp hn hs (show fF own GL call aA m n b t H kn (fun i t' H'=>bif Nat.beq i id then kn t' H' else ke i t' H') kr=some x from h);cases e with
   |normal=>refine⟨.normal,a7,t',H',iJ,WC.block (hw.mono ?_ ),hk⟩;rintro e' s' ⟨rfl,rfl⟩;exact⟨rfl,rfl⟩
   |exit i=>
    have hk:(bif Nat.beq i id then kn t' H' else ke i t' H')=some x:=hk;by_cases hi:i=id
    ·subst hi;rw[aa0,aaH]at hk;refine⟨.normal,a7,t',H',iJ,WC.block (hw.mono ?_ ),hk⟩;rintro e' s' ⟨rfl,rfl⟩;show if i=i then _ else _
     rw[aaP rfl];exact⟨rfl,rfl⟩
    ·rw[cG hi,aaX]at hk;refine⟨.exit i,a7,t',H',iJ,WC.block (hw.mono ?_ ),hk⟩;rintro e' s' ⟨rfl,rfl⟩;show if i=id then _ else _
     rw[aaL hi];exact⟨rfl,rfl⟩
   |ret=>refine⟨.ret,a7,t',H',iJ,WC.block (hw.mono ?_ ),hk⟩;rintro e' s' ⟨rfl,rfl⟩;exact⟨rfl,rfl⟩
 | .loop b,t,H,kn,ke,kr,x,tm,hs,h=>by
  have h:rK (fF own GL call aA m n b) m t H ke kr=some x:=h;have key:∀(k:Nat)(t:T)(H:ai)(tm:List (Nat×V)),jW tm t→rK (fF own GL call aA m n b) k t H ke kr=some x→∃e a7 t' H',jW a7 t'∧tP P GL b e ⟨n,a7,H'⟩ k ⟨n,tm,H⟩∧RC kn ke kr e t' H'=some x:=by
   intro k;induction k with
    |zero=>intro t H tm _ h0;cases h0
    |succ k ih=>
     intro t H tm hs h0;have h0:fF own GL call aA m n b t H (fun t' H'=>rK (fF own GL call aA m n b) k t' H' ke kr) ke kr=some x:=h0;obtain⟨e,a7,t',H',iJ,hw,hk⟩:=iK hm hc hp hn hs h0;cases e with
      |normal=>obtain⟨e2,eU,t2,H2,BB,Dk,uS⟩:=ih t' H' a7 iJ hk;refine⟨e2,eU,t2,H2,BB,WC.mono hw ?_,uS⟩;rintro e' s' ⟨rfl,rfl⟩;exact Dk
      |exit i=>refine⟨.exit i,a7,t',H',iJ,WC.mono hw ?_,hk⟩;rintro e' s' ⟨rfl,rfl⟩;exact⟨rfl,rfl⟩
      |ret=>refine⟨.ret,a7,t',H',iJ,WC.mono hw ?_,hk⟩;rintro e' s' ⟨rfl,rfl⟩;exact⟨rfl,rfl⟩
  obtain⟨e,a7,t',H',iJ,hw,hk⟩:=key m t H tm hs h;exact⟨e,a7,t',H',iJ,hw.wc,hk⟩
 | .exit id,t,H,kn,ke,kr,x,tm,hs,h=>⟨.exit id,tm,t,H,hs,WC.exit ⟨rfl,rfl⟩,h⟩
 | .ret,t,H,kn,ke,kr,x,tm,hs,h=>⟨.ret,tm,t,H,hs,WC.ret ⟨rfl,rfl⟩,h⟩
inductive FT (α:Type) where
 |e
 |n (l:FT α) (k:Nat) (a:α) (r:FT α)
noncomputable def mR{α:Type}(t:FT α)(f:Nat):Option α:=@FT.rec α (fun _=>Option α) none (fun _ k a _ il ir=>@Bool.rec (fun _=>Option α) (@Bool.rec (fun _=>Option α) ir il (Nat.ble f k)) (some a) (Nat.beq f k)) t
def tQ{α:Type}(p:Nat→α→Prop):FT α→Prop| .e=>True| .n l k a r=>tQ p l∧p k a∧tQ p r
theorem nE{α:Type}{p:Nat→α→Prop}:∀{t:FT α}{f:Nat}{a:α},tQ p t→mR t f=some a→p f a
 | .e,f,a,_,h=>by cases h
 | .n l k b r,f,a,ht,h=>by
  have h:@Bool.rec (fun _=>Option α) (@Bool.rec (fun _=>Option α) (mR r f) (mR l f) (Nat.ble f k)) (some b) (Nat.beq f k)=some a:=h;cases h1:Nat.beq f k with
   |true=>rw[h1]at h;have:=aaI h1;subst this;simp only[aaC]at h;subst h;exact ht.2.1
   |false=>
    rw[h1]at h;cases h2:Nat.ble f k with
     |true=>rw[h2]at h;exact nE ht.1 h
     |false=>rw[h2]at h;exact nE ht.2.2 h
noncomputable def sL(t:T)(H:ai):iZ→Option V
 | .t n=>some (fi t n)
 | .cell n size agg=>
  match df H size (fi t n)with
   |some cs=>pj agg cs
   |none=>none
noncomputable def pB(rs:List iZ)(t:T)(H:ai):Option XR:=match bK (sL t H) rs with
 |some [v]=>some (v,H)
 |some vs=>some (.tuple vs,H)
 |none=>none
theorem Dl{rs:List iZ}{n:Nat}{t:T}{H:ai}{tm:List (Nat×V)}{x:XR}(hs:jW tm t)(h:pB rs t H=some x):fq rs ⟨n,tm,H⟩=some x.1∧x.2=H:=by
 have e:sL t H=eN ⟨n,tm,H⟩:=funext fun r=>by
  cases r with
   |t n=>simp only[sL,eN,hs _]
   |cell n size agg=>simp only[sL,eN,hs _];cases df H size (fi t n)<;>rfl
 unfold pB at h;unfold fq;rw[e]at h;split at h
 ·rename_i v hv;simp only[aaC]at h;subst h;rw[hv];exact⟨rfl,rfl⟩
 ·rename_i vs et hv;simp only[aaC]at h;subst h;rw[hv];refine⟨?_,rfl⟩;split
  ·rename_i v heq;simp only[aaC]at heq;exact(et v heq).elim
  ·rename_i U9 _ heq;simp only[aaC]at heq;rw[heq]
  ·rename_i heq;cases heq
 ·cases h
noncomputable def EN(eO:FuncId→List Nat)(GL:cj)(rH:FT cL)(mk:bd→bd)(xq:bd→aU)(m:Nat)(d:Nat):bd:=@Nat.rec (fun _=>bd) (fun _ _ _=>none) (fun _ ih f args H=>
 match mR rH f with
  |none=>none
  |some fn=>bif Nat.ble args.length fn.ntmps&&Nat.ble fn.ntmps ic then fF (eO f) GL (mk ih) (xq ih) m fn.ntmps fn.body (n5 0 args .e) H (fun t H=>pB fn.res t H) (fun _ _ _=>none) (fun t H=>pB fn.res t H)else none) d
theorem Dm{P:Program}{GL:cj}{eO:FuncId→List Nat}{rH:FT cL}{mk:bd→bd}{xq:bd→aU}(hm:P.follows .mixedOrders=true)(hf:tQ (fun f fn=>aI P f=some fn∧ao P f=true) rH)(hmk:∀jT,bQ P GL jT→bQ P GL (mk jT))(RD:∀jT,bQ P GL jT→bu P GL (xq jT))(m:Nat):∀d,bQ P GL (EN eO GL rH mk xq m d)
 |0=>by intro f args H v H' h;cases h
 |d+1=>by
  intro f args H v H' h;have ih:=Dm (eO:=eO) hm hf hmk RD m d;have h:(match mR rH f with
   |none=>none
   |some fn=>bif Nat.ble args.length fn.ntmps&&Nat.ble fn.ntmps ic then fF (eO f) GL (mk (EN eO GL rH mk xq m d)) (xq (EN eO GL rH mk xq m d)) m fn.ntmps fn.body (n5 0 args .e) H (fun t H=>pB fn.res t H) (fun _ _ _=>none) (fun t H=>pB fn.res t H)else none)=some (v,H'):=h
  split at h
  ·cases h
  ·rename_i fn Bi;obtain⟨h1,h2⟩:=nE hf Bi;cases hb:(Nat.ble args.length fn.ntmps&&Nat.ble fn.ntmps ic)with
    |false=>rw[hb]at h;cases h
    |true=>
     rw[hb]at h;simp only[aaH]at h;simp only[aaD]at hb;have C3:=aaM hb.1;have QZ:=aaM hb.2;obtain⟨e,a7,t',H2,iJ,hw,hk⟩:=iK hm (hmk _ ih) (RD _ ih) QZ (jW.args args (by omega)) h;refine WF.body h1 h2 C3 (hw.mono ?_ );rintro e' s' ⟨rfl,rfl⟩;cases e' with
      |normal=>obtain⟨k1,k2⟩:=Dl (n:=fn.ntmps) iJ (show pB fn.res t' H2=some (v,H')from hk);exact⟨v,k1,rfl,k2.symm⟩
      |exit i=>cases(show(none:Option XR)=some (v,H')from hk)
      |ret=>obtain⟨k1,k2⟩:=Dl (n:=fn.ntmps) iJ (show pB fn.res t' H2=some (v,H')from hk);exact⟨v,k1,rfl,k2.symm⟩
abbrev Extra:=FT (List V→Option V)
noncomputable def zm(ex:Extra)(eA:aU):aU:=fun f args=>
 match mR ex f with
  |none=>eA f args
  |some s=>
   match s args with
    |some v=>some v
    |none=>eA f args
noncomputable def WM(kt:FT Nat)(ex:Extra)(rf:FuncId→Bool)(jV:xf)(eA:aU)(jT:bd):bd:=fun f args H=>
 match mR kt f with
  |none=>sI (fun _=>false) (fun _ _=>none) jT f args H
  |some _=>
   match zm ex (fun _ _=>none) f args with
    |some v=>some (v,H)
    |none=>xg rf jV (zm ex eA) jT f args H
noncomputable def Of(kt:FT Nat)(ex:Extra)(rf:FuncId→Bool)(eA:aU)(jT:bd):aU:=fun f args=>
 match mR kt f with
  |none=>lH (fun _ _=>none) jT f args
  |some _=>bif rf f then none else lH (zm ex eA) jT f args
def u_(P:Program)(GL:cj)(ex:Extra):Prop:=tQ (fun f s=>∀args v,s args=some v→PC P GL f args v) ex
section
variable {P:Program}{GL:cj}
theorem tR{ex:Extra}{eA:aU}(he:u_ P GL ex)(hp:bu P GL eA):bu P GL (zm ex eA):=by
 intro f args v h;unfold zm at h;split at h
 ·exact hp _ _ _ h
 ·rename_i s hs;split at h
  ·rename_i u hu;simp only[aaC]at h;subst h;exact nE he hs _ _ hu
  ·exact hp _ _ _ h
theorem xr:bu P GL (fun _ _=>none):=by intro f a v h;cases h
theorem Og{kt:FT Nat}{ex:Extra}{rf:FuncId→Bool}{jV:xf}{eA:aU}(he:u_ P GL ex)(hh:qy P GL jV)(hp:bu P GL eA):∀jT,bQ P GL jT→bQ P GL (WM kt ex rf jV eA jT):=by
 intro jT hr f args H v H' h;unfold WM at h;split at h
 ·exact tI xr hr _ _ _ _ _ h
 ·split at h
  ·rename_i u hu;simp only[aaC,aaF]at h;obtain⟨rfl,rfl⟩:=h;exact WF.EJ (tR he xr _ _ _ hu) ⟨rfl,rfl⟩
  ·exact vH hh (tR he hp) hr _ _ _ _ _ h
theorem K3{kt:FT Nat}{ex:Extra}{rf:FuncId→Bool}{eA:aU}(he:u_ P GL ex)(hp:bu P GL eA):∀jT,bQ P GL jT→bu P GL (Of kt ex rf eA jT):=by
 intro jT hr f args v h;unfold Of at h;split at h
 ·exact h_ xr hr _ _ _ h
 ·cases hb:rf f with
   |true=>rw[hb]at h;cases h
   |false=>rw[hb]at h;exact h_ (tR he hp) hr _ _ _ h
end
end Fw
/-
  Pieces of code by the quicker run: from a state told by a few slots to another, or to a function's result.
-/
namespace Fw
open Go
noncomputable def vN:List (Nat×V)→T|[]=>.e|(s,u)::l=>EL (vN l) s u
def ow(tm:List (Nat×V)):Bool:=tm.all fun p=>Nat.blt p.1 ic
theorem jW.tree:∀{tm:List (Nat×V)},ow tm=true→jW tm (vN tm)
 |[],_=>jW.nil
 |(s,u)::l,h=>
  fun t=>by
   simp only[ow,aa4,aaD]at h;have hs:s<ic:=by simpa[aaT]using h.1
   rw[aC,vN,qA _ _ _ _ hs,jW.tree (by simpa[ow]using h.2) t];by_cases e:s=t
   ·subst e;simp
   ·rw[aaL e,aaL (fun e'=>e e'.symm)]
def se:List Nat→List V→List (Nat×V)|k::ks,v::vs=>(k,v)::se ks vs|_,_=>[]
theorem mS{t:T}(s:Nat):∀(ks:List Nat),get (se ks (ks.map (fi t))) s=fi t s∨get (se ks (ks.map (fi t))) s=.any
 |[]=>.inr rfl
 |k::ks=>by
  simp only[aaY,se,aC];by_cases e:k=s
  ·subst e;rw[aaP rfl];exact .inl rfl
  ·rw[aaL e];exact mS s ks
theorem R.kZ{GL:cj}{g:G}{w:World}{a:Act}{n:Nat}{tm eU:List (Nat×V)}{H:ai}(hw:∀s,get eU s=get tm s∨get eU s=.any)(h:R GL g w a ⟨n,tm,H⟩):R GL g w a ⟨n,eU,H⟩:=⟨h.defers,h.size,fun t=>by
 show RV g w (get eU t) _;rcases hw t with e|e
 ·rw[e];exact h.tmps t
 ·rw[e];simp only[RV],h.heap,h.eg⟩
theorem au.kZ{m n:Nat}{tm eU:List (Nat×V)}{H:ai}(hw:∀s,get eU s=get tm s∨get eU s=.any):au m ⟨n,tm,H⟩ ⟨n,eU,H⟩:=fun _ g _ _ hr=>⟨g,hr.kZ hw,fun _ _ _ he=>he⟩
section
variable {P:Program}{GL:cj}
theorem WC.kZ{c:IR}{n:Nat}{tm eU:List (Nat×V)}{H:ai}{Q:Ex→St→Prop}(hw:∀s,get eU s=get tm s∨get eU s=.any)(h:WC P GL c ⟨n,eU,H⟩ Q):WC P GL c ⟨n,tm,H⟩ Q:=WC.tidy (au.kZ hw) h
theorem WC.cw{c:IR}{n:Nat}{tm:List (Nat×V)}{H:ai}{Q:Ex→St→Prop}(ks:List Nat)(h:WC P GL c ⟨n,cg ks tm,H⟩ Q):WC P GL c ⟨n,tm,H⟩ Q:=WC.kZ (fun s=>jB ks s tm) h
theorem WC.runK{own:List Nat}{call:bd}{aA:aU}(hm:P.follows .mixedOrders=true)(hc:bQ P GL call)(hp:bu P GL aA){m n:Nat}(hn:n≤ic){c:IR}{tm:List (Nat×V)}{H H':ai}{qo:List V}{Q:Ex→St→Prop}(ks:List Nat)(hk:ow tm=true)(h:fF own GL call aA m n c (vN tm) H (fun t' H'=>some (.tuple (ks.map (fi t')),H')) (fun _ _ _=>none) (fun _ _=>none)=some (.tuple qo,H'))(hq:Q .normal ⟨n,se ks qo,H'⟩):WC P GL c ⟨n,tm,H⟩ Q:=by
 obtain⟨e,a7,t',H2,iJ,hw,hk⟩:=iK hm hc hp hn (jW.tree hk) h;cases e with
  |exit i=>cases(show(none:Option XR)=some (V.tuple qo,H')from hk)
  |ret=>cases(show(none:Option XR)=some (V.tuple qo,H')from hk)
  |normal=>have hk:some (V.tuple (ks.map (fi t')),H2)=some (V.tuple qo,H'):=hk;simp only[aaC,aaF,V.tuple.injEq]at hk;obtain⟨rfl,rfl⟩:=hk;refine WC.post (hw.mono ?_ );rintro e' s' ⟨rfl,rfl⟩;refine⟨_,au.kZ (fun s=>?_ ),hq⟩;rw[iJ s];exact mS s ks
end
end Fw
/-
  The quicker run, made ready once for each text of code: what an operation does, as a small function of slots and boxes.
-/
namespace Fw
open Go
inductive Bx (α:Type) where|mk (a:α)
structure pC where
 GL:cj
 call:bd
 aA:aU
abbrev VK:=V→ai→Option XR
noncomputable def EO(k:Nat):Nat→Bx (T→V):=@Nat.rec (fun _=>Nat→Bx (T→V)) (fun i=>.mk (fun t=>fi t i)) (fun _ ih i=>@Nat.rec (fun _=>Bx (T→V)) (.mk (fun t=>@T.rec (fun _=>V) .any (fun _ v _ _ _=>v) t)) (fun j _=>@Bx.rec (T→V) (fun _=>Bx (T→V)) (fun g=>@Nat.rec (fun _=>Bx (T→V)) (.mk (fun t=>@T.rec (fun _=>V) .any (fun l _ _ _ _=>g l) t)) (fun _ _=>.mk (fun t=>@T.rec (fun _=>V) .any (fun _ _ r _ _=>g r) t)) (Nat.land j 1)) (ih (Nat.shiftRight j 1))) i) k
theorem xt:∀(k i:Nat),∃g,EO k i=.mk g∧∀t,g t=fi t i
 |0,i=>⟨_,rfl,fun _=>rfl⟩
 |k+1,0=>⟨_,rfl,fun t=>by cases t<;>rfl⟩
 |k+1,j+1=>by
  have h1:Nat.shiftRight j 1=j / 2:=by show j>>>1=_;simp[aca]
  have h2:Nat.land j 1=j%2:=acj j;obtain⟨g,hg,sM⟩:=xt k (Nat.shiftRight j 1);have h:EO (k+1) (j+1)=@Bx.rec (T→V) (fun _=>Bx (T→V)) (fun g=>@Nat.rec (fun _=>Bx (T→V)) (.mk (fun t=>@T.rec (fun _=>V) .any (fun l _ _ _ _=>g l) t)) (fun _ _=>.mk (fun t=>@T.rec (fun _=>V) .any (fun _ _ r _ _=>g r) t)) (Nat.land j 1)) (EO k (Nat.shiftRight j 1)):=rfl;rw[h,hg];rw[h1]at sM;rcases abR j with hj|hj
  ·rw[h2,hj];refine⟨_,rfl,fun t=>?_ ⟩;cases t with
    |e=>rfl
    |n l u r=>rw[gz,aaP hj];exact sM l
  ·rw[h2,hj];refine⟨_,rfl,fun t=>?_ ⟩;cases t with
    |e=>rfl
    |n l u r=>rw[gz,aaL (by omega)];exact sM r
noncomputable def K4(k:Nat):Nat→Bx (T→V→T):=@Nat.rec (fun _=>Nat→Bx (T→V→T)) (fun i=>.mk (fun t _=>t)) (fun _ ih i=>@Nat.rec (fun _=>Bx (T→V→T)) (.mk (fun t v=>@T.rec (fun _=>T) (.n .e v .e) (fun l _ r _ _=>.n l v r) t)) (fun j _=>@Bx.rec (T→V→T) (fun _=>Bx (T→V→T)) (fun g=>@Nat.rec (fun _=>Bx (T→V→T)) (.mk (fun t v=>@T.rec (fun _=>T) (.n (g .e v) .any .e) (fun l u r _ _=>.n (g l v) u r) t)) (fun _ _=>.mk (fun t v=>@T.rec (fun _=>T) (.n .e .any (g .e v)) (fun l u r _ _=>.n l u (g r v)) t)) (Nat.land j 1)) (ih (Nat.shiftRight j 1))) i) k
theorem Dn:∀(k i:Nat),∃g,K4 k i=.mk g∧∀t v,g t v=mO k t i v
 |0,i=>⟨_,rfl,fun _ _=>rfl⟩
 |k+1,0=>⟨_,rfl,fun t v=>by cases t<;>rfl⟩
 |k+1,j+1=>by
  have h1:Nat.shiftRight j 1=j / 2:=by show j>>>1=_;simp[aca]
  have h2:Nat.land j 1=j%2:=acj j;obtain⟨g,hg,sM⟩:=Dn k (Nat.shiftRight j 1);have h:K4 (k+1) (j+1)=@Bx.rec (T→V→T) (fun _=>Bx (T→V→T)) (fun g=>@Nat.rec (fun _=>Bx (T→V→T)) (.mk (fun t v=>@T.rec (fun _=>T) (.n (g .e v) .any .e) (fun l u r _ _=>.n (g l v) u r) t)) (fun _ _=>.mk (fun t v=>@T.rec (fun _=>T) (.n .e .any (g .e v)) (fun l u r _ _=>.n l u (g r v)) t)) (Nat.land j 1)) (K4 k (Nat.shiftRight j 1)):=rfl;rw[h,hg];rw[h1]at sM;rcases abR j with hj|hj
  ·rw[h2,hj];refine⟨_,rfl,fun t v=>?_ ⟩;cases t with
    |e=>rw[xk,aaP hj,←sM]
    |n l u r=>rw[xl,aaP hj,←sM]
  ·rw[h2,hj];refine⟨_,rfl,fun t v=>?_ ⟩;cases t with
    |e=>rw[xk,aaL (by omega),←sM]
    |n l u r=>rw[xl,aaL (by omega),←sM]
noncomputable def xu(x:ba):Bx (pC→T→V):=@ba.rec (fun _=>Bx (pC→T→V)) (fun n=>@Bx.rec (T→V) (fun _=>Bx (pC→T→V)) (fun g=>.mk (fun _ t=>g t)) (EO 12 n)) (fun v=>.mk (fun _ _=>v)) (fun n=>.mk (fun E t=>jC E.GL t (.g n))) (fun f=>.mk (fun _ _=>.func f [] [])) x
theorem pD(x:ba):∃f,xu x=.mk f∧∀E t,f E t=jC E.GL t x:=by
 cases x with
  |t n=>obtain⟨g,hg,sM⟩:=xt 12 n;have h:xu (.t n)=@Bx.rec (T→V) (fun _=>Bx (pC→T→V)) (fun g=>.mk (fun _ t=>g t)) (EO 12 n):=rfl;rw[h,hg];exact⟨_,rfl,fun E t=>sM t⟩
  |c v=>exact⟨_,rfl,fun _ _=>rfl⟩
  |g n=>exact⟨_,rfl,fun _ _=>rfl⟩
  |f f=>exact⟨_,rfl,fun _ _=>rfl⟩
noncomputable def Do(l:List ba):Bx (pC→T→List V):=@List.rec ba (fun _=>Bx (pC→T→List V)) (.mk (fun _ _=>[])) (fun x _ ih=>@Bx.rec (pC→T→V) (fun _=>Bx (pC→T→List V)) (fun f=>@Bx.rec (pC→T→List V) (fun _=>Bx (pC→T→List V)) (fun g=>.mk (fun E t=>f E t::g E t)) ih) (xu x)) l
theorem zn:∀(l:List ba),∃f,Do l=.mk f∧∀E t,f E t=bh (jC E.GL t) l
 |[]=>⟨_,rfl,fun _ _=>rfl⟩
 |x::l=>by obtain⟨f,hf,sf⟩:=pD x;obtain⟨g,hg,sM⟩:=zn l;have h:Do (x::l)=@Bx.rec (pC→T→V) (fun _=>Bx (pC→T→List V)) (fun f=>@Bx.rec (pC→T→List V) (fun _=>Bx (pC→T→List V)) (fun g=>.mk (fun E t=>f E t::g E t)) (Do l)) (xu x):=rfl;rw[h,hf,hg];exact⟨_,rfl,fun E t=>by simp only[bh,sf,sM]⟩
abbrev OC:=pC→T→ai→VK→Option XR
def gP(r:Option (V×Wr))(H:ai)(k:VK):Option XR:=match r with
 |some (v,wr)=>k v (aZ H wr)
 |none=>none
def RE(r:Option XR)(k:VK):Option XR:=match r with
 |some (v,H')=>k v H'
 |none=>none
noncomputable def K5(x:ba)(F:(pC→T→V)→OC):Bx OC:=@Bx.rec (pC→T→V) (fun _=>Bx OC) (fun f=>.mk (F f)) (xu x)
noncomputable def Oh(x y:ba)(F:(pC→T→V)→(pC→T→V)→OC):Bx OC:=@Bx.rec (pC→T→V) (fun _=>Bx OC) (fun f=>@Bx.rec (pC→T→V) (fun _=>Bx OC) (fun g=>.mk (F f g)) (xu y)) (xu x)
theorem oJ{x:ba}{F:(pC→T→V)→OC}:∃f,K5 x F=.mk (F f)∧∀E t,f E t=jC E.GL t x:=by obtain⟨f,hf,sf⟩:=pD x;exact⟨f,by unfold K5;rw[hf],sf⟩
theorem tS{x y:ba}{F:(pC→T→V)→(pC→T→V)→OC}:∃f g,Oh x y F=.mk (F f g)∧(∀E t,f E t=jC E.GL t x)∧∀E t,g E t=jC E.GL t y:=by obtain⟨f,hf,sf⟩:=pD x;obtain⟨g,hg,sM⟩:=pD y;exact⟨f,g,by unfold Oh;rw[hf,hg],sf,sM⟩
noncomputable def WN(own:List Nat)(dst:Option Nat)(op:kI):Bx OC:=match op with
 | .mv x=>K5 x fun f E t H k=>k (f E t) H
 | .load n agg a=>K5 a fun f E t H k=>gP (Di H n agg (f E t)) H k
 | .store n a x=>Oh a x fun f g E t H k=>gP (xn H n (f E t) (g E t)) H k
 | .bin op x y=>Oh x y fun f g E t H k=>gP (zh op (f E t) (g E t)) H k
 | .eq neg kk x y=>Oh x y fun f g E t H k=>gP (Vn H neg kk (f E t) (g E t)) H k
 | .un op x=>K5 x fun f E t H k=>gP (Vo op (f E t)) H k
 | .gi x=>K5 x fun f E t H k=>gP (Oc (f E t)) H k
 | .Ny off n agg x=>K5 x fun f E t H k=>gP (KW off n agg (f E t)) H k
 | .fQ off n x=>K5 x fun f E t H k=>gP (Bz off n (f E t)) H k
 | .de sz x i=>Oh x i fun f g E t H k=>gP (BA H sz (f E t) (g E t)) H k
 | .gM x i=>Oh x i fun f g E t H k=>gP (HN (f E t) (g E t)) H k
 | .ext x i=>K5 x fun f E t H k=>gP (KX (f E t) i) H k
 | .call f args=>@Bx.rec (pC→T→List V) (fun _=>Bx OC) (fun a=>.mk fun E t H k=>RE (E.call f (a E t) H) k) (Do args)
 |op=>.mk fun E t H k=>Od own E.GL E.call dst op t H k
theorem Dp{r:Option (V×Wr)}{H:ai}{k:VK}:gP r H k=match r with|some (v,wr)=>k v (aZ H wr)|none=>none:=rfl
theorem Oi(own:List Nat)(dst:Option Nat)(op:kI):∃f,WN own dst op=.mk f∧∀E t H k,f E t H k=Od own E.GL E.call dst op t H k:=by
 cases op with
  |mv x=>obtain⟨f,h,hf⟩:=oJ (x:=x) (F:=fun f E t H k=>k (f E t) H);exact⟨_,h,fun E t H k=>by simp only[hf];rfl⟩
  |load n agg a=>obtain⟨f,h,hf⟩:=oJ (x:=a) (F:=fun f E t H k=>gP (Di H n agg (f E t)) H k);exact⟨_,h,fun E t H k=>by simp only[hf];rfl⟩
  |store n a x=>obtain⟨f,g,h,hf,hg⟩:=tS (x:=a) (y:=x) (F:=fun f g E t H k=>gP (xn H n (f E t) (g E t)) H k);exact⟨_,h,fun E t H k=>by simp only[hf,hg];rfl⟩
  |bin op x y=>obtain⟨f,g,h,hf,hg⟩:=tS (x:=x) (y:=y) (F:=fun f g E t H k=>gP (zh op (f E t) (g E t)) H k);exact⟨_,h,fun E t H k=>by simp only[hf,hg];rfl⟩
  |eq neg kk x y=>obtain⟨f,g,h,hf,hg⟩:=tS (x:=x) (y:=y) (F:=fun f g E t H k=>gP (Vn H neg kk (f E t) (g E t)) H k);exact⟨_,h,fun E t H k=>by simp only[hf,hg];rfl⟩
  |un op x=>obtain⟨f,h,hf⟩:=oJ (x:=x) (F:=fun f E t H k=>gP (Vo op (f E t)) H k);exact⟨_,h,fun E t H k=>by simp only[hf];rfl⟩
  |gi x=>obtain⟨f,h,hf⟩:=oJ (x:=x) (F:=fun f E t H k=>gP (Oc (f E t)) H k);exact⟨_,h,fun E t H k=>by simp only[hf];rfl⟩
  |Ny off n agg x=>obtain⟨f,h,hf⟩:=oJ (x:=x) (F:=fun f E t H k=>gP (KW off n agg (f E t)) H k);exact⟨_,h,fun E t H k=>by simp only[hf];rfl⟩
  |fQ off n x=>obtain⟨f,h,hf⟩:=oJ (x:=x) (F:=fun f E t H k=>gP (Bz off n (f E t)) H k);exact⟨_,h,fun E t H k=>by simp only[hf];rfl⟩
  |de sz x i=>obtain⟨f,g,h,hf,hg⟩:=tS (x:=x) (y:=i) (F:=fun f g E t H k=>gP (BA H sz (f E t) (g E t)) H k);exact⟨_,h,fun E t H k=>by simp only[hf,hg];rfl⟩
  |gM x i=>obtain⟨f,g,h,hf,hg⟩:=tS (x:=x) (y:=i) (F:=fun f g E t H k=>gP (HN (f E t) (g E t)) H k);exact⟨_,h,fun E t H k=>by simp only[hf,hg];rfl⟩
  |ext x i=>obtain⟨f,h,hf⟩:=oJ (x:=x) (F:=fun f E t H k=>gP (KX (f E t) i) H k);exact⟨_,h,fun E t H k=>by simp only[hf];rfl⟩
  |call f args=>
   obtain⟨a,ha,ha2⟩:=zn args;refine⟨fun E t H k=>RE (E.call f (a E t) H) k,?_,?_ ⟩
   ·simp only[WN];rw[ha]
   ·intro E t H k;simp only[ha2];rfl
  |_=>exact⟨_,rfl,fun _ _ _ _=>rfl⟩
abbrev SC:=pC→T→ai→KN→Option XR
noncomputable def Oj(n:Nat)(dst:Option Nat):Bx (V→T→ai→KN→Option XR):=match dst with
 |none=>.mk fun _ t H k=>k t H
 |some d=>@Bool.rec (fun _=>Bx (V→T→ai→KN→Option XR)) (.mk fun _ _ _ _=>none) (@Bx.rec (T→V→T) (fun _=>Bx (V→T→ai→KN→Option XR)) (fun s=>.mk fun v t H k=>k (s t v) H) (K4 12 d)) (Nat.blt d n)
theorem K6(n:Nat)(dst:Option Nat):∃f,Oj n dst=.mk f∧∀v t H k,f v t H k=EM n dst v t H k:=by
 cases dst with
  |none=>exact⟨_,rfl,fun _ _ _ _=>rfl⟩
  |some d=>
   simp only[Oj,EM];cases h:Nat.blt d n with
    |false=>exact⟨_,rfl,fun _ _ _ _=>rfl⟩
    |true=>obtain⟨s,hs,BB⟩:=Dn 12 d;simp only[hs];exact⟨_,rfl,fun v t H k=>by simp only[BB];rfl⟩
noncomputable def K7(v:V)(RF RG:Option XR)(skip:Option XR):Option XR:=match v with
 | .d (.bool b)=>@Bool.rec (fun _=>Option XR) RG RF b
 | .tuple []=>skip
 |_=>none
noncomputable def Dq(own:List Nat)(n:Nat)(o:ad):Bx SC:=match o with
 |⟨dst,op,gd,_⟩=>
  @Bx.rec OC (fun _=>Bx SC) (fun f=>
   @Bx.rec (V→T→ai→KN→Option XR) (fun _=>Bx SC) (fun p=>
    match gd with
     |none=>.mk fun E t H k=>f E t H (fun v H'=>p v t H' k)
     |some (d,nL)=>
      @Bx.rec (T→V) (fun _=>Bx SC) (fun g=>
       match nL with
        |true=>.mk fun E t H k=>K7 (g t) (f E t H (fun v H'=>p v t H' k)) (p (.tuple []) t H k) (p (.tuple []) t H k)
        |false=>.mk fun E t H k=>K7 (g t) (p (.tuple []) t H k) (f E t H (fun v H'=>p v t H' k)) (p (.tuple []) t H k)) (EO 12 d)) (Oj n dst)) (WN own dst op)
theorem HV(own:List Nat)(n:Nat)(o:ad):∃f,Dq own n o=.mk f∧∀E t H k,f E t H k=mQ own E.GL E.call n o t H k:=by
 obtain⟨dst,op,gd,af⟩:=o;obtain⟨f,hf,sf⟩:=Oi own dst op;obtain⟨p,hp,RH⟩:=K6 n dst;simp only[Dq,hf,hp];cases gd with
  |none=>exact⟨_,rfl,fun E t H k=>by simp only[mQ,qB,sf,RH]⟩
  |some q=>
   obtain⟨d,nL⟩:=q;obtain⟨g,hg,sM⟩:=xt 12 d;simp only[hg];cases nL with
    |true=>
     refine⟨_,rfl,fun E t H k=>?_ ⟩;simp only[mQ,qB,K7,sf,RH,sM];generalize fi t d=v;cases v with
      |d x=>
       cases x with
        |bool b=>cases b<;>rfl
        |_=>rfl
      |tuple vs=>cases vs<;>rfl
      |_=>rfl
    |false=>
     refine⟨_,rfl,fun E t H k=>?_ ⟩;simp only[mQ,qB,K7,sf,RH,sM];generalize fi t d=v;cases v with
      |d x=>
       cases x with
        |bool b=>cases b<;>rfl
        |_=>rfl
      |tuple vs=>cases vs<;>rfl
      |_=>rfl
noncomputable def EP(own:List Nat)(n:Nat)(l:List ad):Bx SC:=@List.rec ad (fun _=>Bx SC) (.mk fun _ t H k=>k t H) (fun o _ ih=>@Bx.rec SC (fun _=>Bx SC) (fun f=>@Bx.rec SC (fun _=>Bx SC) (fun g=>.mk fun E t H k=>f E t H (fun t' H'=>g E t' H' k)) ih) (Dq own n o)) l
theorem xw(own:List Nat)(n:Nat):∀(l:List ad),∃f,EP own n l=.mk f∧∀E t H k,f E t H k=lX own E.GL E.call n l t H k
 |[]=>⟨_,rfl,fun _ _ _ _=>rfl⟩
 |o::l=>by obtain⟨f,hf,sf⟩:=HV own n o;obtain⟨g,hg,sM⟩:=xw own n l;have h:EP own n (o::l)=@Bx.rec SC (fun _=>Bx SC) (fun f=>@Bx.rec SC (fun _=>Bx SC) (fun g=>.mk fun E t H k=>f E t H (fun t' H'=>g E t' H' k)) (EP own n l)) (Dq own n o):=rfl;rw[h,hf,hg];exact⟨_,rfl,fun E t H k=>by simp only[sf,sM];rfl⟩
abbrev CC:=pC→T→ai→KN→(Nat→KN)→KN→Option XR
noncomputable def ER(own:List Nat)(m n:Nat)(c:IR):Bx CC:=@IR.rec (fun _=>Bx CC) (.mk fun _ t H kn _ _=>kn t H) (fun l=>@Bx.rec SC (fun _=>Bx CC) (fun f=>.mk fun E t H kn _ _=>f E t H kn) (EP own n l)) (fun l=>.mk fun E t H kn _ _=>qE own E.GL E.call E.aA n l t H kn) (fun _ _ ia ib=>@Bx.rec CC (fun _=>Bx CC) (fun f=>@Bx.rec CC (fun _=>Bx CC) (fun g=>.mk fun E t H kn ke kr=>f E t H (fun t' H'=>g E t' H' kn ke kr) ke kr) ib) ia) (fun c _ _ ia ib=>@Bx.rec (pC→T→V) (fun _=>Bx CC) (fun x=>@Bx.rec CC (fun _=>Bx CC) (fun f=>@Bx.rec CC (fun _=>Bx CC) (fun g=>.mk fun E t H kn ke kr=>ay (x E t) (f E t H kn ke kr) (g E t H kn ke kr)) ib) ia) (xu c)) (fun id _ ib=>@Bx.rec CC (fun _=>Bx CC) (fun f=>.mk fun E t H kn ke kr=>f E t H kn (fun i t' H'=>bif Nat.beq i id then kn t' H' else ke i t' H') kr) ib) (fun _ ib=>@Bx.rec CC (fun _=>Bx CC) (fun f=>.mk fun E t H _ ke kr=>rK (f E) m t H ke kr) ib) (fun id=>.mk fun _ t H _ ke _=>ke id t H) (.mk fun _ t H _ _ kr=>kr t H) c
theorem oK(own:List Nat)(m n:Nat):∀(c:IR),∃f,ER own m n c=.mk f∧∀E t H kn ke kr,f E t H kn ke kr=fF own E.GL E.call E.aA m n c t H kn ke kr
 | .skip=>⟨_,rfl,fun _ _ _ _ _ _=>rfl⟩
 | .region l=>by obtain⟨f,hf,sf⟩:=xw own n l;have h:ER own m n (.region l)=@Bx.rec SC (fun _=>Bx CC) (fun f=>.mk fun E t H kn _ _=>f E t H kn) (EP own n l):=rfl;rw[h,hf];exact⟨_,rfl,fun E t H kn ke kr=>by simp only[sf];rfl⟩
 | .draw l=>⟨_,rfl,fun _ _ _ _ _ _=>rfl⟩
 | .seq a b=>by obtain⟨f,hf,sf⟩:=oK own m n a;obtain⟨g,hg,sM⟩:=oK own m n b;have h:ER own m n (.seq a b)=@Bx.rec CC (fun _=>Bx CC) (fun f=>@Bx.rec CC (fun _=>Bx CC) (fun g=>.mk fun E t H kn ke kr=>f E t H (fun t' H'=>g E t' H' kn ke kr) ke kr) (ER own m n b)) (ER own m n a):=rfl;rw[h,hf,hg];exact⟨_,rfl,fun E t H kn ke kr=>by simp only[sf,sM];rfl⟩
 | .cond c a b=>by obtain⟨x,hx,u5⟩:=pD c;obtain⟨f,hf,sf⟩:=oK own m n a;obtain⟨g,hg,sM⟩:=oK own m n b;have h:ER own m n (.cond c a b)=@Bx.rec (pC→T→V) (fun _=>Bx CC) (fun x=>@Bx.rec CC (fun _=>Bx CC) (fun f=>@Bx.rec CC (fun _=>Bx CC) (fun g=>.mk fun E t H kn ke kr=>ay (x E t) (f E t H kn ke kr) (g E t H kn ke kr)) (ER own m n b)) (ER own m n a)) (xu c):=rfl;rw[h,hx,hf,hg];exact⟨_,rfl,fun E t H kn ke kr=>by simp only[u5,sf,sM];rfl⟩
 | .block id b=>by obtain⟨f,hf,sf⟩:=oK own m n b;have h:ER own m n (.block id b)=@Bx.rec CC (fun _=>Bx CC) (fun f=>.mk fun E t H kn ke kr=>f E t H kn (fun i t' H'=>bif Nat.beq i id then kn t' H' else ke i t' H') kr) (ER own m n b):=rfl;rw[h,hf];exact⟨_,rfl,fun E t H kn ke kr=>by simp only[sf];rfl⟩
 | .loop b=>by
  obtain⟨f,hf,sf⟩:=oK own m n b;have h:ER own m n (.loop b)=@Bx.rec CC (fun _=>Bx CC) (fun f=>.mk fun E t H _ ke kr=>rK (f E) m t H ke kr) (ER own m n b):=rfl;rw[h,hf];refine⟨_,rfl,fun E t H kn ke kr=>?_ ⟩;have e:f E=fF own E.GL E.call E.aA m n b:=funext fun t=>funext fun H=>funext fun kn=>funext fun ke=>funext fun kr=>sf E t H kn ke kr
  show rK (f E) m t H ke kr=rK (fF own E.GL E.call E.aA m n b) m t H ke kr;rw[e]
 | .exit id=>⟨_,rfl,fun _ _ _ _ _ _=>rfl⟩
 | .ret=>⟨_,rfl,fun _ _ _ _ _ _=>rfl⟩
noncomputable def Dr(own:List Nat)(GL:cj)(call:bd)(aA:aU)(m n:Nat)(c:IR)(t:T)(H:ai)(kn:KN)(ke:Nat→KN)(kr:KN):Option XR:=@Bx.rec CC (fun _=>Option XR) (fun f=>f ⟨GL,call,aA⟩ t H kn ke kr) (ER own m n c)
theorem HW(own:List Nat)(GL:cj)(call:bd)(aA:aU)(m n:Nat)(c:IR):Dr own GL call aA m n c=fF own GL call aA m n c:=by obtain⟨f,hf,sf⟩:=oK own m n c;funext t H kn ke kr;unfold Dr;rw[hf];exact sf ⟨GL,call,aA⟩ t H kn ke kr
noncomputable def K8(eO:FuncId→List Nat)(GL:cj)(rH:FT cL)(mk:bd→bd)(xq:bd→aU)(m:Nat)(d:Nat):bd:=@Nat.rec (fun _=>bd) (fun _ _ _=>none) (fun _ ih f args H=>
 match mR rH f with
  |none=>none
  |some fn=>bif Nat.ble args.length fn.ntmps&&Nat.ble fn.ntmps ic then Dr (eO f) GL (mk ih) (xq ih) m fn.ntmps fn.body (n5 0 args .e) H (fun t H=>pB fn.res t H) (fun _ _ _=>none) (fun t H=>pB fn.res t H)else none) d
theorem Ds(eO:FuncId→List Nat)(GL:cj)(rH:FT cL)(mk:bd→bd)(xq:bd→aU)(m:Nat):∀d,K8 eO GL rH mk xq m d=EN eO GL rH mk xq m d
 |0=>rfl
 |d+1=>by
  have ih:=Ds eO GL rH mk xq m d;funext f args H;show(match mR rH f with
   |none=>none
   |some fn=>bif Nat.ble args.length fn.ntmps&&Nat.ble fn.ntmps ic then Dr (eO f) GL (mk (K8 eO GL rH mk xq m d)) (xq (K8 eO GL rH mk xq m d)) m fn.ntmps fn.body (n5 0 args .e) H (fun t H=>pB fn.res t H) (fun _ _ _=>none) (fun t H=>pB fn.res t H)else none)=(match mR rH f with
   |none=>none
   |some fn=>bif Nat.ble args.length fn.ntmps&&Nat.ble fn.ntmps ic then fF (eO f) GL (mk (EN eO GL rH mk xq m d)) (xq (EN eO GL rH mk xq m d)) m fn.ntmps fn.body (n5 0 args .e) H (fun t H=>pB fn.res t H) (fun _ _ _=>none) (fun t H=>pB fn.res t H)else none)
  rw[ih];simp only[HW]
end Fw
/-
  Operations by the quicker run, and the code behind them.
-/
namespace Fw
open Go
section
variable {P:Program}{GL:cj}
theorem WO.mono{l:List ad}{σ:St}{Q Q':St→Prop}(h:WO P GL l σ Q)(hq:∀s,Q s→Q' s):WO P GL l σ Q':=by intro ops k h1 g w a hr;exact cW (fun e a w hp=>cA.mono (fun e s yy=>by cases e with|normal=>exact hq _ yy|exit i=>exact yy.elim|ret=>exact yy.elim) e a w hp) _ _ _ (h ops k h1 g w a hr)
theorem WO.kZ{l:List ad}{n:Nat}{tm eU:List (Nat×V)}{H:ai}{Q:St→Prop}(hw:∀s,get eU s=get tm s∨get eU s=.any)(h:WO P GL l ⟨n,eU,H⟩ Q):WO P GL l ⟨n,tm,H⟩ Q:=fun ops k h1 g w a hr=>h ops k h1 g w a (hr.kZ hw)
theorem WO.cw{l:List ad}{n:Nat}{tm:List (Nat×V)}{H:ai}{Q:St→Prop}(ks:List Nat)(h:WO P GL l ⟨n,cg ks tm,H⟩ Q):WO P GL l ⟨n,tm,H⟩ Q:=WO.kZ (fun s=>jB ks s tm) h
theorem WO.runK{own:List Nat}{call:bd}(hc:bQ P GL call){n:Nat}(hn:n≤ic){l:List ad}{tm:List (Nat×V)}{H H':ai}{qo:List V}{Q:St→Prop}(ks:List Nat)(hk:ow tm=true)(h:lX own GL call n l (vN tm) H (fun t' H'=>some (.tuple (ks.map (fi t')),H'))=some (.tuple qo,H'))(hq:∀a7,(∀s,get (se ks qo) s=get a7 s∨get (se ks qo) s=.any)→Q ⟨n,a7,H'⟩):WO P GL l ⟨n,tm,H⟩ Q:=by obtain⟨a7,t',H2,iJ,hw,iT⟩:=kY hc hn (jW.tree hk) h;simp only[aaC,aaF,V.tuple.injEq]at iT;obtain⟨rfl,rfl⟩:=iT;refine hw.mono ?_;rintro s rfl;refine hq a7 (fun s=>?_ );rw[iJ s];exact mS s ks
noncomputable def vO(own:List Nat)(GL:cj)(call:bd)(aA:aU)(n:Nat)(l:List ad)(t:T)(H:ai)(k:KN):Option XR:=@Bx.rec SC (fun _=>Option XR) (fun f=>f ⟨GL,call,aA⟩ t H k) (EP own n l)
theorem tT(own:List Nat)(GL:cj)(call:bd)(aA:aU)(n:Nat)(l:List ad):vO own GL call aA n l=lX own GL call n l:=by obtain⟨f,hf,sf⟩:=xw own n l;funext t H k;unfold vO;rw[hf];exact sf ⟨GL,call,aA⟩ t H k
end
end Fw
/-
  Walks with symbolic values: branches at a truth value, runs of pieces told by a few slots, results.
-/
namespace Fw
open Go
def nn(k:Nat)(H:ai):ai:=List.replicate k none++H
section
variable {P:Program}{GL:cj}
theorem WC.aD{c:ba}{a d:IR}{σ:St}{b:Bool}{Q:Ex→St→Prop}(h:b=true)(ht:aX GL σ.tm c=.d (.bool b))(h1:WC P GL a σ Q):WC P GL (.cond c a d) σ Q:=by subst h;exact WC.cond ht h1
theorem WC.ay{c:ba}{a d:IR}{σ:St}{b:Bool}{Q:Ex→St→Prop}(h:b=false)(ht:aX GL σ.tm c=.d (.bool b))(h1:WC P GL d σ Q):WC P GL (.cond c a d) σ Q:=by subst h;exact WC.cond ht h1
def e8(id:Nat)(Q:Ex→St→Prop):Ex→St→Prop| .exit i,s=>if i=id then Q .normal s else Q (.exit i) s| .normal,s=>Q .normal s| .ret,s=>Q .ret s
theorem e8.exit{id:Nat}{Q:Ex→St→Prop}{s:St}(h:Q .normal s):e8 id Q (.exit id) s:=by simpa[e8]using h
theorem e8.other{id i:Nat}{Q:Ex→St→Prop}{s:St}(hn:i≠id)(h:Q (.exit i) s):e8 id Q (.exit i) s:=by simpa[e8,hn]using h
theorem e8.normal{id:Nat}{Q:Ex→St→Prop}{s:St}(h:Q .normal s):e8 id Q .normal s:=h
theorem e8.ret{id:Nat}{Q:Ex→St→Prop}{s:St}(h:Q .ret s):e8 id Q .ret s:=h
theorem WC.Ol{id:Nat}{b:IR}{σ:St}{Q:Ex→St→Prop}(h:WC P GL b σ (e8 id Q)):WC P GL (.block id b) σ Q:=WC.block (WC.mono h fun e s hq=>by cases e<;>exact hq)
def lY(P:Program)(GL:cj)(b:IR)(Q:Ex→St→Prop):Nat→St→Prop|0,_=>False|n+1,s=>WC P GL b s (fun e s'=>match e with| .normal=>lY P GL b Q n s'|e=>Q e s')
theorem lY.step{b:IR}{Q:Ex→St→Prop}{n:Nat}{s:St}(h:WC P GL b s (fun e s'=>match e with| .normal=>lY P GL b Q n s'|e=>Q e s')):lY P GL b Q (n+1) s:=h
theorem lY.wc{b:IR}{Q:Ex→St→Prop}{n:Nat}{s:St}(h:lY P GL b Q n s):WC P GL (.loop b) s Q:=WC.loop (fun m s=>lY P GL b Q m s) (fun m s hm=>by
 cases m with
  |zero=>exact absurd hm (by simp[lY])
  |succ m=>
   refine WC.mono hm fun e s' hq=>?_
   cases e with
    |normal=>exact⟨m,by omega,hq⟩
    |exit i=>exact hq
    |ret=>exact hq) h
def qF(rs:List iZ)(v:V):Ex→St→Prop| .exit _,_=>False|_,σ=>(fq rs σ).bind (gk σ.hp)=some v
theorem qF.ret{rs:List iZ}{v v':V}{σ:St}(h:(fq rs σ).bind (gk σ.hp)=some v')(e:v'=v):qF rs v .ret σ:=by subst e;exact h
theorem qF.normal{rs:List iZ}{v v':V}{σ:St}(h:(fq rs σ).bind (gk σ.hp)=some v')(e:v'=v):qF rs v .normal σ:=by subst e;exact h
theorem PC.RI{f:FuncId}{fn:cL}{args:List V}{v:V}(hf:aI P f=some fn)(w6:ao P f=true)(hc:(Nat.ble args.length fn.ntmps&&an 0 args)=true)(h:WC P GL fn.body ⟨fn.ntmps,tk 0 args,[]⟩ (qF fn.res v)):PC P GL f args v:=by
 rw[aaD]at hc;refine PC.body hf w6 (aaM hc.1) hc.2 (WC.mono h fun e s hq=>?_ );cases e with
  |normal=>exact hq
  |exit i=>exact hq
  |ret=>exact hq
theorem pE:∀(tm:List (Nat×V)),se (tm.map Prod.fst) (tm.map Prod.snd)=tm|[]=>rfl|(k,v)::l=>by simp[se,pE l]
theorem qG{own:List Nat}{call:bd}(hc:bQ P GL call){n:Nat}(hn:n≤ic){l2:List ad}{Q:St→Prop}:∀{l:List ad}{t:T}{H:ai}{k:KN}{x:XR}{tm:List (Nat×V)},jW tm t→lX own GL call n l t H k=some x→(∀a7 t' H',jW a7 t'→k t' H'=some x→WO P GL l2 ⟨n,a7,H'⟩ Q)→WO P GL (l++l2) ⟨n,tm,H⟩ Q
 |[],t,H,k,x,tm,hs,h,hq=>hq tm t H hs h
 |o::l,t,H,k,x,tm,hs,h,hq=>by
  have h:mQ own GL call n o t H (fun t' H'=>lX own GL call n l t' H' k)=some x:=h;obtain⟨dst,op,gd,af⟩:=o;simp only[mQ]at h;rcases qC hs h with⟨hg,h⟩|⟨hg,h⟩
  ·obtain⟨v,H',h1,h2⟩:=HO (n:=n) (af:=af) hc hs hg h;obtain⟨a7,t',iJ,h3,h4⟩:=nC hn hs h1;exact h2 _ _ _ (h4 H) (qG hc hn iJ h3 hq)
  ·obtain⟨a7,t',iJ,h3,h4⟩:=nC hn hs h;exact WO.skip hg (h4 H) (qG hc hn iJ h3 hq)
theorem WO.head{o:ad}{l:List ad}{σ:St}{Q:St→Prop}(ho:l.head?=some o)(h:WO P GL (o::l.drop 1) σ Q):WO P GL l σ Q:=by
 cases l with
  |nil=>cases ho
  |cons a l=>simp only[List.head?_cons,aaC]at ho;subst ho;exact h
end
end Fw
/-
  A call that looks into a few own rows of data and leaves them, in a drawn region.
-/
namespace Fw
open Go
section
variable {P:Program}{GL:cj}
theorem gU.WQ{f:FuncId}{mN:List V}{H0:ai}{v:V}(S:List Nat){H:ai}(h:WF P GL f mN H0 (fun r H'=>r=v∧H'=H0))(hn:S.Nodup)(hl:H0.length=S.length)(ha:an S.length mN=true)(Vm:aH 0 H0=true)(hv:aq 0 v=true)(hb:∀i,i<S.length→∃y,aE H0 i=some y∧aE H (S.getD i 0)=some y)(sF:∀i,i<S.length→S.getD i 0∈(fE S mN).flatMap bX):gU P GL f (fE S mN) H v:=by
 refine⟨h.1,fun H1 hH1 g w vs dX hh hg=>?_ ⟩;have C3:∀i,i<S.length→∃y,aE H0 i=some y∧aE H1 (S.getD i 0)=some y:=fun i hi=>by obtain⟨y,k1,k2⟩:=hb i hi;exact⟨y,k1,by rw[hH1 _ (sF i hi)];exact k2⟩
 let g0:G:=⟨fun i=>i<S.length∧g.cR (S.getD i 0),fun i=>if i<S.length then g.γ (S.getD i 0)else none,fun k=>g.fo k∨∃b x,b∉S∧g.γ b=some x∧x.own=some k⟩;have HD:∀i,i<S.length→S.getD i 0∈S:=fun i hi=>by rw[aa7,aaG hi];exact abK hi
 have sd:∀b,b∈S→∃i,i<S.length∧S.getD i 0=b:=fun b hb=>by obtain⟨i,hi,rfl⟩:=List.getElem_of_mem hb;exact⟨i,hi,by rw[aa7,aaG hi];rfl⟩
 have HI:∀i,i<S.length→g0.γ i=g.γ (S.getD i 0):=fun i hi=>by show(if i<S.length then _ else _)=_;rw[aaP hi]
 have hZ:∀k,dq g0 w k↔dq g w k:=by
  intro k;constructor
  ·rintro⟨h1,h2,h3⟩;refine⟨h1,fun hf=>h2 (.inl hf),fun b x hx hk=>?_ ⟩;by_cases lj:b∈S
   ·obtain⟨i,hi,rfl⟩:=sd b lj;exact h3 i x (by rw[HI i hi];exact hx) hk
   ·exact h2 (.inr ⟨b,x,lj,hx,hk⟩)
  ·rintro⟨h1,h2,h3⟩;refine⟨h1,?_,fun i x hx hk=>?_ ⟩
   ·rintro(hf|⟨b,x,_,hx,hk⟩)
    ·exact h2 hf
    ·exact h3 b x hx hk
   ·simp only[g0]at hx;split at hx
    ·exact h3 _ x hx hk
    ·cases hx
 have KR:Sub S g0 g w:=⟨fun i hi=>⟨fun h=>h.2,fun h=>⟨hi,h⟩⟩,HI,hZ⟩;have nV:nY 0 g g0 w:=⟨fun b hb=>by omega,fun b hb=>by omega,fun k hk=>(hZ k).2 hk⟩;have jx:∀b x k,g.γ b=some x→x.own=some k→k<w.heap.size:=RV.eO hh;have Oa:az g0 w H0:=by
  refine⟨fun i hi=>by rw[hl];exact hi.1,fun i x hx=>?_,fun i y hy=>?_,fun i i' x x' k hx g_ hk iT=>?_,fun k hk=>⟨?_,fun i x hx iT=>?_ ⟩⟩
  ·simp only[g0]at hx;split at hx
   ·rename_i hi;obtain⟨h1,y,h2,h3⟩:=hh.live _ x hx;obtain⟨y0,k1,k2⟩:=C3 i hi;rw[h2]at k2;simp only[aaC]at k2;subst k2;exact⟨⟨hi,h1⟩,y,k1,RB.agree nV (fN Vm k1) h3⟩
   ·cases hx
  ·have hi:i<S.length:=by rw[←hl];exact jZ hy
   obtain⟨y0,k1,k2⟩:=C3 i hi;obtain⟨x,hx⟩:=hh.back _ _ k2;exact⟨x,by rw[HI i hi];exact hx⟩
  ·simp only[g0]at hx g_;split at hx
   ·rename_i hi;split at g_
    ·rename_i lv;exact pz hn hi lv (hh.inj _ _ x x' k hx g_ hk iT)
    ·cases g_
   ·cases hx
  ·rcases hk with hk|⟨b,x,_,hx,hk⟩
   ·exact(hh.fo k hk).1
   ·exact jx b x k hx hk
  ·simp only[g0]at hx;split at hx
   ·rename_i hi;rcases hk with hk|⟨b,x2,lj,u5,uS⟩
    ·exact(hh.fo k hk).2 _ x hx iT
    ·have:=hh.inj _ b x x2 k hx u5 iT uS;exact lj (by rw[←this];exact HD i hi)
   ·cases hx
 have hG:gn GL g0 w:=⟨fun n cs hn=>⟨(hZ n).2 (hg.rd n cs hn).1,dx.keeps (im:=dq g w) (uZ:=dq g0 w) (fun k hk=>⟨(hZ k).2 hk,rfl⟩) (hg.rd n cs hn).1 _ _ (hg.rd n cs hn).2⟩,fun k hk=>⟨(hZ k).2 (hg.w0 k hk).1,(hg.w0 k hk).2⟩⟩;refine(h.2 g0 w vs ((aV.uT KR _ _ ha).1 dX) Oa hG).mono ?_;rintro e w' ⟨x,v',HE,H',rfl,⟨rfl,rfl⟩,hx,rZ,he⟩;have RJ:∀i x,g0.γ i=some x→HE.γ i=some x:=by
  intro i x hx;obtain⟨hd,y,hy,hr⟩:=Oa.live i x hx;obtain⟨x',g_⟩:=rZ.back i y hy;obtain⟨_,y',yI,vz⟩:=rZ.live i x' g_;rw[hy]at yI;simp only[aaC]at yI;subst yI;have hs:=he.step i hd;rw[hx,g_]at hs;rw[g_];cases x with
   |cells b c u=>
    rcases hs with rfl|⟨b',c',u',rfl,hu⟩
    ·rfl
    ·exfalso;cases y<;>simp only[RB]at hr vz;omega
   |nil=>
    rcases hs with rfl|⟨b',c',u',rfl,hu⟩
    ·rfl
    ·exfalso;cases y<;>simp only[RB]at hr vz
   |obj b=>exact adh some hs
 have MT:∀k,dq HE w' k→dq g w' k:=by
  rintro k ⟨h1,h2,h3⟩;rw[he.fo]at h2;refine⟨h1,fun hf=>h2 (.inl hf),fun b x hx hk=>?_ ⟩;by_cases lj:b∈S
  ·obtain⟨i,hi,rfl⟩:=sd b lj;exact h3 i x (RJ i x (by rw[HI i hi];exact hx)) hk
  ·exact h2 (.inr ⟨b,x,lj,hx,hk⟩)
 have RL:nY 0 HE g w':=⟨fun b hb=>by omega,fun b hb=>by omega,MT⟩;have hE:cr g w g w':=by refine⟨he.os,he.tape,he.output,he.size,fun k hk=>?_,fun b hb=>hb,fun b _=>GB.step.refl _,rfl,fun k hk=>he.eQ k (.inl hk)⟩;obtain⟨k1,k2⟩:=he.keeps k ((hZ k).2 hk);exact⟨MT k k1,k2⟩
 refine⟨x,rfl,RV.agree RL _ _ hv hx,hE,?_⟩;refine⟨hh.cR,fun b x hx=>?_,hh.back,hh.inj,fun k hk=>⟨abr (hh.fo k hk).1 he.size,(hh.fo k hk).2⟩⟩;obtain⟨hd,y,hy,hr⟩:=hh.live b x hx;refine⟨hd,y,hy,?_⟩;by_cases lj:b∈S
 ·obtain⟨i,hi,rfl⟩:=sd b lj;obtain⟨_,y2,hy2,wZ⟩:=rZ.live i x (RJ i x (by rw[HI i hi];exact hx));obtain⟨y0,k1,k2⟩:=C3 i hi;rw[hy]at k2;simp only[aaC]at k2;subst k2;rw[hy2]at k1;simp only[aaC]at k1;subst k1;exact RB.agree RL (fN Vm hy2) wZ
 ·exact RB.ext hE (fun k hk=>he.eQ k (.inr ⟨b,x,lj,hx,hk⟩)) hr
end
end Fw
/-
  Drawn regions whose calls may look into own rows of data.
-/
namespace Fw
open Go
mutual
def BD:D→D→Bool| .bool a,.bool b=>a==b| .int k a,.int k' b=>KV k k'&&a_ a b| .str a,.str b=>ae a b| .list a,.list b=>ES a b|_,_=>false
def ES:List (List D)→List (List D)→Bool|[],[]=>true|a::x,b::y=>ET a b&&ES x y|_,_=>false
def ET:List D→List D→Bool|[],[]=>true|a::x,b::y=>BD a b&&ET x y|_,_=>false
end
theorem n6:∀{x y:List UInt8},ae x y=true→x=y
 |[],[],_=>rfl
 |[],_::_,h=>by simp[ae]at h
 |_::_,[],h=>by simp[ae]at h
 |a::x,b::y,h=>by
  simp only[ae]at h;cases hb:Nat.beq a.toNat b.toNat with
   |false=>rw[hb]at h;cases h
   |true=>rw[hb]at h;rw[n6 h,acC.1 (aaI hb)]
mutual
theorem xx:∀{x y:D},BD x y=true→x=y
 | .bool a,y,h=>by cases y<;>simp[BD]at h;rw[h]
 | .int k a,y,h=>by cases y<;>simp[BD]at h;rename_i k' b;rw[tK.1 h.1];have:=h.2;rw[kB]at this;rw[eq_of_beq this]
 | .str a,y,h=>by cases y<;>simp[BD]at h;rw[n6 h]
 | .list a,y,h=>by cases y<;>simp[BD]at h;rw[Dt h]
theorem Dt:∀{x y:List (List D)},ES x y=true→x=y
 |[],[],_=>rfl
 |[],_::_,h=>by simp[ES]at h
 |_::_,[],h=>by simp[ES]at h
 |a::x,b::y,h=>by simp only[ES,aaD]at h;rw[Du h.1,Dt h.2]
theorem Du:∀{x y:List D},ET x y=true→x=y
 |[],[],_=>rfl
 |[],_::_,h=>by simp[ET]at h
 |_::_,[],h=>by simp[ET]at h
 |a::x,b::y,h=>by simp only[ET,aaD]at h;rw[xx h.1,Du h.2]
end
def cz:List V→List V→Bool|[],[]=>true| .d a::x,.d b::y=>BD a b&&cz x y| .ab::x,.ab::y=>cz x y|_,_=>false
theorem jD:∀{x y:List V},cz x y=true→x=y
 |[],[],_=>rfl
 |[],_::_,h=>by simp[cz]at h
 | .d a::x,.d b::y,h=>by simp only[cz,aaD]at h;rw[xx h.1,jD h.2]
 | .ab::x,.ab::y,h=>by simp only[cz]at h;rw[jD h]
 |a::x,[],h=>by cases a<;>simp[cz]at h
 | .any::_,_::_,h=>by simp[cz]at h
 | .d _::_,b::_,h=>by cases b<;>simp[cz]at h;rw[xx h.1,jD h.2]
 | .ab::_,b::_,h=>by cases b<;>simp[cz]at h;rw[jD h]
 | .ptr _ _ _::_,_::_,h=>by simp[cz]at h
 | .jU::_,_::_,h=>by simp[cz]at h
 | .ct _::_,_::_,h=>by simp[cz]at h
 | .sl _ _ _ _ _::_,_::_,h=>by simp[cz]at h
 | .map _::_,_::_,h=>by simp[cz]at h
 | .mf::_,_::_,h=>by simp[cz]at h
 | .func _ _ _::_,_::_,h=>by simp[cz]at h
 | .nK::_,_::_,h=>by simp[cz]at h
 | .iface _ _::_,_::_,h=>by simp[cz]at h
 | .cd::_,_::_,h=>by simp[cz]at h
 | .gX::_,_::_,h=>by simp[cz]at h
 | .agg _::_,_::_,h=>by simp[cz]at h
 | .tuple _::_,_::_,h=>by simp[cz]at h
 | .iter _ _::_,_::_,h=>by simp[cz]at h
def gB:ai→ai→Bool|[],[]=>true|some (.cells a)::x,some (.cells b)::y=>cz a b&&gB x y|some .nil::x,some .nil::y=>gB x y|_,_=>false
theorem oO:∀{x y:ai},gB x y=true→x=y
 |[],[],_=>rfl
 |[],_::_,h=>by simp[gB]at h
 |a::x,[],h=>by rcases a with _|a<;>first|(simp[gB]at h;done)|(cases a<;>simp[gB]at h)
 |a::x,b::y,h=>by
  rcases a with _|a
  ·simp[gB]at h
  ·rcases b with _|b
   ·cases a<;>simp[gB]at h
   ·cases a<;>cases b<;>simp[gB]at h
    ·rw[jD h.1,oO h.2]
    ·rw[oO h]
def zo:List V→Bool|[]=>true| .d _::l=>zo l| .ab::l=>zo l|_=>false
theorem zp(S:List Nat):∀{l:List V},zo l=true→fE S l=l|[],_=>rfl|v::l,h=>by cases v<;>simp[zo]at h<;>simp[fE,dU,zp S h]
theorem Dv(n:Nat):∀{l:List V},zo l=true→an n l=true|[],_=>rfl|v::l,h=>by cases v<;>simp[zo]at h<;>simp[an,aq,Dv n h]
def K9(S:List Nat):V→Option V
 | .sl b h off len sz=>
  match S.idxOf? b with
   |some i=>some (.sl i h off len sz)
   |none=>none
 | .d x=>some (.d x)
 | .ab=>some .ab
 | .agg cs=>bif zo cs then some (.agg cs)else none
 |_=>none
theorem K_{S:List Nat}{u u0:V}(h:K9 S u=some u0):dU S u0=u∧aq S.length u0=true:=by
 cases u<;>simp only[K9]at h<;>try cases h
 ·exact⟨rfl,rfl⟩
 ·exact⟨rfl,rfl⟩
 ·rename_i b hh off len sz;split at h
  ·rename_i i hi;simp only[aaC]at h;subst h;obtain⟨k1,k2⟩:=lJ hi;exact⟨by simp only[dU,k2],by simpa[aq,aaT]using k1⟩
  ·cases h
 ·rename_i cs;cases hc:zo cs with
   |false=>rw[hc]at h;cases h
   |true=>rw[hc]at h;simp only[aaH,aaC]at h;subst h;exact⟨by simp[dU,zp S hc],by simp[aq,Dv _ hc]⟩
theorem zq{S:List Nat}:∀{l l0:List V},bK (K9 S) l=some l0→fE S l0=l∧an S.length l0=true
 |[],l0,h=>by simp only[bK,aaC]at h;subst h;exact⟨rfl,rfl⟩
 |u::l,l0,h=>by
  simp only[bK]at h;split at h
  ·cases h
  ·rename_i u0 hu;split at h
   ·cases h
   ·rename_i l1 hl;simp only[aaC]at h;subst h;obtain⟨k1,k2⟩:=K_ hu;obtain⟨k3,k4⟩:=zq hl;exact⟨by simp[fE,k1,k3],by simp[an,k2,k4]⟩
abbrev oP:=FuncId→List V→ai→Option V
section
variable {P:Program}{GL:cj}
def sN(P:Program)(GL:cj)(dc:oP):Prop:=∀f args H v,dc f args H=some v→gU P GL f args H v
def xy(aA:aU)(call:bd):oP:=fun f args H=>
 match aA f args with
  |some v=>some v
  |none=>
   bif decide ((args.flatMap bX).Nodup)then
    match bK (K9 (args.flatMap bX)) args,bK (aE H) (args.flatMap bX)with
     |some mN,some bs=>
      bif aH 0 (bs.map some)then
       match call f mN (bs.map some)with
        |some (v,H0)=>bif aq 0 v&&gB H0 (bs.map some)then some v else none
        |none=>none else none
     |_,_=>none
   else none
theorem BE{aA:aU}{call:bd}(hp:bu P GL aA)(hc:bQ P GL call):sN P GL (xy aA call):=by
 intro f args H v h;unfold xy at h;split at h
 ·rename_i u hu;simp only[aaC]at h;subst h;exact(hp _ _ _ hu).rF
 ·cases hn:decide ((args.flatMap bX).Nodup)with
   |false=>rw[hn]at h;cases h
   |true=>
    rw[hn,aaH]at h;split at h
    ·rename_i mN bs h1 h2;cases hl:aH 0 (bs.map some)with
      |false=>rw[hl]at h;cases h
      |true=>
       rw[hl,aaH]at h;split at h
       ·rename_i u H0 cD;cases he:(aq 0 u&&gB H0 (bs.map some))with
         |false=>rw[he]at h;cases h
         |true=>
          rw[he,aaH,aaC]at h;subst h;rw[aaD]at he;have hH:=oO he.2;obtain⟨k1,k2⟩:=zq h1;have hlen:=cV h2;have hw:=hc _ _ _ _ _ cD;rw[hH]at hw;have:=gU.WQ (v:=u) (args.flatMap bX) (H:=H) hw (by simpa using hn) (by simpa using hlen.symm) k2 hl he.1 (fun i hi=>by
           have lA:(args.flatMap bX)[i]? =some ((args.flatMap bX).getD i 0):=by rw[aa7,aaG hi];rfl
           obtain⟨y,h3,h4⟩:=ju i _ h2 lA;refine⟨y,?_,h4⟩;have:∀(l:List eG)(i:Nat)(y:eG),l[i]? =some y→aE (l.map some) i=some y:=by
            intro l;induction l with
             |nil=>intro i y h;simp at h
             |cons a l ih=>
              intro i y h;cases i with
               |zero=>simp at h;simp[aE,h]
               |succ i=>simp at h;simpa[aE]using ih i y h
           exact this _ _ _ h3) (fun i hi=>by rw[k1,aa7,aaG hi];exact abK hi)
          rwa[k1]at this
       ·cases h
    ·cases h
end
end Fw
/-
  Drawn regions with values that hypotheses settle, and calls that summaries answer.
-/
namespace Fw
open Go
def look{α:Type}:List (Nat×α)→Nat→Option α|[],_=>none|(k,a)::l,i=>bif Nat.beq k i then some a else look l i
def Qm(b':Option Bool)(v:V):V×List (Bool×Bool):=match b',v with
 |some b',.d (.bool b)=>(.d (.bool b'),[(b,b')])
 |_,v=>(v,[])
abbrev pF:=List (FuncId×List V×V)
def zr(own:List Nat)(GL:cj)(dc:oP)(ov:List (Nat×Bool))(sp:List (Nat×V))(base:Nat):Nat→List ad→St→Option (List (((V×Wr)×List Nat)×Option V)×List (Bool×Bool)×pF)
 |_,[],_=>some ([],[],[])
 |i,o::l,σ=>
  let cv:Option V:=match bA o.op with
   |some (f,args)=>(match look sp i with|some v=>some v|none=>dc f (bh (aX GL σ.tm) args) σ.hp)
   |none=>bif nW o.dst own then none else f_ (aX GL σ.tm) o.op
  match eX GL σ.tm σ.hp (base+i) o cv with
   |none=>none
   |some r=>
    match zr own GL dc ov sp base (i+1) l (σ.fu o.dst (Qm (look ov i) r.1).1 (aZ σ.hp r.2))with
     |none=>none
     |some (rs,cs,calls)=>some (((((Qm (look ov i) r.1).1,r.2),lC (aX GL σ.tm) o.op),cv)::rs,(Qm (look ov i) r.1).2++cs,(match bA o.op,look sp i with|some (f,args),some v=>[(f,bh (aX GL σ.tm) args,v)]|_,_=>[])++calls)
def n7:List (Bool×Bool)→Prop|[]=>True|(a,b)::l=>a=b∧n7 l
def rL(P:Program)(GL:cj):pF→Prop|[]=>True|(f,args,v)::l=>PC P GL f args v∧rL P GL l
theorem qH:∀{a b:List (Bool×Bool)},n7 (a++b)→n7 a∧n7 b|[],_,h=>⟨trivial,h⟩|(x,y)::a,b,h=>⟨⟨h.1,(qH h.2).1⟩,(qH h.2).2⟩
section
variable {P:Program}{GL:cj}
theorem qI:∀{a b:pF},rL P GL (a++b)→rL P GL a∧rL P GL b|[],_,h=>⟨trivial,h⟩|(x,y,z)::a,b,h=>⟨⟨h.1,(qI h.2).1⟩,(qI h.2).2⟩
theorem Om{b:Option Bool}{v:V}(h:n7 (Qm b v).2):(Qm b v).1=v:=by
 unfold Qm at h⊢;split
 ·rename_i b' b2;simp only[n7]at h;rw[h.1]
 ·rfl
theorem zt{own:List Nat}{dc:oP}(hd:sN P GL dc){ov:List (Nat×Bool)}{sp:List (Nat×V)}{base:Nat}:∀{l:List ad}{i:Nat}{σ:St}{qs:List (((V×Wr)×List Nat)×Option V)}{cs:List (Bool×Bool)}{calls:pF},zr own GL dc ov sp base i l σ=some (qs,cs,calls)→n7 cs→rL P GL calls→∀qc:Nat→Option V,(∀j q,qs[j]? =some q→qc (i+j)=q.2)→mg GL base qc i l σ=some (qs.map (·.1))∧qs.length=l.length∧∀k o q,l[k]? =some o→qs[k]? =some q→∀f args,bA o.op=some (f,args)→ar o.guard (aB (fun j=>decide (j<i+k)) i l (qs.map (·.1)) σ).tm=some true→gU P GL f (bh (aX GL (aB (fun j=>decide (j<i+k)) i l (qs.map (·.1)) σ).tm) args) (aB (fun j=>decide (j<i+k)) i l (qs.map (·.1)) σ).hp q.1.1.1
 |[],i,σ,qs,cs,calls,h,_,_,qc,hq=>by simp only[zr,aaC,aaF]at h;obtain⟨rfl,rfl,rfl⟩:=h;exact⟨rfl,rfl,by simp⟩
 |o::l,i,σ,qs,cs,calls,h,gZ,iE,qc,hq=>by
  simp only[zr]at h;split at h
  ·cases h
  ·rename_i r hr;split at h
   ·cases h
   ·rename_i rs my On Kg;simp only[aaC,aaF]at h;obtain⟨rfl,rfl,rfl⟩:=h;obtain⟨MU,Qi⟩:=qH gZ;obtain⟨Oe,RH⟩:=qI iE;have hv:=Om MU;rw[hv]at Kg hq⊢;have h0:=hq 0 _ rfl;simp only[abN]at h0;obtain⟨k1,k2,k3⟩:=zt hd Kg Qi RH qc (fun j q hj=>by have:=hq (j+1) q (by simpa using hj);rwa[show i+(j+1)=i+1+j by omega]at this);have iW:∀(l:List ad)(rs:List ((V×Wr)×List Nat))(k:Nat)(σ:St),i≤k→aB (fun j=>decide (j<i)) k l rs σ=σ:=by
     intro l rs k σ hk;rw[bY (K':=fun _=>false) (fun j _=>by simp;omega)];have:∀(l:List ad)(rs:List ((V×Wr)×List Nat))(i:Nat)(s:St),aB (fun _=>false) i l rs s=s:=by
      intro l;induction l with
       |nil=>intro rs i s;simp[aB]
       |cons o l ih=>
        intro rs i s;cases rs with
         |nil=>simp[aB]
         |cons r rs=>simp only[aB,aaX];exact ih _ _ _
     exact this _ _ _ _
    have hrr:(r.1,r.2)=r:=rfl;refine⟨?_,by simp[k2],fun k o' q iV yy f args cD hg=>?_ ⟩
    ·simp only[mg,h0,hr,k1,aaY]
    ·cases k with
      |zero=>
       simp at iV yy;subst iV;subst yy;simp only[abN]at hg⊢;rw[iW _ _ _ _ (aaQ _)]at hg⊢;simp only[cD]at hr Oe;unfold eX at hr;rw[hg]at hr;simp only[cD]at hr;cases hs:look sp i with
        |some v=>rw[hs]at hr Oe;simp only[aaV,aaC]at hr;rw[←hr];exact(Oe.1).rF
        |none=>
         rw[hs]at hr;simp only at hr;cases hp:dc f (bh (aX GL σ.tm) args) σ.hp with
          |none=>rw[hp]at hr;simp at hr
          |some v=>rw[hp]at hr;simp only[aaV,aaC]at hr;rw[←hr];exact hd _ _ _ _ hp
      |succ k=>
       simp at iV yy;have e:i+(k+1)=i+1+k:=by omega
       have yM:aB (fun j=>decide (j<i+(k+1))) i (o::l) (((r.1,r.2),lC (aX GL σ.tm) o.op)::rs.map (·.1)) σ=aB (fun j=>decide (j<i+1+k)) (i+1) l (rs.map (·.1)) (σ.fu o.dst r.1 (aZ σ.hp r.2)):=by simp only[aB,e,show decide (i<i+1+k)=true by simp;omega,aaH]
       simp only[aaY]at hg⊢;rw[yM]at hg⊢;exact k3 k o' q iV yy f args cD hg
def Dw(own:List Nat)(GL:cj)(dc:oP)(ov:List (Nat×Bool))(sp:List (Nat×V))(n:Nat)(l:List ad)(ks:List Nat)(tm:List (Nat×V))(H:ai):Option (List V×ai×List (Bool×Bool)×pF):=match zr own GL dc ov sp H.length 0 l ⟨n,tm,H++List.replicate l.length none⟩with
 |none=>none
 |some (qs,cs,calls)=>bif c6 l (qs.map (·.1))&&eZ n l&&dT (H.length+l.length) (qs.map (·.1))then(match aB (fun _=>true) 0 l (qs.map (·.1)) ⟨n,tm,H++List.replicate l.length none⟩with|⟨_,eU,H2⟩=>some (ks.map (get eU),H2,cs,calls))else none
theorem vP{tm:List (Nat×V)}(s:Nat):∀(ks:List Nat),get (se ks (ks.map (get tm))) s=get tm s∨get (se ks (ks.map (get tm))) s=.any
 |[]=>.inr rfl
 |k::ks=>by
  simp only[aaY,se,aC];by_cases e:k=s
  ·subst e;rw[aaP rfl];exact .inl rfl
  ·rw[aaL e];exact vP s ks
theorem WC.HX{own:List Nat}{dc:oP}(hm:P.follows .mixedOrders=true)(hp:sN P GL dc)(ov:List (Nat×Bool))(sp:List (Nat×V)){n:Nat}{l:List ad}{tm a7:List (Nat×V)}{H H':ai}{cs:List (Bool×Bool)}{calls:pF}{Q:Ex→St→Prop}(h:Dw own GL dc ov sp n l (a7.map Prod.fst) tm H=some (a7.map Prod.snd,H',cs,calls))(gZ:n7 cs)(iE:rL P GL calls)(hq:Q .normal ⟨n,a7,H'⟩):WC P GL (.draw l) ⟨n,tm,H⟩ Q:=by
 unfold Dw at h;split at h
 ·cases h
 ·rename_i qs my On G2;cases hb:(c6 l (qs.map (·.1))&&eZ n l&&dT (H.length+l.length) (qs.map (·.1)))with
   |false=>rw[hb]at h;cases h
   |true=>
    rw[hb,aaH]at h;simp only[aaC,aaF]at h;obtain⟨h1,rfl,rfl,rfl⟩:=h;simp only[aaD]at hb;obtain⟨k1,k2,k3⟩:=zt hp G2 gZ iE (fun i=>(qs[i]? ).bind (·.2)) (fun j q hj=>by simp[hj]);have hw:WC P GL (.draw l) ⟨n,tm,H⟩ (fun e s=>e=.normal∧s=aB (fun _=>true) 0 l (qs.map (·.1)) ⟨n,tm,H++List.replicate l.length none⟩):=by refine WC.draw (σ:=⟨n,tm,H⟩) hm k1 hb.1.1 hb.1.2 hb.2 (fun i o r ho hr f args cD hg=>?_ ) ⟨rfl,rfl⟩;simp only[abf,aaE]at hr;obtain⟨q,KO,rfl⟩:=hr;have:=k3 i o q ho KO f args cD;simp only[aaU]at this;exact this hg
    have Bi:(aB (fun _=>true) 0 l (qs.map (·.1)) ⟨n,tm,H++List.replicate l.length none⟩).n=n:=eS;generalize aB (fun _=>true) 0 l (qs.map (·.1)) ⟨n,tm,H++List.replicate l.length none⟩=σF at hw Bi h1 hq;obtain⟨n2,eU,H2⟩:=σF;simp only at Bi h1 hq;subst Bi;refine WC.post (hw.mono ?_ );rintro e s ⟨rfl,rfl⟩;refine⟨_,au.kZ (eU:=a7) (fun s=>?_ ),hq⟩;rw[←pE a7,←h1];exact vP s _
end
end Fw
/-
  Runs step by step over code and what waits behind it: from one point of a function to another.
-/
namespace Fw
open Go
inductive Fr where
 |seq (b:IR)
 |block (id:Nat)
 |loop (n:Nat) (b:IR)
inductive kJ where
 |code (c:IR)
 |ops (l:List ad)
 |out (e:Ex)
section
variable {P:Program}{GL:cj}
def KQ(P:Program)(GL:cj):List Fr→(Ex→St→Prop)→Ex→St→Prop
 |[],Q=>Q
 | .seq b::K,Q=>
  fun e s=>
   match e with
    | .normal=>WC P GL b s (KQ P GL K Q)
    |e=>KQ P GL K Q e s
 | .block id::K,Q=>e8 id (KQ P GL K Q)
 | .loop n b::K,Q=>
  fun e s=>
   match e with
    | .normal=>lY P GL b (KQ P GL K Q) n s
    |e=>KQ P GL K Q e s
def CG(P:Program)(GL:cj)(cur:kJ)(K:List Fr)(n:Nat)(tm:List (Nat×V))(H:ai)(Q:Ex→St→Prop):Prop:=match cur with
 | .code c=>WC P GL c ⟨n,tm,H⟩ (KQ P GL K Q)
 | .ops l=>WO P GL l ⟨n,tm,H⟩ (fun σ=>KQ P GL K Q .normal σ)
 | .out e=>KQ P GL K Q e ⟨n,tm,H⟩
def mi(go:kJ→List Fr→Option (kJ×List Fr))(e:Ex)(K:List Fr):Option (kJ×List Fr):=match K with
 |[]=>none
 | .seq b::K=>
  (match e with
   | .normal=>go (.code b) K
   |e=>go (.out e) K)
 | .block id::K=>
  (match e with
   | .exit i=>bif Nat.beq i id then go (.out .normal) K else go (.out (.exit i)) K
   |e=>go (.out e) K)
 | .loop j b::K=>
  (match e with
   | .normal=>
    (match j with
     |0=>none
     |j+1=>go (.code b) (.loop j b::K))
   |e=>go (.out e) K)
def jE:Nat→List Bool→kJ→List Fr→Option (kJ×List Fr)
 |0,_,cur,K=>some (cur,K)
 |N+1,bs,cur,K=>
  match cur with
   | .code .skip=>jE N bs (.out .normal) K
   | .code (.seq a b)=>jE N bs (.code a) (.seq b::K)
   | .code (.region _)=>jE N bs (.out .normal) K
   | .code (.draw _)=>jE N bs (.out .normal) K
   | .code (.cond _ a b)=>
    (match bs with
     |true::bs=>jE N bs (.code a) K
     |false::bs=>jE N bs (.code b) K
     |[]=>none)
   | .code (.block id b)=>jE N bs (.code b) (.block id::K)
   | .code (.loop b)=>jE N bs (.code b) (.loop 40 b::K)
   | .code (.exit i)=>jE N bs (.out (.exit i)) K
   | .code .ret=>none
   | .ops _=>jE N bs (.out .normal) K
   | .out e=>mi (jE N bs) e K
noncomputable def MV(v:V)(bs:List Bool)(a b:List Bool→Option XR):Option XR:=match v with
 | .d (.bool t)=>
  (match bs with
   |true::bs=>bif t then a bs else none
   |false::bs=>bif t then none else b bs
   |[]=>none)
 |_=>none
noncomputable def RN(go:kJ→List Fr→Option XR)(e:Ex)(K:List Fr):Option XR:=match K with
 |[]=>none
 | .seq b::K=>
  (match e with
   | .normal=>go (.code b) K
   |e=>go (.out e) K)
 | .block id::K=>
  (match e with
   | .exit i=>bif Nat.beq i id then go (.out .normal) K else go (.out (.exit i)) K
   |e=>go (.out e) K)
 | .loop j b::K=>
  (match e with
   | .normal=>
    (match j with
     |0=>none
     |j+1=>go (.code b) (.loop j b::K))
   |e=>go (.out e) K)
noncomputable def yz(own:List Nat)(GL:cj)(call:bd)(aA:aU)(n:Nat)(k:kJ→KN):Nat→List Bool→kJ→List Fr→T→ai→Option XR
 |0,_,cur,_,t,H=>k cur t H
 |N+1,bs,cur,K,t,H=>
  match cur with
   | .code .skip=>yz own GL call aA n k N bs (.out .normal) K t H
   | .code (.seq a b)=>yz own GL call aA n k N bs (.code a) (.seq b::K) t H
   | .code (.region l)=>vO own GL call aA n l t H (fun t' H'=>yz own GL call aA n k N bs (.out .normal) K t' H')
   | .code (.draw l)=>qE own GL call aA n l t H (fun t' H'=>yz own GL call aA n k N bs (.out .normal) K t' H')
   | .code (.cond x a b)=>MV (jC GL t x) bs (fun bs=>yz own GL call aA n k N bs (.code a) K t H) (fun bs=>yz own GL call aA n k N bs (.code b) K t H)
   | .code (.block id b)=>yz own GL call aA n k N bs (.code b) (.block id::K) t H
   | .code (.loop b)=>yz own GL call aA n k N bs (.code b) (.loop 40 b::K) t H
   | .code (.exit i)=>yz own GL call aA n k N bs (.out (.exit i)) K t H
   | .code .ret=>none
   | .ops l=>vO own GL call aA n l t H (fun t' H'=>yz own GL call aA n k N bs (.out .normal) K t' H')
   | .out e=>RN (fun cur K=>yz own GL call aA n k N bs cur K t H) e K
theorem HY{own:List Nat}{call:bd}{aA:aU}(hm:P.follows .mixedOrders=true)(hc:bQ P GL call)(hp:bu P GL aA){n:Nat}(hn:n≤ic){k:kJ→KN}{x:XR}{yJ:kJ}{K':List Fr}{Q:Ex→St→Prop}(hk:∀a7 t' H',jW a7 t'→k yJ t' H'=some x→CG P GL yJ K' n a7 H' Q):∀{N:Nat}{bs:List Bool}{cur:kJ}{K:List Fr}{t:T}{H:ai}{tm:List (Nat×V)},jW tm t→jE N bs cur K=some (yJ,K')→yz own GL call aA n k N bs cur K t H=some x→CG P GL cur K n tm H Q
 |0,bs,cur,K,t,H,tm,hs,h1,h2=>by simp only[jE,aaC,aaF]at h1;obtain⟨rfl,rfl⟩:=h1;exact hk tm t H hs h2
 |N+1,bs,cur,K,t,H,tm,hs,h1,h2=>by
  have ih:=fun{bs cur K t H tm}=>@HY own call aA hm hc hp n hn k x yJ K' Q hk N bs cur K t H tm
  cases cur with
   |code c=>
    cases c with
     |skip=>exact WC.skip (ih hs h1 h2)
     |seq a b=>have:=ih hs (show jE N bs (.code a) (.seq b::K)=_ from h1) h2;exact WC.seq (WC.mono this fun e s hq=>by cases e<;>exact hq)
     |region l=>simp only[yz]at h2;rw[tT]at h2;obtain⟨a7,t',H',iJ,hw,iT⟩:=kY hc hn hs h2;refine WC.region (hw.mono ?_ );rintro s rfl;exact ih iJ (show jE N bs (.out .normal) K=_ from h1) iT
     |draw l=>simp only[yz]at h2;obtain⟨a7,t',H',iJ,hw,iT⟩:=vM hm hc hp hn hs h2;refine WC.mono hw ?_;rintro e s ⟨rfl,rfl⟩;exact ih iJ (show jE N bs (.out .normal) K=_ from h1) iT
     |cond c a b=>
      simp only[yz]at h2;simp only[jE]at h1;rw[nB hs]at h2;unfold MV at h2;split at h2
      ·rename_i tb Ql;cases bs with
        |nil=>cases h2
        |cons b0 bs=>
         cases b0 with
          |true=>
           cases tb with
            |true=>exact WC.cond (t:=true) Ql (ih hs h1 h2)
            |false=>cases h2
          |false=>
           cases tb with
            |true=>cases h2
            |false=>exact WC.cond (t:=false) Ql (ih hs h1 h2)
      ·cases h2
     |block id b=>exact WC.Ol (ih hs (show jE N bs (.code b) (.block id::K)=_ from h1) h2)
     |loop b=>have:=ih hs (show jE N bs (.code b) (.loop 40 b::K)=_ from h1) h2;exact lY.wc (n:=41) (lY.step (WC.mono this fun e s hq=>by cases e<;>exact hq))
     |exit i=>exact WC.exit (ih hs (show jE N bs (.out (.exit i)) K=_ from h1) h2)
     |ret=>cases h1
   |ops l=>simp only[yz]at h2;rw[tT]at h2;obtain⟨a7,t',H',iJ,hw,iT⟩:=kY hc hn hs h2;refine hw.mono ?_;rintro s rfl;exact ih iJ (show jE N bs (.out .normal) K=_ from h1) iT
   |out e=>
    simp only[jE]at h1;simp only[yz]at h2;unfold mi at h1;unfold RN at h2;cases K with
     |nil=>cases h1
     |cons f K=>
      cases f with
       |seq b=>
        cases e with
         |normal=>exact ih (cur:=.code b) (K:=K) hs h1 h2
         |exit i=>exact ih (cur:=.out (.exit i)) (K:=K) hs h1 h2
         |ret=>exact ih (cur:=.out .ret) (K:=K) hs h1 h2
       |block id=>
        cases e with
         |normal=>exact ih (cur:=.out .normal) (K:=K) hs h1 h2
         |ret=>exact ih (cur:=.out .ret) (K:=K) hs h1 h2
         |exit i=>
          simp only at h1 h2;show e8 id (KQ P GL K Q) (.exit i) _;cases hb:Nat.beq i id with
           |true=>rw[hb]at h1 h2;have:i=id:=aaI hb;subst this;exact e8.exit (ih (cur:=.out .normal) (K:=K) hs h1 h2)
           |false=>
            rw[hb]at h1 h2;have et:i≠id:=fun e=>by rw[e,aa0]at hb;cases hb
            exact e8.other et (ih (cur:=.out (.exit i)) (K:=K) hs h1 h2)
       |loop j b=>
        cases e with
         |normal=>
          cases j with
           |zero=>cases h1
           |succ j=>have:=ih (cur:=.code b) (K:=.loop j b::K) hs h1 h2;exact lY.step (WC.mono this fun e s hq=>by cases e<;>exact hq)
         |ret=>exact ih (cur:=.out .ret) (K:=K) hs h1 h2
         |exit i=>exact ih (cur:=.out (.exit i)) (K:=K) hs h1 h2
def vQ:kJ→List ad| .code (.region l)=>l| .ops l=>l|_=>[]
def WR(j:Nat)(c:kJ):kJ:=match j with
 |0=>c
 |_=>.ops ((vQ c).drop j)
def HZ:kJ→Bool| .code (.region _)=>true| .ops _=>true|_=>false
def Dx:kJ→Bool| .out _=>true|_=>false
def oQ(N j:Nat)(bs:List Bool)(cur:kJ)(K:List Fr):Option (kJ×List Fr):=match jE N bs cur K with
 |some (c,K')=>bif (Nat.beq j 0&& !Dx c)||(!Nat.beq j 0&&HZ c)then some (WR j c,K')else none
 |none=>none
noncomputable def EU(own:List Nat)(GL:cj)(call:bd)(aA:aU)(n:Nat)(N j:Nat)(bs:List Bool)(cur:kJ)(K:List Fr)(ks:List Nat)(tm:List (Nat×V))(H:ai):Option XR:=bif Nat.ble n ic&&ow tm then
 yz own GL call aA n (fun c t H=>
  match j with
   |0=>some (.tuple (ks.map (fi t)),H)
   |j+1=>vO own GL call aA n ((vQ c).take (j+1)) t H (fun t H=>some (.tuple (ks.map (fi t)),H))) N bs cur K (vN tm) H else none
theorem CG.kZ{cur:kJ}(hc:Dx cur=false){K:List Fr}{n:Nat}{tm eU:List (Nat×V)}{H:ai}{Q:Ex→St→Prop}(hw:∀s,get eU s=get tm s∨get eU s=.any)(h:CG P GL cur K n eU H Q):CG P GL cur K n tm H Q:=by
 cases cur with
  |code c=>exact WC.kZ hw h
  |ops l=>exact WO.kZ hw h
  |out e=>cases hc
theorem CG.st{own:List Nat}{call:bd}{aA:aU}(hm:P.follows .mixedOrders=true)(hc:bQ P GL call)(hp:bu P GL aA)(N j:Nat)(bs:List Bool){cur c':kJ}{K K':List Fr}{n:Nat}{tm a7:List (Nat×V)}{H H':ai}{Q:Ex→St→Prop}(h1:oQ N j bs cur K=some (c',K'))(h2:EU own GL call aA n N j bs cur K (a7.map Prod.fst) tm H=some (.tuple (a7.map Prod.snd),H'))(hq:CG P GL c' K' n a7 H' Q):CG P GL cur K n tm H Q:=by
 unfold oQ at h1;split at h1
 ·rename_i c K2 WS;cases hb:(Nat.beq j 0&& !Dx c)||(!Nat.beq j 0&&HZ c)with
   |false=>rw[hb]at h1;cases h1
   |true=>
    rw[hb]at h1;simp only[aaH,aaC,aaF]at h1;obtain⟨rfl,rfl⟩:=h1;unfold EU at h2;cases hk:(Nat.ble n ic&&ow tm)with
     |false=>rw[hk]at h2;cases h2
     |true=>
      rw[hk,aaH]at h2;rw[aaD]at hk;have hn:=aaM hk.1;refine HY hm hc hp hn (yJ:=c) (K':=K2) (fun eU t2 H2 hs uS=>?_ ) (jW.tree hk.2) WS h2;cases j with
       |zero=>simp only[aaC,aaF,V.tuple.injEq]at uS;obtain⟨e1,rfl⟩:=uS;simp only[Nat.beq_eq_true_eq,aa0,aa2,abp,abi,Bool.or_false,abj]at hb;refine CG.kZ hb (fun s=>?_ ) hq;rw[hs s,←pE a7,←e1];exact mS s _
       |succ j=>
        have hj:Nat.beq (j+1) 0=false:=rfl;rw[hj]at hb;simp only[abi,abD,aa2,abM]at hb;have uS:vO own GL call aA n ((vQ c).take (j+1)) t2 H2 (fun t H=>some (.tuple ((a7.map Prod.fst).map (fi t)),H))=_:=uS;rw[tT]at uS;have hq:CG P GL (.ops ((vQ c).drop (j+1))) K2 n a7 H' Q:=hq;have RO:WO P GL (vQ c) ⟨n,eU,H2⟩ (fun σ=>KQ P GL K2 Q .normal σ):=by rw[←acm (j+1) (vQ c)];refine qG hc hn hs uS (fun tm3 t3 H3 hs3 hk3=>?_ );simp only[aaC,aaF,V.tuple.injEq]at hk3;obtain⟨e1,rfl⟩:=hk3;refine WO.kZ (eU:=a7) (fun s=>?_ ) hq;rw[hs3 s,←pE a7,←e1];exact mS s _
        cases c with
         |code c=>
          cases c with
           |region l=>exact WC.region RO
           |_=>simp[HZ]at hb
         |ops l=>exact RO
         |out e=>cases hb
 ·cases h1
theorem CG.start{f:FuncId}{fn:cL}{args:List V}{v:V}(hf:aI P f=some fn)(w6:ao P f=true)(hc:(Nat.ble args.length fn.ntmps&&an 0 args)=true)(h:CG P GL (.code fn.body) [] fn.ntmps (tk 0 args) [] (qF fn.res v)):PC P GL f args v:=PC.RI hf w6 hc h
theorem KQ.ret:∀{K:List Fr}{Q:Ex→St→Prop}{σ:St},Q .ret σ→KQ P GL K Q .ret σ|[],_,_,h=>h| .seq _::K,_,_,h=>KQ.ret (K:=K) h| .block _::K,_,_,h=>KQ.ret (K:=K) h| .loop _ _::K,_,_,h=>KQ.ret (K:=K) h
theorem CG.ret{K:List Fr}{n:Nat}{tm:List (Nat×V)}{H:ai}{rs:List iZ}{v v':V}(h:(fq rs ⟨n,tm,H⟩).bind (gk H)=some v')(e:v'=v):CG P GL (.code .ret) K n tm H (qF rs v):=WC.ret (KQ.ret (qF.ret h e))
theorem CG.rt{K:List Fr}{n:Nat}{tm:List (Nat×V)}{H:ai}{rs:List iZ}{v:V}(v':V)(e:v'=v)(h:(fq rs ⟨n,tm,H⟩).bind (gk H)=some v':=by kernel_rfl):CG P GL (.code .ret) K n tm H (qF rs v):=CG.ret h e
theorem CG.aD{c:ba}{a d:IR}{K:List Fr}{n:Nat}{tm:List (Nat×V)}{H:ai}{Q:Ex→St→Prop}{b:Bool}(h:b=true)(ht:aX GL tm c=.d (.bool b))(h1:CG P GL (.code a) K n tm H Q):CG P GL (.code (.cond c a d)) K n tm H Q:=WC.aD h ht h1
theorem CG.ay{c:ba}{a d:IR}{K:List Fr}{n:Nat}{tm:List (Nat×V)}{H:ai}{Q:Ex→St→Prop}{b:Bool}(h:b=false)(ht:aX GL tm c=.d (.bool b))(h1:CG P GL (.code d) K n tm H Q):CG P GL (.code (.cond c a d)) K n tm H Q:=WC.ay h ht h1
theorem CG.gO{l:List ad}{K:List Fr}{n:Nat}{tm:List (Nat×V)}{H:ai}{Q:Ex→St→Prop}(h:CG P GL (.ops l) K n tm H Q):CG P GL (.code (.region l)) K n tm H Q:=WC.region h
theorem CG.HX{own:List Nat}{dc:oP}(hm:P.follows .mixedOrders=true)(hp:sN P GL dc)(ov:List (Nat×Bool))(sp:List (Nat×V)){n:Nat}{l:List ad}{K:List Fr}{tm a7:List (Nat×V)}{H H':ai}{cs:List (Bool×Bool)}{calls:pF}{Q:Ex→St→Prop}(h:Dw own GL dc ov sp n l (a7.map Prod.fst) tm H=some (a7.map Prod.snd,H',cs,calls))(gZ:n7 cs)(iE:rL P GL calls)(hq:CG P GL (.out .normal) K n a7 H' Q):CG P GL (.code (.draw l)) K n tm H Q:=WC.HX hm hp ov sp h gZ iE hq
end
end Fw
