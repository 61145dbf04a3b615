/-
  A drawn region whose last operations come one behind the other, behind all others.
-/
import Derived.Test.YtgfgckimecpmlaaGreatDoorFe
set_option linter.unusedSimpArgs false
set_option linter.unusedVariables false
namespace Fw
open Go
section
variable {P:Program}{GL:ca}
def de(P:Program)(GL:ca)(o:ad)(σ:St)(X:St→Prop):Prop:=∀(o':Oper)(ops:Array Oper),(bD P o'.op).getD .bad=o.op→fJ ops.toList o'=some o.guard→o'.dst=o.dst→∀g w a,R GL g w a σ→∀(K:Act→World→Prop)(Q':Exit→Act→World→Prop),(∀g' w' a' aL,R GL g' w' a' aL→ch g w g' w'→X aL→K a' w')→if Region.wanted o' (yielded ops a.tmps)then o'.wp P a w K Q' else K (a.put o'.dst undef) w
def tc(P:Program)(GL:ca):List ad→St→(St→Prop)→Prop|[],σ,Q=>Q σ|o::l,σ,Q=>de P GL o σ (fun aL=>tc P GL l aL Q)
theorem de.bu{o:ad}{σ aL:St}{X:St→Prop}{v:V}{wr:Wr}(hg:ao o.guard σ.tm=some true)(he:bu (aU GL σ.tm) σ.hp σ.hp.length o.op=some (v,wr))(hp:σ.put o.dst v (aX σ.hp wr)=some aL)(h:X aL):de P GL o σ X:=by
 intro o' ops ei lh dN g w a hr K Q' hK;rw[c6 hr lh hg,aan rfl];obtain⟨g',w',nx,h1,h2,h3,h4,_⟩:=sL (P:=P) (a:=a) (o:=o') (eE ei (fun e=>by rw[e]at he;cases he)) he hr.ev hr.heap hr.heap.fresh;unfold Oper.wp;rw[h1];rcases h2 with⟨x,rfl,hx⟩|⟨rfl,rfl⟩
 ·simp only[Oper.upon];rw[dN];exact hK g' w' _ aL (hr.gi h4 h3 hp hx) h4 h
 ·simp only[Oper.upon];rw[dN];exact hK g' w' _ aL (hr.gi h4 h3 hp (by simp only[RV])) h4 h
theorem de.skip{o:ad}{σ aL:St}{X:St→Prop}(hg:ao o.guard σ.tm=some false)(hp:σ.put o.dst (.tuple []) σ.hp=some aL)(h:X aL):de P GL o σ X:=by intro o' ops ei lh dN g w a hr K Q' hK;rw[c6 hr lh hg,aal (by simp),dN];exact hK g w _ aL (hr.gi (ch.refl _ _) hr.heap hp (by simp only[RV];exact⟨#[],rfl,by simp[aP]⟩)) (ch.refl _ _) h
theorem de.o5{o:ad}{σ:St}{X:St→Prop}{f:FuncId}{args:List V}(hg:ao o.guard σ.tm=some true)(ey:∀(o':Oper)(g:G)(w:World)(a:Act),(bD P o'.op).getD .bad=o.op→R GL g w a σ→aq P f=true→∃vs:Array Value,aP g w args vs.toList∧(execOp a.eval o').run P w=.ok (.enter f vs) w)(h:WF P GL f args σ.hp fun v H'=>∃aL,σ.put o.dst v H'=some aL∧X aL):de P GL o σ X:=by intro o' ops ei lh dN g w a hr K Q' hK;rw[c6 hr lh hg,aan rfl];obtain⟨vs,dI,uJ⟩:=ey o' g w a ei hr h.1;unfold Oper.wp;rw[uJ];simp only[Oper.upon];refine(h.2 g w vs dI hr.heap hr.dQ).mono ?_;rintro e w' ⟨x,v,g',H',rfl,⟨aL,bj,Jx⟩,hx,hh,he⟩;simp only;rw[dN];exact hK g' w' _ aL (hr.gi he hh bj hx) he Jx
theorem de.call{o:ad}{σ:St}{X:St→Prop}{f:FuncId}{args:List a_}(ho:o.op=.call f args)(hg:ao o.guard σ.tm=some true)(h:WF P GL f (bd (aU GL σ.tm) args) σ.hp fun v H'=>∃aL,σ.put o.dst v H'=some aL∧X aL):de P GL o σ X:=by
 refine de.o5 hg (fun o' g w a ei hr wO=>?_ ) h;rw[ho]at ei;obtain⟨c,hc,ka⟩:=fM (eE ei (by simp)) (.inl ⟨f,args,rfl⟩);have eT:c.callee=.value (.func f)∧bJ au c.args.toList=some args:=by
  unfold dH at ka;split at ka;case h_6 f' Gm=>
   split at ka
   ·simp only[aad,ki.call.injEq]at ka;obtain⟨l,hl,rfl,rfl⟩:=ka;exact⟨Gm,hl⟩
   ·cases ka
  all_goals exfalso
  all_goals first|(simp at ka;done)|(repeat' split at ka)<;>simp at ka
 refine⟨c.args.map a.eval,by simpa using hY hr.ev eT.2,?_ ⟩;have:=eV wO (c.args.map a.eval) w;simp[execOp,hc,resolve,eT.1,Act.eval,Deferred.ofValue,invoke,this]
theorem de.e_{o:ad}{σ:St}{X:St→Prop}{f:FuncId}{x:a_}{first cap:List V}{args:List a_}(ho:o.op=.e_ x args)(hx:aU GL σ.tm x=.func f first cap)(hg:ao o.guard σ.tm=some true)(h:WF P GL f (first++bd (aU GL σ.tm) args++cap) σ.hp fun v H'=>∃aL,σ.put o.dst v H'=some aL∧X aL):de P GL o σ X:=by
 refine de.o5 hg (fun o' g w a ei hr wO=>?_ ) h;rw[ho]at ei;obtain⟨c,hc,ka⟩:=fM (eE ei (by simp)) (.inr ⟨x,args,rfl⟩);have eT:∃t,c.callee=.value (.tmp t)∧x=.t t∧bJ au c.args.toList=some args:=by
  unfold dH at ka;split at ka;case h_7 t' Gm=>simp only[aad,ki.e_.injEq]at ka;obtain⟨l,hl,rfl,rfl⟩:=ka;exact⟨t',Gm,rfl,hl⟩
  all_goals exfalso
  all_goals first|(simp at ka;done)|(repeat' split at ka)<;>simp at ka
 obtain⟨t,ht,rfl,gJ⟩:=eT;have hv:=hr.ev (.tmp t) (.t t) rfl;rw[hx]at hv;simp only[RV]at hv;obtain⟨p,q,e1,e2,e3⟩:=hv;refine⟨p++c.args.map a.eval++q,?_,?_⟩
 ·simp only[abD,acn];exact aP.append (aP.append e2 (hY hr.ev gJ)) e3
 ·have:=eV wO (p++c.args.map a.eval++q) w;simp only[Array.append_assoc]at this;simp[execOp,hc,resolve,ht,e1,Deferred.ofValue,invoke,this]
theorem de.fS{o:ad}{σ aL:St}{X:St→Prop}{v:V}(hg:ao o.guard σ.tm=some true)(he:fS (aU GL σ.tm) o.op=some v)(hp:σ.put o.dst v σ.hp=some aL)(h:X aL):de P GL o σ X:=by intro o' ops ei lh dN g w a hr K Q' hK;rw[c6 hr lh hg,aan rfl];obtain⟨w',x,k1,k2,k3,k4⟩:=p_ (P:=P) (a:=a) (o:=o') (eE ei (fun e=>by rw[e]at he;cases he)) he hr.ev hr.heap;unfold Oper.wp;rw[k1];simp only[Oper.upon];rw[dN];exact hK g w' _ aL (hr.gi k4 k3 hp k2) k4 h
theorem WC.JH{l ts:List ad}{σ:St}{Q:Ex→St→Prop}{qc:Nat→Option V}{rs:List ((V×Wr)×List Nat)}(hm:P.follows .mixedOrders=true)(ey:l3 GL σ.hp.length qc 0 l (b8 σ l.length)=some rs)(eF:cT l rs=true)(dN:eO σ.n l=true)(o9:dK (σ.hp.length+l.length) rs=true)(hq:∀(i:Nat)(o:ad)(r:(V×Wr)×List Nat),l[i]? =some o→rs[i]? =some r→∀f args,bw o.op=some (f,args)→ao o.guard (dr l rs (b8 σ l.length) i).tm=some true→fl P GL f (bd (aU GL (dr l rs (b8 σ l.length) i).tm) args) (dr l rs (b8 σ l.length) i).hp r.1.1)(ew:ts≠[])(JB:∀(k:Nat)(ot:ad),ts[k]? =some ot→∀e∈ot.after,e<l.length+k)(MO:∀ot,ts[0]? =some ot→∀j,j<l.length→∃e∈ot.after,e<l.length∧(j=e∨Nat.testBit ((cM 0 [] l).getD e 0) j=true))(Lr:∀(k:Nat)(ot:ad),ts[k+1]? =some ot→l.length+k∈ot.after)(h:tc P GL ts (ax (fun _=>true) 0 l rs (b8 σ l.length)) (Q .normal)):WC P GL (.draw (l++ts)) σ Q:=by
 intro code hc g w rX hr;obtain⟨id,ops,rfl,hl⟩:∃id ops,code=.region id ops true∧iW P ops.toList true ops.toList=some (l++ts):=by
  cases code with
   |region id ops draw=>
    simp only[aH]at hc;split at hc
    ·rename_i l' FL;cases draw with
      |false=>simp at hc
      |true=>simp at hc;subst hc;exact⟨id,ops,rfl,FL⟩
    ·cases hc
   |seq=>simp only[aH]at hc;split at hc<;>simp at hc
   |cond=>simp only[aH]at hc;split at hc<;>simp at hc
   |_=>simp[aH]at hc
 obtain⟨Gz,dD⟩:=gV hl;have hlen:l.length+ts.length=ops.size:=by simpa using Gz
 have Yp:0<ts.length:=List.length_pos_iff.2 ew;obtain⟨MI,MJ⟩:=mz ey;have yK:=jZ eF MI;have sX:∀(i:Nat)(o:ad),l[i]? =some o→∀d,o.dst=some d→d<σ.n:=by intro i o ho d hd;have:=(aaq.1 dN) o (aap ho);rw[hd]at this;simpa[aas]using this
 have dd:∀r∈rs,∀b,bq r.1.2=some b→b<σ.hp.length+l.length:=by intro r hr b hb;have:=(aaq.1 o9) r hr;rw[hb]at this;simpa[aas]using this
 generalize n7:b8 σ l.length=dj at*;have nC:dj.hp.length=σ.hp.length+l.length:=by rw[←n7];simp[b8]
 have MK:dj.n=σ.n:=by rw[←n7];rfl
 refine wp_region_any hm ?_;have Zw:∀(c_ k:Nat)(listed:Array Bool)(g1:G)(w1:World)(a1:Act)(s:St),k+c_=ts.length→listed.size=ops.size→(∀j,j<l.length+k→listed.getD j false=true)→(∀j,l.length+k≤j→listed.getD j false=false)→R GL g1 w1 a1 s→ch g w g1 w1→tc P GL (ts.drop k) s (Q .normal)→wpAny P .any ops (cr GL g w Q) c_ listed a1 w1:=by
  intro c_;induction c_ with
   |zero=>
    intro k listed g1 w1 a1 s hk cx jw _ hR hE hS;have Tx:k=ts.length:=by omega
    subst Tx;rw[List.drop_length]at hS;refine⟨?_,g1,s,hR,hE,hS⟩;unfold Region.ready;rw[aaX];intro j hj;simp only[aaJ]at hj;have h1:=jw j (by omega);have h2:listed.getD j true=true:=by rw[aaj]at h1⊢;rw[Array.getElem?_eq_getElem (by omega)]at h1⊢;exact h1
    simp[h2]
   |succ c_ ih=>
    intro k listed g1 w1 a1 s hk cx jw ve hR hE hS;have nI:k<ts.length:=by omega
    have Ls:l.length+k<ops.size:=by omega
    have eF:ops[l.length+k]? =some ops[l.length+k]:=Array.getElem?_eq_getElem Ls;obtain⟨o,DQ,ei,lh,hd,iI⟩:=dD (l.length+k) _ eF;have ho:ts[k]? =some o:=by rw[aaS (by omega)]at DQ;simpa using DQ
    have Gy:ts[k]=o:=by rw[aaf nI]at ho;simpa using ho
    rw[aa6 nI,Gy]at hS;have hS:de P GL o s (fun aL=>tc P GL (ts.drop (k+1)) aL (Q .normal)):=hS;constructor
    ·intro n8;exfalso;have:l.length+k∈Region.ready .any ops listed:=by
      unfold Region.ready;rw[aay];refine⟨by simpa using Ls,?_ ⟩;have h2:listed.getD (l.length+k) true=false:=by have:=ve (l.length+k) (aao _);rw[aaj]at this⊢;rw[Array.getElem?_eq_getElem (by omega)]at this⊢;exact this
      simp only[h2,abd,aaE,eF,aat,aaN,aaB];intro e he;cases hb:Region.binds .any e with
       |false=>rfl
       |true=>
        simp only[aa',abO];have FO:e.on∈o.after:=by rw[iI];simp only[ct,aaG,aay];exact⟨e,⟨by simpa using he,hb⟩,rfl⟩
        exact jw _ (JB k o ho _ FO)
     rw[n8]at this;cases this
    ·intro i hi;unfold Region.ready at hi;rw[aay]at hi;have rZ:i<ops.size:=by simpa using hi.1
     have sY:ops[i]? =some ops[i]:=Array.getElem?_eq_getElem rZ;have lj:=hi.2;simp only[aac,aaU,sY,aat,aaN,aaB]at lj;have qY:listed.getD i false=false:=by have:=lj.1;rw[aaj]at this⊢;rw[Array.getElem?_eq_getElem (by omega)]at this⊢;exact this
     have AM:i=l.length+k:=by
      rcases ac6 i (l.length+k)with h1|h1|h1
      ·rw[jw i h1]at qY;cases qY
      ·exact h1
      ·exfalso;obtain⟨m,rfl⟩:∃m,i=l.length+(m+1):=⟨i - l.length - 1,by omega⟩;obtain⟨oi,P4,_,_,_,P5⟩:=dD _ _ sY;have UK:ts[m+1]? =some oi:=by rw[aaS (by omega)]at P4;simpa using P4
       have UL:=Lr m oi UK;rw[P5]at UL;simp only[ct,aaG,aay]at UL;obtain⟨ed,⟨vf,rV⟩,Zx⟩:=UL;have:=lj.2 ed (by simpa using vf);rw[rV,Zx]at this;have h3:listed.getD (l.length+m) false=true:=by simpa using this
       rw[ve (l.length+m) (by omega)]at h3;cases h3
     subst AM;unfold wpOp;simp only[eF];have r_:=hS ops[l.length+k] ops ei lh hd g1 w1 a1 hR (wpAny P .any ops (cr GL g w Q) c_ (listed.setIfInBounds (l.length+k) true)) (cr GL g w Q) (by
      intro g2 w2 a2 s2 Jz Cm OQ;refine ih (k+1) _ g2 w2 a2 s2 (by omega) (by simpa using cx) ?_ ?_ Jz (hE.trans Cm) OQ
      ·intro j hj;rw[aaj];by_cases Zy:j=l.length+k
       ·subst Zy;rw[aaI (by omega)];rfl
       ·rw[aaC (by omega),←aaj];exact jw j (by omega)
      ·intro j hj;rw[aaj,aaC (by omega),←aaj];exact ve j (by omega))
     split
     ·rename_i hw;simp only[hw,aa4]at r_;exact .inl r_
     ·rename_i hw;simp only[hw]at r_;exact r_
 have key:∀(c_:Nat)(listed:Array Bool)(g1:G)(w1:World)(a1:Act),listed.size=ops.size→((List.range ops.size).filter fun j=> !listed.getD j false).length=c_→gU l (fun j=>listed.getD j false)→(∀j,l.length≤j→listed.getD j false=false)→R GL g1 w1 a1 (ax (fun j=>listed.getD j false) 0 l rs dj)→ch g w g1 w1→(∀b,g1.cK b→b<σ.hp.length∨∃j,listed.getD j false=true∧b=σ.hp.length+j)→wpAny P .any ops (cr GL g w Q) c_ listed a1 w1:=by
  intro c_;induction c_ with
   |zero=>intro listed g1 w1 a1 cx iv iq wT hR hE gQ;exfalso;have:=aby iv;rw[aaX]at this;have:=this l.length (by simp;omega);rw[wT l.length (aao _)]at this;simp at this
   |succ c_ ih=>
    intro listed g1 w1 a1 cx iv iq wT hR hE gQ;constructor
    ·intro n8;exfalso;have uJ:∃j,j<ops.size∧listed.getD j false=false:=by
      have ew:((List.range ops.size).filter fun j=> !listed.getD j false)≠[]:=by intro e;rw[e]at iv;simp at iv
      obtain⟨j,hj⟩:=ab1 _ ew;rw[aay]at hj;exact⟨j,by simpa using hj.1,by simpa using hj.2⟩
     obtain⟨j,⟨FN,rW⟩,yE⟩:=vb uJ;have Gs:ops[j]? =some ops[j]:=Array.getElem?_eq_getElem FN;obtain⟨o,ho,_,_,_,iI⟩:=dD j _ Gs;have wU:∀e∈o.after,e<j:=by
      intro e he;rcases aaW j l.length with pQ|pQ
      ·have UF:l[j]? =some o:=by rwa[aa2 pQ]at ho
       exact yK.before j _ (bA UF (aaf (show j<rs.length by omega))) e he
      ·rw[aaS pQ]at ho;have:=JB (j - l.length) o ho e he;omega
     have:j∈Region.ready .any ops listed:=by
      unfold Region.ready;rw[aay];refine⟨by simpa using FN,?_ ⟩;have h2:listed.getD j true=false:=by rw[aaj]at rW⊢;rw[Array.getElem?_eq_getElem (by omega)]at rW⊢;exact rW
      simp only[h2,abd,aaE,Gs,aat,aaN,aaB];intro e he;cases hb:Region.binds .any e with
       |false=>rfl
       |true=>
        simp only[aa',abO];have FO:e.on∈o.after:=by rw[iI];simp only[ct,aaG,aay];exact⟨e,⟨by simpa using he,hb⟩,rfl⟩
        have bL:=wU e.on FO;cases OO:listed.getD e.on false with
         |true=>rfl
         |false=>have:=yE e.on ⟨by omega,OO⟩;omega
     rw[n8]at this;cases this
    ·intro i hi;unfold Region.ready at hi;rw[aay]at hi;have rZ:i<ops.size:=by simpa using hi.1
     have sY:ops[i]? =some ops[i]:=Array.getElem?_eq_getElem rZ;have lj:=hi.2;simp only[aac,aaU,sY,aat,aaN,aaB]at lj;obtain⟨o,DQ,ei,lh,hd,iI⟩:=dD i _ sY;rcases aaW i l.length with MP|PW;case inr=>
      have dA:∀e∈o.after,listed.getD e false=true:=by intro e he;rw[iI]at he;simp only[ct,aaG,aay]at he;obtain⟨ed,⟨vf,rV⟩,rfl⟩:=he;have:=lj.2 ed (by simpa using vf);simpa[rV]using this
      have Gy:ts[i - l.length]? =some o:=by rwa[aaS PW]at DQ
      have MB:i=l.length:=by
       rcases aaW l.length i with h1|h1
       ·exfalso;obtain⟨m,rfl⟩:∃m,i=l.length+(m+1):=⟨i - l.length - 1,by omega⟩;have h2:=dA _ (Lr m o (by rw[←Gy];congr 1;omega));rw[wT _ (by omega)]at h2;cases h2
       ·omega
      subst MB;rw[acj]at Gy;have s6:∀j,j<l.length→listed.getD j false=true:=by
       intro j hj;obtain⟨e,he,_,MQ⟩:=MO o Gy j hj;rcases MQ with rfl|MQ
       ·exact dA _ he
       ·exact gU.reach yK iq e j MQ (dA e he)
      have mD:ax (fun j=>listed.getD j false) 0 l rs dj=ax (fun _=>true) 0 l rs dj:=bZ (fun j hj=>by simp only[aau];exact s6 j hj);rw[mD]at hR;have Lo:c_+1=ts.length:=by
       rw[←iv,←hlen];have:∀m,((List.range (l.length+m)).filter fun j=> !listed.getD j false).length=m:=by
        intro m;induction m with
         |zero=>
          have e1:(List.range l.length).filter (fun j=> !listed.getD j false)=[]:=by rw[aaX];intro j hj;rw[s6 j (aaJ.1 hj)];simp
          rw[abk,e1];rfl
         |succ m JA=>rw[←Nat.add_assoc,aca,aa9,aaA,JA];have h3:=wT (l.length+m) (by omega);rw[List.filter_cons_of_pos (by simp only[h3];rfl)];rfl
       exact this _
      exact(Zw (c_+1) 0 listed g1 w1 a1 _ (by omega) cx (fun j hj=>s6 j (by omega)) (fun j hj=>wT j (by omega)) hR hE (by simpa using h)).2 l.length (by unfold Region.ready;rw[aay];exact hi)
     have ho:l[i]? =some o:=by rwa[aa2 MP]at DQ
     have Gu:i<rs.length:=by omega
     have sZ:rs[i]? =some rs[i]:=aaf Gu;obtain⟨r,jW,wL,DO⟩:=MJ i o ho;rw[sZ]at jW;simp only[aab]at jW;simp only[aau]at wL DO;have qY:listed.getD i false=false:=by have:=lj.1;rw[aaj]at this⊢;rw[Array.getElem?_eq_getElem (by omega)]at this⊢;exact this
     have dA:∀e∈o.after,listed.getD e false=true:=by intro e he;rw[iI]at he;simp only[ct,aaG,aay]at he;obtain⟨ed,⟨vf,rV⟩,rfl⟩:=he;have:=lj.2 ed (by simpa using vf);simpa[rV]using this
     have A2:=bA ho sZ;have nK:∀{j:Nat}{y:lT},(gK l rs)[j]? =some y→gT {dst:=o.dst,lk:=dq o,rd:=rs[i].2,ws:=bq rs[i].1.2,after:=o.after} y=true→listed.getD j false=decide (j<i):=fun hy hm=>agree yK iq ho qY dA A2 hy hm (by rw[ng];exact hm)
     have A3:∀t∈dq o,get (ax (fun j=>listed.getD j false) 0 l rs dj).tm t=get (dr l rs dj i).tm t:=by
      intro t ht;refine kD rfl (fun j o' h1 h2=>?_ );simp only[aau];have A4:j<rs.length:=by have:=(aai.1 h1).1;omega
      have fB:=bA h1 (aaf A4);refine nK fB ?_;unfold gT;have:nM o'.dst (dq o)=true:=iY.2 ⟨t,h2,ht⟩;simp[this]
     have Gv:∀b∈lq (aU GL (dr l rs dj i).tm) o.op,aA (ax (fun j=>listed.getD j false) 0 l rs dj).hp b=aA (dr l rs dj i).hp b:=by
      intro b hb;refine kE rfl (fun j r' h1 h2=>?_ );simp only[aau];have pQ:j<l.length:=by have:=(aai.1 h1).1;omega
      have fB:=bA (aaf pQ) h1;refine nK fB ?_;unfold gT;have:nM (bq r'.1.2) rs[i].2=true:=iY.2 ⟨b,h2,by rw[jW,DO];exact hb⟩;simp[this]
     have qd:=lx (GL:=GL) (ns:=σ.hp.length+i) (cv:=qc i) A3 Gv;have A5:eI GL (dr l rs dj i).tm (dr l rs dj i).hp (σ.hp.length+i) o (qc i)=some r.1:=wL;rw[A5]at qd;have A6:∀x∈looks o.op,aU GL (ax (fun j=>listed.getD j false) 0 l rs dj).tm x=aU GL (dr l rs dj i).tm x:=fun x hx=>kF (fun t ht=>A3 t (by simp only[dq,aaV,ab_];exact .inl ⟨x,hx,ht⟩))
     have ML:ao o.guard (ax (fun j=>listed.getD j false) 0 l rs dj).tm=ao o.guard (dr l rs dj i).tm:=gj (fun d w hd=>A3 d (by simp[dq,hd]));unfold wpOp;simp only[sY];have r_:=rY (P:=P) (GL:=GL) (ops:=ops) (v:=r.1.1) (wr:=r.1.2) ei lh hd qd (fun f args hc Ch=>by
      rw[ML]at Ch;have:=hq i o rs[i] ho sZ f args hc Ch;rw[jW]at this;have Ln:bd (aU GL (ax (fun j=>listed.getD j false) 0 l rs dj).tm) args=bd (aU GL (dr l rs dj i).tm) args:=by refine dR (fun x hx=>A6 x ?_ );cases mC:o.op<;>rw[mC]at hc<;>simp[bw]at hc;obtain⟨rfl,rfl⟩:=hc;simpa[looks]using hx
      rw[Ln];refine this.congr (fun b hb=>Gv b ?_ );cases mC:o.op<;>rw[mC]at hc<;>simp[bw]at hc;obtain⟨rfl,rfl⟩:=hc;simpa only[lq]using hb) hR (by
      intro yI;rcases gQ _ yI with h1|⟨j,h1,h2⟩
      ·omega
      ·have:j=i:=by omega
       subst this;rw[qY]at h1;cases h1) (fun d yI=>by rw[eG,MK];exact sX i o ho d yI) (wpAny P .any ops (cr GL g w Q) c_ (listed.setIfInBounds i true)) (cr GL g w Q) (by
      intro g2 w2 a2 Jz Cm MM;have rE:∀j,(listed.setIfInBounds i true).getD j false=df (fun j=>listed.getD j false) i j:=by
       intro j;simp only[df,aaj];by_cases hj:j=i
       ·subst hj;rw[aaI (by omega)];simp
       ·rw[aaC (by omega)];simp[hj]
      have mD:ax (fun j=>(listed.setIfInBounds i true).getD j false) 0 l rs dj=ax (df (fun j=>listed.getD j false) i) 0 l rs dj:=bZ (fun j _=>rE _);refine ih _ g2 w2 a2 (by simpa using cx) ?_ ?_ (fun j hj=>by rw[rE];simp only[df];rw[wT j hj];simp;omega) ?_ (hE.trans Cm) ?_
      ·have e1:(fun j=> !(listed.setIfInBounds i true).getD j false)=fun j=> !listed.getD j false&& !decide (j=i):=by funext j;rw[rE j];simp[df]
       rw[e1];have n9:∀(m:Nat)(f:Nat→Bool),i<m→f i=true→((List.range m).filter f).length=((List.range m).filter fun j=>f j&& !decide (j=i)).length+1:=by
        intro m f;induction m with
         |zero=>intro h;omega
         |succ m JA=>
          intro sN Gw;rw[aca,aa9,aa9,aaA,aaA];rcases aaW i m with h1|h1
          ·rw[JA h1 Gw];have:m≠i:=by omega
           simp[abi,this];split<;>simp<;>omega
          ·have:m=i:=by omega
           subst this;have s5:(List.range m).filter f=(List.range m).filter fun j=>f j&& !decide (j=m):=by
            refine acJ (fun j hj=>?_ );have:j≠m:=by have:=aaJ.1 hj;omega
            simp[this]
           rw[←s5];simp[abi,Gw]
       have:=n9 ops.size (fun j=> !listed.getD j false) rZ (by simp[qY]);rw[iv]at this;omega
      ·intro j o' iR hj e he;simp only[rE]at hj⊢;simp only[df,aa1,aam]at hj⊢;rcases hj with hj|rfl
       ·exact .inl (iq j o' iR hj e he)
       ·rw[ho]at iR;simp only[aab]at iR;subst iR;exact .inl (dA e he)
      ·rw[mD];refine Jz.congr ?_ (fun t=>?_ ) ?_
       ·rw[eG];have:∀(s:St)(v:V)(H:ah),(s.fc o.dst v H).n=s.n:=by intro s v H;cases o.dst<;>rfl
        rw[this,eG]
       ·rw[iZ (k:=i) (by omega) ho sZ qY (by omega) (fun j o' h1 h2 h3 h4 h5=>by
         simp only[aau]at h5;have A4:j<rs.length:=by have:=(aai.1 h1).1;omega
         have fB:=bA h1 (aaf A4);have:=nK fB (by unfold gT;have:gL o.dst o'.dst=true:=c7.2 ⟨t,h4,h3⟩;simp[this]);rw[h5]at this;simpa using this.symm),iu,jW]
       ·have AZ:∀(s:St)(v:V)(H:ah),(s.fc o.dst v H).hp=H:=by intro s v H;cases o.dst<;>rfl
        rw[AZ];refine mA ?_ (fun b=>?_ )
        ·rw[c8 nC (by rw[←nC]at dd⊢;simpa[nC]using dd)];cases hw:r.1.2 with
          |none=>simp only[aX];rw[c8 nC (by simpa using dd)]
          |some p=>obtain⟨c,y⟩:=p;have hc:c<σ.hp.length+l.length:=dd rs[i] (abg Gu) c (by rw[jW,hw];rfl);have Ji:=c8 (K:=fun j=>listed.getD j false) (i:=0) (l:=l) (rs:=rs) nC (by simpa using dd);simp only[aX];rw[eN (by omega),Ji]
        ·have:=i_ (K:=fun j=>listed.getD j false) (b:=b) (σ:=dj) (i0:=0) (k:=i) (l:=l) (by omega) (by omega) sZ qY (fun j r' h1 h2 h3 h4 h5=>by
          simp only[aau]at h5;have pQ:j<l.length:=by have:=(aai.1 h1).1;omega
          have fB:=bA (aaf pQ) h1;have:=nK fB (by unfold gT;have:gL (bq rs[i].1.2) (bq r'.1.2)=true:=c7.2 ⟨b,h4,h3⟩;simp[this]);rw[h5]at this;simpa using this.symm)
         rw[this,jW]
      ·intro b hb;rcases MM b hb with h1|rfl
       ·rcases gQ b h1 with h2|⟨j,h2,h3⟩
        ·exact .inl h2
        ·exact .inr ⟨j,by rw[rE];simp[df,h2],h3⟩
       ·exact .inr ⟨i,by rw[rE];simp[df],rfl⟩)
     split
     ·rename_i hw;simp only[hw,aa4]at r_;exact .inl r_
     ·rename_i hw;simp only[hw]at r_;exact r_
 have dY:∀j,(Array.replicate ops.size false).getD j false=false:=by intro j;rw[aaj,ab2];split<;>rfl
 have iS:ax (fun j=>(Array.replicate ops.size false).getD j false) 0 l rs dj=dj:=by
  have:∀(l:List ad)(rs:List ((V×Wr)×List Nat))(i:Nat)(s:St),ax (fun _=>false) i l rs s=s:=by
   intro l;induction l with
    |nil=>intro rs i s;simp[ax]
    |cons o l ih=>
     intro rs i s;cases rs with
      |nil=>simp[ax]
      |cons r rs=>simp only[ax,aaw];exact ih _ _ _
  rw[bZ (K':=fun _=>false) (fun j _=>dY _)];exact this _ _ _ _
 refine key ops.size (Array.replicate ops.size false) g _ rX (by simp) ?_ ?_ (fun j _=>dY j) ?_ (ch.drawn g w _) ?_
 ·simp only[dY,abd];rw[abP.2 (by simp)];simp
 ·intro j o _ hj;simp only[dY]at hj;cases hj
 ·rw[iS,←n7];exact(hr.pad l.length).drawn _
 ·intro b hb;exact .inl (hr.heap.cK b hb)
end
end Fw
/-
  A quicker run for what is known whole: slots in a tree, operations told apart in small steps, what comes next handed on.
-/
namespace Fw
open Go
inductive T where
 |e
 |n (l:T) (v:V) (r:T)
 deriving Inhabited
noncomputable def eY(t:T):Nat→V:=@T.rec (fun _=>Nat→V) (fun _=>V.any) (fun _ v _ gl gr i=>@Nat.rec (fun _=>V) v (fun j _=>@Nat.rec (fun _=>V) (gl (Nat.shiftRight j 1)) (fun _ _=>gr (Nat.shiftRight j 1)) (Nat.land j 1)) i) t
noncomputable def mH(k:Nat):T→Nat→V→T:=@Nat.rec (fun _=>T→Nat→V→T) (fun t _ _=>t) (fun _ ih t i v=>@T.rec (fun _=>T) (@Nat.rec (fun _=>T) (T.n T.e v T.e) (fun j _=>@Nat.rec (fun _=>T) (T.n (ih T.e (Nat.shiftRight j 1) v) V.any T.e) (fun _ _=>T.n T.e V.any (ih T.e (Nat.shiftRight j 1) v)) (Nat.land j 1)) i) (fun l u r _ _=>@Nat.rec (fun _=>T) (T.n l v r) (fun j _=>@Nat.rec (fun _=>T) (T.n (ih l (Nat.shiftRight j 1) v) u r) (fun _ _=>T.n l u (ih r (Nat.shiftRight j 1) v)) (Nat.land j 1)) i) t) k
theorem mI(i:Nat):eY .e i=.any:=rfl
theorem nj(l r:T)(v:V):eY (.n l v r) 0=v:=rfl
theorem gm(l r:T)(v:V)(j:Nat):eY (.n l v r) (j+1)=if j%2=0 then eY l (j / 2)else eY r (j / 2):=by
 have h:eY (.n l v r) (j+1)=@Nat.rec (fun _=>V) (eY l (Nat.shiftRight j 1)) (fun _ _=>eY r (Nat.shiftRight j 1)) (Nat.land j 1):=rfl;have h1:Nat.shiftRight j 1=j / 2:=by show j>>>1=_;simp[abJ]
 have h2:Nat.land j 1=j%2:=abV j;rw[h,h1,h2];rcases abq j with hj|hj<;>rw[hj]<;>rfl
theorem JI(k:Nat)(v:V):mH (k+1) .e 0 v=.n .e v .e:=rfl
theorem w4(k j:Nat)(v:V):mH (k+1) .e (j+1) v=if j%2=0 then .n (mH k .e (j / 2) v) .any .e else .n .e .any (mH k .e (j / 2) v):=by
 have h:mH (k+1) .e (j+1) v=@Nat.rec (fun _=>T) (T.n (mH k T.e (Nat.shiftRight j 1) v) V.any T.e) (fun _ _=>T.n T.e V.any (mH k T.e (Nat.shiftRight j 1) v)) (Nat.land j 1):=rfl;have h1:Nat.shiftRight j 1=j / 2:=by show j>>>1=_;simp[abJ]
 have h2:Nat.land j 1=j%2:=abV j;rw[h,h1,h2];rcases abq j with hj|hj<;>rw[hj]<;>rfl
theorem JJ(k:Nat)(l r:T)(u v:V):mH (k+1) (.n l u r) 0 v=.n l v r:=rfl
theorem w5(k j:Nat)(l r:T)(u v:V):mH (k+1) (.n l u r) (j+1) v=if j%2=0 then .n (mH k l (j / 2) v) u r else .n l u (mH k r (j / 2) v):=by
 have h:mH (k+1) (.n l u r) (j+1) v=@Nat.rec (fun _=>T) (T.n (mH k l (Nat.shiftRight j 1) v) u r) (fun _ _=>T.n l u (mH k r (Nat.shiftRight j 1) v)) (Nat.land j 1):=rfl;have h1:Nat.shiftRight j 1=j / 2:=by show j>>>1=_;simp[abJ]
 have h2:Nat.land j 1=j%2:=abV j;rw[h,h1,h2];rcases abq j with hj|hj<;>rw[hj]<;>rfl
theorem vk:∀(k:Nat)(t:T)(i s:Nat)(v:V),i+1<2^k→eY (mH k t i v) s=if s=i then v else eY t s
 |0,t,i,s,v,h=>by simp at h
 |k+1,t,i,s,v,h=>by
  have ih:=vk k;cases t with
   |e=>
    cases i with
     |zero=>
      rw[JI];cases s with
       |zero=>simp[nj]
       |succ s=>rw[gm];simp[mI]
     |succ j=>
      rw[w4];have hj:j / 2+1<2^k:=by rw[ac_]at h;omega
      by_cases h2:j%2=0
      ·rw[aan h2];cases s with
        |zero=>simp[nj,mI]
        |succ s=>
         rw[gm,ih _ _ _ _ hj];by_cases hs:s%2=0
         ·rw[aan hs];by_cases e:s / 2=j / 2
          ·have:s=j:=by omega
           simp[this]
          ·have:s≠j:=by omega
           simp[e,this,mI]
         ·rw[aal hs];have:s≠j:=by rintro rfl;exact hs h2
          simp[this,mI]
      ·rw[aal h2];cases s with
        |zero=>simp[nj,mI]
        |succ s=>
         rw[gm,ih _ _ _ _ hj];by_cases hs:s%2=0
         ·rw[aan hs];have:s≠j:=by rintro rfl;exact h2 hs
          simp[this,mI]
         ·rw[aal hs];by_cases e:s / 2=j / 2
          ·have:s=j:=by omega
           simp[this]
          ·have:s≠j:=by omega
           simp[e,this,mI]
   |n l u r=>
    cases i with
     |zero=>
      rw[JJ];cases s with
       |zero=>simp[nj]
       |succ s=>rw[gm,gm];simp
     |succ j=>
      rw[w5];have hj:j / 2+1<2^k:=by rw[ac_]at h;omega
      by_cases h2:j%2=0
      ·rw[aan h2];cases s with
        |zero=>simp[nj]
        |succ s=>
         rw[gm,gm,ih _ _ _ _ hj];by_cases hs:s%2=0
         ·rw[aan hs,aan hs];by_cases e:s / 2=j / 2
          ·have:s=j:=by omega
           simp[this]
          ·have:s≠j:=by omega
           simp[e,this]
         ·rw[aal hs,aal hs];have:s≠j:=by rintro rfl;exact hs h2
          simp[this]
      ·rw[aal h2];cases s with
        |zero=>simp[nj]
        |succ s=>
         rw[gm,gm,ih _ _ _ _ hj];by_cases hs:s%2=0
         ·rw[aan hs,aan hs];have:s≠j:=by rintro rfl;exact h2 hs
          simp[this]
         ·rw[aal hs,aal hs];by_cases e:s / 2=j / 2
          ·have:s=j:=by omega
           simp[this]
          ·have:s≠j:=by omega
           simp[e,this]
def gY:Nat:=4000
noncomputable def DT(t:T)(i:Nat)(v:V):T:=mH 12 t i v
theorem qi(t:T)(i s:Nat)(v:V)(h:i<gY):eY (DT t i v) s=if s=i then v else eY t s:=vk 12 t i s v (by simp[gY]at h⊢;omega)
def jL(tm:List (Nat×V))(t:T):Prop:=∀s,get tm s=eY t s
theorem jL.put{tm:List (Nat×V)}{t:T}(h:jL tm t){i:Nat}{v:V}(hi:i<gY):jL (put tm i v) (DT t i v):=fun s=>by rw[na,qi _ _ _ _ hi,h s]
theorem jL.nil:jL [] .e:=fun _=>rfl
noncomputable def nR:Nat→List V→T→T|_,[],t=>t|n,v::vs,t=>nR (n+1) vs (DT t n v)
theorem vl:∀(vs:List V)(n:Nat)(t:T)(s:Nat),n+vs.length≤gY→eY (nR n vs t) s=if n≤s∧s<n+vs.length then(vs[s - n]? ).getD .any else eY t s
 |[],n,t,s,_=>by simp[nR];intro h1 h2;omega
 |v::vs,n,t,s,h=>by
  simp only[aav]at h;rw[nR,vl vs (n+1) _ s (by omega),qi _ _ _ _ (by omega)];simp only[aav];by_cases h1:s=n
  ·subst h1;simp;intro h2;omega
  ·by_cases h2:n+1≤s∧s<n+1+vs.length
   ·rw[aan h2,aan (by omega),show s - n=(s - (n+1))+1 by omega];simp
   ·rw[aal h2,aal h1,aal (by omega)]
theorem jL.args(vs:List V)(h:vs.length≤gY):jL (sP 0 vs) (nR 0 vs .e):=fun s=>by
 rw[yF,vl _ _ _ _ (by omega)];simp only[Nat.not_lt_zero,abt,abK,true_and,aau,abS,mI];by_cases hs:s<vs.length
 ·rw[aan hs]
 ·rw[aal hs,acm (by omega)];rfl
def aS:Int→Int→Bool| .ofNat a,.ofNat b=>Nat.blt a b| .ofNat _,.negSucc _=>false| .negSucc _,.ofNat _=>true| .negSucc a,.negSucc b=>Nat.blt b a
def bf:Int→Int→Bool| .ofNat a,.ofNat b=>Nat.beq a b| .negSucc a,.negSucc b=>Nat.beq a b|_,_=>false
def bp:Int→Int→Int| .ofNat a,.ofNat b=>.ofNat (Nat.add a b)|a,b=>a+b
def aN(k:IntKind)(n:Int):Int:=match k with
 | .i64=>
  match n with
   | .ofNat m=>bif Nat.blt m 9223372036854775808 then .ofNat m else IntKind.i64.wrap n
   | .negSucc m=>bif Nat.blt m 9223372036854775808 then .negSucc m else IntKind.i64.wrap n
 |k=>k.wrap n
theorem fe(a b:Int):aS a b=decide (a<b):=by cases a<;>cases b<;>simp only[aS,iw]<;>(rw[aaT];simp;try omega)
theorem lB(a b:Int):bf a b=(a==b):=by cases a<;>cases b<;>simp only[bf,eo]<;>(rw[aaT];simp;try omega)
theorem lC(a b:Int):bp a b=a+b:=by cases a<;>cases b<;>simp[bp]
theorem iz(k:IntKind)(n:Int):aN k n=k.wrap n:=by
 have P6:∀(b:Bool)(x y z:Int),(b=true→x=z)→y=z→(bif b then x else y)=z:=fun b x y z h1 h2=>by
  cases b with
   |true=>exact h1 rfl
   |false=>exact h2
 unfold aN;split
 ·split
  ·rename_i m;refine P6 _ _ _ _ (fun h=>?_ ) rfl;have hm:m<9223372036854775808:=by rw[iw]at h;exact ach h
   rw[IntKind.wrap_i64];simp only[abp];omega
  ·rename_i m;refine P6 _ _ _ _ (fun h=>?_ ) rfl;have hm:m<9223372036854775808:=by rw[iw]at h;exact ach h
   rw[IntKind.wrap_i64,Int.negSucc_eq];omega
 ·rfl
def GR(op:BinOp)(k:IntKind)(a b:Int):Option D:=match op with
 | .add=>some (.int k (aN k (bp a b)))
 | .sub=>some (.int k (aN k (a - b)))
 | .eql=>some (.bool (bf a b))
 | .neq=>some (.bool (!bf a b))
 | .lss=>some (.bool (aS a b))
 | .leq=>some (.bool (!aS b a))
 | .gtr=>some (.bool (aS b a))
 | .geq=>some (.bool (!aS a b))
 |op=>ky op k a b
theorem GS(op:BinOp)(k:IntKind)(a b:Int):GR op k a b=ky op k a b:=by
 have hn:∀(x y:Int),(!decide (x<y))=decide (y≤x):=fun x y=>by rw[aaT];simp
 cases op<;>simp only[GR,ky,iz,lC,lB,fe,hn,bne]<;>rfl
def P7:IntKind→Nat| .i8=>0| .i16=>1| .i32=>2| .i64=>3| .u8=>4| .u16=>5| .u32=>6| .u64=>7
def JK(k k':IntKind):Bool:=Nat.beq (P7 k) (P7 k')
theorem tf{k k':IntKind}:JK k k'=true↔k=k':=by cases k<;>cases k'<;>decide
def yZ(op:BinOp):V→V→Option (V×Wr)
 | .d (.int k a),.d (.int k' b)=>bif JK k k' then(match GR op k a b with|some x=>some (.d x,none)|none=>none)else none
 | .d (.str a),.d (.str b)=>match FV op a b with|some x=>some (.d x,none)|none=>none
 |_,_=>none
theorem GU(op:BinOp)(x y:V):yZ op x y=(j_ op x y).map fun v=>(v,none):=by
 unfold yZ;split
 ·rename_i k a k' b;simp only[j_,GS];cases h:JK k k' with
   |true=>have:=tf.1 h;rw[aan this];cases ky op k a b<;>rfl
   |false=>
    have:¬k=k':=fun e=>by rw[tf.2 e]at h;cases h
    rw[aal this];rfl
 ·rename_i a b;simp only[j_];cases FV op a b<;>rfl
 ·rename_i h1 h2;unfold j_;split
  ·exact absurd rfl (h1 _ _ _ _ rfl)
  ·exact absurd rfl (h2 _ _ rfl)
  ·rfl
def Cu(H:ah)(n:Nat)(agg:Bool)(a:V):Option (V×Wr):=match cY H n a with
 |some cs=>match oW agg cs with|some v=>some (v,none)|none=>none
 |none=>none
def w6(H:ah)(n:Nat)(a x:V):Option (V×Wr):=match dz H n a x with
 |some p=>some (.any,some p)
 |none=>none
def P8(c a b:V):Option (V×Wr):=match c with
 | .d (.bool t)=>some (bif t then a else b,none)
 |_=>none
def UM(ns n:Nat)(x:V):Option (V×Wr):=bif Nat.beq (bK x).length n&&(bK x).all dE then some (.ptr ns n 0,some (ns,.cells (bK x)))else none
def GV(ρ:a_→V)(z:List V)(ps:List (Nat×Nat×a_)):Option (V×Wr):=match dO ρ z ps with
 |some cs=>some (.agg cs,none)
 |none=>none
def MX(x:V):Option (V×Wr):=match x with
 | .ptr b h off=>some (.ptr b h off,none)
 | .cA cs=>some (.cA cs,none)
 | .func f a b=>some (.func f a b,none)
 |_=>none
def TC(H:ah)(neg:Bool)(k:pU)(x y:V):Option (V×Wr):=match FW H k x y with
 |some b=>some (.d (.bool (bif neg then !b else b)),none)
 |none=>none
def JL(off n:Nat)(agg:Bool)(x:V):Option (V×Wr):=match x with
 | .agg cs=>bif Nat.ble (off+n) cs.length then(match oW agg ((cs.drop off).take n)with|some v=>some (v,none)|none=>none)else none
 |_=>none
def A'(off n:Nat)(x:V):Option (V×Wr):=match x with
 | .ptr b h o=>some (.ptr b h (o+off),none)
 | .cA cs=>some (.cA ((cs.drop off).take n),none)
 |_=>none
def A_(H:ah)(sz:Nat)(x i:V):Option (V×Wr):=match dp i with
 |none=>none
 |some j=>
  match x with
   | .d (.list es)=>
    (match es[j]? with
     |some e=>bif Nat.beq e.length sz then some (.cA e,none)else none
     |none=>none)
   | .sl b h off len uy=>bif Nat.beq sz uy&&Nat.blt j len&&dP H b h then some (.ptr b h (off+j*sz),none)else none
   |_=>none
def GW(x i:V):Option (V×Wr):=match dp i with
 |none=>none
 |some j=>
  match x with
   | .d (.str s)=>
    (match s[j]? with
     |some b=>some (.d (.int .u8 b.toNat),none)
     |none=>none)
   |_=>none
def JM(x:V)(i:Nat):Option (V×Wr):=match x with
 | .tuple vs=>(match vs[i]? with|some v=>some (v,none)|none=>none)
 |_=>none
def JN(H:ah)(k:kW)(x:V):Option (V×Wr):=match fZ H k x with
 |some n=>some (.d (.int .i64 (Int.ofNat n)),none)
 |none=>none
def JO(H:ah)(ns sz bytes:Nat)(x y:V):Option (V×Wr):=match cC H sz y with
 |some xs=>cF H ns sz bytes x xs
 |none=>none
def TD(op:UnOp)(x:V):Option (V×Wr):=match OF op x with|some v=>some (v,none)|none=>none
def JP(ρ:a_→V)(H:ah)(ns:Nat):ki→Option (V×Wr)| .mv x=>some (ρ x,none)| .pick c a b=>P8 (ρ c) (ρ a) (ρ b)| .alloc z=>some (.ptr ns z.length 0,some (ns,.cells z))| .box n x=>UM ns n (ρ x)| .build z ps=>GV ρ z ps| .load n agg a=>Cu H n agg (ρ a)| .store n a x=>w6 H n (ρ a) (ρ x)| .fW x=>MX (ρ x)| .bin op x y=>yZ op (ρ x) (ρ y)| .eq neg k x y=>TC H neg k (ρ x) (ρ y)| .un op x=>TD op (ρ x)| .kX f a b=>some (.func f (bd ρ a) (bd ρ b),none)| .Mj off n agg x=>JL off n agg (ρ x)| .fI off n x=>A' off n (ρ x)| .db sz x i=>A_ H sz (ρ x) (ρ i)| .gF x i=>GW (ρ x) (ρ i)| .ext x i=>JM (ρ x) i| .len .slice x=>JN H .slice (ρ x)| .len .str x=>JN H .str (ρ x)| .append sz bytes x y=>JO H ns sz bytes (ρ x) (ρ y)|op=>bu ρ H ns op
theorem w7(ρ:a_→V)(H:ah)(ns:Nat)(op:ki):JP ρ H ns op=bu ρ H ns op:=by
 unfold JP;split
 ·rfl
 ·rfl
 ·rfl
 ·rfl
 ·rename_i z ps;simp only[GV,bu];cases dO ρ z ps<;>rfl
 ·rename_i n agg a;simp only[Cu,bu];cases cY H n (ρ a)with
   |none=>rfl
   |some cs=>simp only;cases oW agg cs<;>rfl
 ·rename_i n a x;simp only[w6,bu];cases dz H n (ρ a) (ρ x)<;>rfl
 ·rfl
 ·simp only[GU,bu]
 ·rename_i neg k x y;simp only[TC,bu];cases FW H k (ρ x) (ρ y)<;>rfl
 ·rename_i op x;simp only[TD,bu];cases OF op (ρ x)<;>rfl
 ·rfl
 ·rename_i off n agg x;simp only[JL,bu];cases ρ x with
   |agg cs=>
    simp only;cases Nat.ble (off+n) cs.length with
     |true=>simp only[aag];cases oW agg ((cs.drop off).take n)<;>rfl
     |false=>rfl
   |_=>rfl
 ·rfl
 ·rfl
 ·rfl
 ·rename_i x i;simp only[JM,bu];cases ρ x with
   |tuple vs=>simp only;cases vs[i]? <;>rfl
   |_=>rfl
 ·rename_i x;simp only[JN,bu];cases fZ H .slice (ρ x)<;>rfl
 ·rename_i x;simp only[JN,bu];cases fZ H .str (ρ x)<;>rfl
 ·rfl
 ·rfl
end Fw
/-
  The quicker run: operations, drawn regions, code, calls; and that the model does the same.
-/
namespace Fw
open Go
abbrev XR:=V×ah
abbrev KN:=T→ah→Option XR
noncomputable def jy(GL:ca)(t:T)(x:a_):V:=match x with
 | .t n=>eY t n
 | .c v=>v
 | .g n=>(match GL.rd n with|some cs=>.cA cs|none=>.any)
 | .f f=>.func f [] []
theorem nk{GL:ca}{tm:List (Nat×V)}{t:T}(h:jL tm t):jy GL t=aU GL tm:=funext fun x=>by
 cases x with
  |t n=>simp[jy,aU,h _]
  |c v=>rfl
  |g n=>simp only[jy,aU];cases GL.rd n<;>rfl
  |f f=>rfl
noncomputable def DU(n:Nat)(dst:Option Nat)(v:V)(t:T)(H:ah)(k:KN):Option XR:=match dst with
 |none=>k t H
 |some d=>bif Nat.blt d n then k (DT t d v) H else none
noncomputable def qj(gd:Option (Nat×Bool))(t:T)(skip go:Option XR):Option XR:=match gd with
 |none=>go
 |some (d,nB)=>
  match eY t d with
   | .d (.bool b)=>bif b then(bif nB then go else skip)else(bif nB then skip else go)
   | .tuple []=>skip
   |_=>none
noncomputable def MY(own:List Nat)(GL:ca)(call:a6)(dst:Option Nat)(op:ki)(t:T)(H:ah)(k:V→ah→Option XR):Option XR:=match op with
 | .call f args=>(match call f (bd (jy GL t) args) H with|some (v,H')=>k v H'|none=>none)
 | .e_ x args=>
  (match jy GL t x with
   | .func f first cap=>(match call f (first++bd (jy GL t) args++cap) H with|some (v,H')=>k v H'|none=>none)
   |_=>none)
 | .mkSlice sz len z ps=>
  (match(bif nM dst own then none else fS (jy GL t) (.mkSlice sz len z ps))with
   |some v=>k v H
   |none=>(match bu (jy GL t) H H.length (.mkSlice sz len z ps)with|some (v,wr)=>k v (aX H wr)|none=>none))
 |op=>(match JP (jy GL t) H H.length op with|some (v,wr)=>k v (aX H wr)|none=>none)
noncomputable def mJ(own:List Nat)(GL:ca)(call:a6)(n:Nat)(o:ad)(t:T)(H:ah)(k:KN):Option XR:=match o with|⟨dst,op,gd,_⟩=>qj gd t (DU n dst (.tuple []) t H k) (MY own GL call dst op t H (fun v H'=>DU n dst v t H' k))
noncomputable def lU(own:List Nat)(GL:ca)(call:a6)(n:Nat)(l:List ad):T→ah→KN→Option XR:=@List.rec ad (fun _=>T→ah→KN→Option XR) (fun t H k=>k t H) (fun o _ ih t H k=>mJ own GL call n o t H (fun t' H'=>ih t' H' k)) l
section
variable {P:Program}{GL:ca}
theorem nl{n:Nat}(hn:n≤gY){dst:Option Nat}{v:V}{t:T}{H:ah}{k:KN}{x:XR}{tm:List (Nat×V)}(hs:jL tm t)(h:DU n dst v t H k=some x):∃aY t',jL aY t'∧k t' H=some x∧∀H0,St.put ⟨n,tm,H0⟩ dst v H=some ⟨n,aY,H⟩:=by
 unfold DU at h;split at h
 ·exact⟨tm,t,hs,h,fun _=>rfl⟩
 ·rename_i d;cases hb:Nat.blt d n with
   |false=>rw[hb]at h;cases h
   |true=>
    rw[hb]at h;have hd:d<n:=by rwa[aas]at hb
    exact⟨_,_,hs.put (by omega),h,fun H0=>by simp[St.put,hb]⟩
theorem qk{gd:Option (Nat×Bool)}{t:T}{tm:List (Nat×V)}{skip go:Option XR}{x:XR}(hs:jL tm t)(h:qj gd t skip go=some x):(ao gd tm=some true∧go=some x)∨(ao gd tm=some false∧skip=some x):=by
 unfold qj at h;unfold ao;split at h
 ·exact .inl ⟨rfl,h⟩
 ·rename_i d nB;simp only[hs d];split at h
  ·rename_i b hb;rw[hb];cases b<;>cases nB<;>simp at h⊢ <;>exact h
  ·rename_i hb;rw[hb];exact .inr ⟨rfl,h⟩
  ·cases h
theorem GX{own:List Nat}{call:a6}(hc:bH P GL call){n:Nat}{dst:Option Nat}{op:ki}{gd:Option (Nat×Bool)}{af:List Nat}{t:T}{H:ah}{k:V→ah→Option XR}{x:XR}{tm:List (Nat×V)}(hs:jL tm t)(hg:ao gd tm=some true)(h:MY own GL call dst op t H k=some x):∃v H',k v H'=some x∧∀l aL Q,St.put ⟨n,tm,H⟩ dst v H'=some aL→WO P GL l aL Q→WO P GL (⟨dst,op,gd,af⟩::l) ⟨n,tm,H⟩ Q:=by
 unfold MY at h;rw[nk hs]at h;split at h
 ·rename_i f args;split at h
  ·rename_i v H' cl;refine⟨v,H',h,fun l aL Q hp hw=>WO.call rfl hg ((hc _ _ _ _ _ cl).mono ?_ )⟩;rintro r h2 ⟨rfl,rfl⟩;exact⟨aL,hp,hw⟩
  ·cases h
 ·rename_i y args;split at h
  ·rename_i f first cap hx
   split at h
   ·rename_i v H' cl;refine⟨v,H',h,fun l aL Q hp hw=>WO.e_ rfl hx hg ((hc _ _ _ _ _ cl).mono ?_ )⟩;rintro r h2 ⟨rfl,rfl⟩;exact⟨aL,hp,hw⟩
   ·cases h
  ·cases h
 ·rename_i sz len z ps;split at h
  ·rename_i v hv;refine⟨v,H,h,fun l aL Q hp hw=>WO.fS hg ?_ hp hw⟩;cases hi:nM dst own with
    |true=>rw[hi]at hv;cases hv
    |false=>rw[hi]at hv;exact hv
  ·split at h
   ·rename_i v wr he;exact⟨v,_,h,fun l aL Q hp hw=>WO.bu hg he hp hw⟩
   ·cases h
 ·split at h
  ·rename_i v wr he;rw[w7]at he;exact⟨v,_,h,fun l aL Q hp hw=>WO.bu hg he hp hw⟩
  ·cases h
theorem kI{own:List Nat}{call:a6}(hc:bH P GL call){n:Nat}(hn:n≤gY):∀{l:List ad}{t:T}{H:ah}{k:KN}{x:XR}{tm:List (Nat×V)},jL tm t→lU own GL call n l t H k=some x→∃aY t' H',jL aY t'∧WO P GL l ⟨n,tm,H⟩ (fun s=>s=⟨n,aY,H'⟩)∧k t' H'=some x
 |[],t,H,k,x,tm,hs,h=>⟨tm,t,H,hs,WO.nil rfl,h⟩
 |o::l,t,H,k,x,tm,hs,h=>by
  have h:mJ own GL call n o t H (fun t' H'=>lU own GL call n l t' H' k)=some x:=h;obtain⟨dst,op,gd,af⟩:=o;simp only[mJ]at h;rcases qk hs h with⟨hg,h⟩|⟨hg,h⟩
  ·obtain⟨v,H',h1,h2⟩:=GX (n:=n) (af:=af) hc hs hg h;obtain⟨aY,t',iA,h3,h4⟩:=nl hn hs h1;obtain⟨eJ,t2,H2,Ba,hw,hk⟩:=kI hc hn iA h3;exact⟨eJ,t2,H2,Ba,h2 _ _ _ (h4 H) hw,hk⟩
  ·obtain⟨aY,t',iA,h3,h4⟩:=nl hn hs h;obtain⟨eJ,t2,H2,Ba,hw,hk⟩:=kI hc hn iA h3;exact⟨eJ,t2,H2,Ba,WO.skip hg (h4 H) hw,hk⟩
end
def tg(own:List Nat)(GL:ca)(aw:aT)(base:Nat):Nat→List ad→St→Option (List (((V×Wr)×List Nat)×Option V))
 |_,[],_=>some []
 |i,o::l,σ=>
  let cv:Option V:=match bw o.op with
   |some (f,args)=>aw f (bd (aU GL σ.tm) args)
   |none=>bif nM o.dst own then none else fS (aU GL σ.tm) o.op
  match eI GL σ.tm σ.hp (base+i) o cv with
   |none=>none
   |some r=>
    match tg own GL aw base (i+1) l (σ.fc o.dst r.1 (aX σ.hp r.2))with
     |none=>none
     |some rs=>some (((r,lq (aU GL σ.tm) o.op),cv)::rs)
def pb(own:List Nat)(GL:ca)(aw:aT)(l:List ad)(σ:St):Option St:=match tg own GL aw σ.hp.length 0 l (b8 σ l.length)with
 |none=>none
 |some qs=>
  let rs:=qs.map (·.1);bif cT l rs&&eO σ.n l&&dK (σ.hp.length+l.length) rs then some (ax (fun _=>true) 0 l rs (b8 σ l.length))
  else none
section
variable {P:Program}{GL:ca}
theorem th{own:List Nat}{aw:aT}{base:Nat}:∀{l:List ad}{i:Nat}{σ:St}{qs:List (((V×Wr)×List Nat)×Option V)},tg own GL aw base i l σ=some qs→∀qc:Nat→Option V,(∀j q,qs[j]? =some q→qc (i+j)=q.2)→l3 GL base qc i l σ=some (qs.map (·.1))∧qs.length=l.length∧∀k o q,l[k]? =some o→qs[k]? =some q→∀f args,bw o.op=some (f,args)→q.2=aw f (bd (aU GL (ax (fun j=>decide (j<i+k)) i l (qs.map (·.1)) σ).tm) args)∧(ao o.guard (ax (fun j=>decide (j<i+k)) i l (qs.map (·.1)) σ).tm=some true→q.2=some q.1.1.1)
 |[],i,σ,qs,h,qc,hq=>by simp only[tg,aab]at h;subst h;exact⟨rfl,rfl,by simp⟩
 |o::l,i,σ,qs,h,qc,hq=>by
  simp only[tg]at h;split at h
  ·cases h
  ·rename_i r hr;split at h
   ·cases h
   ·rename_i rs Cl;simp only[aab]at h;subst h;have h0:=hq 0 _ rfl;simp only[abk]at h0;obtain⟨k1,k2,k3⟩:=th Cl qc (fun j q hj=>by have:=hq (j+1) q (by simpa using hj);rwa[show i+(j+1)=i+1+j by omega]at this);have iS:∀(l:List ad)(rs:List ((V×Wr)×List Nat))(k:Nat)(σ:St),i≤k→ax (fun j=>decide (j<i)) k l rs σ=σ:=by
     intro l rs k σ hk;rw[bZ (K':=fun _=>false) (fun j _=>by simp;omega)];have:∀(l:List ad)(rs:List ((V×Wr)×List Nat))(i:Nat)(s:St),ax (fun _=>false) i l rs s=s:=by
      intro l;induction l with
       |nil=>intro rs i s;simp[ax]
       |cons o l ih=>
        intro rs i s;cases rs with
         |nil=>simp[ax]
         |cons r rs=>simp only[ax,aaw];exact ih _ _ _
     exact this _ _ _ _
    refine⟨?_,by simp[k2],fun k o' q iR yi f args iq=>?_ ⟩
    ·simp only[l3,h0,hr,k1,aax]
    ·cases k with
      |zero=>
       simp at iR yi;subst iR;subst yi;simp only[abk];rw[iS _ _ _ _ (aao _)];refine⟨by simp only[iq],fun hg=>?_ ⟩;simp only[iq]at hr⊢;unfold eI at hr;rw[hg]at hr;simp only[iq]at hr;cases hp:aw f (bd (aU GL σ.tm) args)with
        |none=>rw[hp]at hr;simp at hr
        |some v=>rw[hp]at hr;simp at hr;rw[←hr]
      |succ k=>
       simp at iR yi;have e:i+(k+1)=i+1+k:=by omega
       have:=k3 k o' q iR yi f args iq;simp only[aax,ax,e,show decide (i<i+1+k)=true by simp;omega,aag];exact this
theorem y3{own:List Nat}{aw:aT}(hm:P.follows .mixedOrders=true)(hp:bt P GL aw){l:List ad}{σ aL:St}{Q:Ex→St→Prop}(h:pb own GL aw l σ=some aL)(hq:Q .normal aL):WC P GL (.draw l) σ Q:=by
 unfold pb at h;split at h
 ·cases h
 ·rename_i qs F5;simp only at h;cases hb:(cT l (qs.map (·.1))&&eO σ.n l&&dK (σ.hp.length+l.length) (qs.map (·.1)))with
   |false=>rw[hb]at h;cases h
   |true=>rw[hb]at h;simp only[aag,aab]at h;subst h;simp only[aac]at hb;obtain⟨k1,k2,k3⟩:=th F5 (fun i=>(qs[i]? ).bind (·.2)) (fun j q hj=>by simp[hj]);refine WC.draw hm k1 hb.1.1 hb.1.2 hb.2 (fun i o r ho hr f args iq hg=>?_ ) hq;simp only[aaO,aad]at hr;obtain⟨q,JE,rfl⟩:=hr;obtain⟨e1,e2⟩:=k3 i o q ho JE f args iq;simp only[aau]at e1 e2;have e3:=e2 hg;rw[e1]at e3;exact(hp _ _ _ e3).qX
end
def ti(n k:Nat)(pre:List ad)(o:ad):Bool:=o.after.all (fun e=>Nat.blt e (n+k))&&(match k with
 |0=>(List.range n).all (fun j=>o.after.any fun e=>Nat.blt e n&&(Nat.beq j e||Nat.testBit ((cM 0 [] pre).getD e 0) j))
 |k+1=>o.after.any fun e=>Nat.beq e (n+k))
def vm(pre:List ad)(n:Nat):Nat→List ad→Bool|_,[]=>true|k,o::l=>ti n k pre o&&vm pre n (k+1) l
def Cv(l:List ad):Nat→Nat→Option Nat|0,_=>none|f+1,m=>bif vm (l.take m) m 0 (l.drop m)then some m else Cv l f (m+1)
theorem np{pre:List ad}{n:Nat}:∀{k:Nat}{l:List ad},vm pre n k l=true→∀(i:Nat)(o:ad),l[i]? =some o→ti n (k+i) pre o=true
 |k,[],_,i,o,ho=>by simp at ho
 |k,x::l,h,i,o,ho=>by
  simp only[vm,aac]at h;cases i with
   |zero=>simp at ho;subst ho;exact h.1
   |succ i=>simp at ho;have:=np h.2 i o ho;rwa[show k+1+i=k+(i+1) by omega]at this
theorem y4{l:List ad}:∀{f m r:Nat},Cv l f m=some r→vm (l.take r) r 0 (l.drop r)=true∧r<m+f
 |0,m,r,h=>by cases h
 |f+1,m,r,h=>by
  simp only[Cv]at h;cases hb:vm (l.take m) m 0 (l.drop m)with
   |true=>rw[hb]at h;simp only[aag,aab]at h;subst h;exact⟨hb,by omega⟩
   |false=>rw[hb]at h;have:=y4 h;exact⟨this.1,by omega⟩
section
variable {P:Program}{GL:ca}
theorem GY{own:List Nat}{call:a6}(hc:bH P GL call){n:Nat}{dst:Option Nat}{op:ki}{gd:Option (Nat×Bool)}{af:List Nat}{t:T}{H:ah}{k:V→ah→Option XR}{x:XR}{tm:List (Nat×V)}(hs:jL tm t)(hg:ao gd tm=some true)(h:MY own GL call dst op t H k=some x):∃v H',k v H'=some x∧∀aL X,St.put ⟨n,tm,H⟩ dst v H'=some aL→X aL→de P GL ⟨dst,op,gd,af⟩ ⟨n,tm,H⟩ X:=by
 unfold MY at h;rw[nk hs]at h;split at h
 ·rename_i f args;split at h
  ·rename_i v H' cl;refine⟨v,H',h,fun aL X hp hw=>de.call rfl hg ((hc _ _ _ _ _ cl).mono ?_ )⟩;rintro r h2 ⟨rfl,rfl⟩;exact⟨aL,hp,hw⟩
  ·cases h
 ·rename_i y args;split at h
  ·rename_i f first cap hx
   split at h
   ·rename_i v H' cl;refine⟨v,H',h,fun aL X hp hw=>de.e_ rfl hx hg ((hc _ _ _ _ _ cl).mono ?_ )⟩;rintro r h2 ⟨rfl,rfl⟩;exact⟨aL,hp,hw⟩
   ·cases h
  ·cases h
 ·rename_i sz len z ps;split at h
  ·rename_i v hv;refine⟨v,H,h,fun aL X hp hw=>de.fS hg ?_ hp hw⟩;cases hi:nM dst own with
    |true=>rw[hi]at hv;cases hv
    |false=>rw[hi]at hv;exact hv
  ·split at h
   ·rename_i v wr he;exact⟨v,_,h,fun aL X hp hw=>de.bu hg he hp hw⟩
   ·cases h
 ·split at h
  ·rename_i v wr he;rw[w7]at he;exact⟨v,_,h,fun aL X hp hw=>de.bu hg he hp hw⟩
  ·cases h
theorem ql{own:List Nat}{call:a6}(hc:bH P GL call){n:Nat}(hn:n≤gY):∀{l:List ad}{t:T}{H:ah}{k:KN}{x:XR}{tm:List (Nat×V)},jL tm t→lU own GL call n l t H k=some x→∃aY t' H',jL aY t'∧tc P GL l ⟨n,tm,H⟩ (fun s=>s=⟨n,aY,H'⟩)∧k t' H'=some x
 |[],t,H,k,x,tm,hs,h=>⟨tm,t,H,hs,rfl,h⟩
 |o::l,t,H,k,x,tm,hs,h=>by
  have h:mJ own GL call n o t H (fun t' H'=>lU own GL call n l t' H' k)=some x:=h;obtain⟨dst,op,gd,af⟩:=o;simp only[mJ]at h;rcases qk hs h with⟨hg,h⟩|⟨hg,h⟩
  ·obtain⟨v,H',h1,h2⟩:=GY (n:=n) (af:=af) hc hs hg h;obtain⟨aY,t',iA,h3,h4⟩:=nl hn hs h1;obtain⟨eJ,t2,H2,Ba,hw,hk⟩:=ql hc hn iA h3;exact⟨eJ,t2,H2,Ba,h2 _ _ (h4 H) hw,hk⟩
  ·obtain⟨aY,t',iA,h3,h4⟩:=nl hn hs h;obtain⟨eJ,t2,H2,Ba,hw,hk⟩:=ql hc hn iA h3;exact⟨eJ,t2,H2,Ba,de.skip hg (h4 H) hw,hk⟩
end
noncomputable def w8(gd:Option (Nat×Bool))(t:T):Option Bool:=match gd with
 |none=>some true
 |some (d,nB)=>
  match eY t d with
   | .d (.bool b)=>some (b==nB)
   | .tuple []=>some false
   |_=>none
theorem Be{gd:Option (Nat×Bool)}{t:T}{tm:List (Nat×V)}(hs:jL tm t):w8 gd t=ao gd tm:=by
 unfold w8 ao;cases gd with
  |none=>rfl
  |some p=>simp only[hs p.1];rfl
noncomputable def GZ(GL:ca)(t:T)(H:ah)(ns:Nat)(o:ad)(cv:Option V):Option (V×Wr):=match w8 o.guard t with
 |none=>none
 |some false=>some (.tuple [],none)
 |some true=>
  match bw o.op with
   |some _=>cv.map fun v=>(v,none)
   |none=>
    match cv with
     |some _=>(fS (jy GL t) o.op).map fun v=>(v,none)
     |none=>JP (jy GL t) H ns o.op
theorem G0{GL:ca}{t:T}{tm:List (Nat×V)}(hs:jL tm t){H:ah}{ns:Nat}{o:ad}{cv:Option V}:GZ GL t H ns o cv=eI GL tm H ns o cv:=by unfold GZ eI;simp only[Be hs,nk hs,w7];rfl
noncomputable def Lt(dst:Option Nat)(v:V)(t:T):T:=match dst with
 |none=>t
 |some d=>DT t d v
noncomputable def y5(own:List Nat)(GL:ca)(aw:aT)(base:Nat):Nat→List ad→T→ah→Option (List (((V×Wr)×List Nat)×Option V)×T×ah)
 |_,[],t,H=>some ([],t,H)
 |i,o::l,t,H=>
  let cv:Option V:=match bw o.op with
   |some (f,args)=>aw f (bd (jy GL t) args)
   |none=>bif nM o.dst own then none else fS (jy GL t) o.op
  match GZ GL t H (base+i) o cv with
   |none=>none
   |some r=>
    match y5 own GL aw base (i+1) l (Lt o.dst r.1 t) (aX H r.2)with
     |none=>none
     |some (rs,t',H')=>some (((r,lq (jy GL t) o.op),cv)::rs,t',H')
theorem tj{own:List Nat}{GL:ca}{aw:aT}{base n:Nat}(hn:n≤gY):∀{l:List ad}{i:Nat}{t:T}{H:ah}{tm:List (Nat×V)}{qs:List (((V×Wr)×List Nat)×Option V)}{t':T}{H':ah},jL tm t→eO n l=true→y5 own GL aw base i l t H=some (qs,t',H')→tg own GL aw base i l ⟨n,tm,H⟩=some qs∧∃aY,jL aY t'∧ax (fun _=>true) i l (qs.map (·.1)) ⟨n,tm,H⟩=⟨n,aY,H'⟩
 |[],i,t,H,tm,qs,t',H',hs,hd,h=>by simp only[y5,aab,aae]at h;obtain⟨rfl,rfl,rfl⟩:=h;exact⟨rfl,tm,hs,rfl⟩
 |o::l,i,t,H,tm,qs,t',H',hs,hd,h=>by
  simp only[y5]at h;rw[G0 hs,nk hs]at h;simp only[eO,aaF,aac]at hd;split at h
  ·cases h
  ·rename_i r hr;split at h
   ·cases h
   ·rename_i rs t2 H2 Cl;simp only[aab,aae]at h;obtain⟨rfl,rfl,rfl⟩:=h;have bj:∃TE,jL TE (Lt o.dst r.1 t)∧St.fc ⟨n,tm,H⟩ o.dst r.1 (aX H r.2)=⟨n,TE,aX H r.2⟩:=by
     cases dN:o.dst with
      |none=>exact⟨tm,hs,rfl⟩
      |some d=>
       have h1:=hd.1;rw[dN]at h1;have bL:d<n:=by simpa[aas]using h1
       exact⟨_,hs.put (by omega),rfl⟩
    obtain⟨TE,UN,MZ⟩:=bj;obtain⟨k1,eJ,Ba,k2⟩:=tj hn (n:=n) UN (by simpa[eO]using hd.2) Cl;refine⟨?_,eJ,Ba,?_⟩
    ·have vd:=hr;simp only[tg];have e:eI GL tm H (base+i) o (match bw o.op with|some (f,args)=>aw f (bd (aU GL tm) args)|none=>bif nM o.dst own then none else fS (aU GL tm) o.op)=some r:=hr;cases Yt:bw o.op with
      |none=>rw[Yt]at e;simp only[e,MZ,k1]
      |some p=>rw[Yt]at e;simp only[e,MZ,k1]
    ·simp only[aax,ax,aag,MZ,k2]
noncomputable def y6(own:List Nat)(GL:ca)(aw:aT)(n:Nat)(l:List ad)(t:T)(H:ah):Option (T×ah):=bif n6 l&&eO n l then
 match y5 own GL aw H.length 0 l t (H++List.replicate l.length none)with
  |none=>none
  |some (qs,t',H')=>bif (sT (qs.map (·.1))||Jy 0 [] (AY (qs.map (·.1))) (cM 0 [] l))&&dK (H.length+l.length) (qs.map (·.1))then some (t',H')else none else none
theorem G1{own:List Nat}{GL:ca}{aw:aT}{n:Nat}(hn:n≤gY){l:List ad}{t:T}{H:ah}{tm:List (Nat×V)}{t':T}{H':ah}(hs:jL tm t)(h:y6 own GL aw n l t H=some (t',H')):∃aY,jL aY t'∧pb own GL aw l ⟨n,tm,H⟩=some ⟨n,aY,H'⟩:=by
 unfold y6 at h;cases h1:(n6 l&&eO n l)with
  |false=>rw[h1]at h;cases h
  |true=>
   rw[h1]at h;simp only[aag]at h;simp only[aac]at h1;split at h
   ·cases h
   ·rename_i qs t2 H2 hq;cases h2:((sT (qs.map (·.1))||Jy 0 [] (AY (qs.map (·.1))) (cM 0 [] l))&&dK (H.length+l.length) (qs.map (·.1)))with
     |false=>rw[h2]at h;cases h
     |true=>
      rw[h2]at h;simp only[aag,aab,aae]at h;obtain⟨rfl,rfl⟩:=h;simp only[aac]at h2;obtain⟨k1,aY,iA,k2⟩:=tj hn hs h1.2 hq;refine⟨aY,iA,?_⟩;unfold pb;have e1:b8 ⟨n,tm,H⟩ l.length=⟨n,tm,H++List.replicate l.length none⟩:=rfl;simp only[e1,k1];have:(cT l (qs.map (·.1))&&eO n l&&dK (H.length+l.length) (qs.map (·.1)))=true:=by simp only[cT,aac];exact⟨⟨⟨h1.1,h2.1⟩,h1.2⟩,h2.2⟩
      rw[this,aag,k2]
noncomputable def G2(own:List Nat)(GL:ca)(call:a6)(aw:aT)(n:Nat)(l:List ad)(t:T)(H:ah)(k:KN):Option XR:=match Cv l l.length 0 with
 |none=>none
 |some m=>
  match y6 own GL aw n (l.take m) t H with
   |none=>none
   |some (t1,H1)=>lU own GL call n (l.drop m) t1 H1 k
theorem G3{P:Program}{own:List Nat}{GL:ca}{call:a6}{aw:aT}(hm:P.follows .mixedOrders=true)(hc:bH P GL call)(hp:bt P GL aw){n:Nat}(hn:n≤gY){l:List ad}{t:T}{H:ah}{k:KN}{x:XR}{tm:List (Nat×V)}(hs:jL tm t)(h:G2 own GL call aw n l t H k=some x):∃aY t' H',jL aY t'∧WC P GL (.draw l) ⟨n,tm,H⟩ (fun e s=>e=.normal∧s=⟨n,aY,H'⟩)∧k t' H'=some x:=by
 unfold G2 at h;split at h
 ·cases h
 ·rename_i m Zz;obtain⟨FP,Ln⟩:=y4 Zz;split at h
  ·cases h
  ·rename_i t1 H1 hd;unfold y6 at hd;cases h1:(n6 (l.take m)&&eO n (l.take m))with
    |false=>rw[h1]at hd;cases hd
    |true=>
     rw[h1]at hd;simp only[aag]at hd;simp only[aac]at h1;split at hd
     ·cases hd
     ·rename_i qs t2 H2 hq;cases h2:((sT (qs.map (·.1))||Jy 0 [] (AY (qs.map (·.1))) (cM 0 [] (l.take m)))&&dK (H.length+(l.take m).length) (qs.map (·.1)))with
       |false=>rw[h2]at hd;cases hd
       |true=>
        rw[h2]at hd;simp only[aag,aab,aae]at hd;obtain⟨rfl,rfl⟩:=hd;simp only[aac]at h2;obtain⟨k1,TE,UN,k2⟩:=tj hn hs h1.2 hq;obtain⟨aY,t',H',iA,UO,hk⟩:=ql hc hn UN h;refine⟨aY,t',H',iA,?_,hk⟩;have UP:(l.take m).length=m:=by rw[aaQ];omega
        have e1:b8 ⟨n,tm,H⟩ (l.take m).length=⟨n,tm,H++List.replicate (l.take m).length none⟩:=rfl;obtain⟨q1,q2,q3⟩:=th k1 (fun i=>(qs[i]? ).bind (·.2)) (fun j q hj=>by simp[hj]);have dn:cT (l.take m) (qs.map (·.1))=true:=by simp only[cT,aac];exact⟨h1.1,h2.1⟩
        have key:WC P GL (.draw (l.take m++l.drop m)) ⟨n,tm,H⟩ (fun e s=>e=.normal∧s=⟨n,aY,H'⟩):=by
         refine WC.JH (rs:=qs.map (·.1)) (qc:=fun i=>(qs[i]? ).bind (·.2)) hm (by rw[e1];exact q1) dn h1.2 h2.2 (fun i o r ho hr f args iq hg=>?_ ) ?_ (fun k ot hk e he=>?_ ) (fun ot hk j hj=>?_ ) (fun k ot hk=>?_ ) ?_
         ·simp only[aaO,aad]at hr;obtain⟨q,JE,rfl⟩:=hr;obtain⟨f1,f2⟩:=q3 i o q ho JE f args iq;simp only[aau]at f1 f2;have f3:=f2 hg;rw[f1]at f3;exact(hp _ _ _ f3).qX
         ·intro he;have:(l.drop m).length=0:=by rw[he];rfl
          rw[aco]at this;omega
         ·have hb:=np FP k ot hk;simp only[ti,aac,aau,aaq]at hb;have:=hb.1 e he;rw[UP];simpa[aas]using this
         ·have hb:=np FP 0 ot hk;simp only[ti,aac,aau]at hb;rw[UP]at hj⊢;have h3:=(aaq.1 hb.2) j (aaJ.2 hj);rw[acO]at h3;obtain⟨e,he,h4⟩:=h3;simp only[aac,aa1]at h4;refine⟨e,he,by simpa[aas]using h4.1,?_ ⟩;rcases h4.2 with h5|h5
          ·exact .inl (aah h5)
          ·exact .inr h5
         ·have hb:=np FP (k+1) ot hk;simp only[ti,aac,aau]at hb;have h3:=hb.2;rw[acO]at h3;obtain⟨e,he,h4⟩:=h3;have h5:e=m+k:=by have:=aah h4;rw[this];show m+(0+k)=m+k;rw[aau]
          rw[UP,←h5];exact he
         ·rw[e1,k2];have mono:∀(l:List ad)(s:St)(Q Q':St→Prop),(∀s,Q s→Q' s)→tc P GL l s Q→tc P GL l s Q':=by
           intro l;induction l with
            |nil=>intro s Q Q' hq h0;exact hq _ h0
            |cons o l ih=>intro s Q Q' hq h0 o' ops a1 a2 a3 g w a hr K Q2 hK;exact h0 o' ops a1 a2 a3 g w a hr K Q2 (fun g' w' a' aL b1 b2 b3=>hK g' w' a' aL b1 b2 (ih _ _ _ hq b3))
          exact mono _ _ _ _ (fun s hs=>⟨rfl,hs⟩) UO
        rwa[abx]at key
noncomputable def qm(own:List Nat)(GL:ca)(call:a6)(aw:aT)(n:Nat)(l:List ad)(t:T)(H:ah)(k:KN):Option XR:=match y6 own GL aw n l t H with
 |some (t',H')=>k t' H'
 |none=>G2 own GL call aw n l t H k
theorem vn{own:List Nat}{P:Program}{GL:ca}{call:a6}{aw:aT}(hm:P.follows .mixedOrders=true)(hc:bH P GL call)(hp:bt P GL aw){n:Nat}(hn:n≤gY){l:List ad}{t:T}{H:ah}{k:KN}{x:XR}{tm:List (Nat×V)}(hs:jL tm t)(h:qm own GL call aw n l t H k=some x):∃aY t' H',jL aY t'∧WC P GL (.draw l) ⟨n,tm,H⟩ (fun e s=>e=.normal∧s=⟨n,aY,H'⟩)∧k t' H'=some x:=by
 unfold qm at h;split at h
 ·rename_i t' H' hd;obtain⟨aY,iA,hr⟩:=G1 hn hs hd;exact⟨aY,t',H',iA,y3 hm hp hr ⟨rfl,rfl⟩,h⟩
 ·exact G3 hm hc hp hn hs h
noncomputable def ra(body:T→ah→KN→(Nat→KN)→KN→Option XR)(m:Nat):T→ah→(Nat→KN)→KN→Option XR:=@Nat.rec (fun _=>T→ah→(Nat→KN)→KN→Option XR) (fun _ _ _ _=>none) (fun _ ih t H ke kr=>body t H (fun t' H'=>ih t' H' ke kr) ke kr) m
noncomputable def aF(v:V)(a b:Option XR):Option XR:=match v with
 | .d (.bool t)=>bif t then a else b
 |_=>none
noncomputable def fm(own:List Nat)(GL:ca)(call:a6)(aw:aT)(m n:Nat)(c:IR):T→ah→KN→(Nat→KN)→KN→Option XR:=@IR.rec (fun _=>T→ah→KN→(Nat→KN)→KN→Option XR) (fun t H kn _ _=>kn t H) (fun l t H kn _ _=>lU own GL call n l t H kn) (fun l t H kn _ _=>qm own GL call aw n l t H kn) (fun _ _ ia ib t H kn ke kr=>ia t H (fun t' H'=>ib t' H' kn ke kr) ke kr) (fun c _ _ ia ib t H kn ke kr=>aF (jy GL t c) (ia t H kn ke kr) (ib t H kn ke kr)) (fun id _ ib t H kn ke kr=>ib t H kn (fun i t' H'=>bif Nat.beq i id then kn t' H' else ke i t' H') kr) (fun _ ib t H _ ke kr=>ra ib m t H ke kr) (fun id t H _ ke _=>ke id t H) (fun t H _ _ kr=>kr t H) c
def P9(kn:KN)(ke:Nat→KN)(kr:KN)(e:Ex)(t:T)(H:ah):Option XR:=match e with
 | .normal=>kn t H
 | .exit i=>ke i t H
 | .ret=>kr t H
def tk(P:Program)(GL:ca)(b:IR)(e:Ex)(s':St):Nat→St→Prop
 |0,_=>False
 |k+1,s=>
  WC P GL b s (fun e1 s1=>
   match e1 with
    | .normal=>tk P GL b e s' k s1
    |e1=>e1=e∧s1=s')
theorem tk.wc{P:Program}{GL:ca}{b:IR}{e:Ex}{s':St}{k:Nat}{s:St}(h:tk P GL b e s' k s):WC P GL (.loop b) s (fun e1 s1=>e1=e∧s1=s'):=by
 refine WC.loop (fun m s=>tk P GL b e s' m s) (fun m s hm=>?_ ) h;cases m with
  |zero=>exact hm.elim
  |succ m=>
   refine WC.mono hm ?_;intro e1 s1 h1;cases e1 with
    |normal=>exact⟨m,by omega,h1⟩
    |exit i=>exact h1
    |ret=>exact h1
theorem iB{P:Program}{GL:ca}{own:List Nat}{call:a6}{aw:aT}(hm:P.follows .mixedOrders=true)(hc:bH P GL call)(hp:bt P GL aw){m n:Nat}(hn:n≤gY):∀{c:IR}{t:T}{H:ah}{kn:KN}{ke:Nat→KN}{kr:KN}{x:XR}{tm:List (Nat×V)},jL tm t→fm own GL call aw m n c t H kn ke kr=some x→∃e aY t' H',jL aY t'∧WC P GL c ⟨n,tm,H⟩ (fun e' s=>e'=e∧s=⟨n,aY,H'⟩)∧P9 kn ke kr e t' H'=some x
 | .skip,t,H,kn,ke,kr,x,tm,hs,h=>⟨.normal,tm,t,H,hs,WC.skip ⟨rfl,rfl⟩,h⟩
 | .region l,t,H,kn,ke,kr,x,tm,hs,h=>by obtain⟨aY,t',H',iA,hw,hk⟩:=kI hc hn hs (show lU own GL call n l t H kn=some x from h);refine⟨.normal,aY,t',H',iA,WC.region ?_,hk⟩;intro ops k h1 g w a hr;exact cP (fun e a w hp=>cr.mono (fun e s hq=>by cases e with|normal=>exact⟨rfl,hq⟩|exit i=>exact hq.elim|ret=>exact hq.elim) e a w hp) _ _ _ (hw ops k h1 g w a hr)
 | .draw l,t,H,kn,ke,kr,x,tm,hs,h=>by obtain⟨aY,t',H',iA,hw,hk⟩:=vn hm hc hp hn hs (show qm own GL call aw n l t H kn=some x from h);exact⟨.normal,aY,t',H',iA,hw,hk⟩
 | .seq a b,t,H,kn,ke,kr,x,tm,hs,h=>by
  obtain⟨e,aY,t',H',iA,hw,hk⟩:=iB hm hc hp hn hs (show fm own GL call aw m n a t H (fun t' H'=>fm own GL call aw m n b t' H' kn ke kr) ke kr=some x from h);cases e with
   |normal=>obtain⟨e2,eJ,t2,H2,Ba,FQ,va⟩:=iB hm hc hp hn iA (show fm own GL call aw m n b t' H' kn ke kr=some x from hk);refine⟨e2,eJ,t2,H2,Ba,WC.seq (hw.mono ?_ ),va⟩;rintro e' s' ⟨rfl,rfl⟩;exact FQ
   |exit i=>refine⟨.exit i,aY,t',H',iA,WC.seq (hw.mono ?_ ),hk⟩;rintro e' s' ⟨rfl,rfl⟩;exact⟨rfl,rfl⟩
   |ret=>refine⟨.ret,aY,t',H',iA,WC.seq (hw.mono ?_ ),hk⟩;rintro e' s' ⟨rfl,rfl⟩;exact⟨rfl,rfl⟩
 | .cond c a b,t,H,kn,ke,kr,x,tm,hs,h=>by
  have h:aF (jy GL t c) (fm own GL call aw m n a t H kn ke kr) (fm own GL call aw m n b t H kn ke kr)=some x:=h;rw[nk hs]at h;unfold aF at h;split at h
  ·rename_i tb hv;cases tb with
    |true=>obtain⟨e,aY,t',H',iA,hw,hk⟩:=iB hm hc hp hn hs (show fm own GL call aw m n a t H kn ke kr=some x from h);exact⟨e,aY,t',H',iA,WC.cond hv hw,hk⟩
    |false=>obtain⟨e,aY,t',H',iA,hw,hk⟩:=iB hm hc hp hn hs (show fm own GL call aw m n b t H kn ke kr=some x from h);exact⟨e,aY,t',H',iA,WC.cond hv hw,hk⟩
  ·cases h
 | .block id b,t,H,kn,ke,kr,x,tm,hs,h=>by
  obtain⟨e,aY,t',H',iA,hw,hk⟩:=iB hm hc hp hn hs (show fm own GL call aw m n b t H kn (fun i t' H'=>bif Nat.beq i id then kn t' H' else ke i t' H') kr=some x from h);cases e with
   |normal=>refine⟨.normal,aY,t',H',iA,WC.block (hw.mono ?_ ),hk⟩;rintro e' s' ⟨rfl,rfl⟩;exact⟨rfl,rfl⟩
   |exit i=>
    have hk:(bif Nat.beq i id then kn t' H' else ke i t' H')=some x:=hk;by_cases hi:i=id
    ·subst hi;rw[aaz,aag]at hk;refine⟨.normal,aY,t',H',iA,WC.block (hw.mono ?_ ),hk⟩;rintro e' s' ⟨rfl,rfl⟩;show if i=i then _ else _
     rw[aan rfl];exact⟨rfl,rfl⟩
    ·rw[cw hi,aaw]at hk;refine⟨.exit i,aY,t',H',iA,WC.block (hw.mono ?_ ),hk⟩;rintro e' s' ⟨rfl,rfl⟩;show if i=id then _ else _
     rw[aal hi];exact⟨rfl,rfl⟩
   |ret=>refine⟨.ret,aY,t',H',iA,WC.block (hw.mono ?_ ),hk⟩;rintro e' s' ⟨rfl,rfl⟩;exact⟨rfl,rfl⟩
 | .loop b,t,H,kn,ke,kr,x,tm,hs,h=>by
  have h:ra (fm own GL call aw m n b) m t H ke kr=some x:=h;have key:∀(k:Nat)(t:T)(H:ah)(tm:List (Nat×V)),jL tm t→ra (fm own GL call aw m n b) k t H ke kr=some x→∃e aY t' H',jL aY t'∧tk P GL b e ⟨n,aY,H'⟩ k ⟨n,tm,H⟩∧P9 kn ke kr e t' H'=some x:=by
   intro k;induction k with
    |zero=>intro t H tm _ h0;cases h0
    |succ k ih=>
     intro t H tm hs h0;have h0:fm own GL call aw m n b t H (fun t' H'=>ra (fm own GL call aw m n b) k t' H' ke kr) ke kr=some x:=h0;obtain⟨e,aY,t',H',iA,hw,hk⟩:=iB hm hc hp hn hs h0;cases e with
      |normal=>obtain⟨e2,eJ,t2,H2,Ba,FQ,va⟩:=ih t' H' aY iA hk;refine⟨e2,eJ,t2,H2,Ba,WC.mono hw ?_,va⟩;rintro e' s' ⟨rfl,rfl⟩;exact FQ
      |exit i=>refine⟨.exit i,aY,t',H',iA,WC.mono hw ?_,hk⟩;rintro e' s' ⟨rfl,rfl⟩;exact⟨rfl,rfl⟩
      |ret=>refine⟨.ret,aY,t',H',iA,WC.mono hw ?_,hk⟩;rintro e' s' ⟨rfl,rfl⟩;exact⟨rfl,rfl⟩
  obtain⟨e,aY,t',H',iA,hw,hk⟩:=key m t H tm hs h;exact⟨e,aY,t',H',iA,hw.wc,hk⟩
 | .exit id,t,H,kn,ke,kr,x,tm,hs,h=>⟨.exit id,tm,t,H,hs,WC.exit ⟨rfl,rfl⟩,h⟩
 | .ret,t,H,kn,ke,kr,x,tm,hs,h=>⟨.ret,tm,t,H,hs,WC.ret ⟨rfl,rfl⟩,h⟩
inductive FT (α:Type) where
 |e
 |n (l:FT α) (k:Nat) (a:α) (r:FT α)
noncomputable def mK{α:Type}(t:FT α)(f:Nat):Option α:=@FT.rec α (fun _=>Option α) none (fun _ k a _ il ir=>@Bool.rec (fun _=>Option α) (@Bool.rec (fun _=>Option α) ir il (Nat.ble f k)) (some a) (Nat.beq f k)) t
def tl{α:Type}(p:Nat→α→Prop):FT α→Prop| .e=>True| .n l k a r=>tl p l∧p k a∧tl p r
theorem nq{α:Type}{p:Nat→α→Prop}:∀{t:FT α}{f:Nat}{a:α},tl p t→mK t f=some a→p f a
 | .e,f,a,_,h=>by cases h
 | .n l k b r,f,a,ht,h=>by
  have h:@Bool.rec (fun _=>Option α) (@Bool.rec (fun _=>Option α) (mK r f) (mK l f) (Nat.ble f k)) (some b) (Nat.beq f k)=some a:=h;cases h1:Nat.beq f k with
   |true=>rw[h1]at h;have:=aah h1;subst this;simp only[aab]at h;subst h;exact ht.2.1
   |false=>
    rw[h1]at h;cases h2:Nat.ble f k with
     |true=>rw[h2]at h;exact nq ht.1 h
     |false=>rw[h2]at h;exact nq ht.2.2 h
noncomputable def sf(t:T)(H:ah):iV→Option V
 | .t n=>some (eY t n)
 | .cell n size agg=>
  match cY H size (eY t n)with
   |some cs=>oW agg cs
   |none=>none
noncomputable def pc(rs:List iV)(t:T)(H:ah):Option XR:=match bJ (sf t H) rs with
 |some [v]=>some (v,H)
 |some vs=>some (.tuple vs,H)
 |none=>none
theorem Cw{rs:List iV}{n:Nat}{t:T}{H:ah}{tm:List (Nat×V)}{x:XR}(hs:jL tm t)(h:pc rs t H=some x):fb rs ⟨n,tm,H⟩=some x.1∧x.2=H:=by
 have e:sf t H=eA ⟨n,tm,H⟩:=funext fun r=>by
  cases r with
   |t n=>simp only[sf,eA,hs _]
   |cell n size agg=>simp only[sf,eA,hs _];cases cY H size (eY t n)<;>rfl
 unfold pc at h;unfold fb;rw[e]at h;split at h
 ·rename_i v hv;simp only[aab]at h;subst h;rw[hv];exact⟨rfl,rfl⟩
 ·rename_i vs ew hv;simp only[aab]at h;subst h;rw[hv];refine⟨?_,rfl⟩;split
  ·rename_i v heq;simp only[aab]at heq;exact(ew v heq).elim
  ·rename_i To _ heq;simp only[aab]at heq;rw[heq]
  ·rename_i heq;cases heq
 ·cases h
noncomputable def DV(eB:FuncId→List Nat)(GL:ca)(qZ:FT cD)(mk:a6→a6)(w9:a6→aT)(m:Nat)(d:Nat):a6:=@Nat.rec (fun _=>a6) (fun _ _ _=>none) (fun _ ih f args H=>
 match mK qZ f with
  |none=>none
  |some fn=>bif Nat.ble args.length fn.ntmps&&Nat.ble fn.ntmps gY then fm (eB f) GL (mk ih) (w9 ih) m fn.ntmps fn.body (nR 0 args .e) H (fun t H=>pc fn.res t H) (fun _ _ _=>none) (fun t H=>pc fn.res t H)else none) d
theorem Cx{P:Program}{GL:ca}{eB:FuncId→List Nat}{qZ:FT cD}{mk:a6→a6}{w9:a6→aT}(hm:P.follows .mixedOrders=true)(hf:tl (fun f fn=>aK P f=some fn∧aq P f=true) qZ)(Yy:∀jI,bH P GL jI→bH P GL (mk jI))(P':∀jI,bH P GL jI→bt P GL (w9 jI))(m:Nat):∀d,bH P GL (DV eB GL qZ mk w9 m d)
 |0=>by intro f args H v H' h;cases h
 |d+1=>by
  intro f args H v H' h;have ih:=Cx (eB:=eB) hm hf Yy P' m d;have h:(match mK qZ f with
   |none=>none
   |some fn=>bif Nat.ble args.length fn.ntmps&&Nat.ble fn.ntmps gY then fm (eB f) GL (mk (DV eB GL qZ mk w9 m d)) (w9 (DV eB GL qZ mk w9 m d)) m fn.ntmps fn.body (nR 0 args .e) H (fun t H=>pc fn.res t H) (fun _ _ _=>none) (fun t H=>pc fn.res t H)else none)=some (v,H'):=h
  split at h
  ·cases h
  ·rename_i fn DJ;obtain⟨h1,h2⟩:=nq hf DJ;cases hb:(Nat.ble args.length fn.ntmps&&Nat.ble fn.ntmps gY)with
    |false=>rw[hb]at h;cases h
    |true=>
     rw[hb]at h;simp only[aag]at h;simp only[aac]at hb;have Ca:=aak hb.1;have Pz:=aak hb.2;obtain⟨e,aY,t',H2,iA,hw,hk⟩:=iB hm (Yy _ ih) (P' _ ih) Pz (jL.args args (by omega)) h;refine WF.body h1 h2 Ca (hw.mono ?_ );rintro e' s' ⟨rfl,rfl⟩;cases e' with
      |normal=>obtain⟨k1,k2⟩:=Cw (n:=fn.ntmps) iA (show pc fn.res t' H2=some (v,H')from hk);exact⟨v,k1,rfl,k2.symm⟩
      |exit i=>cases(show(none:Option XR)=some (v,H')from hk)
      |ret=>obtain⟨k1,k2⟩:=Cw (n:=fn.ntmps) iA (show pc fn.res t' H2=some (v,H')from hk);exact⟨v,k1,rfl,k2.symm⟩
abbrev Extra:=FT (List V→Option V)
noncomputable def y7(ex:Extra)(dZ:aT):aT:=fun f args=>
 match mK ex f with
  |none=>dZ f args
  |some s=>
   match s args with
    |some v=>some v
    |none=>dZ f args
noncomputable def UQ(kt:FT Nat)(ex:Extra)(rf:FuncId→Bool)(jK:wW)(dZ:aT)(jI:a6):a6:=fun f args H=>
 match mK kt f with
  |none=>sc (fun _=>false) (fun _ _=>none) jI f args H
  |some _=>
   match y7 ex (fun _ _=>none) f args with
    |some v=>some (v,H)
    |none=>wX rf jK (y7 ex dZ) jI f args H
noncomputable def M0(kt:FT Nat)(ex:Extra)(rf:FuncId→Bool)(dZ:aT)(jI:a6):aT:=fun f args=>
 match mK kt f with
  |none=>ly (fun _ _=>none) jI f args
  |some _=>bif rf f then none else ly (y7 ex dZ) jI f args
def uM(P:Program)(GL:ca)(ex:Extra):Prop:=tl (fun f s=>∀args v,s args=some v→PC P GL f args v) ex
section
variable {P:Program}{GL:ca}
theorem tn{ex:Extra}{dZ:aT}(he:uM P GL ex)(hp:bt P GL dZ):bt P GL (y7 ex dZ):=by
 intro f args v h;unfold y7 at h;split at h
 ·exact hp _ _ _ h
 ·rename_i s hs;split at h
  ·rename_i u hu;simp only[aab]at h;subst h;exact nq he hs _ _ hu
  ·exact hp _ _ _ h
theorem w_:bt P GL (fun _ _=>none):=by intro f a v h;cases h
theorem M1{kt:FT Nat}{ex:Extra}{rf:FuncId→Bool}{jK:wW}{dZ:aT}(he:uM P GL ex)(hh:qg P GL jK)(hp:bt P GL dZ):∀jI,bH P GL jI→bH P GL (UQ kt ex rf jK dZ jI):=by
 intro jI hr f args H v H' h;unfold UQ at h;split at h
 ·exact ta w_ hr _ _ _ _ _ h
 ·split at h
  ·rename_i u hu;simp only[aab,aae]at h;obtain⟨rfl,rfl⟩:=h;exact WF.DR (tn he w_ _ _ _ hu) ⟨rfl,rfl⟩
  ·exact vj hh (tn he hp) hr _ _ _ _ _ h
theorem JQ{kt:FT Nat}{ex:Extra}{rf:FuncId→Bool}{dZ:aT}(he:uM P GL ex)(hp:bt P GL dZ):∀jI,bH P GL jI→bt P GL (M0 kt ex rf dZ jI):=by
 intro jI hr f args v h;unfold M0 at h;split at h
 ·exact gX w_ hr _ _ _ h
 ·cases hb:rf f with
   |true=>rw[hb]at h;cases h
   |false=>rw[hb]at h;exact gX (tn he hp) hr _ _ _ h
end
end Fw
/-
  Pieces of code by the quicker run: from a state told by a few slots to another, or to a function's result.
-/
namespace Fw
open Go
noncomputable def vo:List (Nat×V)→T|[]=>.e|(s,u)::l=>DT (vo l) s u
def n_(tm:List (Nat×V)):Bool:=tm.all fun p=>Nat.blt p.1 gY
theorem jL.tree:∀{tm:List (Nat×V)},n_ tm=true→jL tm (vo tm)
 |[],_=>jL.nil
 |(s,u)::l,h=>
  fun t=>by
   simp only[n_,aaF,aac]at h;have hs:s<gY:=by simpa[aas]using h.1
   rw[az,vo,qi _ _ _ _ hs,jL.tree (by simpa[n_]using h.2) t];by_cases e:s=t
   ·subst e;simp
   ·rw[aal e,aal (fun e'=>e e'.symm)]
def rG:List Nat→List V→List (Nat×V)|k::ks,v::vs=>(k,v)::rG ks vs|_,_=>[]
theorem mL{t:T}(s:Nat):∀(ks:List Nat),get (rG ks (ks.map (eY t))) s=eY t s∨get (rG ks (ks.map (eY t))) s=.any
 |[]=>.inr rfl
 |k::ks=>by
  simp only[aax,rG,az];by_cases e:k=s
  ·subst e;rw[aan rfl];exact .inl rfl
  ·rw[aal e];exact mL s ks
theorem R.kJ{GL:ca}{g:G}{w:World}{a:Act}{n:Nat}{tm eJ:List (Nat×V)}{H:ah}(hw:∀s,get eJ s=get tm s∨get eJ s=.any)(h:R GL g w a ⟨n,tm,H⟩):R GL g w a ⟨n,eJ,H⟩:=⟨h.defers,h.size,fun t=>by
 show RV g w (get eJ t) _;rcases hw t with e|e
 ·rw[e];exact h.tmps t
 ·rw[e];simp only[RV],h.heap,h.dQ⟩
theorem ar.kJ{m n:Nat}{tm eJ:List (Nat×V)}{H:ah}(hw:∀s,get eJ s=get tm s∨get eJ s=.any):ar m ⟨n,tm,H⟩ ⟨n,eJ,H⟩:=fun _ g _ _ hr=>⟨g,hr.kJ hw,fun _ _ _ he=>he⟩
section
variable {P:Program}{GL:ca}
theorem WC.kJ{c:IR}{n:Nat}{tm eJ:List (Nat×V)}{H:ah}{Q:Ex→St→Prop}(hw:∀s,get eJ s=get tm s∨get eJ s=.any)(h:WC P GL c ⟨n,eJ,H⟩ Q):WC P GL c ⟨n,tm,H⟩ Q:=WC.tidy (ar.kJ hw) h
theorem WC.b9{c:IR}{n:Nat}{tm:List (Nat×V)}{H:ah}{Q:Ex→St→Prop}(ks:List Nat)(h:WC P GL c ⟨n,cb ks tm,H⟩ Q):WC P GL c ⟨n,tm,H⟩ Q:=WC.kJ (fun s=>jx ks s tm) h
theorem WC.runK{own:List Nat}{call:a6}{aw:aT}(hm:P.follows .mixedOrders=true)(hc:bH P GL call)(hp:bt P GL aw){m n:Nat}(hn:n≤gY){c:IR}{tm:List (Nat×V)}{H H':ah}{pW:List V}{Q:Ex→St→Prop}(ks:List Nat)(hk:n_ tm=true)(h:fm own GL call aw m n c (vo tm) H (fun t' H'=>some (.tuple (ks.map (eY t')),H')) (fun _ _ _=>none) (fun _ _=>none)=some (.tuple pW,H'))(hq:Q .normal ⟨n,rG ks pW,H'⟩):WC P GL c ⟨n,tm,H⟩ Q:=by
 obtain⟨e,aY,t',H2,iA,hw,hk⟩:=iB hm hc hp hn (jL.tree hk) h;cases e with
  |exit i=>cases(show(none:Option XR)=some (V.tuple pW,H')from hk)
  |ret=>cases(show(none:Option XR)=some (V.tuple pW,H')from hk)
  |normal=>have hk:some (V.tuple (ks.map (eY t')),H2)=some (V.tuple pW,H'):=hk;simp only[aab,aae,V.tuple.injEq]at hk;obtain⟨rfl,rfl⟩:=hk;refine WC.post (hw.mono ?_ );rintro e' s' ⟨rfl,rfl⟩;refine⟨_,ar.kJ (fun s=>?_ ),hq⟩;rw[iA s];exact mL s ks
end
end Fw
/-
  The quicker run, made ready once for each text of code: what an operation does, as a small function of slots and boxes.
-/
namespace Fw
open Go
inductive Bx (α:Type) where|mk (a:α)
structure pd where
 GL:ca
 call:a6
 aw:aT
abbrev VK:=V→ah→Option XR
noncomputable def DW(k:Nat):Nat→Bx (T→V):=@Nat.rec (fun _=>Nat→Bx (T→V)) (fun i=>.mk (fun t=>eY t i)) (fun _ ih i=>@Nat.rec (fun _=>Bx (T→V)) (.mk (fun t=>@T.rec (fun _=>V) .any (fun _ v _ _ _=>v) t)) (fun j _=>@Bx.rec (T→V) (fun _=>Bx (T→V)) (fun g=>@Nat.rec (fun _=>Bx (T→V)) (.mk (fun t=>@T.rec (fun _=>V) .any (fun l _ _ _ _=>g l) t)) (fun _ _=>.mk (fun t=>@T.rec (fun _=>V) .any (fun _ _ r _ _=>g r) t)) (Nat.land j 1)) (ih (Nat.shiftRight j 1))) i) k
theorem xa:∀(k i:Nat),∃g,DW k i=.mk g∧∀t,g t=eY t i
 |0,i=>⟨_,rfl,fun _=>rfl⟩
 |k+1,0=>⟨_,rfl,fun t=>by cases t<;>rfl⟩
 |k+1,j+1=>by
  have h1:Nat.shiftRight j 1=j / 2:=by show j>>>1=_;simp[abJ]
  have h2:Nat.land j 1=j%2:=abV j;obtain⟨g,hg,sg⟩:=xa k (Nat.shiftRight j 1);have h:DW (k+1) (j+1)=@Bx.rec (T→V) (fun _=>Bx (T→V)) (fun g=>@Nat.rec (fun _=>Bx (T→V)) (.mk (fun t=>@T.rec (fun _=>V) .any (fun l _ _ _ _=>g l) t)) (fun _ _=>.mk (fun t=>@T.rec (fun _=>V) .any (fun _ _ r _ _=>g r) t)) (Nat.land j 1)) (DW k (Nat.shiftRight j 1)):=rfl;rw[h,hg];rw[h1]at sg;rcases abq j with hj|hj
  ·rw[h2,hj];refine⟨_,rfl,fun t=>?_ ⟩;cases t with
    |e=>rfl
    |n l u r=>rw[gm,aan hj];exact sg l
  ·rw[h2,hj];refine⟨_,rfl,fun t=>?_ ⟩;cases t with
    |e=>rfl
    |n l u r=>rw[gm,aal (by omega)];exact sg r
noncomputable def JR(k:Nat):Nat→Bx (T→V→T):=@Nat.rec (fun _=>Nat→Bx (T→V→T)) (fun i=>.mk (fun t _=>t)) (fun _ ih i=>@Nat.rec (fun _=>Bx (T→V→T)) (.mk (fun t v=>@T.rec (fun _=>T) (.n .e v .e) (fun l _ r _ _=>.n l v r) t)) (fun j _=>@Bx.rec (T→V→T) (fun _=>Bx (T→V→T)) (fun g=>@Nat.rec (fun _=>Bx (T→V→T)) (.mk (fun t v=>@T.rec (fun _=>T) (.n (g .e v) .any .e) (fun l u r _ _=>.n (g l v) u r) t)) (fun _ _=>.mk (fun t v=>@T.rec (fun _=>T) (.n .e .any (g .e v)) (fun l u r _ _=>.n l u (g r v)) t)) (Nat.land j 1)) (ih (Nat.shiftRight j 1))) i) k
theorem Cy:∀(k i:Nat),∃g,JR k i=.mk g∧∀t v,g t v=mH k t i v
 |0,i=>⟨_,rfl,fun _ _=>rfl⟩
 |k+1,0=>⟨_,rfl,fun t v=>by cases t<;>rfl⟩
 |k+1,j+1=>by
  have h1:Nat.shiftRight j 1=j / 2:=by show j>>>1=_;simp[abJ]
  have h2:Nat.land j 1=j%2:=abV j;obtain⟨g,hg,sg⟩:=Cy k (Nat.shiftRight j 1);have h:JR (k+1) (j+1)=@Bx.rec (T→V→T) (fun _=>Bx (T→V→T)) (fun g=>@Nat.rec (fun _=>Bx (T→V→T)) (.mk (fun t v=>@T.rec (fun _=>T) (.n (g .e v) .any .e) (fun l u r _ _=>.n (g l v) u r) t)) (fun _ _=>.mk (fun t v=>@T.rec (fun _=>T) (.n .e .any (g .e v)) (fun l u r _ _=>.n l u (g r v)) t)) (Nat.land j 1)) (JR k (Nat.shiftRight j 1)):=rfl;rw[h,hg];rw[h1]at sg;rcases abq j with hj|hj
  ·rw[h2,hj];refine⟨_,rfl,fun t v=>?_ ⟩;cases t with
    |e=>rw[w4,aan hj,←sg]
    |n l u r=>rw[w5,aan hj,←sg]
  ·rw[h2,hj];refine⟨_,rfl,fun t v=>?_ ⟩;cases t with
    |e=>rw[w4,aal (by omega),←sg]
    |n l u r=>rw[w5,aal (by omega),←sg]
noncomputable def xd(x:a_):Bx (pd→T→V):=@a_.rec (fun _=>Bx (pd→T→V)) (fun n=>@Bx.rec (T→V) (fun _=>Bx (pd→T→V)) (fun g=>.mk (fun _ t=>g t)) (DW 12 n)) (fun v=>.mk (fun _ _=>v)) (fun n=>.mk (fun E t=>jy E.GL t (.g n))) (fun f=>.mk (fun _ _=>.func f [] [])) x
theorem pf(x:a_):∃f,xd x=.mk f∧∀E t,f E t=jy E.GL t x:=by
 cases x with
  |t n=>obtain⟨g,hg,sg⟩:=xa 12 n;have h:xd (.t n)=@Bx.rec (T→V) (fun _=>Bx (pd→T→V)) (fun g=>.mk (fun _ t=>g t)) (DW 12 n):=rfl;rw[h,hg];exact⟨_,rfl,fun E t=>sg t⟩
  |c v=>exact⟨_,rfl,fun _ _=>rfl⟩
  |g n=>exact⟨_,rfl,fun _ _=>rfl⟩
  |f f=>exact⟨_,rfl,fun _ _=>rfl⟩
noncomputable def Cz(l:List a_):Bx (pd→T→List V):=@List.rec a_ (fun _=>Bx (pd→T→List V)) (.mk (fun _ _=>[])) (fun x _ ih=>@Bx.rec (pd→T→V) (fun _=>Bx (pd→T→List V)) (fun f=>@Bx.rec (pd→T→List V) (fun _=>Bx (pd→T→List V)) (fun g=>.mk (fun E t=>f E t::g E t)) ih) (xd x)) l
theorem y8:∀(l:List a_),∃f,Cz l=.mk f∧∀E t,f E t=bd (jy E.GL t) l
 |[]=>⟨_,rfl,fun _ _=>rfl⟩
 |x::l=>by obtain⟨f,hf,rH⟩:=pf x;obtain⟨g,hg,sg⟩:=y8 l;have h:Cz (x::l)=@Bx.rec (pd→T→V) (fun _=>Bx (pd→T→List V)) (fun f=>@Bx.rec (pd→T→List V) (fun _=>Bx (pd→T→List V)) (fun g=>.mk (fun E t=>f E t::g E t)) (Cz l)) (xd x):=rfl;rw[h,hf,hg];exact⟨_,rfl,fun E t=>by simp only[bd,rH,sg]⟩
abbrev OC:=pd→T→ah→VK→Option XR
def gH(r:Option (V×Wr))(H:ah)(k:VK):Option XR:=match r with
 |some (v,wr)=>k v (aX H wr)
 |none=>none
def P_(r:Option XR)(k:VK):Option XR:=match r with
 |some (v,H')=>k v H'
 |none=>none
noncomputable def JS(x:a_)(F:(pd→T→V)→OC):Bx OC:=@Bx.rec (pd→T→V) (fun _=>Bx OC) (fun f=>.mk (F f)) (xd x)
noncomputable def M2(x y:a_)(F:(pd→T→V)→(pd→T→V)→OC):Bx OC:=@Bx.rec (pd→T→V) (fun _=>Bx OC) (fun f=>@Bx.rec (pd→T→V) (fun _=>Bx OC) (fun g=>.mk (F f g)) (xd y)) (xd x)
theorem oa{x:a_}{F:(pd→T→V)→OC}:∃f,JS x F=.mk (F f)∧∀E t,f E t=jy E.GL t x:=by obtain⟨f,hf,rH⟩:=pf x;exact⟨f,by unfold JS;rw[hf],rH⟩
theorem tp{x y:a_}{F:(pd→T→V)→(pd→T→V)→OC}:∃f g,M2 x y F=.mk (F f g)∧(∀E t,f E t=jy E.GL t x)∧∀E t,g E t=jy E.GL t y:=by obtain⟨f,hf,rH⟩:=pf x;obtain⟨g,hg,sg⟩:=pf y;exact⟨f,g,by unfold M2;rw[hf,hg],rH,sg⟩
noncomputable def UR(own:List Nat)(dst:Option Nat)(op:ki):Bx OC:=match op with
 | .mv x=>JS x fun f E t H k=>k (f E t) H
 | .load n agg a=>JS a fun f E t H k=>gH (Cu H n agg (f E t)) H k
 | .store n a x=>M2 a x fun f g E t H k=>gH (w6 H n (f E t) (g E t)) H k
 | .bin op x y=>M2 x y fun f g E t H k=>gH (yZ op (f E t) (g E t)) H k
 | .eq neg kk x y=>M2 x y fun f g E t H k=>gH (TC H neg kk (f E t) (g E t)) H k
 | .un op x=>JS x fun f E t H k=>gH (TD op (f E t)) H k
 | .fW x=>JS x fun f E t H k=>gH (MX (f E t)) H k
 | .Mj off n agg x=>JS x fun f E t H k=>gH (JL off n agg (f E t)) H k
 | .fI off n x=>JS x fun f E t H k=>gH (A' off n (f E t)) H k
 | .db sz x i=>M2 x i fun f g E t H k=>gH (A_ H sz (f E t) (g E t)) H k
 | .gF x i=>M2 x i fun f g E t H k=>gH (GW (f E t) (g E t)) H k
 | .ext x i=>JS x fun f E t H k=>gH (JM (f E t) i) H k
 | .call f args=>@Bx.rec (pd→T→List V) (fun _=>Bx OC) (fun a=>.mk fun E t H k=>P_ (E.call f (a E t) H) k) (Cz args)
 |op=>.mk fun E t H k=>MY own E.GL E.call dst op t H k
theorem CA{r:Option (V×Wr)}{H:ah}{k:VK}:gH r H k=match r with|some (v,wr)=>k v (aX H wr)|none=>none:=rfl
theorem M3(own:List Nat)(dst:Option Nat)(op:ki):∃f,UR own dst op=.mk f∧∀E t H k,f E t H k=MY own E.GL E.call dst op t H k:=by
 cases op with
  |mv x=>obtain⟨f,h,hf⟩:=oa (x:=x) (F:=fun f E t H k=>k (f E t) H);exact⟨_,h,fun E t H k=>by simp only[hf];rfl⟩
  |load n agg a=>obtain⟨f,h,hf⟩:=oa (x:=a) (F:=fun f E t H k=>gH (Cu H n agg (f E t)) H k);exact⟨_,h,fun E t H k=>by simp only[hf];rfl⟩
  |store n a x=>obtain⟨f,g,h,hf,hg⟩:=tp (x:=a) (y:=x) (F:=fun f g E t H k=>gH (w6 H n (f E t) (g E t)) H k);exact⟨_,h,fun E t H k=>by simp only[hf,hg];rfl⟩
  |bin op x y=>obtain⟨f,g,h,hf,hg⟩:=tp (x:=x) (y:=y) (F:=fun f g E t H k=>gH (yZ op (f E t) (g E t)) H k);exact⟨_,h,fun E t H k=>by simp only[hf,hg];rfl⟩
  |eq neg kk x y=>obtain⟨f,g,h,hf,hg⟩:=tp (x:=x) (y:=y) (F:=fun f g E t H k=>gH (TC H neg kk (f E t) (g E t)) H k);exact⟨_,h,fun E t H k=>by simp only[hf,hg];rfl⟩
  |un op x=>obtain⟨f,h,hf⟩:=oa (x:=x) (F:=fun f E t H k=>gH (TD op (f E t)) H k);exact⟨_,h,fun E t H k=>by simp only[hf];rfl⟩
  |fW x=>obtain⟨f,h,hf⟩:=oa (x:=x) (F:=fun f E t H k=>gH (MX (f E t)) H k);exact⟨_,h,fun E t H k=>by simp only[hf];rfl⟩
  |Mj off n agg x=>obtain⟨f,h,hf⟩:=oa (x:=x) (F:=fun f E t H k=>gH (JL off n agg (f E t)) H k);exact⟨_,h,fun E t H k=>by simp only[hf];rfl⟩
  |fI off n x=>obtain⟨f,h,hf⟩:=oa (x:=x) (F:=fun f E t H k=>gH (A' off n (f E t)) H k);exact⟨_,h,fun E t H k=>by simp only[hf];rfl⟩
  |db sz x i=>obtain⟨f,g,h,hf,hg⟩:=tp (x:=x) (y:=i) (F:=fun f g E t H k=>gH (A_ H sz (f E t) (g E t)) H k);exact⟨_,h,fun E t H k=>by simp only[hf,hg];rfl⟩
  |gF x i=>obtain⟨f,g,h,hf,hg⟩:=tp (x:=x) (y:=i) (F:=fun f g E t H k=>gH (GW (f E t) (g E t)) H k);exact⟨_,h,fun E t H k=>by simp only[hf,hg];rfl⟩
  |ext x i=>obtain⟨f,h,hf⟩:=oa (x:=x) (F:=fun f E t H k=>gH (JM (f E t) i) H k);exact⟨_,h,fun E t H k=>by simp only[hf];rfl⟩
  |call f args=>
   obtain⟨a,ha,ZA⟩:=y8 args;refine⟨fun E t H k=>P_ (E.call f (a E t) H) k,?_,?_ ⟩
   ·simp only[UR];rw[ha]
   ·intro E t H k;simp only[ZA];rfl
  |_=>exact⟨_,rfl,fun _ _ _ _=>rfl⟩
abbrev SC:=pd→T→ah→KN→Option XR
noncomputable def M4(n:Nat)(dst:Option Nat):Bx (V→T→ah→KN→Option XR):=match dst with
 |none=>.mk fun _ t H k=>k t H
 |some d=>@Bool.rec (fun _=>Bx (V→T→ah→KN→Option XR)) (.mk fun _ _ _ _=>none) (@Bx.rec (T→V→T) (fun _=>Bx (V→T→ah→KN→Option XR)) (fun s=>.mk fun v t H k=>k (s t v) H) (JR 12 d)) (Nat.blt d n)
theorem JT(n:Nat)(dst:Option Nat):∃f,M4 n dst=.mk f∧∀v t H k,f v t H k=DU n dst v t H k:=by
 cases dst with
  |none=>exact⟨_,rfl,fun _ _ _ _=>rfl⟩
  |some d=>
   simp only[M4,DU];cases h:Nat.blt d n with
    |false=>exact⟨_,rfl,fun _ _ _ _=>rfl⟩
    |true=>obtain⟨s,hs,Ba⟩:=Cy 12 d;simp only[hs];exact⟨_,rfl,fun v t H k=>by simp only[Ba];rfl⟩
noncomputable def JU(v:V)(Qa Qb:Option XR)(skip:Option XR):Option XR:=match v with
 | .d (.bool b)=>@Bool.rec (fun _=>Option XR) Qb Qa b
 | .tuple []=>skip
 |_=>none
noncomputable def CB(own:List Nat)(n:Nat)(o:ad):Bx SC:=match o with
 |⟨dst,op,gd,_⟩=>
  @Bx.rec OC (fun _=>Bx SC) (fun f=>
   @Bx.rec (V→T→ah→KN→Option XR) (fun _=>Bx SC) (fun p=>
    match gd with
     |none=>.mk fun E t H k=>f E t H (fun v H'=>p v t H' k)
     |some (d,nB)=>
      @Bx.rec (T→V) (fun _=>Bx SC) (fun g=>
       match nB with
        |true=>.mk fun E t H k=>JU (g t) (f E t H (fun v H'=>p v t H' k)) (p (.tuple []) t H k) (p (.tuple []) t H k)
        |false=>.mk fun E t H k=>JU (g t) (p (.tuple []) t H k) (f E t H (fun v H'=>p v t H' k)) (p (.tuple []) t H k)) (DW 12 d)) (M4 n dst)) (UR own dst op)
theorem G4(own:List Nat)(n:Nat)(o:ad):∃f,CB own n o=.mk f∧∀E t H k,f E t H k=mJ own E.GL E.call n o t H k:=by
 obtain⟨dst,op,gd,af⟩:=o;obtain⟨f,hf,rH⟩:=M3 own dst op;obtain⟨p,hp,Qc⟩:=JT n dst;simp only[CB,hf,hp];cases gd with
  |none=>exact⟨_,rfl,fun E t H k=>by simp only[mJ,qj,rH,Qc]⟩
  |some q=>
   obtain⟨d,nB⟩:=q;obtain⟨g,hg,sg⟩:=xa 12 d;simp only[hg];cases nB with
    |true=>
     refine⟨_,rfl,fun E t H k=>?_ ⟩;simp only[mJ,qj,JU,rH,Qc,sg];generalize eY t d=v;cases v with
      |d x=>
       cases x with
        |bool b=>cases b<;>rfl
        |_=>rfl
      |tuple vs=>cases vs<;>rfl
      |_=>rfl
    |false=>
     refine⟨_,rfl,fun E t H k=>?_ ⟩;simp only[mJ,qj,JU,rH,Qc,sg];generalize eY t d=v;cases v with
      |d x=>
       cases x with
        |bool b=>cases b<;>rfl
        |_=>rfl
      |tuple vs=>cases vs<;>rfl
      |_=>rfl
noncomputable def DX(own:List Nat)(n:Nat)(l:List ad):Bx SC:=@List.rec ad (fun _=>Bx SC) (.mk fun _ t H k=>k t H) (fun o _ ih=>@Bx.rec SC (fun _=>Bx SC) (fun f=>@Bx.rec SC (fun _=>Bx SC) (fun g=>.mk fun E t H k=>f E t H (fun t' H'=>g E t' H' k)) ih) (CB own n o)) l
theorem xe(own:List Nat)(n:Nat):∀(l:List ad),∃f,DX own n l=.mk f∧∀E t H k,f E t H k=lU own E.GL E.call n l t H k
 |[]=>⟨_,rfl,fun _ _ _ _=>rfl⟩
 |o::l=>by obtain⟨f,hf,rH⟩:=G4 own n o;obtain⟨g,hg,sg⟩:=xe own n l;have h:DX own n (o::l)=@Bx.rec SC (fun _=>Bx SC) (fun f=>@Bx.rec SC (fun _=>Bx SC) (fun g=>.mk fun E t H k=>f E t H (fun t' H'=>g E t' H' k)) (DX own n l)) (CB own n o):=rfl;rw[h,hf,hg];exact⟨_,rfl,fun E t H k=>by simp only[rH,sg];rfl⟩
abbrev CC:=pd→T→ah→KN→(Nat→KN)→KN→Option XR
noncomputable def DY(own:List Nat)(m n:Nat)(c:IR):Bx CC:=@IR.rec (fun _=>Bx CC) (.mk fun _ t H kn _ _=>kn t H) (fun l=>@Bx.rec SC (fun _=>Bx CC) (fun f=>.mk fun E t H kn _ _=>f E t H kn) (DX own n l)) (fun l=>.mk fun E t H kn _ _=>qm own E.GL E.call E.aw n l t H kn) (fun _ _ ia ib=>@Bx.rec CC (fun _=>Bx CC) (fun f=>@Bx.rec CC (fun _=>Bx CC) (fun g=>.mk fun E t H kn ke kr=>f E t H (fun t' H'=>g E t' H' kn ke kr) ke kr) ib) ia) (fun c _ _ ia ib=>@Bx.rec (pd→T→V) (fun _=>Bx CC) (fun x=>@Bx.rec CC (fun _=>Bx CC) (fun f=>@Bx.rec CC (fun _=>Bx CC) (fun g=>.mk fun E t H kn ke kr=>aF (x E t) (f E t H kn ke kr) (g E t H kn ke kr)) ib) ia) (xd c)) (fun id _ ib=>@Bx.rec CC (fun _=>Bx CC) (fun f=>.mk fun E t H kn ke kr=>f E t H kn (fun i t' H'=>bif Nat.beq i id then kn t' H' else ke i t' H') kr) ib) (fun _ ib=>@Bx.rec CC (fun _=>Bx CC) (fun f=>.mk fun E t H _ ke kr=>ra (f E) m t H ke kr) ib) (fun id=>.mk fun _ t H _ ke _=>ke id t H) (.mk fun _ t H _ _ kr=>kr t H) c
theorem ob(own:List Nat)(m n:Nat):∀(c:IR),∃f,DY own m n c=.mk f∧∀E t H kn ke kr,f E t H kn ke kr=fm own E.GL E.call E.aw m n c t H kn ke kr
 | .skip=>⟨_,rfl,fun _ _ _ _ _ _=>rfl⟩
 | .region l=>by obtain⟨f,hf,rH⟩:=xe own n l;have h:DY own m n (.region l)=@Bx.rec SC (fun _=>Bx CC) (fun f=>.mk fun E t H kn _ _=>f E t H kn) (DX own n l):=rfl;rw[h,hf];exact⟨_,rfl,fun E t H kn ke kr=>by simp only[rH];rfl⟩
 | .draw l=>⟨_,rfl,fun _ _ _ _ _ _=>rfl⟩
 | .seq a b=>by obtain⟨f,hf,rH⟩:=ob own m n a;obtain⟨g,hg,sg⟩:=ob own m n b;have h:DY own m n (.seq a b)=@Bx.rec CC (fun _=>Bx CC) (fun f=>@Bx.rec CC (fun _=>Bx CC) (fun g=>.mk fun E t H kn ke kr=>f E t H (fun t' H'=>g E t' H' kn ke kr) ke kr) (DY own m n b)) (DY own m n a):=rfl;rw[h,hf,hg];exact⟨_,rfl,fun E t H kn ke kr=>by simp only[rH,sg];rfl⟩
 | .cond c a b=>by obtain⟨x,hx,wM⟩:=pf c;obtain⟨f,hf,rH⟩:=ob own m n a;obtain⟨g,hg,sg⟩:=ob own m n b;have h:DY own m n (.cond c a b)=@Bx.rec (pd→T→V) (fun _=>Bx CC) (fun x=>@Bx.rec CC (fun _=>Bx CC) (fun f=>@Bx.rec CC (fun _=>Bx CC) (fun g=>.mk fun E t H kn ke kr=>aF (x E t) (f E t H kn ke kr) (g E t H kn ke kr)) (DY own m n b)) (DY own m n a)) (xd c):=rfl;rw[h,hx,hf,hg];exact⟨_,rfl,fun E t H kn ke kr=>by simp only[wM,rH,sg];rfl⟩
 | .block id b=>by obtain⟨f,hf,rH⟩:=ob own m n b;have h:DY own m n (.block id b)=@Bx.rec CC (fun _=>Bx CC) (fun f=>.mk fun E t H kn ke kr=>f E t H kn (fun i t' H'=>bif Nat.beq i id then kn t' H' else ke i t' H') kr) (DY own m n b):=rfl;rw[h,hf];exact⟨_,rfl,fun E t H kn ke kr=>by simp only[rH];rfl⟩
 | .loop b=>by
  obtain⟨f,hf,rH⟩:=ob own m n b;have h:DY own m n (.loop b)=@Bx.rec CC (fun _=>Bx CC) (fun f=>.mk fun E t H _ ke kr=>ra (f E) m t H ke kr) (DY own m n b):=rfl;rw[h,hf];refine⟨_,rfl,fun E t H kn ke kr=>?_ ⟩;have e:f E=fm own E.GL E.call E.aw m n b:=funext fun t=>funext fun H=>funext fun kn=>funext fun ke=>funext fun kr=>rH E t H kn ke kr
  show ra (f E) m t H ke kr=ra (fm own E.GL E.call E.aw m n b) m t H ke kr;rw[e]
 | .exit id=>⟨_,rfl,fun _ _ _ _ _ _=>rfl⟩
 | .ret=>⟨_,rfl,fun _ _ _ _ _ _=>rfl⟩
noncomputable def CD(own:List Nat)(GL:ca)(call:a6)(aw:aT)(m n:Nat)(c:IR)(t:T)(H:ah)(kn:KN)(ke:Nat→KN)(kr:KN):Option XR:=@Bx.rec CC (fun _=>Option XR) (fun f=>f ⟨GL,call,aw⟩ t H kn ke kr) (DY own m n c)
theorem G5(own:List Nat)(GL:ca)(call:a6)(aw:aT)(m n:Nat)(c:IR):CD own GL call aw m n c=fm own GL call aw m n c:=by obtain⟨f,hf,rH⟩:=ob own m n c;funext t H kn ke kr;unfold CD;rw[hf];exact rH ⟨GL,call,aw⟩ t H kn ke kr
noncomputable def JV(eB:FuncId→List Nat)(GL:ca)(qZ:FT cD)(mk:a6→a6)(w9:a6→aT)(m:Nat)(d:Nat):a6:=@Nat.rec (fun _=>a6) (fun _ _ _=>none) (fun _ ih f args H=>
 match mK qZ f with
  |none=>none
  |some fn=>bif Nat.ble args.length fn.ntmps&&Nat.ble fn.ntmps gY then CD (eB f) GL (mk ih) (w9 ih) m fn.ntmps fn.body (nR 0 args .e) H (fun t H=>pc fn.res t H) (fun _ _ _=>none) (fun t H=>pc fn.res t H)else none) d
theorem CE(eB:FuncId→List Nat)(GL:ca)(qZ:FT cD)(mk:a6→a6)(w9:a6→aT)(m:Nat):∀d,JV eB GL qZ mk w9 m d=DV eB GL qZ mk w9 m d
 |0=>rfl
 |d+1=>by
  have ih:=CE eB GL qZ mk w9 m d;funext f args H;show(match mK qZ f with
   |none=>none
   |some fn=>bif Nat.ble args.length fn.ntmps&&Nat.ble fn.ntmps gY then CD (eB f) GL (mk (JV eB GL qZ mk w9 m d)) (w9 (JV eB GL qZ mk w9 m d)) m fn.ntmps fn.body (nR 0 args .e) H (fun t H=>pc fn.res t H) (fun _ _ _=>none) (fun t H=>pc fn.res t H)else none)=(match mK qZ f with
   |none=>none
   |some fn=>bif Nat.ble args.length fn.ntmps&&Nat.ble fn.ntmps gY then fm (eB f) GL (mk (DV eB GL qZ mk w9 m d)) (w9 (DV eB GL qZ mk w9 m d)) m fn.ntmps fn.body (nR 0 args .e) H (fun t H=>pc fn.res t H) (fun _ _ _=>none) (fun t H=>pc fn.res t H)else none)
  rw[ih];simp only[G5]
end Fw
/-
  Operations by the quicker run, and the code behind them.
-/
namespace Fw
open Go
section
variable {P:Program}{GL:ca}
theorem WO.mono{l:List ad}{σ:St}{Q Q':St→Prop}(h:WO P GL l σ Q)(hq:∀s,Q s→Q' s):WO P GL l σ Q':=by intro ops k h1 g w a hr;exact cP (fun e a w hp=>cr.mono (fun e s yi=>by cases e with|normal=>exact hq _ yi|exit i=>exact yi.elim|ret=>exact yi.elim) e a w hp) _ _ _ (h ops k h1 g w a hr)
theorem WO.kJ{l:List ad}{n:Nat}{tm eJ:List (Nat×V)}{H:ah}{Q:St→Prop}(hw:∀s,get eJ s=get tm s∨get eJ s=.any)(h:WO P GL l ⟨n,eJ,H⟩ Q):WO P GL l ⟨n,tm,H⟩ Q:=fun ops k h1 g w a hr=>h ops k h1 g w a (hr.kJ hw)
theorem WO.b9{l:List ad}{n:Nat}{tm:List (Nat×V)}{H:ah}{Q:St→Prop}(ks:List Nat)(h:WO P GL l ⟨n,cb ks tm,H⟩ Q):WO P GL l ⟨n,tm,H⟩ Q:=WO.kJ (fun s=>jx ks s tm) h
theorem WO.runK{own:List Nat}{call:a6}(hc:bH P GL call){n:Nat}(hn:n≤gY){l:List ad}{tm:List (Nat×V)}{H H':ah}{pW:List V}{Q:St→Prop}(ks:List Nat)(hk:n_ tm=true)(h:lU own GL call n l (vo tm) H (fun t' H'=>some (.tuple (ks.map (eY t')),H'))=some (.tuple pW,H'))(hq:∀aY,(∀s,get (rG ks pW) s=get aY s∨get (rG ks pW) s=.any)→Q ⟨n,aY,H'⟩):WO P GL l ⟨n,tm,H⟩ Q:=by obtain⟨aY,t',H2,iA,hw,iO⟩:=kI hc hn (jL.tree hk) h;simp only[aab,aae,V.tuple.injEq]at iO;obtain⟨rfl,rfl⟩:=iO;refine hw.mono ?_;rintro s rfl;refine hq aY (fun s=>?_ );rw[iA s];exact mL s ks
noncomputable def vp(own:List Nat)(GL:ca)(call:a6)(aw:aT)(n:Nat)(l:List ad)(t:T)(H:ah)(k:KN):Option XR:=@Bx.rec SC (fun _=>Option XR) (fun f=>f ⟨GL,call,aw⟩ t H k) (DX own n l)
theorem tq(own:List Nat)(GL:ca)(call:a6)(aw:aT)(n:Nat)(l:List ad):vp own GL call aw n l=lU own GL call n l:=by obtain⟨f,hf,rH⟩:=xe own n l;funext t H k;unfold vp;rw[hf];exact rH ⟨GL,call,aw⟩ t H k
end
end Fw
/-
  Walks with symbolic values: branches at a truth value, runs of pieces told by a few slots, results.
-/
namespace Fw
open Go
def nn(k:Nat)(H:ah):ah:=List.replicate k none++H
section
variable {P:Program}{GL:ca}
theorem WC.aB{c:a_}{a d:IR}{σ:St}{b:Bool}{Q:Ex→St→Prop}(h:b=true)(ht:aU GL σ.tm c=.d (.bool b))(h1:WC P GL a σ Q):WC P GL (.cond c a d) σ Q:=by subst h;exact WC.cond ht h1
theorem WC.aF{c:a_}{a d:IR}{σ:St}{b:Bool}{Q:Ex→St→Prop}(h:b=false)(ht:aU GL σ.tm c=.d (.bool b))(h1:WC P GL d σ Q):WC P GL (.cond c a d) σ Q:=by subst h;exact WC.cond ht h1
def eP(id:Nat)(Q:Ex→St→Prop):Ex→St→Prop| .exit i,s=>if i=id then Q .normal s else Q (.exit i) s| .normal,s=>Q .normal s| .ret,s=>Q .ret s
theorem eP.exit{id:Nat}{Q:Ex→St→Prop}{s:St}(h:Q .normal s):eP id Q (.exit id) s:=by simpa[eP]using h
theorem eP.other{id i:Nat}{Q:Ex→St→Prop}{s:St}(hn:i≠id)(h:Q (.exit i) s):eP id Q (.exit i) s:=by simpa[eP,hn]using h
theorem eP.normal{id:Nat}{Q:Ex→St→Prop}{s:St}(h:Q .normal s):eP id Q .normal s:=h
theorem eP.ret{id:Nat}{Q:Ex→St→Prop}{s:St}(h:Q .ret s):eP id Q .ret s:=h
theorem WC.M5{id:Nat}{b:IR}{σ:St}{Q:Ex→St→Prop}(h:WC P GL b σ (eP id Q)):WC P GL (.block id b) σ Q:=WC.block (WC.mono h fun e s hq=>by cases e<;>exact hq)
def lV(P:Program)(GL:ca)(b:IR)(Q:Ex→St→Prop):Nat→St→Prop|0,_=>False|n+1,s=>WC P GL b s (fun e s'=>match e with| .normal=>lV P GL b Q n s'|e=>Q e s')
theorem lV.step{b:IR}{Q:Ex→St→Prop}{n:Nat}{s:St}(h:WC P GL b s (fun e s'=>match e with| .normal=>lV P GL b Q n s'|e=>Q e s')):lV P GL b Q (n+1) s:=h
theorem lV.wc{b:IR}{Q:Ex→St→Prop}{n:Nat}{s:St}(h:lV P GL b Q n s):WC P GL (.loop b) s Q:=WC.loop (fun m s=>lV P GL b Q m s) (fun m s hm=>by
 cases m with
  |zero=>exact absurd hm (by simp[lV])
  |succ m=>
   refine WC.mono hm fun e s' hq=>?_
   cases e with
    |normal=>exact⟨m,by omega,hq⟩
    |exit i=>exact hq
    |ret=>exact hq) h
def oc(rs:List iV)(v:V):Ex→St→Prop| .exit _,_=>False|_,σ=>(fb rs σ).bind (fY σ.hp)=some v
theorem oc.ret{rs:List iV}{v v':V}{σ:St}(h:(fb rs σ).bind (fY σ.hp)=some v')(e:v'=v):oc rs v .ret σ:=by subst e;exact h
theorem oc.normal{rs:List iV}{v v':V}{σ:St}(h:(fb rs σ).bind (fY σ.hp)=some v')(e:v'=v):oc rs v .normal σ:=by subst e;exact h
theorem PC.Qd{f:FuncId}{fn:cD}{args:List V}{v:V}(hf:aK P f=some fn)(wO:aq P f=true)(hc:(Nat.ble args.length fn.ntmps&&ak 0 args)=true)(h:WC P GL fn.body ⟨fn.ntmps,sP 0 args,[]⟩ (oc fn.res v)):PC P GL f args v:=by
 rw[aac]at hc;refine PC.body hf wO (aak hc.1) hc.2 (WC.mono h fun e s hq=>?_ );cases e with
  |normal=>exact hq
  |exit i=>exact hq
  |ret=>exact hq
theorem ph:∀(tm:List (Nat×V)),rG (tm.map Prod.fst) (tm.map Prod.snd)=tm|[]=>rfl|(k,v)::l=>by simp[rG,ph l]
theorem qn{own:List Nat}{call:a6}(hc:bH P GL call){n:Nat}(hn:n≤gY){l2:List ad}{Q:St→Prop}:∀{l:List ad}{t:T}{H:ah}{k:KN}{x:XR}{tm:List (Nat×V)},jL tm t→lU own GL call n l t H k=some x→(∀aY t' H',jL aY t'→k t' H'=some x→WO P GL l2 ⟨n,aY,H'⟩ Q)→WO P GL (l++l2) ⟨n,tm,H⟩ Q
 |[],t,H,k,x,tm,hs,h,hq=>hq tm t H hs h
 |o::l,t,H,k,x,tm,hs,h,hq=>by
  have h:mJ own GL call n o t H (fun t' H'=>lU own GL call n l t' H' k)=some x:=h;obtain⟨dst,op,gd,af⟩:=o;simp only[mJ]at h;rcases qk hs h with⟨hg,h⟩|⟨hg,h⟩
  ·obtain⟨v,H',h1,h2⟩:=GX (n:=n) (af:=af) hc hs hg h;obtain⟨aY,t',iA,h3,h4⟩:=nl hn hs h1;exact h2 _ _ _ (h4 H) (qn hc hn iA h3 hq)
  ·obtain⟨aY,t',iA,h3,h4⟩:=nl hn hs h;exact WO.skip hg (h4 H) (qn hc hn iA h3 hq)
theorem WO.head{o:ad}{l:List ad}{σ:St}{Q:St→Prop}(ho:l.head?=some o)(h:WO P GL (o::l.drop 1) σ Q):WO P GL l σ Q:=by
 cases l with
  |nil=>cases ho
  |cons a l=>simp only[List.head?_cons,aab]at ho;subst ho;exact h
end
end Fw
/-
  A call that looks into a few own rows of data and leaves them, in a drawn region.
-/
namespace Fw
open Go
section
variable {P:Program}{GL:ca}
theorem fl.Qe{f:FuncId}{mG:List V}{H0:ah}{v:V}(S:List Nat){H:ah}(h:WF P GL f mG H0 (fun r H'=>r=v∧H'=H0))(hn:S.Nodup)(hl:H0.length=S.length)(ha:ak S.length mG=true)(TB:aG 0 H0=true)(hv:an 0 v=true)(hb:∀i,i<S.length→∃y,aA H0 i=some y∧aA H (S.getD i 0)=some y)(rZ:∀i,i<S.length→S.getD i 0∈(eX S mG).flatMap bQ):fl P GL f (eX S mG) H v:=by
 refine⟨h.1,fun H1 ZB g w vs dI hh hg=>?_ ⟩;have Ca:∀i,i<S.length→∃y,aA H0 i=some y∧aA H1 (S.getD i 0)=some y:=fun i hi=>by obtain⟨y,k1,k2⟩:=hb i hi;exact⟨y,k1,by rw[ZB _ (rZ i hi)];exact k2⟩
 let g0:G:=⟨fun i=>i<S.length∧g.cK (S.getD i 0),fun i=>if i<S.length then g.γ (S.getD i 0)else none,fun k=>g.fo k∨∃b x,b∉S∧g.γ b=some x∧x.own=some k⟩;have GK:∀i,i<S.length→S.getD i 0∈S:=fun i hi=>by rw[aaD,aaf hi];exact abg hi
 have rF:∀b,b∈S→∃i,i<S.length∧S.getD i 0=b:=fun b hb=>by obtain⟨i,hi,rfl⟩:=List.getElem_of_mem hb;exact⟨i,hi,by rw[aaD,aaf hi];rfl⟩
 have GQ:∀i,i<S.length→g0.γ i=g.γ (S.getD i 0):=fun i hi=>by show(if i<S.length then _ else _)=_;rw[aan hi]
 have gW:∀k,da g0 w k↔da g w k:=by
  intro k;constructor
  ·rintro⟨h1,h2,h3⟩;refine⟨h1,fun hf=>h2 (.inl hf),fun b x hx hk=>?_ ⟩;by_cases kU:b∈S
   ·obtain⟨i,hi,rfl⟩:=rF b kU;exact h3 i x (by rw[GQ i hi];exact hx) hk
   ·exact h2 (.inr ⟨b,x,kU,hx,hk⟩)
  ·rintro⟨h1,h2,h3⟩;refine⟨h1,?_,fun i x hx hk=>?_ ⟩
   ·rintro(hf|⟨b,x,_,hx,hk⟩)
    ·exact h2 hf
    ·exact h3 b x hx hk
   ·simp only[g0]at hx;split at hx
    ·exact h3 _ x hx hk
    ·cases hx
 have JG:Sub S g0 g w:=⟨fun i hi=>⟨fun h=>h.2,fun h=>⟨hi,h⟩⟩,GQ,gW⟩;have nK:nP 0 g g0 w:=⟨fun b hb=>by omega,fun b hb=>by omega,fun k hk=>(gW k).2 hk⟩;have jt:∀b x k,g.γ b=some x→x.own=some k→k<w.heap.size:=RV.eB hh;have MV:av g0 w H0:=by
  refine⟨fun i hi=>by rw[hl];exact hi.1,fun i x hx=>?_,fun i y hy=>?_,fun i i' x x' k hx gS hk iO=>?_,fun k hk=>⟨?_,fun i x hx iO=>?_ ⟩⟩
  ·simp only[g0]at hx;split at hx
   ·rename_i hi;obtain⟨h1,y,h2,h3⟩:=hh.live _ x hx;obtain⟨y0,k1,k2⟩:=Ca i hi;rw[h2]at k2;simp only[aab]at k2;subst k2;exact⟨⟨hi,h1⟩,y,k1,RB.agree nK (fC TB k1) h3⟩
   ·cases hx
  ·have hi:i<S.length:=by rw[←hl];exact jO hy
   obtain⟨y0,k1,k2⟩:=Ca i hi;obtain⟨x,hx⟩:=hh.back _ _ k2;exact⟨x,by rw[GQ i hi];exact hx⟩
  ·simp only[g0]at hx gS;split at hx
   ·rename_i hi;split at gS
    ·rename_i ld;exact pa hn hi ld (hh.inj _ _ x x' k hx gS hk iO)
    ·cases gS
   ·cases hx
  ·rcases hk with hk|⟨b,x,_,hx,hk⟩
   ·exact(hh.fo k hk).1
   ·exact jt b x k hx hk
  ·simp only[g0]at hx;split at hx
   ·rename_i hi;rcases hk with hk|⟨b,x2,kU,wM,va⟩
    ·exact(hh.fo k hk).2 _ x hx iO
    ·have:=hh.inj _ b x x2 k hx wM iO va;exact kU (by rw[←this];exact GK i hi)
   ·cases hx
 have hG:f_ GL g0 w:=⟨fun n cs hn=>⟨(gW n).2 (hg.rd n cs hn).1,dh.keeps (im:=da g w) (uF:=da g0 w) (fun k hk=>⟨(gW k).2 hk,rfl⟩) (hg.rd n cs hn).1 _ _ (hg.rd n cs hn).2⟩,fun k hk=>⟨(gW k).2 (hg.w0 k hk).1,(hg.w0 k hk).2⟩⟩;refine(h.2 g0 w vs ((aP.uA JG _ _ ha).1 dI) MV hG).mono ?_;rintro e w' ⟨x,v',GM,H',rfl,⟨rfl,rfl⟩,hx,pZ,he⟩;have Qf:∀i x,g0.γ i=some x→GM.γ i=some x:=by
  intro i x hx;obtain⟨hd,y,hy,hr⟩:=MV.live i x hx;obtain⟨x',gS⟩:=pZ.back i y hy;obtain⟨_,y',yu,vd⟩:=pZ.live i x' gS;rw[hy]at yu;simp only[aab]at yu;subst yu;have hs:=he.step i hd;rw[hx,gS]at hs;rw[gS];cases x with
   |cells b c u=>
    rcases hs with rfl|⟨b',c',u',rfl,hu⟩
    ·rfl
    ·exfalso;cases y<;>simp only[RB]at hr vd;omega
   |nil=>
    rcases hs with rfl|⟨b',c',u',rfl,hu⟩
    ·rfl
    ·exfalso;cases y<;>simp only[RB]at hr vd
   |obj b=>exact acM some hs
 have Lu:∀k,da GM w' k→da g w' k:=by
  rintro k ⟨h1,h2,h3⟩;rw[he.fo]at h2;refine⟨h1,fun hf=>h2 (.inl hf),fun b x hx hk=>?_ ⟩;by_cases kU:b∈S
  ·obtain⟨i,hi,rfl⟩:=rF b kU;exact h3 i x (Qf i x (by rw[GQ i hi];exact hx)) hk
  ·exact h2 (.inr ⟨b,x,kU,hx,hk⟩)
 have Qg:nP 0 GM g w':=⟨fun b hb=>by omega,fun b hb=>by omega,Lu⟩;have hE:ch g w g w':=by refine⟨he.os,he.tape,he.output,he.size,fun k hk=>?_,fun b hb=>hb,fun b _=>GB.step.refl _,rfl,fun k hk=>he.eD k (.inl hk)⟩;obtain⟨k1,k2⟩:=he.keeps k ((gW k).2 hk);exact⟨Lu k k1,k2⟩
 refine⟨x,rfl,RV.agree Qg _ _ hv hx,hE,?_⟩;refine⟨hh.cK,fun b x hx=>?_,hh.back,hh.inj,fun k hk=>⟨aa0 (hh.fo k hk).1 he.size,(hh.fo k hk).2⟩⟩;obtain⟨hd,y,hy,hr⟩:=hh.live b x hx;refine⟨hd,y,hy,?_⟩;by_cases kU:b∈S
 ·obtain⟨i,hi,rfl⟩:=rF b kU;obtain⟨_,y2,Qh,wL⟩:=pZ.live i x (Qf i x (by rw[GQ i hi];exact hx));obtain⟨y0,k1,k2⟩:=Ca i hi;rw[hy]at k2;simp only[aab]at k2;subst k2;rw[Qh]at k1;simp only[aab]at k1;subst k1;exact RB.agree Qg (fC TB Qh) wL
 ·exact RB.ext hE (fun k hk=>he.eD k (.inr ⟨b,x,kU,hx,hk⟩)) hr
end
end Fw
/-
  Drawn regions whose calls may look into own rows of data.
-/
namespace Fw
open Go
mutual
def Bf:D→D→Bool| .bool a,.bool b=>a==b| .int k a,.int k' b=>JK k k'&&bf a b| .str a,.str b=>ai a b| .list a,.list b=>DZ a b|_,_=>false
def DZ:List (List D)→List (List D)→Bool|[],[]=>true|a::x,b::y=>D0 a b&&DZ x y|_,_=>false
def D0:List D→List D→Bool|[],[]=>true|a::x,b::y=>Bf a b&&D0 x y|_,_=>false
end
theorem nS:∀{x y:List UInt8},ai x y=true→x=y
 |[],[],_=>rfl
 |[],_::_,h=>by simp[ai]at h
 |_::_,[],h=>by simp[ai]at h
 |a::x,b::y,h=>by
  simp only[ai]at h;cases hb:Nat.beq a.toNat b.toNat with
   |false=>rw[hb]at h;cases h
   |true=>rw[hb]at h;rw[nS h,ab'.1 (aah hb)]
mutual
theorem xf:∀{x y:D},Bf x y=true→x=y
 | .bool a,y,h=>by cases y<;>simp[Bf]at h;rw[h]
 | .int k a,y,h=>by cases y<;>simp[Bf]at h;rename_i k' b;rw[tf.1 h.1];have:=h.2;rw[lB]at this;rw[eq_of_beq this]
 | .str a,y,h=>by cases y<;>simp[Bf]at h;rw[nS h]
 | .list a,y,h=>by cases y<;>simp[Bf]at h;rw[CF h]
theorem CF:∀{x y:List (List D)},DZ x y=true→x=y
 |[],[],_=>rfl
 |[],_::_,h=>by simp[DZ]at h
 |_::_,[],h=>by simp[DZ]at h
 |a::x,b::y,h=>by simp only[DZ,aac]at h;rw[CH h.1,CF h.2]
theorem CH:∀{x y:List D},D0 x y=true→x=y
 |[],[],_=>rfl
 |[],_::_,h=>by simp[D0]at h
 |_::_,[],h=>by simp[D0]at h
 |a::x,b::y,h=>by simp only[D0,aac]at h;rw[xf h.1,CH h.2]
end
def cm:List V→List V→Bool|[],[]=>true| .d a::x,.d b::y=>Bf a b&&cm x y| .ab::x,.ab::y=>cm x y|_,_=>false
theorem jz:∀{x y:List V},cm x y=true→x=y
 |[],[],_=>rfl
 |[],_::_,h=>by simp[cm]at h
 | .d a::x,.d b::y,h=>by simp only[cm,aac]at h;rw[xf h.1,jz h.2]
 | .ab::x,.ab::y,h=>by simp only[cm]at h;rw[jz h]
 |a::x,[],h=>by cases a<;>simp[cm]at h
 | .any::_,_::_,h=>by simp[cm]at h
 | .d _::_,b::_,h=>by cases b<;>simp[cm]at h;rw[xf h.1,jz h.2]
 | .ab::_,b::_,h=>by cases b<;>simp[cm]at h;rw[jz h]
 | .ptr _ _ _::_,_::_,h=>by simp[cm]at h
 | .ji::_,_::_,h=>by simp[cm]at h
 | .cA _::_,_::_,h=>by simp[cm]at h
 | .sl _ _ _ _ _::_,_::_,h=>by simp[cm]at h
 | .map _::_,_::_,h=>by simp[cm]at h
 | .kV::_,_::_,h=>by simp[cm]at h
 | .func _ _ _::_,_::_,h=>by simp[cm]at h
 | .mh::_,_::_,h=>by simp[cm]at h
 | .iface _ _::_,_::_,h=>by simp[cm]at h
 | .bX::_,_::_,h=>by simp[cm]at h
 | .gD::_,_::_,h=>by simp[cm]at h
 | .agg _::_,_::_,h=>by simp[cm]at h
 | .tuple _::_,_::_,h=>by simp[cm]at h
 | .iter _ _::_,_::_,h=>by simp[cm]at h
def eZ:ah→ah→Bool|[],[]=>true|some (.cells a)::x,some (.cells b)::y=>cm a b&&eZ x y|some .nil::x,some .nil::y=>eZ x y|_,_=>false
theorem lD:∀{x y:ah},eZ x y=true→x=y
 |[],[],_=>rfl
 |[],_::_,h=>by simp[eZ]at h
 |a::x,[],h=>by rcases a with _|a<;>first|(simp[eZ]at h;done)|(cases a<;>simp[eZ]at h)
 |a::x,b::y,h=>by
  rcases a with _|a
  ·simp[eZ]at h
  ·rcases b with _|b
   ·cases a<;>simp[eZ]at h
   ·cases a<;>cases b<;>simp[eZ]at h
    ·rw[jz h.1,lD h.2]
    ·rw[lD h]
def y9:List V→Bool|[]=>true| .d _::l=>y9 l| .ab::l=>y9 l|_=>false
theorem y_(S:List Nat):∀{l:List V},y9 l=true→eX S l=l|[],_=>rfl|v::l,h=>by cases v<;>simp[y9]at h<;>simp[eX,dt,y_ S h]
theorem CI(n:Nat):∀{l:List V},y9 l=true→ak n l=true|[],_=>rfl|v::l,h=>by cases v<;>simp[y9]at h<;>simp[ak,an,CI n h]
def JW(S:List Nat):V→Option V
 | .sl b h off len sz=>
  match S.idxOf? b with
   |some i=>some (.sl i h off len sz)
   |none=>none
 | .d x=>some (.d x)
 | .ab=>some .ab
 | .agg cs=>bif y9 cs then some (.agg cs)else none
 |_=>none
theorem JX{S:List Nat}{u u0:V}(h:JW S u=some u0):dt S u0=u∧an S.length u0=true:=by
 cases u<;>simp only[JW]at h<;>try cases h
 ·exact⟨rfl,rfl⟩
 ·exact⟨rfl,rfl⟩
 ·rename_i b hh off len sz;split at h
  ·rename_i i hi;simp only[aab]at h;subst h;obtain⟨k1,k2⟩:=lA hi;exact⟨by simp only[dt,k2],by simpa[an,aas]using k1⟩
  ·cases h
 ·rename_i cs;cases hc:y9 cs with
   |false=>rw[hc]at h;cases h
   |true=>rw[hc]at h;simp only[aag,aab]at h;subst h;exact⟨by simp[dt,y_ S hc],by simp[an,CI _ hc]⟩
theorem za{S:List Nat}:∀{l l0:List V},bJ (JW S) l=some l0→eX S l0=l∧ak S.length l0=true
 |[],l0,h=>by simp only[bJ,aab]at h;subst h;exact⟨rfl,rfl⟩
 |u::l,l0,h=>by
  simp only[bJ]at h;split at h
  ·cases h
  ·rename_i u0 hu;split at h
   ·cases h
   ·rename_i l1 hl;simp only[aab]at h;subst h;obtain⟨k1,k2⟩:=JX hu;obtain⟨k3,k4⟩:=za hl;exact⟨by simp[eX,k1,k3],by simp[ak,k2,k4]⟩
abbrev od:=FuncId→List V→ah→Option V
section
variable {P:Program}{GL:ca}
def sh(P:Program)(GL:ca)(dc:od):Prop:=∀f args H v,dc f args H=some v→fl P GL f args H v
def xg(aw:aT)(call:a6):od:=fun f args H=>
 match aw f args with
  |some v=>some v
  |none=>
   bif decide ((args.flatMap bQ).Nodup)then
    match bJ (JW (args.flatMap bQ)) args,bJ (aA H) (args.flatMap bQ)with
     |some mG,some bs=>
      bif aG 0 (bs.map some)then
       match call f mG (bs.map some)with
        |some (v,H0)=>bif an 0 v&&eZ H0 (bs.map some)then some v else none
        |none=>none else none
     |_,_=>none
   else none
theorem Bg{aw:aT}{call:a6}(hp:bt P GL aw)(hc:bH P GL call):sh P GL (xg aw call):=by
 intro f args H v h;unfold xg at h;split at h
 ·rename_i u hu;simp only[aab]at h;subst h;exact(hp _ _ _ hu).qX
 ·cases hn:decide ((args.flatMap bQ).Nodup)with
   |false=>rw[hn]at h;cases h
   |true=>
    rw[hn,aag]at h;split at h
    ·rename_i mG bs h1 h2;cases hl:aG 0 (bs.map some)with
      |false=>rw[hl]at h;cases h
      |true=>
       rw[hl,aag]at h;split at h
       ·rename_i u H0 cl;cases he:(an 0 u&&eZ H0 (bs.map some))with
         |false=>rw[he]at h;cases h
         |true=>
          rw[he,aag,aab]at h;subst h;rw[aac]at he;have hH:=lD he.2;obtain⟨k1,k2⟩:=za h1;have hlen:=cO h2;have hw:=hc _ _ _ _ _ cl;rw[hH]at hw;have:=fl.Qe (v:=u) (args.flatMap bQ) (H:=H) hw (by simpa using hn) (by simpa using hlen.symm) k2 hl he.1 (fun i hi=>by
           have lj:(args.flatMap bQ)[i]? =some ((args.flatMap bQ).getD i 0):=by rw[aaD,aaf hi];rfl
           obtain⟨y,h3,h4⟩:=jq i _ h2 lj;refine⟨y,?_,h4⟩;have:∀(l:List dU)(i:Nat)(y:dU),l[i]? =some y→aA (l.map some) i=some y:=by
            intro l;induction l with
             |nil=>intro i y h;simp at h
             |cons a l ih=>
              intro i y h;cases i with
               |zero=>simp at h;simp[aA,h]
               |succ i=>simp at h;simpa[aA]using ih i y h
           exact this _ _ _ h3) (fun i hi=>by rw[k1,aaD,aaf hi];exact abg hi)
          rwa[k1]at this
       ·cases h
    ·cases h
end
end Fw
/-
  Drawn regions with values that hypotheses settle, and calls that summaries answer.
-/
namespace Fw
open Go
def look{α:Type}:List (Nat×α)→Nat→Option α|[],_=>none|(k,a)::l,i=>bif Nat.beq k i then some a else look l i
def OR(b':Option Bool)(v:V):V×List (Bool×Bool):=match b',v with
 |some b',.d (.bool b)=>(.d (.bool b'),[(b,b')])
 |_,v=>(v,[])
abbrev pj:=List (FuncId×List V×V)
def zb(own:List Nat)(GL:ca)(dc:od)(ov:List (Nat×Bool))(sp:List (Nat×V))(base:Nat):Nat→List ad→St→Option (List (((V×Wr)×List Nat)×Option V)×List (Bool×Bool)×pj)
 |_,[],_=>some ([],[],[])
 |i,o::l,σ=>
  let cv:Option V:=match bw o.op with
   |some (f,args)=>(match look sp i with|some v=>some v|none=>dc f (bd (aU GL σ.tm) args) σ.hp)
   |none=>bif nM o.dst own then none else fS (aU GL σ.tm) o.op
  match eI GL σ.tm σ.hp (base+i) o cv with
   |none=>none
   |some r=>
    match zb own GL dc ov sp base (i+1) l (σ.fc o.dst (OR (look ov i) r.1).1 (aX σ.hp r.2))with
     |none=>none
     |some (rs,cs,calls)=>some (((((OR (look ov i) r.1).1,r.2),lq (aU GL σ.tm) o.op),cv)::rs,(OR (look ov i) r.1).2++cs,(match bw o.op,look sp i with|some (f,args),some v=>[(f,bd (aU GL σ.tm) args,v)]|_,_=>[])++calls)
def nT:List (Bool×Bool)→Prop|[]=>True|(a,b)::l=>a=b∧nT l
def rb(P:Program)(GL:ca):pj→Prop|[]=>True|(f,args,v)::l=>PC P GL f args v∧rb P GL l
theorem qo:∀{a b:List (Bool×Bool)},nT (a++b)→nT a∧nT b|[],_,h=>⟨trivial,h⟩|(x,y)::a,b,h=>⟨⟨h.1,(qo h.2).1⟩,(qo h.2).2⟩
section
variable {P:Program}{GL:ca}
theorem qp:∀{a b:pj},rb P GL (a++b)→rb P GL a∧rb P GL b|[],_,h=>⟨trivial,h⟩|(x,y,z)::a,b,h=>⟨⟨h.1,(qp h.2).1⟩,(qp h.2).2⟩
theorem M6{b:Option Bool}{v:V}(h:nT (OR b v).2):(OR b v).1=v:=by
 unfold OR at h⊢;split
 ·rename_i b' b2;simp only[nT]at h;rw[h.1]
 ·rfl
theorem zc{own:List Nat}{dc:od}(hd:sh P GL dc){ov:List (Nat×Bool)}{sp:List (Nat×V)}{base:Nat}:∀{l:List ad}{i:Nat}{σ:St}{qs:List (((V×Wr)×List Nat)×Option V)}{cs:List (Bool×Bool)}{calls:pj},zb own GL dc ov sp base i l σ=some (qs,cs,calls)→nT cs→rb P GL calls→∀qc:Nat→Option V,(∀j q,qs[j]? =some q→qc (i+j)=q.2)→l3 GL base qc i l σ=some (qs.map (·.1))∧qs.length=l.length∧∀k o q,l[k]? =some o→qs[k]? =some q→∀f args,bw o.op=some (f,args)→ao o.guard (ax (fun j=>decide (j<i+k)) i l (qs.map (·.1)) σ).tm=some true→fl P GL f (bd (aU GL (ax (fun j=>decide (j<i+k)) i l (qs.map (·.1)) σ).tm) args) (ax (fun j=>decide (j<i+k)) i l (qs.map (·.1)) σ).hp q.1.1.1
 |[],i,σ,qs,cs,calls,h,_,_,qc,hq=>by simp only[zb,aab,aae]at h;obtain⟨rfl,rfl,rfl⟩:=h;exact⟨rfl,rfl,by simp⟩
 |o::l,i,σ,qs,cs,calls,h,gR,iq,qc,hq=>by
  simp only[zb]at h;split at h
  ·cases h
  ·rename_i r hr;split at h
   ·cases h
   ·rename_i rs ml M7 Cl;simp only[aab,aae]at h;obtain⟨rfl,rfl,rfl⟩:=h;obtain⟨Yz,OM⟩:=qo gR;obtain⟨MZ,Qc⟩:=qp iq;have hv:=M6 Yz;rw[hv]at Cl hq⊢;have h0:=hq 0 _ rfl;simp only[abk]at h0;obtain⟨k1,k2,k3⟩:=zc hd Cl OM Qc qc (fun j q hj=>by have:=hq (j+1) q (by simpa using hj);rwa[show i+(j+1)=i+1+j by omega]at this);have iS:∀(l:List ad)(rs:List ((V×Wr)×List Nat))(k:Nat)(σ:St),i≤k→ax (fun j=>decide (j<i)) k l rs σ=σ:=by
     intro l rs k σ hk;rw[bZ (K':=fun _=>false) (fun j _=>by simp;omega)];have:∀(l:List ad)(rs:List ((V×Wr)×List Nat))(i:Nat)(s:St),ax (fun _=>false) i l rs s=s:=by
      intro l;induction l with
       |nil=>intro rs i s;simp[ax]
       |cons o l ih=>
        intro rs i s;cases rs with
         |nil=>simp[ax]
         |cons r rs=>simp only[ax,aaw];exact ih _ _ _
     exact this _ _ _ _
    have X6:(r.1,r.2)=r:=rfl;refine⟨?_,by simp[k2],fun k o' q iR yi f args cl hg=>?_ ⟩
    ·simp only[l3,h0,hr,k1,aax]
    ·cases k with
      |zero=>
       simp at iR yi;subst iR;subst yi;simp only[abk]at hg⊢;rw[iS _ _ _ _ (aao _)]at hg⊢;simp only[cl]at hr MZ;unfold eI at hr;rw[hg]at hr;simp only[cl]at hr;cases hs:look sp i with
        |some v=>rw[hs]at hr MZ;simp only[aat,aab]at hr;rw[←hr];exact(MZ.1).qX
        |none=>
         rw[hs]at hr;simp only at hr;cases hp:dc f (bd (aU GL σ.tm) args) σ.hp with
          |none=>rw[hp]at hr;simp at hr
          |some v=>rw[hp]at hr;simp only[aat,aab]at hr;rw[←hr];exact hd _ _ _ _ hp
      |succ k=>
       simp at iR yi;have e:i+(k+1)=i+1+k:=by omega
       have yy:ax (fun j=>decide (j<i+(k+1))) i (o::l) (((r.1,r.2),lq (aU GL σ.tm) o.op)::rs.map (·.1)) σ=ax (fun j=>decide (j<i+1+k)) (i+1) l (rs.map (·.1)) (σ.fc o.dst r.1 (aX σ.hp r.2)):=by simp only[ax,e,show decide (i<i+1+k)=true by simp;omega,aag]
       simp only[aax]at hg⊢;rw[yy]at hg⊢;exact k3 k o' q iR yi f args cl hg
def CJ(own:List Nat)(GL:ca)(dc:od)(ov:List (Nat×Bool))(sp:List (Nat×V))(n:Nat)(l:List ad)(ks:List Nat)(tm:List (Nat×V))(H:ah):Option (List V×ah×List (Bool×Bool)×pj):=match zb own GL dc ov sp H.length 0 l ⟨n,tm,H++List.replicate l.length none⟩with
 |none=>none
 |some (qs,cs,calls)=>bif cT l (qs.map (·.1))&&eO n l&&dK (H.length+l.length) (qs.map (·.1))then(match ax (fun _=>true) 0 l (qs.map (·.1)) ⟨n,tm,H++List.replicate l.length none⟩with|⟨_,eJ,H2⟩=>some (ks.map (get eJ),H2,cs,calls))else none
theorem vq{tm:List (Nat×V)}(s:Nat):∀(ks:List Nat),get (rG ks (ks.map (get tm))) s=get tm s∨get (rG ks (ks.map (get tm))) s=.any
 |[]=>.inr rfl
 |k::ks=>by
  simp only[aax,rG,az];by_cases e:k=s
  ·subst e;rw[aan rfl];exact .inl rfl
  ·rw[aal e];exact vq s ks
theorem WC.G6{own:List Nat}{dc:od}(hm:P.follows .mixedOrders=true)(hp:sh P GL dc)(ov:List (Nat×Bool))(sp:List (Nat×V)){n:Nat}{l:List ad}{tm aY:List (Nat×V)}{H H':ah}{cs:List (Bool×Bool)}{calls:pj}{Q:Ex→St→Prop}(h:CJ own GL dc ov sp n l (aY.map Prod.fst) tm H=some (aY.map Prod.snd,H',cs,calls))(gR:nT cs)(iq:rb P GL calls)(hq:Q .normal ⟨n,aY,H'⟩):WC P GL (.draw l) ⟨n,tm,H⟩ Q:=by
 unfold CJ at h;split at h
 ·cases h
 ·rename_i qs ml M7 F5;cases hb:(cT l (qs.map (·.1))&&eO n l&&dK (H.length+l.length) (qs.map (·.1)))with
   |false=>rw[hb]at h;cases h
   |true=>
    rw[hb,aag]at h;simp only[aab,aae]at h;obtain⟨h1,rfl,rfl,rfl⟩:=h;simp only[aac]at hb;obtain⟨k1,k2,k3⟩:=zc hp F5 gR iq (fun i=>(qs[i]? ).bind (·.2)) (fun j q hj=>by simp[hj]);have hw:WC P GL (.draw l) ⟨n,tm,H⟩ (fun e s=>e=.normal∧s=ax (fun _=>true) 0 l (qs.map (·.1)) ⟨n,tm,H++List.replicate l.length none⟩):=by refine WC.draw (σ:=⟨n,tm,H⟩) hm k1 hb.1.1 hb.1.2 hb.2 (fun i o r ho hr f args cl hg=>?_ ) ⟨rfl,rfl⟩;simp only[aaO,aad]at hr;obtain⟨q,JE,rfl⟩:=hr;have:=k3 i o q ho JE f args cl;simp only[aau]at this;exact this hg
    have DJ:(ax (fun _=>true) 0 l (qs.map (·.1)) ⟨n,tm,H++List.replicate l.length none⟩).n=n:=eG;generalize ax (fun _=>true) 0 l (qs.map (·.1)) ⟨n,tm,H++List.replicate l.length none⟩=ZC at hw DJ h1 hq;obtain⟨n2,eJ,H2⟩:=ZC;simp only at DJ h1 hq;subst DJ;refine WC.post (hw.mono ?_ );rintro e s ⟨rfl,rfl⟩;refine⟨_,ar.kJ (eJ:=aY) (fun s=>?_ ),hq⟩;rw[←ph aY,←h1];exact vq s _
end
end Fw
/-
  Runs step by step over code and what waits behind it: from one point of a function to another.
-/
namespace Fw
open Go
inductive Fr where
 |seq (b:IR)
 |block (id:Nat)
 |loop (n:Nat) (b:IR)
inductive kj where
 |code (c:IR)
 |ops (l:List ad)
 |out (e:Ex)
section
variable {P:Program}{GL:ca}
def KQ(P:Program)(GL:ca):List Fr→(Ex→St→Prop)→Ex→St→Prop
 |[],Q=>Q
 | .seq b::K,Q=>
  fun e s=>
   match e with
    | .normal=>WC P GL b s (KQ P GL K Q)
    |e=>KQ P GL K Q e s
 | .block id::K,Q=>eP id (KQ P GL K Q)
 | .loop n b::K,Q=>
  fun e s=>
   match e with
    | .normal=>lV P GL b (KQ P GL K Q) n s
    |e=>KQ P GL K Q e s
def CG(P:Program)(GL:ca)(cur:kj)(K:List Fr)(n:Nat)(tm:List (Nat×V))(H:ah)(Q:Ex→St→Prop):Prop:=match cur with
 | .code c=>WC P GL c ⟨n,tm,H⟩ (KQ P GL K Q)
 | .ops l=>WO P GL l ⟨n,tm,H⟩ (fun σ=>KQ P GL K Q .normal σ)
 | .out e=>KQ P GL K Q e ⟨n,tm,H⟩
def oe(go:kj→List Fr→Option (kj×List Fr))(e:Ex)(K:List Fr):Option (kj×List Fr):=match K with
 |[]=>none
 | .seq b::K=>
  (match e with
   | .normal=>go (.code b) K
   |e=>go (.out e) K)
 | .block id::K=>
  (match e with
   | .exit i=>bif Nat.beq i id then go (.out .normal) K else go (.out (.exit i)) K
   |e=>go (.out e) K)
 | .loop j b::K=>
  (match e with
   | .normal=>
    (match j with
     |0=>none
     |j+1=>go (.code b) (.loop j b::K))
   |e=>go (.out e) K)
def jA:Nat→List Bool→kj→List Fr→Option (kj×List Fr)
 |0,_,cur,K=>some (cur,K)
 |N+1,bs,cur,K=>
  match cur with
   | .code .skip=>jA N bs (.out .normal) K
   | .code (.seq a b)=>jA N bs (.code a) (.seq b::K)
   | .code (.region _)=>jA N bs (.out .normal) K
   | .code (.draw _)=>jA N bs (.out .normal) K
   | .code (.cond _ a b)=>
    (match bs with
     |true::bs=>jA N bs (.code a) K
     |false::bs=>jA N bs (.code b) K
     |[]=>none)
   | .code (.block id b)=>jA N bs (.code b) (.block id::K)
   | .code (.loop b)=>jA N bs (.code b) (.loop 40 b::K)
   | .code (.exit i)=>jA N bs (.out (.exit i)) K
   | .code .ret=>none
   | .ops _=>jA N bs (.out .normal) K
   | .out e=>oe (jA N bs) e K
noncomputable def Lv(v:V)(bs:List Bool)(a b:List Bool→Option XR):Option XR:=match v with
 | .d (.bool t)=>
  (match bs with
   |true::bs=>bif t then a bs else none
   |false::bs=>bif t then none else b bs
   |[]=>none)
 |_=>none
noncomputable def Qi(go:kj→List Fr→Option XR)(e:Ex)(K:List Fr):Option XR:=match K with
 |[]=>none
 | .seq b::K=>
  (match e with
   | .normal=>go (.code b) K
   |e=>go (.out e) K)
 | .block id::K=>
  (match e with
   | .exit i=>bif Nat.beq i id then go (.out .normal) K else go (.out (.exit i)) K
   |e=>go (.out e) K)
 | .loop j b::K=>
  (match e with
   | .normal=>
    (match j with
     |0=>none
     |j+1=>go (.code b) (.loop j b::K))
   |e=>go (.out e) K)
noncomputable def yj(own:List Nat)(GL:ca)(call:a6)(aw:aT)(n:Nat)(k:kj→KN):Nat→List Bool→kj→List Fr→T→ah→Option XR
 |0,_,cur,_,t,H=>k cur t H
 |N+1,bs,cur,K,t,H=>
  match cur with
   | .code .skip=>yj own GL call aw n k N bs (.out .normal) K t H
   | .code (.seq a b)=>yj own GL call aw n k N bs (.code a) (.seq b::K) t H
   | .code (.region l)=>vp own GL call aw n l t H (fun t' H'=>yj own GL call aw n k N bs (.out .normal) K t' H')
   | .code (.draw l)=>qm own GL call aw n l t H (fun t' H'=>yj own GL call aw n k N bs (.out .normal) K t' H')
   | .code (.cond x a b)=>Lv (jy GL t x) bs (fun bs=>yj own GL call aw n k N bs (.code a) K t H) (fun bs=>yj own GL call aw n k N bs (.code b) K t H)
   | .code (.block id b)=>yj own GL call aw n k N bs (.code b) (.block id::K) t H
   | .code (.loop b)=>yj own GL call aw n k N bs (.code b) (.loop 40 b::K) t H
   | .code (.exit i)=>yj own GL call aw n k N bs (.out (.exit i)) K t H
   | .code .ret=>none
   | .ops l=>vp own GL call aw n l t H (fun t' H'=>yj own GL call aw n k N bs (.out .normal) K t' H')
   | .out e=>Qi (fun cur K=>yj own GL call aw n k N bs cur K t H) e K
theorem G7{own:List Nat}{call:a6}{aw:aT}(hm:P.follows .mixedOrders=true)(hc:bH P GL call)(hp:bt P GL aw){n:Nat}(hn:n≤gY){k:kj→KN}{x:XR}{yv:kj}{K':List Fr}{Q:Ex→St→Prop}(hk:∀aY t' H',jL aY t'→k yv t' H'=some x→CG P GL yv K' n aY H' Q):∀{N:Nat}{bs:List Bool}{cur:kj}{K:List Fr}{t:T}{H:ah}{tm:List (Nat×V)},jL tm t→jA N bs cur K=some (yv,K')→yj own GL call aw n k N bs cur K t H=some x→CG P GL cur K n tm H Q
 |0,bs,cur,K,t,H,tm,hs,h1,h2=>by simp only[jA,aab,aae]at h1;obtain⟨rfl,rfl⟩:=h1;exact hk tm t H hs h2
 |N+1,bs,cur,K,t,H,tm,hs,h1,h2=>by
  have ih:=fun{bs cur K t H tm}=>@G7 own call aw hm hc hp n hn k x yv K' Q hk N bs cur K t H tm
  cases cur with
   |code c=>
    cases c with
     |skip=>exact WC.skip (ih hs h1 h2)
     |seq a b=>have:=ih hs (show jA N bs (.code a) (.seq b::K)=_ from h1) h2;exact WC.seq (WC.mono this fun e s hq=>by cases e<;>exact hq)
     |region l=>simp only[yj]at h2;rw[tq]at h2;obtain⟨aY,t',H',iA,hw,iO⟩:=kI hc hn hs h2;refine WC.region (hw.mono ?_ );rintro s rfl;exact ih iA (show jA N bs (.out .normal) K=_ from h1) iO
     |draw l=>simp only[yj]at h2;obtain⟨aY,t',H',iA,hw,iO⟩:=vn hm hc hp hn hs h2;refine WC.mono hw ?_;rintro e s ⟨rfl,rfl⟩;exact ih iA (show jA N bs (.out .normal) K=_ from h1) iO
     |cond c a b=>
      simp only[yj]at h2;simp only[jA]at h1;rw[nk hs]at h2;unfold Lv at h2;split at h2
      ·rename_i tb FP;cases bs with
        |nil=>cases h2
        |cons b0 bs=>
         cases b0 with
          |true=>
           cases tb with
            |true=>exact WC.cond (t:=true) FP (ih hs h1 h2)
            |false=>cases h2
          |false=>
           cases tb with
            |true=>cases h2
            |false=>exact WC.cond (t:=false) FP (ih hs h1 h2)
      ·cases h2
     |block id b=>exact WC.M5 (ih hs (show jA N bs (.code b) (.block id::K)=_ from h1) h2)
     |loop b=>have:=ih hs (show jA N bs (.code b) (.loop 40 b::K)=_ from h1) h2;exact lV.wc (n:=41) (lV.step (WC.mono this fun e s hq=>by cases e<;>exact hq))
     |exit i=>exact WC.exit (ih hs (show jA N bs (.out (.exit i)) K=_ from h1) h2)
     |ret=>cases h1
   |ops l=>simp only[yj]at h2;rw[tq]at h2;obtain⟨aY,t',H',iA,hw,iO⟩:=kI hc hn hs h2;refine hw.mono ?_;rintro s rfl;exact ih iA (show jA N bs (.out .normal) K=_ from h1) iO
   |out e=>
    simp only[jA]at h1;simp only[yj]at h2;unfold oe at h1;unfold Qi at h2;cases K with
     |nil=>cases h1
     |cons f K=>
      cases f with
       |seq b=>
        cases e with
         |normal=>exact ih (cur:=.code b) (K:=K) hs h1 h2
         |exit i=>exact ih (cur:=.out (.exit i)) (K:=K) hs h1 h2
         |ret=>exact ih (cur:=.out .ret) (K:=K) hs h1 h2
       |block id=>
        cases e with
         |normal=>exact ih (cur:=.out .normal) (K:=K) hs h1 h2
         |ret=>exact ih (cur:=.out .ret) (K:=K) hs h1 h2
         |exit i=>
          simp only at h1 h2;show eP id (KQ P GL K Q) (.exit i) _;cases hb:Nat.beq i id with
           |true=>rw[hb]at h1 h2;have:i=id:=aah hb;subst this;exact eP.exit (ih (cur:=.out .normal) (K:=K) hs h1 h2)
           |false=>
            rw[hb]at h1 h2;have ew:i≠id:=fun e=>by rw[e,aaz]at hb;cases hb
            exact eP.other ew (ih (cur:=.out (.exit i)) (K:=K) hs h1 h2)
       |loop j b=>
        cases e with
         |normal=>
          cases j with
           |zero=>cases h1
           |succ j=>have:=ih (cur:=.code b) (K:=.loop j b::K) hs h1 h2;exact lV.step (WC.mono this fun e s hq=>by cases e<;>exact hq)
         |ret=>exact ih (cur:=.out .ret) (K:=K) hs h1 h2
         |exit i=>exact ih (cur:=.out (.exit i)) (K:=K) hs h1 h2
def vr:kj→List ad| .code (.region l)=>l| .ops l=>l|_=>[]
def M8(j:Nat)(c:kj):kj:=match j with
 |0=>c
 |_=>.ops ((vr c).drop j)
def G8:kj→Bool| .code (.region _)=>true| .ops _=>true|_=>false
def CK:kj→Bool| .out _=>true|_=>false
def oh(N j:Nat)(bs:List Bool)(cur:kj)(K:List Fr):Option (kj×List Fr):=match jA N bs cur K with
 |some (c,K')=>bif (Nat.beq j 0&& !CK c)||(!Nat.beq j 0&&G8 c)then some (M8 j c,K')else none
 |none=>none
noncomputable def D1(own:List Nat)(GL:ca)(call:a6)(aw:aT)(n:Nat)(N j:Nat)(bs:List Bool)(cur:kj)(K:List Fr)(ks:List Nat)(tm:List (Nat×V))(H:ah):Option XR:=bif Nat.ble n gY&&n_ tm then
 yj own GL call aw n (fun c t H=>
  match j with
   |0=>some (.tuple (ks.map (eY t)),H)
   |j+1=>vp own GL call aw n ((vr c).take (j+1)) t H (fun t H=>some (.tuple (ks.map (eY t)),H))) N bs cur K (vo tm) H else none
theorem CG.kJ{cur:kj}(hc:CK cur=false){K:List Fr}{n:Nat}{tm eJ:List (Nat×V)}{H:ah}{Q:Ex→St→Prop}(hw:∀s,get eJ s=get tm s∨get eJ s=.any)(h:CG P GL cur K n eJ H Q):CG P GL cur K n tm H Q:=by
 cases cur with
  |code c=>exact WC.kJ hw h
  |ops l=>exact WO.kJ hw h
  |out e=>cases hc
theorem CG.st{own:List Nat}{call:a6}{aw:aT}(hm:P.follows .mixedOrders=true)(hc:bH P GL call)(hp:bt P GL aw)(N j:Nat)(bs:List Bool){cur c':kj}{K K':List Fr}{n:Nat}{tm aY:List (Nat×V)}{H H':ah}{Q:Ex→St→Prop}(h1:oh N j bs cur K=some (c',K'))(h2:D1 own GL call aw n N j bs cur K (aY.map Prod.fst) tm H=some (.tuple (aY.map Prod.snd),H'))(hq:CG P GL c' K' n aY H' Q):CG P GL cur K n tm H Q:=by
 unfold oh at h1;split at h1
 ·rename_i c K2 US;cases hb:(Nat.beq j 0&& !CK c)||(!Nat.beq j 0&&G8 c)with
   |false=>rw[hb]at h1;cases h1
   |true=>
    rw[hb]at h1;simp only[aag,aab,aae]at h1;obtain⟨rfl,rfl⟩:=h1;unfold D1 at h2;cases hk:(Nat.ble n gY&&n_ tm)with
     |false=>rw[hk]at h2;cases h2
     |true=>
      rw[hk,aag]at h2;rw[aac]at hk;have hn:=aak hk.1;refine G7 hm hc hp hn (yv:=c) (K':=K2) (fun eJ t2 H2 hs va=>?_ ) (jL.tree hk.2) US h2;cases j with
       |zero=>simp only[aab,aae,V.tuple.injEq]at va;obtain⟨e1,rfl⟩:=va;simp only[Nat.beq_eq_true_eq,aaz,aaE,aa',abl,Bool.or_false,aaU]at hb;refine CG.kJ hb (fun s=>?_ ) hq;rw[hs s,←ph aY,←e1];exact mL s _
       |succ j=>
        have hj:Nat.beq (j+1) 0=false:=rfl;rw[hj]at hb;simp only[abl,abd,aaE,abO]at hb;have va:vp own GL call aw n ((vr c).take (j+1)) t2 H2 (fun t H=>some (.tuple ((aY.map Prod.fst).map (eY t)),H))=_:=va;rw[tq]at va;have hq:CG P GL (.ops ((vr c).drop (j+1))) K2 n aY H' Q:=hq;have Qj:WO P GL (vr c) ⟨n,eJ,H2⟩ (fun σ=>KQ P GL K2 Q .normal σ):=by rw[←abx (j+1) (vr c)];refine qn hc hn hs va (fun tm3 t3 H3 ZD YA=>?_ );simp only[aab,aae,V.tuple.injEq]at YA;obtain⟨e1,rfl⟩:=YA;refine WO.kJ (eJ:=aY) (fun s=>?_ ) hq;rw[ZD s,←ph aY,←e1];exact mL s _
        cases c with
         |code c=>
          cases c with
           |region l=>exact WC.region Qj
           |_=>simp[G8]at hb
         |ops l=>exact Qj
         |out e=>cases hb
 ·cases h1
theorem CG.start{f:FuncId}{fn:cD}{args:List V}{v:V}(hf:aK P f=some fn)(wO:aq P f=true)(hc:(Nat.ble args.length fn.ntmps&&ak 0 args)=true)(h:CG P GL (.code fn.body) [] fn.ntmps (sP 0 args) [] (oc fn.res v)):PC P GL f args v:=PC.Qd hf wO hc h
theorem KQ.ret:∀{K:List Fr}{Q:Ex→St→Prop}{σ:St},Q .ret σ→KQ P GL K Q .ret σ|[],_,_,h=>h| .seq _::K,_,_,h=>KQ.ret (K:=K) h| .block _::K,_,_,h=>KQ.ret (K:=K) h| .loop _ _::K,_,_,h=>KQ.ret (K:=K) h
theorem CG.ret{K:List Fr}{n:Nat}{tm:List (Nat×V)}{H:ah}{rs:List iV}{v v':V}(h:(fb rs ⟨n,tm,H⟩).bind (fY H)=some v')(e:v'=v):CG P GL (.code .ret) K n tm H (oc rs v):=WC.ret (KQ.ret (oc.ret h e))
theorem CG.rt{K:List Fr}{n:Nat}{tm:List (Nat×V)}{H:ah}{rs:List iV}{v:V}(v':V)(e:v'=v)(h:(fb rs ⟨n,tm,H⟩).bind (fY H)=some v':=by kernel_rfl):CG P GL (.code .ret) K n tm H (oc rs v):=CG.ret h e
theorem CG.aB{c:a_}{a d:IR}{K:List Fr}{n:Nat}{tm:List (Nat×V)}{H:ah}{Q:Ex→St→Prop}{b:Bool}(h:b=true)(ht:aU GL tm c=.d (.bool b))(h1:CG P GL (.code a) K n tm H Q):CG P GL (.code (.cond c a d)) K n tm H Q:=WC.aB h ht h1
theorem CG.aF{c:a_}{a d:IR}{K:List Fr}{n:Nat}{tm:List (Nat×V)}{H:ah}{Q:Ex→St→Prop}{b:Bool}(h:b=false)(ht:aU GL tm c=.d (.bool b))(h1:CG P GL (.code d) K n tm H Q):CG P GL (.code (.cond c a d)) K n tm H Q:=WC.aF h ht h1
theorem CG.gM{l:List ad}{K:List Fr}{n:Nat}{tm:List (Nat×V)}{H:ah}{Q:Ex→St→Prop}(h:CG P GL (.ops l) K n tm H Q):CG P GL (.code (.region l)) K n tm H Q:=WC.region h
theorem CG.G6{own:List Nat}{dc:od}(hm:P.follows .mixedOrders=true)(hp:sh P GL dc)(ov:List (Nat×Bool))(sp:List (Nat×V)){n:Nat}{l:List ad}{K:List Fr}{tm aY:List (Nat×V)}{H H':ah}{cs:List (Bool×Bool)}{calls:pj}{Q:Ex→St→Prop}(h:CJ own GL dc ov sp n l (aY.map Prod.fst) tm H=some (aY.map Prod.snd,H',cs,calls))(gR:nT cs)(iq:rb P GL calls)(hq:CG P GL (.out .normal) K n aY H' Q):CG P GL (.code (.draw l)) K n tm H Q:=WC.G6 hm hp ov sp h gR iq hq
end
end Fw
