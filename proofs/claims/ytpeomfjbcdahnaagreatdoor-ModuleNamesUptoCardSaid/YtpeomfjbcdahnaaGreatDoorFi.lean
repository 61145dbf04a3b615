/-
  Boxes of data that nobody writes after their birth: known at once as a pointer to what stands still; the boxes ahead of them stay unspoken of.
-/
import Derived.Test.YtpeomfjbcdahnaaGreatDoorFh
import Derived.Lib.SlBytesConst
set_option linter.unusedSimpArgs false
set_option linter.unusedVariables false
namespace Fw
open Go
mutual
theorem RV.lt{g:G}{w:World}{m:Nat}(h:∀b,g.cd b->b<m):∀(u:V)(v:Value),RV g w u v->aE m u=true
 | .any,_,_=>rfl
 | .d _,_,_=>rfl
 | .full _,_,_=>rfl
 | .ak,_,_=>rfl
 | .ptr b _ _,_,hv=>by simp only[RV]at hv;simp only[aE];simpa[aaR]using h b hv.1.2
 | .lD,_,_=>rfl
 | .aO _,_,_=>rfl
 | .sl b _ _ _ _,_,hv=>by simp only[RV]at hv;simp only[aE];simpa[aaR]using h b hv.1.2
 | .map b,_,hv=>by simp only[RV]at hv;simp only[aE];simpa[aaR]using h b hv.1.2
 | .kC,_,_=>rfl
 | .func f a c,_,hv=>by simp only[RV]at hv;obtain⟨x,y,_,h1,h2⟩:=hv;simp only[aE,aas];exact⟨aN.lt h a _ h1,aN.lt h c _ h2⟩
 | .oK,_,_=>rfl
 | .iface _ u,_,hv=>by simp only[RV]at hv;obtain⟨x,_,h1⟩:=hv;simp only[aE];exact RV.lt h u _ h1
 | .bz,_,_=>rfl
 | .fy,_,_=>rfl
 | .agg cs,_,hv=>by simp only[RV]at hv;obtain⟨x,_,h1⟩:=hv;simp only[aE];exact aN.lt h cs _ h1
 | .tuple cs,_,hv=>by simp only[RV]at hv;obtain⟨x,_,h1⟩:=hv;simp only[aE];exact aN.lt h cs _ h1
 | .iter b _,_,hv=>by simp only[RV]at hv;simp only[aE];simpa[aaR]using h b hv.1.2
 | .gI b,_,hv=>by simp only[RV]at hv;simp only[aE];simpa[aaR]using h b hv.1.2
theorem aN.lt{g:G}{w:World}{m:Nat}(h:∀b,g.cd b->b<m):∀(us:List V)(vs:List Value),aN g w us vs->aJ m us=true
 |[],_,_=>rfl
 |u::us,[],hv=>by simp only[aN]at hv
 |u::us,v::vs,hv=>by simp only[aN]at hv;simp only[aJ,aas];exact⟨RV.lt h u v hv.1,aN.lt h us vs hv.2⟩
end
theorem oi{m:Nat}:∀{H:an},(∀b y,aC H b=some y->dq m y=true)->a6 m H=true
 |[],_=>rfl
 |none::H,h=>by simp only[a6];exact oi fun b y hb=>h (b+1) y hb
 |some x::H,h=>by simp only[a6,aas];exact⟨h 0 x rfl,oi fun b y hb=>h (b+1) y hb⟩
theorem aw.lt{g:G}{w:World}{H:an}(hh:aw g w H):a6 H.length H=true:=by
 refine oi fun b y hb=>?_
 obtain⟨x,hx⟩:=hh.back b y hb;obtain⟨_,y',h2,h3⟩:=hh.live b x hx;rw[hb]at h2;simp only[aar]at h2;subst h2;cases y with
  |cells cs=>
   cases x with
    |cells aM cp cur=>simp only[RB]at h3;obtain⟨_,_,_,c,e,_,_,h⟩:=h3;exact aN.lt hh.cd cs _ h
    |_=>simp only[RB]at h3
  |nil=>rfl
  |uz=>rfl
  |map es=>
   cases x with
    |obj aM=>simp only[RB]at h3;obtain⟨bA,clock,_,_,h,_,_⟩:=h3;simp only[dq,aaJ];intro p hp;obtain⟨i,hi⟩:=List.getElem?_of_mem hp;obtain⟨z,_,_,_,hz⟩:=h i p.1 p.2 hi;exact RV.lt hh.cd _ _ hz
    |_=>simp only[RB]at h3
  |bH k n seen=>
   cases x with
    |obj aM=>simp only[RB]at h3;obtain⟨mb,sa,_,_,h,_⟩:=h3;simp only[dq];simpa[aaR]using hh.cd k h
    |_=>simp only[RB]at h3
  |loop n tm ps ca cb st=>
   cases x with
    |obj aM=>simp only[RB]at h3;obtain⟨r,_,_,h,_⟩:=h3;simp only[dq,aaJ];intro p hp;exact RV.lt hh.cd _ _ (h p.1)
    |_=>simp only[RB]at h3
theorem qB:∀{H:an}{x:bR},(aR H H.length x).take H.length=H|[],_=>rfl|y::H,x=>by simp only[aap,aR,ab7];rw[qB]
theorem gM:∀{H:an}{x:bR},aC (aR H H.length x) H.length=some x|[],_=>rfl|y::H,x=>by simp only[aap,aR,aC];exact gM
theorem qC:∀{H:an}{b:Nat}{x y:bR},aR (aR H b x) b y=aR H b y
 |[],0,_,_=>rfl
 |[],n+1,_,_=>by simp only[aR];rw[qC]
 |_::_,0,_,_=>rfl
 |z::H,n+1,_,_=>by simp only[aR];rw[qC]
section
variable {P:Program}{GL:bM}
variable {l:List ab}{n d k:Nat}{tm:List (Nat×V)}{H:an}{K:List Fr}{Q:Ex->St->Prop}{σ:St}{cs:List D}{af:List Nat}
theorem WO.refs{Q:St->Prop}(h:(∀t,aE σ.hp.length (get σ.tm t)=true)->a6 σ.hp.length σ.hp=true->WO P GL l σ Q):WO P GL l σ Q:=by intro ro ops k hk g w a hr;exact h (fun t=>RV.lt hr.heap.cd _ _ (hr.tmps t)) hr.heap.lt ro ops k hk g w a hr
theorem ax.L5(hT:∀t,aE H.length (get tm t)=true)(hH:a6 H.length H=true)(hk:cs.length=k):ax H.length ⟨n,put tm d (.ptr H.length k 0),aR H H.length (.cells (cs.map .d))⟩ ⟨n,put tm d (.aO cs),H⟩:=by
 subst hk;intro GL g w a hr;have PT:=hr.heap.cut (n:=H.length) (by rw[qB];exact hH);rw[qB]at PT;obtain⟨x,hx⟩:=hr.heap.back H.length _ gM;obtain⟨_,y,hy,HO⟩:=hr.heap.live H.length x hx;simp only[gM,aar]at hy;subst hy;refine⟨g.cut H.length,⟨⟨hr.defers.1,hr.defers.2.1,fun d hd=>(hr.defers.2.2 d hd).imp fun D hD=>⟨hD.1,hD.2.1,jI hD.2.2.1,hD.2.2.2⟩⟩,hr.size,fun t=>?_,PT,⟨fun m cs hm=>⟨jI (hr.cD.rd m cs hm).1,cP.keeps (fm g w _).keeps (hr.cD.rd m cs hm).1 _ _ (hr.cD.rd m cs hm).2⟩,fun k hk=>⟨jI (hr.cD.w0 k hk).1,(hr.cD.w0 k hk).2⟩⟩⟩,fun g0 w0 hd he=>he.cut hd⟩;have hv:=hr.tmps t;simp only at hv⊢;rw[fB]at hv⊢;by_cases e:t=d
 ·rw[aaF e]at hv⊢;cases x with
   |cells aM cp cur=>
    simp only[RB]at HO;obtain⟨rfl,j2,OH,c,e,hc,cH,cX⟩:=HO;simp only[RV]at hv⊢;obtain⟨_,V0⟩:=hv;obtain⟨U_,cp',zQ,ZR,hp,_⟩:=V0 _ hx;simp only[GB.cells.injEq]at ZR;obtain⟨rfl,rfl,rfl⟩:=ZR;have cy:=(aa6.1 hc).1;have nt:cl (g.cut H.length) w aM:=by
     refine⟨cy,fun hf=>(hr.heap.fo _ hf).2 _ _ hx rfl,fun b x' hb gp=>?_ ⟩;simp only[G.cut]at hb;split at hb
     ·rename_i hbl;have:=hr.heap.inj b H.length x' _ aM hb hx gp rfl;omega
     ·cases hb
    refine⟨aM,0,hp (by simp),fun _=>nt,cP.kN (vs:=c.toList.take (cs.map V.d).length) (by have:=cX.length;simpa using this) (fun j d' v' hd fV=>?_ ) (fun j v' fV=>?_ )⟩
    ·obtain⟨v2,k1,k2⟩:=cX.get j (u:=.d d') (by simp[hd]);rw[fV]at k1;simp only[aar]at k1;subst k1;simp only[RV]at k2;exact Rd.keeps (fm g w _).keeps _ _ k2
    ·grind [World.cell?]
   |nil=>simp only[RB]at HO
   |obj aM=>simp only[RB]at HO
 ·rw[aaH e]at hv⊢;exact RV.agree (fm g w _) _ _ (hT t) hv
theorem Aw:∀(cs:List D),(cs.map V.d).all eL=true|[]=>rfl|_::cs=>by simp only[aaB,aaL,aas];exact⟨rfl,Aw cs⟩
def wK(P:Program)(GL:bM)(m:Nat)(l:List ab)(σ:St)(Q:St->Prop):Prop:=∀(ro:Option Nat)(ops:Array Oper)(k:Nat),eZ P ops.toList false (ops.toList.drop k)=some l->∀g0 w0,(∀b,g0.cd b->b<m)->∀g w a,R GL g w a σ->bu g0 w0 g w->wpOpsIn (FR ro) 0 P ops (cE GL g0 w0 fun e aS=>match e with| .normal=>Q aS|_=>False) (List.range' k (ops.size - k)) a w
theorem wK.of{m:Nat}{Q:St->Prop}(h:WO P GL l σ Q):wK P GL m l σ Q:=fun ro ops k hc g0 w0 _ g w a hr he=>cF (cE.ext he) _ _ _ (h ro ops k hc g w a hr)
theorem WO.V1{Q:St->Prop}(h:wK P GL σ.hp.length l σ Q):WO P GL l σ Q:=fun ro ops k hc g w a hr=>h ro ops k hc g w (fun b hb=>hr.heap.cd b hb) g w a hr (bu.refl _ _)
theorem wK.tidy{m:Nat}{aS:St}{Q:St->Prop}(ht:ax m σ aS)(h:wK P GL m l aS Q):wK P GL m l σ Q:=fun ro ops k hc g0 w0 hd g w a hr he=>by obtain⟨g',h1,h2⟩:=ht GL g w a hr;exact h ro ops k hc g0 w0 hd g' w a h1 (h2 g0 w0 hd he)
theorem wK.bt{m:Nat}{o:ab}{l:List ab}{σ aS:St}{Q:St->Prop}{v:V}{wr:Wr}(hg:aB o.guard σ.tm=some true)(he:bt (aT GL σ.tm) σ.hp σ.hp.length o.op=some (v,wr))(hp:σ.put o.dst v (bp σ.hp wr)=some aS)(h:wK P GL m l aS Q):wK P GL m (o::l) σ Q:=by
 intro ro ops k hc g0 w0 hd g w a hr iC;have hl:=bQ hc;simp at hl;have hk:k<ops.size:=by omega
 have xF:ops.toList.drop k=ops[k]::ops.toList.drop (k+1):=by rw[abq (by grind)];simp
 rw[xF]at hc;simp only[eZ,bS]at hc;split at hc
 ·cases hc
 ·rename_i io xe;split at hc
  ·cases hc
  ·rename_i l' Hl;simp at hc;obtain⟨rfl,rfl⟩:=hc;simp only[dO]at xe;split at xe
   ·rename_i gd lu;simp at xe;subst xe;rw[show ops.size - k=(ops.size - (k+1))+1 by omega,acf,wpOpsIn_cons];unfold wpOpIn;have j2:ops[k]? =some ops[k]:=Array.getElem?_eq_getElem hk;simp only[j2];have hO:(aV P ops[k].op).getD .bad≠ .bad:=fun e=>by simp only at he;rw[e]at he;cases he
    rw[aaF (by rw[de hr lu hg])];obtain⟨g',w',nx,h1,h2,h3,h4,_⟩:=sq (P:=P) (a:=a) (o:=ops[k]) (cu rfl hO) he hr.ev hr.heap hr.heap.fresh;have oJ:=bE (cu rfl hO);rcases h2 with⟨x,rfl,hx⟩|⟨rfl,rfl⟩
    ·refine OW.of oJ h1 ?_;simp only[Oper.uponIn];exact h ro ops (k+1) Hl g0 w0 hd g' w' _ (hr.fk h4 h3 hp hx) (iC.trans h4)
    ·refine OW.of oJ h1 ?_;simp only[Oper.uponIn];exact h ro ops (k+1) Hl g0 w0 hd g' w' _ (hr.fk h4 h3 hp (by simp only[RV])) (iC.trans h4)
   ·grind
theorem CG.cU{x:aU}(ho:l.head?=some ⟨some d,.box k x,none,af⟩)(hx:aT GL tm x=.agg (cs.map .d))(hc:(Nat.beq cs.length k&&Nat.blt d n)=true)(hq:CG P GL (.ops (l.drop 1)) K n (put tm d (.aO cs)) H Q):CG P GL (.ops l) K n tm H Q:=by
 simp only[aas]at hc;have hk:=aau hc.1;refine WO.refs fun hT hH=>?_
 refine WO.head ho (WO.V1 (wK.bt (v:=.ptr H.length k 0) (wr:=some (H.length,.cells (cs.map .d))) (aS:=⟨n,put tm d (.ptr H.length k 0),aR H H.length (.cells (cs.map .d))⟩) rfl ?_ ?_ (wK.tidy (ax.L5 hT hH hk) (wK.of hq))))
 ·simp only[bt];rw[hx];simp only[bU,Aw,aaE,aaW,hc.1,aaw]
 ·simp_all[bB,bp]
theorem CG.JU{x:aU}{c:D}(ho:l.head?=some ⟨some d,.box k x,none,af⟩)(hx:aT GL tm x=.d c)(hc:(Nat.beq 1 k&&Nat.blt d n)=true)(hq:CG P GL (.ops (l.drop 1)) K n (put tm d (.aO [c])) H Q):CG P GL (.ops l) K n tm H Q:=by
 simp only[aas]at hc;have hk:=aau hc.1;refine WO.refs fun hT hH=>?_
 refine WO.head ho (WO.V1 (wK.bt (v:=.ptr H.length k 0) (wr:=some (H.length,.cells ([c].map .d))) (aS:=⟨n,put tm d (.ptr H.length k 0),aR H H.length (.cells ([c].map .d))⟩) rfl ?_ ?_ (wK.tidy (ax.L5 hT hH hk) (wK.of hq))))
 ·simp only[bt];rw[hx];subst hk;rfl
 ·simp_all[bB,bp]
theorem CG.dB{z:List V}{x:aU}{L6:List Nat}(ho:l.take 2=[⟨some d,.alloc z,none,af⟩,⟨none,.store k (.t d) x,none,L6⟩])(hx:∀u,aT GL (put tm d u) x=.agg (cs.map .d))(hc:(Nat.beq cs.length k&&Nat.beq z.length k&&Nat.blt d n)=true)(hq:CG P GL (.ops (l.drop 2)) K n (put tm d (.aO cs)) H Q):CG P GL (.ops l) K n tm H Q:=by
 simp only[aas]at hc;have hk:=aau hc.1.1;have hz:=aau hc.1.2;obtain⟨o1,o2,r,rfl⟩:∃o1 o2 r,l=o1::o2::r:=by
  match l,ho with
   |[],h=>simp at h
   |[_],h=>simp at h
   |a::b::r,_=>exact⟨a,b,r,rfl⟩
 simp only[ab7,List.take_zero,acm,ab']at ho;obtain⟨rfl,rfl⟩:=ho;refine WO.refs fun hT hH=>?_
 simp only[ab5,abu]at hq;refine WO.V1 (wK.bt (v:=.ptr H.length k 0) (wr:=some (H.length,.cells z)) (aS:=⟨n,put tm d (.ptr H.length k 0),aR H H.length (.cells z)⟩) rfl (by simp only[bt,hz]) ?_ (wK.bt (v:=.any) (wr:=some (H.length,.cells (cs.map .d))) (aS:=⟨n,put tm d (.ptr H.length k 0),aR H H.length (.cells (cs.map .d))⟩) rfl ?_ ?_ (wK.tidy (ax.L5 hT hH hk) (wK.of hq))))
 ·simp_all[bB,bp]
 ·have lx:=hx (.ptr H.length k 0);have hp:aT GL (put tm d (.ptr H.length k 0)) (.t d)=.ptr H.length k 0:=by simp[aT,fB]
  show(eg (aR H H.length (.cells z)) k (aT GL (put tm d (.ptr H.length k 0)) (.t d)) (aT GL (put tm d (.ptr H.length k 0)) x)).map _=_;rw[lx,hp];simp only[eg,gM,bU,Aw,aaE,hz,hc.1.1,aaK,aaW];rw[show Nat.ble k k=true from by simp[abG],show Nat.beq k k=true from aaS k];simp only[aaW,aaw,aaI,aar,aav,true_and,bR.cells.injEq];have:=iL (cs.map V.d) [] z [] (by simp[hk,hz]);simpa using this
 ·simp only[bp,sM,qC]
theorem CG.L7{rs:List iQ}{R:V->an->Prop}{v':V}(hl:l.length=0)(h:h_ rs ⟨n,tm,H⟩=some v')(e:R v' H):CG P GL (.ops l) [] n tm H (nh rs R):=by
 cases l with
  |nil=>exact WO.nil ⟨v',h,e⟩
  |cons o l=>simp at hl
theorem CG.JV{id:Nat}{R:St->Prop}(h:R ⟨n,tm,H⟩):CG P GL (.code .skip) [.block id] n tm H (LQ P GL K Q R):=WC.skip h
theorem CG.BO{i:Nat}(h:CG P GL (.out .normal) K n tm H Q):CG P GL (.out (.exit i)) (.block i::K) n tm H Q:=eu.exit h
end
end Fw
/-
  A loop over a map in a walk: any entry that was not seen.
-/
namespace Fw
open Go
section
variable {P:Program}{GL:bM}
variable {K:List Fr}{n:Nat}{tm:List (Nat×V)}{H:an}{Q:Ex->St->Prop}
theorem CG.fX{d:Nat}{x:aU}{af:List Nat}{l:List ab}(b m nE:Nat)(seen:List Nat)(es:List (D×V))(ho:l.head?=some ⟨some d,.fX x,none,af⟩)(h:(aT GL tm x,aC H b,aC H m)=(.iter b m,some (.bH m nE seen),some (.map es)))(hn:es.length=nE)(hd:Nat.blt d n=true)(h1:∀i k v,es[i]? =some (k,v)->i∉seen->CG P GL (.ops (l.drop 1)) K n (put tm d (.tuple [.d (.bool true),.d k,v])) (aR H b (.bH m nE (seen++[i]))) Q)(h2:(∀i,i<nE->i∈seen)->CG P GL (.ops (l.drop 1)) K n (put tm d (.tuple [.d (.bool false)])) H Q):CG P GL (.ops l) K n tm H Q:=by
 simp only[aav]at h;refine WO.head ho (WO.fX rfl rfl h.1 h.2.1 h.2.2 hn (fun i k v hi hs=>⟨⟨n,put tm d (.tuple [.d (.bool true),.d k,v]),aR H b (.bH m nE (seen++[i]))⟩,?_,h1 i k v hi hs⟩) (fun ha=>⟨⟨n,put tm d (.tuple [.d (.bool false)]),H⟩,?_,h2 ha⟩))
 ·simp_all[bB]
 ·simp_all[bB]
theorem CG.entry{d:Nat}{x:aU}{af:List Nat}{l:List ab}(b m nE i:Nat)(seen:List Nat){es:List (D×V)}{k:D}{v:V}(hi:es[i]? =some (k,v))(ho:l.head?=some ⟨some d,.entry x,none,af⟩)(h:(aT GL tm x,aC H b,aC H m)=(.iter b m,some (.bH m nE (seen++[i])),some (.map es)))(hn:es.length=nE)(hd:Nat.blt d n=true)(hq:CG P GL (.ops (l.drop 1)) K n (put tm d (.tuple [.d k,v])) H Q):CG P GL (.ops l) K n tm H Q:=by simp only[aav]at h;refine CG.eR ho rfl (v:=.tuple [.d k,v]) (wr:=none) ?_ rfl hd hq;simp only[bt,h.1,h.2.1,h.2.2,aaS,hn,abd,aaw,List.getLast?_append,List.getLast?_singleton,Option.some_or,hi]
theorem CG.L8{f:aU}{ps:List Nat}{ca cb:Code}{zX:FuncId}{first cap:List V}(uP:List (Nat×V))(R:an->Prop)(hw:∀s,get uP s=get tm s\/get uP s=.any)(hf:aT GL tm f=.func zX first cap)(hit:WF P GL zX (first++[.gI H.length]++cap) (aR H H.length (.loop n uP ps ca cb .ready)) (fun _ H'=>R H'))(L4:∀H',R H'->∃n1 kR mH mI mJ,aC H' H.length=some (.loop n1 kR mH mI mJ .ready)/\CG P GL (.out .normal) K n tm (aR H' H.length (.loop n1 kR mH mI mJ .over)) Q):CG P GL (.code (.cZ f ps ca cb)) K n tm H Q:=by refine WC.cZ (σ:=⟨n,tm,H⟩) uP hw hf (hit.mono ?_ );intro v H' hr;obtain⟨n1,kR,mH,mI,mJ,h1,h2⟩:=L4 H' hr;exact⟨n1,kR,mH,mI,mJ,.ready,h1,h2⟩
end
variable {n:Nat}{seen:List Nat}
def kh(n:Nat)(seen:List Nat):Prop:=seen.Nodup/\∀i∈seen,i<n
theorem kh.snoc{i:Nat}(h:kh n seen)(hi:i<n)(hn:i∉seen):kh n (seen++[i]):=by
 refine⟨List.nodup_append.2 ⟨h.1,by simp,?_ ⟩,?_⟩
 ·intro a ha b hb;simp at hb;subst hb;rintro rfl;exact hn ha
 ·intro j hj;rcases aa3.1 hj with hj|hj
  ·exact h.2 j hj
  ·simp at hj;omega
theorem kh.perm(h:kh n seen)(ha:∀i,i<n->i∈seen):seen.Perm (List.range n):=by
 refine(List.perm_ext_iff_of_nodup h.1 List.nodup_range).2 fun i=>?_
 rw[aa'];exact⟨h.2 i,ha i⟩
theorem kh.le(h:kh n seen):seen.length<=n:=by have:seen.length<=(List.range n).length:=List.Nodup.length_le_of_subset h.1 (fun i hi=>aa'.2 (h.2 i hi));simpa using this
end Fw
/-
  An own row known as data from here on, in a slot and in the boxes that speak of it.
-/
namespace Fw
open Go
theorem ax.PU{α:Type}(aa:α->List D)(as:List α){m n sz:Nat}{tm a7:List (Nat×V)}{H H':an}(b s:Nat)(cH:∀a,(aa a).length=sz)(hs:get tm s=.sl b (as.length*sz) 0 as.length sz)(hH:aC H b=some (aK aa as))(hr:jf b (.sl b (as.length*sz) 0 as.length sz) (.d (.list (as.map aa))) 0 H H')(e1:put (tf b tm) s (.d (.list (as.map aa)))=a7):ax m ⟨n,tm,H⟩ ⟨n,a7,H'⟩:=by
 intro GL g w a uB;have hle:Nat.ble (0+as.length*sz) (as.length*sz)=true:=by simp_all
 have ho:bV b (as.flatMap aa) (.sl b (as.length*sz) 0 as.length sz)=.d (.list (as.map aa)):=by simp only[bV,aaS,aaw,cg cH,hle,abd,abu,jd cH]
 have hf:=tk ho H H' 0 hr;have LZ:j5 b ⟨n,tm,H⟩=some ⟨n,tm.map fun p=>(p.1,bV b (as.flatMap aa) p.2),H'⟩:=by unfold j5;rw[th hH];simp only[hf];rw[Au rfl H H' 0 hr (mV uB.heap),aaw]
 refine(ax.trans (ax.lG LZ) (ax.dW fun t=>?_ )) GL g w a uB;subst e1;rw[iE (bV b (as.flatMap aa)) (by simp only[bV]),fB];by_cases ht:t=s
 ·subst ht;rw[aaF rfl,hs];left;exact ho.symm
 ·rw[aaH ht,lj];cases hn:ew b (get tm t)with
   |true=>left;rw[aaw,dK _ hn]
   |false=>right;rfl
end Fw
/-
  A literal of bytes that is marked as a string's bytes are: the literal and its conversion, as one step.
-/
namespace Fw
open Go
section
variable {P:Program}{GL:bM}
variable {l:List ab}
theorem pK{ro:Option Nat}{o:ab}{ops:Array Oper}{k:Nat}(hc:eZ P ops.toList false (ops.toList.drop k)=some (o::l))(hg:o.guard=none):∃hk:k<ops.size,(aV P ops[k].op).getD .bad=o.op/\ops[k].dst=o.dst/\eZ P ops.toList false (ops.toList.drop (k+1))=some l/\∀(Q:Exit->Act->World->Prop)(a:Act)(w:World),OW ro P ops[k] a w (wpOpsIn (FR ro) 0 P ops Q (List.range' (k+1) (ops.size - (k+1)))) Q->wpOpsIn (FR ro) 0 P ops Q (List.range' k (ops.size - k)) a w:=by
 have hl:=bQ hc;simp at hl;have hk:k<ops.size:=by omega
 have xF:ops.toList.drop k=ops[k]::ops.toList.drop (k+1):=by rw[abq (by grind)];simp
 rw[xF]at hc;simp only[eZ,bS]at hc;split at hc
 ·cases hc
 ·rename_i io xe;split at hc
  ·cases hc
  ·rename_i l' Hl;simp at hc;obtain⟨rfl,rfl⟩:=hc;simp only[dO]at xe;split at xe
   ·rename_i gd lu;simp at xe;subst xe;refine⟨hk,rfl,rfl,Hl,fun Q a w key=>?_ ⟩;rw[show ops.size - k=(ops.size - (k+1))+1 by omega,acf,wpOpsIn_cons];unfold wpOpIn;have j2:ops[k]? =some ops[k]:=Array.getElem?_eq_getElem hk;simp only[j2];simp only at hg;subst hg;have hw:Region.wanted ops[k] (yielded ops a.tmps)=true:=by
     unfold eA at lu;unfold Region.wanted;cases ho:ops[k].guard with
      |none=>rfl
      |some p=>obtain⟨j,nR⟩:=p;simp only[ho]at lu;split at lu<;>simp at lu
    rw[aaF hw];exact key
   ·cases xe
theorem C_{op:Op}{x:aU}(h:aV P op=some (.oP x)):∃(s:TypeId)(x':Operand)(e:TypeId),op=.convert s s x'/\ar x'=some x/\P.underlying s=some (.slice e)/\P.underlying e=some (.int .u8):=by
 cases op with
  |convert s d x'=>
   simp only[aV]at h;split at h
   ·cases h
   ·split at h<;>cases h
   ·split at h<;>cases h
   ·rename_i e e' y h1 h2 h3;split at h
    ·rename_i h4 h5;simp only[aar,jv.oP.injEq]at h;obtain rfl:s=d:=by simpa using h4
     subst h;rw[h1]at h2;simp only[aar,TypeDesc.slice.injEq]at h2;subst h2;exact⟨s,x',e,rfl,h3,h1,h5⟩
    ·cases h
   ·cases h
  |makeFunc fn a b=>exfalso;cases fn<;>(grind[aV])
  |makeMap t r=>exfalso;cases r<;>(grind[aV])
  |slice t x lo hi mx=>exfalso;cases mx<;>cases lo<;>cases hi<;>(simp only[aV]at h;(repeat' split at h)<;>simp at h)
  |call c=>exfalso;simp only[aV,cR]at h;(repeat' split at h)<;>simp at h
  |_=>exfalso;simp only[aV]at h;(repeat' split at h)<;>simp at h
theorem WO.mark{len d1 d2:Nat}{z cs:List V}{ps:List (Nat×Nat×aU)}{PV L6:List Nat}{σ aS:St}{Q:St->Prop}{bs:List UInt8}(hf:fg (aT GL σ.tm) z ps=some cs)(nS:cs=bs.map fun b=>V.d (.int .u8 b.toNat))(hlen:bs.length=len)(h0:0<len)(hp:(σ.put (some d1) .any σ.hp).bind (fun s=>s.put (some d2) (.full (bs.map fun b=>[.int .u8 b.toNat])) σ.hp)=some aS)(h:WO P GL l aS Q):WO P GL (⟨some d1,.mkSlice 1 len z ps,none,PV⟩::⟨some d2,.oP (.t d1),none,L6⟩::l) σ Q:=by
 intro ro ops k hc g w a hr;obtain⟨T0,ho1,OP,VI,hu1⟩:=pK (ro:=ro) hc rfl;obtain⟨qh,Vx,Bk,HM,Jy⟩:=pK (ro:=ro) VI rfl;have PW:=cu ho1 (by simp);have LK:=cu Vx (by simp);refine hu1 _ _ _ ?_;obtain⟨t,e,zz,qs,e1,e2,e3,hz,e5,KS,h3,e6,rfl⟩:=o7 PW;obtain⟨c',h6,h7,ky,dT⟩:=lN (a:=a) (w:=w) (g:=g) e1 e2 e3 hz e5 KS h3 e6 hf hr.ev;refine OW.of (bE PW) dT ?_;simp only[Oper.uponIn];rw[OP];refine Jy _ _ _ ?_;obtain⟨s,x',e',f1,f2,f3,f4⟩:=C_ LK;have hxt:x'=.tmp d1:=by cases x'<;>simp_all[ar]
 subst hxt;simp only[St.put]at hp;have zr:Nat.blt d1 σ.n=true:=by
  cases hb:Nat.blt d1 σ.n with
   |true=>rfl
   |false=>rw[hb]at hp;simp at hp
 rw[zr]at hp;simp only[aaw,Option.bind_some]at hp;have ev2:(a.put (some d1) (.slice (some ⟨w.heap.size,0,none⟩) len len)).eval (.tmp d1)=.slice (some ⟨w.heap.size,0,none⟩) len len:=by
  have h1:d1<a.tmps.size:=by
   have:=hr.size;have h2:d1<σ.n:=by simpa using zr
   omega
  simp[Act.eval,Act.put,h1]
 have EP:(execOp (a.put (some d1) (.slice (some ⟨w.heap.size,0,none⟩) len len)).eval ops[k+1]).run P (w.alloc (.cells c' e))=.ok (.value (.slice (some ⟨w.heap.size,0,none⟩) len len)) ((w.alloc (.cells c' e)).freeze ⟨w.heap.size,c'.size,none⟩ 1):=by have hm:=run_mark (P:=P) c' e w;simp only[execOp,f1,ev2,convert,Sem.run_bind,run_underlying f3,run_underlying f4,Result.andThen_ok,beq_self_eq_true];erw [hm];rfl
 refine OW.of (bE LK) EP ?_;simp only[Oper.uponIn];rw[Bk];have iC:=bu.uE (w:=w) hr.heap (.cells c' e) c'.size 1;have gp:∀b y k,g.γ b=some y->y.own=some k->((w.alloc (.cells c' e)).freeze ⟨w.heap.size,c'.size,none⟩ 1).heap[k]? =w.heap[k]? :=by intro b y k hy hk;obtain⟨_,zb,_,h3⟩:=hr.heap.live b y hy;have:=h3.lt k hk;rw[kM (by omega)];exact cj w _ this
 have v8:=hr.heap.ext iC gp;have r1:R GL g _ (a.put (some d1) (.slice (some ⟨w.heap.size,0,none⟩) len len)) ⟨σ.n,put σ.tm d1 .any,σ.hp⟩:=hr.fk iC v8 (v:=.any) (by simp only[St.put,zr,aaw]) (by simp only[RV]);have hv:RV g ((w.alloc (.cells c' e)).freeze ⟨w.heap.size,c'.size,none⟩ 1) (.full (bs.map fun b=>[.int .u8 b.toNat])) (.slice (some ⟨w.heap.size,0,none⟩) len len):=by
  have aal:=h6.length;have xC:∀j,j<bs.length->((w.alloc (.cells c' e)).freeze ⟨w.heap.size,c'.size,none⟩ 1).cell? ⟨w.heap.size,j,none⟩=(bs[j]? ).map fun x=>Value.int .u8 x.toNat:=by
   intro j hj;have cy:w.heap.size<(w.alloc (.cells c' e)).heap.size:=by simp
   have U2:=bc w (.cells c' e);have Lg:∃fr,((w.alloc (.cells c' e)).freeze ⟨w.heap.size,c'.size,none⟩ 1).heap[w.heap.size]? =some (.cells c' e fr):=by unfold World.freeze;rw[aaH (by omega)];simp only[abC,abK];simp_all
   obtain⟨fr,Lg⟩:=Lg;simp only[World.cell?,Lg];obtain⟨v,L9,xq⟩:=aN.get j h6 (u:=.d (.int .u8 (bs[j]).toNat)) (by rw[nS];simp[hj]);simp only[RV,Rd]at xq;subst xq;simpa[hj]using L9
  simp only[RV,Rd];refine⟨.inr ⟨w.heap.size,0,len,1,by simp[hlen],by simp[hlen],fun _=>⟨by rw[lR];simp,fun hf=>by have:=(hr.heap.fo _ hf).1;omega,fun c y hy hk=>?_ ⟩,dR.eM fun i e' OR=>?_ ⟩,some ⟨w.heap.size,0,none⟩,by rw[aaE,hlen]⟩
  ·obtain⟨_,z,_,h3⟩:=hr.heap.live c y hy;have:=h3.lt _ hk;omega
  ·simp only[aa4,aaA]at OR;obtain⟨c,hc,rfl⟩:=OR;have hi:i<bs.length:=(aaz.1 hc).1;simp_all[cP,aaK,abU,Rd]
 have r2:=r1.fk (aS:=aS) (dst:=some d2) (bu.refl _ _) v8 (by simp only[St.put];exact hp) hv;have V2:=h ro ops (k+1+1) HM g _ _ r2;exact cF (cE.ext iC) _ _ _ V2
theorem CG.mark{d1 d2 len:Nat}{z:List V}{ps:List (Nat×Nat×aU)}{PV L6:List Nat}{K:List Fr}{n:Nat}{tm:List (Nat×V)}{H:an}{Q:Ex->St->Prop}(bs:List UInt8)(ho:(l.head?,(l.drop 1).head?)=(some ⟨some d1,.mkSlice 1 len z ps,none,PV⟩,some ⟨some d2,.oP (.t d1),none,L6⟩))(hf:fg (aT GL tm) z ps=some (bs.map fun b=>V.d (.int .u8 b.toNat)))(hl:(Nat.beq bs.length len&&Nat.blt 0 len&&Nat.blt d1 n&&Nat.blt d2 n)=true)(hq:CG P GL (.ops (l.drop 2)) K n (put (put tm d1 .any) d2 (.full (bs.map fun b=>[.int .u8 b.toNat]))) H Q):CG P GL (.ops l) K n tm H Q:=by
 simp only[aav]at ho;simp only[aas]at hl;obtain⟨⟨⟨h1,h2⟩,h3⟩,h4⟩:=hl;match l,ho with
  |o1::o2::l,ho=>simp only[List.head?_cons,ab5,abu,aar]at ho;obtain⟨rfl,rfl⟩:=ho;exact WO.mark hf rfl (aau h1) (by simpa using h2) (by simp only[St.put,h3,h4,aaw,Option.bind_some]) hq
  |[],ho=>simp at ho
  |[o1],ho=>simp at ho
end
end Fw
/-
  Rows of bytes, and new rows of open length.
-/
namespace Fw
open Go
section
variable {P:Program}{GL:bM}
variable {H:an}{af:List Nat}{l:List ab}{n d bytes:Nat}{tm:List (Nat×V)}{α:Type}{K:List Fr}{Q:Ex->St->Prop}{y:aU}
def bW(b:UInt8):List D:=[.int .u8 b.toNat]
theorem JW(f:α->D)(l:List α):(l.flatMap fun a=>[f a])=l.map f:=by
 induction l with
  |nil=>rfl
  |cons a l ih=>simp[aaV,ih]
theorem CG.Uf(aa:α->List D)(a:α){c:D}{k:Nat}{x:aU}{g:Option (Nat×Bool)}(ha:aa a=[c])(hk:0<k)(ho:l.head?=some ⟨some d,.np 1 bytes [.d c] x y,g,af⟩)(hc:(aB g tm,aT GL tm x,aT GL tm y,Nat.blt d n)=(some true,.d (.int .i64 (.ofNat k)),.d (.int .i64 (.ofNat k)),true))(hr:k*(bytes+1)<=1099511627776)(hq:CG P GL (.ops (l.drop 1)) K n (put tm d (.sl H.length ((List.replicate k a).length*1) 0 (List.replicate k a).length 1)) (aR H H.length (aK aa (List.replicate k a))) Q):CG P GL (.ops l) K n tm H Q:=by
 simp only[aav]at hc;have hb:(Nat.ble k k&&Nat.ble (k*(bytes+1)) cf&&Nat.ble k cf&&[V.d c].all eL&&Nat.beq [V.d c].length 1&&Nat.blt 0 1)=true:=by
  have h2:cf=1099511627776:=by decide
  have h3:k<=k*(bytes+1):=abv _ (by omega);simp[eL,h2,hr];omega
 have zP:(List.range (k*1)).map (fun i=>[V.d c].getD (i%1) .any)=((List.replicate k a).flatMap aa).map .d:=by
  have h1:∀m,(List.range m).map (fun i=>[V.d c].getD (i%1) .any)=List.replicate m (V.d c):=by intro m;rw[List.eq_replicate_iff];refine⟨by simp,fun x hx=>?_ ⟩;simp only[aba,aa']at hx;obtain⟨i,_,rfl⟩:=hx;simp[Nat.mod_one]
  have h2:∀m,((List.replicate m a).flatMap aa).map V.d=List.replicate m (V.d c):=by
   intro m;induction m with
    |zero=>rfl
    |succ m ih=>rw[abO,aaV,abt,ih,ha];rfl
  rw[h1,h2,abU]
 have hO:aK aa (List.replicate k a)=.cells (((List.replicate k a).flatMap aa).map .d):=by
  cases k with
   |zero=>omega
   |succ m=>unfold aK lh;rw[abO,aaV,ha];rfl
 refine CG.eR ho hc.1 (v:=.sl H.length ((List.replicate k a).length*1) 0 (List.replicate k a).length 1) (wr:=some (H.length,aK aa (List.replicate k a))) ?_ rfl hc.2.2.2 hq;simp only[bt,hc.2.1,hc.2.2.1,cN];rw[aaF (by exact Int.natCast_nonneg k)];simp only[abf,acC];rw[hb,aaw,zP,hO];simp
theorem tq(H:an)(s:List UInt8):bO H 1 (.d (.str s))=some ((s.flatMap bW).map .d):=by simp only[bO,aaS,aaw,aar];unfold bW;rw[JW (fun b:UInt8=>D.int .u8 b.toNat),abY];rfl
theorem oj{aa:α->List D}{l:List α}{b sz:Nat}(k:Nat)(h0:0<sz)(cH:∀a,(aa a).length=sz)(hH:aC H b=some (aK aa l))(hk:k<=l.length)(hl:l≠[]):bO H sz (.sl b (l.length*sz) 0 k sz)=some (((l.take k).flatMap aa).map .d):=by
 have hc:aK aa l=.cells ((l.flatMap aa).map .d):=by
  cases l with
   |nil=>exact absurd rfl hl
   |cons a r=>
    unfold aK lh;have:(aa a)≠[]:=fun h=>by have:=cH a;rw[h]at this;simp at this;omega
    cases he:aa a with
     |nil=>exact absurd he this
     |cons c cs=>simp[aaV,he]
 simp only[bO,aaS,aaw,hH,hc,aaE,cg cH,aaU,aaK];rw[abE (aa0 _ hk),aaw,abu];have:(l.take k).flatMap aa=(l.flatMap aa).take (k*sz):=by
  have h1:l.flatMap aa=(l.take k).flatMap aa++(l.drop k).flatMap aa:=by rw[←ab6,acj]
  have h2:((l.take k).flatMap aa).length=k*sz:=by rw[cg cH,abB,Nat.min_eq_left hk]
  rw[h1,←h2,List.take_left'];rfl
 rw[this,acz]
theorem CG.PX(aa:α->List D)(as ys:List α){g:Option (Nat×Bool)}{sz:Nat}{x:aU}(yv:V)(cH:∀a,(aa a).length=sz)(h0:0<sz)(D4:ys≠[])(ho:l.head?=some ⟨some d,.append sz bytes x y,g,af⟩)(hc:(aB g tm,aT GL tm x,aT GL tm y,Nat.blt d n)=(some true,.full (as.map aa),yv,true))(DT:bO H sz yv=some ((ys.flatMap aa).map .d))(hr:(as.length+ys.length)*sz*(bytes+1)<=1099511627776)(hq:CG P GL (.ops (l.drop 1)) K n (put tm d (.sl H.length ((as++ys).length*sz) 0 (as++ys).length sz)) (aR H H.length (aK aa (as++ys))) Q):CG P GL (.ops l) K n tm H Q:=by
 simp only[aav]at hc;have hy:bO H sz (aT GL tm y)=some ((ys.flatMap aa).map .d):=by rw[hc.2.2.1];exact DT
 have iF:(as.map aa).all (fun e=>Nat.beq e.length sz)=true:=by simp_all
 have Jz:∀l:List α,(l.map aa).flatten.length=l.length*sz:=fun l=>by rw[←cg cH l,List.flatMap_def]
 have hs0:Nat.beq sz 0=false:=by
  cases sz with
   |zero=>omega
   |succ n=>rfl
 have hlen:((ys.flatMap aa).map V.d).length=ys.length*sz:=by rw[aaE,cg cH]
 have hm:Nat.beq (((ys.flatMap aa).map V.d).length%sz) 0=true:=by rw[hlen,Nat.mul_mod_left];rfl
 have j2:((ys.flatMap aa).map V.d).all eL=true:=by simp[eL]
 have hO:((ys.flatMap aa).map V.d).isEmpty=false:=by
  cases h:(ys.flatMap aa).map V.d with
   |nil=>rw[h]at hlen;simp only[aaq]at hlen;have:0<ys.length*sz:=Nat.mul_pos (by cases ys with|nil=>exact absurd rfl D4|cons _ _=>simp) h0;omega
   |cons _ _=>rfl
 have hb:Nat.ble (((as.map aa).flatten.length+((ys.flatMap aa).map V.d).length)*(bytes+1)) cf=true:=by
  rw[Jz,hlen,←abJ];have h2:cf=1099511627776:=by decide
  simp[h2,hr]
 have si:((ys.flatMap aa).map V.d).length / sz=ys.length:=by rw[hlen,Nat.mul_div_cancel _ h0]
 have zP:aK aa (as++ys)=.cells ((as.map aa).flatten.map .d++(ys.flatMap aa).map .d):=by
  unfold aK lh;rw[ab6,abt,←List.flatMap_def];cases h:(ys.flatMap aa).map V.d with
   |nil=>rw[h]at hO;cases hO
   |cons _ _=>cases(as.flatMap aa).map V.d<;>rfl
 refine CG.eR ho hc.1 (v:=.sl H.length ((as++ys).length*sz) 0 (as++ys).length sz) (wr:=some (H.length,aK aa (as++ys))) ?_ rfl hc.2.2.2 hq;simp only[bt,hy,hc.2.1,dG,hs0,hm,j2,iF,hO,hb,abQ,ab_,abd,aaw,aaM,si];rw[Jz,hlen,←abJ,zP,aao,aaE]
theorem CG.uq(aa:α->List D)(as ys:List α)(b:Nat)(yv:V){g:Option (Nat×Bool)}{sz:Nat}{x:aU}(cH:∀a,(aa a).length=sz)(h0:Nat.blt 0 sz=true)(ho:l.head?=some ⟨some d,.append sz bytes x y,g,af⟩)(hc:(aB g tm,aT GL tm x,aT GL tm y,aC H b,Nat.blt d n)=(some true,.sl b (as.length*sz) 0 as.length sz,yv,some (aK aa as),true))(DT:bO H sz yv=some ((ys.flatMap aa).map .d))(hr:(as.length+ys.length)*sz*(bytes+1)<=1099511627776)(hq:CG P GL (.ops (l.drop 1)) K n (put tm d (.sl b ((as++ys).length*sz) 0 (as++ys).length sz)) (aR H b (aK aa (as++ys))) Q):CG P GL (.ops l) K n tm H Q:=by simp only[aav]at hc;exact CG.PG aa as ys cH h0 ho hc.1 hc.2.1 hc.2.2.2.1 (by rw[hc.2.2.1];exact DT) hr hc.2.2.2.2 rfl hq
theorem tr:∀s:List UInt8,kH ((s.flatMap bW).map .d)=some s
 |[]=>rfl
 |b::s=>by
  have ih:=tr s;rw[aaV,abt];show kH (V.d (.int .u8 b.toNat)::(s.flatMap bW).map V.d)=_;have e:UInt8.ofNat (Int.toNat (b.toNat:Int))=b:=by rw[acC];exact UInt8.ofNat_toNat
  rw[kH,ih];simp only[e]
theorem CG.Iq(s:List UInt8){b:Nat}{x:aU}{g:Option (Nat×Bool)}(hs:s≠[])(ho:l.head?=some ⟨some d,.same x,g,af⟩)(hc:(aB g tm,aT GL tm x,aC H b,Nat.blt d n)=(some true,.sl b (s.length*1) 0 s.length 1,some (aK bW s),true))(hq:CG P GL (.ops (l.drop 1)) K n (put tm d (.d (.str s))) H Q):CG P GL (.ops l) K n tm H Q:=by simp only[aav]at hc;have h:=oj (l:=s) (aa:=bW) (H:=H) (b:=b) s.length Nat.one_pos (fun _=>rfl) hc.2.2.1 (aaC _) hs;rw[abA]at h;refine CG.eR ho hc.1 (v:=.d (.str s)) (wr:=none) ?_ rfl hc.2.2.2 hq;simp only[bt,hc.2.1,h,tr]
theorem CG.tu{g:Option (Nat×Bool)}{f:FuncId}{first cap:List V}{x:aU}{args:List aU}{vs:List V}{R:V->an->Prop}(h:WF P GL f vs H R)(ho:l.head?=some ⟨some d,.bY x args,g,af⟩)(hc:(aB g tm,aT GL tm x,first++bI (aT GL tm) args++cap,Nat.blt d n)=(some true,.func f first cap,vs,true))(hq:∀v H',R v H'->CG P GL (.ops (l.drop 1)) K n (put tm d v) H' Q):CG P GL (.ops l) K n tm H Q:=by simp only[aav]at hc;obtain⟨hg,hx,ha,hd⟩:=hc;subst ha;refine WO.head ho (WO.bY rfl hx hg (h.mono ?_ ));intro v' H2 hr;refine⟨⟨n,put tm d v',H2⟩,?_,hq v' H2 hr⟩;simp_all[bB]
theorem CG.pL(w:List UInt8){u:V}{a x:aU}{g:Option (Nat×Bool)}{R:V->an->Prop}(ho:l.head?=some ⟨none,.store 1 a x,g,af⟩)(hl:(l.drop 1).length=0)(hc:(aB g tm,aT GL tm a,aT GL tm x,H)=(some true,.ptr 0 1 0,.d (.str w),[some (.cells [u])]))(hq:R (.tuple []) [some (.cells [.d (.str w)])]):CG P GL (.ops l) [] n tm H (nh [] R):=by
 simp only[aav]at hc;obtain⟨h1,h2,h3,rfl⟩:=hc;refine CG.yA (v:=.any) (wr:=some (0,.cells [.d (.str w)])) ho h1 ?_ rfl ?_
 ·simp[bt,h2,h3,eg,aC,bU,eL,putCells];rfl
 ·exact CG.L7 hl rfl hq
end
end Fw
/-
  Lists of strings that are known, or of which a bound is known.
-/
namespace Fw
open Go
def dN:D->Nat| .str s=>s.length| .sN n=>n|_=>0
def zq:D->Bool| .str _=>true| .sN _=>true|_=>false
theorem dR.sD{w:World}{im:Nat->Prop}{aM sz:Nat}:∀{l:List D}{off:Nat},(∀d∈l,zq d=true)->dR w im aM off sz (l.map fun d=>[d])->∃ss:List (List UInt8),mn ss (l.map dN)/\dR w im aM off sz (ss.map fun s=>[.str s])
 |[],off,_,h=>⟨[],trivial,by simp only[aaZ,dR]⟩
 |d::l,off,hs,h=>by
  simp only[aaB,dR,cP]at h;obtain⟨h1,⟨⟨v,h2,h3⟩,-⟩,h4⟩:=h;obtain⟨ss,k1,k2⟩:=dR.sD (fun x hx=>hs x (aaY _ hx)) h4;have hd:=hs d (by simp);have:∃s:ByteArray,v=.string s/\s.data.toList.length<=dN d:=by
   cases d<;>simp[zq]at hd
   ·simp only[Rd]at h3;obtain⟨s,rfl,rfl⟩:=h3;exact⟨s,rfl,aaC _⟩
   ·simp only[Rd]at h3;exact h3
  obtain⟨s,rfl,h5⟩:=this;refine⟨s.data.toList::ss,⟨h5,k1⟩,?_⟩;simp only[aaB,dR,cP];exact⟨h1,⟨⟨_,h2,by simp only[Rd];exact⟨s,rfl,rfl⟩⟩,trivial⟩,k2⟩
theorem RV.sDL{g:G}{w:World}{l:List D}{v:Value}(hs:∀d∈l,zq d=true)(h:RV g w (.d (.list (l.map fun d=>[d]))) v):∃ss:List (List UInt8),mn ss (l.map dN)/\RV g w (.d (.list (ss.map fun s=>[.str s]))) v:=by
 simp only[RV,Rd]at h⊢;rcases h with⟨e,h⟩|⟨aM,off,cap,sz,h1,h2,h3,h4⟩
 ·rw[acs]at e;subst e;exact⟨[],trivial,.inl ⟨rfl,h⟩⟩
 ·obtain⟨ss,k1,k2⟩:=dR.sD hs h4;have hl:=k1.len;rw[aaE]at hl;refine⟨ss,k1,.inr ⟨aM,off,cap,sz,by simpa[hl]using h1,by simpa[hl]using h2,fun hn=>h3 (fun e=>hn ?_ ),k2⟩⟩;rw[acs]at e⊢;subst e;exact abH hl
theorem vk:∀ns:List Nat,mn (ns.map fun _=>[]) ns|[]=>trivial|n::ns=>⟨aaP _,vk ns⟩
end Fw
/-
  Places left free among the boxes; the head of an array as a slice.
-/
namespace Fw
open Go
theorem ax.pad{m n:Nat}{tm:List (Nat×V)}{H:an}:ax m ⟨n,tm,H⟩ ⟨n,tm,H++[none]⟩:=fun _ g _ _ h=>⟨g,⟨h.defers,h.size,h.tmps,h.heap.pad 1,h.cD⟩,fun _ _ _ he=>he⟩
section
variable {P:Program}{GL:bM}
theorem CG.Ir(l0:List UInt8)(b h p N:Nat){d:Nat}{g:Option (Nat×Bool)}{af:List Nat}{l:List ab}{K:List Fr}{n:Nat}{tm:List (Nat×V)}{H:an}{Q:Ex->St->Prop}{x k:aU}(hN:l0.length=N)(hp:p<=N)(h0:0<N)(hh:h=N)(ho:l.head?=some ⟨some d,.lK N 1 x none (some k),g,af⟩)(hc:(aB g tm,aT GL tm x,aC H b,cN (aT GL tm k),Nat.blt d n)=(some true,.ptr b h 0,some (aK bW l0),some p,true))(hq:CG P GL (.ops (l.drop 1)) K n (put tm d (.sl b (l0.length*1) 0 p 1)) H Q):CG P GL (.ops l) K n tm H Q:=by
 simp only[aav]at hc;subst hh;subst hN;have hb:bounds (aT GL tm) l0.length none (some k)=some (0,p):=qx rfl hc.2.2.2.1 (aaP _) hp;have hl:=qA (aa:=bW) (sz:=1) (fun _=>rfl) hc.2.2.1;rw[abU]at hl;have HM:(eI H b l0.length&&Nat.ble (0+l0.length*1) l0.length&&Nat.blt 0 l0.length)=true:=by rw[hl,aaK,abU];simp;omega
 refine CG.eR ho hc.1 (v:=.sl b (l0.length*1) 0 p 1) (wr:=none) ?_ rfl hc.2.2.2.2 hq;simp only[bt,hc.2.1,HM,aaw,hb,aaI,xn];have:(Nat.beq 0 p&& !Nat.beq 0 0)=false:=by simp
 rw[this,aaM];simp
theorem CG.Ax(w u:V)(hs:an){a x:aU}{g:Option (Nat×Bool)}{af:List Nat}{l:List ab}{n:Nat}{tm:List (Nat×V)}{H:an}{R:V->an->Prop}(ho:l.head?=some ⟨none,.store 1 a x,g,af⟩)(hl:(l.drop 1).length=0)(hc:(aB g tm,aT GL tm a,aT GL tm x,H)=(some true,.ptr 0 1 0,w,some (.cells [u])::hs))(hw:bU w=[w])(zx:eL w=true)(hq:R (.tuple []) (some (.cells [w])::hs)):CG P GL (.ops l) [] n tm H (nh [] R):=by
 simp only[aav]at hc;obtain⟨h1,h2,h3,rfl⟩:=hc;refine CG.yA (v:=.any) (wr:=some (0,.cells [w])) ho h1 ?_ rfl ?_
 ·simp[bt,h2,h3,eg,aC,hw,zx,putCells];rfl
 ·exact CG.L7 hl rfl hq
end
end Fw
/-
  A literal of bytes and its conversion, the row in full.
-/
namespace Fw
open Go
variable {P:Program}{GL:bM}
variable {l:List ab}{tm:List (Nat×V)}{n base i d m:Nat}{af:List Nat}{H Hp:an}{y:aU}{Q:List (Nat×V)->Prop}{a b:List UInt8}{f:FuncId}
theorem CG.JX{d1 d2 len:Nat}{z:List V}{ps:List (Nat×Nat×aU)}{PV L6:List Nat}{K:List Fr}{Q:Ex->St->Prop}(bs:List UInt8)(rs:List (List D))(ho:(l.head?,(l.drop 1).head?)=(some ⟨some d1,.mkSlice 1 len z ps,none,PV⟩,some ⟨some d2,.oP (.t d1),none,L6⟩))(hf:fg (aT GL tm) z ps=some (bs.map fun b=>V.d (.int .u8 b.toNat)))(hl:(Nat.beq bs.length len&&Nat.blt 0 len&&Nat.blt d1 n&&Nat.blt d2 n)=true)(hr:bs.map (fun b=>[D.int .u8 b.toNat])=rs)(hq:CG P GL (.ops (l.drop 2)) K n (put (put tm d1 .any) d2 (.full rs)) H Q):CG P GL (.ops l) K n tm H Q:=by subst hr;exact CG.mark bs ho hf hl hq
theorem AO.bg{g:Option (Nat×Bool)}{x:aU}(hl:a.length+b.length<=4611686018427387904)(ho:l.head?=some ⟨some d,.bin .add x y,g,af⟩)(hc:(aB g tm,aT GL tm x,aT GL tm y)=(some true,.d (.str a),.d (.str b)))(hq:AO P GL base Hp (i+1) (l.drop 1) (put tm d (.d (.str (a++b)))) Q):AO P GL base Hp i l tm Q:=by simp only[aav]at hc;have:a.length+b.length<=iS:=hl;refine AO.eR ho hc.1 rfl (v:=.d (.str (a++b))) ?_ hq;grind[bt,lL,zD]
theorem AO.Da{g:Option (Nat×Bool)}{x:aU}(hl:a.length+n<=4611686018427387904)(ho:l.head?=some ⟨some d,.bin .add x y,g,af⟩)(hc:(aB g tm,aT GL tm x,aT GL tm y)=(some true,.d (.str a),.d (.sN n)))(hq:AO P GL base Hp (i+1) (l.drop 1) (put tm d (.d (.sN (a.length+n)))) Q):AO P GL base Hp i l tm Q:=by
 simp only[aav]at hc;have h:Nat.ble (a.length+n) iS=true:=by rw[abG];exact hl
 refine AO.eR ho hc.1 rfl (v:=.d (.sN (a.length+n))) ?_ hq;simp only[bt,hc.2.1,hc.2.2,lL,oS,h,aaw,aaI]
theorem AO.Db{g:Option (Nat×Bool)}{x:aU}(hl:n+b.length<=4611686018427387904)(ho:l.head?=some ⟨some d,.bin .add x y,g,af⟩)(hc:(aB g tm,aT GL tm x,aT GL tm y)=(some true,.d (.sN n),.d (.str b)))(hq:AO P GL base Hp (i+1) (l.drop 1) (put tm d (.d (.sN (n+b.length)))) Q):AO P GL base Hp i l tm Q:=by
 simp only[aav]at hc;have h:Nat.ble (n+b.length) iS=true:=by rw[abG];exact hl
 refine AO.eR ho hc.1 rfl (v:=.d (.sN (n+b.length))) ?_ hq;simp only[bt,hc.2.1,hc.2.2,lL,oS,h,aaw,aaI]
theorem AO.nN{g:Option (Nat×Bool)}{x:aU}(hl:n+m<=4611686018427387904)(ho:l.head?=some ⟨some d,.bin .add x y,g,af⟩)(hc:(aB g tm,aT GL tm x,aT GL tm y)=(some true,.d (.sN n),.d (.sN m)))(hq:AO P GL base Hp (i+1) (l.drop 1) (put tm d (.d (.sN (n+m)))) Q):AO P GL base Hp i l tm Q:=by
 simp only[aav]at hc;have h:Nat.ble (n+m) iS=true:=by rw[abG];exact hl
 refine AO.eR ho hc.1 rfl (v:=.d (.sN (n+m))) ?_ hq;simp only[bt,hc.2.1,hc.2.2,lL,oS,h,aaw,aaI]
theorem AW.Da{g:Option (Nat×Bool)}{Q:RS->List (Nat×V)->an->Prop}{x:aU}(hl:a.length+n<=4611686018427387904)(ho:l.head?=some ⟨some d,.bin .add x y,g,af⟩)(hc:(aB g tm,aT GL tm x,aT GL tm y)=(some true,.d (.str a),.d (.sN n)))(hq:AW P GL base (i+1) (l.drop 1) (put tm d (.d (.sN (a.length+n)))) H (fun rs t k=>Q (((.d (.sN (a.length+n)),none),mK (aT GL tm) (.bin .add x y))::rs) t k)):AW P GL base i l tm H Q:=by
 simp only[aav]at hc;have h:Nat.ble (a.length+n) iS=true:=by rw[abG];exact hl
 refine AW.eR (wr:=none) ho hc.1 rfl (v:=.d (.sN (a.length+n))) ?_ hq;simp only[bt,hc.2.1,hc.2.2,lL,oS,h,aaw,aaI]
theorem AW.Db{g:Option (Nat×Bool)}{Q:RS->List (Nat×V)->an->Prop}{x:aU}(hl:n+b.length<=4611686018427387904)(ho:l.head?=some ⟨some d,.bin .add x y,g,af⟩)(hc:(aB g tm,aT GL tm x,aT GL tm y)=(some true,.d (.sN n),.d (.str b)))(hq:AW P GL base (i+1) (l.drop 1) (put tm d (.d (.sN (n+b.length)))) H (fun rs t k=>Q (((.d (.sN (n+b.length)),none),mK (aT GL tm) (.bin .add x y))::rs) t k)):AW P GL base i l tm H Q:=by
 simp only[aav]at hc;have h:Nat.ble (n+b.length) iS=true:=by rw[abG];exact hl
 refine AW.eR (wr:=none) ho hc.1 rfl (v:=.d (.sN (n+b.length))) ?_ hq;simp only[bt,hc.2.1,hc.2.2,lL,oS,h,aaw,aaI]
theorem AW.ZS{g:Option (Nat×Bool)}{Q:RS->List (Nat×V)->an->Prop}{args:List aU}{vs:List V}{v:V}(h:jH P GL f vs H v)(ho:l.head?=some ⟨some d,.call f args,g,af⟩)(hg:aB g tm=some true)(ha:bI (aT GL tm) args=vs)(hq:AW P GL base (i+1) (l.drop 1) (put tm d v) H (fun rs t k=>Q (((v,none),mK (aT GL tm) (.call f args))::rs) t k)):AW P GL base i l tm H Q:=by
 subst ha;refine AW.head ho ⟨some (.v v),v,none,?_,fun f' ve hc _=>?_,hq⟩
 ·grind[nc,ig,cx]
 ·simp only[cx,aar,aav]at hc;obtain⟨rfl,rfl⟩:=hc;exact h.Lr _
theorem ax.rC{s s':St}(h:s=s'):ax m s s':=h▸ax.refl _ _
theorem WF.Is{args nB:List V}{Q:V->an->Prop}(hd:bS (oQ H) args=some nB)(h:PC P GL f nB (.d (.sN m)))(hq:Q (.d (.sN m)) H):WF P GL f args H Q:=by
 refine⟨h.1,fun g w vs cX hh hg=>?_ ⟩;let g0:G:=⟨g.cd,fun _=>none,g.fo,g.base⟩;have nt:∀k,wj g w k->cl g0 w k:=fun k hk=>⟨hk.1,hk.2,fun b x hx=>by cases hx⟩
 have O5:=bQ hd;have Zw:=cX.length;have Et:aN g0 w nB vs.toList:=aN.eM (by omega) fun i u y hu hy=>by
  have hi:i<args.length:=by have:=(aaz.1 hu).1;omega
  obtain⟨u2,k1,k2⟩:=gU i _ hd (aay hi);rw[hu]at k1;simp only[aar]at k1;subst k1;obtain⟨z,k3,k4⟩:=cX.get i (aay hi);rw[hy]at k3;simp only[aar]at k3;subst k3;exact(pt hh k2 k4).rv nt
 have hG:dX GL g0 w:=⟨fun n cs hn=>⟨nt _ (fG (hg.rd n cs hn).1),cP.keeps (show gR w w (cl g w) (cl g0 w)from gR.of fun k hk=>nt k (fG hk)) (hg.rd n cs hn).1 _ _ (hg.rd n cs hn).2⟩,fun k hk=>⟨nt _ (fG (hg.w0 k hk).1),(hg.w0 k hk).2⟩⟩;refine(h.2 g0 w vs Et (fun k hk=>(hh.fo k hk).1) (fun b x k hx=>by cases hx) hG).mono ?_;rintro e w' ⟨x,rfl,hx,he,-⟩;have gp:∀b y k,g.γ b=some y->y.own=some k->w'.heap[k]? =w.heap[k]? :=fun b y k hy hk=>(he.keeps k (nt k (hh.nY hy hk))).2
 have iC:bu g w g w':=⟨he.os,he.tape,he.output,he.size,fun k hk=>⟨⟨aaX hk.1 he.size,hk.2⟩,(he.keeps k (nt k (fG hk))).2⟩,fun _ h=>h,fun _ _=>GB.step.refl _,rfl,rfl,he.dw⟩;exact⟨x,.d (.sN m),g,H,rfl,hq,by simpa only[RV,Rd]using hx,hh.ext iC gp,iC⟩
theorem PC.JY{b off k sz:Nat}{cs:List V}{da:V}(h:PC P GL f [da] (.d (.sN m)))(hb:aC H b=some (.cells cs))(hd:bS (oQ [some (.cells cs)]) [.sl 0 n off k sz]=some [da])(hl:a6 0 [some (.cells cs)]=true):jH P GL f [.sl b n off k sz] H (.d (.sN m)):=by
 have hw:WF P GL f [.sl 0 n off k sz] [some (.cells cs)] (fun r H'=>r=.d (.sN m)/\H'=[some (.cells cs)]):=WF.Is hd h ⟨rfl,rfl⟩;have:=jH.HZ (v:=.d (.sN m)) [b] (H:=H) hw (by simp) rfl (by simp[aJ,aE]) hl (by rfl) (fun i hi=>by
  have:i=0:=by grind
  subst this;exact⟨_,rfl,hb⟩) (fun i hi=>by grind[fI,db,bq])
 simpa[fI,db]using this
end Fw
