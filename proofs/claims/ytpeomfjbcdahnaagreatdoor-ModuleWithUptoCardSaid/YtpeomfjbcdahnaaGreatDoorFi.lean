/-
  Boxes of data that nobody writes after their birth: known at once as a pointer to what stands still; the boxes ahead of them stay unspoken of.
-/
import Derived.Test.YtpeomfjbcdahnaaGreatDoorFh
import Derived.Lib.SlBytesConst
set_option linter.unusedSimpArgs false
set_option linter.unusedVariables false
namespace Fw
open Go
mutual
theorem RV.lt{g:G}{w:World}{m:Nat}(h:∀b,g.cr b->b<m):∀(u:V)(v:Value),RV g w u v->aC m u=true
 | .any,_,_=>rfl
 | .d _,_,_=>rfl
 | .full _,_,_=>rfl
 | .aj,_,_=>rfl
 | .ptr b _ _,_,hv=>by simp only[RV]at hv;simp only[aC];simpa[aaU]using h b hv.1.2
 | .lu,_,_=>rfl
 | .aL _,_,_=>rfl
 | .sl b _ _ _ _,_,hv=>by simp only[RV]at hv;simp only[aC];simpa[aaU]using h b hv.1.2
 | .map b,_,hv=>by simp only[RV]at hv;simp only[aC];simpa[aaU]using h b hv.1.2
 | .kj,_,_=>rfl
 | .func f a c,_,hv=>by simp only[RV]at hv;obtain⟨x,y,_,h1,h2⟩:=hv;simp only[aC,aas];exact⟨aM.lt h a _ h1,aM.lt h c _ h2⟩
 | .ob,_,_=>rfl
 | .iface _ u,_,hv=>by simp only[RV]at hv;obtain⟨x,_,h1⟩:=hv;simp only[aC];exact RV.lt h u _ h1
 | .bD,_,_=>rfl
 | .fA,_,_=>rfl
 | .agg cs,_,hv=>by simp only[RV]at hv;obtain⟨x,_,h1⟩:=hv;simp only[aC];exact aM.lt h cs _ h1
 | .tuple cs,_,hv=>by simp only[RV]at hv;obtain⟨x,_,h1⟩:=hv;simp only[aC];exact aM.lt h cs _ h1
 | .iter b _,_,hv=>by simp only[RV]at hv;simp only[aC];simpa[aaU]using h b hv.1.2
 | .gJ b,_,hv=>by simp only[RV]at hv;simp only[aC];simpa[aaU]using h b hv.1.2
theorem aM.lt{g:G}{w:World}{m:Nat}(h:∀b,g.cr b->b<m):∀(us:List V)(vs:List Value),aM g w us vs->aE m us=true
 |[],_,_=>rfl
 |u::us,[],hv=>by simp only[aM]at hv
 |u::us,v::vs,hv=>by simp only[aM]at hv;simp only[aE,aas];exact⟨RV.lt h u v hv.1,aM.lt h us vs hv.2⟩
end
theorem nW{m:Nat}:∀{H:ao},(∀b y,aA H b=some y->cZ m y=true)->aS m H=true
 |[],_=>rfl
 |none::H,h=>by simp only[aS];exact nW fun b y hb=>h (b+1) y hb
 |some x::H,h=>by simp only[aS,aas];exact⟨h 0 x rfl,nW fun b y hb=>h (b+1) y hb⟩
theorem ax.lt{g:G}{w:World}{H:ao}(hh:ax g w H):aS H.length H=true:=by
 refine nW fun b y hb=>?_
 obtain⟨x,hx⟩:=hh.back b y hb;obtain⟨_,y',h2,h3⟩:=hh.live b x hx;rw[hb]at h2;simp only[aat]at h2;subst h2;cases y with
  |cells cs=>
   cases x with
    |cells aK cp cur=>simp only[RB]at h3;obtain⟨_,_,_,c,e,_,_,h⟩:=h3;exact aM.lt hh.cr cs _ h
    |_=>simp only[RB]at h3
  |nil=>rfl
  |uo=>rfl
  |map es=>
   cases x with
    |obj aK=>simp only[RB]at h3;obtain⟨bG,clock,_,_,h,_,_⟩:=h3;simp only[cZ,aaJ];intro p hp;obtain⟨i,hi⟩:=List.getElem?_of_mem hp;obtain⟨z,_,_,_,hz⟩:=h i p.1 p.2 hi;exact RV.lt hh.cr _ _ hz
    |_=>simp only[RB]at h3
  |bM k n seen=>
   cases x with
    |obj aK=>simp only[RB]at h3;obtain⟨mb,sa,_,_,h,_⟩:=h3;simp only[cZ];simpa[aaU]using hh.cr k h
    |_=>simp only[RB]at h3
  |loop n tm ps ca cb st=>
   cases x with
    |obj aK=>simp only[RB]at h3;obtain⟨r,_,_,h,_⟩:=h3;simp only[cZ,aaJ];intro p hp;exact RV.lt hh.cr _ _ (h p.1)
    |_=>simp only[RB]at h3
theorem qu:∀{H:ao}{x:bW},(aR H H.length x).take H.length=H|[],_=>rfl|y::H,x=>by simp only[aaq,aR,ab5];rw[qu]
theorem gM:∀{H:ao}{x:bW},aA (aR H H.length x) H.length=some x|[],_=>rfl|y::H,x=>by simp only[aaq,aR,aA];exact gM
theorem qv:∀{H:ao}{b:Nat}{x y:bW},aR (aR H b x) b y=aR H b y
 |[],0,_,_=>rfl
 |[],n+1,_,_=>by simp only[aR];rw[qv]
 |_::_,0,_,_=>rfl
 |z::H,n+1,_,_=>by simp only[aR];rw[qv]
section
variable {P:Program}{GL:bR}
variable {l:List ab}{n d k:Nat}{tm:List (Nat×V)}{H:ao}{K:List Fr}{Q:Ex->St->Prop}{σ:St}{cs:List D}{af:List Nat}
theorem WO.refs{Q:St->Prop}(h:(∀t,aC σ.hp.length (get σ.tm t)=true)->aS σ.hp.length σ.hp=true->WO P GL l σ Q):WO P GL l σ Q:=by intro ro ops k hk g w a hr;exact h (fun t=>RV.lt hr.heap.cr _ _ (hr.tmps t)) hr.heap.lt ro ops k hk g w a hr
theorem ay.L5(hT:∀t,aC H.length (get tm t)=true)(hH:aS H.length H=true)(hk:cs.length=k):ay H.length ⟨n,put tm d (.ptr H.length k 0),aR H H.length (.cells (cs.map .d))⟩ ⟨n,put tm d (.aL cs),H⟩:=by
 subst hk;intro GL g w a hr;have PW:=hr.heap.cut (n:=H.length) (by rw[qu];exact hH);rw[qu]at PW;obtain⟨x,hx⟩:=hr.heap.back H.length _ gM;obtain⟨_,y,hy,HQ⟩:=hr.heap.live H.length x hx;simp only[gM,aat]at hy;subst hy;refine⟨g.cut H.length,⟨⟨hr.defers.1,hr.defers.2.1,fun d hd=>(hr.defers.2.2 d hd).imp fun D hD=>⟨hD.1,hD.2.1,jz hD.2.2.1,hD.2.2.2⟩⟩,hr.size,fun t=>?_,PW,⟨fun m cs hm=>⟨jz (hr.cB.rd m cs hm).1,cV.keeps (fx g w _).keeps (hr.cB.rd m cs hm).1 _ _ (hr.cB.rd m cs hm).2⟩,fun k hk=>⟨jz (hr.cB.w0 k hk).1,(hr.cB.w0 k hk).2⟩⟩⟩,fun g0 w0 hd he=>he.cut hd⟩;have hv:=hr.tmps t;simp only at hv⊢;rw[eY]at hv⊢;by_cases e:t=d
 ·rw[aaD e]at hv⊢;cases x with
   |cells aK cp cur=>
    simp only[RB]at HQ;obtain⟨rfl,kz,OE,c,e,hc,cG,cX⟩:=HQ;simp only[RV]at hv⊢;obtain⟨_,V8⟩:=hv;obtain⟨Vn,cp',zH,hxe,hp,_⟩:=V8 _ hx;simp only[GB.cells.injEq]at hxe;obtain⟨rfl,rfl,rfl⟩:=hxe;have cA:=(aa6.1 hc).1;have nJ:cw (g.cut H.length) w aK:=by
     refine⟨cA,fun hf=>(hr.heap.fo _ hf).2 _ _ hx rfl,fun b x' hb gq=>?_ ⟩;simp only[G.cut]at hb;split at hb
     ·rename_i hbl;have:=hr.heap.inj b H.length x' _ aK hb hx gq rfl;omega
     ·cases hb
    refine⟨aK,0,hp (by simp),fun _=>nJ,cV.kE (vs:=c.toList.take (cs.map V.d).length) (by have:=cX.length;simpa using this) (fun j d' v' hd fY=>?_ ) (fun j v' fY=>?_ )⟩
    ·obtain⟨v2,k1,k2⟩:=cX.get j (u:=.d d') (by simp[hd]);rw[fY]at k1;simp only[aat]at k1;subst k1;simp only[RV]at k2;exact Rd.keeps (fx g w _).keeps _ _ k2
    ·grind [World.cell?]
   |nil=>simp only[RB]at HQ
   |obj aK=>simp only[RB]at HQ
 ·rw[aaH e]at hv⊢;exact RV.agree (fx g w _) _ _ (hT t) hv
theorem Ah:∀(cs:List D),(cs.map V.d).all eC=true|[]=>rfl|_::cs=>by simp only[aaG,aaM,aas];exact⟨rfl,Ah cs⟩
def wI(P:Program)(GL:bR)(m:Nat)(l:List ab)(σ:St)(Q:St->Prop):Prop:=∀(ro:Option Nat)(ops:Array Oper)(k:Nat),fE P ops.toList false (ops.toList.drop k)=some l->∀g0 w0,(∀b,g0.cr b->b<m)->∀g w a,R GL g w a σ->bA g0 w0 g w->wpOpsIn (FR ro) 0 P ops (dr GL g0 w0 fun e bg=>match e with| .normal=>Q bg|_=>False) (List.range' k (ops.size - k)) a w
theorem wI.of{m:Nat}{Q:St->Prop}(h:WO P GL l σ Q):wI P GL m l σ Q:=fun ro ops k hc g0 w0 _ g w a hr he=>cU (dr.ext he) _ _ _ (h ro ops k hc g w a hr)
theorem WO.V9{Q:St->Prop}(h:wI P GL σ.hp.length l σ Q):WO P GL l σ Q:=fun ro ops k hc g w a hr=>h ro ops k hc g w (fun b hb=>hr.heap.cr b hb) g w a hr (bA.refl _ _)
theorem wI.tidy{m:Nat}{bg:St}{Q:St->Prop}(ht:ay m σ bg)(h:wI P GL m l bg Q):wI P GL m l σ Q:=fun ro ops k hc g0 w0 hd g w a hr he=>by obtain⟨g',h1,h2⟩:=ht GL g w a hr;exact h ro ops k hc g0 w0 hd g' w a h1 (h2 g0 w0 hd he)
theorem wI.bw{m:Nat}{o:ab}{l:List ab}{σ bg:St}{Q:St->Prop}{v:V}{wr:Wr}(hg:aB o.guard σ.tm=some true)(he:bw (aW GL σ.tm) σ.hp σ.hp.length o.op=some (v,wr))(hp:σ.put o.dst v (bn σ.hp wr)=some bg)(h:wI P GL m l bg Q):wI P GL m (o::l) σ Q:=by
 intro ro ops k hc g0 w0 hd g w a hr iC;have hl:=bU hc;simp at hl;have hk:k<ops.size:=by omega
 have xD:ops.toList.drop k=ops[k]::ops.toList.drop (k+1):=by rw[abk (by grind)];simp
 rw[xD]at hc;simp only[fE,bS]at hc;split at hc
 ·cases hc
 ·rename_i io xd;split at hc
  ·cases hc
  ·rename_i l' JA;simp at hc;obtain⟨rfl,rfl⟩:=hc;simp only[dU]at xd;split at xd
   ·rename_i gd lx;simp at xd;subst xd;rw[show ops.size - k=(ops.size - (k+1))+1 by omega,acb,wpOpsIn_cons];unfold wpOpIn;have kz:ops[k]? =some ops[k]:=Array.getElem?_eq_getElem hk;simp only[kz];have fp:(aU P ops[k].op).getD .bad≠ .bad:=fun e=>by simp only at he;rw[e]at he;cases he
    rw[aaD (by rw[dj hr lx hg])];obtain⟨g',w',nx,h1,h2,h3,h4,_⟩:=rZ (P:=P) (a:=a) (o:=ops[k]) (cE rfl fp) he hr.ev hr.heap hr.heap.fresh;have oa:=bJ (cE rfl fp);rcases h2 with⟨x,rfl,hx⟩|⟨rfl,rfl⟩
    ·refine OW.of oa h1 ?_;simp only[Oper.uponIn];exact h ro ops (k+1) JA g0 w0 hd g' w' _ (hr.fv h4 h3 hp hx) (iC.trans h4)
    ·refine OW.of oa h1 ?_;simp only[Oper.uponIn];exact h ro ops (k+1) JA g0 w0 hd g' w' _ (hr.fv h4 h3 hp (by simp only[RV])) (iC.trans h4)
   ·grind
theorem CG.cI{x:aX}(ho:l.head?=some ⟨some d,.box k x,none,af⟩)(hx:aW GL tm x=.agg (cs.map .d))(hc:(Nat.beq cs.length k&&Nat.blt d n)=true)(hq:CG P GL (.ops (l.drop 1)) K n (put tm d (.aL cs)) H Q):CG P GL (.ops l) K n tm H Q:=by
 simp only[aas]at hc;have hk:=aav hc.1;refine WO.refs fun hT hH=>?_
 refine WO.head ho (WO.V9 (wI.bw (v:=.ptr H.length k 0) (wr:=some (H.length,.cells (cs.map .d))) (bg:=⟨n,put tm d (.ptr H.length k 0),aR H H.length (.cells (cs.map .d))⟩) rfl ?_ ?_ (wI.tidy (ay.L5 hT hH hk) (wI.of hq))))
 ·simp only[bw];rw[hx];simp only[bP,Ah,aaC,aaW,hc.1,aaw]
 ·simp_all[a8,bn]
theorem CG.Fv{x:aX}{c:D}(ho:l.head?=some ⟨some d,.box k x,none,af⟩)(hx:aW GL tm x=.d c)(hc:(Nat.beq 1 k&&Nat.blt d n)=true)(hq:CG P GL (.ops (l.drop 1)) K n (put tm d (.aL [c])) H Q):CG P GL (.ops l) K n tm H Q:=by
 simp only[aas]at hc;have hk:=aav hc.1;refine WO.refs fun hT hH=>?_
 refine WO.head ho (WO.V9 (wI.bw (v:=.ptr H.length k 0) (wr:=some (H.length,.cells ([c].map .d))) (bg:=⟨n,put tm d (.ptr H.length k 0),aR H H.length (.cells ([c].map .d))⟩) rfl ?_ ?_ (wI.tidy (ay.L5 hT hH hk) (wI.of hq))))
 ·simp only[bw];rw[hx];subst hk;rfl
 ·simp_all[a8,bn]
theorem CG.fS{z:List V}{x:aX}{L6:List Nat}(ho:l.take 2=[⟨some d,.alloc z,none,af⟩,⟨none,.store k (.t d) x,none,L6⟩])(hx:∀u,aW GL (put tm d u) x=.agg (cs.map .d))(hc:(Nat.beq cs.length k&&Nat.beq z.length k&&Nat.blt d n)=true)(hq:CG P GL (.ops (l.drop 2)) K n (put tm d (.aL cs)) H Q):CG P GL (.ops l) K n tm H Q:=by
 simp only[aas]at hc;have hk:=aav hc.1.1;have hz:=aav hc.1.2;obtain⟨o1,o2,r,rfl⟩:∃o1 o2 r,l=o1::o2::r:=by
  match l,ho with
   |[],h=>simp at h
   |[_],h=>simp at h
   |a::b::r,_=>exact⟨a,b,r,rfl⟩
 simp only[ab5,List.take_zero,ack,ab9]at ho;obtain⟨rfl,rfl⟩:=ho;refine WO.refs fun hT hH=>?_
 simp only[ab3,abi]at hq;refine WO.V9 (wI.bw (v:=.ptr H.length k 0) (wr:=some (H.length,.cells z)) (bg:=⟨n,put tm d (.ptr H.length k 0),aR H H.length (.cells z)⟩) rfl (by simp only[bw,hz]) ?_ (wI.bw (v:=.any) (wr:=some (H.length,.cells (cs.map .d))) (bg:=⟨n,put tm d (.ptr H.length k 0),aR H H.length (.cells (cs.map .d))⟩) rfl ?_ ?_ (wI.tidy (ay.L5 hT hH hk) (wI.of hq))))
 ·simp_all[a8,bn]
 ·have kZ:=hx (.ptr H.length k 0);have hp:aW GL (put tm d (.ptr H.length k 0)) (.t d)=.ptr H.length k 0:=by simp[aW,eY]
  show(dL (aR H H.length (.cells z)) k (aW GL (put tm d (.ptr H.length k 0)) (.t d)) (aW GL (put tm d (.ptr H.length k 0)) x)).map _=_;rw[kZ,hp];simp only[dL,gM,bP,Ah,aaC,hz,hc.1.1,aaR,aaW];rw[show Nat.ble k k=true from by simp[abG],show Nat.beq k k=true from aaS k];simp only[aaW,aaw,aaI,aat,aay,true_and,bW.cells.injEq];have:=fQ (cs.map V.d) [] z [] (by simp[hk,hz]);simpa using this
 ·simp only[bn,sy,qv]
theorem CG.L7{rs:List jH}{R:V->ao->Prop}{v':V}(hl:l.length=0)(h:ij rs ⟨n,tm,H⟩=some v')(e:R v' H):CG P GL (.ops l) [] n tm H (mW rs R):=by
 cases l with
  |nil=>exact WO.nil ⟨v',h,e⟩
  |cons o l=>simp at hl
theorem CG.JU{id:Nat}{R:St->Prop}(h:R ⟨n,tm,H⟩):CG P GL (.code .skip) [.block id] n tm H (LQ P GL K Q R):=WC.skip h
theorem CG.BB{i:Nat}(h:CG P GL (.out .normal) K n tm H Q):CG P GL (.out (.exit i)) (.block i::K) n tm H Q:=ez.exit h
end
end Fw
/-
  A loop over a map in a walk: any entry that was not seen.
-/
namespace Fw
open Go
section
variable {P:Program}{GL:bR}
variable {K:List Fr}{n:Nat}{tm:List (Nat×V)}{H:ao}{Q:Ex->St->Prop}
theorem CG.f_{d:Nat}{x:aX}{af:List Nat}{l:List ab}(b m nE:Nat)(seen:List Nat)(es:List (D×V))(ho:l.head?=some ⟨some d,.f_ x,none,af⟩)(h:(aW GL tm x,aA H b,aA H m)=(.iter b m,some (.bM m nE seen),some (.map es)))(hn:es.length=nE)(hd:Nat.blt d n=true)(h1:∀i k v,es[i]? =some (k,v)->i∉seen->CG P GL (.ops (l.drop 1)) K n (put tm d (.tuple [.d (.bool true),.d k,v])) (aR H b (.bM m nE (seen++[i]))) Q)(h2:(∀i,i<nE->i∈seen)->CG P GL (.ops (l.drop 1)) K n (put tm d (.tuple [.d (.bool false)])) H Q):CG P GL (.ops l) K n tm H Q:=by
 simp only[aay]at h;refine WO.head ho (WO.f_ rfl rfl h.1 h.2.1 h.2.2 hn (fun i k v hi hs=>⟨⟨n,put tm d (.tuple [.d (.bool true),.d k,v]),aR H b (.bM m nE (seen++[i]))⟩,?_,h1 i k v hi hs⟩) (fun ha=>⟨⟨n,put tm d (.tuple [.d (.bool false)]),H⟩,?_,h2 ha⟩))
 ·simp_all[a8]
 ·simp_all[a8]
theorem CG.entry{d:Nat}{x:aX}{af:List Nat}{l:List ab}(b m nE i:Nat)(seen:List Nat){es:List (D×V)}{k:D}{v:V}(hi:es[i]? =some (k,v))(ho:l.head?=some ⟨some d,.entry x,none,af⟩)(h:(aW GL tm x,aA H b,aA H m)=(.iter b m,some (.bM m nE (seen++[i])),some (.map es)))(hn:es.length=nE)(hd:Nat.blt d n=true)(hq:CG P GL (.ops (l.drop 1)) K n (put tm d (.tuple [.d k,v])) H Q):CG P GL (.ops l) K n tm H Q:=by simp only[aay]at h;refine CG.fZ ho rfl (v:=.tuple [.d k,v]) (wr:=none) ?_ rfl hd hq;simp only[bw,h.1,h.2.1,h.2.2,aaS,hn,aa',aaw,List.getLast?_append,List.getLast?_singleton,Option.some_or,hi]
theorem CG.L8{f:aX}{ps:List Nat}{ca cb:Code}{zP:FuncId}{first cap:List V}(uH:List (Nat×V))(R:ao->Prop)(hw:∀s,get uH s=get tm s\/get uH s=.any)(hf:aW GL tm f=.func zP first cap)(hit:WF P GL zP (first++[.gJ H.length]++cap) (aR H H.length (.loop n uH ps ca cb .ready)) (fun _ H'=>R H'))(L4:∀H',R H'->∃n1 kI mz mA mB,aA H' H.length=some (.loop n1 kI mz mA mB .ready)/\CG P GL (.out .normal) K n tm (aR H' H.length (.loop n1 kI mz mA mB .over)) Q):CG P GL (.code (.dC f ps ca cb)) K n tm H Q:=by refine WC.dC (σ:=⟨n,tm,H⟩) uH hw hf (hit.mono ?_ );intro v H' hr;obtain⟨n1,kI,mz,mA,mB,h1,h2⟩:=L4 H' hr;exact⟨n1,kI,mz,mA,mB,.ready,h1,h2⟩
end
variable {n:Nat}{seen:List Nat}
def j6(n:Nat)(seen:List Nat):Prop:=seen.Nodup/\∀i∈seen,i<n
theorem j6.snoc{i:Nat}(h:j6 n seen)(hi:i<n)(hn:i∉seen):j6 n (seen++[i]):=by
 refine⟨List.nodup_append.2 ⟨h.1,by simp,?_ ⟩,?_⟩
 ·intro a ha b hb;simp at hb;subst hb;rintro rfl;exact hn ha
 ·intro j hj;rcases aa8.1 hj with hj|hj
  ·exact h.2 j hj
  ·simp at hj;omega
theorem j6.perm(h:j6 n seen)(ha:∀i,i<n->i∈seen):seen.Perm (List.range n):=by
 refine(List.perm_ext_iff_of_nodup h.1 List.nodup_range).2 fun i=>?_
 rw[abn];exact⟨h.2 i,ha i⟩
theorem j6.le(h:j6 n seen):seen.length<=n:=by have:seen.length<=(List.range n).length:=List.Nodup.length_le_of_subset h.1 (fun i hi=>abn.2 (h.2 i hi));simpa using this
end Fw
/-
  An own row known as data from here on, in a slot and in the boxes that speak of it.
-/
namespace Fw
open Go
theorem ay.PX{α:Type}(aa:α->List D)(as:List α){m n sz:Nat}{tm aZ:List (Nat×V)}{H H':ao}(b s:Nat)(cG:∀a,(aa a).length=sz)(hs:get tm s=.sl b (as.length*sz) 0 as.length sz)(hH:aA H b=some (aJ aa as))(hr:ja b (.sl b (as.length*sz) 0 as.length sz) (.d (.list (as.map aa))) 0 H H')(e1:put (sS b tm) s (.d (.list (as.map aa)))=aZ):ay m ⟨n,tm,H⟩ ⟨n,aZ,H'⟩:=by
 intro GL g w a ur;have hle:Nat.ble (0+as.length*sz) (as.length*sz)=true:=by simp_all
 have ho:bV b (as.flatMap aa) (.sl b (as.length*sz) 0 as.length sz)=.d (.list (as.map aa)):=by simp only[bV,aaS,aaw,bK cG,hle,aa',abi,i_ cG]
 have hf:=sX ho H H' 0 hr;have LX:la b ⟨n,tm,H⟩=some ⟨n,tm.map fun p=>(p.1,bV b (as.flatMap aa) p.2),H'⟩:=by unfold la;rw[sT hH];simp only[hf];rw[Af rfl H H' 0 hr (mO ur.heap),aaw]
 refine(ay.trans (ay.lB LX) (ay.eH fun t=>?_ )) GL g w a ur;subst e1;rw[iE (bV b (as.flatMap aa)) (by simp only[bV]),eY];by_cases ht:t=s
 ·subst ht;rw[aaD rfl,hs];left;exact ho.symm
 ·rw[aaH ht,kT];cases hn:eA b (get tm t)with
   |true=>left;rw[aaw,dR _ hn]
   |false=>right;rfl
end Fw
/-
  A literal of bytes that is marked as a string's bytes are: the literal and its conversion, as one step.
-/
namespace Fw
open Go
section
variable {P:Program}{GL:bR}
variable {l:List ab}
theorem px{ro:Option Nat}{o:ab}{ops:Array Oper}{k:Nat}(hc:fE P ops.toList false (ops.toList.drop k)=some (o::l))(hg:o.guard=none):∃hk:k<ops.size,(aU P ops[k].op).getD .bad=o.op/\ops[k].dst=o.dst/\fE P ops.toList false (ops.toList.drop (k+1))=some l/\∀(Q:Exit->Act->World->Prop)(a:Act)(w:World),OW ro P ops[k] a w (wpOpsIn (FR ro) 0 P ops Q (List.range' (k+1) (ops.size - (k+1)))) Q->wpOpsIn (FR ro) 0 P ops Q (List.range' k (ops.size - k)) a w:=by
 have hl:=bU hc;simp at hl;have hk:k<ops.size:=by omega
 have xD:ops.toList.drop k=ops[k]::ops.toList.drop (k+1):=by rw[abk (by grind)];simp
 rw[xD]at hc;simp only[fE,bS]at hc;split at hc
 ·cases hc
 ·rename_i io xd;split at hc
  ·cases hc
  ·rename_i l' JA;simp at hc;obtain⟨rfl,rfl⟩:=hc;simp only[dU]at xd;split at xd
   ·rename_i gd lx;simp at xd;subst xd;refine⟨hk,rfl,rfl,JA,fun Q a w key=>?_ ⟩;rw[show ops.size - k=(ops.size - (k+1))+1 by omega,acb,wpOpsIn_cons];unfold wpOpIn;have kz:ops[k]? =some ops[k]:=Array.getElem?_eq_getElem hk;simp only[kz];simp only at hg;subst hg;have hw:Region.wanted ops[k] (yielded ops a.tmps)=true:=by
     unfold eE at lx;unfold Region.wanted;cases ho:ops[k].guard with
      |none=>rfl
      |some p=>obtain⟨j,nH⟩:=p;simp only[ho]at lx;split at lx<;>simp at lx
    rw[aaD hw];exact key
   ·cases xd
theorem C5{op:Op}{x:aX}(h:aU P op=some (.od x)):∃(s:TypeId)(x':Operand)(e:TypeId),op=.convert s s x'/\aw x'=some x/\P.underlying s=some (.slice e)/\P.underlying e=some (.int .u8):=by
 cases op with
  |convert s d x'=>
   simp only[aU]at h;split at h
   ·cases h
   ·split at h<;>cases h
   ·split at h<;>cases h
   ·rename_i e e' y h1 h2 h3;split at h
    ·rename_i h4 h5;simp only[aat,jG.od.injEq]at h;obtain rfl:s=d:=by simpa using h4
     subst h;rw[h1]at h2;simp only[aat,TypeDesc.slice.injEq]at h2;subst h2;exact⟨s,x',e,rfl,h3,h1,h5⟩
    ·cases h
   ·cases h
  |makeFunc fn a b=>exfalso;cases fn<;>(grind[aU])
  |makeMap t r=>exfalso;cases r<;>(grind[aU])
  |slice t x lo hi mx=>exfalso;cases mx<;>cases lo<;>cases hi<;>(simp only[aU]at h;(repeat' split at h)<;>simp at h)
  |call c=>exfalso;simp only[aU,dq]at h;(repeat' split at h)<;>simp at h
  |_=>exfalso;simp only[aU]at h;(repeat' split at h)<;>simp at h
theorem WO.mark{len d1 d2:Nat}{z cs:List V}{ps:List (Nat×Nat×aX)}{PY L6:List Nat}{σ bg:St}{Q:St->Prop}{bs:List UInt8}(hf:eR (aW GL σ.tm) z ps=some cs)(nI:cs=bs.map fun b=>V.d (.int .u8 b.toNat))(hlen:bs.length=len)(h0:0<len)(hp:(σ.put (some d1) .any σ.hp).bind (fun s=>s.put (some d2) (.full (bs.map fun b=>[.int .u8 b.toNat])) σ.hp)=some bg)(h:WO P GL l bg Q):WO P GL (⟨some d1,.mkSlice 1 len z ps,none,PY⟩::⟨some d2,.od (.t d1),none,L6⟩::l) σ Q:=by
 intro ro ops k hc g w a hr;obtain⟨Uc,ho1,OM,VR,hu1⟩:=px (ro:=ro) hc rfl;obtain⟨pX,ho2,Hm,HO,Jz⟩:=px (ro:=ro) VR rfl;have PZ:=cE ho1 (by simp);have LI:=cE ho2 (by simp);refine hu1 _ _ _ ?_;obtain⟨t,e,zz,qs,e1,e2,e3,hz,e5,KT,h3,e6,rfl⟩:=oJ PZ;obtain⟨c',h6,h7,tM,ep⟩:=lF (a:=a) (w:=w) (g:=g) e1 e2 e3 hz e5 KT h3 e6 hf hr.ev;refine OW.of (bJ PZ) ep ?_;simp only[Oper.uponIn];rw[OM];refine Jz _ _ _ ?_;obtain⟨s,x',e',f1,f2,f3,f4⟩:=C5 LI;have hxt:x'=.tmp d1:=by cases x'<;>simp_all[aw]
 subst hxt;simp only[St.put]at hp;have zk:Nat.blt d1 σ.n=true:=by
  cases hb:Nat.blt d1 σ.n with
   |true=>rfl
   |false=>rw[hb]at hp;simp at hp
 rw[zk]at hp;simp only[aaw,Option.bind_some]at hp;have ev2:(a.put (some d1) (.slice (some ⟨w.heap.size,0,none⟩) len len)).eval (.tmp d1)=.slice (some ⟨w.heap.size,0,none⟩) len len:=by
  have h1:d1<a.tmps.size:=by
   have:=hr.size;have h2:d1<σ.n:=by simpa using zk
   omega
  simp[Act.eval,Act.put,h1]
 have P0:(execOp (a.put (some d1) (.slice (some ⟨w.heap.size,0,none⟩) len len)).eval ops[k+1]).run P (w.alloc (.cells c' e))=.ok (.value (.slice (some ⟨w.heap.size,0,none⟩) len len)) ((w.alloc (.cells c' e)).freeze ⟨w.heap.size,c'.size,none⟩ 1):=by have hm:=run_mark (P:=P) c' e w;simp only[execOp,f1,ev2,convert,Sem.run_bind,run_underlying f3,run_underlying f4,Result.andThen_ok,beq_self_eq_true];erw [hm];rfl
 refine OW.of (bJ LI) P0 ?_;simp only[Oper.uponIn];rw[Hm];have iC:=bA.uy (w:=w) hr.heap (.cells c' e) c'.size 1;have gq:∀b y k,g.γ b=some y->y.own=some k->((w.alloc (.cells c' e)).freeze ⟨w.heap.size,c'.size,none⟩ 1).heap[k]? =w.heap[k]? :=by intro b y k hy hk;obtain⟨_,zb,_,h3⟩:=hr.heap.live b y hy;have:=h3.lt k hk;rw[kD (by omega)];exact ct w _ this
 have xF:=hr.heap.ext iC gq;have r1:R GL g _ (a.put (some d1) (.slice (some ⟨w.heap.size,0,none⟩) len len)) ⟨σ.n,put σ.tm d1 .any,σ.hp⟩:=hr.fv iC xF (v:=.any) (by simp only[St.put,zk,aaw]) (by simp only[RV]);have hv:RV g ((w.alloc (.cells c' e)).freeze ⟨w.heap.size,c'.size,none⟩ 1) (.full (bs.map fun b=>[.int .u8 b.toNat])) (.slice (some ⟨w.heap.size,0,none⟩) len len):=by
  have aak:=h6.length;have xC:∀j,j<bs.length->((w.alloc (.cells c' e)).freeze ⟨w.heap.size,c'.size,none⟩ 1).cell? ⟨w.heap.size,j,none⟩=(bs[j]? ).map fun x=>Value.int .u8 x.toNat:=by
   intro j hj;have cA:w.heap.size<(w.alloc (.cells c' e)).heap.size:=by simp
   have Ve:=bf w (.cells c' e);have Lh:∃fr,((w.alloc (.cells c' e)).freeze ⟨w.heap.size,c'.size,none⟩ 1).heap[w.heap.size]? =some (.cells c' e fr):=by unfold World.freeze;rw[aaH (by omega)];simp only[abB,abJ];simp_all
   obtain⟨fr,Lh⟩:=Lh;simp only[World.cell?,Lh];obtain⟨v,L9,xq⟩:=aM.get j h6 (u:=.d (.int .u8 (bs[j]).toNat)) (by rw[nI];simp[hj]);simp only[RV,Rd]at xq;subst xq;simpa[hj]using L9
  simp only[RV,Rd];refine⟨.inr ⟨w.heap.size,0,len,1,by simp[hlen],by simp[hlen],fun _=>⟨by rw[lJ];simp,fun hf=>by have:=(hr.heap.fo _ hf).1;omega,fun c y hy hk=>?_ ⟩,eD.eN fun i e' OO=>?_ ⟩,some ⟨w.heap.size,0,none⟩,by rw[aaC,hlen]⟩
  ·obtain⟨_,z,_,h3⟩:=hr.heap.live c y hy;have:=h3.lt _ hk;omega
  ·simp only[aa9,aaB]at OO;obtain⟨c,hc,rfl⟩:=OO;have hi:i<bs.length:=(aaA.1 hc).1;simp_all[cV,aaR,abS,Rd]
 have r2:=r1.fv (bg:=bg) (dst:=some d2) (bA.refl _ _) xF (by simp only[St.put];exact hp) hv;have V':=h ro ops (k+1+1) HO g _ _ r2;exact cU (dr.ext iC) _ _ _ V'
theorem CG.mark{d1 d2 len:Nat}{z:List V}{ps:List (Nat×Nat×aX)}{PY L6:List Nat}{K:List Fr}{n:Nat}{tm:List (Nat×V)}{H:ao}{Q:Ex->St->Prop}(bs:List UInt8)(ho:(l.head?,(l.drop 1).head?)=(some ⟨some d1,.mkSlice 1 len z ps,none,PY⟩,some ⟨some d2,.od (.t d1),none,L6⟩))(hf:eR (aW GL tm) z ps=some (bs.map fun b=>V.d (.int .u8 b.toNat)))(hl:(Nat.beq bs.length len&&Nat.blt 0 len&&Nat.blt d1 n&&Nat.blt d2 n)=true)(hq:CG P GL (.ops (l.drop 2)) K n (put (put tm d1 .any) d2 (.full (bs.map fun b=>[.int .u8 b.toNat]))) H Q):CG P GL (.ops l) K n tm H Q:=by
 simp only[aay]at ho;simp only[aas]at hl;obtain⟨⟨⟨h1,h2⟩,h3⟩,h4⟩:=hl;match l,ho with
  |o1::o2::l,ho=>simp only[List.head?_cons,ab3,abi,aat]at ho;obtain⟨rfl,rfl⟩:=ho;exact WO.mark hf rfl (aav h1) (by simpa using h2) (by simp only[St.put,h3,h4,aaw,Option.bind_some]) hq
  |[],ho=>simp at ho
  |[o1],ho=>simp at ho
end
end Fw
/-
  Rows of bytes, and new rows of open length.
-/
namespace Fw
open Go
section
variable {P:Program}{GL:bR}
variable {H:ao}{af:List Nat}{l:List ab}{n d bytes:Nat}{tm:List (Nat×V)}{α:Type}{K:List Fr}{Q:Ex->St->Prop}{y:aX}
def bY(b:UInt8):List D:=[.int .u8 b.toNat]
theorem JV(f:α->D)(l:List α):(l.flatMap fun a=>[f a])=l.map f:=by
 induction l with
  |nil=>rfl
  |cons a l ih=>simp[aaT,ih]
theorem CG.Uv(aa:α->List D)(a:α){c:D}{k:Nat}{x:aX}{g:Option (Nat×Bool)}(ha:aa a=[c])(hk:0<k)(ho:l.head?=some ⟨some d,.nb 1 bytes [.d c] x y,g,af⟩)(hc:(aB g tm,aW GL tm x,aW GL tm y,Nat.blt d n)=(some true,.d (.int .i64 (.ofNat k)),.d (.int .i64 (.ofNat k)),true))(hr:k*(bytes+1)<=1099511627776)(hq:CG P GL (.ops (l.drop 1)) K n (put tm d (.sl H.length ((List.replicate k a).length*1) 0 (List.replicate k a).length 1)) (aR H H.length (aJ aa (List.replicate k a))) Q):CG P GL (.ops l) K n tm H Q:=by
 simp only[aay]at hc;have hb:(Nat.ble k k&&Nat.ble (k*(bytes+1)) cf&&Nat.ble k cf&&[V.d c].all eC&&Nat.beq [V.d c].length 1&&Nat.blt 0 1)=true:=by
  have h2:cf=1099511627776:=by decide
  have h3:k<=k*(bytes+1):=abo _ (by omega);simp[eC,h2,hr];omega
 have vL:(List.range (k*1)).map (fun i=>[V.d c].getD (i%1) .any)=((List.replicate k a).flatMap aa).map .d:=by
  have h1:∀m,(List.range m).map (fun i=>[V.d c].getD (i%1) .any)=List.replicate m (V.d c):=by intro m;rw[List.eq_replicate_iff];refine⟨by simp,fun x hx=>?_ ⟩;simp only[abg,abn]at hx;obtain⟨i,_,rfl⟩:=hx;simp[Nat.mod_one]
  have h2:∀m,((List.replicate m a).flatMap aa).map V.d=List.replicate m (V.d c):=by
   intro m;induction m with
    |zero=>rfl
    |succ m ih=>rw[abP,aaT,abl,ih,ha];rfl
  rw[h1,h2,abS]
 have fp:aJ aa (List.replicate k a)=.cells (((List.replicate k a).flatMap aa).map .d):=by
  cases k with
   |zero=>omega
   |succ m=>unfold aJ j1;rw[abP,aaT,ha];rfl
 refine CG.fZ ho hc.1 (v:=.sl H.length ((List.replicate k a).length*1) 0 (List.replicate k a).length 1) (wr:=some (H.length,aJ aa (List.replicate k a))) ?_ rfl hc.2.2.2 hq;simp only[bw,hc.2.1,hc.2.2.1,dh];rw[aaD (by exact Int.natCast_nonneg k)];simp only[aba,acD];rw[hb,aaw,vL,fp];simp
theorem s9(H:ao)(s:List UInt8):bE H 1 (.d (.str s))=some ((s.flatMap bY).map .d):=by simp only[bE,aaS,aaw,aat];unfold bY;rw[JV (fun b:UInt8=>D.int .u8 b.toNat),abX];rfl
theorem nX{aa:α->List D}{l:List α}{b sz:Nat}(k:Nat)(h0:0<sz)(cG:∀a,(aa a).length=sz)(hH:aA H b=some (aJ aa l))(hk:k<=l.length)(hl:l≠[]):bE H sz (.sl b (l.length*sz) 0 k sz)=some (((l.take k).flatMap aa).map .d):=by
 have hc:aJ aa l=.cells ((l.flatMap aa).map .d):=by
  cases l with
   |nil=>exact absurd rfl hl
   |cons a r=>
    unfold aJ j1;have:(aa a)≠[]:=fun h=>by have:=cG a;rw[h]at this;simp at this;omega
    cases he:aa a with
     |nil=>exact absurd he this
     |cons c cs=>simp[aaT,he]
 simp only[bE,aaS,aaw,hH,hc,aaC,bK cG,aaV,aaR];rw[abd (aa1 _ hk),aaw,abi];have:(l.take k).flatMap aa=(l.flatMap aa).take (k*sz):=by
  have h1:l.flatMap aa=(l.take k).flatMap aa++(l.drop k).flatMap aa:=by rw[←ab4,ach]
  have h2:((l.take k).flatMap aa).length=k*sz:=by rw[bK cG,abz,Nat.min_eq_left hk]
  rw[h1,←h2,List.take_left'];rfl
 rw[this,List.map_take]
theorem CG.P'(aa:α->List D)(as ys:List α){g:Option (Nat×Bool)}{sz:Nat}{x:aX}(yv:V)(cG:∀a,(aa a).length=sz)(h0:0<sz)(D4:ys≠[])(ho:l.head?=some ⟨some d,.append sz bytes x y,g,af⟩)(hc:(aB g tm,aW GL tm x,aW GL tm y,Nat.blt d n)=(some true,.full (as.map aa),yv,true))(DO:bE H sz yv=some ((ys.flatMap aa).map .d))(hr:(as.length+ys.length)*sz*(bytes+1)<=1099511627776)(hq:CG P GL (.ops (l.drop 1)) K n (put tm d (.sl H.length ((as++ys).length*sz) 0 (as++ys).length sz)) (aR H H.length (aJ aa (as++ys))) Q):CG P GL (.ops l) K n tm H Q:=by
 simp only[aay]at hc;have hy:bE H sz (aW GL tm y)=some ((ys.flatMap aa).map .d):=by rw[hc.2.2.1];exact DO
 have jj:(as.map aa).all (fun e=>Nat.beq e.length sz)=true:=by simp_all
 have N3:∀l:List α,(l.map aa).flatten.length=l.length*sz:=fun l=>by rw[←bK cG l,List.flatMap_def]
 have hs0:Nat.beq sz 0=false:=by
  cases sz with
   |zero=>omega
   |succ n=>rfl
 have hlen:((ys.flatMap aa).map V.d).length=ys.length*sz:=by rw[aaC,bK cG]
 have hm:Nat.beq (((ys.flatMap aa).map V.d).length%sz) 0=true:=by rw[hlen,Nat.mul_mod_left];rfl
 have kz:((ys.flatMap aa).map V.d).all eC=true:=by simp[eC]
 have fp:((ys.flatMap aa).map V.d).isEmpty=false:=by
  cases h:(ys.flatMap aa).map V.d with
   |nil=>rw[h]at hlen;simp only[aar]at hlen;have:0<ys.length*sz:=Nat.mul_pos (by cases ys with|nil=>exact absurd rfl D4|cons _ _=>simp) h0;omega
   |cons _ _=>rfl
 have hb:Nat.ble (((as.map aa).flatten.length+((ys.flatMap aa).map V.d).length)*(bytes+1)) cf=true:=by
  rw[N3,hlen,←abI];have h2:cf=1099511627776:=by decide
  simp[h2,hr]
 have rW:((ys.flatMap aa).map V.d).length / sz=ys.length:=by rw[hlen,Nat.mul_div_cancel _ h0]
 have vL:aJ aa (as++ys)=.cells ((as.map aa).flatten.map .d++(ys.flatMap aa).map .d):=by
  unfold aJ j1;rw[ab4,abl,←List.flatMap_def];cases h:(ys.flatMap aa).map V.d with
   |nil=>rw[h]at fp;cases fp
   |cons _ _=>cases(as.flatMap aa).map V.d<;>rfl
 refine CG.fZ ho hc.1 (v:=.sl H.length ((as++ys).length*sz) 0 (as++ys).length sz) (wr:=some (H.length,aJ aa (as++ys))) ?_ rfl hc.2.2.2 hq;simp only[bw,hy,hc.2.1,dM,hs0,hm,kz,jj,fp,hb,ab0,Bool.not_false,aa',aaw,aaK,rW];rw[N3,hlen,←abI,vL,aap,aaC]
theorem CG.ud(aa:α->List D)(as ys:List α)(b:Nat)(yv:V){g:Option (Nat×Bool)}{sz:Nat}{x:aX}(cG:∀a,(aa a).length=sz)(h0:Nat.blt 0 sz=true)(ho:l.head?=some ⟨some d,.append sz bytes x y,g,af⟩)(hc:(aB g tm,aW GL tm x,aW GL tm y,aA H b,Nat.blt d n)=(some true,.sl b (as.length*sz) 0 as.length sz,yv,some (aJ aa as),true))(DO:bE H sz yv=some ((ys.flatMap aa).map .d))(hr:(as.length+ys.length)*sz*(bytes+1)<=1099511627776)(hq:CG P GL (.ops (l.drop 1)) K n (put tm d (.sl b ((as++ys).length*sz) 0 (as++ys).length sz)) (aR H b (aJ aa (as++ys))) Q):CG P GL (.ops l) K n tm H Q:=by simp only[aay]at hc;exact CG.Ik aa as ys cG h0 ho hc.1 hc.2.1 hc.2.2.2.1 (by rw[hc.2.2.1];exact DO) hr hc.2.2.2.2 rfl hq
theorem s_:∀s:List UInt8,kx ((s.flatMap bY).map .d)=some s
 |[]=>rfl
 |b::s=>by
  have ih:=s_ s;rw[aaT,abl];show kx (V.d (.int .u8 b.toNat)::(s.flatMap bY).map V.d)=_;have e:UInt8.ofNat (Int.toNat (b.toNat:Int))=b:=by rw[acD];exact UInt8.ofNat_toNat
  rw[kx,ih];simp only[e]
theorem CG.Im(s:List UInt8){b:Nat}{x:aX}{g:Option (Nat×Bool)}(hs:s≠[])(ho:l.head?=some ⟨some d,.same x,g,af⟩)(hc:(aB g tm,aW GL tm x,aA H b,Nat.blt d n)=(some true,.sl b (s.length*1) 0 s.length 1,some (aJ bY s),true))(hq:CG P GL (.ops (l.drop 1)) K n (put tm d (.d (.str s))) H Q):CG P GL (.ops l) K n tm H Q:=by simp only[aay]at hc;have h:=nX (l:=s) (aa:=bY) (H:=H) (b:=b) s.length Nat.one_pos (fun _=>rfl) hc.2.2.1 (aaE _) hs;rw[abm]at h;refine CG.fZ ho hc.1 (v:=.d (.str s)) (wr:=none) ?_ rfl hc.2.2.2 hq;simp only[bw,hc.2.1,h,s_]
theorem CG.ta{g:Option (Nat×Bool)}{f:FuncId}{first cap:List V}{x:aX}{args:List aX}{vs:List V}{R:V->ao->Prop}(h:WF P GL f vs H R)(ho:l.head?=some ⟨some d,.b_ x args,g,af⟩)(hc:(aB g tm,aW GL tm x,first++bQ (aW GL tm) args++cap,Nat.blt d n)=(some true,.func f first cap,vs,true))(hq:∀v H',R v H'->CG P GL (.ops (l.drop 1)) K n (put tm d v) H' Q):CG P GL (.ops l) K n tm H Q:=by simp only[aay]at hc;obtain⟨hg,hx,ha,hd⟩:=hc;subst ha;refine WO.head ho (WO.b_ rfl hx hg (h.mono ?_ ));intro v' H2 hr;refine⟨⟨n,put tm d v',H2⟩,?_,hq v' H2 hr⟩;simp_all[a8]
theorem CG.py(w:List UInt8){u:V}{a x:aX}{g:Option (Nat×Bool)}{R:V->ao->Prop}(ho:l.head?=some ⟨none,.store 1 a x,g,af⟩)(hl:(l.drop 1).length=0)(hc:(aB g tm,aW GL tm a,aW GL tm x,H)=(some true,.ptr 0 1 0,.d (.str w),[some (.cells [u])]))(hq:R (.tuple []) [some (.cells [.d (.str w)])]):CG P GL (.ops l) [] n tm H (mW [] R):=by
 simp only[aay]at hc;obtain⟨h1,h2,h3,rfl⟩:=hc;refine CG.yr (v:=.any) (wr:=some (0,.cells [.d (.str w)])) ho h1 ?_ rfl ?_
 ·simp[bw,h2,h3,dL,aA,bP,eC,putCells];rfl
 ·exact CG.L7 hl rfl hq
end
end Fw
/-
  Lists of strings that are known, or of which a bound is known.
-/
namespace Fw
open Go
def dN:D->Nat| .str s=>s.length| .sN n=>n|_=>0
def Cg:D->Bool| .str _=>true| .sN _=>true|_=>false
theorem eD.sD{w:World}{im:Nat->Prop}{aK sz:Nat}:∀{l:List D}{off:Nat},(∀d∈l,Cg d=true)->eD w im aK off sz (l.map fun d=>[d])->∃ss:List (List UInt8),nt ss (l.map dN)/\eD w im aK off sz (ss.map fun s=>[.str s])
 |[],off,_,h=>⟨[],trivial,by simp only[aa5,eD]⟩
 |d::l,off,hs,h=>by
  simp only[aaG,eD,cV]at h;obtain⟨h1,⟨⟨v,h2,h3⟩,-⟩,h4⟩:=h;obtain⟨ss,k1,k2⟩:=eD.sD (fun x hx=>hs x (aaZ _ hx)) h4;have hd:=hs d (by simp);have:∃s:ByteArray,v=.string s/\s.data.toList.length<=dN d:=by
   cases d<;>simp[Cg]at hd
   ·simp only[Rd]at h3;obtain⟨s,rfl,rfl⟩:=h3;exact⟨s,rfl,aaE _⟩
   ·simp only[Rd]at h3;exact h3
  obtain⟨s,rfl,h5⟩:=this;refine⟨s.data.toList::ss,⟨h5,k1⟩,?_⟩;simp only[aaG,eD,cV];exact⟨h1,⟨⟨_,h2,by simp only[Rd];exact⟨s,rfl,rfl⟩⟩,trivial⟩,k2⟩
theorem RV.sDL{g:G}{w:World}{l:List D}{v:Value}(hs:∀d∈l,Cg d=true)(h:RV g w (.d (.list (l.map fun d=>[d]))) v):∃ss:List (List UInt8),nt ss (l.map dN)/\RV g w (.d (.list (ss.map fun s=>[.str s]))) v:=by
 simp only[RV,Rd]at h⊢;rcases h with⟨e,h⟩|⟨aK,off,cap,sz,h1,h2,h3,h4⟩
 ·rw[acu]at e;subst e;exact⟨[],trivial,.inl ⟨rfl,h⟩⟩
 ·obtain⟨ss,k1,k2⟩:=eD.sD hs h4;have hl:=k1.len;rw[aaC]at hl;refine⟨ss,k1,.inr ⟨aK,off,cap,sz,by simpa[hl]using h1,by simpa[hl]using h2,fun hn=>h3 (fun e=>hn ?_ ),k2⟩⟩;rw[acu]at e⊢;subst e;exact abT hl
theorem u9:∀ns:List Nat,nt (ns.map fun _=>[]) ns|[]=>trivial|n::ns=>⟨aaO _,u9 ns⟩
end Fw
/-
  Places left free among the boxes; the head of an array as a slice.
-/
namespace Fw
open Go
theorem ay.pad{m n:Nat}{tm:List (Nat×V)}{H:ao}:ay m ⟨n,tm,H⟩ ⟨n,tm,H++[none]⟩:=fun _ g _ _ h=>⟨g,⟨h.defers,h.size,h.tmps,h.heap.pad 1,h.cB⟩,fun _ _ _ he=>he⟩
section
variable {P:Program}{GL:bR}
theorem CG.Io(l0:List UInt8)(b h p N:Nat){d:Nat}{g:Option (Nat×Bool)}{af:List Nat}{l:List ab}{K:List Fr}{n:Nat}{tm:List (Nat×V)}{H:ao}{Q:Ex->St->Prop}{x k:aX}(hN:l0.length=N)(hp:p<=N)(h0:0<N)(hh:h=N)(ho:l.head?=some ⟨some d,.lD N 1 x none (some k),g,af⟩)(hc:(aB g tm,aW GL tm x,aA H b,dh (aW GL tm k),Nat.blt d n)=(some true,.ptr b h 0,some (aJ bY l0),some p,true))(hq:CG P GL (.ops (l.drop 1)) K n (put tm d (.sl b (l0.length*1) 0 p 1)) H Q):CG P GL (.ops l) K n tm H Q:=by
 simp only[aay]at hc;subst hh;subst hN;have hb:bounds (aW GL tm) l0.length none (some k)=some (0,p):=qq rfl hc.2.2.2.1 (aaO _) hp;have hl:=qt (aa:=bY) (sz:=1) (fun _=>rfl) hc.2.2.1;rw[abS]at hl;have HO:(eL H b l0.length&&Nat.ble (0+l0.length*1) l0.length&&Nat.blt 0 l0.length)=true:=by rw[hl,aaR,abS];simp;omega
 refine CG.fZ ho hc.1 (v:=.sl b (l0.length*1) 0 p 1) (wr:=none) ?_ rfl hc.2.2.2.2 hq;simp only[bw,hc.2.1,HO,aaw,hb,aaI,xn];have:(Nat.beq 0 p&& !Nat.beq 0 0)=false:=by simp
 rw[this,aaK];simp
theorem CG.Ai(w u:V)(hs:ao){a x:aX}{g:Option (Nat×Bool)}{af:List Nat}{l:List ab}{n:Nat}{tm:List (Nat×V)}{H:ao}{R:V->ao->Prop}(ho:l.head?=some ⟨none,.store 1 a x,g,af⟩)(hl:(l.drop 1).length=0)(hc:(aB g tm,aW GL tm a,aW GL tm x,H)=(some true,.ptr 0 1 0,w,some (.cells [u])::hs))(hw:bP w=[w])(zm:eC w=true)(hq:R (.tuple []) (some (.cells [w])::hs)):CG P GL (.ops l) [] n tm H (mW [] R):=by
 simp only[aay]at hc;obtain⟨h1,h2,h3,rfl⟩:=hc;refine CG.yr (v:=.any) (wr:=some (0,.cells [w])) ho h1 ?_ rfl ?_
 ·simp[bw,h2,h3,dL,aA,hw,zm,putCells];rfl
 ·exact CG.L7 hl rfl hq
end
end Fw
/-
  A literal of bytes and its conversion, the row in full.
-/
namespace Fw
open Go
variable {P:Program}{GL:bR}
variable {l:List ab}{tm:List (Nat×V)}{n base i d m:Nat}{af:List Nat}{H Hp:ao}{y:aX}{Q:List (Nat×V)->Prop}{a b:List UInt8}{f:FuncId}
theorem CG.JW{d1 d2 len:Nat}{z:List V}{ps:List (Nat×Nat×aX)}{PY L6:List Nat}{K:List Fr}{Q:Ex->St->Prop}(bs:List UInt8)(rs:List (List D))(ho:(l.head?,(l.drop 1).head?)=(some ⟨some d1,.mkSlice 1 len z ps,none,PY⟩,some ⟨some d2,.od (.t d1),none,L6⟩))(hf:eR (aW GL tm) z ps=some (bs.map fun b=>V.d (.int .u8 b.toNat)))(hl:(Nat.beq bs.length len&&Nat.blt 0 len&&Nat.blt d1 n&&Nat.blt d2 n)=true)(hr:bs.map (fun b=>[D.int .u8 b.toNat])=rs)(hq:CG P GL (.ops (l.drop 2)) K n (put (put tm d1 .any) d2 (.full rs)) H Q):CG P GL (.ops l) K n tm H Q:=by subst hr;exact CG.mark bs ho hf hl hq
theorem AO.bm{g:Option (Nat×Bool)}{x:aX}(hl:a.length+b.length<=4611686018427387904)(ho:l.head?=some ⟨some d,.bin .add x y,g,af⟩)(hc:(aB g tm,aW GL tm x,aW GL tm y)=(some true,.d (.str a),.d (.str b)))(hq:AO P GL base Hp (i+1) (l.drop 1) (put tm d (.d (.str (a++b)))) Q):AO P GL base Hp i l tm Q:=by simp only[aay]at hc;have:a.length+b.length<=iP:=hl;refine AO.fZ ho hc.1 rfl (v:=.d (.str (a++b))) ?_ hq;grind[bw,pT,zr]
theorem AO.C6{g:Option (Nat×Bool)}{x:aX}(hl:a.length+n<=4611686018427387904)(ho:l.head?=some ⟨some d,.bin .add x y,g,af⟩)(hc:(aB g tm,aW GL tm x,aW GL tm y)=(some true,.d (.str a),.d (.sN n)))(hq:AO P GL base Hp (i+1) (l.drop 1) (put tm d (.d (.sN (a.length+n)))) Q):AO P GL base Hp i l tm Q:=by
 simp only[aay]at hc;have h:Nat.ble (a.length+n) iP=true:=by rw[abG];exact hl
 refine AO.fZ ho hc.1 rfl (v:=.d (.sN (a.length+n))) ?_ hq;simp only[bw,hc.2.1,hc.2.2,pT,oh,h,aaw,aaI]
theorem AO.C7{g:Option (Nat×Bool)}{x:aX}(hl:n+b.length<=4611686018427387904)(ho:l.head?=some ⟨some d,.bin .add x y,g,af⟩)(hc:(aB g tm,aW GL tm x,aW GL tm y)=(some true,.d (.sN n),.d (.str b)))(hq:AO P GL base Hp (i+1) (l.drop 1) (put tm d (.d (.sN (n+b.length)))) Q):AO P GL base Hp i l tm Q:=by
 simp only[aay]at hc;have h:Nat.ble (n+b.length) iP=true:=by rw[abG];exact hl
 refine AO.fZ ho hc.1 rfl (v:=.d (.sN (n+b.length))) ?_ hq;simp only[bw,hc.2.1,hc.2.2,pT,oh,h,aaw,aaI]
theorem AO.nN{g:Option (Nat×Bool)}{x:aX}(hl:n+m<=4611686018427387904)(ho:l.head?=some ⟨some d,.bin .add x y,g,af⟩)(hc:(aB g tm,aW GL tm x,aW GL tm y)=(some true,.d (.sN n),.d (.sN m)))(hq:AO P GL base Hp (i+1) (l.drop 1) (put tm d (.d (.sN (n+m)))) Q):AO P GL base Hp i l tm Q:=by
 simp only[aay]at hc;have h:Nat.ble (n+m) iP=true:=by rw[abG];exact hl
 refine AO.fZ ho hc.1 rfl (v:=.d (.sN (n+m))) ?_ hq;simp only[bw,hc.2.1,hc.2.2,pT,oh,h,aaw,aaI]
theorem AW.C6{g:Option (Nat×Bool)}{Q:RS->List (Nat×V)->ao->Prop}{x:aX}(hl:a.length+n<=4611686018427387904)(ho:l.head?=some ⟨some d,.bin .add x y,g,af⟩)(hc:(aB g tm,aW GL tm x,aW GL tm y)=(some true,.d (.str a),.d (.sN n)))(hq:AW P GL base (i+1) (l.drop 1) (put tm d (.d (.sN (a.length+n)))) H (fun rs t k=>Q (((.d (.sN (a.length+n)),none),mC (aW GL tm) (.bin .add x y))::rs) t k)):AW P GL base i l tm H Q:=by
 simp only[aay]at hc;have h:Nat.ble (a.length+n) iP=true:=by rw[abG];exact hl
 refine AW.fZ (wr:=none) ho hc.1 rfl (v:=.d (.sN (a.length+n))) ?_ hq;simp only[bw,hc.2.1,hc.2.2,pT,oh,h,aaw,aaI]
theorem AW.C7{g:Option (Nat×Bool)}{Q:RS->List (Nat×V)->ao->Prop}{x:aX}(hl:n+b.length<=4611686018427387904)(ho:l.head?=some ⟨some d,.bin .add x y,g,af⟩)(hc:(aB g tm,aW GL tm x,aW GL tm y)=(some true,.d (.sN n),.d (.str b)))(hq:AW P GL base (i+1) (l.drop 1) (put tm d (.d (.sN (n+b.length)))) H (fun rs t k=>Q (((.d (.sN (n+b.length)),none),mC (aW GL tm) (.bin .add x y))::rs) t k)):AW P GL base i l tm H Q:=by
 simp only[aay]at hc;have h:Nat.ble (n+b.length) iP=true:=by rw[abG];exact hl
 refine AW.fZ (wr:=none) ho hc.1 rfl (v:=.d (.sN (n+b.length))) ?_ hq;simp only[bw,hc.2.1,hc.2.2,pT,oh,h,aaw,aaI]
theorem AW.cdN{g:Option (Nat×Bool)}{Q:RS->List (Nat×V)->ao->Prop}{args:List aX}{vs:List V}{v:V}(h:lS P GL f vs H v)(ho:l.head?=some ⟨some d,.call f args,g,af⟩)(hg:aB g tm=some true)(ha:bQ (aW GL tm) args=vs)(hq:AW P GL base (i+1) (l.drop 1) (put tm d v) H (fun rs t k=>Q (((v,none),mC (aW GL tm) (.call f args))::rs) t k)):AW P GL base i l tm H Q:=by
 subst ha;refine AW.head ho ⟨some (.v v),v,none,?_,fun f' pt hc _=>?_,hq⟩
 ·grind[nK,iS,cK]
 ·simp only[cK,aat,aay]at hc;obtain⟨rfl,rfl⟩:=hc;exact h.O3 _
theorem ay.u1{s s':St}(h:s=s'):ay m s s':=h▸ay.refl _ _
theorem WF.Ip{args sx:List V}{Q:V->ao->Prop}(hd:bS (oe H) args=some sx)(h:PC P GL f sx (.d (.sN m)))(hq:Q (.d (.sN m)) H):WF P GL f args H Q:=by
 refine⟨h.1,fun g w vs cX hh hg=>?_ ⟩;let g0:G:=⟨g.cr,fun _=>none,g.fo,g.base⟩;have nJ:∀k,wi g w k->cw g0 w k:=fun k hk=>⟨hk.1,hk.2,fun b x hx=>by cases hx⟩
 have O4:=bU hd;have Z3:=cX.length;have zM:aM g0 w sx vs.toList:=aM.eN (by omega) fun i u y hu hy=>by
  have hi:i<args.length:=by have:=(aaA.1 hu).1;omega
  obtain⟨u2,k1,k2⟩:=gV i _ hd (aaz hi);rw[hu]at k1;simp only[aat]at k1;subst k1;obtain⟨z,k3,k4⟩:=cX.get i (aaz hi);rw[hy]at k3;simp only[aat]at k3;subst k3;exact(o5 hh k2 k4).rv nJ
 have hG:dY GL g0 w:=⟨fun n cs hn=>⟨nJ _ (fI (hg.rd n cs hn).1),cV.keeps (show gS w w (cw g w) (cw g0 w)from gS.of fun k hk=>nJ k (fI hk)) (hg.rd n cs hn).1 _ _ (hg.rd n cs hn).2⟩,fun k hk=>⟨nJ _ (fI (hg.w0 k hk).1),(hg.w0 k hk).2⟩⟩;refine(h.2 g0 w vs zM (fun k hk=>(hh.fo k hk).1) (fun b x k hx=>by cases hx) hG).mono ?_;rintro e w' ⟨x,rfl,hx,he,-⟩;have gq:∀b y k,g.γ b=some y->y.own=some k->w'.heap[k]? =w.heap[k]? :=fun b y k hy hk=>(he.keeps k (nJ k (hh.nO hy hk))).2
 have iC:bA g w g w':=⟨he.os,he.tape,he.output,he.size,fun k hk=>⟨⟨aaY hk.1 he.size,hk.2⟩,(he.keeps k (nJ k (fI hk))).2⟩,fun _ h=>h,fun _ _=>GB.step.refl _,rfl,rfl,he.dB⟩;exact⟨x,.d (.sN m),g,H,rfl,hq,by simpa only[RV,Rd]using hx,hh.ext iC gq,iC⟩
theorem PC.JX{b off k sz:Nat}{cs:List V}{da:V}(h:PC P GL f [da] (.d (.sN m)))(hb:aA H b=some (.cells cs))(hd:bS (oe [some (.cells cs)]) [.sl 0 n off k sz]=some [da])(hl:aS 0 [some (.cells cs)]=true):lS P GL f [.sl b n off k sz] H (.d (.sN m)):=by
 have hw:WF P GL f [.sl 0 n off k sz] [some (.cells cs)] (fun r H'=>r=.d (.sN m)/\H'=[some (.cells cs)]):=WF.Ip hd h ⟨rfl,rfl⟩;have:=lS.HZ (v:=.d (.sN m)) [b] (H:=H) hw (by simp) rfl (by simp[aE,aC]) hl (by rfl) (fun i hi=>by
  have:i=0:=by grind
  subst this;exact⟨_,rfl,hb⟩) (fun i hi=>by grind[ff,de,bu])
 simpa[ff,de]using this
end Fw
