/-
  Boxes that nothing refers to are dropped; slots are forgotten; what a row of boxes reads as, to the bottom; calls that touch nothing.
-/
import Derived.Test.YtgfgckimecpmlaaGreatDoorFc
set_option linter.unusedSimpArgs false
set_option linter.unusedVariables false
namespace Fw
open Go
mutual
def au(n:Nat):V->Bool| .ptr b _ _=>Nat.blt b n| .sl b _ _ _ _=>Nat.blt b n| .map b=>Nat.blt b n| .iter b m=>Nat.blt b n&&Nat.blt m n| .func _ a c=>av n a&&av n c| .iface _ v=>au n v| .agg cs=>av n cs| .tuple vs=>av n vs|_=>true
def av(n:Nat):List V->Bool|[]=>true|v::vs=>au n v&&av n vs
end
def ef(n:Nat):fJ->Bool
 | .cells cs=>av n cs
 | .map es=>es.all fun p=>au n p.2
 | .iH m _ _=>Nat.blt m n
 |_=>true
def aB(n:Nat):ao->Bool|[]=>true|none::H=>aB n H|some b::H=>ef n b&&aB n H
def G.cut(g:G)(n:Nat):G:=⟨fun b=>g.cV b/\b<n,fun b=>if b<n then g.γ b else none,g.fo⟩
theorem ug{g:G}{w:World}{n k:Nat}(h:cZ g w k):cZ (g.cut n) w k:=by
 refine⟨h.1,h.2.1,fun b x hx=>?_ ⟩;simp only[G.cut]at hx;split at hx
 ·exact h.2.2 b x hx
 ·cases hx
structure tu (n:Nat) (g g':G) (w:World):Prop where
 cV:∀b,b<n->g.cV b->g'.cV b
 γ:∀b,b<n->g'.γ b=g.γ b
 cZ:∀k,cZ g w k->cZ g' w k
theorem tu.keeps{n:Nat}{g g':G}{w:World}(h:tu n g g' w):jS w w (Fw.cZ g w) (Fw.cZ g' w):=fun k hk=>⟨h.cZ k hk,rfl⟩
mutual
theorem RV.agree{n:Nat}{g g':G}{w:World}(h:tu n g g' w):∀(u:V)(v:Value),au n u=true->RV g w u v->RV g' w u v
 | .any,_,_,_=>by simp only[RV]
 | .d x,v,_,hv=>by simp only[RV]at hv⊢;exact Rd.keeps h.keeps _ _ hv
 | .full es,v,_,hv=>by simp only[RV]at hv⊢;exact⟨Rd.keeps h.keeps _ _ hv.1,hv.2⟩
 | .ad,_,_,hv=>by grind[RV]
 | .ptr b hh off,v,hn,hv=>by simp only[au,abb]at hn;simp only[RV]at hv⊢;exact⟨⟨hv.1.1,h.cV b hn hv.1.2⟩,fun x hx=>hv.2 x (by rw[←h.γ b hn];exact hx)⟩
 | .mW,_,_,hv=>by grind[RV]
 | .bB cs,v,_,hv=>by
  simp only[RV]at hv⊢;obtain⟨aU,off,h1,h2,h3⟩:=hv;refine⟨aU,off,h1,fun hn=>h.cZ _ (h2 hn),?_ ⟩;cases cs with
   |nil=>simp only[dC]
   |cons c cs=>exact dC.keeps h.keeps (h2 (by simp)) _ _ h3
 | .sl b hh off len sz,v,hn,hv=>by simp only[au,abb]at hn;simp only[RV]at hv⊢;exact⟨⟨hv.1.1,h.cV b hn hv.1.2⟩,fun x hx=>hv.2 x (by rw[←h.γ b hn];exact hx)⟩
 | .map b,v,hn,hv=>by simp only[au,abb]at hn;simp only[RV]at hv⊢;exact⟨⟨hv.1.1,h.cV b hn hv.1.2⟩,fun x hx=>hv.2 x (by rw[←h.γ b hn];exact hx)⟩
 | .mX,_,_,hv=>by grind[RV]
 | .func f a c,v,hn,hv=>by simp only[au,aaD]at hn;simp only[RV]at hv⊢;obtain⟨x,y,h1,h2,h3⟩:=hv;exact⟨x,y,h1,aT.agree h _ _ hn.1 h2,aT.agree h _ _ hn.2 h3⟩
 | .rL,_,_,hv=>by grind[RV]
 | .iface t u,v,hn,hv=>by simp only[au]at hn;simp only[RV]at hv⊢;obtain⟨x,h1,h2⟩:=hv;exact⟨x,h1,RV.agree h _ _ hn h2⟩
 | .bN,_,_,hv=>by grind[RV]
 | .gm,_,_,hv=>by grind[RV]
 | .agg cs,v,hn,hv=>by simp only[au]at hn;simp only[RV]at hv⊢;obtain⟨x,h1,h2⟩:=hv;exact⟨x,h1,aT.agree h _ _ hn h2⟩
 | .tuple vs,v,hn,hv=>by simp only[au]at hn;simp only[RV]at hv⊢;obtain⟨x,h1,h2⟩:=hv;exact⟨x,h1,aT.agree h _ _ hn h2⟩
 | .iter b m,v,hn,hv=>by simp only[au,aaD,abb]at hn;simp only[RV]at hv⊢;exact⟨⟨hv.1.1,h.cV b hn.1 hv.1.2⟩,fun x hx=>hv.2 x (by rw[←h.γ b hn.1];exact hx)⟩
theorem aT.agree{n:Nat}{g g':G}{w:World}(h:tu n g g' w):∀(us:List V)(vs:List Value),av n us=true->aT g w us vs->aT g' w us vs
 |[],[],_,_=>by simp only[aT]
 |u::us,v::vs,hn,hv=>by simp only[av,aaD]at hn;simp only[aT]at hv⊢;exact⟨RV.agree h _ _ hn.1 hv.1,aT.agree h _ _ hn.2 hv.2⟩
 |[],_::_,_,hv=>by grind[aT]
 |_::_,[],_,hv=>by grind[aT]
end
variable {n:Nat}{g:G}{w:World}
theorem nW(g:G)(w:World)(n:Nat):tu n g (g.cut n) w:=⟨fun _ hb hd=>⟨hd,hb⟩,fun b hb=>by simp[G.cut,hb],fun _ hk=>ug hk⟩
theorem fC{n:Nat}:∀{H:ao}{b:Nat}{y:fJ},aB n H=true->aF H b=some y->ef n y=true
 |[],b,y,_,h=>by simp[aF]at h
 |none::H,0,y,_,h=>by simp[aF]at h
 |some x::H,0,y,hl,h=>by simp_all[aB,aaD,aF]
 |none::H,b+1,y,hl,h=>by simp only[aB]at hl;exact fC hl h
 |some x::H,b+1,y,hl,h=>by simp only[aB,aaD]at hl;exact fC hl.2 h
theorem rZ:∀(H:ao)(n b:Nat),aF (H.take n) b=if b<n then aF H b else none
 |[],n,b=>by simp[aF]
 |x::H,0,b=>by simp[aF]
 |x::H,n+1,0=>by simp[aF]
 |x::H,n+1,b+1=>by simp[aF,rZ H n b]
theorem RB.agree{g':G}{x:GB}{y:fJ}(h:tu n g g' w)(hy:ef n y=true)(hr:RB g w x y):RB g' w x y:=by
 cases x with
  |cells aU cp cur=>
   cases y with
    |cells cs=>simp only[RB]at hr⊢;obtain⟨h1,h2,h3,c,e,h4,h5,h6⟩:=hr;exact⟨h1,h2,h3,c,e,h4,h5,aT.agree h _ _ hy h6⟩
    |_=>grind[RB]
  |nil=>grind[RB]
  |obj aU=>
   cases y with
    |map es=>
     simp only[RB]at hr⊢;obtain⟨bO,clock,h1,h2,h3,h4⟩:=hr;refine⟨bO,clock,h1,h2,fun i k v hi=>?_,h4⟩;obtain⟨z,JY,M1,V2,V3⟩:=h3 i k v hi;have:au n v=true:=by grind[ef,List.all_eq_true]
     exact⟨z,JY,M1,Rd.keeps h.keeps _ _ V2,RV.agree h _ _ this V3⟩
    |Dw s pos=>grind[RB]
    |iH m k seen=>simp only[RB]at hr⊢;obtain⟨mb,sa,h1,h2,h3,h4⟩:=hr;simp only[ef,abb]at hy;exact⟨mb,sa,h1,h2,h.cV m hy h3,fun x hx=>h4 x (by rw[←h.γ m hy];exact hx)⟩
    |_=>grind[RB]
theorem az.cut{H:ao}(hh:az g w H)(hl:aB n (H.take n)=true):az (g.cut n) w (H.take n):=by
 refine⟨fun b hb=>?_,fun b x hx=>?_,fun b y hy=>?_,fun b b' x x' k hx je hk lC=>?_,fun k hk=>⟨(hh.fo k hk).1,fun b x hx=>?_ ⟩⟩
 ·have:=hh.cV b hb.1;have:=hb.2;simp;omega
 ·simp only[G.cut]at hx;split at hx
  ·rename_i hb;obtain⟨h1,y,h2,h3⟩:=hh.live b x hx;have hg:aF (H.take n) b=some y:=by grind[rZ]
   exact⟨⟨h1,hb⟩,y,hg,RB.agree (nW g w n) (fC hl hg) h3⟩
  ·cases hx
 ·rw[rZ]at hy;split at hy
  ·rename_i hb;obtain⟨x,hx⟩:=hh.back b y hy;grind[G.cut]
  ·cases hy
 ·simp only[G.cut]at hx je;split at hx
  ·split at je
   ·exact hh.inj b b' x x' k hx je hk lC
   grind
  ·cases hx
 ·simp only[G.cut]at hx;split at hx
  ·exact(hh.fo k hk).2 b x hx
  ·cases hx
theorem cg.cut{g0:G}{w0:World}(h:cg g0 w0 g w)(hn:∀b,g0.cV b->b<n):cg g0 w0 (g.cut n) w:=⟨h.os,h.tape,h.output,h.size,fun k hk=>⟨ug (h.keeps k hk).1,(h.keeps k hk).2⟩,fun b hb=>⟨h.cV b hb,hn b hb⟩,fun b hb=>by simp only[G.cut,hn b hb,abL];exact h.step b hb,h.fo,h.fp⟩
def fD(cm:List Nat):List (Nat×V)->List (Nat×V)|[]=>[]|(t,v)::l=>bif cm.any (Nat.beq t)then(t,v)::fD cm l else fD cm l
theorem pK(cm:List Nat)(t:Nat):∀(l:List (Nat×V)),get (fD cm l) t=get l t\/get (fD cm l) t=.any
 |[]=>.inl rfl
 |(s,v)::l=>by
  simp only[fD];cases hk:cm.any (Nat.beq s)with
   |true=>
    simp only[aaJ,get];cases Nat.beq s t with
     |true=>grind
     |false=>exact pK cm t l
   |false=>
    simp only[aaT,get];cases hb:Nat.beq s t with
     |true=>
      have e:=aaM hb;subst e;right;have Hk:∀(l:List (Nat×V)),get (fD cm l) s=.any:=by
       intro l;induction l with
        |nil=>rfl
        |cons p l ih=>
         obtain⟨q,u⟩:=p;simp only[fD];cases hq:cm.any (Nat.beq q)with
          |true=>
           simp only[aaJ,get];cases J0:Nat.beq q s with
            |true=>have:=aaM J0;grind
            |false=>exact ih
          |false=>exact ih
      exact Hk l
     |false=>exact pK cm t l
def u4(n:Nat):List (Nat×V)->Bool|[]=>true|(_,v)::l=>au n v&&u4 n l
theorem Ad{n t:Nat}:∀{l:List (Nat×V)},u4 n l=true->au n (get l t)=true
 |[],_=>rfl
 |(s,v)::l,h=>by
  simp only[u4,aaD]at h;simp only[get];cases Nat.beq s t with
   |true=>exact h.1
   |false=>exact Ad h.2
def gQ(cm:List Nat)(n:Nat)(σ:St):Option St:=let tm:=fD cm σ.tm;bif u4 n tm&&aB n (σ.hp.take n)then some ⟨σ.n,tm,σ.hp.take n⟩else none
section
variable {P:Program}{GL:ch}
theorem R.clean{cm:List Nat}{n:Nat}{g:G}{w:World}{a:Act}{σ aY:St}(h:R GL g w a σ)(hc:gQ cm n σ=some aY):R GL (g.cut n) w a aY:=by
 unfold gQ at hc;simp only at hc;cases hb:(u4 n (fD cm σ.tm)&&aB n (σ.hp.take n))with
  |false=>grind
  |true=>
   rw[hb]at hc;simp only[aaJ,aaC]at hc;subst hc;simp only[aaD]at hb;refine⟨h.defers,h.size,fun t=>?_,h.heap.cut hb.2,⟨fun m cs hm=>⟨ug (h.dJ.rd m cs hm).1,dC.keeps (nW g w n).keeps (h.dJ.rd m cs hm).1 _ _ (h.dJ.rd m cs hm).2⟩,fun k hk=>⟨ug (h.dJ.w0 k hk).1,(h.dJ.w0 k hk).2⟩⟩⟩;have b8:=Ad (t:=t) hb.1;rcases pK cm t σ.tm with e|e
   ·rw[e]at b8⊢;exact RV.agree (nW g w n) _ _ b8 (h.tmps t)
   grind[RV]
theorem WC.clean{c:IR}{σ:St}{Q:Ex->St->Prop}(n:Nat)(hn:σ.hp.length<=n)(h:WC P GL c σ (fun e aY=>Q e aY\/∃cm CJ,gQ cm n aY=some CJ/\Q e CJ)):WC P GL c σ Q:=by
 intro code hc g w a hr;refine wp_mono (h code hc g w a hr) fun e a' w' hp=>?_
 obtain⟨g2,wE,h1,h2,h3⟩:=hp;have lI:∀b,g.cV b->b<n:=fun b hb=>by have:=hr.heap.cV b hb;omega
 have key:∀ex,(Q ex wE\/∃cm CJ,gQ cm n wE=some CJ/\Q ex CJ)->∃g3 aY,R GL g3 w' a' aY/\cg g w g3 w'/\Q ex aY:=by
  intro ex hq;rcases hq with hq|⟨cm,CJ,mz,hq⟩
  ·grind
  ·exact⟨_,CJ,h1.clean mz,h2.cut lI,hq⟩
 cases e with
  |normal=>exact key _ h3
  |exit i=>exact key _ h3
  |ret=>exact key _ h3
  |goto l=>grind
  |panic c=>grind
  |outgrown=>grind
theorem WF.cut{f:FuncId}{args:List V}{H:ao}{Q:V->ao->Prop}(h:WF P GL f args H (fun v H'=>Q v H'\/(au H.length v=true/\aB H.length (H'.take H.length)=true/\Q v (H'.take H.length)))):WF P GL f args H Q:=by
 refine⟨h.1,fun g w vs dU hh hg=>(h.2 g w vs dU hh hg).mono ?_ ⟩;rintro e w' ⟨x,v,g',H',rfl,hq,hx,ti,he⟩;rcases hq with hq|⟨h1,h2,h3⟩
 ·grind
 ·exact⟨x,v,g'.cut H.length,_,rfl,h3,RV.agree (nW g' w' _) _ _ h1 hx,ti.cut h2,he.cut (fun b hb=>hh.cV b hb)⟩
end
end Fw
/-
  What rows of own boxes read as, to the bottom; calls that touch nothing.
-/
namespace Fw
open Go
variable {w:World}{g:G}{H:ao}{u:V}{v:Value}
def Ae(g:G)(w:World)(k:Nat):Prop:=k<w.heap.size/\¬g.fo k
theorem nk{k:Nat}(h:cZ g w k):Ae g w k:=⟨h.1,h.2.1⟩
theorem jS.of{im xd:Nat->Prop}(h:∀k,im k->xd k):jS w w im xd:=fun k hk=>⟨h k hk,rfl⟩
theorem az.u5(hh:az g w H){b k:Nat}{x:GB}(hx:g.γ b=some x)(hk:x.own=some k):Ae g w k:=by obtain⟨_,y,_,h3⟩:=hh.live b x hx;exact⟨h3.lt k hk,hh.zJ hx hk⟩
theorem xo{w:World}{im:Nat->Prop}{aU sz:Nat}:∀{n:Nat}{off:Nat}{l:List D},l.length=n*sz->dC w im aU off l->iu w im aU off sz (gv sz n l)
 |0,_,_,_,_=>by grind[gv,iu]
 |n+1,off,l,hl,h=>by
  simp only[gv,iu];have hle:sz<=l.length:=by grind
  refine⟨by simp;omega,?_,?_ ⟩
  ·have:∀(k:Nat)(ds:List D)(q:Nat),dC w im aU q ds->dC w im aU q (ds.take k):=by
    intro k ds;induction ds generalizing k with
     |nil=>grind
     |cons d ds ih=>intro q hq;cases k<;>grind[dC]
   grind
  ·exact xo (by grind) (dC.drop sz h)
theorem Af(hh:az g w H):∀(f:Nat)(u:V)(v:Value)(d:D),iI H f u=some d->RV g w u v->Rd w (Ae g w) d v:=by
 intro f;induction f with
  |zero=>
   intro u v d hd hv;cases u with
    |d x=>simp only[iI,aaC]at hd;subst hd;simp only[RV]at hv;exact Rd.keeps (jS.of fun _ hk=>nk hk) _ _ hv
    |ad=>grind[iI,Option.some.injEq,RV,Rd]
    |_=>simp[iI]at hd
  |succ f ih=>
   intro u v d hd hv;cases u with
    |d x=>grind[iI,Option.some.injEq,RV]
    |ad=>grind[iI,Option.some.injEq,RV,Rd]
    |sl b hb off len sz=>
     simp only[iI]at hd;cases hg:aF H b with
      |none=>grind
      |some y=>
       cases y with
        |cells cs=>
         simp only[hg]at hd;cases hc:(Nat.beq cs.length hb&&Nat.ble (off+len*sz) hb)with
          |false=>grind
          |true=>
           rw[hc]at hd;simp only[aaJ]at hd;split at hd
           ·rename_i l hl;simp only[aaC]at hd;subst hd;simp only[aaD]at hc;have e2:=aaN hc.2;obtain⟨aU,cp,c,e,h1,h2,h3,h4,h5,h6,h7⟩:=lG hg hc.1 hh;obtain⟨cap,rfl,h8,h9⟩:=RV.rP hv h1;have PD:=cA hl;have hlen:l.length=len*sz:=by grind
            have dU:=(h7.drop off).take (len*sz);simp only[Rd];refine .inr ⟨aU,off,cap,sz,by rw[iQ],by grind[iQ],fun _=>hh.u5 h1 rfl,xo hlen (dC.nT (vs:=((c.toList.take hb).drop off).take (len*sz)) (by grind) (fun j d' v' hd jF=>?_ ) (fun j v' jF=>?_ ))⟩
            ·have hj:j<l.length:=(aaO.1 hd).1;have Cu:j<((cs.drop off).take (len*sz)).length:=by omega
             obtain⟨d2,k1,k2⟩:=jm j _ hl (aaI Cu);rw[hd]at k1;simp only[aaC]at k1;subst k1;obtain⟨x,k3,k4⟩:=dU.get j (aaI Cu);grind
            grind[World.cell?]
           ·cases hd
        |nil=>
         simp only[hg]at hd;cases hc:Nat.beq len 0 with
          |false=>grind
          |true=>
           rw[hc]at hd;simp only[aaJ,aaC]at hd;subst hd;obtain⟨x,hx⟩:=hh.back b _ hg;obtain⟨_,y,hy,hr⟩:=hh.live b x hx;rw[hg]at hy;simp only[aaC]at hy;subst hy;cases x with
            |cells=>grind[RB]
            |obj=>grind[RB]
            |nil=>obtain⟨_,_,_,rfl⟩:=RV.xe hv hx;simp[Rd]
        |_=>grind
    |_=>grind[iI]
def qH(w:World)(im:Nat->Prop):V->Value->Prop| .d x,v=>Rd w im x v| .gm,v=>v=.nilIface| .bN,v=>∃t x,v=.iface t x| .mW,v=>v=.pointer none| .agg cs,v=>∃(x:Array Value)(ds:List D),v=.agg x/\cs=ds.map V.d/\ds.length=x.size/\∀(j:Nat)(d:D)(y:Value),ds[j]? =some d->x[j]? =some y->Rd w im d y|_,_=>False
theorem aT.Kj{ds:List D}{vs:List Value}(hl:ds.length=vs.length)(h:∀(j:Nat)(d:D)(y:Value),ds[j]? =some d->vs[j]? =some y->Rd w (cZ g w) d y):aT g w (ds.map V.d) vs:=by
 refine aT.iy (by grind) fun i u v hu hv=>?_
 grind[Option.map_eq_some_iff,RV]
theorem qH.rv{im:Nat->Prop}(wO:∀k,im k->cZ g w k)(h:qH w im u v):RV g w u v:=by
 cases u with
  |d x=>simp only[qH]at h;simp only[RV];exact Rd.keeps (jS.of wO) _ _ h
  |gm=>grind[qH,RV]
  |bN=>grind[qH,RV]
  |mW=>grind[qH,RV]
  |agg cs=>simp only[qH]at h;obtain⟨x,ds,rfl,rfl,h1,h2⟩:=h;simp only[RV];exact⟨x,rfl,aT.Kj (by grind) (fun j d y hd hy=>Rd.keeps (jS.of wO) _ _ (h2 j d y hd (by grind)))⟩
  |_=>grind[qH]
theorem u6(hh:az g w H){r:V}(h:qm H u=some r)(hv:RV g w u v):qH w (Ae g w) r v:=by
 unfold qm at h;split at h
 ·rename_i cs;split at h
  ·rename_i l hl;simp only[aaC]at h;subst h;simp only[RV]at hv;obtain⟨x,rfl,hx⟩:=hv;have hlen:=cA hl;have U':=hx.length;simp at U';simp only[qH];refine⟨x,l,rfl,rfl,by omega,fun j d y hd hy=>?_ ⟩;have hj:j<cs.length:=by grind
   obtain⟨d2,k1,k2⟩:=jm j _ hl (aaI hj);rw[hd]at k1;simp only[aaC]at k1;subst k1;obtain⟨z,k3,k4⟩:=hx.get j (aaI hj);have:z=y:=by grind
   subst this;exact Af hh _ _ _ _ k2 k4
  ·cases h
 ·grind[Option.some.injEq,RV,qH]
 ·grind[Option.some.injEq,RV,qH]
 ·grind[Option.some.injEq,RV,qH]
 ·split at h
  ·rename_i x hx;simp only[aaC]at h;subst h;simp only[qH];exact Af hh _ _ _ _ hx hv
  ·cases h
theorem Ag{g':G}(hh:az g w H)(wO:∀k,Ae g w k->cZ g' w k){r:V}(h:fc H u=some r)(hv:RV g w u v):RV g' w r v:=by
 unfold fc at h;split at h
 ·rename_i vs;split at h
  ·rename_i l hl;simp only[aaC]at h;subst h;simp only[RV]at hv⊢;obtain⟨x,rfl,hx⟩:=hv;refine⟨x,rfl,aT.iy (by have:=cA hl;have:=hx.length;omega) fun i u y hu hy=>?_ ⟩;have hi:i<vs.length:=by have:=(aaO.1 hu).1;have:=cA hl;omega
   obtain⟨u2,k1,k2⟩:=jm i _ hl (aaI hi);rw[hu]at k1;simp only[aaC]at k1;subst k1;obtain⟨z,k3,k4⟩:=hx.get i (aaI hi);rw[hy]at k3;simp only[aaC]at k3;subst k3;exact(u6 hh k2 k4).rv wO
  ·cases h
 ·exact(u6 hh h hv).rv wO
section
variable {P:Program}{GL:ch}
variable {f:FuncId}{v:V}
theorem PC.ofG{args:List V}{R:V->ao->Prop}(hd:av 0 args=true)(h:WF P GL f args [] R)(hr:∀r H' g g' w x,R r H'->az g' w H'->(∀k,Ae g' w k->cZ g w k)->RV g' w r x->RV g w v x):PC P GL f args v:=by
 refine⟨h.1,fun g w vs dU JK pE hg=>?_ ⟩;let g0:G:=⟨fun _=>False,fun _=>none,fun k=>g.fo k\/∃b x,g.γ b=some x/\x.own=some k⟩;have mL:∀k,cZ g w k↔cZ g0 w k:=by
  intro k;constructor
  ·rintro⟨h1,h2,h3⟩;refine⟨h1,?_,fun b x hx=>by cases hx⟩;grind
  ·rintro⟨h1,h2,_⟩;exact⟨h1,fun h4=>h2 (.inl h4),fun b x hx hk=>h2 (.inr ⟨b,x,hx,hk⟩)⟩
 have Cs:tu 0 g g0 w:=⟨fun b hb=>by omega,fun b hb=>by omega,fun k hk=>(mL k).1 hk⟩;have hH:az g0 w []:=by refine⟨fun b hb=>hb.elim,fun b x hx=>(by cases hx),fun b y hy=>(by grind[aF]),fun b b' x x' k hx=>(by cases hx),fun k hk=>⟨?_,fun b x hx=>(by cases hx)⟩⟩;grind
 have hG:gW GL g0 w:=⟨fun n cs hn=>⟨(mL n).1 (hg.rd n cs hn).1,dC.keeps Cs.keeps (hg.rd n cs hn).1 _ _ (hg.rd n cs hn).2⟩,fun k hk=>⟨(mL k).1 (hg.w0 k hk).1,(hg.w0 k hk).2⟩⟩;refine(h.2 g0 w vs (aT.agree Cs _ _ hd dU) hH hG).mono ?_;rintro e w' ⟨x,r,g',H',rfl,QA,hx,ti,he⟩;have Hu:∀k,Ae g' w' k->cZ g w' k:=by rintro k ⟨h1,h2⟩;rw[he.fo]at h2;exact⟨h1,fun h3=>h2 (.inl h3),fun b x hx hk=>h2 (.inr ⟨b,x,hx,hk⟩)⟩
 refine⟨x,rfl,hr _ _ _ _ _ _ QA ti Hu hx,⟨he.os,he.tape,he.output,he.size,fun k hk=>?_,fun _ h=>h,fun _ _=>GB.step.refl _,rfl,fun k hk=>he.fp k (.inl hk)⟩,fun b y k hy hk=>he.fp k (.inr ⟨b,y,hy,hk⟩)⟩;obtain⟨h1,h2⟩:=he.keeps k ((mL k).1 hk);exact⟨⟨h1.1,hk.2.1,hk.2.2⟩,h2⟩
theorem PC.of{args:List V}(hd:av 0 args=true)(h:WF P GL f args [] (fun r H'=>fc H' r=some v)):PC P GL f args v:=PC.ofG hd h fun _ _ _ _ _ _ h1 h2 h3 h4=>Ag h2 h3 h1 h4
theorem WF.Fx{args:List V}{H:ao}{Q:V->ao->Prop}(h:PC P GL f args v)(hq:Q v H):WF P GL f args H Q:=by refine⟨h.1,fun g w vs dU hh hg=>(h.2 g w vs dU (fun k hk=>(hh.fo k hk).1) (RV.gZ hh) hg).mono ?_ ⟩;rintro e w' ⟨x,rfl,hx,he,pE⟩;exact⟨x,v,g,H,rfl,hq,hx,hh.ext he pE,he⟩
end
end Fw
/-
  Running code of the abstract machine, for what is known whole; and that the model does the same.
-/
namespace Fw
open Go
abbrev bm:=FuncId->List V->ao->Option (V×ao)
abbrev ba:=FuncId->List V->Option V
def dv(own:List Nat)(GL:ch)(tm:List (Nat×V))(o:aj):Option V:=match o.op with
 | .mkSlice _ _ _ _=>bif Cb o.dst own then none else jo (aZ GL tm) o.op
 |_=>none
def e9(own:List Nat)(GL:ch)(call:bm):List aj->St->Option St
 |[],σ=>some σ
 |o::l,σ=>
  match aA o.guard σ.tm with
   |none=>none
   |some false=>
    match σ.put o.dst (.tuple []) σ.hp with
     |some aY=>e9 own GL call l aY
     |none=>none
   |some true=>
    match o.op with
     | .call f args=>
      match call f (bu (aZ GL σ.tm) args) σ.hp with
       |some (v,H')=>
        match σ.put o.dst v H' with
         |some aY=>e9 own GL call l aY
         |none=>none
       |none=>none
     | .gV x args=>
      match aZ GL σ.tm x with
       | .func f first cap=>
        match call f (first++bu (aZ GL σ.tm) args++cap) σ.hp with
         |some (v,H')=>
          match σ.put o.dst v H' with
           |some aY=>e9 own GL call l aY
           |none=>none
         |none=>none
       |_=>none
     |op=>
      match dv own GL σ.tm o with
       |some v=>
        match σ.put o.dst v σ.hp with
         |some aY=>e9 own GL call l aY
         |none=>none
       |none=>
        match bE (aZ GL σ.tm) σ.hp σ.hp.length op with
         |some (v,wr)=>
          match σ.put o.dst v (br σ.hp wr)with
           |some aY=>e9 own GL call l aY
           |none=>none
         |none=>none
def Hv(GL:ch)(aE:ba)(base:Nat):Nat->List aj->St->Option (List (((V×Wr)×List Nat)×Option V))
 |_,[],_=>some []
 |i,o::l,σ=>
  let cv:Option V:=match bX o.op with
   |some (f,args)=>aE f (bu (aZ GL σ.tm) args)
   |none=>jo (aZ GL σ.tm) o.op
  match gn GL σ.tm σ.hp (base+i) o cv with
   |none=>none
   |some r=>
    match Hv GL aE base (i+1) l (σ.iS o.dst r.1 (br σ.hp r.2))with
     |none=>none
     |some rs=>some (((r,mV (aZ GL σ.tm) o.op),cv)::rs)
def qI(GL:ch)(aE:ba)(l:List aj)(σ:St):Option St:=match Hv GL aE σ.hp.length 0 l (eC σ l.length)with
 |none=>none
 |some qs=>
  let rs:=qs.map (·.1);bif dW l rs&&gx σ.n l&&e8 (σ.hp.length+l.length) rs then some (aK (fun _=>true) 0 l rs (eC σ l.length))
  else none
def Hw(l:List aj)(ot:aj):Bool:=match ot.guard with
 |some _=>false
 |none=>ot.after.all (fun e=>Nat.blt e l.length)&&(List.range l.length).all (fun j=>ot.after.any fun e=>Nat.beq j e||Nat.testBit ((de 0 [] l).getD e 0) j)
def yr(GL:ch)(call:bm)(aE:ba)(l:List aj)(σ:St):Option St:=match l.getLast? with
 |none=>none
 |some ot=>
  match ot.op with
   | .call f args=>
    match Hw l.dropLast ot with
     |false=>none
     |true=>
      match qI GL aE l.dropLast σ with
       |none=>none
       |some xi=>
        match call f (bu (aZ GL xi.tm) args) xi.hp with
         |none=>none
         |some (v,H')=>xi.put ot.dst v H'
   |_=>none
def u7(GL:ch)(call:bm)(aE:ba)(l:List aj)(σ:St):Option St:=match qI GL aE l σ with
 |some aY=>some aY
 |none=>yr GL call aE l σ
def xp(step:St->Option (Ex×St)):Nat->St->Option (Ex×St)
 |0,_=>none
 |n+1,σ=>
  match step σ with
   |some (.normal,aY)=>xp step n aY
   |r=>r
def nl(own:List Nat)(GL:ch)(call:bm)(aE:ba)(n:Nat):IR->St->Option (Ex×St)
 | .skip,σ=>some (.normal,σ)
 | .region l,σ=>
  match e9 own GL call l σ with
   |some aY=>some (.normal,aY)
   |none=>none
 | .draw l,σ=>
  match u7 GL call aE l σ with
   |some aY=>some (.normal,aY)
   |none=>none
 | .seq a b,σ=>
  match nl own GL call aE n a σ with
   |some (.normal,aY)=>nl own GL call aE n b aY
   |r=>r
 | .cond c a b,σ=>
  match aZ GL σ.tm c with
   | .d (.bool true)=>nl own GL call aE n a σ
   | .d (.bool false)=>nl own GL call aE n b σ
   |_=>none
 | .block id b,σ=>
  match nl own GL call aE n b σ with
   |some (.exit i,aY)=>if i=id then some (.normal,aY)else some (.exit i,aY)
   |r=>r
 | .loop b,σ=>xp (nl own GL call aE n b) n σ
 | .exit id,σ=>some (.exit id,σ)
 | .ret,σ=>some (.ret,σ)
def Hx(n:Nat)(v:V)(H:ao):V×ao:=bif au n v&&aB n (H.take n)then(v,H.take n)else(v,H)
def nX(gJ:ba)(ka:bm):ba:=fun f args=>
 match gJ f args with
  |some v=>some v
  |none=>
   bif av 0 args then
    (match ka f args []with
     |some (r,H)=>fc H r
     |none=>none)else none
def uh(rf:FuncId->Bool)(gJ:ba)(ka:bm):bm:=fun f args H=>
 match(bif rf f then none else nX gJ ka f args)with
  |some v=>some (v,H)
  |none=>
   match ka f args H with
    |some (v,H')=>some (Hx H.length v H')
    |none=>none
abbrev CK:=ba->bm
def CL(rf:FuncId->Bool)(pL:CK)(gJ:ba)(ka:bm):bm:=fun f args H=>
 match pL (nX gJ ka) f args H with
  |some r=>some r
  |none=>uh rf gJ ka f args H
section
variable {P:Program}{GL:ch}
variable {σ aY:St}{aE gJ:ba}{l:List aj}{Q:Ex->St->Prop}{ka:bm}
def b6(P:Program)(GL:ch)(call:bm):Prop:=∀f args H v H',call f args H=some (v,H')->WF P GL f args H (fun r h=>r=v/\h=H')
def bH(P:Program)(GL:ch)(aE:ba):Prop:=∀f args v,aE f args=some v->PC P GL f args v
theorem lU{own:List Nat}{call:bm}(hc:b6 P GL call):∀{l:List aj}{σ aY:St}{Q:St->Prop},e9 own GL call l σ=some aY->Q aY->WO P GL l σ Q
 |[],σ,aY,Q,h,hq=>by simp only[e9,aaC]at h;subst h;exact WO.nil hq
 |o::l,σ,aY,Q,h,hq=>by
  simp only[e9]at h;split at h
  ·cases h
  ·rename_i hg;split at h
   ·rename_i xi h1;exact WO.skip hg h1 (lU hc h hq)
   ·cases h
  ·rename_i hg;split at h
   ·rename_i f args ho;split at h
    ·rename_i v H' dz;split at h
     ·rename_i xi h1;refine WO.call ho hg ((hc _ _ _ _ _ dz).mono ?_ );rintro r hp ⟨rfl,rfl⟩;exact⟨xi,h1,lU hc h hq⟩
     ·cases h
    ·cases h
   ·rename_i x args ho;split at h
    ·rename_i f first cap hx
     split at h
     ·rename_i v H' dz;split at h
      ·rename_i xi h1;refine WO.gV ho hx hg ((hc _ _ _ _ _ dz).mono ?_ );rintro r hp ⟨rfl,rfl⟩;exact⟨xi,h1,lU hc h hq⟩
      ·cases h
     ·cases h
    ·cases h
   ·split at h
    ·rename_i v he;split at h
     ·rename_i xi h1;refine WO.jo hg ?_ h1 (lU hc h hq);unfold dv at he;grind
     ·cases h
    ·split at h
     ·rename_i v wr he;split at h
      ·rename_i xi h1;exact WO.bE hg he h1 (lU hc h hq)
      ·cases h
     ·cases h
theorem yu{aE:ba}{base:Nat}:∀{l:List aj}{i:Nat}{σ:St}{qs:List (((V×Wr)×List Nat)×Option V)},Hv GL aE base i l σ=some qs->∀qc:Nat->Option V,(∀j q,qs[j]? =some q->qc (i+j)=q.2)->pG GL base qc i l σ=some (qs.map (·.1))/\qs.length=l.length/\∀k o q,l[k]? =some o->qs[k]? =some q->∀f args,bX o.op=some (f,args)->q.2=aE f (bu (aZ GL (aK (fun j=>decide (j<i+k)) i l (qs.map (·.1)) σ).tm) args)/\(aA o.guard (aK (fun j=>decide (j<i+k)) i l (qs.map (·.1)) σ).tm=some true->q.2=some q.1.1.1)
 |[],i,σ,qs,h,qc,hq=>by simp only[Hv,aaC]at h;subst h;exact⟨rfl,rfl,by simp⟩
 |o::l,i,σ,qs,h,qc,hq=>by
  simp only[Hv]at h;split at h
  ·cases h
  ·rename_i r hr;split at h
   ·cases h
   ·rename_i rs Mj;simp only[aaC]at h;subst h;have h0:=hq 0 _ rfl;simp only[acj]at h0;obtain⟨k1,k2,k3⟩:=yu Mj qc (fun j q hj=>by have:=hq (j+1) q (by grind);grind);have uS:∀(l:List aj)(rs:List ((V×Wr)×List Nat))(k:Nat)(σ:St),i<=k->aK (fun j=>decide (j<i)) k l rs σ=σ:=by
     intro l rs k σ hk;rw[eB (K':=fun _=>false) (fun j _=>by simp;omega)];have:∀(l:List aj)(rs:List ((V×Wr)×List Nat))(i:Nat)(s:St),aK (fun _=>false) i l rs s=s:=by
      intro l;induction l with
       |nil=>grind[aK]
       |cons o l ih=>
        intro rs i s;cases rs with
         |nil=>simp[aK]
         |cons r rs=>simp_all[aK,aaT]
     grind
    refine⟨?_,by simp[k2],fun k o' q pI Kk f args mz=>?_ ⟩
    ·grind[pG]
    ·cases k with
      |zero=>simp at pI Kk;subst pI;subst Kk;simp only[acj];rw[uS _ _ _ _ (aaP _)];refine⟨by grind,fun hg=>?_ ⟩;simp only[mz]at hr⊢;unfold gn at hr;rw[hg]at hr;simp only[mz]at hr;cases hp:aE f (bu (aZ GL σ.tm) args)<;>grind
      |succ k=>
       simp at pI Kk;have e:i+(k+1)=i+1+k:=by omega
       have:=k3 k o' q pI Kk f args mz;simp only[aaV,aK,e,show decide (i<i+1+k)=true by simp;omega,aaJ];exact this
theorem CM(hm:P.follows .mixedOrders=true)(hp:bH P GL aE)(h:qI GL aE l σ=some aY)(hq:Q .normal aY):WC P GL (.draw l) σ Q:=by
 unfold qI at h;split at h
 ·cases h
 ·rename_i qs J0;simp only at h;cases hb:(dW l (qs.map (·.1))&&gx σ.n l&&e8 (σ.hp.length+l.length) (qs.map (·.1)))with
   |false=>grind
   |true=>rw[hb]at h;simp only[aaJ,aaC]at h;subst h;simp only[aaD]at hb;obtain⟨k1,k2,k3⟩:=yu J0 (fun i=>(qs[i]? ).bind (·.2)) (fun j q hj=>by simp[hj]);refine WC.draw hm k1 hb.1.1 hb.1.2 hb.2 (fun i o r ho hr f args mz hg=>?_ ) hq;simp only[abz,aaG]at hr;obtain⟨q,Ah,rfl⟩:=hr;obtain⟨e1,e2⟩:=k3 i o q ho Ah f args mz;simp only[aaY]at e1 e2;have e3:=e2 hg;rw[e1]at e3;exact(hp _ _ _ e3).uY
theorem DR{α:Type}:∀{l:List α}{a:α},l.getLast?=some a->l=l.dropLast++[a]
 |[],a,h=>by simp at h
 |[x],a,h=>by grind
 |x::y::l,a,h=>by
  have:(y::l).getLast?=some a:=by grind
  have:=DR this;grind
theorem CN{call:bm}(hm:P.follows .mixedOrders=true)(hc:b6 P GL call)(hp:bH P GL aE)(h:yr GL call aE l σ=some aY)(hq:Q .normal aY):WC P GL (.draw l) σ Q:=by
 unfold yr at h;split at h
 ·cases h
 ·rename_i ot tq;split at h
  ·rename_i ft Ac Qv;split at h
   ·cases h
   ·rename_i Ai;split at h
    ·cases h
    ·rename_i xi dp;split at h
     ·cases h
     ·rename_i v H' dz;have hl:l=l.dropLast++[ot]:=DR tq;rw[hl];unfold Hw at Ai;split at Ai
      ·cases Ai
      ·rename_i ND;simp only[aaD,aa3]at Ai;obtain⟨t1,t2⟩:=Ai;unfold qI at dp;split at dp
       ·cases dp
       ·rename_i qs J0;simp only at dp;cases hb:(dW l.dropLast (qs.map (·.1))&&gx σ.n l.dropLast&&e8 (σ.hp.length+l.dropLast.length) (qs.map (·.1)))with
         |false=>grind
         |true=>
          rw[hb]at dp;simp only[aaJ,aaC]at dp;subst dp;simp only[aaD]at hb;obtain⟨k1,k2,k3⟩:=yu J0 (fun i=>(qs[i]? ).bind (·.2)) (fun j q hj=>by simp[hj]);refine WC.Hs hm k1 hb.1.1 hb.1.2 hb.2 (fun i o r ho hr f args mz hg=>?_ ) Qv ND (fun e he=>by grind[Nat.blt_eq]) (fun j hj=>?_ ) ((hc _ _ _ _ _ dz).mono ?_ )
          ·simp only[abz,aaG]at hr;obtain⟨q,Ah,rfl⟩:=hr;obtain⟨e1,e2⟩:=k3 i o q ho Ah f args mz;simp only[aaY]at e1 e2;have e3:=e2 hg;rw[e1]at e3;exact(hp _ _ _ e3).uY
          ·have:=t2 j (ab5.2 hj);rw[List.any_eq_true]at this;obtain⟨e,he,h2⟩:=this;refine⟨e,he,?_⟩;rw[aa8]at h2;rcases h2 with h2|h2
           ·exact .inl (aaM h2)
           grind
          grind
  ·cases h
theorem Aj{call:bm}(hm:P.follows .mixedOrders=true)(hc:b6 P GL call)(hp:bH P GL aE)(h:u7 GL call aE l σ=some aY)(hq:Q .normal aY):WC P GL (.draw l) σ Q:=by
 unfold u7 at h;split at h
 ·rename_i s1 h1;simp only[aaC]at h;subst h;exact CM hm hp h1 hq
 ·exact CN hm hc hp h hq
theorem Hy{b:IR}{step:St->Option (Ex×St)}(hs:∀σ e aY,step σ=some (e,aY)->WC P GL b σ (fun e' s=>e'=e/\s=aY)){n:Nat}{e:Ex}(h:xp step n σ=some (e,aY)):WC P GL (.loop b) σ (fun e' s=>e'=e/\s=aY):=by
 refine WC.loop (fun m s=>xp step m s=some (e,aY)) (fun m s hm=>?_ ) h;cases m with
  |zero=>grind[xp]
  |succ m=>
   simp only[xp]at hm;split at hm
   ·rename_i s1 h1;refine(hs _ _ _ h1).mono ?_;grind
   ·rename_i r fq;refine(hs _ _ _ hm).mono ?_;simp_all
theorem iT{own:List Nat}{call:bm}{aE:ba}(hm:P.follows .mixedOrders=true)(hc:b6 P GL call)(hp:bH P GL aE){n:Nat}:∀{c:IR}{σ:St}{e:Ex}{aY:St},nl own GL call aE n c σ=some (e,aY)->WC P GL c σ (fun e' s=>e'=e/\s=aY)
 | .skip,σ,e,aY,h=>by simp only[nl,aaC,aaE]at h;obtain⟨rfl,rfl⟩:=h;exact WC.skip ⟨rfl,rfl⟩
 | .region l,σ,e,aY,h=>by
  simp only[nl]at h;split at h
  ·rename_i s1 h1;simp only[aaC,aaE]at h;obtain⟨rfl,rfl⟩:=h;exact WC.region (lU hc h1 ⟨rfl,rfl⟩)
  ·cases h
 | .draw l,σ,e,aY,h=>by
  simp only[nl]at h;split at h
  ·rename_i s1 h1;simp only[aaC,aaE]at h;obtain⟨rfl,rfl⟩:=h;exact Aj hm hc hp h1 ⟨rfl,rfl⟩
  ·cases h
 | .seq a b,σ,e,aY,h=>by
  simp only[nl]at h;split at h
  ·rename_i s1 h1;refine WC.seq ((iT hm hc hp h1).mono ?_ );rintro e' s' ⟨rfl,rfl⟩;exact iT hm hc hp h
  ·rename_i r fq;refine WC.seq ((iT hm hc hp h).mono ?_ );simp_all
 | .cond c a b,σ,e,aY,h=>by
  simp only[nl]at h;split at h
  ·rename_i ht;exact WC.cond ht (iT hm hc hp h)
  ·rename_i ht;exact WC.cond ht (iT hm hc hp h)
  ·cases h
 | .block id b,σ,e,aY,h=>by
  simp only[nl]at h;split at h
  ·rename_i i s1 h1;refine WC.block ((iT hm hc hp h1).mono ?_ );grind
  ·rename_i r fq;refine WC.block ((iT hm hc hp h).mono ?_ );simp_all
 | .loop b,σ,e,aY,h=>by simp only[nl]at h;exact Hy (fun s e' s' hs=>iT hm hc hp hs) h
 | .exit id,σ,e,aY,h=>by simp only[nl,aaC,aaE]at h;obtain⟨rfl,rfl⟩:=h;exact WC.exit ⟨rfl,rfl⟩
 | .ret,σ,e,aY,h=>by simp only[nl,aaC,aaE]at h;obtain⟨rfl,rfl⟩:=h;exact WC.ret ⟨rfl,rfl⟩
theorem lV(hp:bH P GL gJ)(hr:b6 P GL ka):bH P GL (nX gJ ka):=by
 intro f args v h;unfold nX at h;split at h
 ·rename_i u hu;simp only[aaC]at h;subst h;exact hp _ _ _ hu
 ·cases hb:av 0 args with
   |false=>grind
   |true=>
    rw[hb]at h;simp only[aaJ]at h;split at h
    ·rename_i r H NG;refine PC.of hb ((hr _ _ _ _ _ NG).mono ?_ );grind
    ·cases h
theorem u9{rf:FuncId->Bool}(hp:bH P GL gJ)(hr:b6 P GL ka):b6 P GL (uh rf gJ ka):=by
 intro f args H v H' h;unfold uh at h;split at h
 ·rename_i u hu;simp only[aaC,aaE]at h;obtain⟨rfl,rfl⟩:=h;cases hrf:rf f with
   |true=>grind
   |false=>rw[hrf]at hu;exact WF.Fx (lV hp hr _ _ _ hu) ⟨rfl,rfl⟩
 ·split at h
  ·rename_i u H1 NG;simp only[aaC]at h;refine WF.cut ((hr _ _ _ _ _ NG).mono ?_ );rintro r' H2 ⟨rfl,rfl⟩;unfold Hx at h;grind
  ·cases h
def yv(P:Program)(GL:ch)(pL:CK):Prop:=∀aE,bH P GL aE->b6 P GL (pL aE)
theorem Fy{rf:FuncId->Bool}{pL:CK}(hh:yv P GL pL)(hp:bH P GL gJ)(hr:b6 P GL ka):b6 P GL (CL rf pL gJ ka):=by
 intro f args H v H' h;unfold CL at h;split at h
 ·rename_i r jH;simp only[aaC]at h;subst h;exact hh _ (lV hp hr) _ _ _ _ _ jH
 ·exact u9 hp hr _ _ _ _ _ h
end
end Fw
/-
  A call that touches nothing, handed memory of an own box to read: the answer is bools, numbers and strings.
-/
namespace Fw
open Go
def Ak:V->Bool| .d (.bool _)=>true| .d (.int _ _)=>true| .d (.str _)=>true| .gm=>true| .bN=>true|_=>false
def Al:V->Bool| .tuple vs=>vs.all Ak|v=>Ak v
theorem Am{g g':G}{w w':World}{u:V}{x:Value}(h:Ak u=true)(hx:RV g w u x):RV g' w' u x:=by
 unfold Ak at h;split at h
 ·simpa only[RV,Rd]using hx
 ·simpa only[RV,Rd]using hx
 ·simpa only[RV,Rd]using hx
 ·simpa only[RV]using hx
 ·simpa only[RV]using hx
 ·cases h
theorem An{g g':G}{w w':World}:∀{us:List V}{xs:List Value},us.all Ak=true->aT g w us xs->aT g' w' us xs
 |[],[],_,_=>by simp only[aT]
 |[],_::_,_,h=>by simp only[aT]at h
 |_::_,[],_,h=>by simp only[aT]at h
 |u::us,x::xs,ha,h=>by simp only[aaX,aaD]at ha;simp only[aT]at h⊢;exact⟨Am ha.1 h.1,An ha.2 h.2⟩
theorem Hz{g g':G}{w w':World}{u:V}{x:Value}(h:Al u=true)(hx:RV g w u x):RV g' w' u x:=by
 unfold Al at h;split at h
 ·simp only[RV]at hx⊢;obtain⟨y,rfl,hy⟩:=hx;exact⟨y,rfl,An h hy⟩
 ·exact Am h hx
section
variable {P:Program}{GL:ch}
theorem WF.borrow{f:FuncId}{args u_:List V}{v:V}{H:ao}{Q:V->ao->Prop}(hd:bW (qm H) args=some u_)(h:PC P GL f u_ v)(hs:Al v=true)(hq:Q v H):WF P GL f args H Q:=by
 refine⟨h.1,fun g w vs dU hh hg=>?_ ⟩;let g0:G:=⟨g.cV,fun _=>none,g.fo⟩;have wO:∀k,Ae g w k->cZ g0 w k:=fun k hk=>⟨hk.1,hk.2,fun b x hx=>by cases hx⟩
 have JP:=cA hd;have hvl:=dU.length;have Nv:aT g0 w u_ vs.toList:=aT.iy (by omega) fun i u y hu hy=>by
  have hi:i<args.length:=by have:=(aaO.1 hu).1;omega
  obtain⟨u2,k1,k2⟩:=jm i _ hd (aaI hi);rw[hu]at k1;simp only[aaC]at k1;subst k1;obtain⟨z,k3,k4⟩:=dU.get i (aaI hi);rw[hy]at k3;simp only[aaC]at k3;subst k3;exact(u6 hh k2 k4).rv wO
 have hG:gW GL g0 w:=⟨fun n cs hn=>⟨wO _ (nk (hg.rd n cs hn).1),dC.keeps (show jS w w (cZ g w) (cZ g0 w)from jS.of fun k hk=>wO k (nk hk)) (hg.rd n cs hn).1 _ _ (hg.rd n cs hn).2⟩,fun k hk=>⟨wO _ (nk (hg.w0 k hk).1),(hg.w0 k hk).2⟩⟩;refine(h.2 g0 w vs Nv (fun k hk=>(hh.fo k hk).1) (fun b x k hx=>by cases hx) hG).mono ?_;rintro e w' ⟨x,rfl,hx,he,-⟩;have pE:∀b y k,g.γ b=some y->y.own=some k->w'.heap[k]? =w.heap[k]? :=fun b y k hy hk=>(he.keeps k (wO k (hh.u5 hy hk))).2
 have zU:cg g w g w':=⟨he.os,he.tape,he.output,he.size,fun k hk=>⟨⟨abr hk.1 he.size,hk.2⟩,(he.keeps k (wO k (nk hk))).2⟩,fun _ h=>h,fun _ _=>GB.step.refl _,rfl,he.fp⟩;exact⟨x,v,g,H,rfl,hq,Hz hs hx,hh.ext zU pE,zU⟩
end
end Fw
/-
  Rules for symbolic proofs: a run's answer, a loop over a row of states, a function's body; summaries of callees in a table.
-/
namespace Fw
open Go
section
variable {P:Program}{GL:ch}
theorem WC.run{own:List Nat}{call:bm}{aE:ba}(hm:P.follows .mixedOrders=true)(hc:b6 P GL call)(hp:bH P GL aE){n:Nat}{c:IR}{σ:St}{e:Ex}{aY:St}{Q:Ex->St->Prop}(h:nl own GL call aE n c σ=some (e,aY))(hq:Q e aY):WC P GL c σ Q:=(iT hm hc hp h).mono fun _ _ ⟨h1,h2⟩=>by subst h1;subst h2;exact hq
theorem WC.pre{c:IR}{σ aY:St}{Q:Ex->St->Prop}(cm:List Nat)(hc:gQ cm σ.hp.length σ=some aY)(h:WC P GL c aY Q):WC P GL c σ Q:=by
 intro code uQ g w a hr;have lI:∀b,g.cV b->b<σ.hp.length:=fun b hb=>hr.heap.cV b hb
 have he:cg g w (g.cut σ.hp.length) w:=(cg.refl g w).cut lI;exact wp_mono (h code uQ _ w a (hr.clean hc)) (di.ext he)
theorem PC.body{f:FuncId}{fn:ca}{args:List V}{v:V}(hf:aC P f=some fn)(Cz:ak P f=true)(hn:args.length<=fn.ntmps)(hd:av 0 args=true)(h:WC P GL fn.body ⟨fn.ntmps,wP 0 args,[]⟩ (fun e σ=>match e with| .exit _=>False|_=>(gH fn.res σ).bind (fc σ.hp)=some v)):PC P GL f args v:=PC.of hd (WF.body hf Cz hn (h.mono fun e s hq=>by
 have key:∀{r:Option V},r.bind (fc s.hp)=some v->∃x,r=some x/\fc s.hp x=some v:=by
  intro r hr;cases r with
   |none=>simp at hr
   |some x=>exact⟨x,rfl,by simpa using hr⟩
 cases e with
  |exit i=>exact hq
  |normal=>exact key hq
  |ret=>exact key hq))
abbrev NH:=List (FuncId×(List V->Option V))
def pr:NH->ba|[],_,_=>none|(k,s)::l,f,args=>bif Nat.beq k f then s args else pr l f args
theorem QB{l:NH}(h:∀p∈l,∀args v,p.2 args=some v->PC P GL p.1 args v):bH P GL (pr l):=by
 induction l with
  |nil=>intro f args v hv;simp[pr]at hv
  |cons p l ih=>
   intro f args v hv;obtain⟨k,s⟩:=p;simp only[pr]at hv;cases hb:Nat.beq k f with
    |true=>rw[hb]at hv;have:=aaM hb;subst this;exact h _ abo _ _ hv
    |false=>rw[hb]at hv;exact ih (fun q hq=>h q (abe _ hq)) _ _ _ hv
end
end Fw
