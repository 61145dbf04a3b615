/-
  Boxes that nothing refers to are dropped; slots are forgotten; what a row of boxes reads as, to the bottom; calls that touch nothing.
-/
import Derived.Test.YtpeomfjbcdahnaaGreatDoorFc
set_option linter.unusedSimpArgs false
set_option linter.unusedVariables false
namespace Fw
open Go
mutual
def aE(n:Nat):V->Bool| .ptr b _ _=>Nat.blt b n| .sl b _ _ _ _=>Nat.blt b n| .map b=>Nat.blt b n| .iter b _=>Nat.blt b n| .gI b=>Nat.blt b n| .func _ a c=>aJ n a&&aJ n c| .iface _ v=>aE n v| .agg cs=>aJ n cs| .tuple vs=>aJ n vs|_=>true
def aJ(n:Nat):List V->Bool|[]=>true|v::vs=>aE n v&&aJ n vs
end
def dq(n:Nat):bR->Bool
 | .cells cs=>aJ n cs
 | .map es=>es.all fun p=>aE n p.2
 | .bH m _ _=>Nat.blt m n
 | .loop _ tm _ _ _ _=>tm.all fun p=>aE n (get tm p.1)
 |_=>true
def a6(n:Nat):an->Bool|[]=>true|none::H=>a6 n H|some b::H=>dq n b&&a6 n H
def G.cut(g:G)(n:Nat):G:=⟨fun b=>g.cd b/\b<n,fun b=>if b<n then g.γ b else none,g.fo,g.base⟩
theorem jI{g:G}{w:World}{n k:Nat}(h:cl g w k):cl (g.cut n) w k:=by
 refine⟨h.1,h.2.1,fun b x hx=>?_ ⟩;simp only[G.cut]at hx;split at hx
 ·exact h.2.2 b x hx
 ·cases hx
structure nA (n:Nat) (g g':G) (w:World):Prop where
 cd:∀b,b<n->g.cd b->g'.cd b
 γ:∀b,b<n->g'.γ b=g.γ b
 cl:∀k,cl g w k->cl g' w k
theorem nA.keeps{n:Nat}{g g':G}{w:World}(h:nA n g g' w):gR w w (Fw.cl g w) (Fw.cl g' w):=fun k hk=>⟨h.cl k hk,rfl⟩
mutual
theorem RV.agree{n:Nat}{g g':G}{w:World}(h:nA n g g' w):∀(u:V)(v:Value),aE n u=true->RV g w u v->RV g' w u v
 | .any,_,_,_=>by simp only[RV]
 | .d x,v,_,hv=>by simp only[RV]at hv⊢;exact Rd.keeps h.keeps _ _ hv
 | .full es,v,_,hv=>by simp only[RV]at hv⊢;exact⟨Rd.keeps h.keeps _ _ hv.1,hv.2⟩
 | .ak,_,_,hv=>by grind[RV]
 | .ptr b hh off,v,hn,hv=>by simp only[aE,aaR]at hn;simp only[RV]at hv⊢;exact⟨⟨hv.1.1,h.cd b hn hv.1.2⟩,fun x hx=>hv.2 x (by rw[←h.γ b hn];exact hx)⟩
 | .lD,_,_,hv=>by grind[RV]
 | .aO cs,v,_,hv=>by
  simp only[RV]at hv⊢;obtain⟨aM,off,h1,h2,h3⟩:=hv;refine⟨aM,off,h1,fun hn=>h.cl _ (h2 hn),?_ ⟩;cases cs with
   |nil=>simp only[cP]
   |cons c cs=>exact cP.keeps h.keeps (h2 (by simp)) _ _ h3
 | .sl b hh off len sz,v,hn,hv=>by simp only[aE,aaR]at hn;simp only[RV]at hv⊢;exact⟨⟨hv.1.1,h.cd b hn hv.1.2⟩,fun x hx=>hv.2 x (by rw[←h.γ b hn];exact hx)⟩
 | .map b,v,hn,hv=>by simp only[aE,aaR]at hn;simp only[RV]at hv⊢;exact⟨⟨hv.1.1,h.cd b hn hv.1.2⟩,fun x hx=>hv.2 x (by rw[←h.γ b hn];exact hx)⟩
 | .kC,_,_,hv=>by grind[RV]
 | .func f a c,v,hn,hv=>by simp only[aE,aas]at hn;simp only[RV]at hv⊢;obtain⟨x,y,h1,h2,h3⟩:=hv;exact⟨x,y,h1,aN.agree h _ _ hn.1 h2,aN.agree h _ _ hn.2 h3⟩
 | .oK,_,_,hv=>by grind[RV]
 | .iface t u,v,hn,hv=>by simp only[aE]at hn;simp only[RV]at hv⊢;obtain⟨x,h1,h2⟩:=hv;exact⟨x,h1,RV.agree h _ _ hn h2⟩
 | .bz,_,_,hv=>by grind[RV]
 | .fy,_,_,hv=>by grind[RV]
 | .agg cs,v,hn,hv=>by simp only[aE]at hn;simp only[RV]at hv⊢;obtain⟨x,h1,h2⟩:=hv;exact⟨x,h1,aN.agree h _ _ hn h2⟩
 | .tuple vs,v,hn,hv=>by simp only[aE]at hn;simp only[RV]at hv⊢;obtain⟨x,h1,h2⟩:=hv;exact⟨x,h1,aN.agree h _ _ hn h2⟩
 | .iter b m,v,hn,hv=>by simp only[aE,aaR]at hn;simp only[RV]at hv⊢;exact⟨⟨hv.1.1,h.cd b hn hv.1.2⟩,fun x hx=>hv.2 x (by rw[←h.γ b hn];exact hx)⟩
 | .gI b,v,hn,hv=>by simp only[aE,aaR]at hn;simp only[RV]at hv⊢;exact⟨⟨hv.1.1,h.cd b hn hv.1.2⟩,fun x hx=>hv.2 x (by rw[←h.γ b hn];exact hx)⟩
theorem aN.agree{n:Nat}{g g':G}{w:World}(h:nA n g g' w):∀(us:List V)(vs:List Value),aJ n us=true->aN g w us vs->aN g' w us vs
 |[],[],_,_=>by simp only[aN]
 |u::us,v::vs,hn,hv=>by simp only[aJ,aas]at hn;simp only[aN]at hv⊢;exact⟨RV.agree h _ _ hn.1 hv.1,aN.agree h _ _ hn.2 hv.2⟩
 |[],_::_,_,hv=>by grind[aN]
 |_::_,[],_,hv=>by grind[aN]
end
variable {n:Nat}{w:World}
theorem fm(g:G)(w:World)(n:Nat):nA n g (g.cut n) w:=⟨fun _ hb hd=>⟨hd,hb⟩,fun b hb=>by simp[G.cut,hb],fun _ hk=>jI hk⟩
theorem e_{n:Nat}:∀{H:an}{b:Nat}{y:bR},a6 n H=true->aC H b=some y->dq n y=true
 |[],b,y,_,h=>by simp[aC]at h
 |none::H,0,y,_,h=>by simp[aC]at h
 |some x::H,0,y,hl,h=>by simp_all[a6,aas,aC]
 |none::H,b+1,y,hl,h=>by simp only[a6]at hl;exact e_ hl h
 |some x::H,b+1,y,hl,h=>by simp only[a6,aas]at hl;exact e_ hl.2 h
theorem qn:∀(H:an)(n b:Nat),aC (H.take n) b=if b<n then aC H b else none
 |[],n,b=>by simp[aC]
 |x::H,0,b=>by simp[aC]
 |x::H,n+1,0=>by simp[aC]
 |x::H,n+1,b+1=>by simp[aC,qn H n b]
theorem Bv:∀(tm:List (Nat×V))(t:Nat),get tm t=.any\/∃p∈tm,p.1=t
 |[],_=>.inl rfl
 |(s,u)::l,t=>by
  simp only[get];cases h:Nat.beq s t with
   |true=>exact .inr ⟨(s,u),by simp,aau h⟩
   |false=>
    rcases Bv l t with e|⟨p,hp,e⟩
    ·exact .inl e
    ·exact .inr ⟨p,aaY _ hp,e⟩
theorem xR{tm:List (Nat×V)}(t:Nat)(h:(tm.all fun p=>aE n (get tm p.1))=true):aE n (get tm t)=true:=by
 rcases Bv tm t with e|⟨p,hp,rfl⟩
 ·rw[e];rfl
 ·exact aaJ.1 h p hp
theorem RB.agree{g g':G}{x:GB}{y:bR}(h:nA n g g' w)(hy:dq n y=true)(hr:RB g w x y):RB g' w x y:=by
 cases x with
  |cells aM cp cur=>
   cases y with
    |cells cs=>simp only[RB]at hr⊢;obtain⟨h1,h2,h3,c,e,h4,h5,h6⟩:=hr;exact⟨h1,h2,h3,c,e,h4,h5,aN.agree h _ _ hy h6⟩
    |_=>grind[RB]
  |nil=>grind[RB]
  |obj aM=>
   cases y with
    |map es=>
     simp only[RB]at hr⊢;obtain⟨bA,clock,h1,h2,h3,h4⟩:=hr;refine⟨bA,clock,h1,h2,fun i k v hi=>?_,h4⟩;obtain⟨z,KS,Hu,Hv,Oy⟩:=h3 i k v hi;have:aE n v=true:=by grind[dq,List.all_eq_true]
     exact⟨z,KS,Hu,Rd.keeps h.keeps _ _ Hv,RV.agree h _ _ this Oy⟩
    |uz s pos=>grind[RB]
    |loop k tm ps ca cb st=>simp only[RB]at hr⊢;obtain⟨r,h1,h2,h3,h4⟩:=hr;exact⟨r,h1,h2,fun t=>RV.agree h _ _ (xR t hy) (h3 t),h4⟩
    |bH m k seen=>simp only[RB]at hr⊢;obtain⟨mb,sa,h1,h2,h3,h4⟩:=hr;simp only[dq,aaR]at hy;exact⟨mb,sa,h1,h2,h.cd m hy h3,fun x hx=>h4 x (by rw[←h.γ m hy];exact hx)⟩
    |_=>grind[RB]
theorem aw.cut{g:G}{H:an}(hh:aw g w H)(hl:a6 n (H.take n)=true):aw (g.cut n) w (H.take n):=by
 refine⟨fun b hb=>?_,fun b x hx=>?_,fun b y hy=>?_,fun b b' x x' k hx lx hk kx=>?_,fun k hk=>⟨(hh.fo k hk).1,fun b x hx=>?_ ⟩⟩
 ·have:=hh.cd b hb.1;have:=hb.2;simp;omega
 ·simp only[G.cut]at hx;split at hx
  ·rename_i hb;obtain⟨h1,y,h2,h3⟩:=hh.live b x hx;have hg:aC (H.take n) b=some y:=by grind[qn]
   exact⟨⟨h1,hb⟩,y,hg,RB.agree (fm g w n) (e_ hl hg) h3⟩
  ·cases hx
 ·rw[qn]at hy;split at hy
  ·rename_i hb;obtain⟨x,hx⟩:=hh.back b y hy;grind[G.cut]
  ·cases hy
 ·simp only[G.cut]at hx lx;split at hx
  ·split at lx
   ·exact hh.inj b b' x x' k hx lx hk kx
   grind
  ·cases hx
 ·simp only[G.cut]at hx;split at hx
  ·exact(hh.fo k hk).2 b x hx
  ·cases hx
theorem bu.cut{g0 g:G}{w0:World}(h:bu g0 w0 g w)(hn:∀b,g0.cd b->b<n):bu g0 w0 (g.cut n) w:=⟨h.os,h.tape,h.output,h.size,fun k hk=>⟨jI (h.keeps k hk).1,(h.keeps k hk).2⟩,fun b hb=>⟨h.cd b hb,hn b hb⟩,fun b hb=>by simp only[G.cut,hn b hb,abK];exact h.step b hb,h.fo,h.base,h.dw⟩
def fc(cB:List Nat):List (Nat×V)->List (Nat×V)|[]=>[]|(t,v)::l=>bif cB.any (Nat.beq t)then(t,v)::fc cB l else fc cB l
theorem nX(cB:List Nat)(t:Nat):∀(l:List (Nat×V)),get (fc cB l) t=get l t\/get (fc cB l) t=.any
 |[]=>.inl rfl
 |(s,v)::l=>by
  simp only[fc];cases hk:cB.any (Nat.beq s)with
   |true=>
    simp only[aaw,get];cases Nat.beq s t with
     |true=>grind
     |false=>exact nX cB t l
   |false=>
    simp only[aaM,get];cases hb:Nat.beq s t with
     |true=>
      have e:=aau hb;subst e;right;have xh:∀(l:List (Nat×V)),get (fc cB l) s=.any:=by
       intro l;induction l with
        |nil=>rfl
        |cons p l ih=>
         obtain⟨q,u⟩:=p;simp only[fc];cases hq:cB.any (Nat.beq q)with
          |true=>
           simp only[aaw,get];cases Hy:Nat.beq q s with
            |true=>have:=aau Hy;grind
            |false=>exact ih
          |false=>exact ih
      exact xh l
     |false=>exact nX cB t l
def sI(n:Nat):List (Nat×V)->Bool|[]=>true|(_,v)::l=>aE n v&&sI n l
theorem xS{n t:Nat}:∀{l:List (Nat×V)},sI n l=true->aE n (get l t)=true
 |[],_=>rfl
 |(s,v)::l,h=>by
  simp only[sI,aas]at h;simp only[get];cases Nat.beq s t with
   |true=>exact h.1
   |false=>exact xS h.2
def gK(cB:List Nat)(n:Nat)(σ:St):Option St:=let tm:=fc cB σ.tm;bif sI n tm&&a6 n (σ.hp.take n)then some ⟨σ.n,tm,σ.hp.take n⟩else none
section
variable {P:Program}{GL:bM}
theorem R.clean{cB:List Nat}{n:Nat}{g:G}{w:World}{a:Act}{σ aS:St}(h:R GL g w a σ)(hc:gK cB n σ=some aS):R GL (g.cut n) w a aS:=by
 unfold gK at hc;simp only at hc;cases hb:(sI n (fc cB σ.tm)&&a6 n (σ.hp.take n))with
  |false=>grind
  |true=>
   rw[hb]at hc;simp at hc;subst hc;simp at hb;refine⟨⟨h.defers.1,h.defers.2.1,fun d hd=>(h.defers.2.2 d hd).imp fun D hD=>⟨hD.1,hD.2.1,jI hD.2.2.1,hD.2.2.2⟩⟩,h.size,fun t=>?_,h.heap.cut hb.2,⟨fun m cs hm=>⟨jI (h.cD.rd m cs hm).1,cP.keeps (fm g w n).keeps (h.cD.rd m cs hm).1 _ _ (h.cD.rd m cs hm).2⟩,fun k hk=>⟨jI (h.cD.w0 k hk).1,(h.cD.w0 k hk).2⟩⟩⟩;have cy:=xS (t:=t) hb.1;rcases nX cB t σ.tm with e|e
   ·rw[e]at cy⊢;exact RV.agree (fm g w n) _ _ cy (h.tmps t)
   grind[RV]
theorem WC.clean{c:IR}{σ:St}{Q:Ex->St->Prop}(n:Nat)(hn:σ.hp.length<=n)(h:WC P GL c σ (fun e aS=>Q e aS\/∃cB Ae,gK cB n aS=some Ae/\Q e Ae)):WC P GL c σ Q:=by
 intro code hc ro lE g w a hr;refine wpIn_mono (h code hc ro lE g w a hr) fun e a' w' hp=>?_
 obtain⟨g2,qS,h1,h2,h3⟩:=hp;have na:∀b,g.cd b->b<n:=fun b hb=>by have:=hr.heap.cd b hb;omega
 have key:∀ex,(Q ex qS\/∃cB Ae,gK cB n qS=some Ae/\Q ex Ae)->∃g3 aS,R GL g3 w' a' aS/\bu g w g3 w'/\Q ex aS:=by
  intro ex hq;rcases hq with hq|⟨cB,Ae,ky,hq⟩
  ·grind
  ·exact⟨_,Ae,h1.clean ky,h2.cut na,hq⟩
 cases e with
  |normal=>exact key _ h3
  |exit i=>exact key _ h3
  |ret=>exact key _ h3
  |goto l=>grind
  |panic c=>grind
  |outgrown=>grind
theorem WF.cut{f:FuncId}{args:List V}{H:an}{Q:V->an->Prop}(h:WF P GL f args H (fun v H'=>Q v H'\/(aE H.length v=true/\a6 H.length (H'.take H.length)=true/\Q v (H'.take H.length)))):WF P GL f args H Q:=by
 refine⟨h.1,fun g w vs cX hh hg=>(h.2 g w vs cX hh hg).mono ?_ ⟩;rintro e w' ⟨x,v,g',H',rfl,hq,hx,qg,he⟩;rcases hq with hq|⟨h1,h2,h3⟩
 ·grind
 ·exact⟨x,v,g'.cut H.length,_,rfl,h3,RV.agree (fm g' w' _) _ _ h1 hx,qg.cut h2,he.cut (fun b hb=>hh.cd b hb)⟩
end
end Fw
/-
  What rows of own boxes read as, to the bottom; calls that touch nothing.
-/
namespace Fw
open Go
variable {w:World}{H:an}{u:V}{v:Value}
def wj(g:G)(w:World)(k:Nat):Prop:=k<w.heap.size/\¬g.fo k
theorem fG{g:G}{k:Nat}(h:cl g w k):wj g w k:=⟨h.1,h.2.1⟩
theorem gR.of{im vL:Nat->Prop}(h:∀k,im k->vL k):gR w w im vL:=fun k hk=>⟨h k hk,rfl⟩
theorem aw.nY{g:G}(hh:aw g w H){b k:Nat}{x:GB}(hx:g.γ b=some x)(hk:x.own=some k):wj g w k:=by obtain⟨_,y,_,h3⟩:=hh.live b x hx;exact⟨h3.lt k hk,hh.qO hx hk⟩
theorem uX{w:World}{im:Nat->Prop}{aM sz:Nat}:∀{n:Nat}{off:Nat}{l:List D},l.length=n*sz->cP w im aM off l->dR w im aM off sz (fY sz n l)
 |0,_,_,_,_=>by grind[fY,dR]
 |n+1,off,l,hl,h=>by
  simp only[fY,dR];have hle:sz<=l.length:=by grind
  refine⟨by simp;omega,?_,?_ ⟩
  ·have:∀(k:Nat)(ds:List D)(q:Nat),cP w im aM q ds->cP w im aM q (ds.take k):=by
    intro k ds;induction ds generalizing k with
     |nil=>grind
     |cons d ds ih=>intro q hq;cases k<;>grind[cP]
   grind
  ·exact uX (by grind) (cP.drop sz h)
theorem xT{g:G}(hh:aw g w H):∀(f:Nat)(u:V)(v:Value)(d:D),lr H f u=some d->RV g w u v->Rd w (wj g w) d v:=by
 intro f;induction f with
  |zero=>
   intro u v d hd hv;cases u with
    |d x=>simp only[lr,aar]at hd;subst hd;simp only[RV]at hv;exact Rd.keeps (gR.of fun _ hk=>fG hk) _ _ hv
    |ak=>grind[lr,Option.some.injEq,RV,Rd]
    |_=>simp[lr]at hd
  |succ f ih=>
   intro u v d hd hv;cases u with
    |d x=>grind[lr,Option.some.injEq,RV]
    |ak=>grind[lr,Option.some.injEq,RV,Rd]
    |sl b hb off len sz=>
     simp only[lr]at hd;cases hg:aC H b with
      |none=>grind
      |some y=>
       cases y with
        |cells cs=>
         simp only[hg]at hd;cases hc:(Nat.beq cs.length hb&&Nat.ble (off+len*sz) hb)with
          |false=>grind
          |true=>
           rw[hc]at hd;simp at hd;split at hd
           ·rename_i l hl;simp at hd;subst hd;simp only[aas]at hc;have e2:=aax hc.2;obtain⟨aM,cp,c,e,h1,h2,h3,h4,h5,h6,h7⟩:=kJ hg hc.1 hh;obtain⟨cap,rfl,h8,h9⟩:=RV.qf hv h1;have hll:=bQ hl;have hlen:l.length=len*sz:=by grind
            have cX:=(h7.drop off).take (len*sz);simp only[Rd];refine .inr ⟨aM,off,cap,sz,by rw[iD],by grind[iD],fun _=>hh.nY h1 rfl,uX hlen (cP.kN (vs:=((c.toList.take hb).drop off).take (len*sz)) (by grind) (fun j d' v' hd fV=>?_ ) (fun j v' fV=>?_ ))⟩
            ·have hj:j<l.length:=(aaz.1 hd).1;have zM:j<((cs.drop off).take (len*sz)).length:=by omega
             obtain⟨d2,k1,k2⟩:=gU j _ hl (aay zM);rw[hd]at k1;simp at k1;subst k1;obtain⟨x,k3,k4⟩:=cX.get j (aay zM);grind
            grind[World.cell?]
           ·cases hd
        |nil=>
         simp only[hg]at hd;cases hc:Nat.beq len 0 with
          |false=>grind
          |true=>
           rw[hc]at hd;simp at hd;subst hd;obtain⟨x,hx⟩:=hh.back b _ hg;obtain⟨_,y,hy,hr⟩:=hh.live b x hx;rw[hg]at hy;simp at hy;subst hy;cases x with
            |cells=>grind[RB]
            |obj=>grind[RB]
            |nil=>obtain⟨_,_,_,rfl⟩:=RV.uC hv hx;simp[Rd]
        |_=>grind
    |_=>grind[lr]
def pq(w:World)(im:Nat->Prop):V->Value->Prop| .d x,v=>Rd w im x v| .fy,v=>v=.nilIface| .bz,v=>∃t x,v=.iface t x| .lD,v=>v=.pointer none| .agg cs,v=>∃(x:Array Value)(ds:List D),v=.agg x/\cs=ds.map V.d/\ds.length=x.size/\∀(j:Nat)(d:D)(y:Value),ds[j]? =some d->x[j]? =some y->Rd w im d y|_,_=>False
theorem aN.HW{g:G}{ds:List D}{vs:List Value}(hl:ds.length=vs.length)(h:∀(j:Nat)(d:D)(y:Value),ds[j]? =some d->vs[j]? =some y->Rd w (cl g w) d y):aN g w (ds.map V.d) vs:=by
 refine aN.eM (by grind) fun i u v hu hv=>?_
 grind[Option.map_eq_some_iff,RV]
theorem pq.rv{g:G}{im:Nat->Prop}(nt:∀k,im k->cl g w k)(h:pq w im u v):RV g w u v:=by
 cases u with
  |d x=>simp only[pq]at h;simp only[RV];exact Rd.keeps (gR.of nt) _ _ h
  |fy=>grind[pq,RV]
  |bz=>grind[pq,RV]
  |lD=>grind[pq,RV]
  |agg cs=>simp only[pq]at h;obtain⟨x,ds,rfl,rfl,h1,h2⟩:=h;simp only[RV];exact⟨x,rfl,aN.HW (by grind) (fun j d y hd hy=>Rd.keeps (gR.of nt) _ _ (h2 j d y hd (by grind)))⟩
  |_=>grind[pq]
theorem pt{g:G}(hh:aw g w H){r:V}(h:oQ H u=some r)(hv:RV g w u v):pq w (wj g w) r v:=by
 unfold oQ at h;split at h
 ·rename_i cs;split at h
  ·rename_i l hl;simp at h;subst h;simp only[RV]at hv;obtain⟨x,rfl,hx⟩:=hv;have hlen:=bQ hl;have Vd:=hx.length;simp at Vd;simp only[pq];refine⟨x,l,rfl,rfl,by omega,fun j d y hd hy=>?_ ⟩;have hj:j<cs.length:=by grind
   obtain⟨d2,k1,k2⟩:=gU j _ hl (aay hj);rw[hd]at k1;simp at k1;subst k1;obtain⟨z,k3,k4⟩:=hx.get j (aay hj);have:z=y:=by grind
   subst this;exact xT hh _ _ _ _ k2 k4
  ·cases h
 ·grind[Option.some.injEq,RV,pq]
 ·grind[Option.some.injEq,RV,pq]
 ·grind[Option.some.injEq,RV,pq]
 ·split at h
  ·rename_i x hx;simp at h;subst h;simp only[pq];exact xT hh _ _ _ _ hx hv
  ·cases h
theorem sJ{g g':G}(hh:aw g w H)(nt:∀k,wj g w k->cl g' w k){r:V}(h:fA H u=some r)(hv:RV g w u v):RV g' w r v:=by
 unfold fA at h;split at h
 ·rename_i vs;split at h
  ·rename_i l hl;simp at h;subst h;simp only[RV]at hv⊢;obtain⟨x,rfl,hx⟩:=hv;refine⟨x,rfl,aN.eM (by have:=bQ hl;have:=hx.length;omega) fun i u y hu hy=>?_ ⟩;have hi:i<vs.length:=by have:=(aaz.1 hu).1;have:=bQ hl;omega
   obtain⟨u2,k1,k2⟩:=gU i _ hl (aay hi);rw[hu]at k1;simp at k1;subst k1;obtain⟨z,k3,k4⟩:=hx.get i (aay hi);rw[hy]at k3;simp at k3;subst k3;exact(pt hh k2 k4).rv nt
  ·cases h
 ·exact(pt hh h hv).rv nt
section
variable {P:Program}{GL:bM}
variable {f:FuncId}{v:V}
theorem PC.VA{args:List V}{R:V->an->Prop}(hd:aJ 0 args=true)(h:WF P GL f args [] R)(hr:∀r H' g g' w x,R r H'->aw g' w H'->(∀k,wj g' w k->cl g w k)->RV g' w r x->RV g w v x):PC P GL f args v:=by
 refine⟨h.1,fun g w vs cX Hk gp hg=>?_ ⟩;let g0:G:=⟨fun _=>False,fun _=>none,fun k=>g.fo k\/∃b x,g.γ b=some x/\x.own=some k,g.base⟩;have nf:∀k,cl g w k↔cl g0 w k:=by
  intro k;constructor
  ·rintro⟨h1,h2,h3⟩;refine⟨h1,?_,fun b x hx=>by cases hx⟩;grind
  ·rintro⟨h1,h2,_⟩;exact⟨h1,fun h4=>h2 (.inl h4),fun b x hx hk=>h2 (.inr ⟨b,x,hx,hk⟩)⟩
 have xB:nA 0 g g0 w:=⟨fun b hb=>by omega,fun b hb=>by omega,fun k hk=>(nf k).1 hk⟩;have hH:aw g0 w []:=by refine⟨fun b hb=>hb.elim,fun b x hx=>(by cases hx),fun b y hy=>(by grind[aC]),fun b b' x x' k hx=>(by cases hx),fun k hk=>⟨?_,fun b x hx=>(by cases hx)⟩⟩;grind
 have hG:dX GL g0 w:=⟨fun n cs hn=>⟨(nf n).1 (hg.rd n cs hn).1,cP.keeps xB.keeps (hg.rd n cs hn).1 _ _ (hg.rd n cs hn).2⟩,fun k hk=>⟨(nf k).1 (hg.w0 k hk).1,(hg.w0 k hk).2⟩⟩;refine(h.2 g0 w vs (aN.agree xB _ _ hd cX) hH hG).mono ?_;rintro e w' ⟨x,r,g',H',rfl,Pb,hx,qg,he⟩;have ER:∀k,wj g' w' k->cl g w' k:=by rintro k ⟨h1,h2⟩;rw[he.fo]at h2;exact⟨h1,fun h3=>h2 (.inl h3),fun b x hx hk=>h2 (.inr ⟨b,x,hx,hk⟩)⟩
 refine⟨x,rfl,hr _ _ _ _ _ _ Pb qg ER hx,⟨he.os,he.tape,he.output,he.size,fun k hk=>?_,fun _ h=>h,fun _ _=>GB.step.refl _,rfl,rfl,fun k hk=>he.dw k (.inl hk)⟩,fun b y k hy hk=>he.dw k (.inr ⟨b,y,hy,hk⟩)⟩;obtain⟨h1,h2⟩:=he.keeps k ((nf k).1 hk);exact⟨⟨h1.1,hk.2.1,hk.2.2⟩,h2⟩
theorem PC.of{args:List V}(hd:aJ 0 args=true)(h:WF P GL f args [] (fun r H'=>fA H' r=some v)):PC P GL f args v:=PC.VA hd h fun _ _ _ _ _ _ h1 h2 h3 h4=>sJ h2 h3 h1 h4
theorem WF.ES{args:List V}{H:an}{Q:V->an->Prop}(h:PC P GL f args v)(hq:Q v H):WF P GL f args H Q:=by refine⟨h.1,fun g w vs cX hh hg=>(h.2 g w vs cX (fun k hk=>(hh.fo k hk).1) (RV.ep hh) hg).mono ?_ ⟩;rintro e w' ⟨x,rfl,hx,he,gp⟩;exact⟨x,v,g,H,rfl,hq,hx,hh.ext he gp,he⟩
end
end Fw
/-
  Running code of the abstract machine, for what is known whole; and that the model does the same.
-/
namespace Fw
open Go
abbrev aY:=FuncId->List V->an->Option (V×an)
abbrev ba:=FuncId->List V->Option V
def nZ(own:List Nat)(GL:bM)(tm:List (Nat×V))(o:ab):Option V:=match o.op with
 | .mkSlice _ _ _ _=>bif zu o.dst own then none else jQ (aT GL tm) o.op
 |_=>none
def kY(own:List Nat)(GL:bM)(call:aY):List ab->St->Option St
 |[],σ=>some σ
 |o::l,σ=>
  match aB o.guard σ.tm with
   |none=>none
   |some false=>
    match σ.put o.dst (.tuple []) σ.hp with
     |some aS=>kY own GL call l aS
     |none=>none
   |some true=>
    match o.op with
     | .call f args=>
      match call f (bI (aT GL σ.tm) args) σ.hp with
       |some (v,H')=>
        match σ.put o.dst v H' with
         |some aS=>kY own GL call l aS
         |none=>none
       |none=>none
     | .bY x args=>
      match aT GL σ.tm x with
       | .func f first cap=>
        match call f (first++bI (aT GL σ.tm) args++cap) σ.hp with
         |some (v,H')=>
          match σ.put o.dst v H' with
           |some aS=>kY own GL call l aS
           |none=>none
         |none=>none
       |_=>none
     |op=>
      match nZ own GL σ.tm o with
       |some v=>
        match σ.put o.dst v σ.hp with
         |some aS=>kY own GL call l aS
         |none=>none
       |none=>
        match bt (aT GL σ.tm) σ.hp σ.hp.length op with
         |some (v,wr)=>
          match σ.put o.dst v (bp σ.hp wr)with
           |some aS=>kY own GL call l aS
           |none=>none
         |none=>none
def ET(GL:bM)(aH:ba)(base:Nat):Nat->List ab->St->Option (List (((V×Wr)×List Nat)×Option V))
 |_,[],_=>some []
 |i,o::l,σ=>
  let cv:Option V:=match cx (aT GL σ.tm) o.op with
   |some (f,args)=>aH f args
   |none=>jQ (aT GL σ.tm) o.op
  match ig GL σ.tm σ.hp (base+i) o cv with
   |none=>none
   |some r=>
    match ET GL aH base (i+1) l (σ.gq o.dst r.1 (bp σ.hp r.2))with
     |none=>none
     |some rs=>some (((r,mK (aT GL σ.tm) o.op),cv)::rs)
def pv(GL:bM)(aH:ba)(l:List ab)(σ:St):Option St:=match ET GL aH σ.hp.length 0 l (et σ l.length)with
 |none=>none
 |some qs=>
  let rs:=qs.map (·.1);bif dU l rs&&gg σ.n l&&eP (σ.hp.length+l.length) rs then some (aL (fun _=>true) 0 l rs (et σ l.length))
  else none
def EU(l:List ab)(ot:ab):Bool:=match ot.guard with
 |some _=>false
 |none=>ot.after.all (fun e=>Nat.blt e l.length)&&(List.range l.length).all (fun j=>ot.after.any fun e=>Nat.beq j e||Nat.testBit ((dp 0 [] l).getD e 0) j)
def wk(GL:bM)(call:aY)(aH:ba)(l:List ab)(σ:St):Option St:=match l.getLast? with
 |none=>none
 |some ot=>
  match ot.op with
   | .call f args=>
    match EU l.dropLast ot with
     |false=>none
     |true=>
      match pv GL aH l.dropLast σ with
       |none=>none
       |some rO=>
        match call f (bI (aT GL rO.tm) args) rO.hp with
         |none=>none
         |some (v,H')=>rO.put ot.dst v H'
   |_=>none
def sK(GL:bM)(call:aY)(aH:ba)(l:List ab)(σ:St):Option St:=match pv GL aH l σ with
 |some aS=>some aS
 |none=>wk GL call aH l σ
def uY(step:St->Option (Ex×St)):Nat->St->Option (Ex×St)
 |0,_=>none
 |n+1,σ=>
  match step σ with
   |some (.normal,aS)=>uY step n aS
   |r=>r
def lH(own:List Nat)(GL:bM)(call:aY)(aH:ba)(n:Nat):IR->St->Option (Ex×St)
 | .skip,σ=>some (.normal,σ)
 | .region l,σ=>
  match kY own GL call l σ with
   |some aS=>some (.normal,aS)
   |none=>none
 | .draw l,σ=>
  match sK GL call aH l σ with
   |some aS=>some (.normal,aS)
   |none=>none
 | .seq a b,σ=>
  match lH own GL call aH n a σ with
   |some (.normal,aS)=>lH own GL call aH n b aS
   |r=>r
 | .cond c a b,σ=>
  match aT GL σ.tm c with
   | .d (.bool true)=>lH own GL call aH n a σ
   | .d (.bool false)=>lH own GL call aH n b σ
   |_=>none
 | .block id b,σ=>
  match lH own GL call aH n b σ with
   |some (.exit i,aS)=>if i=id then some (.normal,aS)else some (.exit i,aS)
   |r=>r
 | .loop b,σ=>uY (lH own GL call aH n b) n σ
 | .exit id,σ=>some (.exit id,σ)
 | .ret,σ=>some (.ret,σ)
 | .cZ _ _ _ _,_=>none
def EV(n:Nat)(v:V)(H:an):V×an:=bif aE n v&&a6 n (H.take n)then(v,H.take n)else(v,H)
def j8:FuncId:=1000000000000
def pw(call:aY):aY:=fun f args H=>bif Nat.beq f j8 then none else call f args H
def mO(gx:ba)(iH:aY):ba:=fun f args=>
 match gx f args with
  |some v=>some v
  |none=>
   bif aJ 0 args then
    (match pw iH f args []with
     |some (r,H)=>fA H r
     |none=>none)else none
def rP(rf:FuncId->Bool)(gx:ba)(iH:aY):aY:=fun f args H=>
 bif Nat.beq f j8 then iH f args H else
  match(bif rf f then none else mO gx iH f args)with
   |some v=>some (v,H)
   |none=>
    match iH f args H with
     |some (v,H')=>some (EV H.length v H')
     |none=>none
abbrev Af:=ba->aY
def Ag(rf:FuncId->Bool)(ng:Af)(gx:ba)(iH:aY):aY:=fun f args H=>
 bif Nat.beq f j8 then iH f args H else
  match ng (mO gx iH) f args H with
   |some r=>some r
   |none=>rP rf gx iH f args H
section
variable {P:Program}{GL:bM}
variable {σ aS:St}{aH gx:ba}{l:List ab}{Q:Ex->St->Prop}{iH:aY}
def jW(P:Program)(GL:bM)(call:aY):Prop:=∀f args H v H',call f args H=some (v,H')->WF P GL f args H (fun r h=>r=v/\h=H')
structure ct (P:Program) (GL:bM) (call:aY):Prop where
 fn:∀f args H v H',Nat.beq f j8=false->call f args H=some (v,H')->WF P GL f args H (fun r h=>r=v/\h=H')
 yl:∀args H v H',call j8 args H=some (v,H')->∃b as,args=.gI b::as/\(∃n tm ps ca cb st,aC H b=some (.loop n tm ps ca cb st))/\WY P GL b as H (fun r h=>r=v/\h=H')
theorem ct.g{call:aY}(hc:ct P GL call):jW P GL (pw call):=by
 intro f args H v H' h;unfold pw at h;cases hb:Nat.beq f j8 with
  |true=>rw[hb]at h;cases h
  |false=>rw[hb]at h;exact hc.fn _ _ _ _ _ hb h
def bG(P:Program)(GL:bM)(aH:ba):Prop:=∀f args v,aH f args=some v->PC P GL f args v
theorem kZ{own:List Nat}{call:aY}(hc:jW P GL call):∀{l:List ab}{σ aS:St}{Q:St->Prop},kY own GL call l σ=some aS->Q aS->WO P GL l σ Q
 |[],σ,aS,Q,h,hq=>by simp only[kY,aar]at h;subst h;exact WO.nil hq
 |o::l,σ,aS,Q,h,hq=>by
  simp only[kY]at h;split at h
  ·cases h
  ·rename_i hg;split at h
   ·rename_i rO h1;exact WO.skip hg h1 (kZ hc h hq)
   ·cases h
  ·rename_i hg;split at h
   ·rename_i f args ho;split at h
    ·rename_i v H' bZ;split at h
     ·rename_i rO h1;refine WO.call ho hg ((hc _ _ _ _ _ bZ).mono ?_ );rintro r hp ⟨rfl,rfl⟩;exact⟨rO,h1,kZ hc h hq⟩
     ·cases h
    ·cases h
   ·rename_i x args ho;split at h
    ·rename_i f first cap hx
     split at h
     ·rename_i v H' bZ;split at h
      ·rename_i rO h1;refine WO.bY ho hx hg ((hc _ _ _ _ _ bZ).mono ?_ );rintro r hp ⟨rfl,rfl⟩;exact⟨rO,h1,kZ hc h hq⟩
      ·cases h
     ·cases h
    ·cases h
   ·split at h
    ·rename_i v he;split at h
     ·rename_i rO h1;refine WO.jQ hg ?_ h1 (kZ hc h hq);unfold nZ at he;grind
     ·cases h
    ·split at h
     ·rename_i v wr he;split at h
      ·rename_i rO h1;exact WO.bt hg he h1 (kZ hc h hq)
      ·cases h
     ·cases h
theorem wm{aH:ba}{base:Nat}:∀{l:List ab}{i:Nat}{σ:St}{qs:List (((V×Wr)×List Nat)×Option V)},ET GL aH base i l σ=some qs->∀qc:Nat->Option CV,(∀j q,qs[j]? =some q->qc (i+j)=q.2.map .v)->nT GL base qc i l σ=some (qs.map (·.1))/\qs.length=l.length/\∀k o q,l[k]? =some o->qs[k]? =some q->∀f args,cx (aT GL (aL (fun j=>decide (j<i+k)) i l (qs.map (·.1)) σ).tm) o.op=some (f,args)->q.2=aH f args/\(aB o.guard (aL (fun j=>decide (j<i+k)) i l (qs.map (·.1)) σ).tm=some true->q.2=some q.1.1.1/\q.1.1.2=none)
 |[],i,σ,qs,h,qc,hq=>by simp only[ET,aar]at h;subst h;exact⟨rfl,rfl,by simp⟩
 |o::l,i,σ,qs,h,qc,hq=>by
  simp only[ET]at h;split at h
  ·cases h
  ·rename_i r hr;split at h
   ·cases h
   ·rename_i rs JL;simp only[aar]at h;subst h;have h0:=hq 0 _ rfl;simp only[abX]at h0;obtain⟨k1,k2,k3⟩:=wm JL qc (fun j q hj=>by have:=hq (j+1) q (by grind);grind);have uQ:∀(l:List ab)(rs:List ((V×Wr)×List Nat))(k:Nat)(σ:St),i<=k->aL (fun j=>decide (j<i)) k l rs σ=σ:=by
     intro l rs k σ hk;rw[er (K':=fun _=>false) (fun j _=>by simp;omega)];have:∀(l:List ab)(rs:List ((V×Wr)×List Nat))(i:Nat)(s:St),aL (fun _=>false) i l rs s=s:=by
      intro l;induction l with
       |nil=>grind[aL]
       |cons o l ih=>
        intro rs i s;cases rs with
         |nil=>simp[aL]
         |cons r rs=>simp_all[aL,aaM]
     grind
    refine⟨?_,by simp[k2],fun k o' q nV HX f args ky=>?_ ⟩
    ·simp only[nT,h0,z7,hr,k1,aaB]
    ·cases k with
      |zero=>simp at nV HX;subst nV;subst HX;simp only[abX,aaB]at ky⊢;rw[uQ _ _ _ _ (aaC _)]at ky⊢;refine⟨by simp only[ky],fun hg=>?_ ⟩;simp only[ky]at hr⊢;unfold ig at hr;rw[hg]at hr;simp only[ky]at hr;cases hp:aH f args<;>grind
      |succ k=>
       simp at nV HX;have e:i+(k+1)=i+1+k:=by omega
       simp only[aaB,aL,e,show decide (i<i+1+k)=true by simp;omega,aaw]at ky⊢;exact k3 k o' q nV HX f args ky
theorem Ah(hm:P.follows .mixedOrders=true)(hp:bG P GL aH)(h:pv GL aH l σ=some aS)(hq:Q .normal aS):WC P GL (.draw l) σ Q:=by
 unfold pv at h;split at h
 ·cases h
 ·rename_i qs Hy;simp only at h;cases hb:(dU l (qs.map (·.1))&&gg σ.n l&&eP (σ.hp.length+l.length) (qs.map (·.1)))with
   |false=>grind
   |true=>rw[hb]at h;simp at h;subst h;simp at hb;obtain⟨k1,k2,k3⟩:=wm Hy (fun i=>((qs[i]? ).bind (·.2)).map .v) (fun j q hj=>by simp[hj]);refine WC.draw hm k1 hb.1.1 hb.1.2 hb.2 (fun i o r ho hr f args ky hg=>?_ ) hq;simp only[aa4,aaA]at hr;obtain⟨q,Pc,rfl⟩:=hr;obtain⟨e1,e2⟩:=k3 i o q ho Pc f args (by rw[aaK];exact ky);simp at e1 e2;have e3:=(e2 hg).1;rw[e1]at e3;rw[show q.1.1=(q.1.1.1,none)from Prod.ext rfl (e2 hg).2];exact(hp _ _ _ e3).uT.Lr _
theorem Bw{α:Type}:∀{l:List α}{a:α},l.getLast?=some a->l=l.dropLast++[a]
 |[],a,h=>by simp at h
 |[x],a,h=>by grind
 |x::y::l,a,h=>by
  have:(y::l).getLast?=some a:=by grind
  have:=Bw this;grind
theorem Ai{call:aY}(hm:P.follows .mixedOrders=true)(hc:jW P GL call)(hp:bG P GL aH)(h:wk GL call aH l σ=some aS)(hq:Q .normal aS):WC P GL (.draw l) σ Q:=by
 unfold wk at h;split at h
 ·cases h
 ·rename_i ot xN;split at h
  ·rename_i ft xQ N';split at h
   ·cases h
   ·rename_i xU;split at h
    ·cases h
    ·rename_i rO cQ;split at h
     ·cases h
     ·rename_i v H' bZ;have hl:l=l.dropLast++[ot]:=Bw xN;rw[hl];unfold EU at xU;split at xU
      ·cases xU
      ·rename_i LC;simp only[aas,aaJ]at xU;obtain⟨t1,t2⟩:=xU;unfold pv at cQ;split at cQ
       ·cases cQ
       ·rename_i qs Hy;simp only at cQ;cases hb:(dU l.dropLast (qs.map (·.1))&&gg σ.n l.dropLast&&eP (σ.hp.length+l.dropLast.length) (qs.map (·.1)))with
         |false=>grind
         |true=>
          rw[hb]at cQ;simp only[aaw,aar]at cQ;subst cQ;simp only[aas]at hb;obtain⟨k1,k2,k3⟩:=wm Hy (fun i=>((qs[i]? ).bind (·.2)).map .v) (fun j q hj=>by simp[hj]);refine WC.EN hm k1 hb.1.1 hb.1.2 hb.2 (fun i o r ho hr f args ky hg=>?_ ) N' LC (fun e he=>by grind[Nat.blt_eq]) (fun j hj=>?_ ) ((hc _ _ _ _ _ bZ).mono ?_ )
          ·simp only[aa4,aaA]at hr;obtain⟨q,Pc,rfl⟩:=hr;obtain⟨e1,e2⟩:=k3 i o q ho Pc f args (by rw[aaK];exact ky);simp only[aaK]at e1 e2;have e3:=(e2 hg).1;rw[e1]at e3;rw[show q.1.1=(q.1.1.1,none)from Prod.ext rfl (e2 hg).2];exact(hp _ _ _ e3).uT.Lr _
          ·have:=t2 j (aa'.2 hj);rw[ab2]at this;obtain⟨e,he,h2⟩:=this;refine⟨e,he,?_⟩;rw[abj]at h2;rcases h2 with h2|h2
           ·exact .inl (aau h2)
           grind
          grind
  ·cases h
theorem xV{call:aY}(hm:P.follows .mixedOrders=true)(hc:jW P GL call)(hp:bG P GL aH)(h:sK GL call aH l σ=some aS)(hq:Q .normal aS):WC P GL (.draw l) σ Q:=by
 unfold sK at h;split at h
 ·rename_i s1 h1;simp at h;subst h;exact Ah hm hp h1 hq
 ·exact Ai hm hc hp h hq
theorem EW{b:IR}{step:St->Option (Ex×St)}(hs:∀σ e aS,step σ=some (e,aS)->WC P GL b σ (fun e' s=>e'=e/\s=aS)){n:Nat}{e:Ex}(h:uY step n σ=some (e,aS)):WC P GL (.loop b) σ (fun e' s=>e'=e/\s=aS):=by
 refine WC.loop (fun m s=>uY step m s=some (e,aS)) (fun m s hm=>?_ ) h;cases m with
  |zero=>grind[uY]
  |succ m=>
   simp only[uY]at hm;split at hm
   ·rename_i s1 h1;refine(hs _ _ _ h1).mono ?_;grind
   ·rename_i r hO;refine(hs _ _ _ hm).mono ?_;simp_all
theorem iI{own:List Nat}{call:aY}{aH:ba}(hm:P.follows .mixedOrders=true)(hc:jW P GL call)(hp:bG P GL aH){n:Nat}:∀{c:IR}{σ:St}{e:Ex}{aS:St},lH own GL call aH n c σ=some (e,aS)->WC P GL c σ (fun e' s=>e'=e/\s=aS)
 | .skip,σ,e,aS,h=>by simp only[lH,aar,aav]at h;obtain⟨rfl,rfl⟩:=h;exact WC.skip ⟨rfl,rfl⟩
 | .region l,σ,e,aS,h=>by
  simp only[lH]at h;split at h
  ·rename_i s1 h1;simp at h;obtain⟨rfl,rfl⟩:=h;exact WC.region (kZ hc h1 ⟨rfl,rfl⟩)
  ·cases h
 | .draw l,σ,e,aS,h=>by
  simp only[lH]at h;split at h
  ·rename_i s1 h1;simp at h;obtain⟨rfl,rfl⟩:=h;exact xV hm hc hp h1 ⟨rfl,rfl⟩
  ·cases h
 | .seq a b,σ,e,aS,h=>by
  simp only[lH]at h;split at h
  ·rename_i s1 h1;refine WC.seq ((iI hm hc hp h1).mono ?_ );rintro e' s' ⟨rfl,rfl⟩;exact iI hm hc hp h
  ·rename_i r hO;refine WC.seq ((iI hm hc hp h).mono ?_ );simp_all
 | .cond c a b,σ,e,aS,h=>by
  simp only[lH]at h;split at h
  ·rename_i ht;exact WC.cond ht (iI hm hc hp h)
  ·rename_i ht;exact WC.cond ht (iI hm hc hp h)
  ·cases h
 | .block id b,σ,e,aS,h=>by
  simp only[lH]at h;split at h
  ·rename_i i s1 h1;refine WC.block ((iI hm hc hp h1).mono ?_ );grind
  ·rename_i r hO;refine WC.block ((iI hm hc hp h).mono ?_ );simp_all
 | .loop b,σ,e,aS,h=>by simp only[lH]at h;exact EW (fun s e' s' hs=>iI hm hc hp hs) h
 | .exit id,σ,e,aS,h=>by simp only[lH,aar,aav]at h;obtain⟨rfl,rfl⟩:=h;exact WC.exit ⟨rfl,rfl⟩
 | .ret,σ,e,aS,h=>by simp only[lH,aar,aav]at h;obtain⟨rfl,rfl⟩:=h;exact WC.ret ⟨rfl,rfl⟩
 | .cZ _ _ _ _,σ,e,aS,h=>by simp only[lH]at h;cases h
theorem la(hp:bG P GL gx)(hr:ct P GL iH):bG P GL (mO gx iH):=by
 intro f args v h;unfold mO at h;split at h
 ·rename_i u hu;simp at h;subst h;exact hp _ _ _ hu
 ·cases hb:aJ 0 args with
   |false=>grind
   |true=>
    rw[hb]at h;simp at h;split at h
    ·rename_i r H LD;refine PC.of hb ((hr.g _ _ _ _ _ LD).mono ?_ );grind
    ·cases h
theorem sL{rf:FuncId->Bool}(hp:bG P GL gx)(hr:ct P GL iH):ct P GL (rP rf gx iH):=by
 refine⟨fun f args H v H' hf h=>?_,fun args H v H' h=>hr.yl _ _ _ _ h⟩;unfold rP at h;rw[hf,aaM]at h;split at h
 ·rename_i u hu;simp at h;obtain⟨rfl,rfl⟩:=h;cases hrf:rf f with
   |true=>grind
   |false=>rw[hrf]at hu;exact WF.ES (la hp hr _ _ _ hu) ⟨rfl,rfl⟩
 ·split at h
  ·rename_i u H1 LD;simp at h;refine WF.cut ((hr.fn _ _ _ _ _ hf LD).mono ?_ );rintro r' H2 ⟨rfl,rfl⟩;unfold EV at h;grind
  ·cases h
def wo(P:Program)(GL:bM)(ng:Af):Prop:=∀aH,bG P GL aH->jW P GL (ng aH)
theorem CR{rf:FuncId->Bool}{ng:Af}(hh:wo P GL ng)(hp:bG P GL gx)(hr:ct P GL iH):ct P GL (Ag rf ng gx iH):=by
 refine⟨fun f args H v H' hf h=>?_,fun args H v H' h=>hr.yl _ _ _ _ h⟩;unfold Ag at h;rw[hf,aaM]at h;split at h
 ·rename_i r uB;simp at h;subst h;exact hh _ (la hp hr) _ _ _ _ _ uB
 ·exact(sL hp hr).fn _ _ _ _ _ hf h
end
end Fw
/-
  A call that touches nothing, handed memory of an own box to read: the answer is bools, numbers and strings.
-/
namespace Fw
open Go
def xW:V->Bool| .d (.bool _)=>true| .d (.int _ _)=>true| .d (.str _)=>true| .fy=>true| .bz=>true|_=>false
def xX:V->Bool| .tuple vs=>vs.all xW|v=>xW v
theorem xY{g g':G}{w w':World}{u:V}{x:Value}(h:xW u=true)(hx:RV g w u x):RV g' w' u x:=by
 unfold xW at h;split at h
 ·simpa only[RV,Rd]using hx
 ·simpa only[RV,Rd]using hx
 ·simpa only[RV,Rd]using hx
 ·simpa only[RV]using hx
 ·simpa only[RV]using hx
 ·cases h
theorem xZ{g g':G}{w w':World}:∀{us:List V}{xs:List Value},us.all xW=true->aN g w us xs->aN g' w' us xs
 |[],[],_,_=>by simp only[aN]
 |[],_::_,_,h=>by simp only[aN]at h
 |_::_,[],_,h=>by simp only[aN]at h
 |u::us,x::xs,ha,h=>by simp only[aaL,aas]at ha;simp only[aN]at h⊢;exact⟨xY ha.1 h.1,xZ ha.2 h.2⟩
theorem EX{g g':G}{w w':World}{u:V}{x:Value}(h:xX u=true)(hx:RV g w u x):RV g' w' u x:=by
 unfold xX at h;split at h
 ·simp only[RV]at hx⊢;obtain⟨y,rfl,hy⟩:=hx;exact⟨y,rfl,xZ h hy⟩
 ·exact xY h hx
section
variable {P:Program}{GL:bM}
theorem WF.borrow{f:FuncId}{args nB:List V}{v:V}{H:an}{Q:V->an->Prop}(hd:bS (oQ H) args=some nB)(h:PC P GL f nB v)(hs:xX v=true)(hq:Q v H):WF P GL f args H Q:=by
 refine⟨h.1,fun g w vs cX hh hg=>?_ ⟩;let g0:G:=⟨g.cd,fun _=>none,g.fo,g.base⟩;have nt:∀k,wj g w k->cl g0 w k:=fun k hk=>⟨hk.1,hk.2,fun b x hx=>by cases hx⟩
 have O5:=bQ hd;have Zw:=cX.length;have Et:aN g0 w nB vs.toList:=aN.eM (by omega) fun i u y hu hy=>by
  have hi:i<args.length:=by have:=(aaz.1 hu).1;omega
  obtain⟨u2,k1,k2⟩:=gU i _ hd (aay hi);rw[hu]at k1;simp only[aar]at k1;subst k1;obtain⟨z,k3,k4⟩:=cX.get i (aay hi);rw[hy]at k3;simp only[aar]at k3;subst k3;exact(pt hh k2 k4).rv nt
 have hG:dX GL g0 w:=⟨fun n cs hn=>⟨nt _ (fG (hg.rd n cs hn).1),cP.keeps (show gR w w (cl g w) (cl g0 w)from gR.of fun k hk=>nt k (fG hk)) (hg.rd n cs hn).1 _ _ (hg.rd n cs hn).2⟩,fun k hk=>⟨nt _ (fG (hg.w0 k hk).1),(hg.w0 k hk).2⟩⟩;refine(h.2 g0 w vs Et (fun k hk=>(hh.fo k hk).1) (fun b x k hx=>by cases hx) hG).mono ?_;rintro e w' ⟨x,rfl,hx,he,-⟩;have gp:∀b y k,g.γ b=some y->y.own=some k->w'.heap[k]? =w.heap[k]? :=fun b y k hy hk=>(he.keeps k (nt k (hh.nY hy hk))).2
 have iC:bu g w g w':=⟨he.os,he.tape,he.output,he.size,fun k hk=>⟨⟨aaX hk.1 he.size,hk.2⟩,(he.keeps k (nt k (fG hk))).2⟩,fun _ h=>h,fun _ _=>GB.step.refl _,rfl,rfl,he.dw⟩;exact⟨x,v,g,H,rfl,hq,EX hs hx,hh.ext iC gp,iC⟩
end
end Fw
/-
  Rules for symbolic proofs: a run's answer, a loop over a row of states, a function's body; summaries of callees in a table.
-/
namespace Fw
open Go
section
variable {P:Program}{GL:bM}
theorem WC.run{own:List Nat}{call:aY}{aH:ba}(hm:P.follows .mixedOrders=true)(hc:jW P GL call)(hp:bG P GL aH){n:Nat}{c:IR}{σ:St}{e:Ex}{aS:St}{Q:Ex->St->Prop}(h:lH own GL call aH n c σ=some (e,aS))(hq:Q e aS):WC P GL c σ Q:=(iI hm hc hp h).mono fun _ _ ⟨h1,h2⟩=>by subst h1;subst h2;exact hq
theorem WC.pre{c:IR}{σ aS:St}{Q:Ex->St->Prop}(cB:List Nat)(hc:gK cB σ.hp.length σ=some aS)(h:WC P GL c aS Q):WC P GL c σ Q:=by
 intro code sv ro lE g w a hr;have na:∀b,g.cd b->b<σ.hp.length:=fun b hb=>hr.heap.cd b hb
 have he:bu g w (g.cut σ.hp.length) w:=(bu.refl g w).cut na;exact wpIn_mono (h code sv ro lE _ w a (hr.clean hc)) (cE.ext he)
theorem PC.body{f:FuncId}{fn:bL}{args:List V}{v:V}(hf:au P f=some fn)(uM:al P f=true)(hn:args.length<=fn.ntmps)(hd:aJ 0 args=true)(h:WC P GL fn.body ⟨fn.ntmps,ry 0 args,[]⟩ (fun e σ=>match e with| .exit _=>False|_=>(h_ fn.res σ).bind (fA σ.hp)=some v)):PC P GL f args v:=PC.of hd (WF.body hf uM hn (h.mono fun e s hq=>by
 have key:∀{r:Option V},r.bind (fA s.hp)=some v->∃x,r=some x/\fA s.hp x=some v:=by
  intro r hr;cases r with
   |none=>simp at hr
   |some x=>exact⟨x,rfl,by simpa using hr⟩
 cases e with
  |exit i=>exact hq
  |normal=>exact key hq
  |ret=>exact key hq))
abbrev LF:=List (FuncId×(List V->Option V))
def pr:LF->ba|[],_,_=>none|(k,s)::l,f,args=>bif Nat.beq k f then s args else pr l f args
theorem Pd{l:LF}(h:∀p∈l,∀args v,p.2 args=some v->PC P GL p.1 args v):bG P GL (pr l):=by
 induction l with
  |nil=>intro f args v hv;simp[pr]at hv
  |cons p l ih=>
   intro f args v hv;obtain⟨k,s⟩:=p;simp only[pr]at hv;cases hb:Nat.beq k f with
    |true=>rw[hb]at hv;have:=aau hb;subst this;exact h _ abD _ _ hv
    |false=>rw[hb]at hv;exact ih (fun q hq=>h q (aaY _ hq)) _ _ _ hv
end
end Fw
