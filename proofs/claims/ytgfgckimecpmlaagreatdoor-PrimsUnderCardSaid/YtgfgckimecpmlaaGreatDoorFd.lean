/-
  Boxes that nothing refers to are dropped; slots are forgotten; what a row of boxes reads as, to the bottom; calls that touch nothing.
-/
import Derived.Test.YtgfgckimecpmlaaGreatDoorFc
set_option linter.unusedSimpArgs false
set_option linter.unusedVariables false
namespace Fw
open Go
mutual
def aq(n:Nat):V→Bool| .ptr b _ _=>Nat.blt b n| .sl b _ _ _ _=>Nat.blt b n| .map b=>Nat.blt b n| .iter b m=>Nat.blt b n&&Nat.blt m n| .func _ a c=>an n a&&an n c| .iface _ v=>aq n v| .agg cs=>an n cs| .tuple vs=>an n vs|_=>true
def an(n:Nat):List V→Bool|[]=>true|v::vs=>aq n v&&an n vs
end
def cE(n:Nat):eG→Bool
 | .cells cs=>an n cs
 | .map es=>es.all fun p=>aq n p.2
 | .dK m _ _=>Nat.blt m n
 |_=>true
def aH(n:Nat):ai→Bool|[]=>true|none::H=>aH n H|some b::H=>cE n b&&aH n H
def G.cut(g:G)(n:Nat):G:=⟨fun b=>g.cR b∧b<n,fun b=>if b<n then g.γ b else none,g.fo⟩
theorem sH{g:G}{w:World}{n k:Nat}(h:dq g w k):dq (g.cut n) w k:=by
 refine⟨h.1,h.2.1,fun b x hx=>?_ ⟩;simp only[G.cut]at hx;split at hx
 ·exact h.2.2 b x hx
 ·cases hx
structure nY (n:Nat) (g g':G) (w:World):Prop where
 cR:∀b,b<n→g.cR b→g'.cR b
 γ:∀b,b<n→g'.γ b=g.γ b
 dq:∀k,dq g w k→dq g' w k
theorem nY.keeps{n:Nat}{g g':G}{w:World}(h:nY n g g' w):jq w w (Fw.dq g w) (Fw.dq g' w):=fun k hk=>⟨h.dq k hk,rfl⟩
mutual
theorem RV.agree{n:Nat}{g g':G}{w:World}(h:nY n g g' w):∀(u:V)(v:Value),aq n u=true→RV g w u v→RV g' w u v
 | .any,_,_,_=>by simp only[RV]
 | .d x,v,_,hv=>by simp only[RV]at hv⊢;exact Rd.keeps h.keeps _ _ hv
 | .ab,_,_,hv=>by simpa only[RV]using hv
 | .ptr b hh off,v,hn,hv=>by simp only[aq,aaT]at hn;simp only[RV]at hv⊢;exact⟨⟨hv.1.1,h.cR b hn hv.1.2⟩,fun x hx=>hv.2 x (by rw[←h.γ b hn];exact hx)⟩
 | .jU,_,_,hv=>by simpa only[RV]using hv
 | .ct cs,v,_,hv=>by
  simp only[RV]at hv⊢;obtain⟨aT,off,h1,h2,h3⟩:=hv;refine⟨aT,off,h1,fun hn=>h.dq _ (h2 hn),?_ ⟩;cases cs with
   |nil=>simp only[dx]
   |cons c cs=>exact dx.keeps h.keeps (h2 (by simp)) _ _ h3
 | .sl b hh off len sz,v,hn,hv=>by simp only[aq,aaT]at hn;simp only[RV]at hv⊢;exact⟨⟨hv.1.1,h.cR b hn hv.1.2⟩,fun x hx=>hv.2 x (by rw[←h.γ b hn];exact hx)⟩
 | .map b,v,hn,hv=>by simp only[aq,aaT]at hn;simp only[RV]at hv⊢;exact⟨⟨hv.1.1,h.cR b hn hv.1.2⟩,fun x hx=>hv.2 x (by rw[←h.γ b hn];exact hx)⟩
 | .mf,_,_,hv=>by simpa only[RV]using hv
 | .func f a c,v,hn,hv=>by simp only[aq,aaD]at hn;simp only[RV]at hv⊢;obtain⟨x,y,h1,h2,h3⟩:=hv;exact⟨x,y,h1,aV.agree h _ _ hn.1 h2,aV.agree h _ _ hn.2 h3⟩
 | .nK,_,_,hv=>by simpa only[RV]using hv
 | .iface t u,v,hn,hv=>by simp only[aq]at hn;simp only[RV]at hv⊢;obtain⟨x,h1,h2⟩:=hv;exact⟨x,h1,RV.agree h _ _ hn h2⟩
 | .cd,_,_,hv=>by simpa only[RV]using hv
 | .gX,_,_,hv=>by simpa only[RV]using hv
 | .agg cs,v,hn,hv=>by simp only[aq]at hn;simp only[RV]at hv⊢;obtain⟨x,h1,h2⟩:=hv;exact⟨x,h1,aV.agree h _ _ hn h2⟩
 | .tuple vs,v,hn,hv=>by simp only[aq]at hn;simp only[RV]at hv⊢;obtain⟨x,h1,h2⟩:=hv;exact⟨x,h1,aV.agree h _ _ hn h2⟩
 | .iter b m,v,hn,hv=>by simp only[aq,aaD,aaT]at hn;simp only[RV]at hv⊢;exact⟨⟨hv.1.1,h.cR b hn.1 hv.1.2⟩,fun x hx=>hv.2 x (by rw[←h.γ b hn.1];exact hx)⟩
theorem aV.agree{n:Nat}{g g':G}{w:World}(h:nY n g g' w):∀(us:List V)(vs:List Value),an n us=true→aV g w us vs→aV g' w us vs
 |[],[],_,_=>by simp only[aV]
 |u::us,v::vs,hn,hv=>by simp only[an,aaD]at hn;simp only[aV]at hv⊢;exact⟨RV.agree h _ _ hn.1 hv.1,aV.agree h _ _ hn.2 hv.2⟩
 |[],_::_,_,hv=>by simp only[aV]at hv
 |_::_,[],_,hv=>by simp only[aV]at hv
end
theorem ny(g:G)(w:World)(n:Nat):nY n g (g.cut n) w:=⟨fun _ hb hd=>⟨hd,hb⟩,fun b hb=>by simp[G.cut,hb],fun _ hk=>sH hk⟩
theorem fN{n:Nat}:∀{H:ai}{b:Nat}{y:eG},aH n H=true→aE H b=some y→cE n y=true
 |[],b,y,_,h=>by simp[aE]at h
 |none::H,0,y,_,h=>by simp[aE]at h
 |some x::H,0,y,hl,h=>by simp only[aH,aaD]at hl;simp[aE]at h;subst h;exact hl.1
 |none::H,b+1,y,hl,h=>by simp only[aH]at hl;exact fN hl h
 |some x::H,b+1,y,hl,h=>by simp only[aH,aaD]at hl;exact fN hl.2 h
theorem qx:∀(H:ai)(n b:Nat),aE (H.take n) b=if b<n then aE H b else none
 |[],n,b=>by simp[aE]
 |x::H,0,b=>by simp[aE]
 |x::H,n+1,0=>by simp[aE]
 |x::H,n+1,b+1=>by simp[aE,qx H n b]
theorem RB.agree{n:Nat}{g g':G}{w:World}{x:GB}{y:eG}(h:nY n g g' w)(hy:cE n y=true)(hr:RB g w x y):RB g' w x y:=by
 cases x with
  |cells aT cp cur=>
   cases y with
    |cells cs=>simp only[RB]at hr⊢;obtain⟨h1,h2,h3,c,e,h4,h5,h6⟩:=hr;exact⟨h1,h2,h3,c,e,h4,h5,aV.agree h _ _ hy h6⟩
    |_=>simp only[RB]at hr
  |nil=>cases y<;>simp only[RB]at hr⊢
  |obj aT=>
   cases y with
    |map es=>
     simp only[RB]at hr⊢;obtain⟨bO,clock,h1,h2,h3,h4⟩:=hr;refine⟨bO,clock,h1,h2,fun i k v hi=>?_,h4⟩;obtain⟨z,Qd,NA,VZ,V0⟩:=h3 i k v hi;have:aq n v=true:=by simp only[cE,aaR]at hy;exact hy (k,v) (aaO hi)
     exact⟨z,Qd,NA,Rd.keeps h.keeps _ _ VZ,RV.agree h _ _ this V0⟩
    |yD s pos=>simpa only[RB]using hr
    |dK m k seen=>simp only[RB]at hr⊢;obtain⟨mb,sa,h1,h2,h3,h4⟩:=hr;simp only[cE,aaT]at hy;exact⟨mb,sa,h1,h2,h.cR m hy h3,fun x hx=>h4 x (by rw[←h.γ m hy];exact hx)⟩
    |_=>simp only[RB]at hr
theorem az.cut{g:G}{w:World}{H:ai}{n:Nat}(hh:az g w H)(hl:aH n (H.take n)=true):az (g.cut n) w (H.take n):=by
 refine⟨fun b hb=>?_,fun b x hx=>?_,fun b y hy=>?_,fun b b' x x' k hx g_ hk iT=>?_,fun k hk=>⟨(hh.fo k hk).1,fun b x hx=>?_ ⟩⟩
 ·have:=hh.cR b hb.1;have:=hb.2;simp;omega
 ·simp only[G.cut]at hx;split at hx
  ·rename_i hb;obtain⟨h1,y,h2,h3⟩:=hh.live b x hx;have hg:aE (H.take n) b=some y:=by rw[qx,aaP hb];exact h2
   exact⟨⟨h1,hb⟩,y,hg,RB.agree (ny g w n) (fN hl hg) h3⟩
  ·cases hx
 ·rw[qx]at hy;split at hy
  ·rename_i hb;obtain⟨x,hx⟩:=hh.back b y hy;exact⟨x,by simp[G.cut,hb,hx]⟩
  ·cases hy
 ·simp only[G.cut]at hx g_;split at hx
  ·split at g_
   ·exact hh.inj b b' x x' k hx g_ hk iT
   ·cases g_
  ·cases hx
 ·simp only[G.cut]at hx;split at hx
  ·exact(hh.fo k hk).2 b x hx
  ·cases hx
theorem cr.cut{g0 g:G}{w0 w:World}{n:Nat}(h:cr g0 w0 g w)(hn:∀b,g0.cR b→b<n):cr g0 w0 (g.cut n) w:=⟨h.os,h.tape,h.output,h.size,fun k hk=>⟨sH (h.keeps k hk).1,(h.keeps k hk).2⟩,fun b hb=>⟨h.cR b hb,hn b hb⟩,fun b hb=>by simp only[G.cut,hn b hb,abv];exact h.step b hb,h.fo,h.eQ⟩
def cg(cw:List Nat):List (Nat×V)→List (Nat×V)|[]=>[]|(t,v)::l=>bif cw.any (Nat.beq t)then(t,v)::cg cw l else cg cw l
theorem jB(cw:List Nat)(t:Nat):∀(l:List (Nat×V)),get (cg cw l) t=get l t∨get (cg cw l) t=.any
 |[]=>.inl rfl
 |(s,v)::l=>by
  simp only[cg];cases hk:cw.any (Nat.beq s)with
   |true=>
    simp only[aaH,get];cases Nat.beq s t with
     |true=>exact .inl rfl
     |false=>exact jB cw t l
   |false=>
    simp only[aaX,get];cases hb:Nat.beq s t with
     |true=>
      have e:=aaI hb;subst e;right;have vA:∀(l:List (Nat×V)),get (cg cw l) s=.any:=by
       intro l;induction l with
        |nil=>rfl
        |cons p l ih=>
         obtain⟨q,u⟩:=p;simp only[cg];cases hq:cw.any (Nat.beq q)with
          |true=>
           simp only[aaH,get];cases G2:Nat.beq q s with
            |true=>have:=aaI G2;subst this;rw[hk]at hq;cases hq
            |false=>exact ih
          |false=>exact ih
      exact vA l
     |false=>exact jB cw t l
def gx(n:Nat):List (Nat×V)→Bool|[]=>true|(_,v)::l=>aq n v&&gx n l
theorem y5{n t:Nat}:∀{l:List (Nat×V)},gx n l=true→aq n (get l t)=true
 |[],_=>rfl
 |(s,v)::l,h=>by
  simp only[gx,aaD]at h;simp only[get];cases Nat.beq s t with
   |true=>exact h.1
   |false=>exact y5 h.2
def cf(cw:List Nat)(n:Nat)(σ:St):Option St:=let tm:=cg cw σ.tm;bif gx n tm&&aH n (σ.hp.take n)then some ⟨σ.n,tm,σ.hp.take n⟩else none
section
variable {P:Program}{GL:cj}
theorem R.clean{cw:List Nat}{n:Nat}{g:G}{w:World}{a:Act}{σ aS:St}(h:R GL g w a σ)(hc:cf cw n σ=some aS):R GL (g.cut n) w a aS:=by
 unfold cf at hc;simp only at hc;cases hb:(gx n (cg cw σ.tm)&&aH n (σ.hp.take n))with
  |false=>rw[hb]at hc;cases hc
  |true=>
   rw[hb]at hc;simp only[aaH,aaC]at hc;subst hc;simp only[aaD]at hb;refine⟨h.defers,h.size,fun t=>?_,h.heap.cut hb.2,⟨fun m cs hm=>⟨sH (h.eg.rd m cs hm).1,dx.keeps (ny g w n).keeps (h.eg.rd m cs hm).1 _ _ (h.eg.rd m cs hm).2⟩,fun k hk=>⟨sH (h.eg.w0 k hk).1,(h.eg.w0 k hk).2⟩⟩⟩;have bS:=y5 (t:=t) hb.1;rcases jB cw t σ.tm with e|e
   ·rw[e]at bS⊢;exact RV.agree (ny g w n) _ _ bS (h.tmps t)
   ·rw[e];simp only[RV]
theorem WC.clean{c:IR}{σ:St}{Q:Ex→St→Prop}(n:Nat)(hn:σ.hp.length≤n)(h:WC P GL c σ (fun e aS=>Q e aS∨∃cw Bv,cf cw n aS=some Bv∧Q e Bv)):WC P GL c σ Q:=by
 intro code hc g w a hr;refine wp_mono (h code hc g w a hr) fun e a' w' hp=>?_
 obtain⟨g2,tj,h1,h2,h3⟩:=hp;have gY:∀b,g.cR b→b<n:=fun b hb=>by have:=hr.heap.cR b hb;omega
 have key:∀ex,(Q ex tj∨∃cw Bv,cf cw n tj=some Bv∧Q ex Bv)→∃g3 aS,R GL g3 w' a' aS∧cr g w g3 w'∧Q ex aS:=by
  intro ex hq;rcases hq with hq|⟨cw,Bv,iE,hq⟩
  ·exact⟨g2,tj,h1,h2,hq⟩
  ·exact⟨_,Bv,h1.clean iE,h2.cut gY,hq⟩
 cases e with
  |normal=>exact key _ h3
  |exit i=>exact key _ h3
  |ret=>exact key _ h3
  |goto l=>exact h3.elim
  |panic c=>exact h3.elim
  |outgrown=>exact h3.elim
theorem WF.cut{f:FuncId}{args:List V}{H:ai}{Q:V→ai→Prop}(h:WF P GL f args H (fun v H'=>Q v H'∨(aq H.length v=true∧aH H.length (H'.take H.length)=true∧Q v (H'.take H.length)))):WF P GL f args H Q:=by
 refine⟨h.1,fun g w vs dX hh hg=>(h.2 g w vs dX hh hg).mono ?_ ⟩;rintro e w' ⟨x,v,g',H',rfl,hq,hx,rZ,he⟩;rcases hq with hq|⟨h1,h2,h3⟩
 ·exact⟨x,v,g',H',rfl,hq,hx,rZ,he⟩
 ·exact⟨x,v,g'.cut H.length,_,rfl,h3,RV.agree (ny g' w' _) _ _ h1 hx,rZ.cut h2,he.cut (fun b hb=>hh.cR b hb)⟩
end
end Fw
/-
  What rows of own boxes read as, to the bottom; calls that touch nothing.
-/
namespace Fw
open Go
def y6(g:G)(w:World)(k:Nat):Prop:=k<w.heap.size∧¬g.fo k
theorem kW{g:G}{w:World}{k:Nat}(h:dq g w k):y6 g w k:=⟨h.1,h.2.1⟩
theorem jq.of{w:World}{im uZ:Nat→Prop}(h:∀k,im k→uZ k):jq w w im uZ:=fun k hk=>⟨h k hk,rfl⟩
theorem az.tD{g:G}{w:World}{H:ai}(hh:az g w H){b k:Nat}{x:GB}(hx:g.γ b=some x)(hk:x.own=some k):y6 g w k:=by obtain⟨_,y,_,h3⟩:=hh.live b x hx;exact⟨h3.lt k hk,hh.vp hx hk⟩
theorem vE{w:World}{im:Nat→Prop}{aT sz:Nat}:∀{n:Nat}{off:Nat}{l:List D},l.length=n*sz→dx w im aT off l→iO w im aT off sz (eV sz n l)
 |0,_,_,_,_=>by simp only[eV,iO]
 |n+1,off,l,hl,h=>by
  simp only[eV,iO];have hle:sz≤l.length:=by rw[hl,abu];omega
  refine⟨by simp;omega,?_,?_ ⟩
  ·have:∀(k:Nat)(ds:List D)(q:Nat),dx w im aT q ds→dx w im aT q (ds.take k):=by
    intro k ds;induction ds generalizing k with
     |nil=>intro q _;simp[dx]
     |cons d ds ih=>
      intro q hq;cases k with
       |zero=>simp[dx]
       |succ k=>simp only[acW,dx]at hq⊢;exact⟨hq.1,ih k _ hq.2⟩
   exact this _ _ _ h
  ·exact vE (by simp[hl,abu]) (dx.drop sz h)
theorem y7{g:G}{w:World}{H:ai}(hh:az g w H):∀(f:Nat)(u:V)(v:Value)(d:D),fB H f u=some d→RV g w u v→Rd w (y6 g w) d v:=by
 intro f;induction f with
  |zero=>
   intro u v d hd hv;cases u with
    |d x=>simp only[fB,aaC]at hd;subst hd;simp only[RV]at hv;exact Rd.keeps (jq.of fun _ hk=>kW hk) _ _ hv
    |ab=>simp only[fB,aaC]at hd;subst hd;simp only[RV]at hv;subst hv;simp[Rd]
    |_=>simp[fB]at hd
  |succ f ih=>
   intro u v d hd hv;cases u with
    |d x=>simp only[fB,aaC]at hd;subst hd;simp only[RV]at hv;exact Rd.keeps (jq.of fun _ hk=>kW hk) _ _ hv
    |ab=>simp only[fB,aaC]at hd;subst hd;simp only[RV]at hv;subst hv;simp[Rd]
    |sl b hb off len sz=>
     simp only[fB]at hd;cases hg:aE H b with
      |none=>simp[hg]at hd
      |some y=>
       cases y with
        |cells cs=>
         simp only[hg]at hd;cases hc:(Nat.beq cs.length hb&&Nat.ble (off+len*sz) hb)with
          |false=>rw[hc]at hd;cases hd
          |true=>
           rw[hc]at hd;simp only[aaH]at hd;split at hd
           ·rename_i l hl;simp only[aaC]at hd;subst hd;simp only[aaD]at hc;have e2:=aaM hc.2;obtain⟨aT,cp,c,e,h1,h2,h3,h4,h5,h6,h7⟩:=lx hg hc.1 hh;obtain⟨cap,rfl,h8,h9⟩:=RV.qq hv h1;have Rq:=cV hl;have hlen:l.length=len*sz:=by rw[←Rq];simp;omega
            have dX:=(h7.drop off).take (len*sz);simp only[Rd];refine .inr ⟨aT,off,cap,sz,by rw[ja],by rw[ja];exact h8,fun _=>hh.tD h1 rfl,vE hlen (dx.nr (vs:=((c.toList.take hb).drop off).take (len*sz)) (by rw[hlen];simp;omega) (fun j d' v' hd fI=>?_ ) (fun j v' fI=>?_ ))⟩
            ·have hj:j<l.length:=(aaK.1 hd).1;have sA:j<((cs.drop off).take (len*sz)).length:=by omega
             obtain⟨d2,k1,k2⟩:=ju j _ hl (aaG sA);rw[hd]at k1;simp only[aaC]at k1;subst k1;obtain⟨x,k3,k4⟩:=dX.get j (aaG sA);rw[fI]at k3;simp only[aaC]at k3;subst k3;exact ih _ _ _ k2 k4
            ·rw[abd]at fI;split at fI
             ·rw[abA,abd]at fI;split at fI
              ·simp only[World.cell?,h5];simpa using fI
              ·cases fI
             ·cases fI
           ·cases hd
        |nil=>
         simp only[hg]at hd;cases hc:Nat.beq len 0 with
          |false=>rw[hc]at hd;cases hd
          |true=>
           rw[hc]at hd;simp only[aaH,aaC]at hd;subst hd;obtain⟨x,hx⟩:=hh.back b _ hg;obtain⟨_,y,hy,hr⟩:=hh.live b x hx;rw[hg]at hy;simp only[aaC]at hy;subst hy;cases x with
            |cells=>simp only[RB]at hr
            |obj=>simp only[RB]at hr
            |nil=>obtain⟨_,_,_,rfl⟩:=RV.vr hv hx;simp[Rd]
        |_=>simp[hg]at hd
    |_=>simp[fB]at hd
def py(w:World)(im:Nat→Prop):V→Value→Prop| .d x,v=>Rd w im x v| .gX,v=>v=.nilIface| .cd,v=>∃t x,v=.iface t x| .jU,v=>v=.pointer none| .agg cs,v=>∃(x:Array Value)(ds:List D),v=.agg x∧cs=ds.map V.d∧ds.length=x.size∧∀(j:Nat)(d:D)(y:Value),ds[j]? =some d→x[j]? =some y→Rd w im d y|_,_=>False
theorem aV.KM{g:G}{w:World}{ds:List D}{vs:List Value}(hl:ds.length=vs.length)(h:∀(j:Nat)(d:D)(y:Value),ds[j]? =some d→vs[j]? =some y→Rd w (dq g w) d y):aV g w (ds.map V.d) vs:=by
 refine aV.iP (by simpa using hl) fun i u v hu hv=>?_
 simp only[abf,aaE]at hu;obtain⟨d,hd,rfl⟩:=hu;simp only[RV];exact h i d v hd hv
theorem py.rv{g:G}{w:World}{im:Nat→Prop}(ti:∀k,im k→dq g w k){u:V}{v:Value}(h:py w im u v):RV g w u v:=by
 cases u with
  |d x=>simp only[py]at h;simp only[RV];exact Rd.keeps (jq.of ti) _ _ h
  |gX=>simpa only[py,RV]using h
  |cd=>simpa only[py,RV]using h
  |jU=>simpa only[py,RV]using h
  |agg cs=>simp only[py]at h;obtain⟨x,ds,rfl,rfl,h1,h2⟩:=h;simp only[RV];exact⟨x,rfl,aV.KM (by simpa using h1) (fun j d y hd hy=>Rd.keeps (jq.of ti) _ _ (h2 j d y hd (by simpa using hy)))⟩
  |_=>simp only[py]at h
theorem tF{g:G}{w:World}{H:ai}(hh:az g w H){u r:V}{v:Value}(h:mu H u=some r)(hv:RV g w u v):py w (y6 g w) r v:=by
 unfold mu at h;split at h
 ·rename_i cs;split at h
  ·rename_i l hl;simp only[aaC]at h;subst h;simp only[RV]at hv;obtain⟨x,rfl,hx⟩:=hv;have hlen:=cV hl;have hlx:=hx.length;simp at hlx;simp only[py];refine⟨x,l,rfl,rfl,by omega,fun j d y hd hy=>?_ ⟩;have hj:j<cs.length:=by have:=(aaK.1 hd).1;omega
   obtain⟨d2,k1,k2⟩:=ju j _ hl (aaG hj);rw[hd]at k1;simp only[aaC]at k1;subst k1;obtain⟨z,k3,k4⟩:=hx.get j (aaG hj);have:z=y:=by
    have:x[j]? =some z:=by simpa using k3
    rw[hy]at this;simp only[aaC]at this;exact this.symm
   subst this;exact y7 hh _ _ _ _ k2 k4
  ·cases h
 ·simp only[aaC]at h;subst h;simpa only[RV,py]using hv
 ·simp only[aaC]at h;subst h;simpa only[RV,py]using hv
 ·simp only[aaC]at h;subst h;simpa only[RV,py]using hv
 ·split at h
  ·rename_i x hx;simp only[aaC]at h;subst h;simp only[py];exact y7 hh _ _ _ _ hx hv
  ·cases h
theorem y8{g g':G}{w:World}{H:ai}(hh:az g w H)(ti:∀k,y6 g w k→dq g' w k){u r:V}{v:Value}(h:gk H u=some r)(hv:RV g w u v):RV g' w r v:=by
 unfold gk at h;split at h
 ·rename_i vs;split at h
  ·rename_i l hl;simp only[aaC]at h;subst h;simp only[RV]at hv⊢;obtain⟨x,rfl,hx⟩:=hv;refine⟨x,rfl,aV.iP (by have:=cV hl;have:=hx.length;omega) fun i u y hu hy=>?_ ⟩;have hi:i<vs.length:=by have:=(aaK.1 hu).1;have:=cV hl;omega
   obtain⟨u2,k1,k2⟩:=ju i _ hl (aaG hi);rw[hu]at k1;simp only[aaC]at k1;subst k1;obtain⟨z,k3,k4⟩:=hx.get i (aaG hi);rw[hy]at k3;simp only[aaC]at k3;subst k3;exact(tF hh k2 k4).rv ti
  ·cases h
 ·exact(tF hh h hv).rv ti
section
variable {P:Program}{GL:cj}
theorem PC.of{f:FuncId}{args:List V}{v:V}(hd:an 0 args=true)(h:WF P GL f args [] (fun r H'=>gk H' r=some v)):PC P GL f args v:=by
 refine⟨h.1,fun g w vs dX C1 jx hg=>?_ ⟩;let g0:G:=⟨fun _=>False,fun _=>none,fun k=>g.fo k∨∃b x,g.γ b=some x∧x.own=some k⟩;have hZ:∀k,dq g w k↔dq g0 w k:=by
  intro k;constructor
  ·rintro⟨h1,h2,h3⟩;refine⟨h1,?_,fun b x hx=>by cases hx⟩;rintro(h4|⟨b,x,h4,h5⟩)
   ·exact h2 h4
   ·exact h3 b x h4 h5
  ·rintro⟨h1,h2,_⟩;exact⟨h1,fun h4=>h2 (.inl h4),fun b x hx hk=>h2 (.inr ⟨b,x,hx,hk⟩)⟩
 have nV:nY 0 g g0 w:=⟨fun b hb=>by omega,fun b hb=>by omega,fun k hk=>(hZ k).1 hk⟩;have hH:az g0 w []:=by
  refine⟨fun b hb=>hb.elim,fun b x hx=>(by cases hx),fun b y hy=>(by simp[aE]at hy),fun b b' x x' k hx=>(by cases hx),fun k hk=>⟨?_,fun b x hx=>(by cases hx)⟩⟩;rcases hk with hk|⟨b,x,hx,hk⟩
  ·exact C1 k hk
  ·exact jx b x k hx hk
 have hG:gn GL g0 w:=⟨fun n cs hn=>⟨(hZ n).1 (hg.rd n cs hn).1,dx.keeps nV.keeps (hg.rd n cs hn).1 _ _ (hg.rd n cs hn).2⟩,fun k hk=>⟨(hZ k).1 (hg.w0 k hk).1,(hg.w0 k hk).2⟩⟩;refine(h.2 g0 w vs (aV.agree nV _ _ hd dX) hH hG).mono ?_;rintro e w' ⟨x,r,g',H',rfl,y9,hx,rZ,he⟩;have vF:∀k,y6 g' w' k→dq g w' k:=by rintro k ⟨h1,h2⟩;rw[he.fo]at h2;exact⟨h1,fun h3=>h2 (.inl h3),fun b x hx hk=>h2 (.inr ⟨b,x,hx,hk⟩)⟩
 refine⟨x,rfl,y8 rZ vF y9 hx,⟨he.os,he.tape,he.output,he.size,fun k hk=>?_,fun _ h=>h,fun _ _=>GB.step.refl _,rfl,fun k hk=>he.eQ k (.inl hk)⟩,fun b y k hy hk=>he.eQ k (.inr ⟨b,y,hy,hk⟩)⟩;obtain⟨h1,h2⟩:=he.keeps k ((hZ k).1 hk);exact⟨⟨h1.1,hk.2.1,hk.2.2⟩,h2⟩
theorem WF.EJ{f:FuncId}{args:List V}{v:V}{H:ai}{Q:V→ai→Prop}(h:PC P GL f args v)(hq:Q v H):WF P GL f args H Q:=by refine⟨h.1,fun g w vs dX hh hg=>(h.2 g w vs dX (fun k hk=>(hh.fo k hk).1) (RV.eO hh) hg).mono ?_ ⟩;rintro e w' ⟨x,rfl,hx,he,jx⟩;exact⟨x,v,g,H,rfl,hq,hx,hh.ext he jx,he⟩
end
end Fw
/-
  Running code of the abstract machine, for what is known whole; and that the model does the same.
-/
namespace Fw
open Go
abbrev bd:=FuncId→List V→ai→Option (V×ai)
abbrev aU:=FuncId→List V→Option V
def bB(own:List Nat)(GL:cj)(tm:List (Nat×V))(o:ad):Option V:=match o.op with
 | .mkSlice _ _ _ _=>bif nW o.dst own then none else f_ (aX GL tm) o.op
 |_=>none
def cO(own:List Nat)(GL:cj)(call:bd):List ad→St→Option St
 |[],σ=>some σ
 |o::l,σ=>
  match ar o.guard σ.tm with
   |none=>none
   |some false=>
    match σ.put o.dst (.tuple []) σ.hp with
     |some aS=>cO own GL call l aS
     |none=>none
   |some true=>
    match o.op with
     | .call f args=>
      match call f (bh (aX GL σ.tm) args) σ.hp with
       |some (v,H')=>
        match σ.put o.dst v H' with
         |some aS=>cO own GL call l aS
         |none=>none
       |none=>none
     | .fm x args=>
      match aX GL σ.tm x with
       | .func f first cap=>
        match call f (first++bh (aX GL σ.tm) args++cap) σ.hp with
         |some (v,H')=>
          match σ.put o.dst v H' with
           |some aS=>cO own GL call l aS
           |none=>none
         |none=>none
       |_=>none
     |op=>
      match bB own GL σ.tm o with
       |some v=>
        match σ.put o.dst v σ.hp with
         |some aS=>cO own GL call l aS
         |none=>none
       |none=>
        match bw (aX GL σ.tm) σ.hp σ.hp.length op with
         |some (v,wr)=>
          match σ.put o.dst v (aZ σ.hp wr)with
           |some aS=>cO own GL call l aS
           |none=>none
         |none=>none
def u9(GL:cj)(aA:aU)(base:Nat):Nat→List ad→St→Option (List (((V×Wr)×List Nat)×Option V))
 |_,[],_=>some []
 |i,o::l,σ=>
  let cv:Option V:=match bA o.op with
   |some (f,args)=>aA f (bh (aX GL σ.tm) args)
   |none=>f_ (aX GL σ.tm) o.op
  match eX GL σ.tm σ.hp (base+i) o cv with
   |none=>none
   |some r=>
    match u9 GL aA base (i+1) l (σ.fu o.dst r.1 (aZ σ.hp r.2))with
     |none=>none
     |some rs=>some (((r,lC (aX GL σ.tm) o.op),cv)::rs)
def nz(GL:cj)(aA:aU)(l:List ad)(σ:St):Option St:=match u9 GL aA σ.hp.length 0 l (ca σ l.length)with
 |none=>none
 |some qs=>
  let rs:=qs.map (·.1);bif c6 l rs&&eZ σ.n l&&dT (σ.hp.length+l.length) rs then some (aB (fun _=>true) 0 l rs (ca σ l.length))
  else none
def Hv(l:List ad)(ot:ad):Bool:=match ot.guard with
 |some _=>false
 |none=>ot.after.all (fun e=>Nat.blt e l.length)&&(List.range l.length).all (fun j=>ot.after.any fun e=>Nat.beq j e||Nat.testBit ((cT 0 [] l).getD e 0) j)
def xe(GL:cj)(call:bd)(aA:aU)(l:List ad)(σ:St):Option St:=match l.getLast? with
 |none=>none
 |some ot=>
  match ot.op with
   | .call f args=>
    match Hv l.dropLast ot with
     |false=>none
     |true=>
      match nz GL aA l.dropLast σ with
       |none=>none
       |some vw=>
        match call f (bh (aX GL vw.tm) args) vw.hp with
         |none=>none
         |some (v,H')=>vw.put ot.dst v H'
   |_=>none
def tG(GL:cj)(call:bd)(aA:aU)(l:List ad)(σ:St):Option St:=match nz GL aA l σ with
 |some aS=>some aS
 |none=>xe GL call aA l σ
def vG(step:St→Option (Ex×St)):Nat→St→Option (Ex×St)
 |0,_=>none
 |n+1,σ=>
  match step σ with
   |some (.normal,aS)=>vG step n aS
   |r=>r
def mh(own:List Nat)(GL:cj)(call:bd)(aA:aU)(n:Nat):IR→St→Option (Ex×St)
 | .skip,σ=>some (.normal,σ)
 | .region l,σ=>
  match cO own GL call l σ with
   |some aS=>some (.normal,aS)
   |none=>none
 | .draw l,σ=>
  match tG GL call aA l σ with
   |some aS=>some (.normal,aS)
   |none=>none
 | .seq a b,σ=>
  match mh own GL call aA n a σ with
   |some (.normal,aS)=>mh own GL call aA n b aS
   |r=>r
 | .cond c a b,σ=>
  match aX GL σ.tm c with
   | .d (.bool true)=>mh own GL call aA n a σ
   | .d (.bool false)=>mh own GL call aA n b σ
   |_=>none
 | .block id b,σ=>
  match mh own GL call aA n b σ with
   |some (.exit i,aS)=>if i=id then some (.normal,aS)else some (.exit i,aS)
   |r=>r
 | .loop b,σ=>vG (mh own GL call aA n b) n σ
 | .exit id,σ=>some (.exit id,σ)
 | .ret,σ=>some (.ret,σ)
def Hw(n:Nat)(v:V)(H:ai):V×ai:=bif aq n v&&aH n (H.take n)then(v,H.take n)else(v,H)
def lH(eA:aU)(jT:bd):aU:=fun f args=>
 match eA f args with
  |some v=>some v
  |none=>
   bif an 0 args then
    (match jT f args []with
     |some (r,H)=>gk H r
     |none=>none)else none
def sI(rf:FuncId→Bool)(eA:aU)(jT:bd):bd:=fun f args H=>
 match(bif rf f then none else lH eA jT f args)with
  |some v=>some (v,H)
  |none=>
   match jT f args H with
    |some (v,H')=>some (Hw H.length v H')
    |none=>none
abbrev xf:=aU→bd
def xg(rf:FuncId→Bool)(jV:xf)(eA:aU)(jT:bd):bd:=fun f args H=>
 match jV (lH eA jT) f args H with
  |some r=>some r
  |none=>sI rf eA jT f args H
def Hx(eO:FuncId→List Nat)(rf:FuncId→Bool)(GL:cj)(rH:FuncId→Option cL)(jV:xf)(eA:aU)(n:Nat):Nat→bd
 |0=>fun _ _ _=>none
 |d+1=>
  fun f args H=>
   match rH f with
    |none=>none
    |some fn=>
     bif Nat.ble args.length fn.ntmps then
      match mh (eO f) GL (xg rf jV eA (Hx eO rf GL rH jV eA n d)) (lH eA (Hx eO rf GL rH jV eA n d)) n fn.body ⟨fn.ntmps,tk 0 args,H⟩with
       |some (.exit _,_)=>none
       |some (_,σ)=>
        match fq fn.res σ with
         |some v=>some (v,σ.hp)
         |none=>none
       |none=>none else none
section
variable {P:Program}{GL:cj}
def bQ(P:Program)(GL:cj)(call:bd):Prop:=∀f args H v H',call f args H=some (v,H')→WF P GL f args H (fun r h=>r=v∧h=H')
def bu(P:Program)(GL:cj)(aA:aU):Prop:=∀f args v,aA f args=some v→PC P GL f args v
theorem lI{own:List Nat}{call:bd}(hc:bQ P GL call):∀{l:List ad}{σ aS:St}{Q:St→Prop},cO own GL call l σ=some aS→Q aS→WO P GL l σ Q
 |[],σ,aS,Q,h,hq=>by simp only[cO,aaC]at h;subst h;exact WO.nil hq
 |o::l,σ,aS,Q,h,hq=>by
  simp only[cO]at h;split at h
  ·cases h
  ·rename_i hg;split at h
   ·rename_i vw h1;exact WO.skip hg h1 (lI hc h hq)
   ·cases h
  ·rename_i hg;split at h
   ·rename_i f args ho;split at h
    ·rename_i v H' cD;split at h
     ·rename_i vw h1;refine WO.call ho hg ((hc _ _ _ _ _ cD).mono ?_ );rintro r hp ⟨rfl,rfl⟩;exact⟨vw,h1,lI hc h hq⟩
     ·cases h
    ·cases h
   ·rename_i x args ho;split at h
    ·rename_i f first cap hx
     split at h
     ·rename_i v H' cD;split at h
      ·rename_i vw h1;refine WO.fm ho hx hg ((hc _ _ _ _ _ cD).mono ?_ );rintro r hp ⟨rfl,rfl⟩;exact⟨vw,h1,lI hc h hq⟩
      ·cases h
     ·cases h
    ·cases h
   ·split at h
    ·rename_i v he;split at h
     ·rename_i vw h1;refine WO.f_ hg ?_ h1 (lI hc h hq);unfold bB at he;split at he
      ·rename_i heq;cases hi:nW o.dst own with
        |true=>rw[hi]at he;cases he
        |false=>rw[hi]at he;exact he
      ·cases he
     ·cases h
    ·split at h
     ·rename_i v wr he;split at h
      ·rename_i vw h1;exact WO.bw hg he h1 (lI hc h hq)
      ·cases h
     ·cases h
theorem xh{aA:aU}{base:Nat}:∀{l:List ad}{i:Nat}{σ:St}{qs:List (((V×Wr)×List Nat)×Option V)},u9 GL aA base i l σ=some qs→∀qc:Nat→Option V,(∀j q,qs[j]? =some q→qc (i+j)=q.2)→mg GL base qc i l σ=some (qs.map (·.1))∧qs.length=l.length∧∀k o q,l[k]? =some o→qs[k]? =some q→∀f args,bA o.op=some (f,args)→q.2=aA f (bh (aX GL (aB (fun j=>decide (j<i+k)) i l (qs.map (·.1)) σ).tm) args)∧(ar o.guard (aB (fun j=>decide (j<i+k)) i l (qs.map (·.1)) σ).tm=some true→q.2=some q.1.1.1)
 |[],i,σ,qs,h,qc,hq=>by simp only[u9,aaC]at h;subst h;exact⟨rfl,rfl,by simp⟩
 |o::l,i,σ,qs,h,qc,hq=>by
  simp only[u9]at h;split at h
  ·cases h
  ·rename_i r hr;split at h
   ·cases h
   ·rename_i rs Kg;simp only[aaC]at h;subst h;have h0:=hq 0 _ rfl;simp only[abN]at h0;obtain⟨k1,k2,k3⟩:=xh Kg qc (fun j q hj=>by have:=hq (j+1) q (by simpa using hj);rwa[show i+(j+1)=i+1+j by omega]at this);have iW:∀(l:List ad)(rs:List ((V×Wr)×List Nat))(k:Nat)(σ:St),i≤k→aB (fun j=>decide (j<i)) k l rs σ=σ:=by
     intro l rs k σ hk;rw[bY (K':=fun _=>false) (fun j _=>by simp;omega)];have:∀(l:List ad)(rs:List ((V×Wr)×List Nat))(i:Nat)(s:St),aB (fun _=>false) i l rs s=s:=by
      intro l;induction l with
       |nil=>intro rs i s;simp[aB]
       |cons o l ih=>
        intro rs i s;cases rs with
         |nil=>simp[aB]
         |cons r rs=>simp only[aB,aaX];exact ih _ _ _
     exact this _ _ _ _
    refine⟨?_,by simp[k2],fun k o' q iV yy f args iE=>?_ ⟩
    ·simp only[mg,h0,hr,k1,aaY]
    ·cases k with
      |zero=>
       simp at iV yy;subst iV;subst yy;simp only[abN];rw[iW _ _ _ _ (aaQ _)];refine⟨by simp only[iE],fun hg=>?_ ⟩;simp only[iE]at hr⊢;unfold eX at hr;rw[hg]at hr;simp only[iE]at hr;cases hp:aA f (bh (aX GL σ.tm) args)with
        |none=>rw[hp]at hr;simp at hr
        |some v=>rw[hp]at hr;simp at hr;rw[←hr]
      |succ k=>
       simp at iV yy;have e:i+(k+1)=i+1+k:=by omega
       have:=k3 k o' q iV yy f args iE;simp only[aaY,aB,e,show decide (i<i+1+k)=true by simp;omega,aaH];exact this
theorem tH{aA:aU}(hm:P.follows .mixedOrders=true)(hp:bu P GL aA){l:List ad}{σ aS:St}{Q:Ex→St→Prop}(h:nz GL aA l σ=some aS)(hq:Q .normal aS):WC P GL (.draw l) σ Q:=by
 unfold nz at h;split at h
 ·cases h
 ·rename_i qs G2;simp only at h;cases hb:(c6 l (qs.map (·.1))&&eZ σ.n l&&dT (σ.hp.length+l.length) (qs.map (·.1)))with
   |false=>rw[hb]at h;cases h
   |true=>rw[hb]at h;simp only[aaH,aaC]at h;subst h;simp only[aaD]at hb;obtain⟨k1,k2,k3⟩:=xh G2 (fun i=>(qs[i]? ).bind (·.2)) (fun j q hj=>by simp[hj]);refine WC.draw hm k1 hb.1.1 hb.1.2 hb.2 (fun i o r ho hr f args iE hg=>?_ ) hq;simp only[abf,aaE]at hr;obtain⟨q,KO,rfl⟩:=hr;obtain⟨e1,e2⟩:=k3 i o q ho KO f args iE;simp only[aaU]at e1 e2;have e3:=e2 hg;rw[e1]at e3;exact(hp _ _ _ e3).rF
theorem Db{α:Type}:∀{l:List α}{a:α},l.getLast?=some a→l=l.dropLast++[a]
 |[],a,h=>by simp at h
 |[x],a,h=>by simp at h;subst h;rfl
 |x::y::l,a,h=>by
  have:(y::l).getLast?=some a:=by simpa[List.getLast?_cons_cons]using h
  have:=Db this;rw[List.dropLast_cons_cons,abQ,←this]
theorem Bw{call:bd}{aA:aU}(hm:P.follows .mixedOrders=true)(hc:bQ P GL call)(hp:bu P GL aA){l:List ad}{σ aS:St}{Q:Ex→St→Prop}(h:xe GL call aA l σ=some aS)(hq:Q .normal aS):WC P GL (.draw l) σ Q:=by
 unfold xe at h;split at h
 ·cases h
 ·rename_i ot pw;split at h
  ·rename_i ft yZ Ht;split at h
   ·cases h
   ·rename_i y_;split at h
    ·cases h
    ·rename_i vw dZ;split at h
     ·cases h
     ·rename_i v H' cD;have hl:l=l.dropLast++[ot]:=Db pw;rw[hl];unfold Hv at y_;split at y_
      ·cases y_
      ·rename_i N4;simp only[aaD,aaR]at y_;obtain⟨t1,t2⟩:=y_;unfold nz at dZ;split at dZ
       ·cases dZ
       ·rename_i qs G2;simp only at dZ;cases hb:(c6 l.dropLast (qs.map (·.1))&&eZ σ.n l.dropLast&&dT (σ.hp.length+l.dropLast.length) (qs.map (·.1)))with
         |false=>rw[hb]at dZ;cases dZ
         |true=>
          rw[hb]at dZ;simp only[aaH,aaC]at dZ;subst dZ;simp only[aaD]at hb;obtain⟨k1,k2,k3⟩:=xh G2 (fun i=>(qs[i]? ).bind (·.2)) (fun j q hj=>by simp[hj]);refine WC.Hs hm k1 hb.1.1 hb.1.2 hb.2 (fun i o r ho hr f args iE hg=>?_ ) Ht N4 (fun e he=>by have:=t1 e he;simpa[aaT]using this) (fun j hj=>?_ ) ((hc _ _ _ _ _ cD).mono ?_ )
          ·simp only[abf,aaE]at hr;obtain⟨q,KO,rfl⟩:=hr;obtain⟨e1,e2⟩:=k3 i o q ho KO f args iE;simp only[aaU]at e1 e2;have e3:=e2 hg;rw[e1]at e3;exact(hp _ _ _ e3).rF
          ·have:=t2 j (abb.2 hj);rw[acR]at this;obtain⟨e,he,h2⟩:=this;refine⟨e,he,?_⟩;rw[abq]at h2;rcases h2 with h2|h2
           ·exact .inl (aaI h2)
           ·exact .inr h2
          ·rintro r h2 ⟨rfl,rfl⟩;exact⟨aS,h,hq⟩
  ·cases h
theorem za{call:bd}{aA:aU}(hm:P.follows .mixedOrders=true)(hc:bQ P GL call)(hp:bu P GL aA){l:List ad}{σ aS:St}{Q:Ex→St→Prop}(h:tG GL call aA l σ=some aS)(hq:Q .normal aS):WC P GL (.draw l) σ Q:=by
 unfold tG at h;split at h
 ·rename_i s1 h1;simp only[aaC]at h;subst h;exact tH hm hp h1 hq
 ·exact Bw hm hc hp h hq
theorem Hy{b:IR}{step:St→Option (Ex×St)}(hs:∀σ e aS,step σ=some (e,aS)→WC P GL b σ (fun e' s=>e'=e∧s=aS)){n:Nat}{σ:St}{e:Ex}{aS:St}(h:vG step n σ=some (e,aS)):WC P GL (.loop b) σ (fun e' s=>e'=e∧s=aS):=by
 refine WC.loop (fun m s=>vG step m s=some (e,aS)) (fun m s hm=>?_ ) h;cases m with
  |zero=>simp[vG]at hm
  |succ m=>
   simp only[vG]at hm;split at hm
   ·rename_i s1 h1;refine(hs _ _ _ h1).mono ?_;rintro e' s' ⟨rfl,rfl⟩;exact⟨m,by omega,hm⟩
   ·rename_i r et;refine(hs _ _ _ hm).mono ?_;rintro e' s' ⟨rfl,rfl⟩;cases e' with
     |normal=>exact absurd hm (et s')
     |exit i=>exact⟨rfl,rfl⟩
     |ret=>exact⟨rfl,rfl⟩
theorem iy{own:List Nat}{call:bd}{aA:aU}(hm:P.follows .mixedOrders=true)(hc:bQ P GL call)(hp:bu P GL aA){n:Nat}:∀{c:IR}{σ:St}{e:Ex}{aS:St},mh own GL call aA n c σ=some (e,aS)→WC P GL c σ (fun e' s=>e'=e∧s=aS)
 | .skip,σ,e,aS,h=>by simp only[mh,aaC,aaF]at h;obtain⟨rfl,rfl⟩:=h;exact WC.skip ⟨rfl,rfl⟩
 | .region l,σ,e,aS,h=>by
  simp only[mh]at h;split at h
  ·rename_i s1 h1;simp only[aaC,aaF]at h;obtain⟨rfl,rfl⟩:=h;exact WC.region (lI hc h1 ⟨rfl,rfl⟩)
  ·cases h
 | .draw l,σ,e,aS,h=>by
  simp only[mh]at h;split at h
  ·rename_i s1 h1;simp only[aaC,aaF]at h;obtain⟨rfl,rfl⟩:=h;exact za hm hc hp h1 ⟨rfl,rfl⟩
  ·cases h
 | .seq a b,σ,e,aS,h=>by
  simp only[mh]at h;split at h
  ·rename_i s1 h1;refine WC.seq ((iy hm hc hp h1).mono ?_ );rintro e' s' ⟨rfl,rfl⟩;exact iy hm hc hp h
  ·rename_i r et;refine WC.seq ((iy hm hc hp h).mono ?_ );rintro e' s' ⟨rfl,rfl⟩;cases e' with
    |normal=>exact absurd h (et s')
    |exit i=>exact⟨rfl,rfl⟩
    |ret=>exact⟨rfl,rfl⟩
 | .cond c a b,σ,e,aS,h=>by
  simp only[mh]at h;split at h
  ·rename_i ht;exact WC.cond ht (iy hm hc hp h)
  ·rename_i ht;exact WC.cond ht (iy hm hc hp h)
  ·cases h
 | .block id b,σ,e,aS,h=>by
  simp only[mh]at h;split at h
  ·rename_i i s1 h1;refine WC.block ((iy hm hc hp h1).mono ?_ );rintro e' s' ⟨rfl,rfl⟩;show if i=id then Ex.normal=e∧s'=aS else Ex.exit i=e∧s'=aS
   by_cases hi:i=id
   ·rw[aaP hi]at h⊢;simp only[aaC,aaF]at h;obtain⟨rfl,rfl⟩:=h;exact⟨rfl,rfl⟩
   ·rw[aaL hi]at h⊢;simp only[aaC,aaF]at h;obtain⟨rfl,rfl⟩:=h;exact⟨rfl,rfl⟩
  ·rename_i r et;refine WC.block ((iy hm hc hp h).mono ?_ );rintro e' s' ⟨rfl,rfl⟩;cases e' with
    |normal=>exact⟨rfl,rfl⟩
    |exit i=>exact absurd h (et i s')
    |ret=>exact⟨rfl,rfl⟩
 | .loop b,σ,e,aS,h=>by simp only[mh]at h;exact Hy (fun s e' s' hs=>iy hm hc hp hs) h
 | .exit id,σ,e,aS,h=>by simp only[mh,aaC,aaF]at h;obtain⟨rfl,rfl⟩:=h;exact WC.exit ⟨rfl,rfl⟩
 | .ret,σ,e,aS,h=>by simp only[mh,aaC,aaF]at h;obtain⟨rfl,rfl⟩:=h;exact WC.ret ⟨rfl,rfl⟩
theorem h_{eA:aU}{jT:bd}(hp:bu P GL eA)(hr:bQ P GL jT):bu P GL (lH eA jT):=by
 intro f args v h;unfold lH at h;split at h
 ·rename_i u hu;simp only[aaC]at h;subst h;exact hp _ _ _ hu
 ·cases hb:an 0 args with
   |false=>rw[hb]at h;cases h
   |true=>
    rw[hb]at h;simp only[aaH]at h;split at h
    ·rename_i r H N8;refine PC.of hb ((hr _ _ _ _ _ N8).mono ?_ );rintro r' H' ⟨rfl,rfl⟩;exact h
    ·cases h
theorem tI{rf:FuncId→Bool}{eA:aU}{jT:bd}(hp:bu P GL eA)(hr:bQ P GL jT):bQ P GL (sI rf eA jT):=by
 intro f args H v H' h;unfold sI at h;split at h
 ·rename_i u hu;simp only[aaC,aaF]at h;obtain⟨rfl,rfl⟩:=h;cases hrf:rf f with
   |true=>rw[hrf]at hu;cases hu
   |false=>rw[hrf]at hu;exact WF.EJ (h_ hp hr _ _ _ hu) ⟨rfl,rfl⟩
 ·split at h
  ·rename_i u H1 N8;simp only[aaC]at h;refine WF.cut ((hr _ _ _ _ _ N8).mono ?_ );rintro r' H2 ⟨rfl,rfl⟩;unfold Hw at h;cases hb:(aq H.length r'&&aH H.length (H2.take H.length))with
    |false=>rw[hb]at h;simp only[aaX,aaF]at h;obtain⟨rfl,rfl⟩:=h;exact .inl ⟨rfl,rfl⟩
    |true=>rw[hb]at h;simp only[aaH,aaF]at h;obtain⟨rfl,rfl⟩:=h;simp only[aaD]at hb;exact .inr ⟨hb.1,hb.2,rfl,rfl⟩
  ·cases h
def qy(P:Program)(GL:cj)(jV:xf):Prop:=∀aA,bu P GL aA→bQ P GL (jV aA)
theorem vH{rf:FuncId→Bool}{jV:xf}{eA:aU}{jT:bd}(hh:qy P GL jV)(hp:bu P GL eA)(hr:bQ P GL jT):bQ P GL (xg rf jV eA jT):=by
 intro f args H v H' h;unfold xg at h;split at h
 ·rename_i r vz;simp only[aaC]at h;subst h;exact hh _ (h_ hp hr) _ _ _ _ _ vz
 ·exact tI hp hr _ _ _ _ _ h
theorem Dc{eO:FuncId→List Nat}{rf:FuncId→Bool}{rH:FuncId→Option cL}{jV:xf}{eA:aU}(hh:qy P GL jV)(hm:P.follows .mixedOrders=true)(hf:∀f fn,rH f=some fn→aI P f=some fn∧ao P f=true)(hp:bu P GL eA)(n:Nat):∀d,bQ P GL (Hx eO rf GL rH jV eA n d)
 |0=>by intro f args H v H' h;simp[Hx]at h
 |d+1=>by
  intro f args H v H' h;simp only[Hx]at h;split at h
  ·cases h
  ·rename_i fn Bi;obtain⟨h1,h2⟩:=hf _ _ Bi;cases hb:Nat.ble args.length fn.ntmps with
    |false=>rw[hb]at h;cases h
    |true=>
     rw[hb]at h;simp only[aaH]at h;have ih:=Dc (eO:=eO) (rf:=rf) hh hm hf hp n d;split at h
     ·cases h
     ·rename_i e σ et eL;split at h
      ·rename_i u hu;simp only[aaC,aaF]at h;obtain⟨rfl,rfl⟩:=h;refine WF.body h1 h2 (aaM hb) ((iy hm (vH hh hp ih) (h_ hp ih) eL).mono ?_ );rintro e' s' ⟨rfl,rfl⟩;cases e' with
        |normal=>exact⟨u,hu,rfl,rfl⟩
        |exit i=>exact absurd rfl (et i)
        |ret=>exact⟨u,hu,rfl,rfl⟩
      ·cases h
     ·cases h
end
end Fw
/-
  A call that touches nothing, handed memory of an own box to read: the answer is bools, numbers and strings.
-/
namespace Fw
open Go
def zb:V→Bool| .d (.bool _)=>true| .d (.int _ _)=>true| .d (.str _)=>true| .gX=>true| .cd=>true|_=>false
def zc:V→Bool| .tuple vs=>vs.all zb|v=>zb v
theorem zd{g g':G}{w w':World}{u:V}{x:Value}(h:zb u=true)(hx:RV g w u x):RV g' w' u x:=by
 unfold zb at h;split at h
 ·simpa only[RV,Rd]using hx
 ·simpa only[RV,Rd]using hx
 ·simpa only[RV,Rd]using hx
 ·simpa only[RV]using hx
 ·simpa only[RV]using hx
 ·cases h
theorem ze{g g':G}{w w':World}:∀{us:List V}{xs:List Value},us.all zb=true→aV g w us xs→aV g' w' us xs
 |[],[],_,_=>by simp only[aV]
 |[],_::_,_,h=>by simp only[aV]at h
 |_::_,[],_,h=>by simp only[aV]at h
 |u::us,x::xs,ha,h=>by simp only[aa4,aaD]at ha;simp only[aV]at h⊢;exact⟨zd ha.1 h.1,ze ha.2 h.2⟩
theorem Hz{g g':G}{w w':World}{u:V}{x:Value}(h:zc u=true)(hx:RV g w u x):RV g' w' u x:=by
 unfold zc at h;split at h
 ·simp only[RV]at hx⊢;obtain⟨y,rfl,hy⟩:=hx;exact⟨y,rfl,ze h hy⟩
 ·exact zd h hx
section
variable {P:Program}{GL:cj}
theorem WF.borrow{f:FuncId}{args rI:List V}{v:V}{H:ai}{Q:V→ai→Prop}(hd:bK (mu H) args=some rI)(h:PC P GL f rI v)(hs:zc v=true)(hq:Q v H):WF P GL f args H Q:=by
 refine⟨h.1,fun g w vs dX hh hg=>?_ ⟩;let g0:G:=⟨g.cR,fun _=>none,g.fo⟩;have ti:∀k,y6 g w k→dq g0 w k:=fun k hk=>⟨hk.1,hk.2,fun b x hx=>by cases hx⟩
 have MO:=cV hd;have Wt:=dX.length;have NX:aV g0 w rI vs.toList:=aV.iP (by omega) fun i u y hu hy=>by
  have hi:i<args.length:=by have:=(aaK.1 hu).1;omega
  obtain⟨u2,k1,k2⟩:=ju i _ hd (aaG hi);rw[hu]at k1;simp only[aaC]at k1;subst k1;obtain⟨z,k3,k4⟩:=dX.get i (aaG hi);rw[hy]at k3;simp only[aaC]at k3;subst k3;exact(tF hh k2 k4).rv ti
 have hG:gn GL g0 w:=⟨fun n cs hn=>⟨ti _ (kW (hg.rd n cs hn).1),dx.keeps (show jq w w (dq g w) (dq g0 w)from jq.of fun k hk=>ti k (kW hk)) (hg.rd n cs hn).1 _ _ (hg.rd n cs hn).2⟩,fun k hk=>⟨ti _ (kW (hg.w0 k hk).1),(hg.w0 k hk).2⟩⟩;refine(h.2 g0 w vs NX (fun k hk=>(hh.fo k hk).1) (fun b x k hx=>by cases hx) hG).mono ?_;rintro e w' ⟨x,rfl,hx,he,-⟩;have jx:∀b y k,g.γ b=some y→y.own=some k→w'.heap[k]? =w.heap[k]? :=fun b y k hy hk=>(he.keeps k (ti k (hh.tD hy hk))).2
 have yQ:cr g w g w':=⟨he.os,he.tape,he.output,he.size,fun k hk=>⟨⟨abr hk.1 he.size,hk.2⟩,(he.keeps k (ti k (kW hk))).2⟩,fun _ h=>h,fun _ _=>GB.step.refl _,rfl,he.eQ⟩;exact⟨x,v,g,H,rfl,hq,Hz hs hx,hh.ext yQ jx,yQ⟩
end
end Fw
/-
  Rules for symbolic proofs: a run's answer, a loop over a row of states, a function's body; summaries of callees in a table.
-/
namespace Fw
open Go
section
variable {P:Program}{GL:cj}
theorem WC.run{own:List Nat}{call:bd}{aA:aU}(hm:P.follows .mixedOrders=true)(hc:bQ P GL call)(hp:bu P GL aA){n:Nat}{c:IR}{σ:St}{e:Ex}{aS:St}{Q:Ex→St→Prop}(h:mh own GL call aA n c σ=some (e,aS))(hq:Q e aS):WC P GL c σ Q:=(iy hm hc hp h).mono fun _ _ ⟨h1,h2⟩=>by subst h1;subst h2;exact hq
theorem WC.pre{c:IR}{σ aS:St}{Q:Ex→St→Prop}(cw:List Nat)(hc:cf cw σ.hp.length σ=some aS)(h:WC P GL c aS Q):WC P GL c σ Q:=by
 intro code tp g w a hr;have gY:∀b,g.cR b→b<σ.hp.length:=fun b hb=>hr.heap.cR b hb
 have he:cr g w (g.cut σ.hp.length) w:=(cr.refl g w).cut gY;exact wp_mono (h code tp _ w a (hr.clean hc)) (cA.ext he)
theorem PC.body{f:FuncId}{fn:cL}{args:List V}{v:V}(hf:aI P f=some fn)(w6:ao P f=true)(hn:args.length≤fn.ntmps)(hd:an 0 args=true)(h:WC P GL fn.body ⟨fn.ntmps,tk 0 args,[]⟩ (fun e σ=>match e with| .exit _=>False|_=>(fq fn.res σ).bind (gk σ.hp)=some v)):PC P GL f args v:=PC.of hd (WF.body hf w6 hn (h.mono fun e s hq=>by
 have key:∀{r:Option V},r.bind (gk s.hp)=some v→∃x,r=some x∧gk s.hp x=some v:=by
  intro r hr;cases r with
   |none=>simp at hr
   |some x=>exact⟨x,rfl,by simpa using hr⟩
 cases e with
  |exit i=>exact hq
  |normal=>exact key hq
  |ret=>exact key hq))
abbrev N9:=List (FuncId×(List V→Option V))
def pr:N9→aU|[],_,_=>none|(k,s)::l,f,args=>bif Nat.beq k f then s args else pr l f args
theorem Rr{l:N9}(h:∀p∈l,∀args v,p.2 args=some v→PC P GL p.1 args v):bu P GL (pr l):=by
 induction l with
  |nil=>intro f args v hv;simp[pr]at hv
  |cons p l ih=>
   intro f args v hv;obtain⟨k,s⟩:=p;simp only[pr]at hv;cases hb:Nat.beq k f with
    |true=>rw[hb]at hv;have:=aaI hb;subst this;exact h _ ab' _ _ hv
    |false=>rw[hb]at hv;exact ih (fun q hq=>h q (ab0 _ hq)) _ _ _ hv
end
end Fw
