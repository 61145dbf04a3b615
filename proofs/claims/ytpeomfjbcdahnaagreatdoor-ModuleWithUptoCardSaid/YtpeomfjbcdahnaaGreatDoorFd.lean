/-
  Boxes that nothing refers to are dropped; slots are forgotten; what a row of boxes reads as, to the bottom; calls that touch nothing.
-/
import Derived.Test.YtpeomfjbcdahnaaGreatDoorFc
set_option linter.unusedSimpArgs false
set_option linter.unusedVariables false
namespace Fw
open Go
mutual
def aC(n:Nat):V->Bool| .ptr b _ _=>Nat.blt b n| .sl b _ _ _ _=>Nat.blt b n| .map b=>Nat.blt b n| .iter b _=>Nat.blt b n| .gJ b=>Nat.blt b n| .func _ a c=>aE n a&&aE n c| .iface _ v=>aC n v| .agg cs=>aE n cs| .tuple vs=>aE n vs|_=>true
def aE(n:Nat):List V->Bool|[]=>true|v::vs=>aC n v&&aE n vs
end
def cZ(n:Nat):bW->Bool
 | .cells cs=>aE n cs
 | .map es=>es.all fun p=>aC n p.2
 | .bM m _ _=>Nat.blt m n
 | .loop _ tm _ _ _ _=>tm.all fun p=>aC n (get tm p.1)
 |_=>true
def aS(n:Nat):ao->Bool|[]=>true|none::H=>aS n H|some b::H=>cZ n b&&aS n H
def G.cut(g:G)(n:Nat):G:=⟨fun b=>g.cr b/\b<n,fun b=>if b<n then g.γ b else none,g.fo,g.base⟩
theorem jz{g:G}{w:World}{n k:Nat}(h:cw g w k):cw (g.cut n) w k:=by
 refine⟨h.1,h.2.1,fun b x hx=>?_ ⟩;simp only[G.cut]at hx;split at hx
 ·exact h.2.2 b x hx
 ·cases hx
structure nk (n:Nat) (g g':G) (w:World):Prop where
 cr:∀b,b<n->g.cr b->g'.cr b
 γ:∀b,b<n->g'.γ b=g.γ b
 cw:∀k,cw g w k->cw g' w k
theorem nk.keeps{n:Nat}{g g':G}{w:World}(h:nk n g g' w):gS w w (Fw.cw g w) (Fw.cw g' w):=fun k hk=>⟨h.cw k hk,rfl⟩
mutual
theorem RV.agree{n:Nat}{g g':G}{w:World}(h:nk n g g' w):∀(u:V)(v:Value),aC n u=true->RV g w u v->RV g' w u v
 | .any,_,_,_=>by simp only[RV]
 | .d x,v,_,hv=>by simp only[RV]at hv⊢;exact Rd.keeps h.keeps _ _ hv
 | .full es,v,_,hv=>by simp only[RV]at hv⊢;exact⟨Rd.keeps h.keeps _ _ hv.1,hv.2⟩
 | .aj,_,_,hv=>by grind[RV]
 | .ptr b hh off,v,hn,hv=>by simp only[aC,aaU]at hn;simp only[RV]at hv⊢;exact⟨⟨hv.1.1,h.cr b hn hv.1.2⟩,fun x hx=>hv.2 x (by rw[←h.γ b hn];exact hx)⟩
 | .lu,_,_,hv=>by grind[RV]
 | .aL cs,v,_,hv=>by
  simp only[RV]at hv⊢;obtain⟨aK,off,h1,h2,h3⟩:=hv;refine⟨aK,off,h1,fun hn=>h.cw _ (h2 hn),?_ ⟩;cases cs with
   |nil=>simp only[cV]
   |cons c cs=>exact cV.keeps h.keeps (h2 (by simp)) _ _ h3
 | .sl b hh off len sz,v,hn,hv=>by simp only[aC,aaU]at hn;simp only[RV]at hv⊢;exact⟨⟨hv.1.1,h.cr b hn hv.1.2⟩,fun x hx=>hv.2 x (by rw[←h.γ b hn];exact hx)⟩
 | .map b,v,hn,hv=>by simp only[aC,aaU]at hn;simp only[RV]at hv⊢;exact⟨⟨hv.1.1,h.cr b hn hv.1.2⟩,fun x hx=>hv.2 x (by rw[←h.γ b hn];exact hx)⟩
 | .kj,_,_,hv=>by grind[RV]
 | .func f a c,v,hn,hv=>by simp only[aC,aas]at hn;simp only[RV]at hv⊢;obtain⟨x,y,h1,h2,h3⟩:=hv;exact⟨x,y,h1,aM.agree h _ _ hn.1 h2,aM.agree h _ _ hn.2 h3⟩
 | .ob,_,_,hv=>by grind[RV]
 | .iface t u,v,hn,hv=>by simp only[aC]at hn;simp only[RV]at hv⊢;obtain⟨x,h1,h2⟩:=hv;exact⟨x,h1,RV.agree h _ _ hn h2⟩
 | .bD,_,_,hv=>by grind[RV]
 | .fA,_,_,hv=>by grind[RV]
 | .agg cs,v,hn,hv=>by simp only[aC]at hn;simp only[RV]at hv⊢;obtain⟨x,h1,h2⟩:=hv;exact⟨x,h1,aM.agree h _ _ hn h2⟩
 | .tuple vs,v,hn,hv=>by simp only[aC]at hn;simp only[RV]at hv⊢;obtain⟨x,h1,h2⟩:=hv;exact⟨x,h1,aM.agree h _ _ hn h2⟩
 | .iter b m,v,hn,hv=>by simp only[aC,aaU]at hn;simp only[RV]at hv⊢;exact⟨⟨hv.1.1,h.cr b hn hv.1.2⟩,fun x hx=>hv.2 x (by rw[←h.γ b hn];exact hx)⟩
 | .gJ b,v,hn,hv=>by simp only[aC,aaU]at hn;simp only[RV]at hv⊢;exact⟨⟨hv.1.1,h.cr b hn hv.1.2⟩,fun x hx=>hv.2 x (by rw[←h.γ b hn];exact hx)⟩
theorem aM.agree{n:Nat}{g g':G}{w:World}(h:nk n g g' w):∀(us:List V)(vs:List Value),aE n us=true->aM g w us vs->aM g' w us vs
 |[],[],_,_=>by simp only[aM]
 |u::us,v::vs,hn,hv=>by simp only[aE,aas]at hn;simp only[aM]at hv⊢;exact⟨RV.agree h _ _ hn.1 hv.1,aM.agree h _ _ hn.2 hv.2⟩
 |[],_::_,_,hv=>by grind[aM]
 |_::_,[],_,hv=>by grind[aM]
end
variable {n:Nat}{w:World}
theorem fx(g:G)(w:World)(n:Nat):nk n g (g.cut n) w:=⟨fun _ hb hd=>⟨hd,hb⟩,fun b hb=>by simp[G.cut,hb],fun _ hk=>jz hk⟩
theorem fc{n:Nat}:∀{H:ao}{b:Nat}{y:bW},aS n H=true->aA H b=some y->cZ n y=true
 |[],b,y,_,h=>by simp[aA]at h
 |none::H,0,y,_,h=>by simp[aA]at h
 |some x::H,0,y,hl,h=>by simp_all[aS,aas,aA]
 |none::H,b+1,y,hl,h=>by simp only[aS]at hl;exact fc hl h
 |some x::H,b+1,y,hl,h=>by simp only[aS,aas]at hl;exact fc hl.2 h
theorem qg:∀(H:ao)(n b:Nat),aA (H.take n) b=if b<n then aA H b else none
 |[],n,b=>by simp[aA]
 |x::H,0,b=>by simp[aA]
 |x::H,n+1,0=>by simp[aA]
 |x::H,n+1,b+1=>by simp[aA,qg H n b]
theorem Bj:∀(tm:List (Nat×V))(t:Nat),get tm t=.any\/∃p∈tm,p.1=t
 |[],_=>.inl rfl
 |(s,u)::l,t=>by
  simp only[get];cases h:Nat.beq s t with
   |true=>exact .inr ⟨(s,u),by simp,aav h⟩
   |false=>
    rcases Bj l t with e|⟨p,hp,e⟩
    ·exact .inl e
    ·exact .inr ⟨p,aaZ _ hp,e⟩
theorem xP{tm:List (Nat×V)}(t:Nat)(h:(tm.all fun p=>aC n (get tm p.1))=true):aC n (get tm t)=true:=by
 rcases Bj tm t with e|⟨p,hp,rfl⟩
 ·rw[e];rfl
 ·exact aaJ.1 h p hp
theorem RB.agree{g g':G}{x:GB}{y:bW}(h:nk n g g' w)(hy:cZ n y=true)(hr:RB g w x y):RB g' w x y:=by
 cases x with
  |cells aK cp cur=>
   cases y with
    |cells cs=>simp only[RB]at hr⊢;obtain⟨h1,h2,h3,c,e,h4,h5,h6⟩:=hr;exact⟨h1,h2,h3,c,e,h4,h5,aM.agree h _ _ hy h6⟩
    |_=>grind[RB]
  |nil=>grind[RB]
  |obj aK=>
   cases y with
    |map es=>
     simp only[RB]at hr⊢;obtain⟨bG,clock,h1,h2,h3,h4⟩:=hr;refine⟨bG,clock,h1,h2,fun i k v hi=>?_,h4⟩;obtain⟨z,KT,Hx,Hy,Ou⟩:=h3 i k v hi;have:aC n v=true:=by grind[cZ,List.all_eq_true]
     exact⟨z,KT,Hx,Rd.keeps h.keeps _ _ Hy,RV.agree h _ _ this Ou⟩
    |uo s pos=>grind[RB]
    |loop k tm ps ca cb st=>simp only[RB]at hr⊢;obtain⟨r,h1,h2,h3,h4⟩:=hr;exact⟨r,h1,h2,fun t=>RV.agree h _ _ (xP t hy) (h3 t),h4⟩
    |bM m k seen=>simp only[RB]at hr⊢;obtain⟨mb,sa,h1,h2,h3,h4⟩:=hr;simp only[cZ,aaU]at hy;exact⟨mb,sa,h1,h2,h.cr m hy h3,fun x hx=>h4 x (by rw[←h.γ m hy];exact hx)⟩
    |_=>grind[RB]
theorem ax.cut{g:G}{H:ao}(hh:ax g w H)(hl:aS n (H.take n)=true):ax (g.cut n) w (H.take n):=by
 refine⟨fun b hb=>?_,fun b x hx=>?_,fun b y hy=>?_,fun b b' x x' k hx kZ hk kg=>?_,fun k hk=>⟨(hh.fo k hk).1,fun b x hx=>?_ ⟩⟩
 ·have:=hh.cr b hb.1;have:=hb.2;simp;omega
 ·simp only[G.cut]at hx;split at hx
  ·rename_i hb;obtain⟨h1,y,h2,h3⟩:=hh.live b x hx;have hg:aA (H.take n) b=some y:=by grind[qg]
   exact⟨⟨h1,hb⟩,y,hg,RB.agree (fx g w n) (fc hl hg) h3⟩
  ·cases hx
 ·rw[qg]at hy;split at hy
  ·rename_i hb;obtain⟨x,hx⟩:=hh.back b y hy;grind[G.cut]
  ·cases hy
 ·simp only[G.cut]at hx kZ;split at hx
  ·split at kZ
   ·exact hh.inj b b' x x' k hx kZ hk kg
   grind
  ·cases hx
 ·simp only[G.cut]at hx;split at hx
  ·exact(hh.fo k hk).2 b x hx
  ·cases hx
theorem bA.cut{g0 g:G}{w0:World}(h:bA g0 w0 g w)(hn:∀b,g0.cr b->b<n):bA g0 w0 (g.cut n) w:=⟨h.os,h.tape,h.output,h.size,fun k hk=>⟨jz (h.keeps k hk).1,(h.keeps k hk).2⟩,fun b hb=>⟨h.cr b hb,hn b hb⟩,fun b hb=>by simp only[G.cut,hn b hb,abJ];exact h.step b hb,h.fo,h.base,h.dB⟩
def fe(cO:List Nat):List (Nat×V)->List (Nat×V)|[]=>[]|(t,v)::l=>bif cO.any (Nat.beq t)then(t,v)::fe cO l else fe cO l
theorem nM(cO:List Nat)(t:Nat):∀(l:List (Nat×V)),get (fe cO l) t=get l t\/get (fe cO l) t=.any
 |[]=>.inl rfl
 |(s,v)::l=>by
  simp only[fe];cases hk:cO.any (Nat.beq s)with
   |true=>
    simp only[aaw,get];cases Nat.beq s t with
     |true=>grind
     |false=>exact nM cO t l
   |false=>
    simp only[aaK,get];cases hb:Nat.beq s t with
     |true=>
      have e:=aav hb;subst e;right;have xf:∀(l:List (Nat×V)),get (fe cO l) s=.any:=by
       intro l;induction l with
        |nil=>rfl
        |cons p l ih=>
         obtain⟨q,u⟩:=p;simp only[fe];cases hq:cO.any (Nat.beq q)with
          |true=>
           simp only[aaw,get];cases OA:Nat.beq q s with
            |true=>have:=aav OA;grind
            |false=>exact ih
          |false=>exact ih
      exact xf l
     |false=>exact nM cO t l
def sr(n:Nat):List (Nat×V)->Bool|[]=>true|(_,v)::l=>aC n v&&sr n l
theorem xQ{n t:Nat}:∀{l:List (Nat×V)},sr n l=true->aC n (get l t)=true
 |[],_=>rfl
 |(s,v)::l,h=>by
  simp only[sr,aas]at h;simp only[get];cases Nat.beq s t with
   |true=>exact h.1
   |false=>exact xQ h.2
def kP(cO:List Nat)(n:Nat)(σ:St):Option St:=let tm:=fe cO σ.tm;bif sr n tm&&aS n (σ.hp.take n)then some ⟨σ.n,tm,σ.hp.take n⟩else none
section
variable {P:Program}{GL:bR}
theorem R.clean{cO:List Nat}{n:Nat}{g:G}{w:World}{a:Act}{σ bg:St}(h:R GL g w a σ)(hc:kP cO n σ=some bg):R GL (g.cut n) w a bg:=by
 unfold kP at hc;simp only at hc;cases hb:(sr n (fe cO σ.tm)&&aS n (σ.hp.take n))with
  |false=>grind
  |true=>
   rw[hb]at hc;simp at hc;subst hc;simp at hb;refine⟨⟨h.defers.1,h.defers.2.1,fun d hd=>(h.defers.2.2 d hd).imp fun D hD=>⟨hD.1,hD.2.1,jz hD.2.2.1,hD.2.2.2⟩⟩,h.size,fun t=>?_,h.heap.cut hb.2,⟨fun m cs hm=>⟨jz (h.cB.rd m cs hm).1,cV.keeps (fx g w n).keeps (h.cB.rd m cs hm).1 _ _ (h.cB.rd m cs hm).2⟩,fun k hk=>⟨jz (h.cB.w0 k hk).1,(h.cB.w0 k hk).2⟩⟩⟩;have cA:=xQ (t:=t) hb.1;rcases nM cO t σ.tm with e|e
   ·rw[e]at cA⊢;exact RV.agree (fx g w n) _ _ cA (h.tmps t)
   grind[RV]
theorem WF.cut{f:FuncId}{args:List V}{H:ao}{Q:V->ao->Prop}(h:WF P GL f args H (fun v H'=>Q v H'\/(aC H.length v=true/\aS H.length (H'.take H.length)=true/\Q v (H'.take H.length)))):WF P GL f args H Q:=by
 refine⟨h.1,fun g w vs cX hh hg=>(h.2 g w vs cX hh hg).mono ?_ ⟩;rintro e w' ⟨x,v,g',H',rfl,hq,hx,pW,he⟩;rcases hq with hq|⟨h1,h2,h3⟩
 ·grind
 ·exact⟨x,v,g'.cut H.length,_,rfl,h3,RV.agree (fx g' w' _) _ _ h1 hx,pW.cut h2,he.cut (fun b hb=>hh.cr b hb)⟩
end
end Fw
/-
  What rows of own boxes read as, to the bottom; calls that touch nothing.
-/
namespace Fw
open Go
variable {w:World}{H:ao}{u:V}{v:Value}
def wi(g:G)(w:World)(k:Nat):Prop:=k<w.heap.size/\¬g.fo k
theorem fI{g:G}{k:Nat}(h:cw g w k):wi g w k:=⟨h.1,h.2.1⟩
theorem gS.of{im vD:Nat->Prop}(h:∀k,im k->vD k):gS w w im vD:=fun k hk=>⟨h k hk,rfl⟩
theorem ax.nO{g:G}(hh:ax g w H){b k:Nat}{x:GB}(hx:g.γ b=some x)(hk:x.own=some k):wi g w k:=by obtain⟨_,y,_,h3⟩:=hh.live b x hx;exact⟨h3.lt k hk,hh.qL hx hk⟩
theorem uM{w:World}{im:Nat->Prop}{aK sz:Nat}:∀{n:Nat}{off:Nat}{l:List D},l.length=n*sz->cV w im aK off l->eD w im aK off sz (fl sz n l)
 |0,_,_,_,_=>by grind[fl,eD]
 |n+1,off,l,hl,h=>by
  simp only[fl,eD];have hle:sz<=l.length:=by grind
  refine⟨by simp;omega,?_,?_ ⟩
  ·have:∀(k:Nat)(ds:List D)(q:Nat),cV w im aK q ds->cV w im aK q (ds.take k):=by
    intro k ds;induction ds generalizing k with
     |nil=>grind
     |cons d ds ih=>intro q hq;cases k<;>grind[cV]
   grind
  ·exact uM (by grind) (cV.drop sz h)
theorem xR{g:G}(hh:ax g w H):∀(f:Nat)(u:V)(v:Value)(d:D),kX H f u=some d->RV g w u v->Rd w (wi g w) d v:=by
 intro f;induction f with
  |zero=>
   intro u v d hd hv;cases u with
    |d x=>simp only[kX,aat]at hd;subst hd;simp only[RV]at hv;exact Rd.keeps (gS.of fun _ hk=>fI hk) _ _ hv
    |aj=>grind[kX,Option.some.injEq,RV,Rd]
    |_=>simp[kX]at hd
  |succ f ih=>
   intro u v d hd hv;cases u with
    |d x=>grind[kX,Option.some.injEq,RV]
    |aj=>grind[kX,Option.some.injEq,RV,Rd]
    |sl b hb off len sz=>
     simp only[kX]at hd;cases hg:aA H b with
      |none=>grind
      |some y=>
       cases y with
        |cells cs=>
         simp only[hg]at hd;cases hc:(Nat.beq cs.length hb&&Nat.ble (off+len*sz) hb)with
          |false=>grind
          |true=>
           rw[hc]at hd;simp at hd;split at hd
           ·rename_i l hl;simp at hd;subst hd;simp only[aas]at hc;have e2:=aax hc.2;obtain⟨aK,cp,c,e,h1,h2,h3,h4,h5,h6,h7⟩:=kB hg hc.1 hh;obtain⟨cap,rfl,h8,h9⟩:=RV.pV hv h1;have VJ:=bU hl;have hlen:l.length=len*sz:=by grind
            have cX:=(h7.drop off).take (len*sz);simp only[Rd];refine .inr ⟨aK,off,cap,sz,by rw[iD],by grind[iD],fun _=>hh.nO h1 rfl,uM hlen (cV.kE (vs:=((c.toList.take hb).drop off).take (len*sz)) (by grind) (fun j d' v' hd fY=>?_ ) (fun j v' fY=>?_ ))⟩
            ·have hj:j<l.length:=(aaA.1 hd).1;have Eo:j<((cs.drop off).take (len*sz)).length:=by omega
             obtain⟨d2,k1,k2⟩:=gV j _ hl (aaz Eo);rw[hd]at k1;simp at k1;subst k1;obtain⟨x,k3,k4⟩:=cX.get j (aaz Eo);grind
            grind[World.cell?]
           ·cases hd
        |nil=>
         simp only[hg]at hd;cases hc:Nat.beq len 0 with
          |false=>grind
          |true=>
           rw[hc]at hd;simp at hd;subst hd;obtain⟨x,hx⟩:=hh.back b _ hg;obtain⟨_,y,hy,hr⟩:=hh.live b x hx;rw[hg]at hy;simp at hy;subst hy;cases x with
            |cells=>grind[RB]
            |obj=>grind[RB]
            |nil=>obtain⟨_,_,_,rfl⟩:=RV.uw hv hx;simp[Rd]
        |_=>grind
    |_=>grind[kX]
def o4(w:World)(im:Nat->Prop):V->Value->Prop| .d x,v=>Rd w im x v| .fA,v=>v=.nilIface| .bD,v=>∃t x,v=.iface t x| .lu,v=>v=.pointer none| .agg cs,v=>∃(x:Array Value)(ds:List D),v=.agg x/\cs=ds.map V.d/\ds.length=x.size/\∀(j:Nat)(d:D)(y:Value),ds[j]? =some d->x[j]? =some y->Rd w im d y|_,_=>False
theorem aM.HX{g:G}{ds:List D}{vs:List Value}(hl:ds.length=vs.length)(h:∀(j:Nat)(d:D)(y:Value),ds[j]? =some d->vs[j]? =some y->Rd w (cw g w) d y):aM g w (ds.map V.d) vs:=by
 refine aM.eN (by grind) fun i u v hu hv=>?_
 grind[Option.map_eq_some_iff,RV]
theorem o4.rv{g:G}{im:Nat->Prop}(nJ:∀k,im k->cw g w k)(h:o4 w im u v):RV g w u v:=by
 cases u with
  |d x=>simp only[o4]at h;simp only[RV];exact Rd.keeps (gS.of nJ) _ _ h
  |fA=>grind[o4,RV]
  |bD=>grind[o4,RV]
  |lu=>grind[o4,RV]
  |agg cs=>simp only[o4]at h;obtain⟨x,ds,rfl,rfl,h1,h2⟩:=h;simp only[RV];exact⟨x,rfl,aM.HX (by grind) (fun j d y hd hy=>Rd.keeps (gS.of nJ) _ _ (h2 j d y hd (by grind)))⟩
  |_=>grind[o4]
theorem o5{g:G}(hh:ax g w H){r:V}(h:oe H u=some r)(hv:RV g w u v):o4 w (wi g w) r v:=by
 unfold oe at h;split at h
 ·rename_i cs;split at h
  ·rename_i l hl;simp at h;subst h;simp only[RV]at hv;obtain⟨x,rfl,hx⟩:=hv;have hlen:=bU hl;have Vp:=hx.length;simp at Vp;simp only[o4];refine⟨x,l,rfl,rfl,by omega,fun j d y hd hy=>?_ ⟩;have hj:j<cs.length:=by grind
   obtain⟨d2,k1,k2⟩:=gV j _ hl (aaz hj);rw[hd]at k1;simp at k1;subst k1;obtain⟨z,k3,k4⟩:=hx.get j (aaz hj);have:z=y:=by grind
   subst this;exact xR hh _ _ _ _ k2 k4
  ·cases h
 ·grind[Option.some.injEq,RV,o4]
 ·grind[Option.some.injEq,RV,o4]
 ·grind[Option.some.injEq,RV,o4]
 ·split at h
  ·rename_i x hx;simp at h;subst h;simp only[o4];exact xR hh _ _ _ _ hx hv
  ·cases h
theorem sv{g g':G}(hh:ax g w H)(nJ:∀k,wi g w k->cw g' w k){r:V}(h:gR H u=some r)(hv:RV g w u v):RV g' w r v:=by
 unfold gR at h;split at h
 ·rename_i vs;split at h
  ·rename_i l hl;simp at h;subst h;simp only[RV]at hv⊢;obtain⟨x,rfl,hx⟩:=hv;refine⟨x,rfl,aM.eN (by have:=bU hl;have:=hx.length;omega) fun i u y hu hy=>?_ ⟩;have hi:i<vs.length:=by have:=(aaA.1 hu).1;have:=bU hl;omega
   obtain⟨u2,k1,k2⟩:=gV i _ hl (aaz hi);rw[hu]at k1;simp at k1;subst k1;obtain⟨z,k3,k4⟩:=hx.get i (aaz hi);rw[hy]at k3;simp at k3;subst k3;exact(o5 hh k2 k4).rv nJ
  ·cases h
 ·exact(o5 hh h hv).rv nJ
section
variable {P:Program}{GL:bR}
variable {f:FuncId}{v:V}
theorem PC.Uo{args:List V}{R:V->ao->Prop}(hd:aE 0 args=true)(h:WF P GL f args [] R)(hr:∀r H' g g' w x,R r H'->ax g' w H'->(∀k,wi g' w k->cw g w k)->RV g' w r x->RV g w v x):PC P GL f args v:=by
 refine⟨h.1,fun g w vs cX Hk gq hg=>?_ ⟩;let g0:G:=⟨fun _=>False,fun _=>none,fun k=>g.fo k\/∃b x,g.γ b=some x/\x.own=some k,g.base⟩;have mT:∀k,cw g w k↔cw g0 w k:=by
  intro k;constructor
  ·rintro⟨h1,h2,h3⟩;refine⟨h1,?_,fun b x hx=>by cases hx⟩;grind
  ·rintro⟨h1,h2,_⟩;exact⟨h1,fun h4=>h2 (.inl h4),fun b x hx hk=>h2 (.inr ⟨b,x,hx,hk⟩)⟩
 have DQ:nk 0 g g0 w:=⟨fun b hb=>by omega,fun b hb=>by omega,fun k hk=>(mT k).1 hk⟩;have hH:ax g0 w []:=by refine⟨fun b hb=>hb.elim,fun b x hx=>(by cases hx),fun b y hy=>(by grind[aA]),fun b b' x x' k hx=>(by cases hx),fun k hk=>⟨?_,fun b x hx=>(by cases hx)⟩⟩;grind
 have hG:dY GL g0 w:=⟨fun n cs hn=>⟨(mT n).1 (hg.rd n cs hn).1,cV.keeps DQ.keeps (hg.rd n cs hn).1 _ _ (hg.rd n cs hn).2⟩,fun k hk=>⟨(mT k).1 (hg.w0 k hk).1,(hg.w0 k hk).2⟩⟩;refine(h.2 g0 w vs (aM.agree DQ _ _ hd cX) hH hG).mono ?_;rintro e w' ⟨x,r,g',H',rfl,Pb,hx,pW,he⟩;have EP:∀k,wi g' w' k->cw g w' k:=by rintro k ⟨h1,h2⟩;rw[he.fo]at h2;exact⟨h1,fun h3=>h2 (.inl h3),fun b x hx hk=>h2 (.inr ⟨b,x,hx,hk⟩)⟩
 refine⟨x,rfl,hr _ _ _ _ _ _ Pb pW EP hx,⟨he.os,he.tape,he.output,he.size,fun k hk=>?_,fun _ h=>h,fun _ _=>GB.step.refl _,rfl,rfl,fun k hk=>he.dB k (.inl hk)⟩,fun b y k hy hk=>he.dB k (.inr ⟨b,y,hy,hk⟩)⟩;obtain⟨h1,h2⟩:=he.keeps k ((mT k).1 hk);exact⟨⟨h1.1,hk.2.1,hk.2.2⟩,h2⟩
theorem PC.of{args:List V}(hd:aE 0 args=true)(h:WF P GL f args [] (fun r H'=>gR H' r=some v)):PC P GL f args v:=PC.Uo hd h fun _ _ _ _ _ _ h1 h2 h3 h4=>sv h2 h3 h1 h4
theorem WF.ER{args:List V}{H:ao}{Q:V->ao->Prop}(h:PC P GL f args v)(hq:Q v H):WF P GL f args H Q:=by refine⟨h.1,fun g w vs cX hh hg=>(h.2 g w vs cX (fun k hk=>(hh.fo k hk).1) (RV.ew hh) hg).mono ?_ ⟩;rintro e w' ⟨x,rfl,hx,he,gq⟩;exact⟨x,v,g,H,rfl,hq,hx,hh.ext he gq,he⟩
end
end Fw
/-
  Running code of the abstract machine, for what is known whole; and that the model does the same.
-/
namespace Fw
open Go
abbrev a7:=FuncId->List V->ao->Option (V×ao)
abbrev br:=FuncId->List V->Option V
def iX(own:List Nat)(GL:bR)(tm:List (Nat×V))(o:ab):Option V:=match o.op with
 | .mkSlice _ _ _ _=>bif zU o.dst own then none else jN (aW GL tm) o.op
 |_=>none
def jl(own:List Nat)(GL:bR)(call:a7):List ab->St->Option St
 |[],σ=>some σ
 |o::l,σ=>
  match aB o.guard σ.tm with
   |none=>none
   |some false=>
    match σ.put o.dst (.tuple []) σ.hp with
     |some bg=>jl own GL call l bg
     |none=>none
   |some true=>
    match o.op with
     | .call f args=>
      match call f (bQ (aW GL σ.tm) args) σ.hp with
       |some (v,H')=>
        match σ.put o.dst v H' with
         |some bg=>jl own GL call l bg
         |none=>none
       |none=>none
     | .b_ x args=>
      match aW GL σ.tm x with
       | .func f first cap=>
        match call f (first++bQ (aW GL σ.tm) args++cap) σ.hp with
         |some (v,H')=>
          match σ.put o.dst v H' with
           |some bg=>jl own GL call l bg
           |none=>none
         |none=>none
       |_=>none
     |op=>
      match iX own GL σ.tm o with
       |some v=>
        match σ.put o.dst v σ.hp with
         |some bg=>jl own GL call l bg
         |none=>none
       |none=>
        match bw (aW GL σ.tm) σ.hp σ.hp.length op with
         |some (v,wr)=>
          match σ.put o.dst v (bn σ.hp wr)with
           |some bg=>jl own GL call l bg
           |none=>none
         |none=>none
def ES(n:Nat)(v:V)(H:ao):V×ao:=bif aC n v&&aS n (H.take n)then(v,H.take n)else(v,H)
def jW:FuncId:=1000000000000
def o6(call:a7):a7:=fun f args H=>bif Nat.beq f jW then none else call f args H
def mF(gy:br)(iG:a7):br:=fun f args=>
 match gy f args with
  |some v=>some v
  |none=>
   bif aE 0 args then
    (match o6 iG f args []with
     |some (r,H)=>gR H r
     |none=>none)else none
def rG(rf:FuncId->Bool)(gy:br)(iG:a7):a7:=fun f args H=>
 bif Nat.beq f jW then iG f args H else
  match(bif rf f then none else mF gy iG f args)with
   |some v=>some (v,H)
   |none=>
    match iG f args H with
     |some (v,H')=>some (ES H.length v H')
     |none=>none
abbrev z6:=br->a7
def z7(rf:FuncId->Bool)(mU:z6)(gy:br)(iG:a7):a7:=fun f args H=>
 bif Nat.beq f jW then iG f args H else
  match mU (mF gy iG) f args H with
   |some r=>some r
   |none=>rG rf gy iG f args H
section
variable {P:Program}{GL:bR}
variable {gy:br}{iG:a7}
def qh(P:Program)(GL:bR)(call:a7):Prop:=∀f args H v H',call f args H=some (v,H')->WF P GL f args H (fun r h=>r=v/\h=H')
structure cy (P:Program) (GL:bR) (call:a7):Prop where
 fn:∀f args H v H',Nat.beq f jW=false->call f args H=some (v,H')->WF P GL f args H (fun r h=>r=v/\h=H')
 yl:∀args H v H',call jW args H=some (v,H')->∃b as,args=.gJ b::as/\(∃n tm ps ca cb st,aA H b=some (.loop n tm ps ca cb st))/\WY P GL b as H (fun r h=>r=v/\h=H')
theorem cy.g{call:a7}(hc:cy P GL call):qh P GL (o6 call):=by
 intro f args H v H' h;unfold o6 at h;cases hb:Nat.beq f jW with
  |true=>rw[hb]at h;cases h
  |false=>rw[hb]at h;exact hc.fn _ _ _ _ _ hb h
def cd(P:Program)(GL:bR)(aO:br):Prop:=∀f args v,aO f args=some v->PC P GL f args v
theorem mG{own:List Nat}{call:a7}(hc:qh P GL call):∀{l:List ab}{σ bg:St}{Q:St->Prop},jl own GL call l σ=some bg->Q bg->WO P GL l σ Q
 |[],σ,bg,Q,h,hq=>by simp only[jl,aat]at h;subst h;exact WO.nil hq
 |o::l,σ,bg,Q,h,hq=>by
  simp only[jl]at h;split at h
  ·cases h
  ·rename_i hg;split at h
   ·rename_i vR h1;exact WO.skip hg h1 (mG hc h hq)
   ·cases h
  ·rename_i hg;split at h
   ·rename_i f args ho;split at h
    ·rename_i v H' cq;split at h
     ·rename_i vR h1;refine WO.call ho hg ((hc _ _ _ _ _ cq).mono ?_ );rintro r hp ⟨rfl,rfl⟩;exact⟨vR,h1,mG hc h hq⟩
     ·cases h
    ·cases h
   ·rename_i x args ho;split at h
    ·rename_i f first cap hx
     split at h
     ·rename_i v H' cq;split at h
      ·rename_i vR h1;refine WO.b_ ho hx hg ((hc _ _ _ _ _ cq).mono ?_ );rintro r hp ⟨rfl,rfl⟩;exact⟨vR,h1,mG hc h hq⟩
      ·cases h
     ·cases h
    ·cases h
   ·split at h
    ·rename_i v he;split at h
     ·rename_i vR h1;refine WO.jN hg ?_ h1 (mG hc h hq);unfold iX at he;grind
     ·cases h
    ·split at h
     ·rename_i v wr he;split at h
      ·rename_i vR h1;exact WO.bw hg he h1 (mG hc h hq)
      ·cases h
     ·cases h
theorem kQ(hp:cd P GL gy)(hr:cy P GL iG):cd P GL (mF gy iG):=by
 intro f args v h;unfold mF at h;split at h
 ·rename_i u hu;simp at h;subst h;exact hp _ _ _ hu
 ·cases hb:aE 0 args with
   |false=>grind
   |true=>
    rw[hb]at h;simp at h;split at h
    ·rename_i r H LB;refine PC.of hb ((hr.g _ _ _ _ _ LB).mono ?_ );grind
    ·cases h
theorem sw{rf:FuncId->Bool}(hp:cd P GL gy)(hr:cy P GL iG):cy P GL (rG rf gy iG):=by
 refine⟨fun f args H v H' hf h=>?_,fun args H v H' h=>hr.yl _ _ _ _ h⟩;unfold rG at h;rw[hf,aaK]at h;split at h
 ·rename_i u hu;simp at h;obtain⟨rfl,rfl⟩:=h;cases hrf:rf f with
   |true=>grind
   |false=>rw[hrf]at hu;exact WF.ER (kQ hp hr _ _ _ hu) ⟨rfl,rfl⟩
 ·split at h
  ·rename_i u H1 LB;simp at h;refine WF.cut ((hr.fn _ _ _ _ _ hf LB).mono ?_ );rintro r' H2 ⟨rfl,rfl⟩;unfold ES at h;grind
  ·cases h
def wj(P:Program)(GL:bR)(mU:z6):Prop:=∀aO,cd P GL aO->qh P GL (mU aO)
theorem CJ{rf:FuncId->Bool}{mU:z6}(hh:wj P GL mU)(hp:cd P GL gy)(hr:cy P GL iG):cy P GL (z7 rf mU gy iG):=by
 refine⟨fun f args H v H' hf h=>?_,fun args H v H' h=>hr.yl _ _ _ _ h⟩;unfold z7 at h;rw[hf,aaK]at h;split at h
 ·rename_i r ur;simp at h;subst h;exact hh _ (kQ hp hr) _ _ _ _ _ ur
 ·exact(sw hp hr).fn _ _ _ _ _ hf h
end
end Fw
/-
  A call that touches nothing, handed memory of an own box to read: the answer is bools, numbers and strings.
-/
namespace Fw
open Go
def xS:V->Bool| .d (.bool _)=>true| .d (.int _ _)=>true| .d (.str _)=>true| .fA=>true| .bD=>true|_=>false
def xT:V->Bool| .tuple vs=>vs.all xS|v=>xS v
theorem xU{g g':G}{w w':World}{u:V}{x:Value}(h:xS u=true)(hx:RV g w u x):RV g' w' u x:=by
 unfold xS at h;split at h
 ·simpa only[RV,Rd]using hx
 ·simpa only[RV,Rd]using hx
 ·simpa only[RV,Rd]using hx
 ·simpa only[RV]using hx
 ·simpa only[RV]using hx
 ·cases h
theorem xV{g g':G}{w w':World}:∀{us:List V}{xs:List Value},us.all xS=true->aM g w us xs->aM g' w' us xs
 |[],[],_,_=>by simp only[aM]
 |[],_::_,_,h=>by simp only[aM]at h
 |_::_,[],_,h=>by simp only[aM]at h
 |u::us,x::xs,ha,h=>by simp only[aaM,aas]at ha;simp only[aM]at h⊢;exact⟨xU ha.1 h.1,xV ha.2 h.2⟩
theorem ET{g g':G}{w w':World}{u:V}{x:Value}(h:xT u=true)(hx:RV g w u x):RV g' w' u x:=by
 unfold xT at h;split at h
 ·simp only[RV]at hx⊢;obtain⟨y,rfl,hy⟩:=hx;exact⟨y,rfl,xV h hy⟩
 ·exact xU h hx
section
variable {P:Program}{GL:bR}
theorem WF.borrow{f:FuncId}{args sx:List V}{v:V}{H:ao}{Q:V->ao->Prop}(hd:bS (oe H) args=some sx)(h:PC P GL f sx v)(hs:xT v=true)(hq:Q v H):WF P GL f args H Q:=by
 refine⟨h.1,fun g w vs cX hh hg=>?_ ⟩;let g0:G:=⟨g.cr,fun _=>none,g.fo,g.base⟩;have nJ:∀k,wi g w k->cw g0 w k:=fun k hk=>⟨hk.1,hk.2,fun b x hx=>by cases hx⟩
 have O4:=bU hd;have Z3:=cX.length;have zM:aM g0 w sx vs.toList:=aM.eN (by omega) fun i u y hu hy=>by
  have hi:i<args.length:=by have:=(aaA.1 hu).1;omega
  obtain⟨u2,k1,k2⟩:=gV i _ hd (aaz hi);rw[hu]at k1;simp only[aat]at k1;subst k1;obtain⟨z,k3,k4⟩:=cX.get i (aaz hi);rw[hy]at k3;simp only[aat]at k3;subst k3;exact(o5 hh k2 k4).rv nJ
 have hG:dY GL g0 w:=⟨fun n cs hn=>⟨nJ _ (fI (hg.rd n cs hn).1),cV.keeps (show gS w w (cw g w) (cw g0 w)from gS.of fun k hk=>nJ k (fI hk)) (hg.rd n cs hn).1 _ _ (hg.rd n cs hn).2⟩,fun k hk=>⟨nJ _ (fI (hg.w0 k hk).1),(hg.w0 k hk).2⟩⟩;refine(h.2 g0 w vs zM (fun k hk=>(hh.fo k hk).1) (fun b x k hx=>by cases hx) hG).mono ?_;rintro e w' ⟨x,rfl,hx,he,-⟩;have gq:∀b y k,g.γ b=some y->y.own=some k->w'.heap[k]? =w.heap[k]? :=fun b y k hy hk=>(he.keeps k (nJ k (hh.nO hy hk))).2
 have iC:bA g w g w':=⟨he.os,he.tape,he.output,he.size,fun k hk=>⟨⟨aaY hk.1 he.size,hk.2⟩,(he.keeps k (nJ k (fI hk))).2⟩,fun _ h=>h,fun _ _=>GB.step.refl _,rfl,rfl,he.dB⟩;exact⟨x,v,g,H,rfl,hq,ET hs hx,hh.ext iC gq,iC⟩
end
end Fw
/-
  Rules for symbolic proofs: a run's answer, a loop over a row of states, a function's body; summaries of callees in a table.
-/
namespace Fw
open Go
section
variable {P:Program}{GL:bR}
theorem PC.body{f:FuncId}{fn:bL}{args:List V}{v:V}(hf:au P f=some fn)(uE:an P f=true)(hn:args.length<=fn.ntmps)(hd:aE 0 args=true)(h:WC P GL fn.body ⟨fn.ntmps,pZ 0 args,[]⟩ (fun e σ=>match e with| .exit _=>False|_=>(ij fn.res σ).bind (gR σ.hp)=some v)):PC P GL f args v:=PC.of hd (WF.body hf uE hn (h.mono fun e s hq=>by
 have key:∀{r:Option V},r.bind (gR s.hp)=some v->∃x,r=some x/\gR s.hp x=some v:=by
  intro r hr;cases r with
   |none=>simp at hr
   |some x=>exact⟨x,rfl,by simpa using hr⟩
 cases e with
  |exit i=>exact hq
  |normal=>exact key hq
  |ret=>exact key hq))
abbrev LC:=List (FuncId×(List V->Option V))
def pr:LC->br|[],_,_=>none|(k,s)::l,f,args=>bif Nat.beq k f then s args else pr l f args
theorem Pc{l:LC}(h:∀p∈l,∀args v,p.2 args=some v->PC P GL p.1 args v):cd P GL (pr l):=by
 induction l with
  |nil=>intro f args v hv;simp[pr]at hv
  |cons p l ih=>
   intro f args v hv;obtain⟨k,s⟩:=p;simp only[pr]at hv;cases hb:Nat.beq k f with
    |true=>rw[hb]at hv;have:=aav hb;subst this;exact h _ abC _ _ hv
    |false=>rw[hb]at hv;exact ih (fun q hq=>h q (aaZ _ hq)) _ _ _ hv
end
end Fw
