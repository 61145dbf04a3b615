/-
  Boxes that nothing refers to are dropped; slots are forgotten; what a row of boxes reads as, to the bottom; calls that touch nothing.
-/
import Derived.Test.YtgfgckimecpmlaaGreatDoorFc
set_option linter.unusedSimpArgs false
set_option linter.unusedVariables false
namespace Fw
open Go
mutual
def an(n:Nat):V→Bool| .ptr b _ _=>Nat.blt b n| .sl b _ _ _ _=>Nat.blt b n| .map b=>Nat.blt b n| .iter b m=>Nat.blt b n&&Nat.blt m n| .func _ a c=>ak n a&&ak n c| .iface _ v=>an n v| .agg cs=>ak n cs| .tuple vs=>ak n vs|_=>true
def ak(n:Nat):List V→Bool|[]=>true|v::vs=>an n v&&ak n vs
end
def cu(n:Nat):dU→Bool
 | .cells cs=>ak n cs
 | .map es=>es.all fun p=>an n p.2
 | .dC m _ _=>Nat.blt m n
 |_=>true
def aG(n:Nat):ah→Bool|[]=>true|none::H=>aG n H|some b::H=>cu n b&&aG n H
def G.cut(g:G)(n:Nat):G:=⟨fun b=>g.cK b∧b<n,fun b=>if b<n then g.γ b else none,g.fo⟩
theorem sb{g:G}{w:World}{n k:Nat}(h:da g w k):da (g.cut n) w k:=by
 refine⟨h.1,h.2.1,fun b x hx=>?_ ⟩;simp only[G.cut]at hx;split at hx
 ·exact h.2.2 b x hx
 ·cases hx
structure nP (n:Nat) (g g':G) (w:World):Prop where
 cK:∀b,b<n→g.cK b→g'.cK b
 γ:∀b,b<n→g'.γ b=g.γ b
 da:∀k,da g w k→da g' w k
theorem nP.keeps{n:Nat}{g g':G}{w:World}(h:nP n g g' w):jl w w (Fw.da g w) (Fw.da g' w):=fun k hk=>⟨h.da k hk,rfl⟩
mutual
theorem RV.agree{n:Nat}{g g':G}{w:World}(h:nP n g g' w):∀(u:V)(v:Value),an n u=true→RV g w u v→RV g' w u v
 | .any,_,_,_=>by simp only[RV]
 | .d x,v,_,hv=>by simp only[RV]at hv⊢;exact Rd.keeps h.keeps _ _ hv
 | .ab,_,_,hv=>by simpa only[RV]using hv
 | .ptr b hh off,v,hn,hv=>by simp only[an,aas]at hn;simp only[RV]at hv⊢;exact⟨⟨hv.1.1,h.cK b hn hv.1.2⟩,fun x hx=>hv.2 x (by rw[←h.γ b hn];exact hx)⟩
 | .ji,_,_,hv=>by simpa only[RV]using hv
 | .cA cs,v,_,hv=>by
  simp only[RV]at hv⊢;obtain⟨aO,off,h1,h2,h3⟩:=hv;refine⟨aO,off,h1,fun hn=>h.da _ (h2 hn),?_ ⟩;cases cs with
   |nil=>simp only[dh]
   |cons c cs=>exact dh.keeps h.keeps (h2 (by simp)) _ _ h3
 | .sl b hh off len sz,v,hn,hv=>by simp only[an,aas]at hn;simp only[RV]at hv⊢;exact⟨⟨hv.1.1,h.cK b hn hv.1.2⟩,fun x hx=>hv.2 x (by rw[←h.γ b hn];exact hx)⟩
 | .map b,v,hn,hv=>by simp only[an,aas]at hn;simp only[RV]at hv⊢;exact⟨⟨hv.1.1,h.cK b hn hv.1.2⟩,fun x hx=>hv.2 x (by rw[←h.γ b hn];exact hx)⟩
 | .kV,_,_,hv=>by simpa only[RV]using hv
 | .func f a c,v,hn,hv=>by simp only[an,aac]at hn;simp only[RV]at hv⊢;obtain⟨x,y,h1,h2,h3⟩:=hv;exact⟨x,y,h1,aP.agree h _ _ hn.1 h2,aP.agree h _ _ hn.2 h3⟩
 | .mh,_,_,hv=>by simpa only[RV]using hv
 | .iface t u,v,hn,hv=>by simp only[an]at hn;simp only[RV]at hv⊢;obtain⟨x,h1,h2⟩:=hv;exact⟨x,h1,RV.agree h _ _ hn h2⟩
 | .bX,_,_,hv=>by simpa only[RV]using hv
 | .gD,_,_,hv=>by simpa only[RV]using hv
 | .agg cs,v,hn,hv=>by simp only[an]at hn;simp only[RV]at hv⊢;obtain⟨x,h1,h2⟩:=hv;exact⟨x,h1,aP.agree h _ _ hn h2⟩
 | .tuple vs,v,hn,hv=>by simp only[an]at hn;simp only[RV]at hv⊢;obtain⟨x,h1,h2⟩:=hv;exact⟨x,h1,aP.agree h _ _ hn h2⟩
 | .iter b m,v,hn,hv=>by simp only[an,aac,aas]at hn;simp only[RV]at hv⊢;exact⟨⟨hv.1.1,h.cK b hn.1 hv.1.2⟩,fun x hx=>hv.2 x (by rw[←h.γ b hn.1];exact hx)⟩
theorem aP.agree{n:Nat}{g g':G}{w:World}(h:nP n g g' w):∀(us:List V)(vs:List Value),ak n us=true→aP g w us vs→aP g' w us vs
 |[],[],_,_=>by simp only[aP]
 |u::us,v::vs,hn,hv=>by simp only[ak,aac]at hn;simp only[aP]at hv⊢;exact⟨RV.agree h _ _ hn.1 hv.1,aP.agree h _ _ hn.2 hv.2⟩
 |[],_::_,_,hv=>by simp only[aP]at hv
 |_::_,[],_,hv=>by simp only[aP]at hv
end
theorem nh(g:G)(w:World)(n:Nat):nP n g (g.cut n) w:=⟨fun _ hb hd=>⟨hd,hb⟩,fun b hb=>by simp[G.cut,hb],fun _ hk=>sb hk⟩
theorem fC{n:Nat}:∀{H:ah}{b:Nat}{y:dU},aG n H=true→aA H b=some y→cu n y=true
 |[],b,y,_,h=>by simp[aA]at h
 |none::H,0,y,_,h=>by simp[aA]at h
 |some x::H,0,y,hl,h=>by simp only[aG,aac]at hl;simp[aA]at h;subst h;exact hl.1
 |none::H,b+1,y,hl,h=>by simp only[aG]at hl;exact fC hl h
 |some x::H,b+1,y,hl,h=>by simp only[aG,aac]at hl;exact fC hl.2 h
theorem qf:∀(H:ah)(n b:Nat),aA (H.take n) b=if b<n then aA H b else none
 |[],n,b=>by simp[aA]
 |x::H,0,b=>by simp[aA]
 |x::H,n+1,0=>by simp[aA]
 |x::H,n+1,b+1=>by simp[aA,qf H n b]
theorem RB.agree{n:Nat}{g g':G}{w:World}{x:GB}{y:dU}(h:nP n g g' w)(hy:cu n y=true)(hr:RB g w x y):RB g' w x y:=by
 cases x with
  |cells aO cp cur=>
   cases y with
    |cells cs=>simp only[RB]at hr⊢;obtain⟨h1,h2,h3,c,e,h4,h5,h6⟩:=hr;exact⟨h1,h2,h3,c,e,h4,h5,aP.agree h _ _ hy h6⟩
    |_=>simp only[RB]at hr
  |nil=>cases y<;>simp only[RB]at hr⊢
  |obj aO=>
   cases y with
    |map es=>
     simp only[RB]at hr⊢;obtain⟨bN,clock,h1,h2,h3,h4⟩:=hr;refine⟨bN,clock,h1,h2,fun i k v hi=>?_,h4⟩;obtain⟨z,OG,Jg,T7,T8⟩:=h3 i k v hi;have:an n v=true:=by simp only[cu,aaq]at hy;exact hy (k,v) (aap hi)
     exact⟨z,OG,Jg,Rd.keeps h.keeps _ _ T7,RV.agree h _ _ this T8⟩
    |yo s pos=>simpa only[RB]using hr
    |dC m k seen=>simp only[RB]at hr⊢;obtain⟨mb,sa,h1,h2,h3,h4⟩:=hr;simp only[cu,aas]at hy;exact⟨mb,sa,h1,h2,h.cK m hy h3,fun x hx=>h4 x (by rw[←h.γ m hy];exact hx)⟩
    |_=>simp only[RB]at hr
theorem av.cut{g:G}{w:World}{H:ah}{n:Nat}(hh:av g w H)(hl:aG n (H.take n)=true):av (g.cut n) w (H.take n):=by
 refine⟨fun b hb=>?_,fun b x hx=>?_,fun b y hy=>?_,fun b b' x x' k hx gS hk iO=>?_,fun k hk=>⟨(hh.fo k hk).1,fun b x hx=>?_ ⟩⟩
 ·have:=hh.cK b hb.1;have:=hb.2;simp;omega
 ·simp only[G.cut]at hx;split at hx
  ·rename_i hb;obtain⟨h1,y,h2,h3⟩:=hh.live b x hx;have hg:aA (H.take n) b=some y:=by rw[qf,aan hb];exact h2
   exact⟨⟨h1,hb⟩,y,hg,RB.agree (nh g w n) (fC hl hg) h3⟩
  ·cases hx
 ·rw[qf]at hy;split at hy
  ·rename_i hb;obtain⟨x,hx⟩:=hh.back b y hy;exact⟨x,by simp[G.cut,hb,hx]⟩
  ·cases hy
 ·simp only[G.cut]at hx gS;split at hx
  ·split at gS
   ·exact hh.inj b b' x x' k hx gS hk iO
   ·cases gS
  ·cases hx
 ·simp only[G.cut]at hx;split at hx
  ·exact(hh.fo k hk).2 b x hx
  ·cases hx
theorem ch.cut{g0 g:G}{w0 w:World}{n:Nat}(h:ch g0 w0 g w)(hn:∀b,g0.cK b→b<n):ch g0 w0 (g.cut n) w:=⟨h.os,h.tape,h.output,h.size,fun k hk=>⟨sb (h.keeps k hk).1,(h.keeps k hk).2⟩,fun b hb=>⟨h.cK b hb,hn b hb⟩,fun b hb=>by simp only[G.cut,hn b hb,aa4];exact h.step b hb,h.fo,h.eD⟩
def cb(b9:List Nat):List (Nat×V)→List (Nat×V)|[]=>[]|(t,v)::l=>bif b9.any (Nat.beq t)then(t,v)::cb b9 l else cb b9 l
theorem jx(b9:List Nat)(t:Nat):∀(l:List (Nat×V)),get (cb b9 l) t=get l t∨get (cb b9 l) t=.any
 |[]=>.inl rfl
 |(s,v)::l=>by
  simp only[cb];cases hk:b9.any (Nat.beq s)with
   |true=>
    simp only[aag,get];cases Nat.beq s t with
     |true=>exact .inl rfl
     |false=>exact jx b9 t l
   |false=>
    simp only[aaw,get];cases hb:Nat.beq s t with
     |true=>
      have e:=aah hb;subst e;right;have ve:∀(l:List (Nat×V)),get (cb b9 l) s=.any:=by
       intro l;induction l with
        |nil=>rfl
        |cons p l ih=>
         obtain⟨q,u⟩:=p;simp only[cb];cases hq:b9.any (Nat.beq q)with
          |true=>
           simp only[aag,get];cases F5:Nat.beq q s with
            |true=>have:=aah F5;subst this;rw[hk]at hq;cases hq
            |false=>exact ih
          |false=>exact ih
      exact ve l
     |false=>exact jx b9 t l
def gk(n:Nat):List (Nat×V)→Bool|[]=>true|(_,v)::l=>an n v&&gk n l
theorem yM{n t:Nat}:∀{l:List (Nat×V)},gk n l=true→an n (get l t)=true
 |[],_=>rfl
 |(s,v)::l,h=>by
  simp only[gk,aac]at h;simp only[get];cases Nat.beq s t with
   |true=>exact h.1
   |false=>exact yM h.2
def b_(b9:List Nat)(n:Nat)(σ:St):Option St:=let tm:=cb b9 σ.tm;bif gk n tm&&aG n (σ.hp.take n)then some ⟨σ.n,tm,σ.hp.take n⟩else none
section
variable {P:Program}{GL:ca}
theorem R.clean{b9:List Nat}{n:Nat}{g:G}{w:World}{a:Act}{σ aL:St}(h:R GL g w a σ)(hc:b_ b9 n σ=some aL):R GL (g.cut n) w a aL:=by
 unfold b_ at hc;simp only at hc;cases hb:(gk n (cb b9 σ.tm)&&aG n (σ.hp.take n))with
  |false=>rw[hb]at hc;cases hc
  |true=>
   rw[hb]at hc;simp only[aag,aab]at hc;subst hc;simp only[aac]at hb;refine⟨h.defers,h.size,fun t=>?_,h.heap.cut hb.2,⟨fun m cs hm=>⟨sb (h.dQ.rd m cs hm).1,dh.keeps (nh g w n).keeps (h.dQ.rd m cs hm).1 _ _ (h.dQ.rd m cs hm).2⟩,fun k hk=>⟨sb (h.dQ.w0 k hk).1,(h.dQ.w0 k hk).2⟩⟩⟩;have bL:=yM (t:=t) hb.1;rcases jx b9 t σ.tm with e|e
   ·rw[e]at bL⊢;exact RV.agree (nh g w n) _ _ bL (h.tmps t)
   ·rw[e];simp only[RV]
theorem WC.clean{c:IR}{σ:St}{Q:Ex→St→Prop}(n:Nat)(hn:σ.hp.length≤n)(h:WC P GL c σ (fun e aL=>Q e aL∨∃b9 A7,b_ b9 n aL=some A7∧Q e A7)):WC P GL c σ Q:=by
 intro code hc g w a hr;refine wp_mono (h code hc g w a hr) fun e a' w' hp=>?_
 obtain⟨g2,sO,h1,h2,h3⟩:=hp;have gQ:∀b,g.cK b→b<n:=fun b hb=>by have:=hr.heap.cK b hb;omega
 have key:∀ex,(Q ex sO∨∃b9 A7,b_ b9 n sO=some A7∧Q ex A7)→∃g3 aL,R GL g3 w' a' aL∧ch g w g3 w'∧Q ex aL:=by
  intro ex hq;rcases hq with hq|⟨b9,A7,iq,hq⟩
  ·exact⟨g2,sO,h1,h2,hq⟩
  ·exact⟨_,A7,h1.clean iq,h2.cut gQ,hq⟩
 cases e with
  |normal=>exact key _ h3
  |exit i=>exact key _ h3
  |ret=>exact key _ h3
  |goto l=>exact h3.elim
  |panic c=>exact h3.elim
  |outgrown=>exact h3.elim
theorem WF.cut{f:FuncId}{args:List V}{H:ah}{Q:V→ah→Prop}(h:WF P GL f args H (fun v H'=>Q v H'∨(an H.length v=true∧aG H.length (H'.take H.length)=true∧Q v (H'.take H.length)))):WF P GL f args H Q:=by
 refine⟨h.1,fun g w vs dI hh hg=>(h.2 g w vs dI hh hg).mono ?_ ⟩;rintro e w' ⟨x,v,g',H',rfl,hq,hx,pZ,he⟩;rcases hq with hq|⟨h1,h2,h3⟩
 ·exact⟨x,v,g',H',rfl,hq,hx,pZ,he⟩
 ·exact⟨x,v,g'.cut H.length,_,rfl,h3,RV.agree (nh g' w' _) _ _ h1 hx,pZ.cut h2,he.cut (fun b hb=>hh.cK b hb)⟩
end
end Fw
/-
  What rows of own boxes read as, to the bottom; calls that touch nothing.
-/
namespace Fw
open Go
def yN(g:G)(w:World)(k:Nat):Prop:=k<w.heap.size∧¬g.fo k
theorem kG{g:G}{w:World}{k:Nat}(h:da g w k):yN g w k:=⟨h.1,h.2.1⟩
theorem jl.of{w:World}{im uF:Nat→Prop}(h:∀k,im k→uF k):jl w w im uF:=fun k hk=>⟨h k hk,rfl⟩
theorem av.s7{g:G}{w:World}{H:ah}(hh:av g w H){b k:Nat}{x:GB}(hx:g.γ b=some x)(hk:x.own=some k):yN g w k:=by obtain⟨_,y,_,h3⟩:=hh.live b x hx;exact⟨h3.lt k hk,hh.u5 hx hk⟩
theorem vg{w:World}{im:Nat→Prop}{aO sz:Nat}:∀{n:Nat}{off:Nat}{l:List D},l.length=n*sz→dh w im aO off l→iG w im aO off sz (eL sz n l)
 |0,_,_,_,_=>by simp only[eL,iG]
 |n+1,off,l,hl,h=>by
  simp only[eL,iG];have hle:sz≤l.length:=by rw[hl,aa3];omega
  refine⟨by simp;omega,?_,?_ ⟩
  ·have:∀(k:Nat)(ds:List D)(q:Nat),dh w im aO q ds→dh w im aO q (ds.take k):=by
    intro k ds;induction ds generalizing k with
     |nil=>intro q _;simp[dh]
     |cons d ds ih=>
      intro q hq;cases k with
       |zero=>simp[dh]
       |succ k=>simp only[acu,dh]at hq⊢;exact⟨hq.1,ih k _ hq.2⟩
   exact this _ _ _ h
  ·exact vg (by simp[hl,aa3]) (dh.drop sz h)
theorem yO{g:G}{w:World}{H:ah}(hh:av g w H):∀(f:Nat)(u:V)(v:Value)(d:D),fi H f u=some d→RV g w u v→Rd w (yN g w) d v:=by
 intro f;induction f with
  |zero=>
   intro u v d hd hv;cases u with
    |d x=>simp only[fi,aab]at hd;subst hd;simp only[RV]at hv;exact Rd.keeps (jl.of fun _ hk=>kG hk) _ _ hv
    |ab=>simp only[fi,aab]at hd;subst hd;simp only[RV]at hv;subst hv;simp[Rd]
    |_=>simp[fi]at hd
  |succ f ih=>
   intro u v d hd hv;cases u with
    |d x=>simp only[fi,aab]at hd;subst hd;simp only[RV]at hv;exact Rd.keeps (jl.of fun _ hk=>kG hk) _ _ hv
    |ab=>simp only[fi,aab]at hd;subst hd;simp only[RV]at hv;subst hv;simp[Rd]
    |sl b hb off len sz=>
     simp only[fi]at hd;cases hg:aA H b with
      |none=>simp[hg]at hd
      |some y=>
       cases y with
        |cells cs=>
         simp only[hg]at hd;cases hc:(Nat.beq cs.length hb&&Nat.ble (off+len*sz) hb)with
          |false=>rw[hc]at hd;cases hd
          |true=>
           rw[hc]at hd;simp only[aag]at hd;split at hd
           ·rename_i l hl;simp only[aab]at hd;subst hd;simp only[aac]at hc;have e2:=aak hc.2;obtain⟨aO,cp,c,e,h1,h2,h3,h4,h5,h6,h7⟩:=lf hg hc.1 hh;obtain⟨cap,rfl,h8,h9⟩:=RV.pY hv h1;have PY:=cO hl;have hlen:l.length=len*sz:=by rw[←PY];simp;omega
            have dI:=(h7.drop off).take (len*sz);simp only[Rd];refine .inr ⟨aO,off,cap,sz,by rw[iX],by rw[iX];exact h8,fun _=>hh.s7 h1 rfl,vg hlen (dh.nc (vs:=((c.toList.take hb).drop off).take (len*sz)) (by rw[hlen];simp;omega) (fun j d' v' hd fv=>?_ ) (fun j v' fv=>?_ ))⟩
            ·have hj:j<l.length:=(aai.1 hd).1;have rW:j<((cs.drop off).take (len*sz)).length:=by omega
             obtain⟨d2,k1,k2⟩:=jq j _ hl (aaf rW);rw[hd]at k1;simp only[aab]at k1;subst k1;obtain⟨x,k3,k4⟩:=dI.get j (aaf rW);rw[fv]at k3;simp only[aab]at k3;subst k3;exact ih _ _ _ k2 k4
            ·rw[aaL]at fv;split at fv
             ·rw[aa7,aaL]at fv;split at fv
              ·simp only[World.cell?,h5];simpa using fv
              ·cases fv
             ·cases fv
           ·cases hd
        |nil=>
         simp only[hg]at hd;cases hc:Nat.beq len 0 with
          |false=>rw[hc]at hd;cases hd
          |true=>
           rw[hc]at hd;simp only[aag,aab]at hd;subst hd;obtain⟨x,hx⟩:=hh.back b _ hg;obtain⟨_,y,hy,hr⟩:=hh.live b x hx;rw[hg]at hy;simp only[aab]at hy;subst hy;cases x with
            |cells=>simp only[RB]at hr
            |obj=>simp only[RB]at hr
            |nil=>obtain⟨_,_,_,rfl⟩:=RV.u7 hv hx;simp[Rd]
        |_=>simp[hg]at hd
    |_=>simp[fi]at hd
def o_(w:World)(im:Nat→Prop):V→Value→Prop| .d x,v=>Rd w im x v| .gD,v=>v=.nilIface| .bX,v=>∃t x,v=.iface t x| .ji,v=>v=.pointer none| .agg cs,v=>∃(x:Array Value)(ds:List D),v=.agg x∧cs=ds.map V.d∧ds.length=x.size∧∀(j:Nat)(d:D)(y:Value),ds[j]? =some d→x[j]? =some y→Rd w im d y|_,_=>False
theorem aP.JD{g:G}{w:World}{ds:List D}{vs:List Value}(hl:ds.length=vs.length)(h:∀(j:Nat)(d:D)(y:Value),ds[j]? =some d→vs[j]? =some y→Rd w (da g w) d y):aP g w (ds.map V.d) vs:=by
 refine aP.iH (by simpa using hl) fun i u v hu hv=>?_
 simp only[aaO,aad]at hu;obtain⟨d,hd,rfl⟩:=hu;simp only[RV];exact h i d v hd hv
theorem o_.rv{g:G}{w:World}{im:Nat→Prop}(sN:∀k,im k→da g w k){u:V}{v:Value}(h:o_ w im u v):RV g w u v:=by
 cases u with
  |d x=>simp only[o_]at h;simp only[RV];exact Rd.keeps (jl.of sN) _ _ h
  |gD=>simpa only[o_,RV]using h
  |bX=>simpa only[o_,RV]using h
  |ji=>simpa only[o_,RV]using h
  |agg cs=>simp only[o_]at h;obtain⟨x,ds,rfl,rfl,h1,h2⟩:=h;simp only[RV];exact⟨x,rfl,aP.JD (by simpa using h1) (fun j d y hd hy=>Rd.keeps (jl.of sN) _ _ (h2 j d y hd (by simpa using hy)))⟩
  |_=>simp only[o_]at h
theorem s8{g:G}{w:World}{H:ah}(hh:av g w H){u r:V}{v:Value}(h:mi H u=some r)(hv:RV g w u v):o_ w (yN g w) r v:=by
 unfold mi at h;split at h
 ·rename_i cs;split at h
  ·rename_i l hl;simp only[aab]at h;subst h;simp only[RV]at hv;obtain⟨x,rfl,hx⟩:=hv;have hlen:=cO hl;have Zq:=hx.length;simp at Zq;simp only[o_];refine⟨x,l,rfl,rfl,by omega,fun j d y hd hy=>?_ ⟩;have hj:j<cs.length:=by have:=(aai.1 hd).1;omega
   obtain⟨d2,k1,k2⟩:=jq j _ hl (aaf hj);rw[hd]at k1;simp only[aab]at k1;subst k1;obtain⟨z,k3,k4⟩:=hx.get j (aaf hj);have:z=y:=by
    have:x[j]? =some z:=by simpa using k3
    rw[hy]at this;simp only[aab]at this;exact this.symm
   subst this;exact yO hh _ _ _ _ k2 k4
  ·cases h
 ·simp only[aab]at h;subst h;simpa only[RV,o_]using hv
 ·simp only[aab]at h;subst h;simpa only[RV,o_]using hv
 ·simp only[aab]at h;subst h;simpa only[RV,o_]using hv
 ·split at h
  ·rename_i x hx;simp only[aab]at h;subst h;simp only[o_];exact yO hh _ _ _ _ hx hv
  ·cases h
theorem yP{g g':G}{w:World}{H:ah}(hh:av g w H)(sN:∀k,yN g w k→da g' w k){u r:V}{v:Value}(h:fY H u=some r)(hv:RV g w u v):RV g' w r v:=by
 unfold fY at h;split at h
 ·rename_i vs;split at h
  ·rename_i l hl;simp only[aab]at h;subst h;simp only[RV]at hv⊢;obtain⟨x,rfl,hx⟩:=hv;refine⟨x,rfl,aP.iH (by have:=cO hl;have:=hx.length;omega) fun i u y hu hy=>?_ ⟩;have hi:i<vs.length:=by have:=(aai.1 hu).1;have:=cO hl;omega
   obtain⟨u2,k1,k2⟩:=jq i _ hl (aaf hi);rw[hu]at k1;simp only[aab]at k1;subst k1;obtain⟨z,k3,k4⟩:=hx.get i (aaf hi);rw[hy]at k3;simp only[aab]at k3;subst k3;exact(s8 hh k2 k4).rv sN
  ·cases h
 ·exact(s8 hh h hv).rv sN
section
variable {P:Program}{GL:ca}
theorem PC.of{f:FuncId}{args:List V}{v:V}(hd:ak 0 args=true)(h:WF P GL f args [] (fun r H'=>fY H' r=some v)):PC P GL f args v:=by
 refine⟨h.1,fun g w vs dI B9 jt hg=>?_ ⟩;let g0:G:=⟨fun _=>False,fun _=>none,fun k=>g.fo k∨∃b x,g.γ b=some x∧x.own=some k⟩;have gW:∀k,da g w k↔da g0 w k:=by
  intro k;constructor
  ·rintro⟨h1,h2,h3⟩;refine⟨h1,?_,fun b x hx=>by cases hx⟩;rintro(h4|⟨b,x,h4,h5⟩)
   ·exact h2 h4
   ·exact h3 b x h4 h5
  ·rintro⟨h1,h2,_⟩;exact⟨h1,fun h4=>h2 (.inl h4),fun b x hx hk=>h2 (.inr ⟨b,x,hx,hk⟩)⟩
 have nK:nP 0 g g0 w:=⟨fun b hb=>by omega,fun b hb=>by omega,fun k hk=>(gW k).1 hk⟩;have hH:av g0 w []:=by
  refine⟨fun b hb=>hb.elim,fun b x hx=>(by cases hx),fun b y hy=>(by simp[aA]at hy),fun b b' x x' k hx=>(by cases hx),fun k hk=>⟨?_,fun b x hx=>(by cases hx)⟩⟩;rcases hk with hk|⟨b,x,hx,hk⟩
  ·exact B9 k hk
  ·exact jt b x k hx hk
 have hG:f_ GL g0 w:=⟨fun n cs hn=>⟨(gW n).1 (hg.rd n cs hn).1,dh.keeps nK.keeps (hg.rd n cs hn).1 _ _ (hg.rd n cs hn).2⟩,fun k hk=>⟨(gW k).1 (hg.w0 k hk).1,(hg.w0 k hk).2⟩⟩;refine(h.2 g0 w vs (aP.agree nK _ _ hd dI) hH hG).mono ?_;rintro e w' ⟨x,r,g',H',rfl,yQ,hx,pZ,he⟩;have vh:∀k,yN g' w' k→da g w' k:=by rintro k ⟨h1,h2⟩;rw[he.fo]at h2;exact⟨h1,fun h3=>h2 (.inl h3),fun b x hx hk=>h2 (.inr ⟨b,x,hx,hk⟩)⟩
 refine⟨x,rfl,yP pZ vh yQ hx,⟨he.os,he.tape,he.output,he.size,fun k hk=>?_,fun _ h=>h,fun _ _=>GB.step.refl _,rfl,fun k hk=>he.eD k (.inl hk)⟩,fun b y k hy hk=>he.eD k (.inr ⟨b,y,hy,hk⟩)⟩;obtain⟨h1,h2⟩:=he.keeps k ((gW k).1 hk);exact⟨⟨h1.1,hk.2.1,hk.2.2⟩,h2⟩
theorem WF.DR{f:FuncId}{args:List V}{v:V}{H:ah}{Q:V→ah→Prop}(h:PC P GL f args v)(hq:Q v H):WF P GL f args H Q:=by refine⟨h.1,fun g w vs dI hh hg=>(h.2 g w vs dI (fun k hk=>(hh.fo k hk).1) (RV.eB hh) hg).mono ?_ ⟩;rintro e w' ⟨x,rfl,hx,he,jt⟩;exact⟨x,v,g,H,rfl,hq,hx,hh.ext he jt,he⟩
end
end Fw
/-
  Running code of the abstract machine, for what is known whole; and that the model does the same.
-/
namespace Fw
open Go
abbrev a6:=FuncId→List V→ah→Option (V×ah)
abbrev aT:=FuncId→List V→Option V
def bB(own:List Nat)(GL:ca)(tm:List (Nat×V))(o:ad):Option V:=match o.op with
 | .mkSlice _ _ _ _=>bif nM o.dst own then none else fS (aU GL tm) o.op
 |_=>none
def cH(own:List Nat)(GL:ca)(call:a6):List ad→St→Option St
 |[],σ=>some σ
 |o::l,σ=>
  match ao o.guard σ.tm with
   |none=>none
   |some false=>
    match σ.put o.dst (.tuple []) σ.hp with
     |some aL=>cH own GL call l aL
     |none=>none
   |some true=>
    match o.op with
     | .call f args=>
      match call f (bd (aU GL σ.tm) args) σ.hp with
       |some (v,H')=>
        match σ.put o.dst v H' with
         |some aL=>cH own GL call l aL
         |none=>none
       |none=>none
     | .e_ x args=>
      match aU GL σ.tm x with
       | .func f first cap=>
        match call f (first++bd (aU GL σ.tm) args++cap) σ.hp with
         |some (v,H')=>
          match σ.put o.dst v H' with
           |some aL=>cH own GL call l aL
           |none=>none
         |none=>none
       |_=>none
     |op=>
      match bB own GL σ.tm o with
       |some v=>
        match σ.put o.dst v σ.hp with
         |some aL=>cH own GL call l aL
         |none=>none
       |none=>
        match bu (aU GL σ.tm) σ.hp σ.hp.length op with
         |some (v,wr)=>
          match σ.put o.dst v (aX σ.hp wr)with
           |some aL=>cH own GL call l aL
           |none=>none
         |none=>none
def uL(GL:ca)(aw:aT)(base:Nat):Nat→List ad→St→Option (List (((V×Wr)×List Nat)×Option V))
 |_,[],_=>some []
 |i,o::l,σ=>
  let cv:Option V:=match bw o.op with
   |some (f,args)=>aw f (bd (aU GL σ.tm) args)
   |none=>fS (aU GL σ.tm) o.op
  match eI GL σ.tm σ.hp (base+i) o cv with
   |none=>none
   |some r=>
    match uL GL aw base (i+1) l (σ.fc o.dst r.1 (aX σ.hp r.2))with
     |none=>none
     |some rs=>some (((r,lq (aU GL σ.tm) o.op),cv)::rs)
def ni(GL:ca)(aw:aT)(l:List ad)(σ:St):Option St:=match uL GL aw σ.hp.length 0 l (b8 σ l.length)with
 |none=>none
 |some qs=>
  let rs:=qs.map (·.1);bif cT l rs&&eO σ.n l&&dK (σ.hp.length+l.length) rs then some (ax (fun _=>true) 0 l rs (b8 σ l.length))
  else none
def GA(l:List ad)(ot:ad):Bool:=match ot.guard with
 |some _=>false
 |none=>ot.after.all (fun e=>Nat.blt e l.length)&&(List.range l.length).all (fun j=>ot.after.any fun e=>Nat.beq j e||Nat.testBit ((cM 0 [] l).getD e 0) j)
def wV(GL:ca)(call:a6)(aw:aT)(l:List ad)(σ:St):Option St:=match l.getLast? with
 |none=>none
 |some ot=>
  match ot.op with
   | .call f args=>
    match GA l.dropLast ot with
     |false=>none
     |true=>
      match ni GL aw l.dropLast σ with
       |none=>none
       |some vc=>
        match call f (bd (aU GL vc.tm) args) vc.hp with
         |none=>none
         |some (v,H')=>vc.put ot.dst v H'
   |_=>none
def s9(GL:ca)(call:a6)(aw:aT)(l:List ad)(σ:St):Option St:=match ni GL aw l σ with
 |some aL=>some aL
 |none=>wV GL call aw l σ
def vi(step:St→Option (Ex×St)):Nat→St→Option (Ex×St)
 |0,_=>none
 |n+1,σ=>
  match step σ with
   |some (.normal,aL)=>vi step n aL
   |r=>r
def l5(own:List Nat)(GL:ca)(call:a6)(aw:aT)(n:Nat):IR→St→Option (Ex×St)
 | .skip,σ=>some (.normal,σ)
 | .region l,σ=>
  match cH own GL call l σ with
   |some aL=>some (.normal,aL)
   |none=>none
 | .draw l,σ=>
  match s9 GL call aw l σ with
   |some aL=>some (.normal,aL)
   |none=>none
 | .seq a b,σ=>
  match l5 own GL call aw n a σ with
   |some (.normal,aL)=>l5 own GL call aw n b aL
   |r=>r
 | .cond c a b,σ=>
  match aU GL σ.tm c with
   | .d (.bool true)=>l5 own GL call aw n a σ
   | .d (.bool false)=>l5 own GL call aw n b σ
   |_=>none
 | .block id b,σ=>
  match l5 own GL call aw n b σ with
   |some (.exit i,aL)=>if i=id then some (.normal,aL)else some (.exit i,aL)
   |r=>r
 | .loop b,σ=>vi (l5 own GL call aw n b) n σ
 | .exit id,σ=>some (.exit id,σ)
 | .ret,σ=>some (.ret,σ)
def GC(n:Nat)(v:V)(H:ah):V×ah:=bif an n v&&aG n (H.take n)then(v,H.take n)else(v,H)
def ly(dZ:aT)(jI:a6):aT:=fun f args=>
 match dZ f args with
  |some v=>some v
  |none=>
   bif ak 0 args then
    (match jI f args []with
     |some (r,H)=>fY H r
     |none=>none)else none
def sc(rf:FuncId→Bool)(dZ:aT)(jI:a6):a6:=fun f args H=>
 match(bif rf f then none else ly dZ jI f args)with
  |some v=>some (v,H)
  |none=>
   match jI f args H with
    |some (v,H')=>some (GC H.length v H')
    |none=>none
abbrev wW:=aT→a6
def wX(rf:FuncId→Bool)(jK:wW)(dZ:aT)(jI:a6):a6:=fun f args H=>
 match jK (ly dZ jI) f args H with
  |some r=>some r
  |none=>sc rf dZ jI f args H
def GD(eB:FuncId→List Nat)(rf:FuncId→Bool)(GL:ca)(qZ:FuncId→Option cD)(jK:wW)(dZ:aT)(n:Nat):Nat→a6
 |0=>fun _ _ _=>none
 |d+1=>
  fun f args H=>
   match qZ f with
    |none=>none
    |some fn=>
     bif Nat.ble args.length fn.ntmps then
      match l5 (eB f) GL (wX rf jK dZ (GD eB rf GL qZ jK dZ n d)) (ly dZ (GD eB rf GL qZ jK dZ n d)) n fn.body ⟨fn.ntmps,sP 0 args,H⟩with
       |some (.exit _,_)=>none
       |some (_,σ)=>
        match fb fn.res σ with
         |some v=>some (v,σ.hp)
         |none=>none
       |none=>none else none
section
variable {P:Program}{GL:ca}
def bH(P:Program)(GL:ca)(call:a6):Prop:=∀f args H v H',call f args H=some (v,H')→WF P GL f args H (fun r h=>r=v∧h=H')
def bt(P:Program)(GL:ca)(aw:aT):Prop:=∀f args v,aw f args=some v→PC P GL f args v
theorem lz{own:List Nat}{call:a6}(hc:bH P GL call):∀{l:List ad}{σ aL:St}{Q:St→Prop},cH own GL call l σ=some aL→Q aL→WO P GL l σ Q
 |[],σ,aL,Q,h,hq=>by simp only[cH,aab]at h;subst h;exact WO.nil hq
 |o::l,σ,aL,Q,h,hq=>by
  simp only[cH]at h;split at h
  ·cases h
  ·rename_i hg;split at h
   ·rename_i vc h1;exact WO.skip hg h1 (lz hc h hq)
   ·cases h
  ·rename_i hg;split at h
   ·rename_i f args ho;split at h
    ·rename_i v H' cl;split at h
     ·rename_i vc h1;refine WO.call ho hg ((hc _ _ _ _ _ cl).mono ?_ );rintro r hp ⟨rfl,rfl⟩;exact⟨vc,h1,lz hc h hq⟩
     ·cases h
    ·cases h
   ·rename_i x args ho;split at h
    ·rename_i f first cap hx
     split at h
     ·rename_i v H' cl;split at h
      ·rename_i vc h1;refine WO.e_ ho hx hg ((hc _ _ _ _ _ cl).mono ?_ );rintro r hp ⟨rfl,rfl⟩;exact⟨vc,h1,lz hc h hq⟩
      ·cases h
     ·cases h
    ·cases h
   ·split at h
    ·rename_i v he;split at h
     ·rename_i vc h1;refine WO.fS hg ?_ h1 (lz hc h hq);unfold bB at he;split at he
      ·rename_i heq;cases hi:nM o.dst own with
        |true=>rw[hi]at he;cases he
        |false=>rw[hi]at he;exact he
      ·cases he
     ·cases h
    ·split at h
     ·rename_i v wr he;split at h
      ·rename_i vc h1;exact WO.bu hg he h1 (lz hc h hq)
      ·cases h
     ·cases h
theorem wY{aw:aT}{base:Nat}:∀{l:List ad}{i:Nat}{σ:St}{qs:List (((V×Wr)×List Nat)×Option V)},uL GL aw base i l σ=some qs→∀qc:Nat→Option V,(∀j q,qs[j]? =some q→qc (i+j)=q.2)→l3 GL base qc i l σ=some (qs.map (·.1))∧qs.length=l.length∧∀k o q,l[k]? =some o→qs[k]? =some q→∀f args,bw o.op=some (f,args)→q.2=aw f (bd (aU GL (ax (fun j=>decide (j<i+k)) i l (qs.map (·.1)) σ).tm) args)∧(ao o.guard (ax (fun j=>decide (j<i+k)) i l (qs.map (·.1)) σ).tm=some true→q.2=some q.1.1.1)
 |[],i,σ,qs,h,qc,hq=>by simp only[uL,aab]at h;subst h;exact⟨rfl,rfl,by simp⟩
 |o::l,i,σ,qs,h,qc,hq=>by
  simp only[uL]at h;split at h
  ·cases h
  ·rename_i r hr;split at h
   ·cases h
   ·rename_i rs Cl;simp only[aab]at h;subst h;have h0:=hq 0 _ rfl;simp only[abk]at h0;obtain⟨k1,k2,k3⟩:=wY Cl qc (fun j q hj=>by have:=hq (j+1) q (by simpa using hj);rwa[show i+(j+1)=i+1+j by omega]at this);have iS:∀(l:List ad)(rs:List ((V×Wr)×List Nat))(k:Nat)(σ:St),i≤k→ax (fun j=>decide (j<i)) k l rs σ=σ:=by
     intro l rs k σ hk;rw[bZ (K':=fun _=>false) (fun j _=>by simp;omega)];have:∀(l:List ad)(rs:List ((V×Wr)×List Nat))(i:Nat)(s:St),ax (fun _=>false) i l rs s=s:=by
      intro l;induction l with
       |nil=>intro rs i s;simp[ax]
       |cons o l ih=>
        intro rs i s;cases rs with
         |nil=>simp[ax]
         |cons r rs=>simp only[ax,aaw];exact ih _ _ _
     exact this _ _ _ _
    refine⟨?_,by simp[k2],fun k o' q iR yi f args iq=>?_ ⟩
    ·simp only[l3,h0,hr,k1,aax]
    ·cases k with
      |zero=>
       simp at iR yi;subst iR;subst yi;simp only[abk];rw[iS _ _ _ _ (aao _)];refine⟨by simp only[iq],fun hg=>?_ ⟩;simp only[iq]at hr⊢;unfold eI at hr;rw[hg]at hr;simp only[iq]at hr;cases hp:aw f (bd (aU GL σ.tm) args)with
        |none=>rw[hp]at hr;simp at hr
        |some v=>rw[hp]at hr;simp at hr;rw[←hr]
      |succ k=>
       simp at iR yi;have e:i+(k+1)=i+1+k:=by omega
       have:=k3 k o' q iR yi f args iq;simp only[aax,ax,e,show decide (i<i+1+k)=true by simp;omega,aag];exact this
theorem s_{aw:aT}(hm:P.follows .mixedOrders=true)(hp:bt P GL aw){l:List ad}{σ aL:St}{Q:Ex→St→Prop}(h:ni GL aw l σ=some aL)(hq:Q .normal aL):WC P GL (.draw l) σ Q:=by
 unfold ni at h;split at h
 ·cases h
 ·rename_i qs F5;simp only at h;cases hb:(cT l (qs.map (·.1))&&eO σ.n l&&dK (σ.hp.length+l.length) (qs.map (·.1)))with
   |false=>rw[hb]at h;cases h
   |true=>rw[hb]at h;simp only[aag,aab]at h;subst h;simp only[aac]at hb;obtain⟨k1,k2,k3⟩:=wY F5 (fun i=>(qs[i]? ).bind (·.2)) (fun j q hj=>by simp[hj]);refine WC.draw hm k1 hb.1.1 hb.1.2 hb.2 (fun i o r ho hr f args iq hg=>?_ ) hq;simp only[aaO,aad]at hr;obtain⟨q,JE,rfl⟩:=hr;obtain⟨e1,e2⟩:=k3 i o q ho JE f args iq;simp only[aau]at e1 e2;have e3:=e2 hg;rw[e1]at e3;exact(hp _ _ _ e3).qX
theorem Cn{α:Type}:∀{l:List α}{a:α},l.getLast?=some a→l=l.dropLast++[a]
 |[],a,h=>by simp at h
 |[x],a,h=>by simp at h;subst h;rfl
 |x::y::l,a,h=>by
  have:(y::l).getLast?=some a:=by simpa[List.getLast?_cons_cons]using h
  have:=Cn this;rw[List.dropLast_cons_cons,abo,←this]
theorem A8{call:a6}{aw:aT}(hm:P.follows .mixedOrders=true)(hc:bH P GL call)(hp:bt P GL aw){l:List ad}{σ aL:St}{Q:Ex→St→Prop}(h:wV GL call aw l σ=some aL)(hq:Q .normal aL):WC P GL (.draw l) σ Q:=by
 unfold wV at h;split at h
 ·cases h
 ·rename_i ot o8;split at h
  ·rename_i ft yL Gy;split at h
   ·cases h
   ·rename_i yR;split at h
    ·cases h
    ·rename_i vc dn;split at h
     ·cases h
     ·rename_i v H' cl;have hl:l=l.dropLast++[ot]:=Cn o8;rw[hl];unfold GA at yR;split at yR
      ·cases yR
      ·rename_i MN;simp only[aac,aaq]at yR;obtain⟨t1,t2⟩:=yR;unfold ni at dn;split at dn
       ·cases dn
       ·rename_i qs F5;simp only at dn;cases hb:(cT l.dropLast (qs.map (·.1))&&eO σ.n l.dropLast&&dK (σ.hp.length+l.dropLast.length) (qs.map (·.1)))with
         |false=>rw[hb]at dn;cases dn
         |true=>
          rw[hb]at dn;simp only[aag,aab]at dn;subst dn;simp only[aac]at hb;obtain⟨k1,k2,k3⟩:=wY F5 (fun i=>(qs[i]? ).bind (·.2)) (fun j q hj=>by simp[hj]);refine WC.Gx hm k1 hb.1.1 hb.1.2 hb.2 (fun i o r ho hr f args iq hg=>?_ ) Gy MN (fun e he=>by have:=t1 e he;simpa[aas]using this) (fun j hj=>?_ ) ((hc _ _ _ _ _ cl).mono ?_ )
          ·simp only[aaO,aad]at hr;obtain⟨q,JE,rfl⟩:=hr;obtain⟨e1,e2⟩:=k3 i o q ho JE f args iq;simp only[aau]at e1 e2;have e3:=e2 hg;rw[e1]at e3;exact(hp _ _ _ e3).qX
          ·have:=t2 j (aaJ.2 hj);rw[acO]at this;obtain⟨e,he,h2⟩:=this;refine⟨e,he,?_⟩;rw[aa1]at h2;rcases h2 with h2|h2
           ·exact .inl (aah h2)
           ·exact .inr h2
          ·rintro r h2 ⟨rfl,rfl⟩;exact⟨aL,h,hq⟩
  ·cases h
theorem yS{call:a6}{aw:aT}(hm:P.follows .mixedOrders=true)(hc:bH P GL call)(hp:bt P GL aw){l:List ad}{σ aL:St}{Q:Ex→St→Prop}(h:s9 GL call aw l σ=some aL)(hq:Q .normal aL):WC P GL (.draw l) σ Q:=by
 unfold s9 at h;split at h
 ·rename_i s1 h1;simp only[aab]at h;subst h;exact s_ hm hp h1 hq
 ·exact A8 hm hc hp h hq
theorem GF{b:IR}{step:St→Option (Ex×St)}(hs:∀σ e aL,step σ=some (e,aL)→WC P GL b σ (fun e' s=>e'=e∧s=aL)){n:Nat}{σ:St}{e:Ex}{aL:St}(h:vi step n σ=some (e,aL)):WC P GL (.loop b) σ (fun e' s=>e'=e∧s=aL):=by
 refine WC.loop (fun m s=>vi step m s=some (e,aL)) (fun m s hm=>?_ ) h;cases m with
  |zero=>simp[vi]at hm
  |succ m=>
   simp only[vi]at hm;split at hm
   ·rename_i s1 h1;refine(hs _ _ _ h1).mono ?_;rintro e' s' ⟨rfl,rfl⟩;exact⟨m,by omega,hm⟩
   ·rename_i r ew;refine(hs _ _ _ hm).mono ?_;rintro e' s' ⟨rfl,rfl⟩;cases e' with
     |normal=>exact absurd hm (ew s')
     |exit i=>exact⟨rfl,rfl⟩
     |ret=>exact⟨rfl,rfl⟩
theorem hZ{own:List Nat}{call:a6}{aw:aT}(hm:P.follows .mixedOrders=true)(hc:bH P GL call)(hp:bt P GL aw){n:Nat}:∀{c:IR}{σ:St}{e:Ex}{aL:St},l5 own GL call aw n c σ=some (e,aL)→WC P GL c σ (fun e' s=>e'=e∧s=aL)
 | .skip,σ,e,aL,h=>by simp only[l5,aab,aae]at h;obtain⟨rfl,rfl⟩:=h;exact WC.skip ⟨rfl,rfl⟩
 | .region l,σ,e,aL,h=>by
  simp only[l5]at h;split at h
  ·rename_i s1 h1;simp only[aab,aae]at h;obtain⟨rfl,rfl⟩:=h;exact WC.region (lz hc h1 ⟨rfl,rfl⟩)
  ·cases h
 | .draw l,σ,e,aL,h=>by
  simp only[l5]at h;split at h
  ·rename_i s1 h1;simp only[aab,aae]at h;obtain⟨rfl,rfl⟩:=h;exact yS hm hc hp h1 ⟨rfl,rfl⟩
  ·cases h
 | .seq a b,σ,e,aL,h=>by
  simp only[l5]at h;split at h
  ·rename_i s1 h1;refine WC.seq ((hZ hm hc hp h1).mono ?_ );rintro e' s' ⟨rfl,rfl⟩;exact hZ hm hc hp h
  ·rename_i r ew;refine WC.seq ((hZ hm hc hp h).mono ?_ );rintro e' s' ⟨rfl,rfl⟩;cases e' with
    |normal=>exact absurd h (ew s')
    |exit i=>exact⟨rfl,rfl⟩
    |ret=>exact⟨rfl,rfl⟩
 | .cond c a b,σ,e,aL,h=>by
  simp only[l5]at h;split at h
  ·rename_i ht;exact WC.cond ht (hZ hm hc hp h)
  ·rename_i ht;exact WC.cond ht (hZ hm hc hp h)
  ·cases h
 | .block id b,σ,e,aL,h=>by
  simp only[l5]at h;split at h
  ·rename_i i s1 h1;refine WC.block ((hZ hm hc hp h1).mono ?_ );rintro e' s' ⟨rfl,rfl⟩;show if i=id then Ex.normal=e∧s'=aL else Ex.exit i=e∧s'=aL
   by_cases hi:i=id
   ·rw[aan hi]at h⊢;simp only[aab,aae]at h;obtain⟨rfl,rfl⟩:=h;exact⟨rfl,rfl⟩
   ·rw[aal hi]at h⊢;simp only[aab,aae]at h;obtain⟨rfl,rfl⟩:=h;exact⟨rfl,rfl⟩
  ·rename_i r ew;refine WC.block ((hZ hm hc hp h).mono ?_ );rintro e' s' ⟨rfl,rfl⟩;cases e' with
    |normal=>exact⟨rfl,rfl⟩
    |exit i=>exact absurd h (ew i s')
    |ret=>exact⟨rfl,rfl⟩
 | .loop b,σ,e,aL,h=>by simp only[l5]at h;exact GF (fun s e' s' hs=>hZ hm hc hp hs) h
 | .exit id,σ,e,aL,h=>by simp only[l5,aab,aae]at h;obtain⟨rfl,rfl⟩:=h;exact WC.exit ⟨rfl,rfl⟩
 | .ret,σ,e,aL,h=>by simp only[l5,aab,aae]at h;obtain⟨rfl,rfl⟩:=h;exact WC.ret ⟨rfl,rfl⟩
theorem gX{dZ:aT}{jI:a6}(hp:bt P GL dZ)(hr:bH P GL jI):bt P GL (ly dZ jI):=by
 intro f args v h;unfold ly at h;split at h
 ·rename_i u hu;simp only[aab]at h;subst h;exact hp _ _ _ hu
 ·cases hb:ak 0 args with
   |false=>rw[hb]at h;cases h
   |true=>
    rw[hb]at h;simp only[aag]at h;split at h
    ·rename_i r H MR;refine PC.of hb ((hr _ _ _ _ _ MR).mono ?_ );rintro r' H' ⟨rfl,rfl⟩;exact h
    ·cases h
theorem ta{rf:FuncId→Bool}{dZ:aT}{jI:a6}(hp:bt P GL dZ)(hr:bH P GL jI):bH P GL (sc rf dZ jI):=by
 intro f args H v H' h;unfold sc at h;split at h
 ·rename_i u hu;simp only[aab,aae]at h;obtain⟨rfl,rfl⟩:=h;cases X_:rf f with
   |true=>rw[X_]at hu;cases hu
   |false=>rw[X_]at hu;exact WF.DR (gX hp hr _ _ _ hu) ⟨rfl,rfl⟩
 ·split at h
  ·rename_i u H1 MR;simp only[aab]at h;refine WF.cut ((hr _ _ _ _ _ MR).mono ?_ );rintro r' H2 ⟨rfl,rfl⟩;unfold GC at h;cases hb:(an H.length r'&&aG H.length (H2.take H.length))with
    |false=>rw[hb]at h;simp only[aaw,aae]at h;obtain⟨rfl,rfl⟩:=h;exact .inl ⟨rfl,rfl⟩
    |true=>rw[hb]at h;simp only[aag,aae]at h;obtain⟨rfl,rfl⟩:=h;simp only[aac]at hb;exact .inr ⟨hb.1,hb.2,rfl,rfl⟩
  ·cases h
def qg(P:Program)(GL:ca)(jK:wW):Prop:=∀aw,bt P GL aw→bH P GL (jK aw)
theorem vj{rf:FuncId→Bool}{jK:wW}{dZ:aT}{jI:a6}(hh:qg P GL jK)(hp:bt P GL dZ)(hr:bH P GL jI):bH P GL (wX rf jK dZ jI):=by
 intro f args H v H' h;unfold wX at h;split at h
 ·rename_i r vd;simp only[aab]at h;subst h;exact hh _ (gX hp hr) _ _ _ _ _ vd
 ·exact ta hp hr _ _ _ _ _ h
theorem Co{eB:FuncId→List Nat}{rf:FuncId→Bool}{qZ:FuncId→Option cD}{jK:wW}{dZ:aT}(hh:qg P GL jK)(hm:P.follows .mixedOrders=true)(hf:∀f fn,qZ f=some fn→aK P f=some fn∧aq P f=true)(hp:bt P GL dZ)(n:Nat):∀d,bH P GL (GD eB rf GL qZ jK dZ n d)
 |0=>by intro f args H v H' h;simp[GD]at h
 |d+1=>by
  intro f args H v H' h;simp only[GD]at h;split at h
  ·cases h
  ·rename_i fn DJ;obtain⟨h1,h2⟩:=hf _ _ DJ;cases hb:Nat.ble args.length fn.ntmps with
    |false=>rw[hb]at h;cases h
    |true=>
     rw[hb]at h;simp only[aag]at h;have ih:=Co (eB:=eB) (rf:=rf) hh hm hf hp n d;split at h
     ·cases h
     ·rename_i e σ ew ey;split at h
      ·rename_i u hu;simp only[aab,aae]at h;obtain⟨rfl,rfl⟩:=h;refine WF.body h1 h2 (aak hb) ((hZ hm (vj hh hp ih) (gX hp ih) ey).mono ?_ );rintro e' s' ⟨rfl,rfl⟩;cases e' with
        |normal=>exact⟨u,hu,rfl,rfl⟩
        |exit i=>exact absurd rfl (ew i)
        |ret=>exact⟨u,hu,rfl,rfl⟩
      ·cases h
     ·cases h
end
end Fw
/-
  A call that touches nothing, handed memory of an own box to read: the answer is bools, numbers and strings.
-/
namespace Fw
open Go
def yT:V→Bool| .d (.bool _)=>true| .d (.int _ _)=>true| .d (.str _)=>true| .gD=>true| .bX=>true|_=>false
def yU:V→Bool| .tuple vs=>vs.all yT|v=>yT v
theorem yV{g g':G}{w w':World}{u:V}{x:Value}(h:yT u=true)(hx:RV g w u x):RV g' w' u x:=by
 unfold yT at h;split at h
 ·simpa only[RV,Rd]using hx
 ·simpa only[RV,Rd]using hx
 ·simpa only[RV,Rd]using hx
 ·simpa only[RV]using hx
 ·simpa only[RV]using hx
 ·cases h
theorem yW{g g':G}{w w':World}:∀{us:List V}{xs:List Value},us.all yT=true→aP g w us xs→aP g' w' us xs
 |[],[],_,_=>by simp only[aP]
 |[],_::_,_,h=>by simp only[aP]at h
 |_::_,[],_,h=>by simp only[aP]at h
 |u::us,x::xs,ha,h=>by simp only[aaF,aac]at ha;simp only[aP]at h⊢;exact⟨yV ha.1 h.1,yW ha.2 h.2⟩
theorem GG{g g':G}{w w':World}{u:V}{x:Value}(h:yU u=true)(hx:RV g w u x):RV g' w' u x:=by
 unfold yU at h;split at h
 ·simp only[RV]at hx⊢;obtain⟨y,rfl,hy⟩:=hx;exact⟨y,rfl,yW h hy⟩
 ·exact yV h hx
section
variable {P:Program}{GL:ca}
theorem WF.borrow{f:FuncId}{args q0:List V}{v:V}{H:ah}{Q:V→ah→Prop}(hd:bJ (mi H) args=some q0)(h:PC P GL f q0 v)(hs:yU v=true)(hq:Q v H):WF P GL f args H Q:=by
 refine⟨h.1,fun g w vs dI hh hg=>?_ ⟩;let g0:G:=⟨g.cK,fun _=>none,g.fo⟩;have sN:∀k,yN g w k→da g0 w k:=fun k hk=>⟨hk.1,hk.2,fun b x hx=>by cases hx⟩
 have Lp:=cO hd;have ON:=dI.length;have MG:aP g0 w q0 vs.toList:=aP.iH (by omega) fun i u y hu hy=>by
  have hi:i<args.length:=by have:=(aai.1 hu).1;omega
  obtain⟨u2,k1,k2⟩:=jq i _ hd (aaf hi);rw[hu]at k1;simp only[aab]at k1;subst k1;obtain⟨z,k3,k4⟩:=dI.get i (aaf hi);rw[hy]at k3;simp only[aab]at k3;subst k3;exact(s8 hh k2 k4).rv sN
 have hG:f_ GL g0 w:=⟨fun n cs hn=>⟨sN _ (kG (hg.rd n cs hn).1),dh.keeps (show jl w w (da g w) (da g0 w)from jl.of fun k hk=>sN k (kG hk)) (hg.rd n cs hn).1 _ _ (hg.rd n cs hn).2⟩,fun k hk=>⟨sN _ (kG (hg.w0 k hk).1),(hg.w0 k hk).2⟩⟩;refine(h.2 g0 w vs MG (fun k hk=>(hh.fo k hk).1) (fun b x k hx=>by cases hx) hG).mono ?_;rintro e w' ⟨x,rfl,hx,he,-⟩;have jt:∀b y k,g.γ b=some y→y.own=some k→w'.heap[k]? =w.heap[k]? :=fun b y k hy hk=>(he.keeps k (sN k (hh.s7 hy hk))).2
 have yC:ch g w g w':=⟨he.os,he.tape,he.output,he.size,fun k hk=>⟨⟨aa0 hk.1 he.size,hk.2⟩,(he.keeps k (sN k (kG hk))).2⟩,fun _ h=>h,fun _ _=>GB.step.refl _,rfl,he.eD⟩;exact⟨x,v,g,H,rfl,hq,GG hs hx,hh.ext yC jt,yC⟩
end
end Fw
/-
  Rules for symbolic proofs: a run's answer, a loop over a row of states, a function's body; summaries of callees in a table.
-/
namespace Fw
open Go
section
variable {P:Program}{GL:ca}
theorem WC.run{own:List Nat}{call:a6}{aw:aT}(hm:P.follows .mixedOrders=true)(hc:bH P GL call)(hp:bt P GL aw){n:Nat}{c:IR}{σ:St}{e:Ex}{aL:St}{Q:Ex→St→Prop}(h:l5 own GL call aw n c σ=some (e,aL))(hq:Q e aL):WC P GL c σ Q:=(hZ hm hc hp h).mono fun _ _ ⟨h1,h2⟩=>by subst h1;subst h2;exact hq
theorem WC.pre{c:IR}{σ aL:St}{Q:Ex→St→Prop}(b9:List Nat)(hc:b_ b9 σ.hp.length σ=some aL)(h:WC P GL c aL Q):WC P GL c σ Q:=by
 intro code sS g w a hr;have gQ:∀b,g.cK b→b<σ.hp.length:=fun b hb=>hr.heap.cK b hb
 have he:ch g w (g.cut σ.hp.length) w:=(ch.refl g w).cut gQ;exact wp_mono (h code sS _ w a (hr.clean hc)) (cr.ext he)
theorem PC.body{f:FuncId}{fn:cD}{args:List V}{v:V}(hf:aK P f=some fn)(wO:aq P f=true)(hn:args.length≤fn.ntmps)(hd:ak 0 args=true)(h:WC P GL fn.body ⟨fn.ntmps,sP 0 args,[]⟩ (fun e σ=>match e with| .exit _=>False|_=>(fb fn.res σ).bind (fY σ.hp)=some v)):PC P GL f args v:=PC.of hd (WF.body hf wO hn (h.mono fun e s hq=>by
 have key:∀{r:Option V},r.bind (fY s.hp)=some v→∃x,r=some x∧fY s.hp x=some v:=by
  intro r hr;cases r with
   |none=>simp at hr
   |some x=>exact⟨x,rfl,by simpa using hr⟩
 cases e with
  |exit i=>exact hq
  |normal=>exact key hq
  |ret=>exact key hq))
abbrev MS:=List (FuncId×(List V→Option V))
def pr:MS→aT|[],_,_=>none|(k,s)::l,f,args=>bif Nat.beq k f then s args else pr l f args
theorem PZ{l:MS}(h:∀p∈l,∀args v,p.2 args=some v→PC P GL p.1 args v):bt P GL (pr l):=by
 induction l with
  |nil=>intro f args v hv;simp[pr]at hv
  |cons p l ih=>
   intro f args v hv;obtain⟨k,s⟩:=p;simp only[pr]at hv;cases hb:Nat.beq k f with
    |true=>rw[hb]at hv;have:=aah hb;subst this;exact h _ abU _ _ hv
    |false=>rw[hb]at hv;exact ih (fun q hq=>h q (abL _ hq)) _ _ _ hv
end
end Fw
