/-
  What an expression comes to for values of its names; substitution and values.
-/
import Derived.Test.YtgfgckimecpmlaaGreatDoorTl
import Derived.Test.YtgfgckimecpmlaaGreatDoorTm
import Derived.Test.YtgfgckimecpmlaaGreatDoorFh
import Derived.Test.YtgfgckimecpmlaaGreatDoorTf
set_option linter.unusedSimpArgs false
set_option linter.unusedVariables false
set_option maxRecDepth 1000000
set_option maxHeartbeats 4000000
namespace Fw.Tz.Ta
open Go Fw.Tz Fw.Nu Fw.Tz.Na Fw.Tz.El Fw.Tz.Va Fw.Tz.Vb Fw.Tz.Su Fw.Tz.Yd Fw.Tz.Ya Fw.Tz.Yc
abbrev Vl:=List UInt8->Int
def fm(s:Vl):Es->Int|[]=>0|e::l=>e.2*s e.1+fm s l
def dZ(s:Vl):List Cf->Int|[]=>0|t::l=>t.c*s t.var+dZ s l
def ev(s:Vl)(x:ae):Int:=x.c+dZ s x.ts
def comp(s:Vl)(g:Gt):Vl:=fun x=>
 match g 1 x with
  |none=>s x
  |some b=>ev s b.bf
theorem nM(s:Vl):∀es:Es,dZ s (nJ es)=fm s es|[]=>rfl|e::l=>by show e.2*s e.1+dZ s (nJ l)=_;rw[nM s l];rfl
theorem Bz(s:Vl):∀a b:Es,fm s (a++b)=fm s a+fm s b
 |[],b=>by simp[fm]
 |e::a,b=>by rw[abD,fm,fm,Bz s a b];omega
theorem xY(s:Vl)(k:List UInt8)(c:Int):∀l:Es,fm s (eY l k c)=fm s l+c*s k
 |[]=>by grind[eY,fm]
 |e::l=>by have ih:=xY s k c l;grind[eY,fm,Int.neg_mul,Int.add_mul]
theorem sX(s:Vl):∀(ops l:Es),fm s (nE ops l)=fm s l+fm s ops
 |[],l=>by simp[nE,fm]
 |o::ops,l=>by show fm s (nE ops (eY l o.1 o.2))=_;rw[sX s ops,xY,fm];omega
theorem qd(s:Vl)(k:Int):∀ts:List Cf,fm s (ts.map fun u=>(u.var,k*u.c))=k*dZ s ts
 |[]=>by simp[fm,dZ]
 |t::ts=>by rw[aaV,fm,qd s k ts,dZ,Int.mul_add,Int.mul_assoc]
theorem wg(s:Vl)(g:Gt):∀(ts:List Cf)(n:Int),fm s (Bf g ts)+yY g n ts=n+dZ (comp s g) ts
 |[],n=>by simp[Bf,yY,fm,dZ]
 |t::ts,n=>by
  rw[Bf,yY,Bz,dZ];cases h:g 1 t.var with
   |none=>have ih:=wg s g ts n;grind[comp,fm]
   |some b=>
    have ih:=wg s g ts (n+t.c*b.bf.c);have hc:comp s g t.var=ev s b.bf:=by grind[comp]
    rw[hc];simp only[qd,ev,Int.mul_add];omega
theorem jh{g:Gt}{x:ae}(h:(aL g x).2=0):x.ok=true/\FY g x.ts=true/\(aL g x).1=⟨yY g x.c x.ts,nJ (nE (Bf g x.ts) [])⟩/\(aL g x).1.ok=true:=by
 unfold aL at h⊢;split at h
 ·rename_i h1;rw[aaK h1];unfold kJ at h⊢;grind
 grind
theorem rE{g:Gt}{x:ae}(h:(aL g x).2=0)(s:Vl):ev s (aL g x).1=ev (comp s g) x:=by rw[(jh h).2.2.1];have:=wg s g x.ts x.c;simp only[ev,nM,sX,fm];omega
def ml(ts:List Cf):Es:=ts.map fun t=>(t.var,t.c)
theorem zk:∀ts:List Cf,nJ (ml ts)=ts|[]=>rfl|t::ts=>by show Fw.Tz.Yd.zK (t.var,t.c)::nJ (ml ts)=_;rw[zk ts];rfl
theorem xZ:∀(ts:List Cf)(p:Option (List UInt8)),cR p ts=true->pU (ml ts)/\Nz (ml ts)/\∀q,p=some q->∀e∈ml ts,q<e.1
 |[],p,_=>⟨by simp[pU,ml],by simp[Nz,ml],by simp[ml]⟩
 |t::ts,p,h=>by
  simp only[cR,aaD,aa5,beq_eq_false_iff_ne]at h;obtain⟨⟨⟨⟨h1,h2⟩,h3⟩,h4⟩,h5⟩:=h;obtain⟨k1,k2,k3⟩:=xZ ts _ h5;refine⟨abJ.2 ⟨fun b hb=>k3 _ rfl b hb,k1⟩,?_,?_⟩
  ·intro e he;rcases aa7.1 he with h|h
   ·grind
   ·exact k2 e h
  ·rintro q rfl e he;have hq:q<t.var:=by simp_all[mF,Fw.Tz.eU,aaL]
   rcases aa7.1 he with h|h
   ·grind
   ·exact acR hq (k3 _ rfl e h)
theorem wh{x:ae}(h:x.ok=true):pU (ml x.ts)/\Nz (ml x.ts):=by
 have:cR none x.ts=true:=by simp_all[ae.ok,bw,aaD]
 have:=xZ x.ts none this;grind
def BA(k:List UInt8):Vl:=fun x=>if x=k then 1 else 0
theorem BB{k:List UInt8}:∀{l:Es},(∀e∈l,e.1≠k)->fm (BA k) l=0|[],_=>rfl|e::l,h=>by rw[fm,BB fun a ha=>h a (by simp[ha]),BA,aaF (h e (by simp))];simp
theorem sY(k:List UInt8):∀{l:Es},Nd l->fm (BA k) l=cq l k
 |[],_=>rfl
 |e::l,h=>by
  simp only[Nd,aaV,acB]at h;rw[fm,cQ,BA];by_cases hk:e.1=k
  ·grind[BB]
  ·rw[aaF hk,aaF hk,sY k h.2];omega
theorem x3:∀l:Es,fm (fun _=>0) l=0|[]=>rfl|e::l=>by rw[fm,x3 l];simp
theorem I'{x y:ae}(hx:x.ok=true)(hy:y.ok=true)(h:∀s,ev s x=ev s y):x=y:=by
 obtain⟨x1,x2⟩:=wh hx;obtain⟨y1,y2⟩:=wh hy;have hE:∀s (z:ae),ev s z=z.c+fm s (ml z.ts):=fun s z=>by rw[ev,←nM,zk]
 have hc:x.c=y.c:=by
  have:=h fun _=>0
  grind[x3]
 have hco:∀k,cq (ml x.ts) k=cq (ml y.ts) k:=fun k=>by have:=h (BA k);rw[hE,hE,sY k (l_ x1),sY k (l_ y1)]at this;omega
 have ht:ml x.ts=ml y.ts:=by rw[←It (l_ x1) x1 x2 (fun _=>rfl)];exact It (l_ x1) y1 y2 hco
 have ht:x.ts=y.ts:=by grind[zk]
 cases x;simp_all
theorem rF(s:Vl):ev s gq=0:=rfl
theorem LP:gq.ok=true:=by decide
theorem OX{x:ae}(hx:x.ok=true)(h:∀s,ev s x=0):x=gq:=I' hx LP fun s=>by rw[h,rF]
theorem wi(k:Int)(xs:List Cf){l:List Cf}(h:∃es,l=nJ es/\pU es/\Nz es)(s:Vl):dZ s (cy l k xs)=dZ s l+k*dZ s xs:=by obtain⟨es,rfl,h1,h2⟩:=h;rw[vZ k xs h1 h2,nM,nM,sX,qd]
theorem OY(x:List UInt8):∃es,[(⟨x,1⟩:Cf)]=nJ es/\pU es/\Nz es:=⟨[(x,1)],rfl,by simp[pU],by simp[Nz]⟩
theorem UJ{x:ae}(h:x.ok=true):∃es,x.ts=nJ es/\pU es/\Nz es:=⟨ml x.ts,(zk _).symm,wh h⟩
end Fw.Tz.Ta
/-
  The solving of equations: what each step keeps.
-/
namespace Fw.Tz.Tb
open Go Fw.Tz Fw.Nu Fw.Tz.Na Fw.Tz.El Fw.Tz.Va Fw.Tz.Vb Fw.Tz.Su Fw.Tz.Yd Fw.Tz.Ya Fw.Tz.Yc Fw.Tz.Im Fw.Tz.So Fw.Tz.Sp Fw.Tz.Sq Fw.Tz.Sy Fw.Tz.Ta
variable {s:fy}{i:Nat}{d:ae}{r:Rw}{q0:List ae}{a:Int}{t:Cf}
theorem oi(g:Gt):∀l:List Bd,(ij g l).2=0->(ij g l).1=l.map (fun b=>⟨b.kind,b.var,(aL g b.bf).1,b.row,b.ab,b.elem⟩)/\∀b∈l,(aL g b.bf).2=0
 |[],_=>⟨rfl,by simp⟩
 |b::r,h=>by
  rw[ij]at h⊢;split at h
  ·rename_i h1;have ih:=oi g r h;grind
  grind
theorem oj(g:Gt):∀l:List Rw,(kp g l).2=0->(kp g l).1=l.map (fun b=>⟨(aL g b.q).1,b.ms,b.sc,b.dP⟩)/\∀b∈l,(aL g b.q).2=0
 |[],_=>⟨rfl,by simp⟩
 |b::r,h=>by
  rw[kp]at h⊢;split at h
  ·rename_i h1;have ih:=oj g r h;grind
  grind
theorem BC(g:Gt)(y:List UInt8)(d:ae)(hg:g=aH [bC y d])(s:Vl):∀l:List Bd,(∀b∈l,(aL g b.bf).2=0)->comp s (aH (l.map (fun b=>(⟨b.kind,b.var,(aL g b.bf).1,b.row,b.ab,b.elem⟩:Bd))++[bC y d]))=comp (comp s g) (aH l)
 |[],_=>by funext x;show comp s (aH [bC y d]) x=comp (comp s g) (aH []) x;rw[←hg];rfl
 |b::r,h=>by
  funext x;have ih:=congrFun (BC g y d hg s r fun a ha=>h a (by simp[ha])) x;rw[aaV,abD];simp only[comp]at ih⊢;rw[eV,eV];have hi:jE 1 x (⟨b.kind,b.var,(aL g b.bf).1,b.row,b.ab,b.elem⟩:Bd)=jE 1 x b:=rfl;rw[hi];cases hb:jE 1 x b with
   |true=>rw[aaK rfl,aaK rfl];exact rE (h b (by simp)) s
   |false=>grind
def D1(b:Bd):Prop:=b.kind=1/\bP b.var=true/\b.bf.ok=true/\b.row=[]/\b.ab=[]/\b.elem=[]
structure BE (q0:List ae) (s:fy) (i:Nat):Prop where
 len:s.rows.length=q0.length
 LR:q0.length<=6000
 Dq:∀r∈s.rows,r.q.ok=true/\r.ms.length<=q0.length/\(r.dP=false->r.ms.length=q0.length/\r.sc≠0)
 MR:∀b∈s.binds,D1 b
 rel:∀(k:Nat)(q:ae)(r:Rw),q0[k]? =some q->s.rows[k]? =some r->∃m:Int,∀σ,ev (comp σ (aH s.binds)) q=m*ev σ r.q
 OZ:∀(k:Nat)(r:Rw),k<i->s.rows[k]? =some r->r.q=gq
theorem sZ{x:List UInt8}(h:iD s x d i=0):d.ok=true/\(ij (aH [bC x d]) s.binds).2=0/\(kp (aH [bC x d]) (s.rows.drop i)).2=0:=by unfold iD at h;grind
theorem BF{x:List UInt8}(h:iD s x d i=0)(k:Nat):(iE s x d i).rows[k]? =if k<i then s.rows[k]? else(s.rows[k]? ).map (fun b=>⟨(aL (aH [bC x d]) b.q).1,b.ms,b.sc,b.dP⟩):=by obtain⟨h1,h2,h3⟩:=sZ h;unfold iE;dsimp only;rw[(oj _ _ h3).1,ac2];grind
theorem wj{x:List UInt8}(h:iD s x d i=0)(σ:Vl):comp σ (aH (iE s x d i).binds)=comp (comp σ (aH [bC x d])) (aH s.binds):=by obtain⟨h1,h2,h3⟩:=sZ h;have hb:=oi _ _ h2;unfold iE;dsimp only;rw[hb.1];exact BC _ x d rfl σ s.binds hb.2
theorem wk{x:List UInt8}{k:Nat}(h:iD s x d i=0)(hk:i<=k)(hr:s.rows[k]? =some r):(aL (aH [bC x d]) r.q).2=0:=by obtain⟨h1,h2,h3⟩:=sZ h;refine(oj _ _ h3).2 r (aaH (i:=k - i) ?_ );grind
theorem BG{x:List UInt8}(hC:BE q0 s i)(hx:bP x=true)(h:iD s x d i=0):BE q0 (iE s x d i) i:=by
 obtain⟨h1,h2,h3⟩:=sZ h;have pF:=BF h;refine⟨?_,hC.LR,?_,?_,?_,?_⟩
 ·rw[←hC.len];unfold iE;dsimp only;rw[(oj _ _ h3).1,aaZ,aaQ,aa1,abm];omega
 ·intro r hr;obtain⟨k,hk⟩:=ab_ hr;rw[pF]at hk;by_cases uM:k<i
  ·rw[aaK uM]at hk;exact hC.Dq r (aaH hk)
  ·rw[aaF uM]at hk;obtain⟨b,hb,rfl⟩:=aaG.1 hk;have:=hC.Dq b (aaH hb);exact⟨(jh (wk h (by omega) hb)).2.2.2,this.2⟩
 ·intro b hb;unfold iE at hb;dsimp only at hb;have hm:=oi _ _ h2;rw[hm.1,aa2,aa_]at hb;rcases hb with⟨a,ha,rfl⟩|hb
  ·obtain⟨k1,k2,k3,k4⟩:=hC.MR a ha;exact⟨k1,k2,(jh (hm.2 a ha)).2.2.2,k4⟩
  ·rw[abk.1 hb];exact⟨rfl,hx,h1,rfl,rfl,rfl⟩
 ·intro k q r hq hr;rw[pF]at hr;by_cases uM:k<i
  ·rw[aaK uM]at hr;obtain⟨m,hm⟩:=hC.rel k q r hq hr;refine⟨m,fun σ=>?_ ⟩;rw[wj h,hm,hC.OZ k r uM hr,rF,rF]
  ·rw[aaF uM]at hr;obtain⟨b,hb,rfl⟩:=aaG.1 hr;obtain⟨m,hm⟩:=hC.rel k q b hq hb;refine⟨m,fun σ=>?_ ⟩;rw[wj h,hm];dsimp only;rw[rE (wk h (by omega) hb)]
 ·intro k r uM hr;rw[pF,aaK uM]at hr;exact hC.OZ k r uM hr
theorem EN{b:Int}(h:(mulR a b).2=0)(ha:a≠0)(hb:b≠0):(mulR a b).1≠0:=by
 unfold mulR at h⊢;split at h
 ·rename_i h1;rw[aaK h1,aaF (by omega)];rw[aaF (by omega)]at h;split at h
  ·grind
  ·rename_i h2;rw[aaF h2];have hw:(a*b).natAbs<=4611686018427387904:=by
    have h3:Gg b=((4611686018427387904 / b.natAbs:Nat):Int):=by unfold Gg;rw[rB];exact I5 _ _ (aaP _)
    rw[h3,rB]at h2;have h4:a.natAbs<=4611686018427387904 / b.natAbs:=by omega
    rw[Int.natAbs_mul];exact abl (abc _ h4) (Nat.div_mul_le_self _ _)
   rw[Fw.Tz.Yc.wrap_small hw];simp_all
 grind
theorem LS{b:Int}(h:(qa a b).2=0)(ha:a≠0)(hb:b≠0):(qa a b).1≠0:=by
 unfold qa at h⊢;split at h
 ·rename_i h1;rw[aaK h1,aaF (by omega)];rw[aaF (by omega)]at h;refine EN h ?_ (by have:=Br hb;omega);have hp:0<a.natAbs:=by omega
  have:0<a.natAbs / Nat.gcd a.natAbs b.natAbs:=Nat.div_pos (Nat.gcd_le_left _ hp) (Nat.gcd_pos_of_pos_left _ hp);omega
 grind
theorem wm(k sa sb:Int):∀(l:List (Int×Int))(acc:List Int),(lg k sa sb l acc).2=false->(lg k sa sb l acc).1.length=acc.length+l.length
 |[],acc,_=>rfl
 |p::l,acc,h=>by
  rw[lg]at h⊢;split at h
  ·grind
  ·rename_i h1;rw[aaF h1,wm k sa sb l _ h];grind
theorem x4(k sa sb:Int):∀(l:List (Int×Int))(acc:List Int),(lg k sa sb l acc).1.length<=acc.length+l.length
 |[],acc=>by simp[lg]
 |p::l,acc=>by
  rw[lg];split
  ·simp
  ·have:=x4 k sa sb l (acc++[(iP k sa sb p.1 p.2).1]);grind
theorem EO(a b:Rw)(k:Int):(ig a b k).q=a.q:=by unfold ig;grind
theorem BH(a b:Rw)(k:Int):(ig a b k).ms.length<=a.ms.length:=by
 unfold ig;split
 ·grind
 ·split
  ·grind
  ·refine abl (x4 _ _ _ _ _) ?_;grind
theorem I_{n:Nat}{a b:Rw}{k:Int}(ha:a.dP=false->a.ms.length=n/\a.sc≠0)(hb:b.dP=false->b.ms.length=n/\b.sc≠0):(ig a b k).dP=false->(ig a b k).ms.length=n/\(ig a b k).sc≠0:=by
 unfold ig;split
 ·grind
 ·rename_i h1;split
  ·grind
  ·rename_i h2;have h2:a.dP=false/\b.dP=false:=by grind
   intro h;dsimp only at h⊢;obtain⟨a1,a2⟩:=ha h2.1;obtain⟨b1,b2⟩:=hb h2.2;refine⟨?_,LS (by omega) a2 b2⟩;rw[wm _ _ _ _ _ h,List.length_zip,a1,b1];simp
theorem BI:∀(ts:List Cf)(g:Nat),we g ts ∣ g/\∀t∈ts,we g ts ∣ t.c.natAbs
 |[],g=>⟨Nat.dvd_refl _,by simp⟩
 |t::ts,g=>by
  have ih:=BI ts (Nat.gcd g t.c.natAbs);refine⟨Nat.dvd_trans ih.1 (Nat.gcd_dvd_left _ _),?_⟩;intro u hu;rcases aa7.1 hu with rfl|hu
  ·exact Nat.dvd_trans ih.1 (Nat.gcd_dvd_right _ _)
  ·exact ih.2 u hu
theorem Ja{x:ae}(hx:x.ok=true):∀t∈x.ts,ay x ∣ t.c.natAbs:=by unfold ay;rw[aaK hx];exact(BI x.ts 0).2
def oW(g:Int)(ts:List Cf):List Cf:=ts.map fun t=>⟨t.var,aG t.c g⟩
def mH(r:Rw):Rw:=⟨⟨aG r.q.c (ay r.q),oW (ay r.q) r.q.ts⟩,r.ms,(mulR r.sc (ay r.q)).1,r.dP||(!(decide ((mulR r.sc (ay r.q)).2=0))||decide (1099511627776<(mulR r.sc (ay r.q)).1))⟩
theorem Dr{g:Nat}(ha: -1000000<=a/\a<=1000000)(hg:g≠0)(hd:g ∣ a.natAbs):(g:Int)*aG a g=a/\ -1000000<=aG a g/\aG a g<=1000000/\(a≠0->aG a g≠0):=by
 obtain⟨k,hk⟩:=hd;have hgp:(g:Int)≠0:=by omega
 have hdv:(g:Int) ∣ a:=Int.ofNat_dvd_left.2 ⟨k,hk⟩;have hq:(a.tdiv g).natAbs<=a.natAbs:=by rw[Int.natAbs_tdiv];exact Nat.div_le_self _ _
 have hw:aG a g=a.tdiv g:=by unfold aG;grind[IntKind.wrap_i64]
 have hm:(g:Int)*a.tdiv g=a:=Int.mul_tdiv_cancel' hdv;grind
theorem tL{g:Nat}(hg:g≠0):∀(ts:List Cf)(p:Option (List UInt8)),(∀t∈ts,g ∣ t.c.natAbs)->cR p ts=true->cR p (oW g ts)=true|[],p,_,_=>rfl|t::ts,p,hd,h=>by have hb:=p4 _ _ h t (by simp);simp only[cR,aaD,aa5,beq_eq_false_iff_ne]at h;obtain⟨⟨⟨⟨h1,h2⟩,h3⟩,h4⟩,h5⟩:=h;have ih:=tL hg ts _ (fun u hu=>hd u (by simp[hu])) h5;obtain⟨k1,k2,k3,k4⟩:=Dr hb.1 hg (hd t (by simp));show(bP t.var&& !(aG t.c g==0)&&bL (aG t.c g)&&mF p t.var&&cR (some t.var) (oW g ts))=true;grind[bL]
theorem Ds(hr:r.q.ok=true)(hg:ay r.q≠0)(hc:r.q.c.tmod (ay r.q)=0):(mH r).q.ok=true/\∀σ,ev σ r.q=ay r.q*ev σ (mH r).q:=by
 have hv:=cS hr;have hdc:ay r.q ∣ r.q.c.natAbs:=by have:=Int.dvd_of_tmod_eq_zero hc;exact Int.ofNat_dvd_left.1 this
 obtain⟨k1,k2,k3,k4⟩:=Dr hv.1 hg hdc;have hd:=Ja hr;constructor
 ·have h2:=hr;simp only[ae.ok,bw,aaD,aaL]at h2⊢;refine⟨⟨?_,?_⟩,?_⟩
  ·show bL (aG r.q.c (ay r.q))=true;grind[bL]
  ·show(oW (ay r.q) r.q.ts).length<=12;grind[oW,List.length_map]
  ·exact tL hg _ _ hd h2.2
 ·intro σ;have hs:∀ts:List Cf,(∀t∈ts,(-1000000<=t.c/\t.c<=1000000)/\ay r.q ∣ t.c.natAbs)->dZ σ ts=ay r.q*dZ σ (oW (ay r.q) ts):=by
   intro ts;induction ts with
    |nil=>grind[dZ,oW]
    |cons t ts ih=>
     intro h;obtain⟨j1,-⟩:=Dr (h t (by simp)).1 hg (h t (by simp)).2;have ih:=ih fun u hu=>h u (by simp[hu])
     show t.c*σ t.var+dZ σ ts=ay r.q*(aG t.c (ay r.q)*σ t.var+dZ σ (oW (ay r.q) ts));grind
  show r.q.c+dZ σ r.q.ts=ay r.q*(aG r.q.c (ay r.q)+dZ σ (oW (ay r.q) r.q.ts));grind
theorem BJ(hC:BE q0 s i)(hr:s.rows[i]? =some r)(hg:ay r.q≠0)(hc:r.q.c.tmod (ay r.q)=0):BE q0 ⟨s.rows.set i (mH r),s.binds,s.defs,s.next⟩ i:=by
 have Cn:=aaH hr;have hi:=(aaO.1 hr).1;obtain⟨o1,o2,o3⟩:=hC.Dq r Cn;obtain⟨n1,n2⟩:=Ds o1 hg hc;refine⟨by rw[←hC.len];grind,hC.LR,?_,hC.MR,?_,?_ ⟩
 ·intro r' jH;rcases acU jH with h|rfl
  ·exact hC.Dq r' h
  ·refine⟨n1,o2,fun h=>?_ ⟩;have h:(r.dP||(!(decide ((mulR r.sc (ay r.q)).2=0))||decide (1099511627776<(mulR r.sc (ay r.q)).1)))=false:=h;simp only[abZ,ack,aaL]at h;obtain⟨p1,p2⟩:=o3 h.1;exact⟨p1,EN h.2.1 p2 (by omega)⟩
 ·intro k q r' hq jH;dsimp only at jH;by_cases hk:i=k
  ·subst hk;rw[aa9 hi]at jH;cases jH;obtain⟨m,hm⟩:=hC.rel i q r hq hr;exact⟨m*ay r.q,fun σ=>by grind⟩
  ·rw[acp hk]at jH;exact hC.rel k q r' hq jH
 ·intro k r' hk jH;dsimp only at jH;rw[acp (by omega)]at jH;exact hC.OZ k r' hk jH
def wo(r:Rw)(t:Cf)(b:Rw):Rw:=if dH b.q.ts t.var=0 then b else ig b r (IntKind.i64.wrap (dH b.q.ts t.var*t.c))
def dB(s:fy)(i:Nat)(r:Rw)(t:Cf):List Rw:=s.rows.mapIdx fun k b=>if i<k then wo r t b else b
def bz(r:Rw)(t:Cf):ae:=⟨0+(-t.c)*r.q.c,cy [⟨t.var,1⟩] (-t.c) r.q.ts⟩
theorem O0(r:Rw)(t:Cf)(b:Rw):(wo r t b).q=b.q:=by unfold wo;grind[EO]
theorem Jb(hC:BE q0 s i)(hr:s.rows[i]? =some r):BE q0 ⟨dB s i r t,s.binds,s.defs,s.next⟩ i:=by
 have hrk:=hC.Dq r (aaH hr);have aF:∀(k:Nat)(r':Rw),(dB s i r t)[k]? =some r'->∃b,s.rows[k]? =some b/\r'.q=b.q/\(r'=b\/r'=ig b r (IntKind.i64.wrap (dH b.q.ts t.var*t.c))):=by
  intro k r' h;rw[dB,List.getElem?_mapIdx]at h;obtain⟨b,hb,rfl⟩:=aaG.1 h;refine⟨b,hb,?_⟩;by_cases hk:i<k
  ·rw[aaK hk];refine⟨O0 r t b,?_⟩;unfold wo;grind
  grind
 refine⟨by rw[←hC.len];exact List.length_mapIdx ..,hC.LR,?_,hC.MR,?_,?_ ⟩
 ·intro r' jH;obtain⟨k,hk⟩:=ab_ jH;obtain⟨b,hb,hq,h⟩:=aF k r' hk;have RD:=hC.Dq b (aaH hb);rcases h with rfl|rfl
  ·exact RD
  ·exact⟨by grind,abl (BH _ _ _) RD.2.1,I_ RD.2.2 hrk.2.2⟩
 ·intro k q r' hq jH;obtain⟨b,hb,mK,-⟩:=aF k r' jH;rw[mK];exact hC.rel k q b hq hb
 ·intro k r' hk jH;obtain⟨b,hb,mK,-⟩:=aF k r' jH;rw[mK];exact hC.OZ k b hk hb
theorem wq(s:Vl)(x:List UInt8)(d:ae)(y:List UInt8):comp s (aH [bC x d]) y=if x=y then ev s d else s y:=by
 unfold comp;rw[eV];by_cases h:x=y
 ·rw[aaK h,aaK ((ei _ _ _).2 (by rw[h];rfl))];rfl
 ·rw[aaF h,aaF (fun h2=>h (show(key (bC x d)).2=((1:Int),y).2 from aba Prod.snd ((ei 1 y (bC x d)).1 h2)))];rfl
theorem BK(s:Vl)(x:List UInt8)(d:ae):∀ts:List Cf,(∀t∈ts,t.var≠x)->dZ (comp s (aH [bC x d])) ts=dZ s ts|[],_=>rfl|t::ts,h=>by rw[dZ,dZ,BK s x d ts fun u hu=>h u (by simp[hu]),wq,aaF (fun h2=>h t (by simp) h2.symm)]
theorem BL(s:Vl)(t:Cf)(d:ae):∀ts:List Cf,Nd (Fw.Tz.Ta.ml ts)->t∈ts->dZ (comp s (aH [bC t.var d])) ts=dZ s ts+t.c*(ev s d - s t.var)
 |[],_,h=>by cases h
 |u::ts,hn,h=>by
  have JL:u.var∉(Fw.Tz.Ta.ml ts).map (·.1)/\Nd (Fw.Tz.Ta.ml ts):=acB.1 hn;have E5:∀a∈ts,a.var≠u.var:=fun a ha he=>JL.1 (by rw[←he];exact acg (acg (f:=fun t:Cf=>(t.var,t.c)) ha))
  rcases aa7.1 h with rfl|h
  ·rw[dZ,dZ,BK s t.var d ts E5,wq,aaK rfl,Int.mul_sub];omega
  ·rw[dZ,dZ,BL s t d ts JL.2 h,wq,aaF (E5 t h)];omega
theorem Gn(hq:r.q.ok=true)(ht:t∈r.q.ts)(hu:t.c=1\/t.c= -1)(hs:(aL (aH [bC t.var (bz r t)]) r.q).2=0):(aL (aH [bC t.var (bz r t)]) r.q).1=gq:=by
 refine OX (jh hs).2.2.2 fun σ=>?_
 rw[rE hs];have hd:ev σ (bz r t)=σ t.var - t.c*ev σ r.q:=by simp only[ev,bz,wi _ _ (OY t.var),dZ,Int.mul_add,Int.neg_mul];omega
 show r.q.c+dZ (comp σ (aH [bC t.var (bz r t)])) r.q.ts=0;rw[BL σ t _ _ (l_ (wh hq).1) ht,hd];have he:ev σ r.q=r.q.c+dZ σ r.q.ts:=rfl;grind
theorem qe:∀(l:List Cf)(b:Cf),ck b l∈b::l
 |[],b=>by simp[ck]
 |t::r,b=>by rw[ck];have:=qe r (if rC t b=true then t else b);grind
def mP(px:List (List UInt8))(l:List Bd):List Bd:=px.flatMap fun n=>l.filter fun b=>Fw.ai b.var n
theorem BM{l:List Bd}(hk:∀b∈l,b.kind=1){x:List UInt8}:∀{px:List (List UInt8)},x∈px->aH (mP px l) 1 x=aH l 1 x
 |[],h=>by cases h
 |n::r,h=>by
  have aax:∀b∈l,jE 1 x b=true↔b.var=x:=fun b hb=>by
   rw[ei];constructor
   ·intro h;exact aba Prod.snd h
   ·intro h2;show(b.kind,b.var)=_;grind
  show List.find? _ (l.filter (fun b=>Fw.ai b.var n)++mP r l)=List.find? _ l;rw[List.find?_append];by_cases hn:n=x
  ·subst hn;have he:(l.filter fun b=>Fw.ai b.var n).find? (jE 1 n)=l.find? (jE 1 n):=by
    rw[List.find?_filter];refine aba (fun f=>List.find? f l) ?_ |>.trans rfl;funext b;rw[aO];by_cases hb:b.var=n
    ·simp[hb]
    ·have:jE 1 n b=false:=by rw[←abV,ei];exact fun h=>hb (aba Prod.snd h)
     grind
   rw[he];cases hf:l.find? (jE 1 n)with
    |some b=>rfl
    |none=>
     have uS:(mP r l).find? (jE 1 n)=none:=by rw[List.find?_eq_none]at hf⊢;intro b hb;obtain⟨m,-,hm⟩:=acN.1 hb;grind
     grind
  ·have he:(l.filter fun b=>Fw.ai b.var n).find? (jE 1 x)=none:=by simp_all[List.find?_eq_none,aO,aaL]
   rw[he,Option.none_or];refine BM hk ?_;grind
theorem wt{s u:Vl}:∀{ts:List Cf},(∀t∈ts,s t.var=u t.var)->dZ s ts=dZ u ts|[],_=>rfl|t::ts,h=>by rw[dZ,dZ,h t (by simp),wt fun a ha=>h a (by simp[ha])]
theorem LU{l:List Bd}(hk:∀b∈l,b.kind=1){px:List (List UInt8)}{q:ae}(hq:∀t∈q.ts,t.var∈px)(σ:Vl):ev (comp σ (aH (mP px l))) q=ev (comp σ (aH l)) q:=by unfold ev;rw[wt];intro t ht;simp only[comp];rw[BM hk (hq t ht)]
theorem EP:∀(es:Es)(k:List UInt8),dH (nJ es) k=cq es k|[],k=>rfl|e::l,k=>by show(if Fw.ai e.1 k=true then e.2 else dH (nJ l) k)=_;rw[EP l,cQ,aO];grind
theorem LV{es:Es}(h1:pU es)(h2:Nz es)(x:List UInt8):∃uK,qb (nJ es) x=nJ uK/\pU uK/\Nz uK/\cq uK x≠0/\∀y,cq es y≠0->cq uK y≠0:=by
 unfold qb;rw[EP];by_cases h:cq es x=0
 ·rw[aaK h,zf h1 h2];refine⟨_,rfl,rp h1 _ _,um h2 _ _,?_,fun y hy=>?_ ⟩
  ·rw[xM h1,aaK rfl,h];decide
  ·rw[xM h1];grind
 grind
theorem BN:∀(ts:List Cf){es:Es},pU es->Nz es->∃uK,ic (nJ es) ts=nJ uK/\pU uK/\Nz uK/\(∀t∈ts,cq uK t.var≠0)/\∀y,cq es y≠0->cq uK y≠0
 |[],es,h1,h2=>⟨es,rfl,h1,h2,by simp,fun _ h=>h⟩
 |t::ts,es,h1,h2=>by
  obtain⟨e1,k1,k2,k3,k4,k5⟩:=LV h1 h2 t.var;obtain⟨e2,j1,j2,j3,j4,j5⟩:=BN ts k2 k3;refine⟨e2,?_,j2,j3,?_,fun y hy=>j5 y (k5 y hy)⟩
  ·show ic (qb (nJ es) t.var) ts=_;rw[k1,j1]
  grind
theorem zm:∀(l:List ae){es:Es},pU es->Nz es->∃uK,l.foldl (fun a x=>ic a x.ts) (nJ es)=nJ uK/\pU uK/\Nz uK/\(∀x∈l,∀t∈x.ts,cq uK t.var≠0)/\∀y,cq es y≠0->cq uK y≠0
 |[],es,h1,h2=>⟨es,rfl,h1,h2,by simp,fun _ h=>h⟩
 |x::l,es,h1,h2=>by obtain⟨e1,k1,k2,k3,k4,k5⟩:=BN x.ts h1 h2;obtain⟨e2,j1,j2,j3,j4,j5⟩:=zm l k2 k3;grind
theorem Jc{l:List ae}{x:ae}(hx:x∈l)(ht:t∈x.ts):t.var∈bD l:=by obtain⟨e,h1,-,-,h2,-⟩:=zm l (es:=[]) (by simp[pU]) (by simp[Nz]);have h3:=h2 x hx t ht;obtain⟨p,p1,p2,-⟩:=Eo h3;have h4:Gh l=nJ e:=h1;rw[bD,h4,←p2];exact acg (f:=Cf.var) (acg (f:=Fw.Tz.Yd.zK) p1)
end Fw.Tz.Tb
/-
  One step of the solving, by the reference.
-/
namespace Fw.Tz.Sz
open Go Go.Proofs Fw.X Fw.Tz Fw.Nu Fw.Tz.Sd Fw.Tz.Na Fw.Tz.El Fw.Tz.Va Fw.Tz.Eq Fw.Tz.Ew Fw.Tz.Su Fw.Tz.Yd Fw.Tz.Ya Fw.Tz.Yc Fw.Tz.Im Fw.Tz.So Fw.Tz.Sp Fw.Tz.Sq Fw.Tz.Sr Fw.Tz.St Fw.Tz.Sy Fw.Tz.Ta Fw.Tz.Tb
variable {W:World}
variable {i base d sz:Nat}{tm:List (Nat×V)}{α:Type}{g:Option (Nat×Bool)}{af:List Nat}{l:List aj}{H:ao}
theorem AW.quo{k:IntKind}{a b:Int}{Q:RS->List (Nat×V)->ao->Prop}{x y:a_}(hb:b≠0)(ho:l.head?=some ⟨some d,.bin .quo x y,g,af⟩)(hc:(aA g tm,aZ (gl W) tm x,aZ (gl W) tm y)=(some true,.d (.int k a),.d (.int k b)))(hq:AW P (gl W) base (i+1) (l.drop 1) (put tm d (.d (.int k (k.wrap (a.tdiv b))))) H (fun rs t k'=>Q (((.d (.int k (k.wrap (a.tdiv b))),none),[])::rs) t k')):AW P (gl W) base i l tm H Q:=by simp only[aaE]at hc;refine AW.eT ho hc.1 rfl (v:=.d (.int k (k.wrap (a.tdiv b)))) (wr:=none) ?_ hq;simp only[bE,hc.2.1,hc.2.2,mJ,ou];simp[hb]
theorem AO.qV(aa:α->List D)(xs:List α)(b j:Nat){Hp:ao}{Q:List (Nat×V)->Prop}{len:Nat}{x k:a_}(cK:∀a,(aa a).length=sz)(hj:j<len)(ho:l.head?=some ⟨some d,.cF sz x k,g,af⟩)(hc:(aA g tm,aZ (gl W) tm x,aF Hp b,ct (aZ (gl W) tm k))=(some true,.sl b (xs.length*sz) 0 len sz,some (ah aa xs),some j))(hq:AO P (gl W) base Hp (i+1) (l.drop 1) (put tm d (.ptr b (xs.length*sz) (j*sz))) Q):AO P (gl W) base Hp i l tm Q:=by simp only[aaE]at hc;refine AO.eT ho hc.1 rfl (v:=.ptr b (xs.length*sz) (j*sz)) ?_ hq;have:=su (ob cK hc.2.2.1) hj hc.2.1 hc.2.2.2 (base+i);rwa[aaY]at this
theorem AO.tF(aa:α->List D)(xs:List α)(j o:Nat){y:α}{Hp:ao}{m:Nat}{agg:Bool}{Q:List (Nat×V)->Prop}{b off:Nat}{a:a_}{v:V}(cK:∀a,(aa a).length=sz)(hy:xs[j]? =some y)(ho:l.head?=some ⟨some d,.load m agg a,g,af⟩)(hc:(Nat.blt 0 sz,aA g tm,aZ (gl W) tm a,aF Hp b,Nat.ble (o+m) sz)=(true,some true,.ptr b (xs.length*sz) off,some (ah aa xs),true))(vr:off=j*sz+o)(hv:B_ agg ((((aa y).drop o).take m).map .d)=some v)(hq:AO P (gl W) base Hp (i+1) (l.drop 1) (put tm d v) Q):AO P (gl W) base Hp i l tm Q:=by simp only[aaE]at hc;refine AO.eT ho hc.2.1 rfl (v:=v) ?_ hq;simp only[bE,hc.2.2.1,sy cK hy hc.2.2.2.1 (by simpa[abb]using hc.1) (aaN hc.2.2.2.2) vr,hv,aaU]
theorem WF.Zu{f:FuncId}{args:List V}{Q:V->ao->Prop}(h:WF P (gl W) f args H Q):WF P (gl W) f args H (fun r H'=>∃r0,r=Fw.gp r0/\Q r0 H'):=by refine⟨h.1,fun g w vs dU hh hg=>(h.2 g w vs dU hh hg).mono ?_ ⟩;rintro e w' ⟨x,v,g',H',rfl,hq,hx,ti,he⟩;exact⟨x,_,g',_,rfl,⟨_,rfl,hq⟩,hx.gp,ti,he⟩
theorem Jd(hW:W0 W)(s:List UInt8):PC P (gl W) 46 [so s] (.agg [i0,lo Cf.aa [⟨s,1⟩]]):=by refine CG.start X9 X' rfl ?_;refine s4 hW 6 0 [] 0 [(2,.ptr 0 2 0)] [(0,.cells [i0,.d (.list [[.str s,.int .i64 1]])])] ?_;refine CG.rt (.agg [i0,.d (.list [[.str s,.int .i64 1]])]) ?_;rfl
theorem an.LW(aa:α->List D)(l0:List α)(y:α)(ps qs:List V){m n b:Nat}{H':ao}(cK:∀a,(aa a).length=sz)(hb:aF H b=some (.cells ((l0.flatMap aa).map .d++(ps++ .ad::qs))))(hy:(aa y).map V.d=ps++ .d (.list [])::qs)(e1:bJ H b (ah aa (l0++[y]))=H'):an m ⟨n,tm,H⟩ ⟨n,tm,H'⟩:=by
 have hl:=bn cK l0;refine an.tC b (l0.length*sz+ps.length) hb ?_ ?_
 ·rw[abQ (by simp[hl])];simp[hl]
 ·rw[←e1,FM aa l0 y (fun h=>by rw[h]at hy;simp at hy),hy];congr 2;rw[List.set_append_right _ _ (by simp[hl])];simp[hl]
theorem BO{rows m:List Rw}{f:Rw->Rw}{j:Nat}{b:Rw}(g1:m.length=rows.length)(g2:∀k,m[k]? =if i<k/\k<i+1+j then(rows[k]? ).map f else rows[k]? )(hb:rows[i+1+j]? =some b)(k:Nat):(m.set (i+1+j) (f b))[k]? =if i<k/\k<i+1+(j+1)then(rows[k]? ).map f else rows[k]? :=by
 have b8:=(aaO.1 hb).1;by_cases hk:k=i+1+j
 ·rw[hk,aa9 (by omega),aaK (by omega),hb];rfl
 ·rw[acp (fun h=>hk h.symm),g2];by_cases hc:i<k/\k<i+1+j
  ·rw[aaK hc,aaK (by omega)]
  ·rw[aaF hc,aaF (by omega)]
theorem wa(S:List Nat):∀l:List D,gg S (l.map V.d)=l.map V.d|[]=>rfl|a::l=>by simp only[aaV,gg,dX,wa S l]
theorem mi(S:List Nat)(aa:α->List D)(l:List α):dY S (ah aa l)=ah aa l:=by
 unfold ah eR;cases h:l.flatMap aa with
  |nil=>rfl
  |cons d ds=>simp only[aaV,aca,aaT,dY];rw[←aaV,wa]
theorem wu(k:Int):∀(xs l:List Cf),(cy l k xs).length<=l.length+xs.length
 |[],l=>by simp[cy]
 |u::xs,l=>by have h1:=wu k xs (dS l u.var (k*u.c));have h2:=fP l u.var (k*u.c);simp only[cy,abw,aaR]at h1⊢;omega
theorem LX(r:Rw)(t:Cf)(b:Rw)(h:b.q.ts.length<=12/\b.ms.length<=6000):(wo r t b).q.ts.length<=12/\(wo r t b).ms.length<=6000:=by
 unfold wo;split
 ·exact h
 ·rw[EO];exact⟨h.1,abl (BH _ _ _) h.2⟩
theorem x5{f:FuncId}{args:List V}{s:fy}{R:V->fy->Prop}(E:ao)(h:WF P (gl W) f args (hS s) (fun v H'=>au 0 v=true/\∃s',H'=hS s'/\R v s'))(ha:av 4 args=true)(har:gg [0,1,2,3] args=args):WF P (gl W) f args (hS s++E) (fun v H'=>∃s',H'=hS s'++E/\R v s'):=by
 have b8:∀u:fy,aB 4 (hS u)=true:=fun u=>by simp[hS,aB,aD,aw,av,au]
 have zn:∀{α:Type}(e:α->List D)(l:List α),dY [0,1,2,3] (ah e l)=ah e l:=fun e l=>mi _ e l
 have:=WF.frame [0,1,2,3] h (by decide) rfl ha (b8 s) (H:=hS s++E) (Q:=fun v H'=>∃s',H'=hS s'++E/\R v s') ?_ ?_
 ·rwa[har]at this
 ·intro i hi;have:i=0\/i=1\/i=2\/i=3:=by simp at hi;omega
  rcases this with rfl|rfl|rfl|rfl
  ·exact⟨_,rfl,rfl⟩
  ·exact⟨_,rfl,by rw[zn];rfl⟩
  ·exact⟨_,rfl,by rw[zn];rfl⟩
  ·exact⟨_,rfl,by rw[zn];rfl⟩
 ·rintro v H' ⟨hv,s',rfl,hR⟩;refine⟨rfl,kf (aby _) hv,b8 _,s',?_,by rwa[nY hv]⟩;simp only[gS,hS,aF,zn];rfl
theorem MS(hW:W0 W)(s:fy)(i:Nat)(r:Rw)(t:Cf)(n:Nat)(K:List Fr)(hs:pw s)(hn:∀b∈s.rows,b.dP=false->b.ms.length=n/\b.sc≠0)(hr:s.rows[i]? =some r):CG P (gl W) (.code (.loop f131.Mv)) (Fr.block 2::Fr.seq ((IR.region f131.Mw).seq IR.ret)::K) f131.ntmps [(0,.ptr 0 4 0),(1,no i),(4,.ptr 4 2 0),(5,i0),(6,.ptr 1 (s.rows.length*5) (i*5)),(8,.ptr 5 2 0),(12,.ptr 7 2 0),(13,.ptr 16 2 0),(14,no (i+1))] [some (.cells [.sl 1 (s.rows.length*5) 0 s.rows.length 5,.sl 2 (s.binds.length*7) 0 s.binds.length 7,.sl 3 (s.defs.length*7) 0 s.defs.length 7,io s.next]),some (ah Rw.aa s.rows),some (ah Bd.aa s.binds),some (ah Bd.aa s.defs),some (.cells [.ad,i0]),some (.cells r.q.ce),none,some (.cells [so t.var,io t.c]),none,none,none,none,none,none,none,none,some (.cells [io (bz r t).c,lo Cf.aa (bz r t).ts]),none] (mO f131.res fun v H'=>∃aY,an (hS s).length ⟨1,[(0,v)],H'⟩ aY/\get aY.tm 0=.tuple [.agg [.ad,i0],io (iD ⟨dB s i r t,s.binds,s.defs,s.next⟩ t.var (bz r t) i)]/\∃s',aY.hp=hS s'/\(iD ⟨dB s i r t,s.binds,s.defs,s.next⟩ t.var (bz r t) i=0->s'=iE ⟨dB s i r t,s.binds,s.defs,s.next⟩ t.var (bz r t) i)):=by
 have hi:i<s.rows.length:=(aaO.1 hr).1;obtain⟨h1,h2,h3,h4,h5⟩:pw s:=hs;have hP:∀m:List Rw,m.length=s.rows.length->(∀k,m[k]? =if i<k/\k<i+1+(s.rows.length - (i+1))then(s.rows[k]? ).map (wo r t)else s.rows[k]? )->WF P (gl W) 191 [.ptr 0 4 0,so t.var,vL (bz r t),no i] (hS ⟨m,s.binds,s.defs,s.next⟩) (fun v H'=>au 0 v=true/\∃s',H'=hS s'/\(v=io (iD ⟨m,s.binds,s.defs,s.next⟩ t.var (bz r t) i)/\(iD ⟨m,s.binds,s.defs,s.next⟩ t.var (bz r t) i=0->s'=iE ⟨m,s.binds,s.defs,s.next⟩ t.var (bz r t) i))):=by
  intro m g1 g2;refine(I9 hW ⟨m,s.binds,s.defs,s.next⟩ t.var (bz r t) i ?_ ?_ (by dsimp only;omega)).mono ?_
  ·refine⟨by dsimp only;omega,h2,h3,?_,h5⟩;intro r' jH;obtain⟨k,hk⟩:=ab_ jH;dsimp only at hk;rw[g2]at hk;split at hk
   ·obtain⟨b,hb,rfl⟩:=aaG.1 hk;exact LX r t b (h4 b (aaH hb))
   ·exact h4 r' (aaH hk)
  ·have:=wu (-t.c) r.q.ts [⟨t.var,1⟩];have hr4:=h4 r (aaH hr);simp only[bz,aaR,aa']at this⊢;omega
  ·rintro v H' ⟨rfl,s',rfl,jg⟩;exact⟨rfl,s',rfl,rfl,jg⟩
 refine CG.is [(0,.ptr 0 4 0),(1,no i),(4,.ptr 4 2 0),(5,i0),(6,.ptr 1 (List.length s.rows*5) (i*5)),(8,.ptr 5 2 0),(12,.ptr 7 2 0),(13,.ptr 16 2 0),(14,no (i+1))] ([some (.cells [.sl 1 (List.length s.rows*5) 0 s.rows.length 5,.sl 2 (List.length s.binds*7) 0 s.binds.length 7,.sl 3 (List.length s.defs*7) 0 s.defs.length 7,io s.next]),some (ah Rw.aa s.rows),some (ah Bd.aa s.binds),some (ah Bd.aa s.defs),some (.cells [.ad,i0]),some (.cells r.q.ce),none,some (.cells [so t.var,io t.c])]++nn 8 ([some (.cells [io (ae.c (bz r t)),lo Cf.aa (ae.ts (bz r t))]),none])) k_ ?_;refine CG.bp (s.rows.drop (i+1)) (fun j m=>[(0,.ptr 0 4 0),(1,no i),(4,.ptr 4 2 0),(5,i0),(6,.ptr 1 (m.length*5) (i*5)),(8,.ptr 5 2 0),(12,.ptr 7 2 0),(13,.ptr 16 2 0),(14,.d (.int .i64 (.ofNat (i+1+j))))]) (fun j m=>[some (.cells [.sl 1 (m.length*5) 0 m.length 5,.sl 2 (s.binds.length*7) 0 s.binds.length 7,.sl 3 (s.defs.length*7) 0 s.defs.length 7,io s.next]),some (ah Rw.aa m),some (ah Bd.aa s.binds),some (ah Bd.aa s.defs),some (.cells [.ad,i0]),some (.cells r.q.ce),none,some (.cells [so t.var,io t.c])]++nn 8 ([some (.cells [io (ae.c (bz r t)),lo Cf.aa (ae.ts (bz r t))]),none])) (fun j m q=>(m.length=s.rows.length/\∀k,m[k]? =if i<k/\k<i+1+j then(s.rows[k]? ).map (wo r t)else s.rows[k]? )) (s.rows) ?_ (an.refl _ _) ?_ ?_
 ·exact⟨rfl,fun k=>by rw[aaF (by omega)]⟩
 ·rintro j m hj dp ⟨g1,g2⟩;rw[abm]at hj;have Zs:i+1+j=m.length:=by omega
  rw[Zs];refine s1 hW 2 5 [] 479 [(148,no m.length),(152,.sl 1 (List.length m*5) 0 m.length 5)] ?_;rotate_left;refine CG.tT Rw.aa m (sz:=5) (b:=1) (fun _=>rfl) rfl rfl k_ k_ rfl ?_;refine dk hW 2 0 [] 255 [(154,bo (ax (Int.ofNat m.length) (Int.ofNat m.length)))] (jx m.length m.length) ?_;refine CG.aS (by decide) ?_;refine s1 hW 3 6 [] 13 [(191,.agg [.ad,i0]),(192,.ptr 0 4 0),(194,so t.var),(195,.agg [io (ae.c (bz r t)),lo Cf.aa (ae.ts (bz r t))]),(196,no i)] ?_;rotate_left;refine CG.Mo (H:=hS ⟨m,s.binds,s.defs,s.next⟩++_) (x5 _ (s:=⟨m,s.binds,s.defs,s.next⟩) (hP m g1 (by rw[←hj];exact g2)) rfl rfl) rfl k_ k_ k_ ?_;rintro v H' ⟨s',rfl,rfl,hR⟩;have hm:m=dB s i r t:=by
   apply ac0;intro k;rw[g2,dB,List.getElem?_mapIdx];by_cases hc:i<k
   ·by_cases hk:k<s.rows.length
    ·rw[aaK (by omega)];simp only[aaK hc]
    ·rw[ac5 (by omega)];simp
   ·rw[aaF (by omega)];simp only[aaF hc];simp
  rw[←hm];refine s1 hW 2 0 [] 3 [(5,io (iD (fy.mk m s.binds s.defs s.next) t.var (bz r t) i))] ?_;refine CG.ls (.tuple [.agg [.ad,i0],io (iD (fy.mk m s.binds s.defs s.next) t.var (bz r t) i)]) ?_;rotate_left;exact⟨⟨1,[(0,.tuple [.agg [.ad,i0],io (iD ⟨m,s.binds,s.defs,s.next⟩ t.var (bz r t) i)])],hS s'⟩,an.trim 4 [0] rfl rfl rfl rfl (by simp[aB,aD,aw,av,au]),rfl,s',rfl,hR⟩
 ·rintro j m b q dp eo b8 ⟨g1,g2⟩;rw[abm]at b8;have OW:s.rows[i+1+j]? =some b:=by rw[←eo,acx]
  have KA:m[i+1+j]? =some b:=by rw[g2,aaF (by omega),OW]
  have hmr:m[i]? =some r:=by rw[g2,aaF (by omega),hr]
  have zP:=h4 b (aaH OW);have Zv:=EL hW b.q.c b.q.ts t.var (by omega);have hL:=LM hW b r (IntKind.i64.wrap (dH b.q.ts t.var*t.c)) (by omega) (by intro h;rw[abZ]at h;obtain⟨a1,a2⟩:=hn b (aaH OW) h.1;obtain⟨a3,a4⟩:=hn r (aaH hr) h.2;exact⟨by omega,a2,a4⟩);refine s1 hW 2 5 [] 511 [(148,no (i+1+j)),(152,.sl 1 (List.length m*5) 0 m.length 5)] ?_;rotate_left;refine CG.tT Rw.aa m (sz:=5) (b:=1) (fun _=>rfl) rfl rfl k_ k_ rfl ?_;refine cP hW 2 0 [] 511 [(154,bo (ax (Int.ofNat (i+1+j)) (Int.ofNat m.length)))] (gi (i+1+j) m.length) ?_;refine s1 hW 5 0 [] 511 [] ?_;refine CG.tD ([some (.cells [.sl 1 (List.length m*5) 0 m.length 5,.sl 2 (List.length s.binds*7) 0 s.binds.length 7,.sl 3 (List.length s.defs*7) 0 s.defs.length 7,io s.next]),some (ah Rw.aa m),some (ah Bd.aa s.binds),some (ah Bd.aa s.defs),some (.cells [.ad,i0]),some (.cells r.q.ce),none,some (.cells [so t.var,io t.c])]++nn 8 ([some (.cells [io (ae.c (bz r t)),lo Cf.aa (ae.ts (bz r t))]),none])) k_ ?_;refine CG.eF aV k_ (by simp[nn,aB,aw,bj,aD,bx,av,au]) ?_;refine AO.rd 5 [(157,.ptr 0 4 0),(158,.ptr 0 4 0),(159,.ptr 0 4 0),(160,.sl 1 (List.length m*5) 0 m.length 5),(161,no (i+1+j))] k_ ?_;rotate_left;refine AO.qV Rw.aa m 1 (i+1+j) (len:=m.length) (sz:=5) (fun _=>rfl) (by omega) rfl k_ ?_;refine AO.rd 1 [(163,.ptr 1 (List.length m*5) ((i+1+j)*5+0))] k_ ?_;rotate_left;refine AO.tF Rw.aa m (i+1+j) 0 (sz:=5) (b:=1) (off:=(i+1+j)*5+0) (v:=vL b.q) (fun _=>rfl) KA rfl k_ rfl rfl ?_;by_cases hz:dH b.q.ts t.var=0
  ·rw[hz]at Zv;refine AO.rd 2 [(165,.ptr 7 2 0),(166,so t.var)] k_ ?_;refine AO.mN Zv rfl k_ k_ ?_;refine AO.rd 1 [(15,i0)] k_ ?_;refine AO.done [0,1,4,5,6,8,12,13,14,15] rfl rfl k_ ?_;refine cG hW 8 3 [false] [(0,.ptr 0 4 0),(1,no i),(4,.ptr 4 2 0),(5,i0),(6,.ptr 1 (List.length m*5) (i*5)),(8,.ptr 5 2 0),(12,.ptr 7 2 0),(13,.ptr 16 2 0),(14,io (aq IntKind.i64 (aJ (Int.ofNat (i+1+j)) 1)))] ([some (.cells [.sl 1 (List.length m*5) 0 m.length 5,.sl 2 (List.length s.binds*7) 0 s.binds.length 7,.sl 3 (List.length s.defs*7) 0 s.defs.length 7,io s.next]),some (ah Rw.aa m),some (ah Bd.aa s.binds),some (ah Bd.aa s.defs),some (.cells [.ad,i0]),some (.cells r.q.ce),none,some (.cells [so t.var,io t.c])]++nn 8 ([some (.cells [io (ae.c (bz r t)),lo Cf.aa (ae.ts (bz r t))]),none])) ?_;rw[aP (by omega)];rotate_left;refine⟨m,⟨g1,?_⟩,an.refl _ _⟩;have:=BO g1 g2 OW;have VW:m.set (i+1+j) b=m:=by
    apply ac0;intro k;by_cases hk:i+1+j=k
    ·rw[←hk,aa9 (by omega),KA]
    ·rw[acp hk]
   rwa[show wo r t b=b from aaK hz,VW]at this
  ·refine AO.rd 2 [(165,.ptr 7 2 0),(166,so t.var)] k_ ?_;refine AO.mN Zv rfl k_ k_ ?_;refine AO.rd 1 [(15,io (dH b.q.ts t.var))] k_ ?_;refine AO.done [0,1,4,5,6,8,12,13,14,15] rfl rfl k_ ?_;refine s1 hW 4 0 [] 1023 [(169,bo (!aQ (dH b.q.ts t.var) 0))] ?_;have Ci:(aQ (dH b.q.ts t.var) 0)=false:=qi;refine CG.aM (b:=(!aQ (dH b.q.ts t.var) 0)) (by rw[Ci];rfl) k_ ?_;refine CG.c_ aV k_ ?_;refine AW.rk 10 [(170,.ptr 0 4 0),(171,.ptr 0 4 0),(172,.ptr 0 4 0),(173,.sl 1 (List.length m*5) 0 m.length 5),(174,no (i+1+j)),(175,.ptr 0 4 0),(176,.ptr 0 4 0),(177,.ptr 0 4 0),(178,.sl 1 (List.length m*5) 0 m.length 5),(179,no (i+1+j))] [] k_ ?_;rotate_left;refine AW.qV Rw.aa m 1 (i+1+j) (len:=m.length) (sz:=5) (fun _=>rfl) (by omega) rfl k_ ?_;rotate_left;refine AW.tF Rw.aa m (i+1+j) 0 (sz:=5) (b:=1) (off:=(i+1+j)*5) (v:=vR b) (fun _=>rfl) KA rfl k_ rfl rfl ?_;refine AW.rk 2 [(182,.ptr 1 (List.length m*5) (i*5)),(183,.ptr 1 (List.length m*5) (i*5))] [] k_ ?_;rotate_left;refine AW.tF Rw.aa m i 0 (sz:=5) (b:=1) (off:=i*5) (v:=vR r) (fun _=>rfl) hmr rfl k_ rfl rfl ?_;refine AW.rk 4 [(185,io (dH b.q.ts t.var)),(186,.ptr 7 2 1),(187,io t.c),(188,io (IntKind.wrap IntKind.i64 (dH b.q.ts t.var*Cf.c t)))] [] k_ ?_;refine AW.mN hL rfl k_ k_ ?_;rotate_left;refine AW.qV Rw.aa m 1 (i+1+j) (len:=m.length) (sz:=5) (fun _=>rfl) (by omega) rfl k_ ?_;rotate_left;refine AW.PM Rw.aa m (i+1+j) (z:=ig b r (IntKind.i64.wrap (dH b.q.ts t.var*t.c))) (sz:=5) (b:=1) (off:=(i+1+j)*5) (fun _=>rfl) KA rfl k_ rfl ?_;refine AW.nil rfl ⟨k_,AW.fin (H2:=[some (.cells [.sl 1 (List.length m*5) 0 m.length 5,.sl 2 (List.length s.binds*7) 0 s.binds.length 7,.sl 3 (List.length s.defs*7) 0 s.defs.length 7,io s.next]),some (ah Rw.aa (List.set m (i+1+j) (ig b r (IntKind.wrap IntKind.i64 (dH b.q.ts t.var*Cf.c t))))),some (ah Bd.aa s.binds),some (ah Bd.aa s.defs),some (.cells [.ad,i0]),some (.cells r.q.ce),none,some (.cells [so t.var,io t.c])]++nn 8 ([some (.cells [io (ae.c (bz r t)),lo Cf.aa (ae.ts (bz r t))]),none])) 18 [0,1,4,5,6,8,12,13,14] k_ rfl k_ k_ (by simp[nn,aB,aw,bj,aD,bx,av,au]) ?_⟩;refine cG hW 2 3 [] [(0,.ptr 0 4 0),(1,no i),(4,.ptr 4 2 0),(5,i0),(6,.ptr 1 (List.length m*5) (i*5)),(8,.ptr 5 2 0),(12,.ptr 7 2 0),(13,.ptr 16 2 0),(14,io (aq IntKind.i64 (aJ (Int.ofNat (i+1+j)) 1)))] ([some (.cells [.sl 1 (List.length m*5) 0 m.length 5,.sl 2 (List.length s.binds*7) 0 s.binds.length 7,.sl 3 (List.length s.defs*7) 0 s.defs.length 7,io s.next]),some (ah Rw.aa (List.set m (i+1+j) (ig b r (IntKind.wrap IntKind.i64 (dH b.q.ts t.var*Cf.c t))))),some (ah Bd.aa s.binds),some (ah Bd.aa s.defs),some (.cells [.ad,i0]),some (.cells r.q.ce),none,some (.cells [so t.var,io t.c])]++nn 8 ([some (.cells [io (ae.c (bz r t)),lo Cf.aa (ae.ts (bz r t))]),none])) ?_;rw[aP (by omega)];rotate_left;refine⟨m.set (i+1+j) (ig b r (IntKind.i64.wrap (dH b.q.ts t.var*t.c))),⟨by rw[abg];exact g1,?_ ⟩,?_⟩
   ·have:=BO g1 g2 OW;rwa[show wo r t b=ig b r (IntKind.i64.wrap (dH b.q.ts t.var*t.c))from aaF hz]at this
   ·rw[abg];exact an.refl _ _
def stepT(t:Cf):List Cf->List Cf×List Cf->List Cf×List Cf|[],p=>p|u::l,p=>stepT t l (if Fw.ai u.var t.var=true then p else(dS p.1 u.var (-(b7 u.c t.c).1),dS p.2 u.var (b7 u.c t.c).1))
def ER(s:fy):List UInt8:=[95]++dL s.next.toNat
def jz(s:fy)(r:Rw)(t:Cf):ae:=⟨aq .i64 (0 - (b7 r.q.c t.c).1),(stepT t r.q.ts ([⟨ER s,1⟩],[⟨t.var,1⟩])).1⟩
def Je(s:fy)(r:Rw)(t:Cf):ae:=⟨aq .i64 (aJ 0 (b7 r.q.c t.c).1),(stepT t r.q.ts ([⟨ER s,1⟩],[⟨t.var,1⟩])).2⟩
def iF(s:fy)(r:Rw)(t:Cf):fy:=⟨s.rows,s.binds,s.defs++[bC (ER s) (Je s r t)],s.next+1⟩
def wv(s:fy)(i:Nat)(r:Rw)(t:Cf):Int:=if t.c=1\/t.c= -1 then iD ⟨dB s i r t,s.binds,s.defs,s.next⟩ t.var (bz r t) i else if 1000000000<=s.next+1 then 3 else iD (iF s r t) t.var (jz s r t) i
def wx(s:fy)(i:Nat)(r:Rw)(t:Cf):fy:=if t.c=1\/t.c= -1 then iE ⟨dB s i r t,s.binds,s.defs,s.next⟩ t.var (bz r t) i else iE (iF s r t) t.var (jz s r t) i
theorem LY{a b:Int}(ha: -1000000<=a/\a<=1000000)(hb: -1000000<=b/\b<=1000000)(h0:b≠0):(b7 a b).1.natAbs<=1000001:=by
 have hq:(a.tdiv b).natAbs<=a.natAbs:=by rw[Int.natAbs_tdiv];exact Nat.div_le_self _ _
 unfold b7;rw[aaK ⟨I3 (by omega),I3 (by omega)⟩,aaF h0];dsimp only;unfold OS;generalize a.tdiv b=q at*;have h1:IntKind.i64.wrap q=q:=by rw[IntKind.wrap_i64];omega
 have h2:IntKind.i64.wrap (q - 1)=q - 1:=by rw[IntKind.wrap_i64];omega
 rw[h1,h2];split<;>omega
theorem UK{k:Int}(h:k.natAbs<=1000001):IntKind.i64.wrap (0 - k)= -k:=by rw[IntKind.wrap_i64];omega
end Fw.Tz.Sz
/-
  One step of the solving keeps what is known of the system.
-/
namespace Fw.Tz.Tf
open Go Fw.Tz Fw.Nu Fw.Tz.Na Fw.Tz.El Fw.Tz.Va Fw.Tz.Vb Fw.Tz.Su Fw.Tz.Yd Fw.Tz.Ya Fw.Tz.Yc Fw.Tz.Im Fw.Tz.So Fw.Tz.Sp Fw.Tz.Sq Fw.Tz.Sy Fw.Tz.Ta Fw.Tz.Tb Fw.Tz.Sz
structure qf (q0:List ae) (s:fy) (i:Nat):Prop where
 core:BE q0 s i
 nx:1<=s.next/\s.next<1000000000
 bl:(s.binds.length:Int)<=s.next+i+1
 bl2:(∀r:Rw,s.rows[i]? =some r->r.q≠gq)->(s.binds.length:Int)<=s.next+i
 dl:(s.defs.length:Int)<=s.next
def zq(s:fy)(i:Nat):Nat:=match s.rows[i]? with
 |some r=>if eg r.q=true then 0 else 1
 |none=>0
def mu(s:fy)(i:Nat):Nat:=2*(1000000000 - s.next).toNat+zq s i
theorem lh(x:ae):eg x=true↔x=gq:=by obtain⟨c,ts⟩:=x;simp_all[eg,aaD,aaL,List.isEmpty_iff,gq,ae.mk.injEq]
theorem UL(s:fy)(i:Nat):zq s i<=1:=by unfold zq;grind
theorem Jf{q0:List ae}{s:fy}{i:Nat}(h:qf q0 s i)(hi:i<=6000):pw s:=by
 have hl:=h.core.len;have hf:=h.core.LR;have h1:=h.nx;have h2:=h.bl;have h3:=h.dl;refine⟨by omega,by omega,by omega,fun r hr=>?_,fun b hb=>?_ ⟩
 ·obtain⟨k1,k2,-⟩:=h.core.Dq r hr;exact⟨(cS (c:=r.q.c) (ts:=r.q.ts) k1).2.1,by omega⟩
 ·obtain⟨-,-,k3,-⟩:=h.core.MR b hb;exact(cS (c:=b.bf.c) (ts:=b.bf.ts) k3).2.1
theorem x6(g:Gt)(l:List Bd)(h:(ij g l).2=0):(ij g l).1.length=l.length:=by rw[(oi g l h).1,aaQ]
theorem LZ{x:ae}(h:ay x≠0):∃t0,x.ts[0]? =some t0:=by
 cases hx:x.ts with
  |nil=>exfalso;unfold ay at h;rw[hx]at h;split at h<;>exact h rfl
  |cons t r=>simp_all
theorem Jg{q0:List ae}{s:fy}{i:Nat}{r:Rw}{t0:Cf}(hI:qf q0 s i)(hr:s.rows[i]? =some r)(hz:r.q≠gq)(hg:ay r.q≠0)(hc:r.q.c.tmod (ay r.q)=0)(h0:(mH r).q.ts[0]? =some t0)(he:wv ⟨s.rows.set i (mH r),s.binds,s.defs,s.next⟩ i (mH r) (ck t0 ((mH r).q.ts.drop 1))=0):qf q0 (wx ⟨s.rows.set i (mH r),s.binds,s.defs,s.next⟩ i (mH r) (ck t0 ((mH r).q.ts.drop 1))) i/\mu (wx ⟨s.rows.set i (mH r),s.binds,s.defs,s.next⟩ i (mH r) (ck t0 ((mH r).q.ts.drop 1))) i<mu s i:=by
 have hi:=(aaO.1 hr).1;have hC:=BJ hI.core hr hg hc;have J7:=hI.bl2 (fun r' jH=>by grind);have Wq:=hI.nx;have JP:=hI.dl;have Ah:=(Ds (hI.core.Dq r (aaH hr)).1 hg hc).1;have hzq:zq s i=1:=by unfold zq;rw[hr];dsimp only;rw[aaF (fun h=>hz ((lh _).1 h))]
 have hmu:mu s i=2*(1000000000 - s.next).toNat+1:=by unfold mu;rw[hzq]
 have uf:ck t0 ((mH r).q.ts.drop 1)∈(mH r).q.ts:=by have:=qe ((mH r).q.ts.drop 1) t0;grind
 have GH:(s.rows.set i (mH r))[i]? =some (mH r):=aa9 hi;generalize mH r=r1 at*;generalize ck t0 (r1.q.ts.drop 1)=t at*;have O1:=((cS (c:=r1.q.c) (ts:=r1.q.ts) Ah).2.2 t uf).2;generalize Vr:(⟨s.rows.set i r1,s.binds,s.defs,s.next⟩:fy)=s1 at*;have e1:s1.binds=s.binds:=by grind
 have e2:s1.next=s.next:=by grind
 have e3:s1.defs=s.defs:=by grind
 have e4:s1.rows[i]? =some r1:=by grind
 unfold wv at he;unfold wx;by_cases hu:t.c=1\/t.c= -1
 ·rw[aaK hu]at he;rw[aaK hu];have Zw:=BG (Jb (t:=t) hC e4) O1 he;have tS:=sZ he;have pF:=BF he i;have MT:(dB s1 i r1 t)[i]? =some r1:=by grind[dB]
  rw[aaF (by omega)]at pF;dsimp only at pF;rw[MT]at pF;have Xg:=wk he (aaP i) MT;have hz0:=Gn Ah uf hu Xg;rw[aaU,hz0]at pF;have Cc:(iE ⟨dB s1 i r1 t,s1.binds,s1.defs,s1.next⟩ t.var (bz r1 t) i).binds.length=s.binds.length+1:=by unfold iE;dsimp only;rw[aaZ,x6 _ _ tS.2.1,e1,abj]
  have O2:(iE ⟨dB s1 i r1 t,s1.binds,s1.defs,s1.next⟩ t.var (bz r1 t) i).next=s.next:=e2
  have hdf:(iE ⟨dB s1 i r1 t,s1.binds,s1.defs,s1.next⟩ t.var (bz r1 t) i).defs=s.defs:=e3;generalize iE ⟨dB s1 i r1 t,s1.binds,s1.defs,s1.next⟩ t.var (bz r1 t) i=s2 at*;refine⟨⟨Zw,by grind,by grind,fun h=>absurd rfl (h _ pF),by grind⟩,?_⟩;rw[hmu];unfold mu zq;rw[pF,O2];dsimp only;rw[aaK ((lh _).2 rfl)];omega
 ·rw[aaF hu]at he;rw[aaF hu];by_cases J4:1000000000<=s1.next+1
  ·grind
  ·rw[aaF J4]at he;have hCf:BE q0 (iF s1 r1 t) i:=⟨hC.len,hC.LR,hC.Dq,hC.MR,hC.rel,hC.OZ⟩;have Zw:=BG hCf O1 he;have tS:=sZ he;have Cc:(iE (iF s1 r1 t) t.var (jz s1 r1 t) i).binds.length=s.binds.length+1:=by unfold iE;dsimp only;rw[aaZ,x6 _ _ tS.2.1,abj];show s1.binds.length+1=_;rw[e1]
   have O2:(iE (iF s1 r1 t) t.var (jz s1 r1 t) i).next=s.next+1:=by show s1.next+1=_;rw[e2]
   have hdf:(iE (iF s1 r1 t) t.var (jz s1 r1 t) i).defs.length=s.defs.length+1:=by show(s1.defs++[_]).length=_;grind
   generalize iE (iF s1 r1 t) t.var (jz s1 r1 t) i=s2 at*;rw[e2]at J4;refine⟨⟨Zw,by grind,by grind,fun h=>by grind,by grind⟩,?_⟩;rw[hmu];unfold mu;rw[O2];have:=UL s2 i;omega
end Fw.Tz.Tf
/-
  The solving: places of equations, rows at the beginning, binds at the end.
-/
namespace Fw.Tz.Tg
open Go Fw.Tz Fw.Nu Fw.Tz.Na Fw.Tz.El Fw.Tz.Va Fw.Tz.Vb Fw.Tz.Su Fw.Tz.Yd Fw.Tz.Ya Fw.Tz.Yc Fw.Tz.Im Fw.Tz.So Fw.Tz.Sp Fw.Tz.Sq Fw.Tz.Sy Fw.Tz.Ta Fw.Tz.Tb Fw.Tz.Tf
variable {l:List ae}
def Gp:Nat->List ae->List Nat|_,[]=>[]|i,x::r=>if eg x=true then Gp (i+1) r else i::Gp (i+1) r
def fQ(l:List ae):List Nat:=Gp 0 l
theorem zo:∀(l:List ae)(i:Nat),∀p∈Gp i l,i<=p/\p<i+l.length
 |[],i,p,h=>by cases h
 |x::r,i,p,h=>by rw[Gp]at h;have ih:=zo r (i+1);grind
theorem zp:∀(l:List ae)(i:Nat),(Gp i l).length<=l.length|[],i=>aaP _|x::r,i=>by have ih:=zp r (i+1);grind[Gp,List.length_cons]
theorem Jh:∀(l:List ae)(i k:Nat)(x:ae),l[k]? =some x->x≠gq->i+k∈Gp i l
 |y::r,i,0,x,h,hx=>by simp only[ab0,aaC]at h;subst h;rw[Gp,aaF (fun h=>hx ((lh _).1 h))];simp
 |y::r,i,k+1,x,h,hx=>by rw[ace]at h;have ih:=Jh r (i+1) k x h hx;grind[Gp]
def O3(l:List ae)(p:Nat):ae:=(l[p]? ).getD gq
def zr(l:List ae)(n:Nat):Nat->List Nat->List Rw|_,[]=>[]|j,p::r=>⟨O3 l p,(List.replicate n (0:Int)).set j 1,1,false⟩::zr l n (j+1) r
def sW(l:List ae):List Rw:=zr l (fQ l).length 0 (fQ l)
def Dt(l:List ae):List ae:=(fQ l).map (O3 l)
theorem Ji(l:List ae)(n:Nat):∀(ps:List Nat)(j:Nat),(zr l n j ps).map (·.q)=ps.map (O3 l)|[],_=>rfl|p::r,j=>by rw[zr,aaV,aaV,Ji l n r]
theorem ES(l:List ae)(n:Nat):∀(ps:List Nat)(j:Nat),∀x∈zr l n j ps,x.ms.length=n/\x.sc=1/\x.q∈ps.map (O3 l)
 |[],_,x,h=>by cases h
 |p::r,j,x,h=>by
  rw[zr]at h;rcases aa7.1 h with rfl|h
  ·grind
  ·obtain⟨h1,h2,h3⟩:=ES l n r _ x h;grind
theorem Zx{next:Int}(hl:l.length<=6000)(hv:∀x∈l,x.ok=true)(hn:1<=next/\next<1000000000):qf (Dt l) ⟨sW l,[],[],next⟩ 0:=by
 have hq:=Ji l (fQ l).length (fQ l) 0;have hlen:(sW l).length=(Dt l).length:=by have:=aba List.length hq;rw[aaQ,aaQ]at this;rw[Dt,aaQ];exact this
 refine⟨⟨hlen,by rw[Dt,aaQ];exact abl (zp l 0) hl,?_,by simp,?_,by omega⟩,hn,by grind,fun _=>by grind,by grind⟩
 ·intro r hr;obtain⟨h1,h2,h3⟩:=ES l _ _ _ r hr;obtain⟨p,hp,H5⟩:=aa_.1 h3;have b8:=zo l 0 p hp;grind[Dt,List.length_map,O3]
 ·intro k q r hk hr;refine⟨1,fun σ=>?_ ⟩;have h1:(sW l)[k]? =some r:=hr;have:q=r.q:=by
   have h2:((sW l).map (·.q))[k]? =some r.q:=by grind
   have h3:(sW l).map (·.q)=Dt l:=hq;grind
  rw[this,Int.one_mul];rfl
theorem Jj{q0:List ae}{s:fy}{i:Nat}{r:Rw}(h:qf q0 s i)(hr:s.rows[i]? =some r)(hz:r.q=gq):qf q0 s (i+1):=by
 have hb:=h.bl;refine⟨⟨h.core.len,h.core.LR,h.core.Dq,h.core.MR,h.core.rel,fun k r' hk jH=>?_ ⟩,h.nx,by omega,fun _=>by omega,h.dl⟩;by_cases uM:k=i
 ·grind
 ·exact h.core.OZ k r' (by omega) jH
theorem L1{s:fy}(h:qf (Dt l) s (fQ l).length):∀σ,∀x∈l,ev (comp σ (aH s.binds)) x=0:=by
 intro σ x hx;by_cases hz:x=gq
 ·rw[hz,rF]
 ·obtain⟨p,hp⟩:=ab_ hx;have z_:=Jh l 0 p x hp hz;rw[aaY]at z_;obtain⟨k,hk⟩:=ab_ z_;have Pu:=(aaO.1 hk).1;have hq:(Dt l)[k]? =some x:=by rw[Dt,abz];have lC:(fQ l)[k]? =some p:=hk;grind[O3]
  have hlen:=h.core.len;rw[Dt,aaQ]at hlen;have Zy:k<(fQ l).length:=Pu;obtain⟨r,hr⟩:∃r,s.rows[k]? =some r:=⟨_,aaI (by omega)⟩;obtain⟨m,hm⟩:=h.core.rel k x r hq hr;rw[hm,h.core.OZ k r Zy hr,rF,Int.mul_zero]
theorem BP:∀{px:List (List UInt8)},px.Nodup->∀l:List Bd,(mP px l).length<=l.length
 |[],_,l=>aby _
 |n::r,h,l=>by
  have hn:=acB.1 h;have h1:mP r l=mP r (l.filter fun b=> !Fw.ai b.var n):=by
   unfold mP;refine aba List.flatten ?_;refine acS fun m hm=>?_
   rw[List.filter_filter];grind[aO]
  have h2:=BP hn.2 (l.filter fun b=> !Fw.ai b.var n);have h3:(l.filter fun b=>Fw.ai b.var n).length+(l.filter fun b=> !Fw.ai b.var n).length=l.length:=by clear h1 h2;induction l<;>grind
  show((l.filter fun b=>Fw.ai b.var n)++mP r l).length<=_;grind
theorem BQ(l:List ae):(bD l).Nodup:=by
 obtain⟨e,h1,h2,-⟩:=zm l (es:=[]) (by simp[pU]) (by simp[Nz]);have h4:Gh l=nJ e:=h1;rw[bD,h4];have:(nJ e).map Cf.var=e.map (·.1):=by rw[nJ,adl];rfl
 rw[this];exact l_ h2
theorem BR(s:List UInt8)(k:Int):∀(l:List Cf)(p:Bool),∀t∈jQ s k p l,t.var=s\/∃u∈l,t.var=u.var
 |[],p,t,h=>by grind[jQ]
 |x::r,p,t,h=>by have ih:=BR s k r;rw[jQ]at h;grind
theorem Gq(ts:List Cf):∀(a:List Cf),(ic a ts).length<=a.length+ts.length/\∀t∈ic a ts,(∃u∈a,t.var=u.var)\/∃u∈ts,t.var=u.var:=by
 induction ts with
  |nil=>exact fun a=>⟨aaP _,fun t ht=>.inl ⟨t,ht,rfl⟩⟩
  |cons x r ih=>
   intro a;have h0:(qb a x.var).length<=a.length+1/\∀t∈qb a x.var,t.var=x.var\/∃u∈a,t.var=u.var:=by
    unfold qb;split
    ·exact⟨fP _ _ _,fun t ht=>BR _ _ _ _ t (abi.1 ht).1⟩
    grind
   have h1:=ih (qb a x.var);have e:ic a (x::r)=ic (qb a x.var) r:=rfl;grind
theorem wy:∀(l:List ae)(a:List Cf),(∀t∈l.foldl (fun a x=>ic a x.ts) a,(∃u∈a,t.var=u.var)\/∃x∈l,∃u∈x.ts,t.var=u.var)/\((∀x∈l,x.ts.length<=12)->(l.foldl (fun a x=>ic a x.ts) a).length<=a.length+12*l.length)
 |[],a=>⟨fun t ht=>.inl ⟨t,ht,rfl⟩,fun _=>aaP _⟩
 |x::l,a=>by obtain⟨h1,h2⟩:=wy l (ic a x.ts);obtain⟨k1,k2⟩:=Gq x.ts a;grind
theorem Jk{s:List UInt8}(h:s∈bD l):∃x,x∈l/\∃u,u∈x.ts/\u.var=s:=by obtain⟨t,ht,rfl⟩:=aa_.1 h;rcases(wy l []).1 t ht with⟨u,hu,_⟩|⟨x,hx,u,hu,e⟩;all_goals grind
theorem Gr(h:∀x∈l,x.ts.length<=12):(bD l).length<=12*l.length:=by rw[bD,aaQ,Gh];have:=(wy l []).2 h;grind
end Fw.Tz.Tg
/-
  Equations of types: what unifying comes to, and what its binds do.
-/
namespace Fw.Tz.Tc
open Go Fw.Tz Fw.Nu Fw.Tz.Na Fw.Tz.El Fw.Tz.Va Fw.Tz.Vb Fw.Tz.Su Fw.Tz.Yd Fw.Tz.Ya Fw.Tz.Yc Fw.Tz.Sr Fw.Tz.Ta Fw.Tz.Tb
variable {l F:List Bd}{row v s:List UInt8}{b:Bd}{g:Gt}{ab:List ae}{t:Ty}{k:Int}
def dM(b x:Bd):Bd×Int:=if x.kind=2 then(⟨x.kind,x.var,x.bf,(dR (aH [b]) (dV [b]) x.row x.ab).1.1,(dR (aH [b]) (dV [b]) x.row x.ab).1.2,x.elem⟩,(dR (aH [b]) (dV [b]) x.row x.ab).2)else(if b.kind=3/\x.elem=b.var then⟨x.kind,x.var,x.bf,x.row,x.ab,b.elem⟩else x,0)
def py(b:Bd):List Bd->List Bd->List Bd×Int|acc,[]=>(acc++[b],0)|acc,x::r=>if(dM b x).2=0 then py b (acc++[(dM b x).1]) r else([],(dM b x).2)
def bd(l:List Bd)(b:Bd):List Bd×Int:=py b [] l
def eW(v e:List UInt8):Bd:=⟨3,v,gq,[],[],e⟩
def bG(v r:List UInt8)(d:List ae):Bd:=⟨2,v,gq,r,d,[]⟩
def d_(a b:List UInt8)(l:List Bd):List Bd×Int:=if a=b then(l,0)else if cH a=true/\(cH b=false\/b<a)then bd l (eW a b)else if cH b=true then bd l (eW b a)else([],12)
def dO(ra:List UInt8)(da:List ae)(rb:List UInt8)(db:List ae)(l:List Bd):List Bd×Int:=if da.length=db.length then(if ra=rb then(l,0)else if rb<ra then bd l (bG ra rb [])else bd l (bG rb ra []))else if db.length<da.length then(if rb=[]\/ra=rb then(l,13)else bd l (bG rb ra (da.take (da.length - db.length))))else(if ra=[]\/ra=rb then(l,13)else bd l (bG ra rb (db.take (db.length - da.length))))
def bQ(da db:List ae):List (ae×ae):=da.reverse.zip db.reverse
def jA:List (Ty×Ty)->List Bd->List (ae×ae)->(List Bd×List (ae×ae))×Int
 |[],B,D=>((B,D),0)
 |p::r,B,D=>
  if(cI (aH B) (dV B) p.1).2≠0 then(([],[]),(cI (aH B) (dV B) p.1).2)
  else if(cI (aH B) (dV B) p.2).2≠0 then(([],[]),(cI (aH B) (dV B) p.2).2)
  else
   let a:=(cI (aH B) (dV B) p.1).1;let b:=(cI (aH B) (dV B) p.2).1;let e:=d_ a.elem b.elem B;if e.2≠0 then(([],[]),e.2)
   else let s:=dO a.row a.ab b.row b.ab e.1;if s.2≠0 then(([],[]),s.2)else jA r s.1 (D++bQ a.ab b.ab)
def dA:List (ae×ae)->List ae->List ae×Int|[],acc=>(acc,0)|p::r,acc=>if(sV p.1 p.2).2=0 then dA r (acc++[(sV p.1 p.2).1])else([],(sV p.1 p.2).2)
def O4(x b:Bd):Bool:=decide (x.kind<b.kind)||(decide (x.kind=b.kind)&&Fw.bytesLess x.var b.var)
def fI(b:Bd):List Bd->List Bd|[]=>[b]|x::r=>if O4 x b=true then x::fI b r else b::x::r
def tM:List Bd->List Bd->List Bd|out,[]=>out|out,b::r=>tM (fI b out) r
def kq(l:List Bd):List Bd:=tM [] l
theorem s9(b:Bd):∀l:List Bd,(fI b l).Perm (b::l)
 |[]=>.refl _
 |x::r=>by
  rw[fI];split
  ·exact((s9 b r).cons x).trans (.swap .. )
  simp_all
theorem wz:∀(l out:List Bd),(tM out l).Perm (out++l)
 |[],out=>by rw[tM,acV]
 |b::r,out=>by rw[tM];refine(wz r _).trans (((s9 b out).append_right r).trans ?_ );rw[abD];exact List.perm_middle.symm
theorem mn(l:List Bd):(kq l).Perm l:=wz l []
def cX(τ:Vl)(ds:List ae):List Int:=ds.map (ev τ)
def Eg(g:Gt)(e:List UInt8):List UInt8:=match g 3 e with
 |none=>e
 |some b=>b.elem
def Rg(g:Gt)(r:List UInt8):List UInt8×List ae:=match(if r=[]then none else g 2 r)with
 |none=>(r,[])
 |some b=>(b.row,b.ab)
def BS(g:Gt)(τ:Vl)(t:Ty):List UInt8×List UInt8×List Int:=(Eg g t.elem,(Rg g t.row).1,cX τ (Rg g t.row).2++cX τ t.ab)
theorem ET{g:Gt}:∀(l acc:List ae),(sI g acc l).2=0->(sI g acc l).1=acc++l.map (fun x=>(aL g x).1)/\∀x∈l,(aL g x).2=0
 |[],acc,_=>⟨by simp[sI],by simp⟩
 |x::l,acc,h=>by
  rw[sI]at h⊢;split at h
  ·rename_i h1;rw[aaK h1];have ih:=ET l _ h;grind
  grind
theorem nN{l:List ae}(h:∀x∈l,(aL g x).2=0)(τ:Vl):cX τ (l.map fun x=>(aL g x).1)=cX (comp τ g) l:=by unfold cX;rw[adl];exact acS fun x hx=>rE (h x hx) τ
theorem BT{a b:List ae}(h:(ru row a b).2=0):(ru row a b).1=(row,a++b)/\a.length+b.length<=6:=by unfold ru at h⊢;grind
theorem mo{ok:Bool}(h:(dR g ok row ab).2=0):b_ row ab=true/\ok=true/\(∀x∈ab,(aL g x).2=0)/\(dR g ok row ab).1=((Rg g row).1,(Rg g row).2++ab.map fun x=>(aL g x).1)/\(Rg g row).2.length+ab.length<=6:=by
 unfold dR at h⊢;split at h
 ·rename_i h1;rw[aaK h1];split at h
  ·rename_i h2;rw[aaK h2];have hd:=ET ab [] h2;unfold Rg;rw[abx]at hd;cases hg:(if row=[]then none else g 2 row)with
    |none=>rw[hg]at h;have hj:=BT h;grind
    |some b=>rw[hg]at h;have hj:=BT h;grind
  grind
 grind
theorem mq{ok:Bool}(h:(cI g ok t).2=0):fx t=true/\ok=true/\(∀x∈t.ab,(aL g x).2=0)/\(cI g ok t).1=⟨Eg g t.elem,(Rg g t.row).1,(Rg g t.row).2++t.ab.map fun x=>(aL g x).1⟩/\(Rg g t.row).2.length+t.ab.length<=6:=by
 unfold cI at h⊢;split at h
 ·rename_i h1;rw[aaK h1];split at h
  ·rename_i h2;rw[aaK h2];obtain⟨k1,k2,k3,k4,k5⟩:=mo h2;refine⟨h1.1,h1.2,k3,?_,k5⟩;rw[k4];rfl
  grind
 grind
def N1(B:List Bd):Prop:=∀b∈B,b.kind≠1
theorem zt{B:List Bd}(h:N1 B)(τ:Vl):comp τ (aH B)=τ:=by
 funext x;unfold comp;cases hb:aH B 1 x with
  |none=>rfl
  |some b=>exfalso;have h1:=List.find?_some hb;have h2:=(ei _ _ _).1 h1;exact h b (acW hb) (aba Prod.fst h2)
theorem BU{b:Bd}:∀(l acc:List Bd),(py b acc l).2=0->(py b acc l).1=acc++l.map (fun x=>(dM b x).1)++[b]/\∀x∈l,(dM b x).2=0
 |[],acc,_=>⟨by simp[py],by simp⟩
 |x::l,acc,h=>by
  rw[py]at h⊢;split at h
  ·rename_i h1;rw[aaK h1];have ih:=BU l _ h;grind
  grind
theorem nO(h:(bd l b).2=0):(bd l b).1=l.map (fun x=>(dM b x).1)++[b]/\∀x∈l,(dM b x).2=0:=by have:=BU (b:=b) l [] h;rw[abx]at this;exact this
theorem s_(b x:Bd):(dM b x).1.kind=x.kind/\(dM b x).1.var=x.var:=by unfold dM;grind
theorem oo(h:(bd l b).2=0)(k:Int)(s:List UInt8):aH (bd l b).1 k s=match aH l k s with
 |some x=>some (dM b x).1
 |none=>if jE k s b=true then some b else none:=by
  rw[(nO h).1];clear h;induction l with
   |nil=>rw[List.map_nil,abx,eV];rfl
   |cons x l ih=>
    rw[aaV,abD,eV,eV,ih];have hi:jE k s (dM b x).1=jE k s x:=by unfold jE;rw[(s_ b x).1,(s_ b x).2]
    grind
theorem lj(h:(bd l b).2=0)(hl:N1 l)(hb:b.kind≠1):N1 (bd l b).1:=by
 rw[(nO h).1];intro y hy;rcases aa2.1 hy with hy|hy
 ·obtain⟨x,hx,rfl⟩:=aa_.1 hy;rw[(s_ b x).1];exact hl x hx
 grind
theorem gU(h:aH l k s=some b):b∈l/\b.kind=k/\b.var=s:=by have h1:=List.find?_some h;have h2:=(ei _ _ _).1 h1;exact⟨acW h,aba Prod.fst h2,aba Prod.snd h2⟩
abbrev Sm:=List UInt8×List UInt8×List Int
def w8(τ:Vl)(v r:List UInt8)(d:List ae)(x:Sm):Sm:=if x.2.1=v then(x.1,r,cX τ d++x.2.2)else x
def fEl(v e:List UInt8)(x:Sm):Sm:=(if x.1=v then e else x.1,x.2)
theorem nP(τ:Vl)(a b:List ae):cX τ (a++b)=cX τ a++cX τ b:=abB
theorem L2{r:List UInt8}{d:List ae}:aH [bG v r d] k s=if k=2/\s=v then some (bG v r d)else none:=by
 rw[eV];have:jE k s (bG v r d)=true↔k=2/\s=v:=by rw[ei];show((2:Int),v)=(k,s)↔_;grind
 by_cases h:k=2/\s=v
 ·grind
 ·rw[aaF (fun h2=>h (this.1 h2)),aaF h];rfl
theorem O5{e:List UInt8}:aH [eW v e] k s=if k=3/\s=v then some (eW v e)else none:=by
 rw[eV];have:jE k s (eW v e)=true↔k=3/\s=v:=by rw[ei];show((3:Int),v)=(k,s)↔_;grind
 by_cases h:k=3/\s=v
 ·grind
 ·rw[aaF (fun h2=>h (this.1 h2)),aaF h];rfl
theorem uB{r:List UInt8}{d:List ae}(hv:v≠[])(h:(bd l (bG v r d)).2=0)(τ:Vl)(t:Ty):BS (aH (bd l (bG v r d)).1) τ t=w8 τ v r d (BS (aH l) τ t):=by
 have Pr:N1 [bG v r d]:=by intro b hb;rw[abk.1 hb];show(2:Int)≠1;decide
 have hE:Eg (aH (bd l (bG v r d)).1) t.elem=Eg (aH l) t.elem:=by
  unfold Eg;rw[oo h];cases hx:aH l 3 t.elem with
   |none=>have:jE 3 t.elem (bG v r d)=false:=rfl;grind
   |some x=>obtain⟨-,k1,-⟩:=gU hx;show(dM (bG v r d) x).1.elem=x.elem;unfold dM;rw[aaF (by omega),aaF (by rintro⟨h1,-⟩;exact absurd h1 (by show(2:Int)≠3;decide))]
 have hR:∀ds:List Int,((Rg (aH (bd l (bG v r d)).1) t.row).1,cX τ (Rg (aH (bd l (bG v r d)).1) t.row).2++ds)=if(Rg (aH l) t.row).1=v then(r,cX τ d++(cX τ (Rg (aH l) t.row).2++ds))else((Rg (aH l) t.row).1,cX τ (Rg (aH l) t.row).2++ds):=by
  intro ds;unfold Rg;by_cases h0:t.row=[]
  ·grind
  ·rw[aaF h0,aaF h0,oo h];cases hx:aH l 2 t.row with
    |none=>
     dsimp only;by_cases h1:t.row=v
     ·have:jE 2 t.row (bG v r d)=true:=(ei _ _ _).2 (by rw[h1];rfl);grind[cX,bG]
     ·have:jE 2 t.row (bG v r d)=false:=by rw[←abV,ei];exact fun h2=>h1 (aba Prod.snd h2).symm
      grind
    |some x=>
     obtain⟨m1,k1,-⟩:=gU hx;have hb:=(nO h).2 x m1;unfold dM at hb⊢;rw[aaK k1]at hb;dsimp only;rw[aaK k1];obtain⟨-,-,s1,s2,-⟩:=mo hb;dsimp only;rw[s2];dsimp only;rw[nP,nN s1,zt Pr];unfold Rg;rw[L2];by_cases h1:x.row=v
     ·have h2:x.row≠[]:=fun h3=>hv (h1.symm.trans h3)
      rw[aaF h2,aaK ⟨rfl,h1⟩,aaK h1];show(r,cX τ d++cX τ x.ab++ds)=_;grind
     grind[cX]
 unfold BS w8;grind
theorem Jl{e:List UInt8}(h:(bd l (eW v e)).2=0)(τ:Vl)(t:Ty):BS (aH (bd l (eW v e)).1) τ t=fEl v e (BS (aH l) τ t):=by
 have Pr:N1 [eW v e]:=by intro b hb;rw[abk.1 hb];show(3:Int)≠1;decide
 have hE:Eg (aH (bd l (eW v e)).1) t.elem=if Eg (aH l) t.elem=v then e else Eg (aH l) t.elem:=by
  unfold Eg;rw[oo h];cases hx:aH l 3 t.elem with
   |none=>
    dsimp only;by_cases h1:t.elem=v
    ·have:jE 3 t.elem (eW v e)=true:=(ei _ _ _).2 (by rw[h1];rfl);rw[this,aaK rfl,aaK h1];rfl
    ·have:jE 3 t.elem (eW v e)=false:=by rw[←abV,ei];exact fun h2=>h1 (aba Prod.snd h2).symm
     grind
   |some x=>
    obtain⟨m1,k1,-⟩:=gU hx;dsimp only;unfold dM;rw[aaF (by omega)];dsimp only;by_cases h1:x.elem=v
    ·rw[aaK ⟨rfl,h1⟩,aaK h1];rfl
    ·rw[aaF (fun h2=>h1 h2.2),aaF h1]
 have hR:(Rg (aH (bd l (eW v e)).1) t.row).1=(Rg (aH l) t.row).1/\cX τ (Rg (aH (bd l (eW v e)).1) t.row).2=cX τ (Rg (aH l) t.row).2:=by
  unfold Rg;by_cases h0:t.row=[]
  ·grind
  ·rw[aaF h0,aaF h0,oo h];cases hx:aH l 2 t.row with
    |none=>have:jE 2 t.row (eW v e)=false:=rfl;grind
    |some x=>obtain⟨m1,k1,-⟩:=gU hx;have hb:=(nO h).2 x m1;unfold dM at hb⊢;rw[aaK k1]at hb;dsimp only;rw[aaK k1];obtain⟨-,-,s1,s2,-⟩:=mo hb;dsimp only;rw[s2];dsimp only;rw[nP,nN s1,zt Pr];unfold Rg;grind[O5,cX]
 unfold BS fEl;grind
def MU(τ:Vl)(D:List (ae×ae)):Prop:=∀p∈D,ev τ p.1=ev τ p.2
theorem Gs{a b:List UInt8}(h:(d_ a b l).2=0)(hl:N1 l):N1 (d_ a b l).1/\∃f:List UInt8->List UInt8,f a=f b/\∀τ t,BS (aH (d_ a b l).1) τ t=(f (BS (aH l) τ t).1,(BS (aH l) τ t).2):=by
 unfold d_ at h⊢;split at h
 ·rename_i h1;rw[aaK h1];exact⟨hl,id,h1,fun τ t=>rfl⟩
 ·rename_i h1;rw[aaF h1];split at h
  ·rename_i h2;rw[aaK h2];refine⟨lj h hl (by show(3:Int)≠1;decide),fun x=>if x=a then b else x,?_,fun τ t=>Jl h τ t⟩;grind
  ·rename_i h2;rw[aaF h2];split at h
   ·rename_i h3;rw[aaK h3];refine⟨lj h hl (by show(3:Int)≠1;decide),fun x=>if x=b then a else x,?_,fun τ t=>Jl h τ t⟩;grind
   grind
theorem BV{τ:Vl}:∀{a b:List ae},a.length=b.length->(∀p∈a.zip b,ev τ p.1=ev τ p.2)->cX τ a=cX τ b
 |[],[],_,_=>rfl
 |x::a,y::b,hl,h=>by
  have:=BV (a:=a) (b:=b) (by grind) fun p hp=>h p (by simp[hp])
  have h0:=h (x,y) (by simp);show ev τ x::cX τ a=ev τ y::cX τ b;grind
theorem tf{τ:Vl}{da db:List ae}(h:MU τ (bQ da db)):cX τ (da.drop (da.length - db.length))=cX τ (db.drop (db.length - da.length)):=by
 have hz:∀p∈(da.drop (da.length - db.length)).zip (db.drop (db.length - da.length)),ev τ p.1=ev τ p.2:=by intro p hp;refine h p ?_;obtain⟨j,hj⟩:=ab_ hp;rw[acr]at hj;obtain⟨j1,j2⟩:=hj;rw[acx]at j1 j2;have l1:=(aaO.1 j1).1;have l2:=(aaO.1 j2).1;refine aaH (i:=da.length - 1 - (da.length - db.length+j)) ?_;unfold bQ;grind
 exact BV (by grind) hz
theorem wA(τ:Vl)(k:Nat)(d:List ae):cX τ d=cX τ (d.take k)++cX τ (d.drop k):=by rw[←nP,acJ]
theorem Du{ra rb:List UInt8}{da db:List ae}(h:(dO ra da rb db l).2=0)(hl:N1 l):N1 (dO ra da rb db l).1/\∀τ,∃f:Sm->Sm,(∀t,BS (aH (dO ra da rb db l).1) τ t=f (BS (aH l) τ t))/\∀e,MU τ (bQ da db)->f (e,ra,cX τ da)=f (e,rb,cX τ db):=by
 have h2:∀v r d,(bG v r d).kind≠1:=fun v r d=>by show(2:Int)≠1;decide
 unfold dO at h⊢;split at h
 ·rename_i c1;rw[aaK c1];have hd:∀τ,MU τ (bQ da db)->cX τ da=cX τ db:=fun τ hs=>by have:=tf hs;simp_all
  split at h
  ·rename_i c2;rw[aaK c2];refine⟨hl,fun τ=>⟨id,fun t=>rfl,fun e hs=>?_ ⟩⟩;grind
  ·rename_i c2;rw[aaF c2];split at h
   ·rename_i c3;rw[aaK c3];have fq:ra≠[]:=fun h3=>by simp_all
    refine⟨lj h hl (h2 _ _ _),fun τ=>⟨w8 τ ra rb [],fun t=>uB fq h τ t,fun e hs=>?_ ⟩⟩;unfold w8;dsimp only;rw[aaK rfl,aaF (fun h3=>c2 h3.symm),hd τ hs];rfl
   ·rename_i c3;rw[aaF c3];have fq:rb≠[]:=fun h3=>by simp_all
    refine⟨lj h hl (h2 _ _ _),fun τ=>⟨w8 τ rb ra [],fun t=>uB fq h τ t,fun e hs=>?_ ⟩⟩;unfold w8;dsimp only;rw[aaF c2,aaK rfl,hd τ hs];rfl
 ·rename_i c1;rw[aaF c1];split at h
  ·rename_i c2;rw[aaK c2];split at h
   ·grind
   ·rename_i c3;rw[aaF c3];refine⟨lj h hl (h2 _ _ _),fun τ=>⟨w8 τ rb ra (da.take (da.length - db.length)),fun t=>uB (fun h3=>c3 (.inl h3)) h τ t,fun e hs=>?_ ⟩⟩;have:=tf hs;rw[show db.length - da.length=0 by omega,abA]at this;unfold w8;grind[wA]
  ·rename_i c2;rw[aaF c2];split at h
   ·grind
   ·rename_i c3;rw[aaF c3];refine⟨lj h hl (h2 _ _ _),fun τ=>⟨w8 τ ra rb (db.take (db.length - da.length)),fun t=>uB (fun h3=>c3 (.inl h3)) h τ t,fun e hs=>?_ ⟩⟩;have:=tf hs;rw[show da.length - db.length=0 by omega,abA]at this;unfold w8;grind[wA]
theorem EU{B:List Bd}(hB:N1 B){ok:Bool}(h:(cI (aH B) ok t).2=0)(τ:Vl):BS (aH B) τ t=((cI (aH B) ok t).1.elem,(cI (aH B) ok t).1.row,cX τ (cI (aH B) ok t).1.ab):=by obtain⟨-,-,h1,h2,-⟩:=mq h;rw[h2];dsimp only;rw[nP,nN h1,zt hB];rfl
theorem Jm:∀(l:List (Ty×Ty))(B:List Bd)(D:List (ae×ae))(ue:List (Ty×Ty)),N1 B->(jA l B D).2=0->(∀τ,MU τ D->∀p∈ue,BS (aH B) τ p.1=BS (aH B) τ p.2)->N1 (jA l B D).1.1/\∀τ,MU τ (jA l B D).1.2->∀p∈ue++l,BS (aH (jA l B D).1.1) τ p.1=BS (aH (jA l B D).1.1) τ p.2
 |[],B,D,ue,hB,h,ho=>⟨hB,fun τ hs p hp=>ho τ hs p (by grind)⟩
 |p::r,B,D,ue,hB,h,ho=>by
  rw[jA]at h⊢;by_cases c1:(cI (aH B) (dV B) p.1).2≠0
  ·grind
  ·rw[aaF c1]at h⊢;by_cases c2:(cI (aH B) (dV B) p.2).2≠0
   ·grind
   ·rw[aaF c2]at h⊢;have s1:=EU hB (abT.1 c1);have s2:=EU hB (abT.1 c2);dsimp only at h⊢;generalize (cI (aH B) (dV B) p.1).1=a at*;generalize (cI (aH B) (dV B) p.2).1=b at*;by_cases c3:(d_ a.elem b.elem B).2≠0
    ·grind
    ·rw[aaF c3]at h⊢;obtain⟨n1,f,f1,f2⟩:=Gs (abT.1 c3) hB;by_cases c4:(dO a.row a.ab b.row b.ab (d_ a.elem b.elem B).1).2≠0
     ·grind
     ·rw[aaF c4]at h⊢;obtain⟨n2,g0⟩:=Du (abT.1 c4) n1;have:=Jm r _ _ (ue++[p]) n2 h ?_
      ·grind
      ·intro τ hs q hq;obtain⟨g,g1,g2⟩:=g0 τ;have hsD:MU τ D:=fun x hx=>hs x (List.mem_append_left _ hx)
       have hsP:MU τ (bQ a.ab b.ab):=fun x hx=>hs x (List.mem_append_right _ hx)
       grind
theorem EV{a b:ae}(h:(sV a b).2=0):a.ok=true/\b.ok=true/\(sV a b).1.ok=true/\∀τ,ev τ (sV a b).1=ev τ a - ev τ b:=by
 unfold sV at h⊢;split at h
 ·rename_i h1;rw[aaK h1];unfold kJ at h⊢;split at h
  ·rename_i h2;rw[aaK h2];refine⟨h1.1,h1.2,h2,fun τ=>?_ ⟩;simp only[ev,wi _ _ (UJ h1.1)];omega
  grind
 grind
theorem zu:∀(D:List (ae×ae))(acc:List ae),(dA D acc).2=0->(dA D acc).1=acc++D.map (fun p=>(sV p.1 p.2).1)/\∀p∈D,(sV p.1 p.2).2=0
 |[],acc,_=>⟨by simp[dA],by simp⟩
 |p::r,acc,h=>by
  rw[dA]at h⊢;split at h
  ·rename_i h1;rw[aaK h1];have ih:=zu r _ h;grind
  grind
def fW(S:List Bd)(b:Bd):Bd×Int:=if b.kind=2 then(⟨b.kind,b.var,b.bf,(dR (aH S) (dV S) b.row b.ab).1.1,(dR (aH S) (dV S) b.row b.ab).1.2,b.elem⟩,(dR (aH S) (dV S) b.row b.ab).2)else(b,0)
def mU(S:List Bd):List Bd->List Bd->List Bd×Int|acc,[]=>(acc,0)|acc,b::r=>if(fW S b).2=0 then mU S (acc++[(fW S b).1]) r else([],(fW S b).2)
theorem zw{S:List Bd}:∀(l acc:List Bd),(mU S acc l).2=0->(mU S acc l).1=acc++l.map (fun x=>(fW S x).1)/\∀x∈l,(fW S x).2=0
 |[],acc,_=>⟨by simp[mU],by simp⟩
 |x::l,acc,h=>by
  rw[mU]at h⊢;split at h
  ·rename_i h1;rw[aaK h1];have ih:=zw l _ h;grind
  grind
theorem ll(S:List Bd)(x:Bd):(fW S x).1.kind=x.kind/\(fW S x).1.var=x.var:=by unfold fW;grind
theorem BW{a b:List Bd}(h:a.Perm b)(hn:Nk a)(k:Int)(s:List UInt8):aH a k s=aH b k s:=by
 have hb:Nk b:=(ur b).2 (((h.map key).nodup_iff).1 ((ur a).1 hn));have Zz:∀{l:List Bd},Nk l->∀x∈l,∀y∈l,key x=key y->x=y:=by
  intro l;induction l with
   |nil=>grind
   |cons z l ih=>
    intro hl x hx y hy he;have C0:=abJ.1 hl;rcases aa7.1 hx with Ca|Ca<;>rcases aa7.1 hy with KH|KH
    ·grind
    ·grind
    ·grind
    ·exact ih C0.2 x Ca y KH he
 cases h1:aH a k s with
  |none=>grind[kY]
  |some x=>
   obtain⟨m1,k1,v1⟩:=gU h1;cases h2:aH b k s with
    |none=>grind[kY]
    |some y=>obtain⟨m2,k2,v2⟩:=gU h2;rw[Zz hn x m1 y (h.mem_iff.2 m2) (by show(x.kind,x.var)=(y.kind,y.var);grind)]
theorem BX:∀{a b:List ae},(∀x∈a,x.ok=true)->(∀x∈b,x.ok=true)->(∀σ,cX σ a=cX σ b)->a=b
 |[],[],_,_,_=>rfl
 |[],y::b,_,_,h=>by simp_all[cX]
 |x::a,[],_,_,h=>by simp_all[cX]
 |x::a,y::b,ha,hb,h=>by
  have h1:x=y:=I' (ha x (by simp)) (hb y (by simp)) fun σ=>by have:=h σ;exact(List.cons.inj this).1
  have h2:a=b:=BX (fun z hz=>ha z (by simp[hz])) (fun z hz=>hb z (by simp[hz])) fun σ=>(List.cons.inj (h σ)).2
  rw[h1,h2]
theorem mr(h:bV b=true)(hk:b.kind=2):b_ b.row b.ab=true:=by unfold bV at h;grind
theorem cJ(h:b_ row ab=true):(∀x∈ab,x.ok=true)/\ab.length<=6/\Fw.Tz.Vb.eR row=true:=by simp_all[b_,aaD,aa3,aaL]
theorem MV(hF:∀b∈F,bV b=true)(hr:Fw.Tz.Vb.eR row=true):Fw.Tz.Vb.eR (Rg (aH F) row).1=true/\∀x∈(Rg (aH F) row).2,x.ok=true:=by
 unfold Rg;by_cases h0:row=[]
 ·grind
 ·rw[aaF h0];cases hg:aH F 2 row with
   |none=>grind
   |some b=>obtain⟨m1,k1,-⟩:=gU hg;have:=cJ (mr (hF b m1) k1);grind
theorem mw(h:(dR (aH F) (dV F) row ab).2=0):b_ (dR (aH F) (dV F) row ab).1.1 (dR (aH F) (dV F) row ab).1.2=true:=by
 obtain⟨h1,h2,h3,h4,h5⟩:=mo h;have hF:=((yZ F).1 h2).1;obtain⟨r1,r2⟩:=MV hF (cJ h1).2.2;rw[h4];simp only[b_,aaD,aa3,aaL];refine⟨⟨r1,by grind⟩,?_⟩;intro x hx;rcases aa2.1 hx with hx|hx
 ·grind
 ·obtain⟨y,hy,rfl⟩:=aa_.1 hx;exact(jh (h3 y hy)).2.2.2
theorem bY(h:(cI (aH F) (dV F) t).2=0):fx (cI (aH F) (dV F) t).1=true:=by
 obtain⟨h1,h2,h3,h4,h5⟩:=mq h;have hF:=((yZ F).1 h2).1;simp only[fx,aaD]at h1;obtain⟨r1,r2⟩:=MV hF (cJ h1.2).2.2;rw[h4];simp only[fx,b_,aaD,aa3,aaL];refine⟨?_,⟨r1,by grind⟩,?_⟩
 ·unfold Eg;cases hg:aH F 3 t.elem with
   |none=>exact h1.1
   |some b=>obtain⟨m1,k1,-⟩:=gU hg;have:=hF b m1;unfold bV at this;grind
 ·intro x hx;rcases aa2.1 hx with hx|hx
  ·grind
  ·obtain⟨y,hy,rfl⟩:=aa_.1 hx;exact(jh (h3 y hy)).2.2.2
theorem O6{l:List (Ty×Ty)}{S:List Bd}(he:(jA l [] []).2=0)(hd:(dA (jA l [] []).1.2 []).2=0)(hS:∀b∈S,b.kind=1)(hs:∀σ,∀x∈(dA (jA l [] []).1.2 []).1,ev (comp σ (aH S)) x=0){Bs:List Bd}(hBs:Bs.Perm (jA l [] []).1.1)(hf:(mU S [] Bs).2=0)(hF:F.Perm (S++(mU S [] Bs).1)){p:Ty×Ty}(hp:p∈l)(h1:(cI (aH F) (dV F) p.1).2=0)(h2:(cI (aH F) (dV F) p.2).2=0):(cI (aH F) (dV F) p.1).1=(cI (aH F) (dV F) p.2).1:=by
 obtain⟨n1,heq⟩:=Jm l [] [] [] (by intro b hb;cases hb) he (fun τ _ p hp=>by cases hp);generalize (jA l [] []).1=BD at*;obtain⟨B,D⟩:=BD;dsimp only at*;have hv:=(mq h1).2.1;have hNk:=((yZ F).1 hv).2;obtain⟨fe,fo⟩:=zw Bs [] hf;rw[abx]at fe;rw[fe]at hF;have hNB:Nk (S++Bs.map fun x=>(fW S x).1):=(ur _).2 (((hF.map key).nodup_iff).1 ((ur F).1 hNk));have ZA:Nk Bs:=by
  have:=(List.pairwise_append.1 hNB).2.1;rw[List.pairwise_map]at this;refine this.imp fun{a b} Is hk=>Is ?_
  show((fW S a).1.kind,(fW S a).1.var)=((fW S b).1.kind,(fW S b).1.var);rw[(ll S a).1,(ll S a).2,(ll S b).1,(ll S b).2];exact hk
 have Z0:∀k s,(Bs.map fun x=>(fW S x).1).find? (jE k s)=(Bs.find? (jE k s)).map fun x=>(fW S x).1:=by intro k s;rw[List.find?_map];refine aba (Option.map _) ?_;refine aba (fun f=>List.find? f Bs) ?_;funext x;show jE k s (fW S x).1=jE k s x;unfold jE;rw[(ll S x).1,(ll S x).2]
 have aF:∀k s,aH F k s=(aH S k s).or ((aH B k s).map fun x=>(fW S x).1):=by intro k s;rw[BW hF hNk];show List.find? _ (S++Bs.map fun x=>(fW S x).1)=_;rw[List.find?_append,Z0];refine aba (fun o=>Option.or _ (Option.map _ o)) ?_;exact BW hBs ZA k s
 have hS0:∀k s,k≠1->aH S k s=none:=fun k s hk=>by rw[kY];intro b hb he;have:b.kind=k:=aba Prod.fst he;grind
 have hB1:∀s,aH B 1 s=none:=fun s=>by rw[kY];intro b hb he;exact n1 b hb (aba Prod.fst he)
 have hc:∀σ,comp σ (aH F)=comp σ (aH S):=by intro σ;funext x;unfold comp;grind
 have hEg:∀e,Eg (aH F) e=Eg (aH B) e:=by
  intro e;unfold Eg;rw[aF,hS0 3 e (by decide)];cases hx:aH B 3 e with
   |none=>rfl
   |some x=>obtain⟨-,k1,-⟩:=gU hx;show(fW S x).1.elem=x.elem;unfold fW;grind
 have hRg:∀r,(Rg (aH F) r).1=(Rg (aH B) r).1/\∀σ,cX σ (Rg (aH F) r).2=cX (comp σ (aH S)) (Rg (aH B) r).2:=by
  intro r;unfold Rg;by_cases h0:r=[]
  ·rw[aaK h0,aaK h0];exact⟨rfl,fun σ=>rfl⟩
  ·rw[aaF h0,aaF h0,aF,hS0 2 r (by decide)];cases hx:aH B 2 r with
    |none=>exact⟨rfl,fun σ=>rfl⟩
    |some x=>
     obtain⟨m1,k1,-⟩:=gU hx;have ZB:=fo x (hBs.mem_iff.2 m1);show(fW S x).1.row=x.row/\∀σ,cX σ (fW S x).1.ab=cX (comp σ (aH S)) x.ab;unfold fW at ZB⊢;rw[aaK k1]at ZB;rw[aaK k1];obtain⟨-,-,t1,t2,-⟩:=mo ZB;dsimp only;rw[t2];have hn:Rg (aH S) x.row=(x.row,[]):=by unfold Rg;grind
     rw[hn];refine⟨rfl,fun σ=>?_ ⟩;dsimp only;rw[abx,nN t1]
 have aay:∀t:Ty,(cI (aH F) (dV F) t).2=0->∀σ,((cI (aH F) (dV F) t).1.elem,(cI (aH F) (dV F) t).1.row,cX σ (cI (aH F) (dV F) t).1.ab)=BS (aH B) (comp σ (aH S)) t:=by intro t ht σ;obtain⟨-,-,t1,t2,-⟩:=mq ht;rw[t2];dsimp only;rw[nP,nN t1,hEg,(hRg t.row).1,(hRg t.row).2,hc];rfl
 have aaz:∀σ,MU (comp σ (aH S)) D:=by intro σ q hq;obtain⟨d1,d2⟩:=zu D [] hd;have h3:=hs σ (sV q.1 q.2).1 (by grind);rw[(EV (d2 q hq)).2.2.2]at h3;omega
 have lN:∀σ,((cI (aH F) (dV F) p.1).1.elem,(cI (aH F) (dV F) p.1).1.row,cX σ (cI (aH F) (dV F) p.1).1.ab)=((cI (aH F) (dV F) p.2).1.elem,(cI (aH F) (dV F) p.2).1.row,cX σ (cI (aH F) (dV F) p.2).1.ab):=by grind
 have v1:=bY h1;have v2:=bY h2;generalize (cI (aH F) (dV F) p.1).1=a at*;generalize (cI (aH F) (dV F) p.2).1=b at*;simp only[fx,aaD]at v1 v2;have hdm:a.ab=b.ab:=BX (cJ v1.2).1 (cJ v2.2).1 fun σ=>by grind
 have h0:=lN fun _=>0
 simp only[aaE]at h0;cases a;simp_all
end Fw.Tz.Tc
/-
  An application under binds that unify its pairs holds by the frame under the binds.
-/
namespace Fw.Tz.Td
open Go Fw.Tz Fw.Nu Fw.Tz.Na Fw.Tz.El Fw.Tz.Va Fw.Tz.Vb Fw.Tz.Vc Fw.Tz.Eq Fw.Tz.Pp Fw.Tz.Su Fw.Tz.Yd Fw.Tz.Ya Fw.Tz.Yc Fw.Tz.Ta Fw.Tz.Tb Fw.Tz.Tc
variable {c:bR}{F:List Bd}{row:List UInt8}{ab:List ae}
def sT(F:List Bd)(t:Ty):Ty:=(cI (aH F) (dV F) t).1
def sEq(F:List Bd)(t:Ty):Int:=(cI (aH F) (dV F) t).2
def sS(F:List Bd)(row:List UInt8)(ab:List ae):List UInt8×List ae:=(dR (aH F) (dV F) row ab).1
theorem Jn{w t:Ty}{b:Bool}(h:eH row ab w b=some t)(hw:sEq F w=0)(ht:sEq F t=0)(hs:(dR (aH F) (dV F) row ab).2=0)(h0:w.row=[]):eH (sS F row ab).1 (sS F row ab).2 (sT F w) b=some (sT F t):=by
 rcases sL h with⟨rfl,h6,rfl⟩|⟨rfl,rfl⟩
 ·obtain⟨-,-,-,t4,t5⟩:=mq ht;obtain⟨-,-,-,w4,-⟩:=mq hw;obtain⟨-,-,-,s4,-⟩:=mo hs;unfold sT sS;rw[t4,w4,s4,h0];have hn:Rg (aH F) []=([],[]):=by unfold Rg;grind
  rw[hn];dsimp only at t5⊢;unfold eH;grind
 ·rfl
theorem EW(row:List UInt8)(ab:List ae):∀(gs ws:List Ty)(bs:List Bool)(acc l:List (Ty×Ty)),rK row ab acc gs ws bs=some l->∀p∈acc,p∈l
 |[],_,_,acc,l,h,p,hp=>by grind[rK,Option.some.injEq]
 |_::_,[],_,acc,l,h,p,hp=>by grind[rK,Option.some.injEq]
 |_::_,_::_,[],acc,l,h,p,hp=>by grind[rK,Option.some.injEq]
 |g::gs,w::ws,b::bs,acc,l,h,p,hp=>by
  rw[rK]at h;cases hl:eH row ab w b with
   |none=>grind
   |some t=>rw[hl]at h;exact EW row ab gs ws bs _ l h p (List.mem_append_left _ hp)
theorem BY{F:List Bd}{row:List UInt8}{ab:List ae}(hs:(dR (aH F) (dV F) row ab).2=0):∀(gs ws:List Ty)(bs:List Bool)(acc l:List (Ty×Ty)),rK row ab acc gs ws bs=some l->(∀p∈l,sEq F p.2=0/\sT F p.1=sT F p.2)->(∀w∈ws,sEq F w=0/\w.row=[])->pZ (sS F row ab).1 (sS F row ab).2 (gs.map (sT F)) (ws.map (sT F)) bs
 |[],_,_,_,_,_,_,_=>by simp[pZ]
 |_::_,[],_,_,_,_,_,_=>by simp[pZ]
 |_::_,_::_,[],_,_,_,_,_=>by simp[pZ]
 |g::gs,w::ws,b::bs,acc,l,h,hl,hw=>by
  rw[rK]at h;cases hf:eH row ab w b with
   |none=>grind
   |some t=>rw[hf]at h;have hm:=EW row ab gs ws bs _ l h (g,t) (by simp);obtain⟨p1,p2⟩:=hl _ hm;obtain⟨w1,w2⟩:=hw w (by simp);refine⟨?_,BY hs gs ws bs _ l h hl fun a ha=>hw a (by simp[ha])⟩;rw[Jn hf w1 p1 hs w2,p2]
def Gu(F:List Bd)(c d:bR):bR:=⟨2,d.s,d.ta,d.tb,c.gs.map (sT F),c.ws.map (sT F),sT F c.r,sT F c.x,d.Bh⟩
theorem wB{bs:List Bool}(h:jP c row ab bs=false):kZ c=true/\b_ row ab=true/\bs.length=c.gs.length/\(bs.any id=false->row=[]/\ab=[]):=by have h0:(sG row ab [] []=true)=(row=[]/\ab=[]):=propext (vN row ab [] []);simp_all[jP,abZ,ack,aaL,Bool.and_eq_false_imp,aa5]
theorem uC(h:kZ c=true):c.gs.length=c.ws.length/\c.gs.length<=16/\fx c.r=true/\fx c.x=true/\c.x.row=[]/\(∀t∈c.gs,fx t=true)/\∀t∈c.ws,fx t=true/\t.row=[]:=by simp only[kZ,aaD,aaL,aa5,kK,kL,jN,ack,adi,aa8,not_or,Bool.not_eq_false,aO,aaL]at h;grind
theorem O7(hk:c.k=2)(h1:c.gs.length=c.ws.length)(h2:c.gs.length<=16)(h3:fx c.r=true)(h4:fx c.x=true)(h5:c.x.row=[])(h6:∀t∈c.gs,fx t=true)(h7:∀t∈c.ws,fx t=true/\t.row=[]):kZ c=true:=by simp_all[kZ,aaD,aaL,aa5,kK,kL,jN,ack,adi,aa8,not_or,abV,Bool.not_eq_false,aO]
theorem Jo{t:Ty}(h:sEq F t=0)(h0:t.row=[]):(sT F t).row=[]:=by obtain⟨-,-,-,h4,-⟩:=mq h;unfold sT;rw[h4,h0];unfold Rg;grind
theorem BZ{d:bR}{bs:List Bool}{l:List (Ty×Ty)}(hb:jP c row ab bs=false)(hp:jy c row ab bs=some l)(hl:∀p∈l,sEq F p.2=0/\sT F p.1=sT F p.2)(hg:∀t∈c.gs,sEq F t=0)(hw:∀t∈c.ws,sEq F t=0)(hr:sEq F c.r=0)(hx:sEq F c.x=0)(hs:(dR (aH F) (dV F) row ab).2=0):kN (Gu F c d) (sS F row ab).1 (sS F row ab).2 bs=true:=by
 obtain⟨b1,b2,b3,b4⟩:=wB hb;obtain⟨c1,c2,c3,c4,c5,c6,c7⟩:=uC b1;have ZC:kZ (Gu F c d)=true:=by
  refine O7 rfl ?_ ?_ (bY hr) (bY hx) (Jo hx c5) ?_ ?_
  ·show(c.gs.map _).length=(c.ws.map _).length;grind
  ·show(c.gs.map _).length<=16;grind
  ·intro t ht;obtain⟨u,hu,rfl⟩:=aa_.1 ht;exact bY (hg u hu)
  ·intro t ht;obtain⟨u,hu,rfl⟩:=aa_.1 ht;exact⟨bY (hw u hu),Jo (hw u hu) (c7 u hu).2⟩
 rw[Dg ZC];have hf:=BY hs _ _ _ _ _ hp hl (by grind);rw[abB,abB]at hf;have hf:=(od _ _ (sT F c.r) (sT F c.x) (bs.any id) (c.gs.map (sT F)) (c.ws.map (sT F)) bs (by grind) (by grind)).1 hf;refine⟨mw hs,?_,?_,hf.1,hf.2⟩
 ·show bs.length=(c.gs.map _).length;grind
 ·intro ha;obtain⟨r1,r2⟩:=b4 ha;obtain⟨-,-,-,s4,-⟩:=mo hs;unfold sS;rw[s4,r1,r2];unfold Rg;grind
end Fw.Tz.Td
/-
  Valid binds are small; what unifying keeps valid.
-/
namespace Fw.Tz.Te
open Go Fw.Tz Fw.Nu Fw.Tz.Na Fw.Tz.El Fw.Tz.Va Fw.Tz.Vb Fw.Tz.Vw Fw.Tz.Su Fw.Tz.Yd Fw.Tz.Ya Fw.Tz.Yc Fw.Tz.Yb Fw.Tz.Ye Fw.Tz.So Fw.Tz.Ta Fw.Tz.Tb Fw.Tz.Tc
variable {s r:List UInt8}{b:Bd}{l:List Bd}
theorem jB(h:bP s=true):s.length<=30:=by
 cases s with
  |nil=>simp
  |cons c t=>
   rw[bP]at h;cases hb:Nat.beq c.toNat 95 with
    |true=>rw[hb,aaJ]at h;have:=I7 h;grind
    |false=>grind
theorem B0(h:cH s=true):s.length<=30:=by
 cases s with
  |nil=>simp
  |cons c t=>simp_all[cH,aaD,aaL,aaR]
theorem lq(h:fN s=true):s.length<=30:=by
 simp only[fN,aa8,aO,aaL]at h;rcases h with(h|h)|h
 ·rw[h];decide
 ·rw[h];decide
 ·exact B0 h
theorem iG{x:ae}(h:x.ok=true):x.ts.length<=12/\∀t∈x.ts,t.var.length<=30:=by have:=cS (c:=x.c) (ts:=x.ts) h;exact⟨this.2.1,fun t ht=>jB (this.2.2 t ht).2⟩
theorem qg{x:ae}(h:x.ok=true):ae.sm x:=by have:=iG h;exact⟨by omega,fun t ht=>by grind⟩
theorem B1(h:bV b=true):Bd.sm b:=by
 have zl:∀{x:ae},eg x=true->x.ts.length=0:=by simp_all[eg,aaD,List.isEmpty_iff]
 have nr:∀{b:Bd},vO b=true->b.ab=[]:=by simp_all[vO,aaD,List.isEmpty_iff]
 have be:∀{x:List UInt8},Fw.ai x []=true->x.length=0:=by simp_all[aO,aaL]
 unfold bV at h;split at h
 ·simp only[aaD]at h;obtain⟨⟨⟨h1,h2⟩,h3⟩,h4⟩:=h;have:=jB h1;have:=iG h2;have:=be h4;exact⟨by omega,by omega,by omega,by grind,by grind⟩
 ·split at h
  ·simp only[aaD]at h;obtain⟨⟨⟨h1,h2⟩,h3⟩,h4⟩:=h;have:=jB h1;have h2:=cJ h2;have:=zl h3;have:=be h4;exact⟨by omega,by omega,by omega,by omega,fun x hx=>ae.UH (qg (h2.1 x hx))⟩
  ·split at h
   ·simp only[aaD]at h;obtain⟨⟨⟨h1,h2⟩,h3⟩,h4⟩:=h;have:=B0 h1;have:=lq h2;have:=zl h3;exact⟨by omega,by omega,by omega,by grind,by grind⟩
   ·cases h
def Vb(B:List Bd):Prop:=∀b∈B,bV b=true
theorem zx{B:List Bd}(h:Vb B)(hl:B.length<1099511627776):UI B:=⟨hl,fun b hb=>B1 (h b hb)⟩
theorem pz{t:Ty}(h:fx t=true):ub t:=by simp only[fx,aaD]at h;have h2:=cJ h.2;have:=lq h.1;exact⟨by omega,by omega,fun x hx=>qg (h2.1 x hx)⟩
theorem rG{v e:List UInt8}(hv:cH v=true)(he:fN e=true):bV (eW v e)=true:=by show(cH v&&fN e&&eg gq&&vO (eW v e))=true;rw[hv,he];rfl
theorem fR{v:List UInt8}{d:List ae}(hv:bP v=true)(hs:b_ r d=true):bV (bG v r d)=true:=by show(bP v&&b_ r d&&eg gq&&Fw.ai [] [])=true;rw[hv,hs];rfl
theorem B2{x:Bd}(hb:bV b=true)(hx:bV x=true)(h:(dM b x).2=0):bV (dM b x).1=true:=by
 unfold dM at h⊢;by_cases hk:x.kind=2
 ·rw[aaK hk]at h;rw[aaK hk];have hs:=mw h;unfold bV at hx⊢;grind
 ·rw[aaF hk];dsimp only;split
  ·rename_i h3;have Vi:cH b.var=true/\fN b.elem=true:=by unfold bV at hb;grind
   unfold bV at hx⊢;dsimp only;rw[aaF hk]at hx;rw[aaF hk];split at hx
   ·rename_i h1;exfalso;simp only[aaD,aO,aaL]at hx;rw[h3.2]at hx;rw[hx.2]at Vi;exact absurd Vi.1 (by decide)
   ·rename_i h1;rw[aaF h1];split at hx
    ·rename_i h4;rw[aaK h4];simp only[aaD]at hx⊢;exact⟨⟨⟨hx.1.1.1,Vi.2⟩,hx.1.2⟩,hx.2⟩
    ·cases hx
  ·exact hx
theorem fS(hl:Vb l)(hb:bV b=true)(h:(bd l b).2=0):Vb (bd l b).1/\(bd l b).1.length=l.length+1:=by
 obtain⟨h1,h2⟩:=nO h;rw[h1];refine⟨?_,by simp⟩;intro y hy;rcases aa2.1 hy with hy|hy
 ·obtain⟨x,hx,rfl⟩:=aa_.1 hy;exact B2 hb (hl x hx) (h2 x hx)
 grind
theorem tN{a b:List UInt8}(ha:fN a=true)(hb:fN b=true)(hl:Vb l)(h:(d_ a b l).2=0):Vb (d_ a b l).1/\(d_ a b l).1.length<=l.length+1:=by
 unfold d_ at h⊢;split at h
 ·grind
 ·rename_i h1;rw[aaF h1];split at h
  ·rename_i h2;rw[aaK h2];have:=fS hl (rG h2.1 hb) h;grind
  ·rename_i h2;rw[aaF h2];split at h
   ·rename_i h3;rw[aaK h3];have:=fS hl (rG h3 ha) h;grind
   grind
theorem eJ(h:Fw.Tz.Vb.eR r=true)(h0:r≠[]):bP r=true:=by simp_all[Fw.Tz.Vb.eR,aa8,aO,aaL]
theorem iq{d:List ae}(h:b_ r d=true)(n:Nat):b_ r (d.take n)=true:=by have h1:=cJ h;simp only[b_,aaD,aa3,aaL];grind
theorem rH{ra rb:List UInt8}{da db:List ae}(ha:b_ ra da=true)(hb:b_ rb db=true)(hl:Vb l)(h:(dO ra da rb db l).2=0):Vb (dO ra da rb db l).1/\(dO ra da rb db l).1.length<=l.length+1:=by
 have UM:=iq ha 0;have JV:=iq hb 0;rw[acs]at UM JV;have UN:=(cJ ha).2.2;have UO:=(cJ hb).2.2;unfold dO at h⊢;split at h
 ·rename_i c1;rw[aaK c1];split at h
  ·grind
  ·rename_i c2;rw[aaF c2];split at h
   ·rename_i c3;rw[aaK c3];have fq:ra≠[]:=fun h3=>by simp_all
    have:=fS hl (fR (eJ UN fq) JV) h;grind
   ·rename_i c3;rw[aaF c3];have fq:rb≠[]:=fun h3=>by simp_all
    have:=fS hl (fR (eJ UO fq) UM) h;grind
 ·rename_i c1;rw[aaF c1];split at h
  ·rename_i c2;rw[aaK c2];split at h
   ·grind
   ·rename_i c3;rw[aaF c3];have:=fS hl (fR (eJ UO fun h3=>c3 (.inl h3)) (iq ha _)) h;grind
  ·rename_i c2;rw[aaF c2];split at h
   ·grind
   ·rename_i c3;rw[aaF c3];have:=fS hl (fR (eJ UN fun h3=>c3 (.inl h3)) (iq hb _)) h;grind
end Fw.Tz.Te
/-
  Unifying: what is valid on the way, and what its binds do at the end.
-/
namespace Fw.Tz.Th
open Go Fw.Tz Fw.Nu Fw.Tz.Na Fw.Tz.El Fw.Tz.Va Fw.Tz.Vb Fw.Tz.Vw Fw.Tz.Su Fw.Tz.Yd Fw.Tz.Ya Fw.Tz.Yc Fw.Tz.Yb Fw.Tz.Ye Fw.Tz.Ta Fw.Tz.Tb Fw.Tz.Tc Fw.Tz.Td Fw.Tz.Te
variable {S:List Bd}
theorem B3{b:Bd}(h:D1 b):bV b=true:=by obtain⟨h1,h2,h3,h4,h5,h6⟩:=h;unfold bV;rw[aaK h1,h2,h3,h6];unfold vO;rw[h4,h5];rfl
theorem Dv{x:Bd}(hx:bV x=true)(h:(fW S x).2=0):bV (fW S x).1=true:=by
 unfold fW at h⊢;by_cases hk:x.kind=2
 ·rw[aaK hk]at h;rw[aaK hk];have hs:=mw h;unfold bV at hx⊢;grind
 grind
theorem Jp:∀(l:List (Ty×Ty))(B:List Bd)(D:List (ae×ae)),Fw.Tz.Te.Vb B->(jA l B D).2=0->Fw.Tz.Te.Vb (jA l B D).1.1/\(jA l B D).1.1.length<=B.length+2*l.length
 |[],B,D,hB,h=>⟨hB,by show B.length<=_;simp⟩
 |p::r,B,D,hB,h=>by
  rw[jA]at h⊢;by_cases c1:(cI (aH B) (dV B) p.1).2≠0
  ·grind
  ·rw[aaF c1]at h⊢;by_cases c2:(cI (aH B) (dV B) p.2).2≠0
   ·grind
   ·rw[aaF c2]at h⊢;have va:=bY (abT.1 c1);have vb:=bY (abT.1 c2);simp only[fx,aaD]at va vb;dsimp only at h⊢;generalize (cI (aH B) (dV B) p.1).1=a at*;generalize (cI (aH B) (dV B) p.2).1=b at*;by_cases c3:(d_ a.elem b.elem B).2≠0
    ·grind
    ·rw[aaF c3]at h⊢;obtain⟨v1,v2⟩:=tN va.1 vb.1 hB (abT.1 c3);by_cases c4:(dO a.row a.ab b.row b.ab (d_ a.elem b.elem B).1).2≠0
     ·grind
     ·rw[aaF c4]at h⊢;obtain⟨v3,v4⟩:=rH va.2 vb.2 v1 (abT.1 c4);obtain⟨v5,v6⟩:=Jp r _ _ v3 h;grind
theorem MW:∀(l:List (Ty×Ty))(B:List Bd)(D:List (ae×ae)),(jA l B D).2=0->(jA l B D).1.2.length<=D.length+6*l.length
 |[],B,D,h=>by show D.length<=_;simp
 |p::r,B,D,h=>by
  rw[jA]at h⊢;by_cases c1:(cI (aH B) (dV B) p.1).2≠0
  ·grind
  ·rw[aaF c1]at h⊢;by_cases c2:(cI (aH B) (dV B) p.2).2≠0
   ·grind
   ·rw[aaF c2]at h⊢;have va:=bY (abT.1 c1);simp only[fx,aaD]at va;dsimp only at h⊢;generalize (cI (aH B) (dV B) p.1).1=a at*;generalize (cI (aH B) (dV B) p.2).1=b at*;by_cases c3:(d_ a.elem b.elem B).2≠0
    ·grind
    ·rw[aaF c3]at h⊢;by_cases c4:(dO a.row a.ab b.row b.ab (d_ a.elem b.elem B).1).2≠0
     ·grind
     ·rw[aaF c4]at h⊢;have:=MW r _ _ h;have h6:=(cJ va.2).2.1;have hz:(bQ a.ab b.ab).length<=a.ab.length:=by unfold bQ;grind
      grind
theorem Jq{D:List (ae×ae)}(h:(dA D []).2=0):(dA D []).1.length=D.length/\∀x∈(dA D []).1,x.ok=true:=by obtain⟨h1,h2⟩:=zu D [] h;rw[h1,abx];refine⟨aaQ ..,fun x hx=>?_ ⟩;obtain⟨p,hp,rfl⟩:=aa_.1 hx;exact(EV (h2 p hp)).2.2.1
theorem EX{l:List Bd}(hl:Fw.Tz.Te.Vb l)(h:(mU S [] l).2=0):Fw.Tz.Te.Vb (mU S [] l).1/\(mU S [] l).1.length=l.length:=by obtain⟨h1,h2⟩:=zw l [] h;rw[h1,abx];refine⟨fun b hb=>?_,aaQ .. ⟩;obtain⟨x,hx,rfl⟩:=aa_.1 hb;exact Dv (hl x hx) (h2 x hx)
theorem uD{l:List Bd}(hl:Fw.Tz.Te.Vb l):Fw.Tz.Te.Vb (kq l)/\(kq l).length=l.length:=⟨fun b hb=>hl b ((mn l).mem_iff.1 hb),(mn l).length_eq⟩
def Jr(l:List (Ty×Ty))(S:List Bd):List Bd:=kq (S++(mU S [] (kq (jA l [] []).1.1)).1)
structure MX (l:List (Ty×Ty)) (F:List Bd):Prop where
 ok:UI F
 eq:∀p∈l,sEq F p.1=0/\sEq F p.2=0/\sT F p.1=sT F p.2
theorem O8{l:List (Ty×Ty)}(hl:l.length<=20)(he:(jA l [] []).2=0)(hd:(dA (jA l [] []).1.2 []).2=0)(hS:∀b∈S,D1 b)(hSl:S.length<=1000010000)(hs:∀σ,∀x∈(dA (jA l [] []).1.2 []).1,ev (comp σ (aH S)) x=0)(hf:(mU S [] (kq (jA l [] []).1.1)).2=0)(hc:∀p∈l,sEq (Jr l S) p.1=0/\sEq (Jr l S) p.2=0):MX l (Jr l S):=by
 obtain⟨v1,v2⟩:=Jp l [] [] (by intro b hb;cases hb) he;obtain⟨v3,v4⟩:=uD v1;obtain⟨v5,v6⟩:=EX v3 hf;have v7:Fw.Tz.Te.Vb (S++(mU S [] (kq (jA l [] []).1.1)).1):=fun b hb=>by
  rcases aa2.1 hb with hb|hb
  ·exact B3 (hS b hb)
  ·exact v5 b hb
 obtain⟨v8,v9⟩:=uD v7;refine⟨zx v8 ?_,fun p hp=>⟨(hc p hp).1,(hc p hp).2,?_⟩⟩
 ·unfold Jr;grind
 ·exact O6 he hd (fun b hb=>(hS b hb).1) hs (mn _) hf (mn _) hp (hc p hp).1 (hc p hp).2
end Fw.Tz.Th
