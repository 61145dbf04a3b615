/-
  Calls that hand back a row known to be nil.
-/
import Derived.Test.YtgfgckimecpmlaaGreatDoorFf
set_option linter.unusedSimpArgs false
set_option linter.unusedVariables false
namespace Fw
open Go
section
variable {P:Program}{GL:ch}
mutual
def QT:V->List Nat| .sl b _ _ _ _=>[b]| .agg cs=>CV cs| .tuple vs=>CV vs|_=>[]
def CV:List V->List Nat|[]=>[]|v::vs=>QT v++CV vs
end
end
end Fw
/-
  Loops over states told by data, and a row's element at an open place.
-/
namespace Fw
open Go
section
variable {P:Program}{GL:ch}
variable {K K1:List Fr}{n d:Nat}{tm:List (Nat×V)}{H:ao}{Q:Ex->St->Prop}{R:St->Prop}{l:List aj}{v:V}{g:Option (Nat×Bool)}{af:List Nat}
def LQ(P:Program)(GL:ch)(K:List Fr)(Q:Ex->St->Prop)(R:St->Prop):Ex->St->Prop| .normal,s=>R s|e,s=>KQ P GL K Q e s
def AG(i:Nat):List Fr->Bool|[]=>true| .block j::K=> !Nat.beq i j&&AG i K|_::K=>AG i K
theorem KQ.exit{i:Nat}:∀{K:List Fr}{Q:Ex->St->Prop}{σ:St},AG i K=true->Q (.exit i) σ->KQ P GL K Q (.exit i) σ
 |[],_,_,_,h=>h
 | .seq _::K,_,_,hf,h=>KQ.exit (K:=K) hf h
 | .block j::K,_,_,hf,h=>by simp only[AG,aaD,aa5]at hf;exact e_.other (fun e=>by simp_all) (KQ.exit (K:=K) hf.2 h)
 | .loop _ _::K,_,_,hf,h=>KQ.exit (K:=K) hf h
theorem CG.aS{i:Nat}(hf:AG i K1=true)(h:CG P GL (.out (.exit i)) K n tm H Q):CG P GL (.code (.exit i)) K1 n tm H (LQ P GL K Q R):=WC.exit (KQ.exit hf h)
theorem CG.W9{rs:List iv}{v':V}(h:(gH rs ⟨n,tm,H⟩).bind (fc H)=some v')(e:v'=v):CG P GL (.code .ret) K1 n tm H (LQ P GL K (mM rs v) R):=WC.ret (KQ.ret (show KQ P GL K (mM rs v) .ret _ from KQ.ret (mM.ret h e)))
theorem CG.fX{rs:List iv}(v':V)(e:v'=v)(h:(gH rs ⟨n,tm,H⟩).bind (fc H)=some v':=by kernel_rfl):CG P GL (.code .ret) K1 n tm H (LQ P GL K (mM rs v) R):=CG.W9 h e
theorem CG.AH(hl:l.length=0)(h:R ⟨n,tm,H⟩):CG P GL (.ops l) [] n tm H (LQ P GL K Q R):=by
 cases l with
  |nil=>exact WO.nil h
  |cons o l=>simp at hl
theorem CG.po{α:Type}(I:α->List (Nat×V))(J:α->ao)(pre:α->Prop)(μ:α->Nat)(a:α)(h0:pre a){b:IR}(hs:an H.length ⟨n,tm,H⟩ ⟨n,I a,J a⟩)(h:∀a,pre a->CG P GL (.code b) [] n (I a) (J a) (LQ P GL K Q fun s=>∃a',pre a'/\μ a'<μ a/\an (J a).length s ⟨n,I a',J a'⟩)):CG P GL (.code (.loop b)) K n tm H Q:=by
 refine WC.QD (α:={a:α // pre a}) (fun a=>⟨n,I a.1,J a.1⟩) (fun a=>μ a.1) (fun a=>?_ ) ⟨a,h0⟩ hs;refine WC.mono (h a.1 a.2) fun e s hq=>?_
 cases e with
  |normal=>obtain⟨a',h1,h2,h3⟩:=hq;exact⟨⟨a',h1⟩,h2,h3⟩
  |exit i=>exact hq
  |ret=>exact hq
theorem CG.idx{sz:Nat}{x i:a_}{es:List (List D)}{j:Nat}{e:List D}(he:es[j]? =some e)(ho:l.head?=some ⟨some d,.cF sz x i,g,af⟩)(hg:aA g tm=some true)(hx:aZ GL tm x=.d (.list es))(hi:ct (aZ GL tm i)=some j)(hd:(Nat.blt d n&&Nat.beq e.length sz)=true)(hq:CG P GL (.ops (l.drop 1)) K n (put tm d (.bB e)) H Q):CG P GL (.ops l) K n tm H Q:=by
 rw[aaD]at hd;refine WO.head ho (WO.bE (v:=.bB e) (wr:=none) (aY:=⟨n,put tm d (.bB e),H⟩) hg ?_ ?_ hq)
 ·simp_all[bE,aaJ]
 ·show St.put ⟨n,tm,H⟩ (some d) _ (br H none)=_;rw[bc,aaK (by simp_all)];rfl
theorem CG.mN{f:FuncId}{args:List a_}{vs:List V}(h:PC P GL f vs v)(ho:l.head?=some ⟨some d,.call f args,g,af⟩)(hg:aA g tm=some true)(ha:bu (aZ GL tm) args=vs)(hd:Nat.blt d n=true)(hq:CG P GL (.ops (l.drop 1)) K n (put tm d v) H Q):CG P GL (.ops l) K n tm H Q:=by refine WO.head ho (WO.QE h rfl hg ha (aY:=⟨n,put tm d v,H⟩) ?_ hq);simp_all[bc]
theorem CG.gz{x i:a_}{s:List UInt8}{j:Nat}{b:UInt8}(he:s[j]? =some b)(ho:l.head?=some ⟨some d,.gz x i,g,af⟩)(hg:aA g tm=some true)(hx:aZ GL tm x=.d (.str s))(hi:ct (aZ GL tm i)=some j)(hd:Nat.blt d n=true)(hq:CG P GL (.ops (l.drop 1)) K n (put tm d (.d (.int .u8 b.toNat))) H Q):CG P GL (.ops l) K n tm H Q:=by
 refine WO.head ho (WO.bE (v:=.d (.int .u8 b.toNat)) (wr:=none) (aY:=⟨n,put tm d (.d (.int .u8 b.toNat)),H⟩) hg ?_ ?_ hq)
 ·grind[bE]
 ·show St.put ⟨n,tm,H⟩ (some d) _ (br H none)=_;rw[bc,aaK (by simp_all)];rfl
theorem QU{m:Nat}(h:m<9223372036854775808):aq .i64 (.ofNat m)=.ofNat m:=by simp only[aq];rw[show Nat.blt m 9223372036854775808=true by simp_all];rfl
theorem aP{i:Nat}(h:i+1<9223372036854775808):aq .i64 (aJ (.ofNat i) 1)=.ofNat (i+1):=QU h
end
end Fw
/-
  Own rows over open data: rows told by lists, appends, freezing, calls of values, parts of rows, loops over a list.
-/
namespace Fw
open Go
variable {α:Type}{sz:Nat}
def eR(cs:List V):fJ:=bif cs.isEmpty then .nil else .cells cs
def ah(aa:α->List D)(l:List α):fJ:=eR ((l.flatMap aa).map .d)
theorem HY(aa:α->List D):ah aa []=.nil:=rfl
theorem bn{aa:α->List D}(h:∀a,(aa a).length=sz)(l:List α):(l.flatMap aa).length=l.length*sz:=by induction l<;>grind
theorem xB:∀{H:ao}{b:Nat}{x:fJ},aF H b=some x->bJ H b x=H
 |[],_,_,h=>by simp[aF]at h
 |y::H,0,x,h=>by grind[aF,bJ]
 |y::H,b+1,x,h=>by simp only[aF]at h;simp[bJ,xB h]
theorem AI{H:ao}{ns bytes b len k:Nat}{cs xs:List V}(h0:0<sz)(hH:aF H b=some (eR cs))(hl:cs.length=len*sz)(hk:xs.length=k*sz)(hx:xs.all eK=true)(hr:(len+k)*sz*(bytes+1)<=bI):∃wr,dr H ns sz bytes (.sl b (len*sz) 0 len sz) xs=some (.sl b ((len+k)*sz) 0 (len+k) sz,wr)/\br H wr=bJ H b (eR (cs++xs)):=by
 have h1:Nat.beq sz 0=false:=cB (by omega);have h2:Nat.beq (xs.length%sz) 0=true:=by simp_all
 have rT:xs.length / sz=k:=by simp_all
 have HZ:len*sz+xs.length=(len+k)*sz:=by grind
 unfold dr;simp only[h1,h2,hx,abF,aaT,aa4,aaJ,hH];cases cs with
  |nil=>
   have hlen:len=0:=by simp only[aa']at hl;rcases acz.1 hl.symm with h|h;all_goals grind
   subst hlen;simp only[eR,ac3,aaJ,adm,aa4,abf,abx];cases xs with
    |nil=>
     have:k=0:=by simp_all
     subst this;refine⟨none,by simp,?_ ⟩;simp only[br,ac3,aaJ];exact(xB (by rw[hH];rfl)).symm
    |cons x xs=>
     refine⟨some (b,.cells (x::xs)),?_,by simp[br]⟩;have hb:Nat.ble (k*sz*(bytes+1)) bI=true:=by simp_all
     grind
  |cons c cs=>
   simp only[eR,aca,aaT,hl,aa4,abd,acn,HZ];have:Nat.ble ((len+k)*sz*(bytes+1)) bI=true:=by simp_all
   simp only[this,aaJ,rT,abD,aca,aaT];grind[br]
theorem cT{aa:α->List D}(h:∀a,(aa a).length=sz)(H:ao)(l:List α):bt H sz (.d (.list (l.map aa)))=some ((l.flatMap aa).map .d):=by
 have:(l.map aa).all (fun e=>Nat.beq e.length sz)=true:=by simp_all
 simp only[bt,this,aaJ];grind
mutual
def fh(b:Nat):V->Bool| .ptr c _ _=> !Nat.beq c b| .sl c _ _ _ _=> !Nat.beq c b| .map c=> !Nat.beq c b| .iter c _=> !Nat.beq c b| .func _ a c=>kF b a&&kF b c| .iface _ v=>fh b v| .agg cs=>kF b cs| .tuple vs=>kF b vs|_=>true
def kF(b:Nat):List V->Bool|[]=>true|v::vs=>fh b v&&kF b vs
end
mutual
theorem eE{b:Nat}{ds:List D}:∀(v:V),fh b v=true->bS b ds v=v
 | .ptr c _ _,h=>by simp_all[fh,aa5,bS,aaT]
 | .sl c _ _ _ _,h=>by simp_all[fh,aa5,bS,aaT]
 | .map c,h=>by simp_all[fh,aa5,bS,aaT]
 | .iter c _,h=>by simp_all[fh,aa5,bS,aaT]
 | .func _ a c,h=>by simp only[fh,aaD]at h;simp only[bS,gK a h.1,gK c h.2]
 | .iface _ v,h=>by simp only[fh]at h;simp only[bS,eE v h]
 | .agg cs,h=>by simp only[fh]at h;simp only[bS,gK cs h]
 | .tuple vs,h=>by simp only[fh]at h;simp only[bS,gK vs h]
 | .any,_=>by simp only[bS]
 | .d _,_=>by simp only[bS]
 | .full _,_=>by simp only[bS]
 | .ad,_=>by simp only[bS]
 | .mW,_=>by simp only[bS]
 | .bB _,_=>by simp only[bS]
 | .mX,_=>by simp only[bS]
 | .rL,_=>by simp only[bS]
 | .bN,_=>by simp only[bS]
 | .gm,_=>by simp only[bS]
theorem gK{b:Nat}{ds:List D}:∀(l:List V),kF b l=true->jG b ds l=l
 |[],_=>by simp only[jG]
 |v::vs,h=>by simp only[kF,aaD]at h;simp only[jG,eE v h.1,gK vs h.2]
end
def fi(b:Nat):Option fJ->Prop
 |some (.cells cs)=>kF b cs=true
 |some (.map es)=>es.all (fun p=>fh b p.2)=true
 |_=>True
def vj(b:Nat):Nat->ao->Prop|_,[]=>True|i,x::H=>(i=b\/fi b x)/\vj b (i+1) H
theorem vk(b:Nat):∀(l:List D),kF b (l.map .d)=true|[]=>rfl|d::l=>by simp only[aaV,kF,fh,abd];exact vk b l
theorem cj{α:Type}(b:Nat)(aa:α->List D)(l:List α):fi b (some (ah aa l)):=by
 unfold ah eR;cases h:((l.flatMap aa).map V.d).isEmpty with
  |true=>simp[fi]
  |false=>simp only[aaT,fi];exact vk b _
theorem qS{b:Nat}{ds:List D}{x:fJ}(h:fi b (some x)):f_ b ds x=x:=by
 cases x with
  |cells cs=>simp only[fi]at h;simp only[f_,gK cs h]
  |map es=>
   simp only[fi,aa3]at h;simp only[f_,fJ.map.injEq];conv=>rhs;rw[←List.map_id es]
   refine acS fun p hp=>?_
   rw[eE _ (h p hp)];rfl
  |_=>simp only[f_]
theorem pQ{b:Nat}{ds:List D}:∀(H:ao)(i:Nat),vj b i H->iA b ds i H=if i<=b then H.set (b - i) none else H
 |[],i,_=>by simp[iA]
 |x::H,i,h=>by
  simp only[vj]at h;simp only[iA,pQ H (i+1) h.2];by_cases e:i=b
  ·subst e;rw[aa4,aaJ,aaF (by omega),aaK (aaP i),adk];rfl
  ·rw[cB e,aaT];have hb:fi b x:=h.1.resolve_left e;have hx:x.map (f_ b ds)=x:=by
    cases x with
     |none=>rfl
     |some x=>rw[aaU,qS hb]
   rw[hx];by_cases b8:i<=b
   ·rw[aaK (by omega),aaK b8,show b - i=b - (i+1)+1 by omega];rfl
   grind
def vl(b:Nat)(tm:List (Nat×V)):List (Nat×V):=tm.map fun p=>(p.1,bif fh b p.2 then p.2 else .any)
theorem lX(b:Nat)(tm:List (Nat×V))(t:Nat):get (vl b tm) t=bif fh b (get tm t)then get tm t else .any:=lM (fun v=>bif fh b v then v else .any) rfl tm t
theorem gL{α:Type}{aa:α->List D}{sz:Nat}(h:∀a,(aa a).length=sz):∀(l:List α),gv sz l.length (l.flatMap aa)=l.map aa|[]=>rfl|a::l=>by simp only[aaR,gv,ab1,aaV];rw[acH (by grind),←h a,abu,acI (by omega),List.drop_length,abx,h a,gL h l]
theorem vm:∀(l:List D),ji (l.map .d)=some l|[]=>rfl|d::l=>by simp only[aaV,ji,vm l,aaU]
theorem AJ{α:Type}{aa:α->List D}{H:ao}{b:Nat}{l:List α}(h:aF H b=some (ah aa l)):wN H b=some (l.flatMap aa):=by
 unfold wN;rw[h];unfold ah eR;cases hl:l.flatMap aa with
  |nil=>rfl
  |cons d ds=>simp only[aaV,aca,aaT];rw[←aaV,vm]
section
variable {P:Program}{GL:ch}
variable {H H':ao}{a b:Int}{n d sz m:Nat}{tm aW:List (Nat×V)}{K:List Fr}{Q:Ex->St->Prop}{l:List aj}{α:Type}{g:Option (Nat×Bool)}{af:List Nat}{w:World}
theorem n_{g:G}(hh:az g w H):H.all jY=true:=by
 have:∀(H':ao),(∀b y,aF H' b=some y->jY (some y)=true)->H'.all jY=true:=by
  intro H';induction H' with
   |nil=>grind
   |cons x H' ih=>
    intro h;simp only[aaX,aaD];refine⟨?_,ih fun b y hy=>h (b+1) y hy⟩;cases x with
     |none=>rfl
     |some y=>exact h 0 y rfl
 refine this H fun b y hy=>?_
 obtain⟨x,hx⟩:=hh.back b y hy;obtain⟨_,y',uJ,hr⟩:=hh.live b x hx;rw[hy]at uJ;simp only[aaC]at uJ;subst uJ;cases y with
  |cells cs=>
   cases x with
    |cells _ _ _=>simp only[RB]at hr;exact hr.2.1
    |_=>grind[RB]
  |_=>rfl
theorem qT{k:Nat}(h:H.all jY=true):(H.set k none).all jY=true:=by
 induction H generalizing k with
  |nil=>simp
  |cons x H ih=>
   simp only[aaX,aaD]at h;cases k with
    |zero=>simp only[List.set_cons_zero,aaX,h.2];rfl
    |succ k=>grind
theorem an.nB(aa:α->List D)(as:List α)(b s:Nat)(cK:∀a,(aa a).length=sz)(hs:get tm s=.sl b (as.length*sz) 0 as.length sz)(hH:aF H b=some (ah aa as))(Hk:vj b 0 H)(e1:put (vl b tm) s (.d (.list (as.map aa)))=aW)(e2:H.set b none=H'):an m ⟨n,tm,H⟩ ⟨n,aW,H'⟩:=by
 intro GL g w a hr;have hf:=pQ (ds:=as.flatMap aa) H 0 Hk;rw[aaK (aby _),acX]at hf;have NU:kS b ⟨n,tm,H⟩=some ⟨n,tm.map fun p=>(p.1,bS b (as.flatMap aa) p.2),H'⟩:=by unfold kS;rw[AJ hH];simp only[hf];rw[qT (n_ hr.heap),aaJ,e2]
 refine(an.trans (an.qh NU) (an.nA fun t=>?_ )) GL g w a hr;subst e1;rw[lM (bS b (as.flatMap aa)) (by simp only[bS]),lA];by_cases ht:t=s
 ·subst ht;rw[aaK rfl,hs];left;have hle:Nat.ble (0+as.length*sz) (as.length*sz)=true:=by simp_all
  simp only[bS,aa4,aaJ,bn cK,hle,abf,abA,gL cK]
 ·rw[aaF ht,lX];cases hn:fh b (get tm t)with
   |true=>left;rw[aaJ,eE _ hn]
   |false=>right;rfl
theorem oa(H:ao)(x:Option fJ)(b:Nat):aF (H++[x]) b=if b=H.length then x else aF H b:=by
 rw[HD];by_cases h:b<H.length
 ·grind
 ·rw[aaF h];by_cases e:b=H.length
  ·subst e;rw[aaK rfl,adk];rfl
  ·rw[aaF e,Dz (by omega:H.length<=b)];exact Dz (by simp;omega)
def G.cU(g:G)(b:Nat):G:=⟨fun c=>g.cV c\/c=b,fun c=>if c=b then some .nil else g.γ c,g.fo⟩
theorem cg.cU{g:G}{b:Nat}(h:¬g.cV b):cg g w (g.cU b) w:=⟨rfl,rfl,rfl,aaP _,fun k hk=>
 ⟨⟨hk.1,hk.2.1,fun c x hx ho=>by
  simp only[G.cU]at hx;split at hx
  ·simp only[aaC]at hx;subst hx;cases ho
  ·exact hk.2.2 c x hx ho⟩,rfl⟩,fun _ hd=>.inl hd,fun c hd=>by simp only[G.cU];rw[aaF (fun e=>h (by grind))];exact GB.step.refl _,rfl,fun _ _=>rfl⟩
theorem az.cU{g:G}(hh:az g w H):az (g.cU H.length) w (H++[some .nil]):=by
 have QV:¬g.cV H.length:=fun h=>Nat.lt_irrefl _ (hh.cV _ h)
 have he:cg g w (g.cU H.length) w:=cg.cU QV;refine⟨fun b hb=>?_,fun b x hx=>?_,fun b y hy=>?_,fun b b' x x' k hx je hk lC=>?_,fun k hk=>?_ ⟩
 ·simp only[G.cU]at hb;simp only[aaZ,abj];rcases hb with hb|hb
  ·have:=hh.cV b hb;omega
  ·omega
 ·simp only[G.cU]at hx⊢;split at hx
  ·rename_i e;subst e;simp only[aaC]at hx;subst hx;simp_all[oa,RB]
  ·rename_i e;obtain⟨h1,y,h2,h3⟩:=hh.live b x hx;exact⟨.inl h1,y,by grind[oa],h3.ext he (fun k _=>rfl)⟩
 ·rw[oa]at hy;simp only[G.cU];split at hy
  ·simp_all
  ·rename_i e;obtain⟨x,hx⟩:=hh.back b y hy;grind
 ·simp only[G.cU]at hx je;split at hx
  ·simp only[aaC]at hx;subst hx;cases hk
  ·split at je
   ·simp only[aaC]at je;subst je;cases lC
   ·exact hh.inj b b' x x' k hx je hk lC
 ·refine⟨(hh.fo k hk).1,fun b x hx=>?_ ⟩;simp only[G.cU]at hx;split at hx
  ·simp only[aaC]at hx;subst hx;intro h;cases h
  ·exact(hh.fo k hk).2 b x hx
theorem an.oK(s sz:Nat)(hm:m<=H.length)(hs:get tm s=.ad)(e1:put tm s (.sl H.length 0 0 0 sz)=aW):an m ⟨n,tm,H⟩ ⟨n,aW,H++[some .nil]⟩:=by
 subst e1;intro GL g w a hr;have QV:¬g.cV H.length:=fun h=>Nat.lt_irrefl _ (hr.heap.cV _ h)
 have he:cg g w (g.cU H.length) w:=cg.cU QV;refine⟨g.cU H.length,⟨hr.defers,hr.size,fun t=>?_,hr.heap.cU,hr.dJ.ext he⟩,fun g0 w0 _ h=>h.trans he⟩;show RV _ _ (get (put tm s _) t) _;rw[lA];by_cases ht:t=s
 ·subst ht;have:=hr.tmps t;change RV g w (get tm t) _ at this;rw[hs]at this;simp only[RV]at this;rw[aaK rfl,this];simp only[RV];refine⟨⟨rfl,.inr rfl⟩,fun x hx=>?_ ⟩;simp only[G.cU,abL,aaC]at hx;grind
 ·rw[aaF ht];exact RV.ext he _ _ (hr.tmps t)
theorem aT.CW{g g':G}{w:World}(he:cg g w g' w){v:V}(hv:RV g' w v (.slice none 0 0)):∀(cs:List V)(vs:List Value)(j:Nat),cs[j]? =some .ad->aT g w cs vs->aT g' w (cs.set j v) vs
 |[],_,j,h,_=>by simp at h
 |c::cs,[],_,_,hr=>by grind[aT]
 |c::cs,x::vs,0,h,hr=>by simp only[ab0,aaC]at h;subst h;simp only[aT,RV]at hr;simp only[List.set_cons_zero,aT];rw[hr.1];exact⟨hv,aT.ext he _ _ hr.2⟩
 |c::cs,x::vs,j+1,h,hr=>by simp only[aT]at hr;simp only[List.set_cons_succ,aT];exact⟨RV.ext he _ _ hr.1,aT.CW he hv cs vs j (by grind) hr.2⟩
theorem an.AK(b j sz:Nat){cs:List V}(hm:m<=H.length)(hb:aF H b=some (.cells cs))(hj:cs[j]? =some .ad)(e1:bJ H b (.cells (cs.set j (.sl H.length 0 0 0 sz)))++[some .nil]=H'):an m ⟨n,tm,H⟩ ⟨n,tm,H'⟩:=by
 subst e1;intro GL g w a hr;have b8:=lB hb;have QV:¬g.cV H.length:=fun h=>Nat.lt_irrefl _ (hr.heap.cV _ h)
 have he:cg g w (g.cU H.length) w:=cg.cU QV;have NF:=hr.heap.cU;have hlen:(bJ H b (.cells (cs.set j (.sl H.length 0 0 0 sz)))).length=H.length:=gY b8;have hg:∀c,aF (bJ H b (.cells (cs.set j (.sl H.length 0 0 0 sz)))++[some .nil]) c=if c=b then some (.cells (cs.set j (.sl H.length 0 0 0 sz)))else aF (H++[some .nil]) c:=by grind[oa,dT]
 refine⟨g.cU H.length,⟨hr.defers,hr.size,fun t=>RV.ext he _ _ (hr.tmps t),⟨fun c hc=>?_,fun c x hx=>?_,fun c y hy=>?_,NF.inj,NF.fo⟩,hr.dJ.ext he⟩,fun g0 w0 _ h=>h.trans he⟩
 ·have:=NF.cV c hc;grind
 ·obtain⟨h1,y,h2,h3⟩:=NF.live c x hx;refine⟨h1,?_⟩;show∃y,aF _ c=some y/\_;rw[hg];by_cases hc:c=b
  ·subst hc;rw[aaK rfl];refine⟨_,rfl,?_⟩;simp only[G.cU,aaF (show¬c=H.length by omega)]at hx;obtain⟨_,y',k2,k3⟩:=hr.heap.live c x hx;rw[hb]at k2;simp only[aaC]at k2;subst k2;cases x with
    |cells aU cp cur=>
     simp only[RB]at k3⊢;obtain⟨r1,r2,r3,cc,e,r4,r5,r6⟩:=k3;refine⟨by simp[r1],?_,by simp[r3],cc,e,r4,r5,?_ ⟩
     ·rw[aa3]at r2⊢;intro v hv;rcases acU hv with h|h
      ·grind
      ·subst h;rfl
     ·rw[abg];refine aT.CW he ?_ cs _ j hj r6;simp only[RV];refine⟨⟨rfl,.inr rfl⟩,fun x hx=>?_ ⟩;simp only[G.cU,abL,aaC]at hx;grind
    |_=>grind[RB]
  grind
 ·rw[hg]at hy;by_cases hc:c=b
  ·subst hc;obtain⟨x,hx⟩:=hr.heap.back c _ hb;exact⟨x,by grind[G.cU]⟩
  ·rw[aaF hc]at hy;exact NF.back c y hy
theorem CG.tidy{c:IR}(ht:an H.length ⟨n,tm,H⟩ ⟨n,aW,H'⟩)(h:CG P GL (.code c) K n aW H' Q):CG P GL (.code c) K n tm H Q:=WC.tidy (σ:=⟨n,tm,H⟩) ht h
theorem WO.tidy{σ aY:St}{Q:St->Prop}(ht:an σ.hp.length σ aY)(h:WO P GL l aY Q):WO P GL l σ Q:=by intro ops k hc g w a hr;obtain⟨g',h1,h2⟩:=ht GL g w a hr;exact dt (di.ext (h2 g w (fun b hb=>hr.heap.cV b hb) (cg.refl _ _))) _ _ _ (h ops k hc g' w a h1)
theorem CG.vn(ht:an H.length ⟨n,tm,H⟩ ⟨n,aW,H'⟩)(h:CG P GL (.ops l) K n aW H' Q):CG P GL (.ops l) K n tm H Q:=WO.tidy (σ:=⟨n,tm,H⟩) ht h
theorem ltT(h:ax a b=true):a<b:=by grind[fF]
theorem ltF(h:ax a b=false):b<=a:=by grind[fF]
theorem eqT(h:aQ a b=true):a=b:=by grind[nv]
theorem eqF(h:aQ a b=false):a≠b:=by grind[nv]
theorem cx(h:a<b):ax a b=true:=by grind[fF]
theorem cL(h:b<=a):ax a b=false:=by grind[fF]
theorem gM(h:a=b):aQ a b=true:=by grind[nv]
theorem fj(h:a≠b):aQ a b=false:=by grind[nv]
theorem W_(h:(a==b)=true):a=b:=by grind
theorem Xa(h:(a==b)=false):a≠b:=by grind
theorem QW(h:a≠b):(a !=b)=true:=by grind
theorem QX(h:a=b):(a !=b)=false:=by grind
theorem Mn(h:a=b):(a==b)=true:=by grind
theorem QY(h:a≠b):(a==b)=false:=by grind
theorem al{aa:α->List D}{l:List α}{i:Nat}{x:α}(h:l[i]? =some x):(l.map aa)[i]? =some (aa x):=by grind
theorem CG.eT{op:lv}{v:V}{wr:Wr}(ho:l.head?=some ⟨some d,op,g,af⟩)(hg:aA g tm=some true)(he:bE (aZ GL tm) H H.length op=some (v,wr))(hH:br H wr=H')(hd:Nat.blt d n=true)(hq:CG P GL (.ops (l.drop 1)) K n (put tm d v) H' Q):CG P GL (.ops l) K n tm H Q:=by subst hH;refine WO.head ho (WO.bE (v:=v) (wr:=wr) (aY:=⟨n,put tm d v,br H wr⟩) hg he ?_ hq);simp_all[bc]
theorem CG.FK(aa:α->List D)(as ys:List α){bytes b:Nat}{x y:a_}(cK:∀a,(aa a).length=sz)(h0:Nat.blt 0 sz=true)(ho:l.head?=some ⟨some d,.append sz bytes x y,g,af⟩)(hg:aA g tm=some true)(hx:aZ GL tm x=.sl b (as.length*sz) 0 as.length sz)(hH:aF H b=some (ah aa as))(hy:bt H sz (aZ GL tm y)=some ((ys.flatMap aa).map .d))(hr:(as.length+ys.length)*sz*(bytes+1)<=1099511627776)(hd:Nat.blt d n=true)(Xb:bJ H b (ah aa (as++ys))=H')(hq:CG P GL (.ops (l.drop 1)) K n (put tm d (.sl b ((as++ys).length*sz) 0 (as++ys).length sz)) H' Q):CG P GL (.ops l) K n tm H Q:=by
 have KL:0<sz:=by simp_all
 obtain⟨wr,e1,e2⟩:=AI (H:=H) (ns:=H.length) (sz:=sz) (bytes:=bytes) (b:=b) (len:=as.length) (k:=ys.length) (cs:=(as.flatMap aa).map .d) (xs:=(ys.flatMap aa).map .d) KL hH (by simp[bn cK]) (by simp[bn cK]) (by simp[eK]) (by grind[bI]);refine CG.eT ho hg (v:=.sl b ((as++ys).length*sz) 0 (as++ys).length sz) (wr:=wr) ?_ ?_ hd hq;all_goals grind[bE,List.length_append,ah]
theorem H4{aa:α->List D}{as:List α}{b:Nat}(cK:∀a,(aa a).length=sz)(hH:aF H b=some (ah aa as)):iw H .slice (.sl b (as.length*sz) 0 as.length sz)=some as.length:=by
 have:ff H b (as.length*sz)=true:=by unfold ff;rw[hH];have hl:=bn cK as;unfold ah eR;cases h:as.flatMap aa<;>simp_all
 simp_all[iw,aaJ]
theorem CG.tT(aa:α->List D)(as:List α){b:Nat}{x:a_}(cK:∀a,(aa a).length=sz)(ho:l.head?=some ⟨some d,.len .slice x,g,af⟩)(hg:aA g tm=some true)(hx:aZ GL tm x=.sl b (as.length*sz) 0 as.length sz)(hH:aF H b=some (ah aa as))(hd:Nat.blt d n=true)(hq:CG P GL (.ops (l.drop 1)) K n (put tm d (.d (.int .i64 (.ofNat as.length)))) H Q):CG P GL (.ops l) K n tm H Q:=CG.eT ho hg (wr:=none) (by simp only[bE,hx,H4 cK hH];rfl) rfl hd hq
def oO(GL:ch)(tm:List (Nat×V))(d:Nat):Option a_->Option Nat|some x=>ct (aZ GL tm x)|none=>some d
theorem kW{p q:Nat}{lo hi:Option a_}(kQ:oO GL tm 0 lo=some p)(jD:oO GL tm n hi=some q)(h1:p<=q)(h2:q<=n):bounds (aZ GL tm) n lo hi=some (p,q):=by
 have k1:Nat.ble p q=true:=by simp_all
 have k2:Nat.ble q n=true:=by simp_all
 cases lo with
  |none=>
   simp only[oO,aaC]at kQ;cases hi with
    |none=>simp only[oO,aaC]at jD;subst kQ;subst jD;simp only[bounds,k1,k2,abf,aaJ]
    |some y=>simp only[oO]at jD;subst kQ;simp only[bounds,jD,k1,k2,abf,aaJ]
  |some x=>
   simp only[oO]at kQ;cases hi with
    |none=>simp only[oO,aaC]at jD;subst jD;simp only[bounds,kQ,k1,k2,abf,aaJ]
    |some y=>simp only[oO]at jD;simp only[bounds,kQ,jD,k1,k2,abf,aaJ]
theorem CG.PG(p q:Nat){x:a_}{s:List UInt8}{lo hi:Option a_}(ho:l.head?=some ⟨some d,.ku x lo hi,g,af⟩)(hg:aA g tm=some true)(hx:aZ GL tm x=.d (.str s))(kQ:oO GL tm 0 lo=some p)(jD:oO GL tm s.length hi=some q)(H5:p<=q/\q<=s.length)(hd:Nat.blt d n=true)(hq:CG P GL (.ops (l.drop 1)) K n (put tm d (.d (.str ((s.take q).drop p)))) H Q):CG P GL (.ops l) K n tm H Q:=by have hb:bounds (aZ GL tm) s.length lo hi=some (p,q):=kW kQ jD H5.1 H5.2;refine CG.eT ho hg (v:=.d (.str ((s.take q).drop p))) (wr:=none) ?_ rfl hd hq;grind[bE]
theorem CG.QZ{f:FuncId}{first cap:List V}{x:a_}{args:List a_}{vs:List V}{v:V}(h:PC P GL f vs v)(ho:l.head?=some ⟨some d,.gV x args,g,af⟩)(hg:aA g tm=some true)(hx:aZ GL tm x=.func f first cap)(ha:first++bu (aZ GL tm) args++cap=vs)(hd:Nat.blt d n=true)(hq:CG P GL (.ops (l.drop 1)) K n (put tm d v) H Q):CG P GL (.ops l) K n tm H Q:=by subst ha;refine WO.head ho (WO.gV rfl hx hg (WF.Fx h ⟨⟨n,put tm d v,H⟩,?_,hq⟩));simp_all[bc]
theorem CG.bp{β:Type}(l:List β)(I:Nat->α->List (Nat×V))(J:Nat->α->ao)(Q1:Nat->α->List β->Prop)(a0:α)(h0:Q1 0 a0 l){b:IR}(hs:an H.length ⟨n,tm,H⟩ ⟨n,I 0 a0,J 0 a0⟩)(Ho:∀i a,i=l.length->l.drop i=[]->Q1 i a []->CG P GL (.code b) [] n (I i a) (J i a) (LQ P GL K Q fun _=>False))(Q2:∀i a x r,l.drop i=x::r->l[i]? =some x->i<l.length->Q1 i a (x::r)->CG P GL (.code b) [] n (I i a) (J i a) (LQ P GL K Q fun s=>∃a',Q1 (i+1) a' r/\an (J i a).length s ⟨n,I (i+1) a',J (i+1) a'⟩)):CG P GL (.code (.loop b)) K n tm H Q:=by
 refine CG.po (α:=Nat×α) (fun p=>I p.1 p.2) (fun p=>J p.1 p.2) (fun p=>p.1<=l.length/\Q1 p.1 p.2 (l.drop p.1)) (fun p=>l.length - p.1) (0,a0) ⟨aby _,h0⟩ hs ?_;rintro⟨i,a⟩ ⟨hi,aI⟩;rcases abG i l.length with b8|Qb
 ·have hx:l.drop i=l[i]::l.drop (i+1):=ab8 b8;have:=Q2 i a l[i] (l.drop (i+1)) hx (aaI b8) b8 (by grind);refine WC.mono this fun e s hq=>?_
  cases e with
   |normal=>obtain⟨a',k1,k2⟩:=hq;exact⟨(i+1,a'),⟨b8,k1⟩,by grind,k2⟩
   |exit j=>exact hq
   |ret=>exact hq
 grind
end
end Fw
/-
  Walks through functions that look into their caller's boxes.
-/
namespace Fw
open Go
def mO(rs:List iv)(R:V->ao->Prop):Ex->St->Prop| .exit _,_=>False|_,σ=>∃v,gH rs σ=some v/\R v σ.hp
def sn(v:V)(H:ao):V->ao->Prop:=fun r k=>r=v/\k=H
section
variable {P:Program}{GL:ch}
variable {H:ao}{K:List Fr}{n d:Nat}{tm:List (Nat×V)}{R:V->ao->Prop}{f:FuncId}{rs:List iv}{g:Option (Nat×Bool)}{af:List Nat}{l:List aj}{Q:Ex->St->Prop}{vs:List V}{v:V}
theorem CG.jw{fn:ca}{args:List V}(hf:aC P f=some fn)(Cz:ak P f=true)(hc:Nat.ble args.length fn.ntmps=true)(h:CG P GL (.code fn.body) [] fn.ntmps (wP 0 args) H (mO fn.res R)):WF P GL f args H R:=WF.body hf Cz (aaN hc) (WC.mono h fun e s hq=>by cases e<;>exact hq)
theorem CG.aas{v':V}(h:gH rs ⟨n,tm,H⟩=some v')(e:R v' H):CG P GL (.code .ret) K n tm H (mO rs R):=WC.ret (KQ.ret (show mO rs R .ret _ from⟨v',h,e⟩))
theorem CG.ls(v':V)(e:R v' H)(h:gH rs ⟨n,tm,H⟩=some v':=by kernel_rfl):CG P GL (.code .ret) K n tm H (mO rs R):=CG.aas h e
theorem CG.Q3{K1:List Fr}{v':V}{S:St->Prop}(h:gH rs ⟨n,tm,H⟩=some v')(e:R v' H):CG P GL (.code .ret) K1 n tm H (LQ P GL K (mO rs R) S):=WC.ret (KQ.ret (show KQ P GL K (mO rs R) .ret _ from KQ.ret (show mO rs R .ret _ from⟨v',h,e⟩)))
theorem CG.H6{K1:List Fr}{S:St->Prop}(v':V)(e:R v' H)(h:gH rs ⟨n,tm,H⟩=some v':=by kernel_rfl):CG P GL (.code .ret) K1 n tm H (LQ P GL K (mO rs R) S):=CG.Q3 h e
theorem CG.Mo{args:List a_}(h:WF P GL f vs H R)(ho:l.head?=some ⟨some d,.call f args,g,af⟩)(hg:aA g tm=some true)(ha:bu (aZ GL tm) args=vs)(hd:Nat.blt d n=true)(hq:∀v H',R v H'->CG P GL (.ops (l.drop 1)) K n (put tm d v) H' Q):CG P GL (.ops l) K n tm H Q:=by subst ha;refine WO.head ho (WO.call rfl hg (h.mono ?_ ));intro v H' hr;refine⟨⟨n,put tm d v,H'⟩,?_,hq v H' hr⟩;simp_all[bc]
theorem CG.wf{H':ao}{args:List a_}(h:WF P GL f vs H (sn v H'))(ho:l.head?=some ⟨some d,.call f args,g,af⟩)(hg:aA g tm=some true)(ha:bu (aZ GL tm) args=vs)(hd:Nat.blt d n=true)(hq:CG P GL (.ops (l.drop 1)) K n (put tm d v) H' Q):CG P GL (.ops l) K n tm H Q:=CG.Mo h ho hg ha hd (by rintro v' H2 ⟨e1,e2⟩;grind)
theorem CG.wfv{H':ao}{first cap:List V}{x:a_}{args:List a_}(h:WF P GL f vs H (sn v H'))(ho:l.head?=some ⟨some d,.gV x args,g,af⟩)(hg:aA g tm=some true)(hx:aZ GL tm x=.func f first cap)(ha:first++bu (aZ GL tm) args++cap=vs)(hd:Nat.blt d n=true)(hq:CG P GL (.ops (l.drop 1)) K n (put tm d v) H' Q):CG P GL (.ops l) K n tm H Q:=by subst ha;refine WO.head ho (WO.gV rfl hx hg (h.mono ?_ ));rintro v' H2 ⟨e1,e2⟩;rw[e1,e2];refine⟨⟨n,put tm d v,H'⟩,?_,hq⟩;simp_all[bc]
theorem WF.same{args:List V}(h:PC P GL f args v)(H:ao):WF P GL f args H (sn v H):=WF.Fx h ⟨rfl,rfl⟩
end
end Fw
/-
  Drawn regions that write nothing, walked operation by operation.
-/
namespace Fw
open Go
theorem sq(n:Nat):∀(l:List D),av n (l.map .d)=true|[]=>rfl|d::l=>by simp only[aaV,av,au,abd];exact sq n l
theorem aw{α:Type}(n:Nat)(aa:α->List D)(l:List α):ef n (ah aa l)=true:=by
 unfold ah eR;cases h:((l.flatMap aa).map V.d).isEmpty with
  |true=>rfl
  |false=>simp only[aaT,ef];exact sq n _
def tU(tm:List (Nat×V))(d:Option Nat)(v:V):List (Nat×V):=match d with
 |none=>tm
 |some d=>put tm d v
def AO(P:Program)(GL:ch)(base:Nat)(Hp:ao):Nat->List aj->List (Nat×V)->(List (Nat×V)->Prop)->Prop|_,[],tm,Q=>Q tm|i,o::l,tm,Q=>∃cv v,gn GL tm Hp (base+i) o cv=some (v,none)/\(∀f args,bX o.op=some (f,args)->aA o.guard tm=some true->g_ P GL f (bu (aZ GL tm) args) Hp v)/\AO P GL base Hp (i+1) l (tU tm o.dst v) Q
section
variable {P:Program}{GL:ch}
variable {l:List aj}{tm:List (Nat×V)}{base i d:Nat}{Hp:ao}{Q:List (Nat×V)->Prop}{g:Option (Nat×Bool)}{af:List Nat}
theorem AO.runs{base n:Nat}{Hp:ao}:∀{l:List aj}{i:Nat}{tm:List (Nat×V)}{Q:List (Nat×V)->Prop},AO P GL base Hp i l tm Q->∃(FL:List (Option V))(rs:List ((V×Wr)×List Nat))(aW:List (Nat×V)),FL.length=l.length/\(∀qc:Nat->Option V,(∀j c,FL[j]? =some c->qc (i+j)=c)->pG GL base qc i l ⟨n,tm,Hp⟩=some rs)/\wR rs=true/\aK (fun _=>true) i l rs ⟨n,tm,Hp⟩=⟨n,aW,Hp⟩/\Q aW/\∀k o r,l[k]? =some o->rs[k]? =some r->∀f args,bX o.op=some (f,args)->aA o.guard (aK (fun j=>decide (j<i+k)) i l rs ⟨n,tm,Hp⟩).tm=some true->g_ P GL f (bu (aZ GL (aK (fun j=>decide (j<i+k)) i l rs ⟨n,tm,Hp⟩).tm) args) (aK (fun j=>decide (j<i+k)) i l rs ⟨n,tm,Hp⟩).hp r.1.1
 |[],i,tm,Q,h=>⟨[],[],tm,rfl,fun _ _=>rfl,rfl,rfl,h,by simp⟩
 |o::l,i,tm,Q,h=>by
  obtain⟨cv,v,h1,h2,h3⟩:=h;obtain⟨FL,rs,aW,k1,k2,k3,k4,k5,k6⟩:=AO.runs (n:=n) h3;have bJ:St.iS ⟨n,tm,Hp⟩ o.dst v Hp=⟨n,tU tm o.dst v,Hp⟩:=by unfold St.iS tU;grind
  refine⟨cv::FL,((v,none),mV (aZ GL tm) o.op)::rs,aW,by simp[k1],fun qc Q4=>?_,by grind[wR],?_,k5,fun k o' r ho hr f args dz hg=>?_ ⟩
  ·have e0:qc i=cv:=by simpa using Q4 0 cv rfl
   simp only[pG,e0,h1,br,bJ];rw[k2 qc fun j c hj=>by have:=Q4 (j+1) c (by grind);grind]
  ·simp_all[aK,aaJ,br,bJ]
  ·cases k with
    |zero=>simp only[ab0,aaC]at ho hr;subst ho;subst hr;rw[jq (fun j hj=>aaS (by omega))]at hg⊢;grind
    |succ k=>
     simp only[ace]at ho hr;have e:i+(k+1)=i+1+k:=by omega
     have hs:aK (fun j=>decide (j<i+(k+1))) i (o::l) (((v,none),mV (aZ GL tm) o.op)::rs) ⟨n,tm,Hp⟩=aK (fun j=>decide (j<i+1+k)) (i+1) l rs ⟨n,tU tm o.dst v,Hp⟩:=by simp only[aK,e,show decide (i<i+1+k)=true by simp;omega,aaJ,br,bJ]
     grind
theorem tB{m:Nat}:∀{rs:List ((V×Wr)×List Nat)},wR rs=true->e8 m rs=true
 |[],_=>rfl
 |r::rs,h=>by
  simp only[wR]at h;split at h
  ·rename_i hr;simp only[e8,aaX,hr,bU,abd];exact tB h
  ·cases h
theorem CG.eF(hm:P.follows .mixedOrders=true){K:List Fr}{n:Nat}{H:ao}{Q:Ex->St->Prop}(Ck:(pH l&&gx n l)=true)(hH:aB H.length H=true)(h:AO P GL H.length (H++List.replicate l.length none) 0 l tm (fun aW=>∃cm fG,fD cm aW=fG/\u4 H.length fG=true/\CG P GL (.out .normal) K n fG H Q)):CG P GL (.code (.draw l)) K n tm H Q:=by
 rw[aaD]at Ck;obtain⟨FL,rs,aW,k1,k2,k3,k4,k5,k6⟩:=AO.runs (n:=n) h;have hw:WC P GL (.draw l) ⟨n,tm,H⟩ (fun e s=>e=.normal/\s=⟨n,aW,H++List.replicate l.length none⟩):=by
  refine WC.draw (σ:=⟨n,tm,H⟩) hm (qc:=fun i=>(FL[i]? ).bind id) (rs:=rs) ?_ ?_ Ck.2 (tB k3) (fun i o r ho hr f args dz hg=>?_ ) ?_
  ·exact k2 _ fun j c hj=>by simp[hj]
  ·simp_all[dW,Bool.true_or,abf]
  ·have:=k6 i o r ho hr f args dz;simp only[aaY]at this;exact this hg
  ·refine⟨rfl,?_⟩;exact k4
 show WC P GL (.draw l) ⟨n,tm,H⟩ (KQ P GL K Q);refine WC.post (hw.mono ?_ );rintro e s ⟨rfl,rfl⟩;obtain⟨cm,fG,e1,e2,e3⟩:=k5;refine⟨⟨n,fG,H⟩,an.clean (cm:=cm) (aaP _) ?_,e3⟩;unfold gQ;grind
theorem AO.nil{base i:Nat}{Hp:ao}{l:List aj}{tm:List (Nat×V)}{Q:List (Nat×V)->Prop}(hl:l.length=0)(h:Q tm):AO P GL base Hp i l tm Q:=by
 cases l with
  |nil=>exact h
  |cons o l=>simp at hl
def CX(GL:ch)(base:Nat)(Hp:ao):Nat->Nat->List aj->List (Nat×V)->Option (List (Nat×V))
 |0,_,_,tm=>some tm
 |k+1,i,o::l,tm=>
  match bX o.op,aA o.guard tm with
   |some _,some true=>none
   |_,_=>
    match gn GL tm Hp (base+i) o none with
     |some (v,none)=>CX GL base Hp k (i+1) l (tU tm o.dst v)
     |_=>none
 |_+1,_,[],_=>none
theorem AO.run{base:Nat}{Hp:ao}{Q:List (Nat×V)->Prop}:∀(k:Nat){i:Nat}{l:List aj}{tm aW:List (Nat×V)},CX GL base Hp k i l tm=some aW->AO P GL base Hp (i+k) (l.drop k) aW Q->AO P GL base Hp i l tm Q
 |0,_,_,_,_,h1,h2=>by grind[CX,Option.some.injEq]
 |k+1,_,[],_,_,h1,_=>by grind[CX]
 |k+1,i,o::l,tm,aW,h1,h2=>by
  have key:∀v,gn GL tm Hp (base+i) o none=some (v,none)->(∀f args,bX o.op=some (f,args)->aA o.guard tm≠some true)->CX GL base Hp k (i+1) l (tU tm o.dst v)=some aW->AO P GL base Hp i (o::l) tm Q:=by intro v e1 e2 e3;exact⟨none,v,e1,fun f args hc hg=>absurd hg (e2 f args hc),AO.run k e3 (by grind)⟩
  unfold CX at h1;grind
theorem AO.head{o:aj}(ho:l.head?=some o)(h:AO P GL base Hp i (o::l.drop 1) tm Q):AO P GL base Hp i l tm Q:=by cases l<;>grind
theorem AO.eT{op:lv}{v:V}(ho:l.head?=some ⟨some d,op,g,af⟩)(hg:aA g tm=some true)(hc:bX op=none)(he:bE (aZ GL tm) Hp (base+i) op=some (v,none))(hq:AO P GL base Hp (i+1) (l.drop 1) (put tm d v) Q):AO P GL base Hp i l tm Q:=by refine AO.head ho ⟨none,v,?_,fun f args h=>?_,hq⟩;all_goals grind[gn]
theorem AO.idx{sz:Nat}{x k:a_}{es:List (List D)}{j:Nat}{e:List D}(he:es[j]? =some e)(ho:l.head?=some ⟨some d,.cF sz x k,g,af⟩)(hg:aA g tm=some true)(hx:aZ GL tm x=.d (.list es))(hi:ct (aZ GL tm k)=some j)(hd:Nat.beq e.length sz=true)(hq:AO P GL base Hp (i+1) (l.drop 1) (put tm d (.bB e)) Q):AO P GL base Hp i l tm Q:=AO.eT ho hg rfl (by simp_all[bE,aaJ]) hq
theorem AO.gz{x k:a_}{s:List UInt8}{j:Nat}{b:UInt8}(he:s[j]? =some b)(ho:l.head?=some ⟨some d,.gz x k,g,af⟩)(hg:aA g tm=some true)(hx:aZ GL tm x=.d (.str s))(hi:ct (aZ GL tm k)=some j)(hq:AO P GL base Hp (i+1) (l.drop 1) (put tm d (.d (.int .u8 b.toNat))) Q):AO P GL base Hp i l tm Q:=AO.eT ho hg rfl (by grind[bE]) hq
theorem AO.Mp{α:Type}(aa:α->List D)(as:List α)(p q:Nat){sz:Nat}{x:a_}{lo hi:Option a_}(cK:∀a,(aa a).length=sz)(ho:l.head?=some ⟨some d,.fY sz x lo hi,g,af⟩)(hg:aA g tm=some true)(hx:aZ GL tm x=.d (.list (as.map aa)))(kQ:oO GL tm 0 lo=some p)(jD:oO GL tm (as.map aa).length hi=some q)(H5:p<=q/\q<=as.length)(hq:AO P GL base Hp (i+1) (l.drop 1) (put tm d (.d (.list (((as.take q).drop p).map aa)))) Q):AO P GL base Hp i l tm Q:=by
 have lN:(as.map aa).all (fun e=>Nat.beq e.length sz)=true:=by simp_all
 have hb:bounds (aZ GL tm) (as.map aa).length lo hi=some (p,q):=kW kQ jD H5.1 (by grind);refine AO.eT ho hg rfl (v:=.d (.list (((as.take q).drop p).map aa))) ?_ hq;simp only[bE,hx,lN,aaJ,hb,aaU,ac2,acO]
theorem AO.PG(p q:Nat){x:a_}{s:List UInt8}{lo hi:Option a_}(ho:l.head?=some ⟨some d,.ku x lo hi,g,af⟩)(hg:aA g tm=some true)(hx:aZ GL tm x=.d (.str s))(kQ:oO GL tm 0 lo=some p)(jD:oO GL tm s.length hi=some q)(H5:p<=q/\q<=s.length)(hq:AO P GL base Hp (i+1) (l.drop 1) (put tm d (.d (.str ((s.take q).drop p)))) Q):AO P GL base Hp i l tm Q:=by have hb:bounds (aZ GL tm) s.length lo hi=some (p,q):=kW kQ jD H5.1 H5.2;refine AO.eT ho hg rfl (v:=.d (.str ((s.take q).drop p))) ?_ hq;grind[bE]
theorem AO.mN{f:FuncId}{args:List a_}{vs:List V}{v:V}(h:PC P GL f vs v)(ho:l.head?=some ⟨some d,.call f args,g,af⟩)(hg:aA g tm=some true)(ha:bu (aZ GL tm) args=vs)(hq:AO P GL base Hp (i+1) (l.drop 1) (put tm d v) Q):AO P GL base Hp i l tm Q:=by
 subst ha;refine AO.head ho ⟨some v,v,?_,fun f' Q5 hc _=>?_,hq⟩
 ·grind[gn,bX]
 ·simp only[bX,aaC,aaE]at hc;obtain⟨rfl,rfl⟩:=hc;exact h.uY
theorem AO.done{fG:List (Nat×V)}{m n:Nat}{K:List Fr}{H:ao}{Q:Ex->St->Prop}(cm:List Nat)(hl:l.length=0)(e1:fD cm tm=fG)(e2:u4 m fG=true)(hq:CG P GL (.out .normal) K n fG H Q):AO P GL base Hp i l tm (fun aW=>∃cm fG,fD cm aW=fG/\u4 m fG=true/\CG P GL (.out .normal) K n fG H Q):=AO.nil hl ⟨cm,fG,e1,e2,hq⟩
end
end Fw
/-
  Own rows that are born as empty ones (and never nil), over open data; nil rows as data.
-/
namespace Fw
open Go
variable {α:Type}
def cd(aa:α->List D)(l:List α):fJ:=.cells ((l.flatMap aa).map .d)
theorem pR(b:Nat)(aa:α->List D)(l:List α):fi b (some (cd aa l)):=vk b _
theorem bj(n:Nat)(aa:α->List D)(l:List α):ef n (cd aa l)=true:=sq n _
section
variable {P:Program}{GL:ch}
variable {H:ao}{sz b n:Nat}{tm:List (Nat×V)}{α:Type}
theorem qU{ns bytes len k:Nat}{cs xs:List V}(h0:0<sz)(hH:aF H b=some (.cells cs))(hl:cs.length=len*sz)(hk:xs.length=k*sz)(hx:xs.all eK=true)(hr:(len+k)*sz*(bytes+1)<=bI):dr H ns sz bytes (.sl b (len*sz) 0 len sz) xs=some (.sl b ((len+k)*sz) 0 (len+k) sz,some (b,.cells (cs++xs))):=by
 have h1:Nat.beq sz 0=false:=cB (by omega);have h2:Nat.beq (xs.length%sz) 0=true:=by simp_all
 have rT:xs.length / sz=k:=by simp_all
 have HZ:len*sz+xs.length=(len+k)*sz:=by grind
 have hb:Nat.ble ((len+k)*sz*(bytes+1)) bI=true:=by simp_all
 unfold dr;simp only[h1,h2,hx,abF,aaT,aa4,aaJ,hH,hl,acn,HZ,hb,rT]
theorem CG.H7(aa:α->List D)(as ys:List α){d:Nat}{g:Option (Nat×Bool)}{af:List Nat}{l:List aj}{K:List Fr}{H':ao}{Q:Ex->St->Prop}{bytes:Nat}{x y:a_}(cK:∀a,(aa a).length=sz)(h0:Nat.blt 0 sz=true)(ho:l.head?=some ⟨some d,.append sz bytes x y,g,af⟩)(hg:aA g tm=some true)(hx:aZ GL tm x=.sl b (as.length*sz) 0 as.length sz)(hH:aF H b=some (cd aa as))(hy:bt H sz (aZ GL tm y)=some ((ys.flatMap aa).map .d))(hr:(as.length+ys.length)*sz*(bytes+1)<=1099511627776)(hd:Nat.blt d n=true)(Xb:bJ H b (cd aa (as++ys))=H')(hq:CG P GL (.ops (l.drop 1)) K n (put tm d (.sl b ((as++ys).length*sz) 0 (as++ys).length sz)) H' Q):CG P GL (.ops l) K n tm H Q:=by
 have KL:0<sz:=by simp_all
 have e1:=qU (H:=H) (ns:=H.length) (sz:=sz) (bytes:=bytes) (b:=b) (len:=as.length) (k:=ys.length) (cs:=(as.flatMap aa).map .d) (xs:=(ys.flatMap aa).map .d) KL hH (by simp[bn cK]) (by simp[bn cK]) (by simp[eK]) (by grind[bI]);refine CG.eT ho hg (v:=.sl b ((as++ys).length*sz) 0 (as++ys).length sz) (wr:=some (b,.cells ((as.flatMap aa).map .d++(ys.flatMap aa).map .d))) ?_ ?_ hd hq;all_goals grind[bE,List.length_append,br,cd]
theorem xC{aa:α->List D}{l:List α}(h:aF H b=some (cd aa l)):wN H b=some (l.flatMap aa):=by unfold wN;rw[h];unfold cd;exact vm _
theorem an.H8(aa:α->List D)(as:List α){m:Nat}{aW:List (Nat×V)}{H':ao}(b s:Nat)(cK:∀a,(aa a).length=sz)(hs:get tm s=.sl b (as.length*sz) 0 as.length sz)(hH:aF H b=some (cd aa as))(Hk:vj b 0 H)(e1:put (vl b tm) s (.d (.list (as.map aa)))=aW)(e2:H.set b none=H'):an m ⟨n,tm,H⟩ ⟨n,aW,H'⟩:=by
 intro GL g w a hr;have hf:=pQ (ds:=as.flatMap aa) H 0 Hk;rw[aaK (aby _),acX]at hf;have NU:kS b ⟨n,tm,H⟩=some ⟨n,tm.map fun p=>(p.1,bS b (as.flatMap aa) p.2),H'⟩:=by unfold kS;rw[xC hH];simp only[hf];rw[qT (n_ hr.heap),aaJ,e2]
 refine(an.trans (an.qh NU) (an.nA fun t=>?_ )) GL g w a hr;subst e1;rw[lM (bS b (as.flatMap aa)) (by simp only[bS]),lA];by_cases ht:t=s
 ·subst ht;rw[aaK rfl,hs];left;have hle:Nat.ble (0+as.length*sz) (as.length*sz)=true:=by simp_all
  simp only[bS,aa4,aaJ,bn cK,hle,abf,abA,gL cK]
 ·rw[aaF ht,lX];cases hn:fh b (get tm t)with
   |true=>left;rw[aaJ,eE _ hn]
   |false=>right;rfl
theorem an.Q6{m:Nat}{aW:List (Nat×V)}(s:Nat)(hs:get tm s=.ad)(e1:put tm s (.d (.list []))=aW):an m ⟨n,tm,H⟩ ⟨n,aW,H⟩:=by
 subst e1;intro GL g w a hr;refine⟨g,⟨hr.defers,hr.size,fun t=>?_,hr.heap,hr.dJ⟩,fun g0 w0 _ h=>h⟩;show RV _ _ (get (put tm s _) t) _;rw[lA];by_cases ht:t=s
 ·subst ht;have:=hr.tmps t;grind[RV,Rd]
 ·rw[aaF ht];exact hr.tmps t
theorem su{h off len j:Nat}(hl:ff H b h=true)(hj:j<len){GL:ch}{x i:a_}(hx:aZ GL tm x=.sl b h off len sz)(hi:ct (aZ GL tm i)=some j)(ns:Nat):bE (aZ GL tm) H ns (.cF sz x i)=some (.ptr b h (off+j*sz),none):=by
 have:Nat.blt j len=true:=by simp_all
 simp only[bE,hi,hx,aa4,this,hl,abf,aaJ]
end
end Fw
/-
  Boxes behind the last one that anybody speaks of are dropped.
-/
namespace Fw
open Go
theorem AL{k:Nat}(h:k<9223372036854775808):aq .i64 (Int.ofNat (k+1) - 1)=Int.ofNat k:=by grind[cw,IntKind.wrap_i64,Int.ofNat_eq_natCast]
theorem xD{k:Nat}(h:k<9223372036854775808):IntKind.wrap .i64 (Int.ofNat (k+1) - 1)=Int.ofNat k:=by grind[IntKind.wrap_i64,Int.ofNat_eq_natCast]
theorem aD(n:Nat)(cs:List V):ef n (.cells cs)=av n cs:=rfl
theorem bx(n:Nat):ef n .nil=true:=rfl
theorem an.trim{m n:Nat}{tm:List (Nat×V)}{H H':ao}(p:Nat)(cm:List Nat)(hm:Nat.ble m p=true)(hk:fD cm tm=tm)(ht:u4 p tm=true)(e:H.take p=H')(hh:aB p H'=true):an m ⟨n,tm,H⟩ ⟨n,tm,H'⟩:=by refine an.clean (cm:=cm) (aaN hm) ?_;unfold gQ;grind
section
variable {P:Program}{GL:ch}
theorem LQ.ret{K:List Fr}{Q:Ex->St->Prop}{R:St->Prop}{s:St}(h:Q .ret s):LQ P GL K Q R .ret s:=KQ.ret h
theorem CG.Xc{K:List Fr}{n:Nat}{tm:List (Nat×V)}{H:ao}{Q:Ex->St->Prop}(h:Q .ret ⟨n,tm,H⟩):CG P GL (.code .ret) K n tm H Q:=WC.ret (KQ.ret h)
theorem mO.ret{rs:List iv}{R:V->ao->Prop}{v':V}{σ:St}(h:gH rs σ=some v')(e:R v' σ.hp):mO rs R .ret σ:=⟨v',h,e⟩
end
end Fw
/-
  A block whose last operations run: its end is the code's end.
-/
namespace Fw
open Go
variable {P:Program}{GL:ch}
theorem CG.KM{l:List aj}{id n:Nat}{K:List Fr}{tm:List (Nat×V)}{H:ao}{Q:Ex->St->Prop}(h:CG P GL (.ops l) K n tm H Q):CG P GL (.ops l) (.block id::K) n tm H Q:=h
end Fw
/-
  Drawn regions that write, walked operation by operation; that the order is free is checked at the end.
-/
namespace Fw
open Go
abbrev RS:=List ((V×Wr)×List Nat)
def AW(P:Program)(GL:ch)(base:Nat):Nat->List aj->List (Nat×V)->ao->(RS->List (Nat×V)->ao->Prop)->Prop|_,[],tm,H,Q=>Q [] tm H|i,o::l,tm,H,Q=>∃cv v wr,gn GL tm H (base+i) o cv=some (v,wr)/\(∀f args,bX o.op=some (f,args)->aA o.guard tm=some true->g_ P GL f (bu (aZ GL tm) args) H v)/\AW P GL base (i+1) l (tU tm o.dst v) (br H wr) (fun rs t k=>Q (((v,wr),mV (aZ GL tm) o.op)::rs) t k)
section
variable {P:Program}{GL:ch}
variable {tm:List (Nat×V)}{H:ao}{l:List aj}{base i d:Nat}{Q:RS->List (Nat×V)->ao->Prop}{g:Option (Nat×Bool)}{af:List Nat}
theorem AW.runs{base n:Nat}:∀{l:List aj}{i:Nat}{tm:List (Nat×V)}{H:ao}{Q:RS->List (Nat×V)->ao->Prop},AW P GL base i l tm H Q->∃(FL:List (Option V))(rs:RS)(aW:List (Nat×V))(H':ao),FL.length=l.length/\(∀qc:Nat->Option V,(∀j c,FL[j]? =some c->qc (i+j)=c)->pG GL base qc i l ⟨n,tm,H⟩=some rs)/\aK (fun _=>true) i l rs ⟨n,tm,H⟩=⟨n,aW,H'⟩/\Q rs aW H'/\∀k o r,l[k]? =some o->rs[k]? =some r->∀f args,bX o.op=some (f,args)->aA o.guard (aK (fun j=>decide (j<i+k)) i l rs ⟨n,tm,H⟩).tm=some true->g_ P GL f (bu (aZ GL (aK (fun j=>decide (j<i+k)) i l rs ⟨n,tm,H⟩).tm) args) (aK (fun j=>decide (j<i+k)) i l rs ⟨n,tm,H⟩).hp r.1.1
 |[],i,tm,H,Q,h=>⟨[],[],tm,H,rfl,fun _ _=>rfl,rfl,h,by simp⟩
 |o::l,i,tm,H,Q,h=>by
  obtain⟨cv,v,wr,h1,h2,h3⟩:=h;obtain⟨FL,rs,aW,H',k1,k2,k4,k5,k6⟩:=AW.runs (n:=n) h3;have bJ:St.iS ⟨n,tm,H⟩ o.dst v (br H wr)=⟨n,tU tm o.dst v,br H wr⟩:=by unfold St.iS tU;grind
  refine⟨cv::FL,((v,wr),mV (aZ GL tm) o.op)::rs,aW,H',by simp[k1],fun qc Q4=>?_,?_,k5,fun k o' r ho hr f args dz hg=>?_ ⟩
  ·have e0:qc i=cv:=by simpa using Q4 0 cv rfl
   simp only[pG,e0,h1,bJ];rw[k2 qc fun j c hj=>by have:=Q4 (j+1) c (by grind);grind]
  ·simp_all[aK,aaJ,bJ]
  ·cases k with
    |zero=>simp only[ab0,aaC]at ho hr;subst ho;subst hr;rw[jq (fun j hj=>aaS (by omega))]at hg⊢;grind
    |succ k=>
     simp only[ace]at ho hr;have e:i+(k+1)=i+1+k:=by omega
     have hs:aK (fun j=>decide (j<i+(k+1))) i (o::l) (((v,wr),mV (aZ GL tm) o.op)::rs) ⟨n,tm,H⟩=aK (fun j=>decide (j<i+1+k)) (i+1) l rs ⟨n,tU tm o.dst v,br H wr⟩:=by simp only[aK,e,show decide (i<i+1+k)=true by simp;omega,aaJ,bJ]
     grind
theorem CG.c_(hm:P.follows .mixedOrders=true){K:List Fr}{n:Nat}{Q:Ex->St->Prop}(Ck:gx n l=true)(h:AW P GL H.length 0 l tm (H++List.replicate l.length none) (fun rs aW H'=>(dW l rs&&e8 (H.length+l.length) rs)=true/\∃fG H2,an H.length ⟨n,aW,H'⟩ ⟨n,fG,H2⟩/\CG P GL (.out .normal) K n fG H2 Q)):CG P GL (.code (.draw l)) K n tm H Q:=by
 obtain⟨FL,rs,aW,H',k1,k2,k4,⟨k5,k7⟩,k6⟩:=AW.runs (n:=n) h;rw[aaD]at k5;have hw:WC P GL (.draw l) ⟨n,tm,H⟩ (fun e s=>e=.normal/\s=⟨n,aW,H'⟩):=by
  refine WC.draw (σ:=⟨n,tm,H⟩) hm (qc:=fun i=>(FL[i]? ).bind id) (rs:=rs) ?_ k5.1 Ck k5.2 (fun i o r ho hr f args dz hg=>?_ ) ?_
  ·exact k2 _ fun j c hj=>by simp[hj]
  ·have:=k6 i o r ho hr f args dz;simp only[aaY]at this;exact this hg
  ·exact⟨rfl,k4⟩
 show WC P GL (.draw l) ⟨n,tm,H⟩ (KQ P GL K Q);refine WC.post (hw.mono ?_ );rintro e s ⟨rfl,rfl⟩;obtain⟨fG,H2,e1,e3⟩:=k7;exact⟨⟨n,fG,H2⟩,e1,e3⟩
theorem AW.head{o:aj}(ho:l.head?=some o)(h:AW P GL base i (o::l.drop 1) tm H Q):AW P GL base i l tm H Q:=by cases l<;>grind
theorem AW.nil{base i:Nat}{l:List aj}{tm:List (Nat×V)}{H:ao}{Q:RS->List (Nat×V)->ao->Prop}(hl:l.length=0)(h:Q [] tm H):AW P GL base i l tm H Q:=by
 cases l with
  |nil=>exact h
  |cons o l=>simp at hl
def sx(GL:ch)(base:Nat):Nat->Nat->List aj->List (Nat×V)->ao->Option (RS×List (Nat×V)×ao)
 |0,_,_,tm,H=>some ([],tm,H)
 |k+1,i,o::l,tm,H=>
  match bX o.op,aA o.guard tm with
   |some _,some true=>none
   |_,_=>
    match gn GL tm H (base+i) o none with
     |some (v,wr)=>
      match sx GL base k (i+1) l (tU tm o.dst v) (br H wr)with
       |some (rs,t,h)=>some (((v,wr),mV (aZ GL tm) o.op)::rs,t,h)
       |none=>none
     |none=>none
 |_+1,_,[],_,_=>none
theorem AW.run{base:Nat}:∀(k:Nat){i:Nat}{l:List aj}{tm aW:List (Nat×V)}{H H':ao}{rs:RS}{Q:RS->List (Nat×V)->ao->Prop},sx GL base k i l tm H=some (rs,aW,H')->AW P GL base (i+k) (l.drop k) aW H' (fun r t h=>Q (rs++r) t h)->AW P GL base i l tm H Q
 |0,_,_,_,_,_,_,_,_,h1,h2=>by simp_all[sx,aaC,aaE]
 |k+1,_,[],_,_,_,_,_,_,h1,_=>by grind[sx]
 |k+1,i,o::l,tm,aW,H,H',rs,Q,h1,h2=>by
  have key:∀v wr,gn GL tm H (base+i) o none=some (v,wr)->(∀f args,bX o.op=some (f,args)->aA o.guard tm≠some true)->(∃Q7,rs=((v,wr),mV (aZ GL tm) o.op)::Q7/\sx GL base k (i+1) l (tU tm o.dst v) (br H wr)=some (Q7,aW,H'))->AW P GL base i (o::l) tm H Q:=by rintro v wr e1 e2 ⟨Q7,rfl,e3⟩;exact⟨none,v,wr,e1,fun f args hc hg=>absurd hg (e2 f args hc),AW.run k e3 (by grind)⟩
  unfold sx at h1;split at h1
  ·cases h1
  ·rename_i Hk;split at h1
   ·rename_i v wr hv;split at h1
    ·rename_i Q7 t h hr;simp only[aaC,aaE]at h1;obtain⟨rfl,rfl,rfl⟩:=h1;exact key v wr hv (fun f args hc hg=>Hk _ hc hg) ⟨Q7,rfl,hr⟩
    ·cases h1
   ·cases h1
theorem AW.eT{op:lv}{v:V}{wr:Wr}(ho:l.head?=some ⟨some d,op,g,af⟩)(hg:aA g tm=some true)(hc:bX op=none)(he:bE (aZ GL tm) H (base+i) op=some (v,wr))(hq:AW P GL base (i+1) (l.drop 1) (put tm d v) (br H wr) (fun rs t k=>Q (((v,wr),mV (aZ GL tm) op)::rs) t k)):AW P GL base i l tm H Q:=by refine AW.head ho ⟨none,v,wr,?_,fun f args h=>?_,hq⟩;all_goals grind[gn]
theorem AW.idx{sz:Nat}{x k:a_}{es:List (List D)}{j:Nat}{e:List D}(he:es[j]? =some e)(ho:l.head?=some ⟨some d,.cF sz x k,g,af⟩)(hg:aA g tm=some true)(hx:aZ GL tm x=.d (.list es))(hi:ct (aZ GL tm k)=some j)(hd:Nat.beq e.length sz=true)(hq:AW P GL base (i+1) (l.drop 1) (put tm d (.bB e)) H (fun rs t k=>Q (((.bB e,none),[])::rs) t k)):AW P GL base i l tm H Q:=AW.eT (v:=.bB e) (wr:=none) ho hg rfl (by simp_all[bE,aaJ]) (by simp only[mV,hx];exact hq)
theorem AW.mN{f:FuncId}{args:List a_}{vs:List V}{v:V}(h:PC P GL f vs v)(ho:l.head?=some ⟨some d,.call f args,g,af⟩)(hg:aA g tm=some true)(ha:bu (aZ GL tm) args=vs)(hq:AW P GL base (i+1) (l.drop 1) (put tm d v) H (fun rs t k=>Q (((v,none),mV (aZ GL tm) (.call f args))::rs) t k)):AW P GL base i l tm H Q:=by
 subst ha;refine AW.head ho ⟨some v,v,none,?_,fun f' Q5 hc _=>?_,hq⟩
 ·grind[gn,bX]
 ·simp only[bX,aaC,aaE]at hc;obtain⟨rfl,rfl⟩:=hc;exact h.uY
def NV:Option (RS×List (Nat×V)×ao)->RS|some x=>x.1|none=>[]
theorem AW.runK(k:Nat){aW:List (Nat×V)}{H':ao}(h1:(sx GL base k i l tm H).map (fun x=>x.2)=some (aW,H'))(h2:AW P GL base (i+k) (l.drop k) aW H' (fun r t h=>Q (NV (sx GL base k i l tm H)++r) t h)):AW P GL base i l tm H Q:=by
 cases hr:sx GL base k i l tm H with
  |none=>grind
  |some x=>obtain⟨rs,t,h⟩:=x;rw[hr]at h1 h2;simp only[aaU,aaC,aaE]at h1;obtain⟨rfl,rfl⟩:=h1;exact AW.run k hr h2
theorem AW.fin{m n:Nat}{K:List Fr}{fG:List (Nat×V)}{H2:ao}{Q:Ex->St->Prop}(p:Nat)(cm:List Nat)(hm:Nat.ble m p=true)(e1:fD cm tm=fG)(e2:u4 p fG=true)(e3:H.take p=H2)(e4:aB p H2=true)(h:CG P GL (.out .normal) K n fG H2 Q):∃fG H2,an m ⟨n,tm,H⟩ ⟨n,fG,H2⟩/\CG P GL (.out .normal) K n fG H2 Q:=by refine⟨fG,H2,an.clean (cm:=cm) (aaN hm) ?_,h⟩;unfold gQ;grind
end
end Fw
/-
  An element appended to an own row in a drawn region that writes.
-/
namespace Fw
open Go
theorem lY{H:ao}{ns sz bytes b len k:Nat}{cs xs:List V}(h0:0<sz)(hH:aF H b=some (eR cs))(hl:cs.length=len*sz)(hk:xs.length=k*sz)(hx:xs.all eK=true)(hr:(len+k)*sz*(bytes+1)<=bI)(fq:xs≠[]):dr H ns sz bytes (.sl b (len*sz) 0 len sz) xs=some (.sl b ((len+k)*sz) 0 (len+k) sz,some (b,.cells (cs++xs))):=by
 have h1:Nat.beq sz 0=false:=cB (by omega);have h2:Nat.beq (xs.length%sz) 0=true:=by simp_all
 have rT:xs.length / sz=k:=by simp_all
 have HZ:len*sz+xs.length=(len+k)*sz:=by grind
 have hb:Nat.ble ((len*sz+xs.length)*(bytes+1)) bI=true:=by simp_all
 unfold dr;simp only[h1,h2,hx,abF,aaT,aa4,aaJ,hH];cases cs with
  |nil=>
   have hlen:len=0:=by simp only[aa']at hl;rcases acz.1 hl.symm with h|h;all_goals grind
   subst hlen;simp only[eR,ac3,aaJ,adm,aa4,abf,abx];grind
  |cons c cs=>
   have Cc:Nat.beq (c::cs).length (len*sz)=true:=by simp_all
   simp only[eR,aca,aaT,Cc,abf,rT,HZ];grind
section
variable {P:Program}{GL:ch}
theorem AW.xE{α:Type}(aa:α->List D)(as:List α)(y:α){base i d:Nat}{g:Option (Nat×Bool)}{af:List Nat}{l:List aj}{tm:List (Nat×V)}{H H':ao}{Q:RS->List (Nat×V)->ao->Prop}{sz bytes b:Nat}{x y':a_}(cK:∀a,(aa a).length=sz)(h0:Nat.blt 0 sz=true)(ho:l.head?=some ⟨some d,.append sz bytes x y',g,af⟩)(hg:aA g tm=some true)(hx:aZ GL tm x=.sl b (as.length*sz) 0 as.length sz)(hH:aF H b=some (ah aa as))(hy:bt H sz (aZ GL tm y')=some ((aa y).map .d))(hr:(as.length+1)*sz*(bytes+1)<=1099511627776)(Xb:bJ H b (ah aa (as++[y]))=H')(hq:AW P GL base (i+1) (l.drop 1) (put tm d (.sl b ((as++[y]).length*sz) 0 (as++[y]).length sz)) H' (fun rs t k=>Q (((.sl b ((as++[y]).length*sz) 0 (as++[y]).length sz,some (b,ah aa (as++[y]))),mV (aZ GL tm) (.append sz bytes x y'))::rs) t k)):AW P GL base i l tm H Q:=by
 have KL:0<sz:=by simp_all
 have fq:(aa y).map V.d≠[]:=by grind[List.length_map,List.length_nil]
 have e1:=lY (H:=H) (ns:=base+i) (sz:=sz) (bytes:=bytes) (b:=b) (len:=as.length) (k:=1) (cs:=(as.flatMap aa).map .d) (xs:=(aa y).map .d) KL hH (by simp[bn cK]) (by simp[cK]) (by simp[eK]) (by grind[bI]) fq;have e2:ah aa (as++[y])=.cells ((as.flatMap aa).map .d++(aa y).map .d):=by
  unfold ah eR;simp only[acf,abB,ab1,List.flatMap_nil,acV];have:((as.flatMap aa).map V.d++(aa y).map V.d).isEmpty=false:=by simp_all
  grind
 refine AW.eT (v:=.sl b ((as++[y]).length*sz) 0 (as++[y]).length sz) (wr:=some (b,ah aa (as++[y]))) ho hg rfl ?_ ?_;all_goals grind[bE,List.length_append,List.length_singleton,br]
end
end Fw
/-
  A part of a row in a drawn region that writes.
-/
namespace Fw
open Go
section
variable {P:Program}{GL:ch}
theorem AW.Mp{α:Type}(aa:α->List D)(as:List α)(p q:Nat){base i d:Nat}{g:Option (Nat×Bool)}{af:List Nat}{l:List aj}{tm:List (Nat×V)}{H:ao}{Q:RS->List (Nat×V)->ao->Prop}{sz:Nat}{x:a_}{lo hi:Option a_}(cK:∀a,(aa a).length=sz)(ho:l.head?=some ⟨some d,.fY sz x lo hi,g,af⟩)(hg:aA g tm=some true)(hx:aZ GL tm x=.d (.list (as.map aa)))(kQ:oO GL tm 0 lo=some p)(jD:oO GL tm (as.map aa).length hi=some q)(H5:p<=q/\q<=as.length)(hq:AW P GL base (i+1) (l.drop 1) (put tm d (.d (.list (((as.take q).drop p).map aa)))) H (fun rs t k=>Q (((.d (.list (((as.take q).drop p).map aa)),none),[])::rs) t k)):AW P GL base i l tm H Q:=by
 have lN:(as.map aa).all (fun e=>Nat.beq e.length sz)=true:=by simp_all
 have hb:bounds (aZ GL tm) (as.map aa).length lo hi=some (p,q):=kW kQ jD H5.1 (by grind);refine AW.eT (v:=.d (.list (((as.take q).drop p).map aa))) (wr:=none) ho hg rfl ?_ ?_
 ·simp only[bE,hx,lN,aaJ,hb,aaU,ac2,acO]
 ·simp only[mV,hx];exact hq
end
end Fw
/-
  Steps that tell of a state only what is new.
-/
namespace Fw
open Go
variable {a b:Int}
abbrev bo(b:Bool):V:=.d (.bool b)
abbrev io(k:Int):V:=.d (.int .i64 k)
abbrev no(n:Nat):V:=.d (.int .i64 (.ofNat n))
abbrev lo{α:Type}(f:α->List D)(l:List α):V:=.d (.list (l.map f))
abbrev so(s:List UInt8):V:=.d (.str s)
@[simp] theorem PH(n:Nat)(b:Bool):au n (bo b)=true:=rfl
@[simp] theorem PI(n:Nat)(k:Int):au n (io k)=true:=rfl
@[simp] theorem PJ(n k:Nat):au n (no k)=true:=rfl
@[simp] theorem PK{α:Type}(n:Nat)(f:α->List D)(l:List α):au n (lo f l)=true:=rfl
@[simp] theorem PL(n:Nat)(s:List UInt8):au n (so s)=true:=rfl
def Xd:Nat->List (Nat×V)->List (Nat×V)|_,[]=>[]|m,p::l=>bif Nat.beq (Nat.land m 1) 1 then p::Xd (Nat.shiftRight m 1) l else Xd (Nat.shiftRight m 1) l
def dh(m:Nat)(nw tm:List (Nat×V)):List (Nat×V):=nw.foldl (fun t p=>put t p.1 p.2) (Xd m tm)
def zF(l:List (Nat×fJ))(H:ao):ao:=l.foldl (fun H p=>bJ H p.1 p.2) H
theorem zz:(∀n:Nat,Int.ofNat n=(n:Int))/\(∀(α β:Type)(f:α->β)(l:List α),(l.map f).length=l.length)/\(∀(α:Type)(l r:List α),(l++r).length=l.length+r.length)/\(∀(α:Type)(a:α)(l:List α),(a::l).length=l.length+1)/\(∀α:Type,([]:List α).length=0)/\(∀(α:Type)(l:List α)(i:Nat),(l.take i).length=min i l.length)/\(∀(α:Type)(l:List α)(i:Nat),(l.drop i).length=l.length - i):=⟨fun _=>rfl,fun _ _ _ _=>aaQ _,fun _ _ _=>aaZ,fun _ _ _=>rfl,fun _=>rfl,fun _ _ _=>aa1,fun _ _ _=>abm⟩
theorem gi(a b:Nat)(h:Int.ofNat a<Int.ofNat b:=by(try simp only[zz]at*)<;>omega):ax (Int.ofNat a) (Int.ofNat b)=true:=cx h
theorem jx(a b:Nat)(h:Int.ofNat b<=Int.ofNat a:=by(try simp only[zz]at*)<;>omega):ax (Int.ofNat a) (Int.ofNat b)=false:=cL h
theorem tEn(a b:Nat)(h:Int.ofNat a=Int.ofNat b:=by(try simp only[zz]at*)<;>omega):aQ (Int.ofNat a) (Int.ofNat b)=true:=gM h
theorem fEn(a b:Nat)(h:Int.ofNat a≠Int.ofNat b:=by(try simp only[zz]at*)<;>omega):aQ (Int.ofNat a) (Int.ofNat b)=false:=fj h
theorem kX(h:a<b:=by(try simp only[zz]at*)<;>omega):ax a b=true:=cx h
theorem kO(h:b<=a:=by(try simp only[zz]at*)<;>omega):ax a b=false:=cL h
theorem wG(h:a=b:=by(try simp only[zz]at*)<;>omega):aQ a b=true:=gM h
theorem qi(h:a≠b:=by(try simp only[zz]at*)<;>omega):aQ a b=false:=fj h
abbrev bF:V:=.d (.bool false)
abbrev bT:V:=.d (.bool true)
abbrev i0:V:=.d (.int .i64 0)
abbrev sE:V:=.d (.str [])
abbrev tE:V:=.tuple []
section
variable {P:Program}{GL:ch}
variable {l:List aj}{tm:List (Nat×V)}{H:ao}{G:Prop}{d n base i sz:Nat}{g:Option (Nat×Bool)}{af:List Nat}{K:List Fr}{Q:Ex->St->Prop}
theorem AO.rd{Hp:ao}{Q:List (Nat×V)->Prop}(k:Nat)(nw:List (Nat×V))(h1:CX GL base Hp k i l tm=some (nw.foldl (fun t p=>put t p.1 p.2) tm))(h2:AO P GL base Hp (i+k) (l.drop k) (nw.foldl (fun t p=>put t p.1 p.2) tm) Q):AO P GL base Hp i l tm Q:=AO.run k h1 h2
theorem AW.rd(k:Nat)(nw:List (Nat×V)){H':ao}{Q:RS->List (Nat×V)->ao->Prop}(h1:(sx GL base k i l tm H).map (fun x=>x.2)=some (nw.foldl (fun t p=>put t p.1 p.2) tm,H'))(h2:AW P GL base (i+k) (l.drop k) (nw.foldl (fun t p=>put t p.1 p.2) tm) H' (fun r t h=>Q (NV (sx GL base k i l tm H)++r) t h)):AW P GL base i l tm H Q:=AW.runK k h1 h2
theorem AW.rk(k:Nat)(nw:List (Nat×V))(hd:List (Nat×fJ)){Q:RS->List (Nat×V)->ao->Prop}(h1:(sx GL base k i l tm H).map (fun x=>x.2)=some (nw.foldl (fun t p=>put t p.1 p.2) tm,zF hd H))(h2:AW P GL base (i+k) (l.drop k) (nw.foldl (fun t p=>put t p.1 p.2) tm) (zF hd H) (fun r t h=>Q (NV (sx GL base k i l tm H)++r) t h)):AW P GL base i l tm H Q:=AW.runK k h1 h2
theorem CG.ix{x i:a_}{es:List (List D)}{j:Nat}{e:List D}(he:es[j]? =some e)(ho:l.head?=some ⟨some d,.cF sz x i,g,af⟩)(hc:(aA g tm,aZ GL tm x,ct (aZ GL tm i),Nat.blt d n&&Nat.beq e.length sz)=(some true,.d (.list es),some j,true))(hq:CG P GL (.ops (l.drop 1)) K n (put tm d (.bB e)) H Q):CG P GL (.ops l) K n tm H Q:=by simp only[aaE]at hc;exact CG.idx he ho hc.1 hc.2.1 hc.2.2.1 hc.2.2.2 hq
theorem CG.Mq{x i:a_}{s:List UInt8}{j:Nat}{b:UInt8}(he:s[j]? =some b)(ho:l.head?=some ⟨some d,.gz x i,g,af⟩)(hc:(aA g tm,aZ GL tm x,ct (aZ GL tm i),Nat.blt d n)=(some true,.d (.str s),some j,true))(hq:CG P GL (.ops (l.drop 1)) K n (put tm d (.d (.int .u8 b.toNat))) H Q):CG P GL (.ops l) K n tm H Q:=by simp only[aaE]at hc;exact CG.gz he ho hc.1 hc.2.1 hc.2.2.1 hc.2.2.2 hq
theorem CG.pg{f:FuncId}{args:List a_}{vs:List V}{v:V}(h:PC P GL f vs v)(ho:l.head?=some ⟨some d,.call f args,g,af⟩)(hc:(aA g tm,bu (aZ GL tm) args,Nat.blt d n)=(some true,vs,true))(hq:CG P GL (.ops (l.drop 1)) K n (put tm d v) H Q):CG P GL (.ops l) K n tm H Q:=by simp only[aaE]at hc;exact CG.mN h ho hc.1 hc.2.1 hc.2.2 hq
theorem CG.rI{α:Type}(aa:α->List D)(as ys:List α){bytes:Nat}{x y:a_}(b:Nat)(cK:∀a,(aa a).length=sz)(ho:l.head?=some ⟨some d,.append sz bytes x y,g,af⟩)(hc:(Nat.blt 0 sz,aA g tm,aZ GL tm x,aF H b,Nat.blt d n)=(true,some true,.sl b (as.length*sz) 0 as.length sz,some (ah aa as),true))(hy:bt H sz (aZ GL tm y)=some ((ys.flatMap aa).map .d))(hr:(as.length+ys.length)*sz*(bytes+1)<=1099511627776)(hq:CG P GL (.ops (l.drop 1)) K n (put tm d (.sl b ((as++ys).length*sz) 0 (as++ys).length sz)) (bJ H b (ah aa (as++ys))) Q):CG P GL (.ops l) K n tm H Q:=by simp only[aaE]at hc;exact CG.FK aa as ys cK hc.1 ho hc.2.1 hc.2.2.1 hc.2.2.2.1 hy hr hc.2.2.2.2 rfl hq
theorem CG.NW{α:Type}(aa:α->List D)(as ys:List α){bytes:Nat}{x y:a_}(b:Nat)(cK:∀a,(aa a).length=sz)(ho:l.head?=some ⟨some d,.append sz bytes x y,g,af⟩)(hc:(Nat.blt 0 sz,aA g tm,aZ GL tm x,aF H b,Nat.blt d n)=(true,some true,.sl b (as.length*sz) 0 as.length sz,some (cd aa as),true))(hy:bt H sz (aZ GL tm y)=some ((ys.flatMap aa).map .d))(hr:(as.length+ys.length)*sz*(bytes+1)<=1099511627776)(hq:CG P GL (.ops (l.drop 1)) K n (put tm d (.sl b ((as++ys).length*sz) 0 (as++ys).length sz)) (bJ H b (cd aa (as++ys))) Q):CG P GL (.ops l) K n tm H Q:=by simp only[aaE]at hc;exact CG.H7 aa as ys cK hc.1 ho hc.2.1 hc.2.2.1 hc.2.2.2.1 hy hr hc.2.2.2.2 rfl hq
theorem sp(b:Bool)(t:b=true->G)(f:b=false->G):G:=(Bool.eq_false_or_eq_true b).elim t f
theorem fk(a b:Int)(t:ax a b=true->a<b->G)(f:ax a b=false->b<=a->G):G:=sp (ax a b) (fun h=>t h (ltT h)) (fun h=>f h (ltF h))
theorem iW(a b:Int)(t:aQ a b=true->a=b->G)(f:aQ a b=false->a≠b->G):G:=sp (aQ a b) (fun h=>t h (eqT h)) (fun h=>f h (eqF h))
theorem KO(a b:Int)(t:(a==b)=true->a=b->G)(f:(a==b)=false->a≠b->G):G:=sp (a==b) (fun h=>t h (W_ h)) (fun h=>f h (Xa h))
theorem Q8(p:Prop) [Decidable p] (t:decide p=true->p->G) (f:decide p=false->¬p->G):G:=sp (decide p) (fun h=>t h (adh h)) (fun h=>f h (of_decide_eq_false h))
theorem cD(a b:Nat)(t:ax (.ofNat a) (.ofNat b)=true->a<b->G)(f:ax (.ofNat a) (.ofNat b)=false->b<=a->G):G:=sp _ (fun h=>t h (Int.ofNat_lt.1 (ltT h))) (fun h=>f h (Int.ofNat_le.1 (ltF h)))
theorem pq(a b:Nat)(t:aQ (.ofNat a) (.ofNat b)=true->a=b->G)(f:aQ (.ofNat a) (.ofNat b)=false->a≠b->G):G:=sp _ (fun h=>t h (Int.ofNat_inj.1 (eqT h))) (fun h=>f h (fun e=>eqF h (aba _ e)))
end
end Fw
/-
  A nil row in a cell of a box, known as empty data from here on.
-/
namespace Fw
open Go
theorem an.tC{m n:Nat}{tm:List (Nat×V)}{H H':ao}(b j:Nat){cs:List V}(hb:aF H b=some (.cells cs))(hj:cs[j]? =some .ad)(e1:bJ H b (.cells (cs.set j (.d (.list []))))=H'):an m ⟨n,tm,H⟩ ⟨n,tm,H'⟩:=by
 subst e1;intro GL g w a hr;have b8:=lB hb;have hlen:(bJ H b (.cells (cs.set j (.d (.list []))))).length=H.length:=gY b8;refine⟨g,⟨hr.defers,hr.size,hr.tmps,⟨fun c hc=>?_,fun c x hx=>?_,fun c y hy=>?_,hr.heap.inj,hr.heap.fo⟩,hr.dJ⟩,fun g0 w0 _ h=>h⟩
 ·have:=hr.heap.cV c hc;grind
 ·obtain⟨h1,y,h2,h3⟩:=hr.heap.live c x hx;refine⟨h1,?_⟩;show∃y,aF _ c=some y/\_;rw[dT];by_cases hc:c=b
  ·subst hc;rw[aaK rfl];refine⟨_,rfl,?_⟩;rw[hb]at h2;simp only[aaC]at h2;subst h2;cases x with
    |cells aU cp cur=>
     simp only[RB]at h3⊢;obtain⟨r1,r2,r3,cc,e,r4,r5,r6⟩:=h3;refine⟨by simp[r1],?_,by simp[r3],cc,e,r4,r5,?_ ⟩
     ·rw[aa3]at r2⊢;intro v hv;rcases acU hv with h|h
      ·grind
      ·subst h;rfl
     ·rw[abg];refine aT.CW (cg.refl _ _) ?_ cs _ j hj r6;grind[RV,Rd]
    |_=>grind[RB]
  grind
 ·rw[dT]at hy;by_cases hc:c=b
  ·subst hc;obtain⟨x,hx⟩:=hr.heap.back c _ hb;grind
  ·rw[aaF hc]at hy;exact hr.heap.back c y hy
end Fw
/-
  Equality of two structs in a walk; the state told anew.
-/
namespace Fw
open Go
def vo(ks:List Nat)(tm:List (Nat×V)):List (Nat×V):=ks.map fun k=>(k,get tm k)
theorem AM(tm:List (Nat×V)):∀(ks:List Nat)(s:Nat),get (vo ks tm) s=get tm s\/get (vo ks tm) s=.any
 |[],s=>.inr rfl
 |k::ks,s=>by
  show get ((k,get tm k)::vo ks tm) s=_\/get ((k,get tm k)::vo ks tm) s=_;simp only[get];cases h:Nat.beq k s with
   |true=>simp_all
   |false=>exact AM tm ks s
section
variable {P:Program}{GL:ch}
variable {tm:List (Nat×V)}{K:List Fr}{n:Nat}{H:ao}{Q:Ex->St->Prop}{cur:oJ}
theorem CG.Dx{d:Nat}{neg:Bool}{ks:List dq}{x y:a_}{g:Option (Nat×Bool)}{af:List Nat}{l:List aj}{xs ys:List V}{r:Bool}(ho:l.head?=some ⟨some d,.Dx neg ks x y,g,af⟩)(hc:(aA g tm,aZ GL tm x,aZ GL tm y,Nat.blt d n)=(some true,.agg xs,.agg ys,true))(he:jj ks xs ys=some r)(hq:CG P GL (.ops (l.drop 1)) K n (put tm d (.d (.bool (bif neg then !r else r)))) H Q):CG P GL (.ops l) K n tm H Q:=by simp only[aaE]at hc;exact CG.eT ho hc.1 (v:=.d (.bool (bif neg then !r else r))) (wr:=none) (by grind[bE]) rfl hc.2.2.2 hq
theorem AO.Dx{base i d:Nat}{Hp:ao}{neg:Bool}{ks:List dq}{x y:a_}{g:Option (Nat×Bool)}{af:List Nat}{l:List aj}{Q:List (Nat×V)->Prop}{xs ys:List V}{r:Bool}(ho:l.head?=some ⟨some d,.Dx neg ks x y,g,af⟩)(hc:(aA g tm,aZ GL tm x,aZ GL tm y)=(some true,.agg xs,.agg ys))(he:jj ks xs ys=some r)(hq:AO P GL base Hp (i+1) (l.drop 1) (put tm d (.d (.bool (bif neg then !r else r)))) Q):AO P GL base Hp i l tm Q:=by simp only[aaE]at hc;exact AO.eT ho hc.1 rfl (v:=.d (.bool (bif neg then !r else r))) (by grind[bE]) hq
theorem CG.is(aW:List (Nat×V))(H':ao)(h:(tm,H)=(aW,H'))(hq:CG P GL cur K n aW H' Q):CG P GL cur K n tm H Q:=by grind
theorem CG.cm(hc:Ec cur=false)(ks:List Nat)(h:CG P GL cur K n (vo ks tm) H Q):CG P GL cur K n tm H Q:=CG.nA hc (fun s=>AM tm ks s) h
theorem CG.tD(H':ao)(h:H=H')(hq:CG P GL cur K n tm H' Q):CG P GL cur K n tm H Q:=by grind
end
end Fw
/-
  An own row of which other boxes speak, known as data from here on.
-/
namespace Fw
open Go
def yN(b:Nat)(ue new:V):List V->List V->Prop|[],[]=>True|v::vs,u::us=>((v=ue/\u=new)\/(fh b v=true/\u=v))/\yN b ue new vs us|_,_=>False
def kG(b:Nat)(ue new:V):Nat->ao->ao->Prop|_,[],[]=>True|i,x::H,y::H'=>((i=b/\y=none)\/(i≠b/\fi b x/\y=x)\/(i≠b/\∃cs us,x=some (.cells cs)/\y=some (.cells us)/\yN b ue new cs us))/\kG b ue new (i+1) H H'|_,_,_=>False
theorem AN{b:Nat}{ds:List D}{ue new:V}(ho:bS b ds ue=new):∀(cs us:List V),yN b ue new cs us->jG b ds cs=us
 |[],[],_=>by simp only[jG]
 |v::vs,u::us,h=>by
  simp only[yN]at h;simp only[jG,AN ho vs us h.2];rcases h.1 with⟨rfl,rfl⟩|⟨h1,rfl⟩
  ·rw[ho]
  ·rw[eE _ h1]
 |[],_::_,h=>by grind[yN]
 |_::_,[],h=>by grind[yN]
theorem vp{b:Nat}{ds:List D}{ue new:V}(ho:bS b ds ue=new):∀(H H':ao)(i:Nat),kG b ue new i H H'->iA b ds i H=H'
 |[],[],_,_=>by simp only[iA]
 |x::H,y::H',i,h=>by
  simp only[kG]at h;simp only[iA,vp ho H H' (i+1) h.2];rcases h.1 with⟨rfl,rfl⟩|⟨h1,h2,rfl⟩|⟨h1,cs,us,rfl,rfl,h2⟩
  ·simp_all
  ·rw[cB h1,aaT];cases y with
    |none=>rfl
    |some y=>rw[aaU,qS h2]
  ·rw[cB h1,aaT,aaU,f_,AN ho cs us h2]
 |[],_::_,_,h=>by grind[kG]
 |_::_,[],_,h=>by grind[kG]
theorem H9{b:Nat}{ue new:V}(hn:eK new=true):∀(cs us:List V),yN b ue new cs us->cs.all eK=true->us.all eK=true
 |[],[],_,_=>rfl
 |v::vs,u::us,h,k=>by simp only[yN]at h;simp only[aaX,aaD]at k⊢;refine⟨?_,H9 hn vs us h.2 k.2⟩;grind
 |[],_::_,h,_=>by grind[yN]
 |_::_,[],h,_=>by grind
theorem CY{b:Nat}{ue new:V}(hn:eK new=true):∀(H H':ao)(i:Nat),kG b ue new i H H'->H.all jY=true->H'.all jY=true
 |[],[],_,_,_=>rfl
 |x::H,y::H',i,h,k=>by
  simp only[kG]at h;simp only[aaX,aaD]at k⊢;refine⟨?_,CY hn H H' (i+1) h.2 k.2⟩;rcases h.1 with⟨rfl,rfl⟩|⟨h1,h2,rfl⟩|⟨h1,cs,us,rfl,rfl,h2⟩
  ·rfl
  ·exact k.1
  ·exact H9 hn cs us h2 k.1
 |[],_::_,_,h,_=>by grind[kG]
 |_::_,[],_,h,_=>by grind
theorem an.CZ{α:Type}(aa:α->List D)(as:List α){m n sz:Nat}{tm aW:List (Nat×V)}{H H':ao}(b:Nat)(cK:∀a,(aa a).length=sz)(hH:aF H b=some (ah aa as))(hr:kG b (.sl b (as.length*sz) 0 as.length sz) (.d (.list (as.map aa))) 0 H H')(e1:vl b tm=aW):an m ⟨n,tm,H⟩ ⟨n,aW,H'⟩:=by
 intro GL g w a jH;have hle:Nat.ble (0+as.length*sz) (as.length*sz)=true:=by simp_all
 have ho:bS b (as.flatMap aa) (.sl b (as.length*sz) 0 as.length sz)=.d (.list (as.map aa)):=by simp only[bS,aa4,aaJ,bn cK,hle,abf,abA,gL cK]
 have hf:=vp ho H H' 0 hr;have NU:kS b ⟨n,tm,H⟩=some ⟨n,tm.map fun p=>(p.1,bS b (as.flatMap aa) p.2),H'⟩:=by unfold kS;rw[AJ hH];simp only[hf];rw[CY rfl H H' 0 hr (n_ jH.heap),aaJ]
 refine(an.trans (an.qh NU) (an.nA fun t=>?_ )) GL g w a jH;subst e1;rw[lM (bS b (as.flatMap aa)) (by simp only[bS]),lX];cases hn:fh b (get tm t)with
  |true=>left;rw[aaJ,eE _ hn]
  |false=>right;rfl
end Fw
/-
  A row of one cell-list told as it stands, appended to an own row in a drawn region; the nil row in it known as empty data behind it.
-/
namespace Fw
open Go
section
variable {P:Program}{GL:ch}
theorem AW.Xe{α:Type}(aa:α->List D)(as:List α)(y:α)(xs:List V){base i d:Nat}{g:Option (Nat×Bool)}{af:List Nat}{l:List aj}{tm:List (Nat×V)}{H H':ao}{Q:RS->List (Nat×V)->ao->Prop}{sz bytes b:Nat}{x y':a_}(cK:∀a,(aa a).length=sz)(h0:Nat.blt 0 sz=true)(ho:l.head?=some ⟨some d,.append sz bytes x y',g,af⟩)(hg:aA g tm=some true)(hx:aZ GL tm x=.sl b (as.length*sz) 0 as.length sz)(hH:aF H b=some (ah aa as))(hy:bt H sz (aZ GL tm y')=some xs)(hk:xs.length=sz)(iL:xs.all eK=true)(hr:(as.length+1)*sz*(bytes+1)<=1099511627776)(Xb:bJ H b (.cells ((as.flatMap aa).map .d++xs))=H')(hq:AW P GL base (i+1) (l.drop 1) (put tm d (.sl b ((as++[y]).length*sz) 0 (as++[y]).length sz)) H' (fun rs t k=>Q (((.sl b ((as++[y]).length*sz) 0 (as++[y]).length sz,some (b,.cells ((as.flatMap aa).map .d++xs))),mV (aZ GL tm) (.append sz bytes x y'))::rs) t k)):AW P GL base i l tm H Q:=by
 have KL:0<sz:=by simp_all
 have fq:xs≠[]:=by grind
 have e1:=lY (H:=H) (ns:=base+i) (sz:=sz) (bytes:=bytes) (b:=b) (len:=as.length) (k:=1) (cs:=(as.flatMap aa).map .d) (xs:=xs) KL hH (by simp[bn cK]) (by simp[hk]) iL (by grind[bI]) fq;refine AW.eT (v:=.sl b ((as++[y]).length*sz) 0 (as++[y]).length sz) (wr:=some (b,.cells ((as.flatMap aa).map .d++xs))) ho hg rfl ?_ ?_;all_goals grind[bE,List.length_append,List.length_singleton,br]
end
@[simp] theorem yO(n:Nat)(xs:List V):∀(l:List D),av n (l.map .d++xs)=av n xs|[]=>rfl|d::l=>by rw[aaV,abD,av,yO n xs l];rfl
theorem FM{α:Type}(aa:α->List D)(as:List α)(y:α)(hy:aa y≠[]):ah aa (as++[y])=.cells ((as.flatMap aa).map .d++(aa y).map .d):=by
 unfold ah eR;simp only[acf,abB,ab1,List.flatMap_nil,acV];have:((as.flatMap aa).map V.d++(aa y).map V.d).isEmpty=false:=by simp_all
 grind
theorem an.eqs{m n:Nat}{tm aW:List (Nat×V)}{H H':ao}(h:(tm,H)=(aW,H')):an m ⟨n,tm,H⟩ ⟨n,aW,H'⟩:=by obtain⟨rfl,rfl⟩:=Prod.mk.inj h;exact an.refl _ _
end Fw
