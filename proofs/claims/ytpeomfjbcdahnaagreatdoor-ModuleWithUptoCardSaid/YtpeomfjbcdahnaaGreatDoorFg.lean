/-
  Calls that hand back a row known to be nil.
-/
import Derived.Test.YtpeomfjbcdahnaaGreatDoorFf
set_option linter.unusedSimpArgs false
set_option linter.unusedVariables false
namespace Fw
open Go
section
variable {P:Program}{GL:bR}
mutual
def PB:V->List Nat| .sl b _ _ _ _=>[b]| .agg cs=>Ad cs| .tuple vs=>Ad vs|_=>[]
def Ad:List V->List Nat|[]=>[]|v::vs=>PB v++Ad vs
end
end
end Fw
/-
  Loops over states told by data, and a row's element at an open place.
-/
namespace Fw
open Go
section
variable {P:Program}{GL:bR}
variable {K K1:List Fr}{n d:Nat}{tm:List (Nat×V)}{H:ao}{Q:Ex->St->Prop}{R:St->Prop}{l:List ab}{v:V}{af:List Nat}
def LQ(P:Program)(GL:bR)(K:List Fr)(Q:Ex->St->Prop)(R:St->Prop):Ex->St->Prop| .normal,s=>R s|e,s=>KQ P GL K Q e s
def uY(i:Nat):List Fr->Bool|[]=>true| .block j::K=> !Nat.beq i j&&uY i K|_::K=>uY i K
theorem KQ.exit{i:Nat}:∀{K:List Fr}{Q:Ex->St->Prop}{σ:St},uY i K=true->Q (.exit i) σ->KQ P GL K Q (.exit i) σ
 |[],_,_,_,h=>h
 | .seq _::K,_,_,hf,h=>KQ.exit (K:=K) hf h
 | .block j::K,_,_,hf,h=>by simp only[uY,aas,abW]at hf;exact ez.other (fun e=>by simp_all) (KQ.exit (K:=K) hf.2 h)
 | .loop _ _::K,_,_,hf,h=>KQ.exit (K:=K) hf h
theorem CG.aV{i:Nat}(hf:uY i K1=true)(h:CG P GL (.out (.exit i)) K n tm H Q):CG P GL (.code (.exit i)) K1 n tm H (LQ P GL K Q R):=WC.exit (KQ.exit hf h)
theorem CG.VU{rs:List jH}{v':V}(h:(ij rs ⟨n,tm,H⟩).bind (gR H)=some v')(e:v'=v):CG P GL (.code .ret) K1 n tm H (LQ P GL K (pf rs v) R):=WC.ret (KQ.ret (show KQ P GL K (pf rs v) .ret _ from KQ.ret (pf.ret h e)))
theorem CG.rr{rs:List jH}(v':V)(e:v'=v)(h:(ij rs ⟨n,tm,H⟩).bind (gR H)=some v':=by kernel_rfl):CG P GL (.code .ret) K1 n tm H (LQ P GL K (pf rs v) R):=CG.VU h e
theorem CG.eu(hl:l.length=0)(h:R ⟨n,tm,H⟩):CG P GL (.ops l) [] n tm H (LQ P GL K Q R):=by
 cases l with
  |nil=>exact WO.nil h
  |cons o l=>simp at hl
theorem CG.sP{α:Type}(I:α->List (Nat×V))(J:α->ao)(pre:α->Prop)(μ:α->Nat)(a:α)(h0:pre a){b:IR}(hs:ay H.length ⟨n,tm,H⟩ ⟨n,I a,J a⟩)(h:∀a,pre a->CG P GL (.code b) [] n (I a) (J a) (LQ P GL K Q fun s=>∃a',pre a'/\μ a'<μ a/\ay (J a).length s ⟨n,I a',J a'⟩)):CG P GL (.code (.loop b)) K n tm H Q:=by
 refine WC.Pg (α:={a:α // pre a}) (fun a=>⟨n,I a.1,J a.1⟩) (fun a=>μ a.1) (fun a=>?_ ) ⟨a,h0⟩ hs;refine WC.mono (h a.1 a.2) fun e s hq=>?_
 cases e with
  |normal=>obtain⟨a',h1,h2,h3⟩:=hq;exact⟨⟨a',h1⟩,h2,h3⟩
  |exit i=>exact hq
  |ret=>exact hq
theorem CG.idx{g:Option (Nat×Bool)}{sz:Nat}{x i:aX}{es:List (List D)}{j:Nat}{e:List D}(he:es[j]? =some e)(ho:l.head?=some ⟨some d,.a_ sz x i,g,af⟩)(hg:aB g tm=some true)(hx:aW GL tm x=.d (.list es))(hi:dh (aW GL tm i)=some j)(hd:(Nat.blt d n&&Nat.beq e.length sz)=true)(hq:CG P GL (.ops (l.drop 1)) K n (put tm d (.aL e)) H Q):CG P GL (.ops l) K n tm H Q:=by
 rw[aas]at hd;refine WO.head ho (WO.bw (v:=.aL e) (wr:=none) (bg:=⟨n,put tm d (.aL e),H⟩) hg ?_ ?_ hq)
 ·simp_all[bw,aaw]
 ·show St.put ⟨n,tm,H⟩ (some d) _ (bn H none)=_;rw[a8,aaD (by simp_all)];rfl
theorem CG.lC{g:Option (Nat×Bool)}{f:FuncId}{args:List aX}{vs:List V}(h:PC P GL f vs v)(ho:l.head?=some ⟨some d,.call f args,g,af⟩)(hg:aB g tm=some true)(ha:bQ (aW GL tm) args=vs)(hd:Nat.blt d n=true)(hq:CG P GL (.ops (l.drop 1)) K n (put tm d v) H Q):CG P GL (.ops l) K n tm H Q:=by refine WO.head ho (WO.jB h rfl hg ha (bg:=⟨n,put tm d v,H⟩) ?_ hq);simp_all[a8]
theorem CG.jh{g:Option (Nat×Bool)}{x i:aX}{s:List UInt8}{j:Nat}{b:UInt8}(he:s[j]? =some b)(ho:l.head?=some ⟨some d,.jh x i,g,af⟩)(hg:aB g tm=some true)(hx:aW GL tm x=.d (.str s))(hi:dh (aW GL tm i)=some j)(hd:Nat.blt d n=true)(hq:CG P GL (.ops (l.drop 1)) K n (put tm d (.d (.int .u8 b.toNat))) H Q):CG P GL (.ops l) K n tm H Q:=by
 refine WO.head ho (WO.bw (v:=.d (.int .u8 b.toNat)) (wr:=none) (bg:=⟨n,put tm d (.d (.int .u8 b.toNat)),H⟩) hg ?_ ?_ hq)
 ·grind[bw]
 ·show St.put ⟨n,tm,H⟩ (some d) _ (bn H none)=_;rw[a8,aaD (by simp_all)];rfl
theorem Fj{m:Nat}(h:m<9223372036854775808):aT .i64 (.ofNat m)=.ofNat m:=by simp only[aT];rw[show Nat.blt m 9223372036854775808=true by simp_all];rfl
theorem ba{i:Nat}(h:i+1<9223372036854775808):aT .i64 (bC (.ofNat i) 1)=.ofNat (i+1):=Fj h
end
end Fw
/-
  Own rows over open data: rows told by lists, appends, freezing, calls of values, parts of rows, loops over a list.
-/
namespace Fw
open Go
variable {α:Type}
def j1(cs:List V):bW:=bif cs.isEmpty then .nil else .cells cs
def aJ(aa:α->List D)(l:List α):bW:=j1 ((l.flatMap aa).map .d)
theorem yn(aa:α->List D):aJ aa []=.nil:=rfl
theorem bK{aa:α->List D}{sz:Nat}(h:∀a,(aa a).length=sz)(l:List α):(l.flatMap aa).length=l.length*sz:=by induction l<;>grind
theorem uZ:∀{H:ao}{b:Nat}{x:bW},aA H b=some x->aR H b x=H
 |[],_,_,h=>by simp[aA]at h
 |y::H,0,x,h=>by grind[aA,aR]
 |y::H,b+1,x,h=>by simp only[aA]at h;simp[aR,uZ h]
theorem yo{H:ao}{ns sz bytes b len k:Nat}{cs xs:List V}(h0:0<sz)(hH:aA H b=some (j1 cs))(hl:cs.length=len*sz)(hk:xs.length=k*sz)(hx:xs.all eC=true)(hr:(len+k)*sz*(bytes+1)<=cf):∃wr,dM H ns sz bytes (.sl b (len*sz) 0 len sz) xs=some (.sl b ((len+k)*sz) 0 (len+k) sz,wr)/\bn H wr=aR H b (j1 (cs++xs)):=by
 have h1:Nat.beq sz 0=false:=dv (by omega);have h2:Nat.beq (xs.length%sz) 0=true:=by simp_all
 have rW:xs.length / sz=k:=by simp_all
 have lZ:len*sz+xs.length=(len+k)*sz:=by grind
 unfold dM;simp only[h1,h2,hx,ab0,aaK,aaS,aaw,hH];cases cs with
  |nil=>
   have hlen:len=0:=by simp at hl;rcases acj.1 hl.symm with h|h;all_goals grind
   subst hlen;simp only[j1,List.isEmpty_nil,aaw,Nat.zero_mul,aaS,aa',aco];cases xs with
    |nil=>
     have:k=0:=by simp_all
     subst this;refine⟨none,by simp,?_ ⟩;simp only[bn,List.isEmpty_nil,aaw];exact(uZ (by rw[hH];rfl)).symm
    |cons x xs=>
     refine⟨some (b,.cells (x::xs)),?_,by simp[bn]⟩;have hb:Nat.ble (k*sz*(bytes+1)) cf=true:=by simp_all
     grind
  |cons c cs=>
   simp only[j1,List.isEmpty_cons,aaK,hl,aaS,aaV,aaW,lZ];have:Nat.ble ((len+k)*sz*(bytes+1)) cf=true:=by simp_all
   simp only[this,aaw,rW,abH,List.isEmpty_cons,aaK];grind[bn]
theorem cP{aa:α->List D}{sz:Nat}(h:∀a,(aa a).length=sz)(H:ao)(l:List α):bE H sz (.d (.list (l.map aa)))=some ((l.flatMap aa).map .d):=by
 have:(l.map aa).all (fun e=>Nat.beq e.length sz)=true:=by simp_all
 simp only[bE,this,aaw];grind
mutual
def eA(b:Nat):V->Bool| .ptr c _ _=> !Nat.beq c b| .sl c _ _ _ _=> !Nat.beq c b| .map c=> !Nat.beq c b| .iter c _=> !Nat.beq c b| .gJ c=> !Nat.beq c b| .func _ a c=>l5 b a&&l5 b c| .iface _ v=>eA b v| .agg cs=>l5 b cs| .tuple vs=>l5 b vs|_=>true
def l5(b:Nat):List V->Bool|[]=>true|v::vs=>eA b v&&l5 b vs
end
mutual
theorem dR{b:Nat}{ds:List D}:∀(v:V),eA b v=true->bV b ds v=v
 | .ptr c _ _,h=>by simp_all[eA,bV,aaK]
 | .sl c _ _ _ _,h=>by simp_all[eA,bV,aaK]
 | .map c,h=>by simp_all[eA,bV,aaK]
 | .iter c _,h=>by simp_all[eA,bV,aaK]
 | .gJ c,h=>by simp_all[eA,bV,aaK]
 | .func _ a c,h=>by simp only[eA,aas]at h;simp only[bV,gC a h.1,gC c h.2]
 | .iface _ v,h=>by simp only[eA]at h;simp only[bV,dR v h]
 | .agg cs,h=>by simp only[eA]at h;simp only[bV,gC cs h]
 | .tuple vs,h=>by simp only[eA]at h;simp only[bV,gC vs h]
 | .any,_=>by simp only[bV]
 | .d _,_=>by simp only[bV]
 | .full _,_=>by simp only[bV]
 | .aj,_=>by simp only[bV]
 | .lu,_=>by simp only[bV]
 | .aL _,_=>by simp only[bV]
 | .kj,_=>by simp only[bV]
 | .ob,_=>by simp only[bV]
 | .bD,_=>by simp only[bV]
 | .fA,_=>by simp only[bV]
theorem gC{b:Nat}{ds:List D}:∀(l:List V),l5 b l=true->lz b ds l=l
 |[],_=>by simp only[lz]
 |v::vs,h=>by simp only[l5,aas]at h;simp only[lz,dR v h.1,gC vs h.2]
end
def fO(b:Nat):Option bW->Prop
 |some (.cells cs)=>l5 b cs=true
 |some (.map es)=>es.all (fun p=>eA b p.2)=true
 |some (.loop _ tm _ _ _ _)=>tm.all (fun p=>eA b p.2)=true
 |_=>True
def sR(b:Nat):Nat->ao->Prop|_,[]=>True|i,x::H=>(i=b\/fO b x)/\sR b (i+1) H
theorem pj{b:Nat}{ds:List D}{x:bW}(h:fO b (some x)):eP b ds x=x:=by
 cases x with
  |cells cs=>simp only[fO]at h;simp only[eP,gC cs h]
  |map es=>
   simp only[fO,aaJ]at h;simp only[eP,bW.map.injEq];conv=>rhs;rw[←List.map_id es]
   refine abQ fun p hp=>?_
   rw[dR _ (h p hp)];rfl
  |loop n tm ps ca cb st=>
   simp only[fO,aaJ]at h;simp only[eP,bW.loop.injEq,true_and,ab9];conv=>rhs;rw[←List.map_id tm]
   refine abQ fun p hp=>?_
   rw[dR _ (h p hp)];rfl
  |_=>simp only[eP]
theorem nV{b:Nat}{ds:List D}:∀(H:ao)(i:Nat),sR b i H->jM b ds i H=if i<=b then H.set (b - i) none else H
 |[],i,_=>by simp[jM]
 |x::H,i,h=>by
  simp only[sR]at h;simp only[jM,nV H (i+1) h.2];by_cases e:i=b
  ·subst e;rw[aaS,aaw,aaH (by omega),aaD (aaE i),acF];rfl
  ·rw[dv e,aaK];have hb:fO b x:=h.1.resolve_left e;have hx:x.map (eP b ds)=x:=by
    cases x with
     |none=>rfl
     |some x=>rw[aaI,pj hb]
   rw[hx];by_cases cA:i<=b
   ·rw[aaD (by omega),aaD cA,show b - i=b - (i+1)+1 by omega];rfl
   grind
def sS(b:Nat)(tm:List (Nat×V)):List (Nat×V):=tm.map fun p=>(p.1,bif eA b p.2 then p.2 else .any)
theorem kT(b:Nat)(tm:List (Nat×V))(t:Nat):get (sS b tm) t=bif eA b (get tm t)then get tm t else .any:=iE (fun v=>bif eA b v then v else .any) rfl tm t
theorem i_{α:Type}{aa:α->List D}{sz:Nat}(h:∀a,(aa a).length=sz):∀(l:List α),fl sz l.length (l.flatMap aa)=l.map aa|[]=>rfl|a::l=>by simp only[aaq,fl,aaT,aaG];rw[abU (by grind),←h a,abm,abV (by omega),List.drop_length,aco,h a,i_ h l]
theorem pk:∀(l:List D),gp (l.map .d)=some l|[]=>rfl|d::l=>by simp only[aaG,gp,pk l,aaI]
theorem sT{α:Type}{aa:α->List D}{H:ao}{b:Nat}{l:List α}(h:aA H b=some (aJ aa l)):vN H b=some (l.flatMap aa):=by
 unfold vN;rw[h];unfold aJ j1;cases hl:l.flatMap aa with
  |nil=>rfl
  |cons d ds=>simp;rw[←aaG,pk]
section
variable {P:Program}{GL:bR}
variable {H H':ao}{n d m:Nat}{tm aZ:List (Nat×V)}{a b:Int}{K:List Fr}{Q:Ex->St->Prop}{l:List ab}{α:Type}{af:List Nat}{w:World}
theorem mO{g:G}(hh:ax g w H):H.all kY=true:=by
 have:∀(H':ao),(∀b y,aA H' b=some y->kY (some y)=true)->H'.all kY=true:=by
  intro H';induction H' with
   |nil=>grind
   |cons x H' ih=>
    intro h;simp only[aaM,aas];refine⟨?_,ih fun b y hy=>h (b+1) y hy⟩;cases x with
     |none=>rfl
     |some y=>exact h 0 y rfl
 refine this H fun b y hy=>?_
 obtain⟨x,hx⟩:=hh.back b y hy;obtain⟨_,y',tQ,hr⟩:=hh.live b x hx;rw[hy]at tQ;simp at tQ;subst tQ;cases y with
  |cells cs=>
   cases x with
    |cells _ _ _=>simp only[RB]at hr;exact hr.2.1
    |_=>grind[RB]
  |_=>rfl
theorem po{k:Nat}(h:H.all kY=true):(H.set k none).all kY=true:=by
 induction H generalizing k with
  |nil=>simp
  |cons x H ih=>
   simp only[aaM,aas]at h;cases k with
    |zero=>simp only[List.set_cons_zero,aaM,h.2];rfl
    |succ k=>grind
theorem ay.wG(aa:α->List D)(as:List α){sz:Nat}(b s:Nat)(cG:∀a,(aa a).length=sz)(hs:get tm s=.sl b (as.length*sz) 0 as.length sz)(hH:aA H b=some (aJ aa as))(xf:sR b 0 H)(e1:put (sS b tm) s (.d (.list (as.map aa)))=aZ)(e2:H.set b none=H'):ay m ⟨n,tm,H⟩ ⟨n,aZ,H'⟩:=by
 intro GL g w a hr;have hf:=nV (ds:=as.flatMap aa) H 0 xf;rw[aaD (aaO _),acn]at hf;have LX:la b ⟨n,tm,H⟩=some ⟨n,tm.map fun p=>(p.1,bV b (as.flatMap aa) p.2),H'⟩:=by unfold la;rw[sT hH];simp only[hf];rw[po (mO hr.heap),aaw,e2]
 refine(ay.trans (ay.lB LX) (ay.eH fun t=>?_ )) GL g w a hr;subst e1;rw[iE (bV b (as.flatMap aa)) (by simp only[bV]),eY];by_cases ht:t=s
 ·subst ht;rw[aaD rfl,hs];left;have hle:Nat.ble (0+as.length*sz) (as.length*sz)=true:=by simp_all
  simp only[bV,aaS,aaw,bK cG,hle,aa',abi,i_ cG]
 ·rw[aaH ht,kT];cases hn:eA b (get tm t)with
   |true=>left;rw[aaw,dR _ hn]
   |false=>right;rfl
theorem mP(H:ao)(x:Option bW)(b:Nat):aA (H++[x]) b=if b=H.length then x else aA H b:=by
 rw[EW];by_cases h:b<H.length
 ·grind
 ·rw[aaH h];by_cases e:b=H.length
  ·subst e;rw[aaD rfl,acF];rfl
  ·rw[aaH e,AZ (by omega:H.length<=b)];exact AZ (by simp;omega)
def G.cQ(g:G)(b:Nat):G:=⟨fun c=>g.cr c\/c=b,fun c=>if c=b then some .nil else g.γ c,g.fo,g.base⟩
theorem bA.cQ{g:G}{b:Nat}(h:¬g.cr b):bA g w (g.cQ b) w:=⟨rfl,rfl,rfl,aaE _,fun k hk=>
 ⟨⟨hk.1,hk.2.1,fun c x hx ho=>by
  simp only[G.cQ]at hx;split at hx
  ·simp at hx;subst hx;cases ho
  ·exact hk.2.2 c x hx ho⟩,rfl⟩,fun _ hd=>.inl hd,fun c hd=>by simp only[G.cQ];rw[aaH (fun e=>h (by grind))];exact GB.step.refl _,rfl,rfl,fun _ _=>rfl⟩
theorem ax.cQ{g:G}(hh:ax g w H):ax (g.cQ H.length) w (H++[some .nil]):=by
 have oa:¬g.cr H.length:=fun h=>Nat.lt_irrefl _ (hh.cr _ h)
 have he:bA g w (g.cQ H.length) w:=bA.cQ oa;refine⟨fun b hb=>?_,fun b x hx=>?_,fun b y hy=>?_,fun b b' x x' k hx kZ hk kg=>?_,fun k hk=>?_ ⟩
 ·simp only[G.cQ]at hb;simp;rcases hb with hb|hb
  ·have:=hh.cr b hb;omega
  ·omega
 ·simp only[G.cQ]at hx⊢;split at hx
  ·rename_i e;subst e;simp at hx;subst hx;simp_all[mP,RB]
  ·rename_i e;obtain⟨h1,y,h2,h3⟩:=hh.live b x hx;exact⟨.inl h1,y,by grind[mP],h3.ext he (fun k _=>rfl)⟩
 ·rw[mP]at hy;simp only[G.cQ];split at hy
  ·simp_all
  ·rename_i e;obtain⟨x,hx⟩:=hh.back b y hy;grind
 ·simp only[G.cQ]at hx kZ;split at hx
  ·simp at hx;subst hx;cases hk
  ·split at kZ
   ·simp at kZ;subst kZ;cases kg
   ·exact hh.inj b b' x x' k hx kZ hk kg
 ·refine⟨(hh.fo k hk).1,fun b x hx=>?_ ⟩;simp only[G.cQ]at hx;split at hx
  ·simp at hx;subst hx;intro h;cases h
  ·exact(hh.fo k hk).2 b x hx
theorem ay.Fk(s sz:Nat)(hm:m<=H.length)(hs:get tm s=.aj)(e1:put tm s (.sl H.length 0 0 0 sz)=aZ):ay m ⟨n,tm,H⟩ ⟨n,aZ,H++[some .nil]⟩:=by
 subst e1;intro GL g w a hr;have oa:¬g.cr H.length:=fun h=>Nat.lt_irrefl _ (hr.heap.cr _ h)
 have he:bA g w (g.cQ H.length) w:=bA.cQ oa;refine⟨g.cQ H.length,⟨hr.defers.ext he,hr.size,fun t=>?_,hr.heap.cQ,hr.cB.ext he⟩,fun g0 w0 _ h=>h.trans he⟩;show RV _ _ (get (put tm s _) t) _;rw[eY];by_cases ht:t=s
 ·subst ht;have:=hr.tmps t;change RV g w (get tm t) _ at this;rw[hs]at this;simp only[RV]at this;rw[aaD rfl,this];simp only[RV];refine⟨⟨rfl,.inr rfl⟩,fun x hx=>?_ ⟩;simp only[G.cQ,abJ,aat]at hx;grind
 ·rw[aaH ht];exact RV.ext he _ _ (hr.tmps t)
theorem aM.Fl{g g':G}{w:World}(he:bA g w g' w){v:V}(hv:RV g' w v (.slice none 0 0)):∀(cs:List V)(vs:List Value)(j:Nat),cs[j]? =some .aj->aM g w cs vs->aM g' w (cs.set j v) vs
 |[],_,j,h,_=>by simp at h
 |c::cs,[],_,_,hr=>by grind[aM]
 |c::cs,x::vs,0,h,hr=>by simp at h;subst h;simp only[aM,RV]at hr;simp;rw[hr.1];exact⟨hv,aM.ext he _ _ hr.2⟩
 |c::cs,x::vs,j+1,h,hr=>by simp only[aM]at hr;simp;exact⟨RV.ext he _ _ hr.1,aM.Fl he hv cs vs j (by grind) hr.2⟩
theorem ay.VV(b j sz:Nat){cs:List V}(hm:m<=H.length)(hb:aA H b=some (.cells cs))(hj:cs[j]? =some .aj)(e1:aR H b (.cells (cs.set j (.sl H.length 0 0 0 sz)))++[some .nil]=H'):ay m ⟨n,tm,H⟩ ⟨n,tm,H'⟩:=by
 subst e1;intro GL g w a hr;have cA:=oi hb;have oa:¬g.cr H.length:=fun h=>Nat.lt_irrefl _ (hr.heap.cr _ h)
 have he:bA g w (g.cQ H.length) w:=bA.cQ oa;have xF:=hr.heap.cQ;have hlen:(aR H b (.cells (cs.set j (.sl H.length 0 0 0 sz)))).length=H.length:=lO cA;have hg:∀c,aA (aR H b (.cells (cs.set j (.sl H.length 0 0 0 sz)))++[some .nil]) c=if c=b then some (.cells (cs.set j (.sl H.length 0 0 0 sz)))else aA (H++[some .nil]) c:=by grind[mP,fm]
 refine⟨g.cQ H.length,⟨hr.defers.ext he,hr.size,fun t=>RV.ext he _ _ (hr.tmps t),⟨fun c hc=>?_,fun c x hx=>?_,fun c y hy=>?_,xF.inj,xF.fo⟩,hr.cB.ext he⟩,fun g0 w0 _ h=>h.trans he⟩
 ·have:=xF.cr c hc;grind
 ·obtain⟨h1,y,h2,h3⟩:=xF.live c x hx;refine⟨h1,?_⟩;show∃y,aA _ c=some y/\_;rw[hg];by_cases hc:c=b
  ·subst hc;rw[aaD rfl];refine⟨_,rfl,?_⟩;simp only[G.cQ,aaH (show¬c=H.length by omega)]at hx;obtain⟨_,y',k2,k3⟩:=hr.heap.live c x hx;rw[hb]at k2;simp at k2;subst k2;cases x with
    |cells aK cp cur=>
     simp only[RB]at k3⊢;obtain⟨r1,r2,r3,cc,e,r4,r5,r6⟩:=k3;refine⟨by simp[r1],?_,by simp[r3],cc,e,r4,r5,?_ ⟩
     ·rw[aaJ]at r2⊢;intro v hv;rcases ab8 hv with h|h
      ·grind
      ·subst h;rfl
     ·rw[List.length_set];refine aM.Fl he ?_ cs _ j hj r6;simp only[RV];refine⟨⟨rfl,.inr rfl⟩,fun x hx=>?_ ⟩;simp only[G.cQ,abJ,aat]at hx;grind
    |_=>grind[RB]
  grind
 ·rw[hg]at hy;by_cases hc:c=b
  ·subst hc;obtain⟨x,hx⟩:=hr.heap.back c _ hb;exact⟨x,by grind[G.cQ]⟩
  ·rw[aaH hc]at hy;exact xF.back c y hy
theorem CG.tidy{c:IR}(ht:ay H.length ⟨n,tm,H⟩ ⟨n,aZ,H'⟩)(h:CG P GL (.code c) K n aZ H' Q):CG P GL (.code c) K n tm H Q:=WC.tidy (σ:=⟨n,tm,H⟩) ht h
theorem WO.tidy{σ bg:St}{Q:St->Prop}(ht:ay σ.hp.length σ bg)(h:WO P GL l bg Q):WO P GL l σ Q:=by intro ro ops k hc g w a hr;obtain⟨g',h1,h2⟩:=ht GL g w a hr;exact cU (dr.ext (h2 g w (fun b hb=>hr.heap.cr b hb) (bA.refl _ _))) _ _ _ (h ro ops k hc g' w a h1)
theorem CG.Fm(ht:ay H.length ⟨n,tm,H⟩ ⟨n,aZ,H'⟩)(h:CG P GL (.ops l) K n aZ H' Q):CG P GL (.ops l) K n tm H Q:=WO.tidy (σ:=⟨n,tm,H⟩) ht h
theorem ltT(h:aI a b=true):a<b:=by grind[dP]
theorem ltF(h:aI a b=false):b<=a:=by grind[dP]
theorem u1(h:aN a b=true):a=b:=by grind[cR]
theorem eqF(h:aN a b=false):a≠b:=by grind[cR]
theorem PD(h:a<b):aI a b=true:=by grind[dP]
theorem PE(h:b<=a):aI a b=false:=by grind[dP]
theorem t_(h:a=b):aN a b=true:=by grind[cR]
theorem ua(h:a≠b):aN a b=false:=by grind[cR]
theorem VW(h:(a==b)=true):a=b:=by grind
theorem VX(h:(a==b)=false):a≠b:=by grind
theorem PF(h:a=b):(a !=b)=false:=by grind
theorem aG{aa:α->List D}{l:List α}{i:Nat}{x:α}(h:l[i]? =some x):(l.map aa)[i]? =some (aa x):=by grind
theorem CG.fZ{op:jG}{g:Option (Nat×Bool)}{v:V}{wr:Wr}(ho:l.head?=some ⟨some d,op,g,af⟩)(hg:aB g tm=some true)(he:bw (aW GL tm) H H.length op=some (v,wr))(hH:bn H wr=H')(hd:Nat.blt d n=true)(hq:CG P GL (.ops (l.drop 1)) K n (put tm d v) H' Q):CG P GL (.ops l) K n tm H Q:=by subst hH;refine WO.head ho (WO.bw (v:=v) (wr:=wr) (bg:=⟨n,put tm d v,bn H wr⟩) hg he ?_ hq);simp_all[a8]
theorem CG.Ik(aa:α->List D)(as ys:List α){g:Option (Nat×Bool)}{sz bytes b:Nat}{x y:aX}(cG:∀a,(aa a).length=sz)(h0:Nat.blt 0 sz=true)(ho:l.head?=some ⟨some d,.append sz bytes x y,g,af⟩)(hg:aB g tm=some true)(hx:aW GL tm x=.sl b (as.length*sz) 0 as.length sz)(hH:aA H b=some (aJ aa as))(hy:bE H sz (aW GL tm y)=some ((ys.flatMap aa).map .d))(hr:(as.length+ys.length)*sz*(bytes+1)<=1099511627776)(hd:Nat.blt d n=true)(hH':aR H b (aJ aa (as++ys))=H')(hq:CG P GL (.ops (l.drop 1)) K n (put tm d (.sl b ((as++ys).length*sz) 0 (as++ys).length sz)) H' Q):CG P GL (.ops l) K n tm H Q:=by
 have PG:0<sz:=by simp_all
 obtain⟨wr,e1,e2⟩:=yo (H:=H) (ns:=H.length) (sz:=sz) (bytes:=bytes) (b:=b) (len:=as.length) (k:=ys.length) (cs:=(as.flatMap aa).map .d) (xs:=(ys.flatMap aa).map .d) PG hH (by simp[bK cG]) (by simp[bK cG]) (by simp[eC]) (by grind[cf]);refine CG.fZ ho hg (v:=.sl b ((as++ys).length*sz) 0 (as++ys).length sz) (wr:=wr) ?_ ?_ hd hq;all_goals grind[bw,List.length_append,aJ]
theorem Fo{aa:α->List D}{as:List α}{b sz:Nat}(cG:∀a,(aa a).length=sz)(hH:aA H b=some (aJ aa as)):jI H .slice (.sl b (as.length*sz) 0 as.length sz)=some as.length:=by
 have:eL H b (as.length*sz)=true:=by unfold eL;rw[hH];have hl:=bK cG as;unfold aJ j1;cases h:as.flatMap aa<;>simp_all
 simp_all[jI,aaw]
theorem CG.Fq(aa:α->List D)(as:List α){g:Option (Nat×Bool)}{sz b:Nat}{x:aX}(cG:∀a,(aa a).length=sz)(ho:l.head?=some ⟨some d,.len .slice x,g,af⟩)(hg:aB g tm=some true)(hx:aW GL tm x=.sl b (as.length*sz) 0 as.length sz)(hH:aA H b=some (aJ aa as))(hd:Nat.blt d n=true)(hq:CG P GL (.ops (l.drop 1)) K n (put tm d (.d (.int .i64 (.ofNat as.length)))) H Q):CG P GL (.ops l) K n tm H Q:=CG.fZ ho hg (wr:=none) (by simp only[bw,hx,Fo cG hH];rfl) rfl hd hq
def ru(GL:bR)(tm:List (Nat×V))(d:Nat):Option aX->Option Nat|some x=>dh (aW GL tm x)|none=>some d
theorem qq{p q:Nat}{lo hi:Option aX}(kh:ru GL tm 0 lo=some p)(ji:ru GL tm n hi=some q)(h1:p<=q)(h2:q<=n):bounds (aW GL tm) n lo hi=some (p,q):=by
 have k1:Nat.ble p q=true:=by simp_all
 have k2:Nat.ble q n=true:=by simp_all
 cases lo with
  |none=>
   simp only[ru,aat]at kh;cases hi with
    |none=>simp only[ru,aat]at ji;subst kh;subst ji;simp only[bounds,k1,k2,aa',aaw]
    |some y=>simp only[ru]at ji;subst kh;simp only[bounds,ji,k1,k2,aa',aaw]
  |some x=>
   simp only[ru]at kh;cases hi with
    |none=>simp only[ru,aat]at ji;subst ji;simp only[bounds,kh,k1,k2,aa',aaw]
    |some y=>simp only[ru]at ji;simp only[bounds,kh,ji,k1,k2,aa',aaw]
theorem CG.JS(p q:Nat){g:Option (Nat×Bool)}{x:aX}{s:List UInt8}{lo hi:Option aX}(ho:l.head?=some ⟨some d,.ic x lo hi,g,af⟩)(hg:aB g tm=some true)(hx:aW GL tm x=.d (.str s))(kh:ru GL tm 0 lo=some p)(ji:ru GL tm s.length hi=some q)(PH:p<=q/\q<=s.length)(hd:Nat.blt d n=true)(hq:CG P GL (.ops (l.drop 1)) K n (put tm d (.d (.str ((s.take q).drop p)))) H Q):CG P GL (.ops l) K n tm H Q:=by have hb:bounds (aW GL tm) s.length lo hi=some (p,q):=qq kh ji PH.1 PH.2;refine CG.fZ ho hg (v:=.d (.str ((s.take q).drop p))) (wr:=none) ?_ rfl hd hq;grind[bw]
theorem CG.ry{g:Option (Nat×Bool)}{f:FuncId}{first cap:List V}{x:aX}{args:List aX}{vs:List V}{v:V}(h:PC P GL f vs v)(ho:l.head?=some ⟨some d,.b_ x args,g,af⟩)(hg:aB g tm=some true)(hx:aW GL tm x=.func f first cap)(ha:first++bQ (aW GL tm) args++cap=vs)(hd:Nat.blt d n=true)(hq:CG P GL (.ops (l.drop 1)) K n (put tm d v) H Q):CG P GL (.ops l) K n tm H Q:=by subst ha;refine WO.head ho (WO.b_ rfl hx hg (WF.ER h ⟨⟨n,put tm d v,H⟩,?_,hq⟩));simp_all[a8]
theorem CG.bh{β:Type}(l:List β)(I:Nat->α->List (Nat×V))(J:Nat->α->ao)(inv:Nat->α->List β->Prop)(a0:α)(h0:inv 0 a0 l){b:IR}(hs:ay H.length ⟨n,tm,H⟩ ⟨n,I 0 a0,J 0 a0⟩)(Lz:∀i a,i=l.length->l.drop i=[]->inv i a []->CG P GL (.code b) [] n (I i a) (J i a) (LQ P GL K Q fun _=>False))(PI:∀i a x r,l.drop i=x::r->l[i]? =some x->i<l.length->inv i a (x::r)->CG P GL (.code b) [] n (I i a) (J i a) (LQ P GL K Q fun s=>∃a',inv (i+1) a' r/\ay (J i a).length s ⟨n,I (i+1) a',J (i+1) a'⟩)):CG P GL (.code (.loop b)) K n tm H Q:=by
 refine CG.sP (α:=Nat×α) (fun p=>I p.1 p.2) (fun p=>J p.1 p.2) (fun p=>p.1<=l.length/\inv p.1 p.2 (l.drop p.1)) (fun p=>l.length - p.1) (0,a0) ⟨aaO _,h0⟩ hs ?_;rintro⟨i,a⟩ ⟨hi,aH⟩;rcases abu i l.length with cA|OJ
 ·have hx:l.drop i=l[i]::l.drop (i+1):=abk cA;have:=PI i a l[i] (l.drop (i+1)) hx (aaz cA) cA (by grind);refine WC.mono this fun e s hq=>?_
  cases e with
   |normal=>obtain⟨a',k1,k2⟩:=hq;exact⟨(i+1,a'),⟨cA,k1⟩,by grind,k2⟩
   |exit j=>exact hq
   |ret=>exact hq
 grind
end
end Fw
/-
  Walks through functions that look into their caller's boxes.
-/
namespace Fw
open Go
def mW(rs:List jH)(R:V->ao->Prop):Ex->St->Prop| .exit _,_=>False|_,σ=>∃v,ij rs σ=some v/\R v σ.hp
def iI(v:V)(H:ao):V->ao->Prop:=fun r k=>r=v/\k=H
section
variable {P:Program}{GL:bR}
variable {H:ao}{K:List Fr}{n d:Nat}{tm:List (Nat×V)}{R:V->ao->Prop}{f:FuncId}{rs:List jH}{af:List Nat}{l:List ab}{Q:Ex->St->Prop}{vs:List V}{v:V}
theorem CG.bX{fn:bL}{args:List V}(hf:au P f=some fn)(uE:an P f=true)(hc:Nat.ble args.length fn.ntmps=true)(h:CG P GL (.code fn.body) [] fn.ntmps (pZ 0 args) H (mW fn.res R)):WF P GL f args H R:=WF.body hf uE (aax hc) (WC.mono h fun e s hq=>by cases e<;>exact hq)
theorem CG.VY{v':V}(h:ij rs ⟨n,tm,H⟩=some v')(e:R v' H):CG P GL (.code .ret) K n tm H (mW rs R):=WC.ret (KQ.ret (show mW rs R .ret _ from⟨v',h,e⟩))
theorem CG.cM(v':V)(e:R v' H)(h:ij rs ⟨n,tm,H⟩=some v':=by kernel_rfl):CG P GL (.code .ret) K n tm H (mW rs R):=CG.VY h e
theorem CG.PJ{K1:List Fr}{v':V}{S:St->Prop}(h:ij rs ⟨n,tm,H⟩=some v')(e:R v' H):CG P GL (.code .ret) K1 n tm H (LQ P GL K (mW rs R) S):=WC.ret (KQ.ret (show KQ P GL K (mW rs R) .ret _ from KQ.ret (show mW rs R .ret _ from⟨v',h,e⟩)))
theorem CG.pq{K1:List Fr}{S:St->Prop}(v':V)(e:R v' H)(h:ij rs ⟨n,tm,H⟩=some v':=by kernel_rfl):CG P GL (.code .ret) K1 n tm H (LQ P GL K (mW rs R) S):=CG.PJ h e
theorem CG.xh{g:Option (Nat×Bool)}{args:List aX}(h:WF P GL f vs H R)(ho:l.head?=some ⟨some d,.call f args,g,af⟩)(hg:aB g tm=some true)(ha:bQ (aW GL tm) args=vs)(hd:Nat.blt d n=true)(hq:∀v H',R v H'->CG P GL (.ops (l.drop 1)) K n (put tm d v) H' Q):CG P GL (.ops l) K n tm H Q:=by subst ha;refine WO.head ho (WO.call rfl hg (h.mono ?_ ));intro v H' hr;refine⟨⟨n,put tm d v,H'⟩,?_,hq v H' hr⟩;simp_all[a8]
theorem CG.wf{g:Option (Nat×Bool)}{H':ao}{args:List aX}(h:WF P GL f vs H (iI v H'))(ho:l.head?=some ⟨some d,.call f args,g,af⟩)(hg:aB g tm=some true)(ha:bQ (aW GL tm) args=vs)(hd:Nat.blt d n=true)(hq:CG P GL (.ops (l.drop 1)) K n (put tm d v) H' Q):CG P GL (.ops l) K n tm H Q:=CG.xh h ho hg ha hd (by rintro v' H2 ⟨e1,e2⟩;grind)
theorem CG.wfv{g:Option (Nat×Bool)}{H':ao}{first cap:List V}{x:aX}{args:List aX}(h:WF P GL f vs H (iI v H'))(ho:l.head?=some ⟨some d,.b_ x args,g,af⟩)(hg:aB g tm=some true)(hx:aW GL tm x=.func f first cap)(ha:first++bQ (aW GL tm) args++cap=vs)(hd:Nat.blt d n=true)(hq:CG P GL (.ops (l.drop 1)) K n (put tm d v) H' Q):CG P GL (.ops l) K n tm H Q:=by subst ha;refine WO.head ho (WO.b_ rfl hx hg (h.mono ?_ ));rintro v' H2 ⟨e1,e2⟩;rw[e1,e2];refine⟨⟨n,put tm d v,H'⟩,?_,hq⟩;simp_all[a8]
theorem WF.same{args:List V}(h:PC P GL f args v)(H:ao):WF P GL f args H (iI v H):=WF.ER h ⟨rfl,rfl⟩
end
end Fw
/-
  Drawn regions that write nothing, walked operation by operation.
-/
namespace Fw
open Go
theorem j2(n:Nat):∀(l:List D),aE n (l.map .d)=true|[]=>rfl|d::l=>by simp;exact j2 n l
theorem cj{α:Type}(n:Nat)(aa:α->List D)(l:List α):cZ n (aJ aa l)=true:=by
 unfold aJ j1;cases h:((l.flatMap aa).map V.d).isEmpty with
  |true=>rfl
  |false=>simp;exact j2 n _
def rz(tm:List (Nat×V))(d:Option Nat)(v:V):List (Nat×V):=match d with
 |none=>tm
 |some d=>put tm d v
def AO(P:Program)(GL:bR)(base:Nat)(Hp:ao):Nat->List ab->List (Nat×V)->(List (Nat×V)->Prop)->Prop|_,[],tm,Q=>Q tm|i,o::l,tm,Q=>∃cv v,iS GL tm Hp (base+i) o cv=some (v,none)/\(∀f args,cK (aW GL tm) o.op=some (f,args)->aB o.guard tm=some true->lS P GL f args Hp v)/\AO P GL base Hp (i+1) l (rz tm o.dst v) Q
section
variable {P:Program}{GL:bR}
variable {l:List ab}{tm:List (Nat×V)}{base i d:Nat}{Hp:ao}{Q:List (Nat×V)->Prop}{af:List Nat}
theorem AO.runs{base n:Nat}{Hp:ao}:∀{l:List ab}{i:Nat}{tm:List (Nat×V)}{Q:List (Nat×V)->Prop},AO P GL base Hp i l tm Q->∃(CY:List (Option V))(rs:List ((V×Wr)×List Nat))(aZ:List (Nat×V)),CY.length=l.length/\(∀qc:Nat->Option CV,(∀j c,CY[j]? =some c->qc (i+j)=c.map .v)->rp GL base qc i l ⟨n,tm,Hp⟩=some rs)/\tU rs=true/\aP (fun _=>true) i l rs ⟨n,tm,Hp⟩=⟨n,aZ,Hp⟩/\Q aZ/\∀k o r,l[k]? =some o->rs[k]? =some r->∀f args,cK (aW GL (aP (fun j=>decide (j<i+k)) i l rs ⟨n,tm,Hp⟩).tm) o.op=some (f,args)->aB o.guard (aP (fun j=>decide (j<i+k)) i l rs ⟨n,tm,Hp⟩).tm=some true->∀ns,iU P GL f args (aP (fun j=>decide (j<i+k)) i l rs ⟨n,tm,Hp⟩).hp ns r.1
 |[],i,tm,Q,h=>⟨[],[],tm,rfl,fun _ _=>rfl,rfl,rfl,h,by simp⟩
 |o::l,i,tm,Q,h=>by
  obtain⟨cv,v,h1,h2,h3⟩:=h;obtain⟨CY,rs,aZ,k1,k2,k3,k4,k5,k6⟩:=AO.runs (n:=n) h3;have aR:St.iF ⟨n,tm,Hp⟩ o.dst v Hp=⟨n,rz tm o.dst v,Hp⟩:=by unfold St.iF rz;grind
  refine⟨cv::CY,((v,none),mC (aW GL tm) o.op)::rs,aZ,by simp[k1],fun qc PK=>?_,by grind[tU],?_,k5,fun k o' r ho hr f args cq hg=>?_ ⟩
  ·have e0:qc i=cv.map .v:=by simpa using PK 0 cv rfl
   simp only[rp,e0,EF,h1,bn,aR];rw[k2 qc fun j c hj=>by have:=PK (j+1) c (by grind);grind]
  ·simp_all[aP,aaw,bn]
  ·cases k with
    |zero=>simp at ho hr;subst ho;subst hr;rw[iV (fun j hj=>aaL (by omega))]at cq hg⊢;exact fun ns=>(h2 f args cq hg).O3 ns
    |succ k=>
     simp at ho hr;have e:i+(k+1)=i+1+k:=by omega
     have hs:aP (fun j=>decide (j<i+(k+1))) i (o::l) (((v,none),mC (aW GL tm) o.op)::rs) ⟨n,tm,Hp⟩=aP (fun j=>decide (j<i+1+k)) (i+1) l rs ⟨n,rz tm o.dst v,Hp⟩:=by simp only[aP,e,show decide (i<i+1+k)=true by simp;omega,aaw,bn,aR]
     rw[hs]at cq hg⊢;exact k6 k o' r ho hr f args cq hg
theorem qW{m:Nat}:∀{rs:List ((V×Wr)×List Nat)},tU rs=true->iu m rs=true
 |[],_=>rfl
 |r::rs,h=>by
  simp only[tU]at h;split at h
  ·rename_i hr;simp only[iu,aaM,hr,cg,aaV];exact qW h
  ·cases h
theorem CG.fP(hm:P.follows .mixedOrders=true){K:List Fr}{n:Nat}{H:ao}{Q:Ex->St->Prop}(qK:(nL l&&jy n l)=true)(hH:aS H.length H=true)(h:AO P GL H.length (H++List.replicate l.length none) 0 l tm (fun aZ=>∃cO eT,fe cO aZ=eT/\sr H.length eT=true/\CG P GL (.out .normal) K n eT H Q)):CG P GL (.code (.draw l)) K n tm H Q:=by
 rw[aas]at qK;obtain⟨CY,rs,aZ,k1,k2,k3,k4,k5,k6⟩:=AO.runs (n:=n) h;have hw:WC P GL (.draw l) ⟨n,tm,H⟩ (fun e s=>e=.normal/\s=⟨n,aZ,H++List.replicate l.length none⟩):=by
  refine WC.draw (σ:=⟨n,tm,H⟩) hm (qc:=fun i=>((CY[i]? ).bind id).map .v) (rs:=rs) ?_ ?_ qK.2 (qW k3) (fun i o r ho hr f args cq hg=>?_ ) ?_
  ·exact k2 _ fun j c hj=>by simp[hj]
  ·simp_all[fH,Bool.true_or,aa']
  ·have:=k6 i o r ho hr f args (by rw[aaR];exact cq);simp at this;exact this hg _
  ·refine⟨rfl,?_⟩;exact k4
 show WC P GL (.draw l) ⟨n,tm,H⟩ (KQ P GL K Q);refine WC.post (hw.mono ?_ );rintro e s ⟨rfl,rfl⟩;obtain⟨cO,eT,e1,e2,e3⟩:=k5;refine⟨⟨n,eT,H⟩,ay.clean (cO:=cO) (aaE _) ?_,e3⟩;unfold kP;grind
theorem AO.nil{base i:Nat}{Hp:ao}{l:List ab}{tm:List (Nat×V)}{Q:List (Nat×V)->Prop}(hl:l.length=0)(h:Q tm):AO P GL base Hp i l tm Q:=by
 cases l with
  |nil=>exact h
  |cons o l=>simp at hl
def Ae(GL:bR)(base:Nat)(Hp:ao):Nat->Nat->List ab->List (Nat×V)->Option (List (Nat×V))
 |0,_,_,tm=>some tm
 |k+1,i,o::l,tm=>
  match cK (aW GL tm) o.op,aB o.guard tm with
   |some _,some true=>none
   |_,_=>
    match iS GL tm Hp (base+i) o none with
     |some (v,none)=>Ae GL base Hp k (i+1) l (rz tm o.dst v)
     |_=>none
 |_+1,_,[],_=>none
theorem AO.run{base:Nat}{Hp:ao}{Q:List (Nat×V)->Prop}:∀(k:Nat){i:Nat}{l:List ab}{tm aZ:List (Nat×V)},Ae GL base Hp k i l tm=some aZ->AO P GL base Hp (i+k) (l.drop k) aZ Q->AO P GL base Hp i l tm Q
 |0,_,_,_,_,h1,h2=>by grind[Ae,Option.some.injEq]
 |k+1,_,[],_,_,h1,_=>by grind[Ae]
 |k+1,i,o::l,tm,aZ,h1,h2=>by
  have key:∀v,iS GL tm Hp (base+i) o none=some (v,none)->(∀f args,cK (aW GL tm) o.op=some (f,args)->aB o.guard tm≠some true)->Ae GL base Hp k (i+1) l (rz tm o.dst v)=some aZ->AO P GL base Hp i (o::l) tm Q:=by intro v e1 e2 e3;exact⟨none,v,e1,fun f args hc hg=>absurd hg (e2 f args hc),AO.run k e3 (by grind)⟩
  unfold Ae at h1;grind
theorem AO.head{o:ab}(ho:l.head?=some o)(h:AO P GL base Hp i (o::l.drop 1) tm Q):AO P GL base Hp i l tm Q:=by cases l<;>grind
theorem AO.fZ{op:jG}{g:Option (Nat×Bool)}{v:V}(ho:l.head?=some ⟨some d,op,g,af⟩)(hg:aB g tm=some true)(hc:zT op=none)(he:bw (aW GL tm) Hp (base+i) op=some (v,none))(hq:AO P GL base Hp (i+1) (l.drop 1) (put tm d v) Q):AO P GL base Hp i l tm Q:=by
 refine AO.head ho ⟨none,v,?_,fun f args h=>?_,hq⟩
 ·simp only[iS,hg,gx he];exact he
 ·rw[gx he]at h;cases h
theorem AO.idx{g:Option (Nat×Bool)}{sz:Nat}{x k:aX}{es:List (List D)}{j:Nat}{e:List D}(he:es[j]? =some e)(ho:l.head?=some ⟨some d,.a_ sz x k,g,af⟩)(hg:aB g tm=some true)(hx:aW GL tm x=.d (.list es))(hi:dh (aW GL tm k)=some j)(hd:Nat.beq e.length sz=true)(hq:AO P GL base Hp (i+1) (l.drop 1) (put tm d (.aL e)) Q):AO P GL base Hp i l tm Q:=AO.fZ ho hg rfl (by simp_all[bw,aaw]) hq
theorem AO.JS(p q:Nat){g:Option (Nat×Bool)}{x:aX}{s:List UInt8}{lo hi:Option aX}(ho:l.head?=some ⟨some d,.ic x lo hi,g,af⟩)(hg:aB g tm=some true)(hx:aW GL tm x=.d (.str s))(kh:ru GL tm 0 lo=some p)(ji:ru GL tm s.length hi=some q)(PH:p<=q/\q<=s.length)(hq:AO P GL base Hp (i+1) (l.drop 1) (put tm d (.d (.str ((s.take q).drop p)))) Q):AO P GL base Hp i l tm Q:=by have hb:bounds (aW GL tm) s.length lo hi=some (p,q):=qq kh ji PH.1 PH.2;refine AO.fZ ho hg rfl (v:=.d (.str ((s.take q).drop p))) ?_ hq;grind[bw]
theorem AO.lC{g:Option (Nat×Bool)}{f:FuncId}{args:List aX}{vs:List V}{v:V}(h:PC P GL f vs v)(ho:l.head?=some ⟨some d,.call f args,g,af⟩)(hg:aB g tm=some true)(ha:bQ (aW GL tm) args=vs)(hq:AO P GL base Hp (i+1) (l.drop 1) (put tm d v) Q):AO P GL base Hp i l tm Q:=by
 subst ha;refine AO.head ho ⟨some v,v,?_,fun f' pt hc _=>?_,hq⟩
 ·grind[iS,cK]
 ·simp at hc;obtain⟨rfl,rfl⟩:=hc;exact h.Be
theorem AO.done{eT:List (Nat×V)}{m n:Nat}{K:List Fr}{H:ao}{Q:Ex->St->Prop}(cO:List Nat)(hl:l.length=0)(e1:fe cO tm=eT)(e2:sr m eT=true)(hq:CG P GL (.out .normal) K n eT H Q):AO P GL base Hp i l tm (fun aZ=>∃cO eT,fe cO aZ=eT/\sr m eT=true/\CG P GL (.out .normal) K n eT H Q):=AO.nil hl ⟨cO,eT,e1,e2,hq⟩
end
end Fw
/-
  Own rows that are born as empty ones (and never nil), over open data; nil rows as data.
-/
namespace Fw
open Go
def ck{α:Type}(aa:α->List D)(l:List α):bW:=.cells ((l.flatMap aa).map .d)
theorem dw{α:Type}(n:Nat)(aa:α->List D)(l:List α):cZ n (ck aa l)=true:=j2 n _
section
variable {P:Program}{GL:bR}
variable {H:ao}{b:Nat}{α:Type}{tm:List (Nat×V)}
theorem pv{ns sz bytes len k:Nat}{cs xs:List V}(h0:0<sz)(hH:aA H b=some (.cells cs))(hl:cs.length=len*sz)(hk:xs.length=k*sz)(hx:xs.all eC=true)(hr:(len+k)*sz*(bytes+1)<=cf):dM H ns sz bytes (.sl b (len*sz) 0 len sz) xs=some (.sl b ((len+k)*sz) 0 (len+k) sz,some (b,.cells (cs++xs))):=by
 have h1:Nat.beq sz 0=false:=dv (by omega);have h2:Nat.beq (xs.length%sz) 0=true:=by simp_all
 have rW:xs.length / sz=k:=by simp_all
 have lZ:len*sz+xs.length=(len+k)*sz:=by grind
 have hb:Nat.ble ((len+k)*sz*(bytes+1)) cf=true:=by simp_all
 unfold dM;simp only[h1,h2,hx,ab0,aaK,aaS,aaw,hH,hl,aaW,lZ,hb,rW]
theorem CG.LY(aa:α->List D)(as ys:List α){d:Nat}{g:Option (Nat×Bool)}{af:List Nat}{l:List ab}{K:List Fr}{n:Nat}{H':ao}{Q:Ex->St->Prop}{sz bytes:Nat}{x y:aX}(cG:∀a,(aa a).length=sz)(h0:Nat.blt 0 sz=true)(ho:l.head?=some ⟨some d,.append sz bytes x y,g,af⟩)(hg:aB g tm=some true)(hx:aW GL tm x=.sl b (as.length*sz) 0 as.length sz)(hH:aA H b=some (ck aa as))(hy:bE H sz (aW GL tm y)=some ((ys.flatMap aa).map .d))(hr:(as.length+ys.length)*sz*(bytes+1)<=1099511627776)(hd:Nat.blt d n=true)(hH':aR H b (ck aa (as++ys))=H')(hq:CG P GL (.ops (l.drop 1)) K n (put tm d (.sl b ((as++ys).length*sz) 0 (as++ys).length sz)) H' Q):CG P GL (.ops l) K n tm H Q:=by
 have PG:0<sz:=by simp_all
 have e1:=pv (H:=H) (ns:=H.length) (sz:=sz) (bytes:=bytes) (b:=b) (len:=as.length) (k:=ys.length) (cs:=(as.flatMap aa).map .d) (xs:=(ys.flatMap aa).map .d) PG hH (by simp[bK cG]) (by simp[bK cG]) (by simp[eC]) (by grind[cf]);refine CG.fZ ho hg (v:=.sl b ((as++ys).length*sz) 0 (as++ys).length sz) (wr:=some (b,.cells ((as.flatMap aa).map .d++(ys.flatMap aa).map .d))) ?_ ?_ hd hq;all_goals grind[bw,List.length_append,bn,ck]
theorem CZ{aa:α->List D}{l:List α}(h:aA H b=some (ck aa l)):vN H b=some (l.flatMap aa):=by unfold vN;rw[h];unfold ck;exact pk _
theorem ay.C0(aa:α->List D)(as:List α){m n sz:Nat}{aZ:List (Nat×V)}{H':ao}(b s:Nat)(cG:∀a,(aa a).length=sz)(hs:get tm s=.sl b (as.length*sz) 0 as.length sz)(hH:aA H b=some (ck aa as))(xf:sR b 0 H)(e1:put (sS b tm) s (.d (.list (as.map aa)))=aZ)(e2:H.set b none=H'):ay m ⟨n,tm,H⟩ ⟨n,aZ,H'⟩:=by
 intro GL g w a hr;have hf:=nV (ds:=as.flatMap aa) H 0 xf;rw[aaD (aaO _),acn]at hf;have LX:la b ⟨n,tm,H⟩=some ⟨n,tm.map fun p=>(p.1,bV b (as.flatMap aa) p.2),H'⟩:=by unfold la;rw[CZ hH];simp only[hf];rw[po (mO hr.heap),aaw,e2]
 refine(ay.trans (ay.lB LX) (ay.eH fun t=>?_ )) GL g w a hr;subst e1;rw[iE (bV b (as.flatMap aa)) (by simp only[bV]),eY];by_cases ht:t=s
 ·subst ht;rw[aaD rfl,hs];left;have hle:Nat.ble (0+as.length*sz) (as.length*sz)=true:=by simp_all
  simp only[bV,aaS,aaw,bK cG,hle,aa',abi,i_ cG]
 ·rw[aaH ht,kT];cases hn:eA b (get tm t)with
   |true=>left;rw[aaw,dR _ hn]
   |false=>right;rfl
theorem u3{h off len sz j:Nat}(hl:eL H b h=true)(hj:j<len){GL:bR}{x i:aX}(hx:aW GL tm x=.sl b h off len sz)(hi:dh (aW GL tm i)=some j)(ns:Nat):bw (aW GL tm) H ns (.a_ sz x i)=some (.ptr b h (off+j*sz),none):=by
 have:Nat.blt j len=true:=by simp_all
 simp only[bw,hi,hx,aaS,this,hl,aa',aaw]
end
end Fw
/-
  Boxes behind the last one that anybody speaks of are dropped.
-/
namespace Fw
open Go
theorem yp{k:Nat}(h:k<9223372036854775808):aT .i64 (Int.ofNat (k+1) - 1)=Int.ofNat k:=by grind[o8,IntKind.wrap_i64,Int.ofNat_eq_natCast]
theorem C1{k:Nat}(h:k<9223372036854775808):IntKind.wrap .i64 (Int.ofNat (k+1) - 1)=Int.ofNat k:=by grind[IntKind.wrap_i64,Int.ofNat_eq_natCast]
theorem dt(n:Nat)(cs:List V):cZ n (.cells cs)=aE n cs:=rfl
theorem fy(n:Nat):cZ n .nil=true:=rfl
theorem ay.trim{m n:Nat}{tm:List (Nat×V)}{H H':ao}(p:Nat)(cO:List Nat)(hm:Nat.ble m p=true)(hk:fe cO tm=tm)(ht:sr p tm=true)(e:H.take p=H')(hh:aS p H'=true):ay m ⟨n,tm,H⟩ ⟨n,tm,H'⟩:=by refine ay.clean (cO:=cO) (aax hm) ?_;unfold kP;grind
section
variable {P:Program}{GL:bR}
theorem LQ.ret{K:List Fr}{Q:Ex->St->Prop}{R:St->Prop}{s:St}(h:Q .ret s):LQ P GL K Q R .ret s:=KQ.ret h
theorem CG.PL{K:List Fr}{n:Nat}{tm:List (Nat×V)}{H:ao}{Q:Ex->St->Prop}(h:Q .ret ⟨n,tm,H⟩):CG P GL (.code .ret) K n tm H Q:=WC.ret (KQ.ret h)
theorem mW.ret{rs:List jH}{R:V->ao->Prop}{v':V}{σ:St}(h:ij rs σ=some v')(e:R v' σ.hp):mW rs R .ret σ:=⟨v',h,e⟩
end
end Fw
/-
  A block whose last operations run: its end is the code's end.
-/
namespace Fw
open Go
variable {P:Program}{GL:bR}
theorem CG.sU{l:List ab}{id n:Nat}{K:List Fr}{tm:List (Nat×V)}{H:ao}{Q:Ex->St->Prop}(h:CG P GL (.ops l) K n tm H Q):CG P GL (.ops l) (.block id::K) n tm H Q:=h
end Fw
/-
  Drawn regions that write, walked operation by operation; that the order is free is checked at the end.
-/
namespace Fw
open Go
abbrev RS:=List ((V×Wr)×List Nat)
def AW(P:Program)(GL:bR)(base:Nat):Nat->List ab->List (Nat×V)->ao->(RS->List (Nat×V)->ao->Prop)->Prop|_,[],tm,H,Q=>Q [] tm H|i,o::l,tm,H,Q=>∃cv v wr,nK GL tm H (base+i) o cv=some (v,wr)/\(∀f args,cK (aW GL tm) o.op=some (f,args)->aB o.guard tm=some true->iU P GL f args H (base+i) (v,wr))/\AW P GL base (i+1) l (rz tm o.dst v) (bn H wr) (fun rs t k=>Q (((v,wr),mC (aW GL tm) o.op)::rs) t k)
section
variable {P:Program}{GL:bR}
variable {tm:List (Nat×V)}{H:ao}{l:List ab}{base i d:Nat}{Q:RS->List (Nat×V)->ao->Prop}{af:List Nat}
theorem AW.runs{base n:Nat}:∀{l:List ab}{i:Nat}{tm:List (Nat×V)}{H:ao}{Q:RS->List (Nat×V)->ao->Prop},AW P GL base i l tm H Q->∃(CY:List (Option CV))(rs:RS)(aZ:List (Nat×V))(H':ao),CY.length=l.length/\(∀qc:Nat->Option CV,(∀j c,CY[j]? =some c->qc (i+j)=c)->rp GL base qc i l ⟨n,tm,H⟩=some rs)/\aP (fun _=>true) i l rs ⟨n,tm,H⟩=⟨n,aZ,H'⟩/\Q rs aZ H'/\∀k o r,l[k]? =some o->rs[k]? =some r->∀f args,cK (aW GL (aP (fun j=>decide (j<i+k)) i l rs ⟨n,tm,H⟩).tm) o.op=some (f,args)->aB o.guard (aP (fun j=>decide (j<i+k)) i l rs ⟨n,tm,H⟩).tm=some true->iU P GL f args (aP (fun j=>decide (j<i+k)) i l rs ⟨n,tm,H⟩).hp (base+(i+k)) r.1
 |[],i,tm,H,Q,h=>⟨[],[],tm,H,rfl,fun _ _=>rfl,rfl,h,by simp⟩
 |o::l,i,tm,H,Q,h=>by
  obtain⟨cv,v,wr,h1,h2,h3⟩:=h;obtain⟨CY,rs,aZ,H',k1,k2,k4,k5,k6⟩:=AW.runs (n:=n) h3;have aR:St.iF ⟨n,tm,H⟩ o.dst v (bn H wr)=⟨n,rz tm o.dst v,bn H wr⟩:=by unfold St.iF rz;grind
  refine⟨cv::CY,((v,wr),mC (aW GL tm) o.op)::rs,aZ,H',by simp[k1],fun qc PK=>?_,?_,k5,fun k o' r ho hr f args cq hg=>?_ ⟩
  ·have e0:qc i=cv:=by simpa using PK 0 cv rfl
   simp only[rp,e0,h1,aR];rw[k2 qc fun j c hj=>by have:=PK (j+1) c (by grind);grind]
  ·simp_all[aP,aaw]
  ·cases k with
    |zero=>simp at ho hr;subst ho;subst hr;rw[iV (fun j hj=>aaL (by omega))]at cq hg⊢;exact h2 f args cq hg
    |succ k=>
     simp at ho hr;have e:i+(k+1)=i+1+k:=by omega
     have hs:aP (fun j=>decide (j<i+(k+1))) i (o::l) (((v,wr),mC (aW GL tm) o.op)::rs) ⟨n,tm,H⟩=aP (fun j=>decide (j<i+1+k)) (i+1) l rs ⟨n,rz tm o.dst v,bn H wr⟩:=by simp only[aP,e,show decide (i<i+1+k)=true by simp;omega,aaw,aR]
     rw[hs]at cq hg⊢;rw[e];exact k6 k o' r ho hr f args cq hg
theorem CG.j3(hm:P.follows .mixedOrders=true){K:List Fr}{n:Nat}{Q:Ex->St->Prop}(qK:jy n l=true)(h:AW P GL H.length 0 l tm (H++List.replicate l.length none) (fun rs aZ H'=>(fH l rs&&iu (H.length+l.length) rs)=true/\∃eT H2,ay H.length ⟨n,aZ,H'⟩ ⟨n,eT,H2⟩/\CG P GL (.out .normal) K n eT H2 Q)):CG P GL (.code (.draw l)) K n tm H Q:=by
 obtain⟨CY,rs,aZ,H',k1,k2,k4,⟨k5,k7⟩,k6⟩:=AW.runs (n:=n) h;rw[aas]at k5;have hw:WC P GL (.draw l) ⟨n,tm,H⟩ (fun e s=>e=.normal/\s=⟨n,aZ,H'⟩):=by
  refine WC.draw (σ:=⟨n,tm,H⟩) hm (qc:=fun i=>(CY[i]? ).bind id) (rs:=rs) ?_ k5.1 qK k5.2 (fun i o r ho hr f args cq hg=>?_ ) ?_
  ·exact k2 _ fun j c hj=>by simp[hj]
  ·have:=k6 i o r ho hr f args (by rw[aaR];exact cq);simp at this;exact this hg
  ·exact⟨rfl,k4⟩
 show WC P GL (.draw l) ⟨n,tm,H⟩ (KQ P GL K Q);refine WC.post (hw.mono ?_ );rintro e s ⟨rfl,rfl⟩;obtain⟨eT,H2,e1,e3⟩:=k7;exact⟨⟨n,eT,H2⟩,e1,e3⟩
theorem AW.head{o:ab}(ho:l.head?=some o)(h:AW P GL base i (o::l.drop 1) tm H Q):AW P GL base i l tm H Q:=by cases l<;>grind
theorem AW.nil{base i:Nat}{l:List ab}{tm:List (Nat×V)}{H:ao}{Q:RS->List (Nat×V)->ao->Prop}(hl:l.length=0)(h:Q [] tm H):AW P GL base i l tm H Q:=by
 cases l with
  |nil=>exact h
  |cons o l=>simp at hl
def sV(GL:bR)(base:Nat):Nat->Nat->List ab->List (Nat×V)->ao->Option (RS×List (Nat×V)×ao)
 |0,_,_,tm,H=>some ([],tm,H)
 |k+1,i,o::l,tm,H=>
  match cK (aW GL tm) o.op,aB o.guard tm with
   |some _,some true=>none
   |_,_=>
    match iS GL tm H (base+i) o none with
     |some (v,wr)=>
      match sV GL base k (i+1) l (rz tm o.dst v) (bn H wr)with
       |some (rs,t,h)=>some (((v,wr),mC (aW GL tm) o.op)::rs,t,h)
       |none=>none
     |none=>none
 |_+1,_,[],_,_=>none
theorem AW.run{base:Nat}:∀(k:Nat){i:Nat}{l:List ab}{tm aZ:List (Nat×V)}{H H':ao}{rs:RS}{Q:RS->List (Nat×V)->ao->Prop},sV GL base k i l tm H=some (rs,aZ,H')->AW P GL base (i+k) (l.drop k) aZ H' (fun r t h=>Q (rs++r) t h)->AW P GL base i l tm H Q
 |0,_,_,_,_,_,_,_,_,h1,h2=>by simp_all[sV,aat,aay]
 |k+1,_,[],_,_,_,_,_,_,h1,_=>by grind[sV]
 |k+1,i,o::l,tm,aZ,H,H',rs,Q,h1,h2=>by
  have key:∀v wr,iS GL tm H (base+i) o none=some (v,wr)->(∀f args,cK (aW GL tm) o.op=some (f,args)->aB o.guard tm≠some true)->(∃PM,rs=((v,wr),mC (aW GL tm) o.op)::PM/\sV GL base k (i+1) l (rz tm o.dst v) (bn H wr)=some (PM,aZ,H'))->AW P GL base i (o::l) tm H Q:=by rintro v wr e1 e2 ⟨PM,rfl,e3⟩;exact⟨none,v,wr,e1,fun f args hc hg=>absurd hg (e2 f args hc),AW.run k e3 (by grind)⟩
  unfold sV at h1;split at h1
  ·cases h1
  ·rename_i xf;split at h1
   ·rename_i v wr hv;split at h1
    ·rename_i PM t h hr;simp at h1;obtain⟨rfl,rfl,rfl⟩:=h1;exact key v wr hv (fun f args hc hg=>xf _ hc hg) ⟨PM,rfl,hr⟩
    ·cases h1
   ·cases h1
theorem AW.fZ{op:jG}{g:Option (Nat×Bool)}{v:V}{wr:Wr}(ho:l.head?=some ⟨some d,op,g,af⟩)(hg:aB g tm=some true)(hc:zT op=none)(he:bw (aW GL tm) H (base+i) op=some (v,wr))(hq:AW P GL base (i+1) (l.drop 1) (put tm d v) (bn H wr) (fun rs t k=>Q (((v,wr),mC (aW GL tm) op)::rs) t k)):AW P GL base i l tm H Q:=by
 refine AW.head ho ⟨none,v,wr,?_,fun f args h=>?_,hq⟩
 ·simp only[nK,iS,hg,gx he];exact he
 ·rw[gx he]at h;cases h
theorem AW.idx{g:Option (Nat×Bool)}{sz:Nat}{x k:aX}{es:List (List D)}{j:Nat}{e:List D}(he:es[j]? =some e)(ho:l.head?=some ⟨some d,.a_ sz x k,g,af⟩)(hg:aB g tm=some true)(hx:aW GL tm x=.d (.list es))(hi:dh (aW GL tm k)=some j)(hd:Nat.beq e.length sz=true)(hq:AW P GL base (i+1) (l.drop 1) (put tm d (.aL e)) H (fun rs t k=>Q (((.aL e,none),[])::rs) t k)):AW P GL base i l tm H Q:=AW.fZ (v:=.aL e) (wr:=none) ho hg rfl (by simp_all[bw,aaw]) (by simp only[mC,hx];exact hq)
theorem AW.lC{g:Option (Nat×Bool)}{f:FuncId}{args:List aX}{vs:List V}{v:V}(h:PC P GL f vs v)(ho:l.head?=some ⟨some d,.call f args,g,af⟩)(hg:aB g tm=some true)(ha:bQ (aW GL tm) args=vs)(hq:AW P GL base (i+1) (l.drop 1) (put tm d v) H (fun rs t k=>Q (((v,none),mC (aW GL tm) (.call f args))::rs) t k)):AW P GL base i l tm H Q:=by
 subst ha;refine AW.head ho ⟨some (.v v),v,none,?_,fun f' pt hc _=>?_,hq⟩
 ·grind[nK,iS,cK]
 ·simp at hc;obtain⟨rfl,rfl⟩:=hc;exact h.Be.O3 _
def PN:Option (RS×List (Nat×V)×ao)->RS|some x=>x.1|none=>[]
theorem AW.runK(k:Nat){aZ:List (Nat×V)}{H':ao}(h1:(sV GL base k i l tm H).map (fun x=>x.2)=some (aZ,H'))(h2:AW P GL base (i+k) (l.drop k) aZ H' (fun r t h=>Q (PN (sV GL base k i l tm H)++r) t h)):AW P GL base i l tm H Q:=by
 cases hr:sV GL base k i l tm H with
  |none=>grind
  |some x=>obtain⟨rs,t,h⟩:=x;rw[hr]at h1 h2;simp at h1;obtain⟨rfl,rfl⟩:=h1;exact AW.run k hr h2
theorem AW.fin{m n:Nat}{K:List Fr}{eT:List (Nat×V)}{H2:ao}{Q:Ex->St->Prop}(p:Nat)(cO:List Nat)(hm:Nat.ble m p=true)(e1:fe cO tm=eT)(e2:sr p eT=true)(e3:H.take p=H2)(e4:aS p H2=true)(h:CG P GL (.out .normal) K n eT H2 Q):∃eT H2,ay m ⟨n,tm,H⟩ ⟨n,eT,H2⟩/\CG P GL (.out .normal) K n eT H2 Q:=by refine⟨eT,H2,ay.clean (cO:=cO) (aax hm) ?_,h⟩;unfold kP;grind
end
end Fw
/-
  An element appended to an own row in a drawn region that writes.
-/
/-
  A part of a row in a drawn region that writes.
-/
/-
  Steps that tell of a state only what is new.
-/
namespace Fw
open Go
variable {a b:Int}
abbrev bo(b:Bool):V:=.d (.bool b)
abbrev io(k:Int):V:=.d (.int .i64 k)
abbrev no(n:Nat):V:=.d (.int .i64 (.ofNat n))
abbrev lo{α:Type}(f:α->List D)(l:List α):V:=.d (.list (l.map f))
abbrev so(s:List UInt8):V:=.d (.str s)
@[simp] theorem Ob(n:Nat)(b:Bool):aC n (bo b)=true:=rfl
@[simp] theorem Oc(n:Nat)(k:Int):aC n (io k)=true:=rfl
@[simp] theorem Od(n k:Nat):aC n (no k)=true:=rfl
@[simp] theorem Oe{α:Type}(n:Nat)(f:α->List D)(l:List α):aC n (lo f l)=true:=rfl
@[simp] theorem Of(n:Nat)(s:List UInt8):aC n (so s)=true:=rfl
def VZ:Nat->List (Nat×V)->List (Nat×V)|_,[]=>[]|m,p::l=>bif Nat.beq (Nat.land m 1) 1 then p::VZ (Nat.shiftRight m 1) l else VZ (Nat.shiftRight m 1) l
def du(m:Nat)(nw tm:List (Nat×V)):List (Nat×V):=nw.foldl (fun t p=>put t p.1 p.2) (VZ m tm)
def u4(l:List (Nat×bW))(H:ao):ao:=l.foldl (fun H p=>aR H p.1 p.2) H
theorem zz:(∀n:Nat,Int.ofNat n=(n:Int))/\(∀(α β:Type)(f:α->β)(l:List α),(l.map f).length=l.length)/\(∀(α:Type)(l r:List α),(l++r).length=l.length+r.length)/\(∀(α:Type)(a:α)(l:List α),(a::l).length=l.length+1)/\(∀α:Type,([]:List α).length=0)/\(∀(α:Type)(l:List α)(i:Nat),(l.take i).length=min i l.length)/\(∀(α:Type)(l:List α)(i:Nat),(l.drop i).length=l.length - i):=⟨fun _=>rfl,fun _ _ _ _=>aaC _,fun _ _ _=>aap,fun _ _ _=>rfl,fun _=>rfl,fun _ _ _=>abz,fun _ _ _=>ace⟩
theorem fg(a b:Nat)(h:Int.ofNat a<Int.ofNat b:=by(try simp only[zz]at*)<;>omega):aI (Int.ofNat a) (Int.ofNat b)=true:=PD h
theorem fh(a b:Nat)(h:Int.ofNat b<=Int.ofNat a:=by(try simp only[zz]at*)<;>omega):aI (Int.ofNat a) (Int.ofNat b)=false:=PE h
theorem tEn(a b:Nat)(h:Int.ofNat a=Int.ofNat b:=by(try simp only[zz]at*)<;>omega):aN (Int.ofNat a) (Int.ofNat b)=true:=t_ h
theorem fEn(a b:Nat)(h:Int.ofNat a≠Int.ofNat b:=by(try simp only[zz]at*)<;>omega):aN (Int.ofNat a) (Int.ofNat b)=false:=ua h
theorem fi(h:a<b:=by(try simp only[zz]at*)<;>omega):aI a b=true:=PD h
theorem eV(h:b<=a:=by(try simp only[zz]at*)<;>omega):aI a b=false:=PE h
theorem ll(h:a=b:=by(try simp only[zz]at*)<;>omega):aN a b=true:=t_ h
theorem rA(h:a≠b:=by(try simp only[zz]at*)<;>omega):aN a b=false:=ua h
abbrev bF:V:=.d (.bool false)
abbrev bT:V:=.d (.bool true)
abbrev i0:V:=.d (.int .i64 0)
abbrev sE:V:=.d (.str [])
abbrev tE:V:=.tuple []
section
variable {P:Program}{GL:bR}
variable {l:List ab}{tm:List (Nat×V)}{G:Prop}{H:ao}{d n:Nat}{af:List Nat}{K:List Fr}{Q:Ex->St->Prop}
theorem AO.rd{base:Nat}{Hp:ao}{Q:List (Nat×V)->Prop}(k:Nat)(nw:List (Nat×V)){i:Nat}(h1:Ae GL base Hp k i l tm=some (nw.foldl (fun t p=>put t p.1 p.2) tm))(h2:AO P GL base Hp (i+k) (l.drop k) (nw.foldl (fun t p=>put t p.1 p.2) tm) Q):AO P GL base Hp i l tm Q:=AO.run k h1 h2
theorem AW.rk{base:Nat}(k:Nat)(nw:List (Nat×V))(hd:List (Nat×bW)){i:Nat}{Q:RS->List (Nat×V)->ao->Prop}(h1:(sV GL base k i l tm H).map (fun x=>x.2)=some (nw.foldl (fun t p=>put t p.1 p.2) tm,u4 hd H))(h2:AW P GL base (i+k) (l.drop k) (nw.foldl (fun t p=>put t p.1 p.2) tm) (u4 hd H) (fun r t h=>Q (PN (sV GL base k i l tm H)++r) t h)):AW P GL base i l tm H Q:=AW.runK k h1 h2
theorem CG.ix{g:Option (Nat×Bool)}{sz:Nat}{x i:aX}{es:List (List D)}{j:Nat}{e:List D}(he:es[j]? =some e)(ho:l.head?=some ⟨some d,.a_ sz x i,g,af⟩)(hc:(aB g tm,aW GL tm x,dh (aW GL tm i),Nat.blt d n&&Nat.beq e.length sz)=(some true,.d (.list es),some j,true))(hq:CG P GL (.ops (l.drop 1)) K n (put tm d (.aL e)) H Q):CG P GL (.ops l) K n tm H Q:=by simp only[aay]at hc;exact CG.idx he ho hc.1 hc.2.1 hc.2.2.1 hc.2.2.2 hq
theorem CG.V0{g:Option (Nat×Bool)}{x i:aX}{s:List UInt8}{j:Nat}{b:UInt8}(he:s[j]? =some b)(ho:l.head?=some ⟨some d,.jh x i,g,af⟩)(hc:(aB g tm,aW GL tm x,dh (aW GL tm i),Nat.blt d n)=(some true,.d (.str s),some j,true))(hq:CG P GL (.ops (l.drop 1)) K n (put tm d (.d (.int .u8 b.toNat))) H Q):CG P GL (.ops l) K n tm H Q:=by simp only[aay]at hc;exact CG.jh he ho hc.1 hc.2.1 hc.2.2.1 hc.2.2.2 hq
theorem CG.pg{g:Option (Nat×Bool)}{f:FuncId}{args:List aX}{vs:List V}{v:V}(h:PC P GL f vs v)(ho:l.head?=some ⟨some d,.call f args,g,af⟩)(hc:(aB g tm,bQ (aW GL tm) args,Nat.blt d n)=(some true,vs,true))(hq:CG P GL (.ops (l.drop 1)) K n (put tm d v) H Q):CG P GL (.ops l) K n tm H Q:=by simp only[aay]at hc;exact CG.lC h ho hc.1 hc.2.1 hc.2.2 hq
theorem CG.DT{α:Type}(aa:α->List D)(as ys:List α){g:Option (Nat×Bool)}{sz bytes:Nat}{x y:aX}(b:Nat)(cG:∀a,(aa a).length=sz)(ho:l.head?=some ⟨some d,.append sz bytes x y,g,af⟩)(hc:(Nat.blt 0 sz,aB g tm,aW GL tm x,aA H b,Nat.blt d n)=(true,some true,.sl b (as.length*sz) 0 as.length sz,some (aJ aa as),true))(hy:bE H sz (aW GL tm y)=some ((ys.flatMap aa).map .d))(hr:(as.length+ys.length)*sz*(bytes+1)<=1099511627776)(hq:CG P GL (.ops (l.drop 1)) K n (put tm d (.sl b ((as++ys).length*sz) 0 (as++ys).length sz)) (aR H b (aJ aa (as++ys))) Q):CG P GL (.ops l) K n tm H Q:=by simp only[aay]at hc;exact CG.Ik aa as ys cG hc.1 ho hc.2.1 hc.2.2.1 hc.2.2.2.1 hy hr hc.2.2.2.2 rfl hq
theorem CG.Fs{α:Type}(aa:α->List D)(as ys:List α){g:Option (Nat×Bool)}{sz bytes:Nat}{x y:aX}(b:Nat)(cG:∀a,(aa a).length=sz)(ho:l.head?=some ⟨some d,.append sz bytes x y,g,af⟩)(hc:(Nat.blt 0 sz,aB g tm,aW GL tm x,aA H b,Nat.blt d n)=(true,some true,.sl b (as.length*sz) 0 as.length sz,some (ck aa as),true))(hy:bE H sz (aW GL tm y)=some ((ys.flatMap aa).map .d))(hr:(as.length+ys.length)*sz*(bytes+1)<=1099511627776)(hq:CG P GL (.ops (l.drop 1)) K n (put tm d (.sl b ((as++ys).length*sz) 0 (as++ys).length sz)) (aR H b (ck aa (as++ys))) Q):CG P GL (.ops l) K n tm H Q:=by simp only[aay]at hc;exact CG.LY aa as ys cG hc.1 ho hc.2.1 hc.2.2.1 hc.2.2.2.1 hy hr hc.2.2.2.2 rfl hq
theorem sp(b:Bool)(t:b=true->G)(f:b=false->G):G:=(Bool.eq_false_or_eq_true b).elim t f
theorem j4(a b:Int)(t:aI a b=true->a<b->G)(f:aI a b=false->b<=a->G):G:=sp (aI a b) (fun h=>t h (ltT h)) (fun h=>f h (ltF h))
theorem cl(a b:Int)(t:aN a b=true->a=b->G)(f:aN a b=false->a≠b->G):G:=sp (aN a b) (fun h=>t h (u1 h)) (fun h=>f h (eqF h))
theorem PO(a b:Int)(t:(a==b)=true->a=b->G)(f:(a==b)=false->a≠b->G):G:=sp (a==b) (fun h=>t h (VW h)) (fun h=>f h (VX h))
theorem PP(p:Prop) [Decidable p] (t:decide p=true->p->G) (f:decide p=false->¬p->G):G:=sp (decide p) (fun h=>t h (abM h)) (fun h=>f h (of_decide_eq_false h))
theorem bz(a b:Nat)(t:aI (.ofNat a) (.ofNat b)=true->a<b->G)(f:aI (.ofNat a) (.ofNat b)=false->b<=a->G):G:=sp _ (fun h=>t h (Int.ofNat_lt.1 (ltT h))) (fun h=>f h (Int.ofNat_le.1 (ltF h)))
theorem d_(a b:Nat)(t:aN (.ofNat a) (.ofNat b)=true->a=b->G)(f:aN (.ofNat a) (.ofNat b)=false->a≠b->G):G:=sp _ (fun h=>t h (Int.ofNat_inj.1 (u1 h))) (fun h=>f h (fun e=>eqF h (aca _ e)))
end
end Fw
/-
  A nil row in a cell of a box, known as empty data from here on.
-/
/-
  Equality of two structs in a walk; the state told anew.
-/
namespace Fw
open Go
def sW(ks:List Nat)(tm:List (Nat×V)):List (Nat×V):=ks.map fun k=>(k,get tm k)
theorem l_(tm:List (Nat×V)):∀(ks:List Nat)(s:Nat),get (sW ks tm) s=get tm s\/get (sW ks tm) s=.any
 |[],s=>.inr rfl
 |k::ks,s=>by
  show get ((k,get tm k)::sW ks tm) s=_\/get ((k,get tm k)::sW ks tm) s=_;simp only[get];cases h:Nat.beq k s with
   |true=>simp_all
   |false=>exact l_ tm ks s
section
variable {P:Program}{GL:bR}
variable {tm:List (Nat×V)}{K:List Fr}{n:Nat}{H:ao}{Q:Ex->St->Prop}{cur:lA}
theorem CG.Ca{d:Nat}{neg:Bool}{ks:List dn}{x y:aX}{g:Option (Nat×Bool)}{af:List Nat}{l:List ab}{xs ys:List V}{r:Bool}(ho:l.head?=some ⟨some d,.Ca neg ks x y,g,af⟩)(hc:(aB g tm,aW GL tm x,aW GL tm y,Nat.blt d n)=(some true,.agg xs,.agg ys,true))(he:iQ ks xs ys=some r)(hq:CG P GL (.ops (l.drop 1)) K n (put tm d (.d (.bool (bif neg then !r else r)))) H Q):CG P GL (.ops l) K n tm H Q:=by simp only[aay]at hc;exact CG.fZ ho hc.1 (v:=.d (.bool (bif neg then !r else r))) (wr:=none) (by grind[bw]) rfl hc.2.2.2 hq
theorem AO.Ca{base i d:Nat}{Hp:ao}{neg:Bool}{ks:List dn}{x y:aX}{g:Option (Nat×Bool)}{af:List Nat}{l:List ab}{Q:List (Nat×V)->Prop}{xs ys:List V}{r:Bool}(ho:l.head?=some ⟨some d,.Ca neg ks x y,g,af⟩)(hc:(aB g tm,aW GL tm x,aW GL tm y)=(some true,.agg xs,.agg ys))(he:iQ ks xs ys=some r)(hq:AO P GL base Hp (i+1) (l.drop 1) (put tm d (.d (.bool (bif neg then !r else r)))) Q):AO P GL base Hp i l tm Q:=by simp at hc;exact AO.fZ ho hc.1 rfl (v:=.d (.bool (bif neg then !r else r))) (by grind[bw]) hq
theorem CG.is(aZ:List (Nat×V))(H':ao)(h:(tm,H)=(aZ,H'))(hq:CG P GL cur K n aZ H' Q):CG P GL cur K n tm H Q:=by grind
theorem CG.cO(hc:yk cur=false)(ks:List Nat)(h:CG P GL cur K n (sW ks tm) H Q):CG P GL cur K n tm H Q:=CG.eH hc (fun s=>l_ tm ks s) h
theorem CG.mX(H':ao)(h:H=H')(hq:CG P GL cur K n tm H' Q):CG P GL cur K n tm H Q:=by grind
end
end Fw
/-
  An own row of which other boxes speak, known as data from here on.
-/
namespace Fw
open Go
def ub(b:Nat)(xe new:V):List V->List V->Prop|[],[]=>True|v::vs,u::us=>((v=xe/\u=new)\/(eA b v=true/\u=v))/\ub b xe new vs us|_,_=>False
def ja(b:Nat)(xe new:V):Nat->ao->ao->Prop|_,[],[]=>True|i,x::H,y::H'=>((i=b/\y=none)\/(i≠b/\fO b x/\y=x)\/(i≠b/\∃cs us,x=some (.cells cs)/\y=some (.cells us)/\ub b xe new cs us))/\ja b xe new (i+1) H H'|_,_,_=>False
theorem yq{b:Nat}{ds:List D}{xe new:V}(ho:bV b ds xe=new):∀(cs us:List V),ub b xe new cs us->lz b ds cs=us
 |[],[],_=>by simp only[lz]
 |v::vs,u::us,h=>by
  simp only[ub]at h;simp only[lz,yq ho vs us h.2];rcases h.1 with⟨rfl,rfl⟩|⟨h1,rfl⟩
  ·rw[ho]
  ·rw[dR _ h1]
 |[],_::_,h=>by grind[ub]
 |_::_,[],h=>by grind[ub]
theorem sX{b:Nat}{ds:List D}{xe new:V}(ho:bV b ds xe=new):∀(H H':ao)(i:Nat),ja b xe new i H H'->jM b ds i H=H'
 |[],[],_,_=>by simp only[jM]
 |x::H,y::H',i,h=>by
  simp only[ja]at h;simp only[jM,sX ho H H' (i+1) h.2];rcases h.1 with⟨rfl,rfl⟩|⟨h1,h2,rfl⟩|⟨h1,cs,us,rfl,rfl,h2⟩
  ·simp_all
  ·rw[dv h1,aaK];cases y with
    |none=>rfl
    |some y=>rw[aaI,pj h2]
  ·rw[dv h1,aaK,aaI,eP,yq ho cs us h2]
 |[],_::_,_,h=>by grind[ja]
 |_::_,[],_,h=>by grind[ja]
theorem Ft{b:Nat}{xe new:V}(hn:eC new=true):∀(cs us:List V),ub b xe new cs us->cs.all eC=true->us.all eC=true
 |[],[],_,_=>rfl
 |v::vs,u::us,h,k=>by simp only[ub]at h;simp only[aaM,aas]at k⊢;refine⟨?_,Ft hn vs us h.2 k.2⟩;grind
 |[],_::_,h,_=>by grind[ub]
 |_::_,[],h,_=>by grind
theorem Af{b:Nat}{xe new:V}(hn:eC new=true):∀(H H':ao)(i:Nat),ja b xe new i H H'->H.all kY=true->H'.all kY=true
 |[],[],_,_,_=>rfl
 |x::H,y::H',i,h,k=>by
  simp only[ja]at h;simp only[aaM,aas]at k⊢;refine⟨?_,Af hn H H' (i+1) h.2 k.2⟩;rcases h.1 with⟨rfl,rfl⟩|⟨h1,h2,rfl⟩|⟨h1,cs,us,rfl,rfl,h2⟩
  ·rfl
  ·exact k.1
  ·exact Ft hn cs us h2 k.1
 |[],_::_,_,h,_=>by grind[ja]
 |_::_,[],_,h,_=>by grind
theorem ay.C2{α:Type}(aa:α->List D)(as:List α){m n sz:Nat}{tm aZ:List (Nat×V)}{H H':ao}(b:Nat)(cG:∀a,(aa a).length=sz)(hH:aA H b=some (aJ aa as))(hr:ja b (.sl b (as.length*sz) 0 as.length sz) (.d (.list (as.map aa))) 0 H H')(e1:sS b tm=aZ):ay m ⟨n,tm,H⟩ ⟨n,aZ,H'⟩:=by
 intro GL g w a ur;have hle:Nat.ble (0+as.length*sz) (as.length*sz)=true:=by simp_all
 have ho:bV b (as.flatMap aa) (.sl b (as.length*sz) 0 as.length sz)=.d (.list (as.map aa)):=by simp only[bV,aaS,aaw,bK cG,hle,aa',abi,i_ cG]
 have hf:=sX ho H H' 0 hr;have LX:la b ⟨n,tm,H⟩=some ⟨n,tm.map fun p=>(p.1,bV b (as.flatMap aa) p.2),H'⟩:=by unfold la;rw[sT hH];simp only[hf];rw[Af rfl H H' 0 hr (mO ur.heap),aaw]
 refine(ay.trans (ay.lB LX) (ay.eH fun t=>?_ )) GL g w a ur;subst e1;rw[iE (bV b (as.flatMap aa)) (by simp only[bV]),kT];cases hn:eA b (get tm t)with
  |true=>left;rw[aaw,dR _ hn]
  |false=>right;rfl
end Fw
/-
  A row of one cell-list told as it stands, appended to an own row in a drawn region; the nil row in it known as empty data behind it.
-/
namespace Fw
open Go
section
variable {P:Program}{GL:bR}
end
@[simp] theorem wH(n:Nat)(xs:List V):∀(l:List D),aE n (l.map .d++xs)=aE n xs|[]=>rfl|d::l=>by rw[aaG,abH,aE,wH n xs l];rfl
end Fw
