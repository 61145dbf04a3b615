/-
  Calls that hand back a row known to be nil.
-/
import Derived.Test.YtpeomfjbcdahnaaGreatDoorFf
set_option linter.unusedSimpArgs false
set_option linter.unusedVariables false
namespace Fw
open Go
section
variable {P:Program}{GL:bM}
mutual
def PB:V->List Nat| .sl b _ _ _ _=>[b]| .agg cs=>Ap cs| .tuple vs=>Ap vs|_=>[]
def Ap:List V->List Nat|[]=>[]|v::vs=>PB v++Ap vs
end
end
end Fw
/-
  Loops over states told by data, and a row's element at an open place.
-/
namespace Fw
open Go
section
variable {P:Program}{GL:bM}
variable {K K1:List Fr}{n d:Nat}{tm:List (Nat×V)}{H:an}{Q:Ex->St->Prop}{R:St->Prop}{l:List ab}{v:V}{af:List Nat}
def LQ(P:Program)(GL:bM)(K:List Fr)(Q:Ex->St->Prop)(R:St->Prop):Ex->St->Prop| .normal,s=>R s|e,s=>KQ P GL K Q e s
def vb(i:Nat):List Fr->Bool|[]=>true| .block j::K=> !Nat.beq i j&&vb i K|_::K=>vb i K
theorem KQ.exit{i:Nat}:∀{K:List Fr}{Q:Ex->St->Prop}{σ:St},vb i K=true->Q (.exit i) σ->KQ P GL K Q (.exit i) σ
 |[],_,_,_,h=>h
 | .seq _::K,_,_,hf,h=>KQ.exit (K:=K) hf h
 | .block j::K,_,_,hf,h=>by simp only[vb,aas,abM]at hf;exact eu.other (fun e=>by simp_all) (KQ.exit (K:=K) hf.2 h)
 | .loop _ _::K,_,_,hf,h=>KQ.exit (K:=K) hf h
theorem CG.aX{i:Nat}(hf:vb i K1=true)(h:CG P GL (.out (.exit i)) K n tm H Q):CG P GL (.code (.exit i)) K1 n tm H (LQ P GL K Q R):=WC.exit (KQ.exit hf h)
theorem CG.VN{rs:List iQ}{v':V}(h:(h_ rs ⟨n,tm,H⟩).bind (fA H)=some v')(e:v'=v):CG P GL (.code .ret) K1 n tm H (LQ P GL K (me rs v) R):=WC.ret (KQ.ret (show KQ P GL K (me rs v) .ret _ from KQ.ret (me.ret h e)))
theorem CG.rA{rs:List iQ}(v':V)(e:v'=v)(h:(h_ rs ⟨n,tm,H⟩).bind (fA H)=some v':=by kernel_rfl):CG P GL (.code .ret) K1 n tm H (LQ P GL K (me rs v) R):=CG.VN h e
theorem CG.fu(hl:l.length=0)(h:R ⟨n,tm,H⟩):CG P GL (.ops l) [] n tm H (LQ P GL K Q R):=by
 cases l with
  |nil=>exact WO.nil h
  |cons o l=>simp at hl
theorem CG.tc{α:Type}(I:α->List (Nat×V))(J:α->an)(pre:α->Prop)(μ:α->Nat)(a:α)(h0:pre a){b:IR}(hs:ax H.length ⟨n,tm,H⟩ ⟨n,I a,J a⟩)(h:∀a,pre a->CG P GL (.code b) [] n (I a) (J a) (LQ P GL K Q fun s=>∃a',pre a'/\μ a'<μ a/\ax (J a).length s ⟨n,I a',J a'⟩)):CG P GL (.code (.loop b)) K n tm H Q:=by
 refine WC.Pg (α:={a:α // pre a}) (fun a=>⟨n,I a.1,J a.1⟩) (fun a=>μ a.1) (fun a=>?_ ) ⟨a,h0⟩ hs;refine WC.mono (h a.1 a.2) fun e s hq=>?_
 cases e with
  |normal=>obtain⟨a',h1,h2,h3⟩:=hq;exact⟨⟨a',h1⟩,h2,h3⟩
  |exit i=>exact hq
  |ret=>exact hq
theorem CG.idx{g:Option (Nat×Bool)}{sz:Nat}{x i:aU}{es:List (List D)}{j:Nat}{e:List D}(he:es[j]? =some e)(ho:l.head?=some ⟨some d,.bj sz x i,g,af⟩)(hg:aB g tm=some true)(hx:aT GL tm x=.d (.list es))(hi:cN (aT GL tm i)=some j)(hd:(Nat.blt d n&&Nat.beq e.length sz)=true)(hq:CG P GL (.ops (l.drop 1)) K n (put tm d (.aO e)) H Q):CG P GL (.ops l) K n tm H Q:=by
 rw[aas]at hd;refine WO.head ho (WO.bt (v:=.aO e) (wr:=none) (aS:=⟨n,put tm d (.aO e),H⟩) hg ?_ ?_ hq)
 ·simp_all[bt,aaw]
 ·show St.put ⟨n,tm,H⟩ (some d) _ (bp H none)=_;rw[bB,aaF (by simp_all)];rfl
theorem CG.od{g:Option (Nat×Bool)}{f:FuncId}{args:List aU}{vs:List V}(h:PC P GL f vs v)(ho:l.head?=some ⟨some d,.call f args,g,af⟩)(hg:aB g tm=some true)(ha:bI (aT GL tm) args=vs)(hd:Nat.blt d n=true)(hq:CG P GL (.ops (l.drop 1)) K n (put tm d v) H Q):CG P GL (.ops l) K n tm H Q:=by refine WO.head ho (WO.jK h rfl hg ha (aS:=⟨n,put tm d v,H⟩) ?_ hq);simp_all[bB]
theorem CG.iB{g:Option (Nat×Bool)}{x i:aU}{s:List UInt8}{j:Nat}{b:UInt8}(he:s[j]? =some b)(ho:l.head?=some ⟨some d,.iB x i,g,af⟩)(hg:aB g tm=some true)(hx:aT GL tm x=.d (.str s))(hi:cN (aT GL tm i)=some j)(hd:Nat.blt d n=true)(hq:CG P GL (.ops (l.drop 1)) K n (put tm d (.d (.int .u8 b.toNat))) H Q):CG P GL (.ops l) K n tm H Q:=by
 refine WO.head ho (WO.bt (v:=.d (.int .u8 b.toNat)) (wr:=none) (aS:=⟨n,put tm d (.d (.int .u8 b.toNat)),H⟩) hg ?_ ?_ hq)
 ·grind[bt]
 ·show St.put ⟨n,tm,H⟩ (some d) _ (bp H none)=_;rw[bB,aaF (by simp_all)];rfl
theorem Fo{m:Nat}(h:m<9223372036854775808):aW .i64 (.ofNat m)=.ofNat m:=by simp only[aW];rw[show Nat.blt m 9223372036854775808=true by simp_all];rfl
theorem bf{i:Nat}(h:i+1<9223372036854775808):aW .i64 (bJ (.ofNat i) 1)=.ofNat (i+1):=Fo h
end
end Fw
/-
  Own rows over open data: rows told by lists, appends, freezing, calls of values, parts of rows, loops over a list.
-/
namespace Fw
open Go
variable {α:Type}
def lh(cs:List V):bR:=bif cs.isEmpty then .nil else .cells cs
def aK(aa:α->List D)(l:List α):bR:=lh ((l.flatMap aa).map .d)
theorem yu(aa:α->List D):aK aa []=.nil:=rfl
theorem cg{aa:α->List D}{sz:Nat}(h:∀a,(aa a).length=sz)(l:List α):(l.flatMap aa).length=l.length*sz:=by induction l<;>grind
theorem vd:∀{H:an}{b:Nat}{x:bR},aC H b=some x->aR H b x=H
 |[],_,_,h=>by simp[aC]at h
 |y::H,0,x,h=>by grind[aC,aR]
 |y::H,b+1,x,h=>by simp only[aC]at h;simp[aR,vd h]
theorem yw{H:an}{ns sz bytes b len k:Nat}{cs xs:List V}(h0:0<sz)(hH:aC H b=some (lh cs))(hl:cs.length=len*sz)(hk:xs.length=k*sz)(hx:xs.all eL=true)(hr:(len+k)*sz*(bytes+1)<=cf):∃wr,dG H ns sz bytes (.sl b (len*sz) 0 len sz) xs=some (.sl b ((len+k)*sz) 0 (len+k) sz,wr)/\bp H wr=aR H b (lh (cs++xs)):=by
 have h1:Nat.beq sz 0=false:=dr (by omega);have h2:Nat.beq (xs.length%sz) 0=true:=by simp_all
 have si:xs.length / sz=k:=by simp_all
 have mf:len*sz+xs.length=(len+k)*sz:=by grind
 unfold dG;simp only[h1,h2,hx,abQ,aaM,aaS,aaw,hH];cases cs with
  |nil=>
   have hlen:len=0:=by simp at hl;rcases ack.1 hl.symm with h|h;all_goals grind
   subst hlen;simp only[lh,List.isEmpty_nil,aaw,Nat.zero_mul,aaS,abd,List.nil_append];cases xs with
    |nil=>
     have:k=0:=by simp_all
     subst this;refine⟨none,by simp,?_ ⟩;simp only[bp,List.isEmpty_nil,aaw];exact(vd (by rw[hH];rfl)).symm
    |cons x xs=>
     refine⟨some (b,.cells (x::xs)),?_,by simp[bp]⟩;have hb:Nat.ble (k*sz*(bytes+1)) cf=true:=by simp_all
     grind
  |cons c cs=>
   simp only[lh,List.isEmpty_cons,aaM,hl,aaS,aaU,aaW,mf];have:Nat.ble ((len+k)*sz*(bytes+1)) cf=true:=by simp_all
   simp only[this,aaw,si,abI,List.isEmpty_cons,aaM];grind[bp]
theorem du{aa:α->List D}{sz:Nat}(h:∀a,(aa a).length=sz)(H:an)(l:List α):bO H sz (.d (.list (l.map aa)))=some ((l.flatMap aa).map .d):=by
 have:(l.map aa).all (fun e=>Nat.beq e.length sz)=true:=by simp_all
 simp only[bO,this,aaw];grind
mutual
def ew(b:Nat):V->Bool| .ptr c _ _=> !Nat.beq c b| .sl c _ _ _ _=> !Nat.beq c b| .map c=> !Nat.beq c b| .iter c _=> !Nat.beq c b| .gI c=> !Nat.beq c b| .func _ a c=>mg b a&&mg b c| .iface _ v=>ew b v| .agg cs=>mg b cs| .tuple vs=>mg b vs|_=>true
def mg(b:Nat):List V->Bool|[]=>true|v::vs=>ew b v&&mg b vs
end
mutual
theorem dK{b:Nat}{ds:List D}:∀(v:V),ew b v=true->bV b ds v=v
 | .ptr c _ _,h=>by simp_all[ew,bV,aaM]
 | .sl c _ _ _ _,h=>by simp_all[ew,bV,aaM]
 | .map c,h=>by simp_all[ew,bV,aaM]
 | .iter c _,h=>by simp_all[ew,bV,aaM]
 | .gI c,h=>by simp_all[ew,bV,aaM]
 | .func _ a c,h=>by simp only[ew,aas]at h;simp only[bV,gA a h.1,gA c h.2]
 | .iface _ v,h=>by simp only[ew]at h;simp only[bV,dK v h]
 | .agg cs,h=>by simp only[ew]at h;simp only[bV,gA cs h]
 | .tuple vs,h=>by simp only[ew]at h;simp only[bV,gA vs h]
 | .any,_=>by simp only[bV]
 | .d _,_=>by simp only[bV]
 | .full _,_=>by simp only[bV]
 | .ak,_=>by simp only[bV]
 | .lD,_=>by simp only[bV]
 | .aO _,_=>by simp only[bV]
 | .kC,_=>by simp only[bV]
 | .oK,_=>by simp only[bV]
 | .bz,_=>by simp only[bV]
 | .fy,_=>by simp only[bV]
theorem gA{b:Nat}{ds:List D}:∀(l:List V),mg b l=true->lF b ds l=l
 |[],_=>by simp only[lF]
 |v::vs,h=>by simp only[mg,aas]at h;simp only[lF,dK v h.1,gA vs h.2]
end
def fN(b:Nat):Option bR->Prop
 |some (.cells cs)=>mg b cs=true
 |some (.map es)=>es.all (fun p=>ew b p.2)=true
 |some (.loop _ tm _ _ _ _)=>tm.all (fun p=>ew b p.2)=true
 |_=>True
def td(b:Nat):Nat->an->Prop|_,[]=>True|i,x::H=>(i=b\/fN b x)/\td b (i+1) H
theorem pG{b:Nat}{ds:List D}{x:bR}(h:fN b (some x)):eN b ds x=x:=by
 cases x with
  |cells cs=>simp only[fN]at h;simp only[eN,gA cs h]
  |map es=>
   simp only[fN,aaJ]at h;simp only[eN,bR.map.injEq];conv=>rhs;rw[←List.map_id es]
   refine abP fun p hp=>?_
   rw[dK _ (h p hp)];rfl
  |loop n tm ps ca cb st=>
   simp only[fN,aaJ]at h;simp only[eN,bR.loop.injEq,true_and,ab'];conv=>rhs;rw[←List.map_id tm]
   refine abP fun p hp=>?_
   rw[dK _ (h p hp)];rfl
  |_=>simp only[eN]
theorem oe{b:Nat}{ds:List D}:∀(H:an)(i:Nat),td b i H->j4 b ds i H=if i<=b then H.set (b - i) none else H
 |[],i,_=>by simp[j4]
 |x::H,i,h=>by
  simp only[td]at h;simp only[j4,oe H (i+1) h.2];by_cases e:i=b
  ·subst e;rw[aaS,aaw,aaH (by omega),aaF (aaC i),acD];rfl
  ·rw[dr e,aaM];have hb:fN b x:=h.1.resolve_left e;have hx:x.map (eN b ds)=x:=by
    cases x with
     |none=>rfl
     |some x=>rw[aaI,pG hb]
   rw[hx];by_cases cy:i<=b
   ·rw[aaF (by omega),aaF cy,show b - i=b - (i+1)+1 by omega];rfl
   grind
def tf(b:Nat)(tm:List (Nat×V)):List (Nat×V):=tm.map fun p=>(p.1,bif ew b p.2 then p.2 else .any)
theorem lj(b:Nat)(tm:List (Nat×V))(t:Nat):get (tf b tm) t=bif ew b (get tm t)then get tm t else .any:=iE (fun v=>bif ew b v then v else .any) rfl tm t
theorem jd{α:Type}{aa:α->List D}{sz:Nat}(h:∀a,(aa a).length=sz):∀(l:List α),fY sz l.length (l.flatMap aa)=l.map aa|[]=>rfl|a::l=>by simp only[aap,fY,aaV,aaB];rw[List.take_append_of_le_length (by grind),←h a,abA,List.drop_append_of_le_length (by omega),List.drop_length,List.nil_append,h a,jd h l]
theorem tg:∀(l:List D),iR (l.map .d)=some l|[]=>rfl|d::l=>by simp only[aaB,iR,tg l,aaI]
theorem th{α:Type}{aa:α->List D}{H:an}{b:Nat}{l:List α}(h:aC H b=some (aK aa l)):xD H b=some (l.flatMap aa):=by
 unfold xD;rw[h];unfold aK lh;cases hl:l.flatMap aa with
  |nil=>rfl
  |cons d ds=>simp;rw[←aaB,tg]
section
variable {P:Program}{GL:bM}
variable {H H':an}{n d m:Nat}{tm a7:List (Nat×V)}{a b:Int}{K:List Fr}{Q:Ex->St->Prop}{l:List ab}{α:Type}{af:List Nat}{w:World}
theorem mV{g:G}(hh:aw g w H):H.all lS=true:=by
 have:∀(H':an),(∀b y,aC H' b=some y->lS (some y)=true)->H'.all lS=true:=by
  intro H';induction H' with
   |nil=>grind
   |cons x H' ih=>
    intro h;simp only[aaL,aas];refine⟨?_,ih fun b y hy=>h (b+1) y hy⟩;cases x with
     |none=>rfl
     |some y=>exact h 0 y rfl
 refine this H fun b y hy=>?_
 obtain⟨x,hx⟩:=hh.back b y hy;obtain⟨_,y',xt,hr⟩:=hh.live b x hx;rw[hy]at xt;simp at xt;subst xt;cases y with
  |cells cs=>
   cases x with
    |cells _ _ _=>simp only[RB]at hr;exact hr.2.1
    |_=>grind[RB]
  |_=>rfl
theorem pH{k:Nat}(h:H.all lS=true):(H.set k none).all lS=true:=by
 induction H generalizing k with
  |nil=>simp
  |cons x H ih=>
   simp only[aaL,aas]at h;cases k with
    |zero=>simp only[List.set_cons_zero,aaL,h.2];rfl
    |succ k=>grind
theorem ax.rB(aa:α->List D)(as:List α){sz:Nat}(b s:Nat)(cH:∀a,(aa a).length=sz)(hs:get tm s=.sl b (as.length*sz) 0 as.length sz)(hH:aC H b=some (aK aa as))(xh:td b 0 H)(e1:put (tf b tm) s (.d (.list (as.map aa)))=a7)(e2:H.set b none=H'):ax m ⟨n,tm,H⟩ ⟨n,a7,H'⟩:=by
 intro GL g w a hr;have hf:=oe (ds:=as.flatMap aa) H 0 xh;rw[aaF (aaP _),acn]at hf;have LZ:j5 b ⟨n,tm,H⟩=some ⟨n,tm.map fun p=>(p.1,bV b (as.flatMap aa) p.2),H'⟩:=by unfold j5;rw[th hH];simp only[hf];rw[pH (mV hr.heap),aaw,e2]
 refine(ax.trans (ax.lG LZ) (ax.dW fun t=>?_ )) GL g w a hr;subst e1;rw[iE (bV b (as.flatMap aa)) (by simp only[bV]),fB];by_cases ht:t=s
 ·subst ht;rw[aaF rfl,hs];left;have hle:Nat.ble (0+as.length*sz) (as.length*sz)=true:=by simp_all
  simp only[bV,aaS,aaw,cg cH,hle,abd,abu,jd cH]
 ·rw[aaH ht,lj];cases hn:ew b (get tm t)with
   |true=>left;rw[aaw,dK _ hn]
   |false=>right;rfl
theorem mW(H:an)(x:Option bR)(b:Nat):aC (H++[x]) b=if b=H.length then x else aC H b:=by
 rw[E0];by_cases h:b<H.length
 ·grind
 ·rw[aaH h];by_cases e:b=H.length
  ·subst e;rw[aaF rfl,acD];rfl
  ·rw[aaH e,A9 (by omega:H.length<=b)];exact A9 (by simp;omega)
def G.cM(g:G)(b:Nat):G:=⟨fun c=>g.cd c\/c=b,fun c=>if c=b then some .nil else g.γ c,g.fo,g.base⟩
theorem bu.cM{g:G}{b:Nat}(h:¬g.cd b):bu g w (g.cM b) w:=⟨rfl,rfl,rfl,aaC _,fun k hk=>
 ⟨⟨hk.1,hk.2.1,fun c x hx ho=>by
  simp only[G.cM]at hx;split at hx
  ·simp at hx;subst hx;cases ho
  ·exact hk.2.2 c x hx ho⟩,rfl⟩,fun _ hd=>.inl hd,fun c hd=>by simp only[G.cM];rw[aaH (fun e=>h (by grind))];exact GB.step.refl _,rfl,rfl,fun _ _=>rfl⟩
theorem aw.cM{g:G}(hh:aw g w H):aw (g.cM H.length) w (H++[some .nil]):=by
 have oJ:¬g.cd H.length:=fun h=>Nat.lt_irrefl _ (hh.cd _ h)
 have he:bu g w (g.cM H.length) w:=bu.cM oJ;refine⟨fun b hb=>?_,fun b x hx=>?_,fun b y hy=>?_,fun b b' x x' k hx lx hk kx=>?_,fun k hk=>?_ ⟩
 ·simp only[G.cM]at hb;simp;rcases hb with hb|hb
  ·have:=hh.cd b hb;omega
  ·omega
 ·simp only[G.cM]at hx⊢;split at hx
  ·rename_i e;subst e;simp at hx;subst hx;simp_all[mW,RB]
  ·rename_i e;obtain⟨h1,y,h2,h3⟩:=hh.live b x hx;exact⟨.inl h1,y,by grind[mW],h3.ext he (fun k _=>rfl)⟩
 ·rw[mW]at hy;simp only[G.cM];split at hy
  ·simp_all
  ·rename_i e;obtain⟨x,hx⟩:=hh.back b y hy;grind
 ·simp only[G.cM]at hx lx;split at hx
  ·simp at hx;subst hx;cases hk
  ·split at lx
   ·simp at lx;subst lx;cases kx
   ·exact hh.inj b b' x x' k hx lx hk kx
 ·refine⟨(hh.fo k hk).1,fun b x hx=>?_ ⟩;simp only[G.cM]at hx;split at hx
  ·simp at hx;subst hx;intro h;cases h
  ·exact(hh.fo k hk).2 b x hx
theorem ax.Fq(s sz:Nat)(hm:m<=H.length)(hs:get tm s=.ak)(e1:put tm s (.sl H.length 0 0 0 sz)=a7):ax m ⟨n,tm,H⟩ ⟨n,a7,H++[some .nil]⟩:=by
 subst e1;intro GL g w a hr;have oJ:¬g.cd H.length:=fun h=>Nat.lt_irrefl _ (hr.heap.cd _ h)
 have he:bu g w (g.cM H.length) w:=bu.cM oJ;refine⟨g.cM H.length,⟨hr.defers.ext he,hr.size,fun t=>?_,hr.heap.cM,hr.cD.ext he⟩,fun g0 w0 _ h=>h.trans he⟩;show RV _ _ (get (put tm s _) t) _;rw[fB];by_cases ht:t=s
 ·subst ht;have:=hr.tmps t;change RV g w (get tm t) _ at this;rw[hs]at this;simp only[RV]at this;rw[aaF rfl,this];simp only[RV];refine⟨⟨rfl,.inr rfl⟩,fun x hx=>?_ ⟩;simp only[G.cM,abK,aar]at hx;grind
 ·rw[aaH ht];exact RV.ext he _ _ (hr.tmps t)
theorem aN.Fs{g g':G}{w:World}(he:bu g w g' w){v:V}(hv:RV g' w v (.slice none 0 0)):∀(cs:List V)(vs:List Value)(j:Nat),cs[j]? =some .ak->aN g w cs vs->aN g' w (cs.set j v) vs
 |[],_,j,h,_=>by simp at h
 |c::cs,[],_,_,hr=>by grind[aN]
 |c::cs,x::vs,0,h,hr=>by simp at h;subst h;simp only[aN,RV]at hr;simp;rw[hr.1];exact⟨hv,aN.ext he _ _ hr.2⟩
 |c::cs,x::vs,j+1,h,hr=>by simp only[aN]at hr;simp;exact⟨RV.ext he _ _ hr.1,aN.Fs he hv cs vs j (by grind) hr.2⟩
theorem ax.VO(b j sz:Nat){cs:List V}(hm:m<=H.length)(hb:aC H b=some (.cells cs))(hj:cs[j]? =some .ak)(e1:aR H b (.cells (cs.set j (.sl H.length 0 0 0 sz)))++[some .nil]=H'):ax m ⟨n,tm,H⟩ ⟨n,tm,H'⟩:=by
 subst e1;intro GL g w a hr;have cy:=oU hb;have oJ:¬g.cd H.length:=fun h=>Nat.lt_irrefl _ (hr.heap.cd _ h)
 have he:bu g w (g.cM H.length) w:=bu.cM oJ;have v8:=hr.heap.cM;have hlen:(aR H b (.cells (cs.set j (.sl H.length 0 0 0 sz)))).length=H.length:=jF cy;have hg:∀c,aC (aR H b (.cells (cs.set j (.sl H.length 0 0 0 sz)))++[some .nil]) c=if c=b then some (.cells (cs.set j (.sl H.length 0 0 0 sz)))else aC (H++[some .nil]) c:=by grind[mW,fh]
 refine⟨g.cM H.length,⟨hr.defers.ext he,hr.size,fun t=>RV.ext he _ _ (hr.tmps t),⟨fun c hc=>?_,fun c x hx=>?_,fun c y hy=>?_,v8.inj,v8.fo⟩,hr.cD.ext he⟩,fun g0 w0 _ h=>h.trans he⟩
 ·have:=v8.cd c hc;grind
 ·obtain⟨h1,y,h2,h3⟩:=v8.live c x hx;refine⟨h1,?_⟩;show∃y,aC _ c=some y/\_;rw[hg];by_cases hc:c=b
  ·subst hc;rw[aaF rfl];refine⟨_,rfl,?_⟩;simp only[G.cM,aaH (show¬c=H.length by omega)]at hx;obtain⟨_,y',k2,k3⟩:=hr.heap.live c x hx;rw[hb]at k2;simp at k2;subst k2;cases x with
    |cells aM cp cur=>
     simp only[RB]at k3⊢;obtain⟨r1,r2,r3,cc,e,r4,r5,r6⟩:=k3;refine⟨by simp[r1],?_,by simp[r3],cc,e,r4,r5,?_ ⟩
     ·rw[aaJ]at r2⊢;intro v hv;rcases List.mem_or_eq_of_mem_set hv with h|h
      ·grind
      ·subst h;rfl
     ·rw[List.length_set];refine aN.Fs he ?_ cs _ j hj r6;simp only[RV];refine⟨⟨rfl,.inr rfl⟩,fun x hx=>?_ ⟩;simp only[G.cM,abK,aar]at hx;grind
    |_=>grind[RB]
  grind
 ·rw[hg]at hy;by_cases hc:c=b
  ·subst hc;obtain⟨x,hx⟩:=hr.heap.back c _ hb;exact⟨x,by grind[G.cM]⟩
  ·rw[aaH hc]at hy;exact v8.back c y hy
theorem CG.tidy{c:IR}(ht:ax H.length ⟨n,tm,H⟩ ⟨n,a7,H'⟩)(h:CG P GL (.code c) K n a7 H' Q):CG P GL (.code c) K n tm H Q:=WC.tidy (σ:=⟨n,tm,H⟩) ht h
theorem WO.tidy{σ aS:St}{Q:St->Prop}(ht:ax σ.hp.length σ aS)(h:WO P GL l aS Q):WO P GL l σ Q:=by intro ro ops k hc g w a hr;obtain⟨g',h1,h2⟩:=ht GL g w a hr;exact cF (cE.ext (h2 g w (fun b hb=>hr.heap.cd b hb) (bu.refl _ _))) _ _ _ (h ro ops k hc g' w a h1)
theorem CG.JR(ht:ax H.length ⟨n,tm,H⟩ ⟨n,a7,H'⟩)(h:CG P GL (.ops l) K n a7 H' Q):CG P GL (.ops l) K n tm H Q:=WO.tidy (σ:=⟨n,tm,H⟩) ht h
theorem ZM(h:aI a b=true):a<b:=by grind[dI]
theorem ZN(h:aI a b=false):b<=a:=by grind[dI]
theorem rC(h:aP a b=true):a=b:=by grind[dd]
theorem ZO(h:aP a b=false):a≠b:=by grind[dd]
theorem PD(h:a<b):aI a b=true:=by grind[dI]
theorem PE(h:b<=a):aI a b=false:=by grind[dI]
theorem uj(h:a=b):aP a b=true:=by grind[dd]
theorem uk(h:a≠b):aP a b=false:=by grind[dd]
theorem VP(h:(a==b)=true):a=b:=by grind
theorem VQ(h:(a==b)=false):a≠b:=by grind
theorem PF(h:a=b):(a !=b)=false:=by grind
theorem aG{aa:α->List D}{l:List α}{i:Nat}{x:α}(h:l[i]? =some x):(l.map aa)[i]? =some (aa x):=by grind
theorem CG.eR{op:jv}{g:Option (Nat×Bool)}{v:V}{wr:Wr}(ho:l.head?=some ⟨some d,op,g,af⟩)(hg:aB g tm=some true)(he:bt (aT GL tm) H H.length op=some (v,wr))(hH:bp H wr=H')(hd:Nat.blt d n=true)(hq:CG P GL (.ops (l.drop 1)) K n (put tm d v) H' Q):CG P GL (.ops l) K n tm H Q:=by subst hH;refine WO.head ho (WO.bt (v:=v) (wr:=wr) (aS:=⟨n,put tm d v,bp H wr⟩) hg he ?_ hq);simp_all[bB]
theorem CG.PG(aa:α->List D)(as ys:List α){g:Option (Nat×Bool)}{sz bytes b:Nat}{x y:aU}(cH:∀a,(aa a).length=sz)(h0:Nat.blt 0 sz=true)(ho:l.head?=some ⟨some d,.append sz bytes x y,g,af⟩)(hg:aB g tm=some true)(hx:aT GL tm x=.sl b (as.length*sz) 0 as.length sz)(hH:aC H b=some (aK aa as))(hy:bO H sz (aT GL tm y)=some ((ys.flatMap aa).map .d))(hr:(as.length+ys.length)*sz*(bytes+1)<=1099511627776)(hd:Nat.blt d n=true)(hH':aR H b (aK aa (as++ys))=H')(hq:CG P GL (.ops (l.drop 1)) K n (put tm d (.sl b ((as++ys).length*sz) 0 (as++ys).length sz)) H' Q):CG P GL (.ops l) K n tm H Q:=by
 have VR:0<sz:=by simp_all
 obtain⟨wr,e1,e2⟩:=yw (H:=H) (ns:=H.length) (sz:=sz) (bytes:=bytes) (b:=b) (len:=as.length) (k:=ys.length) (cs:=(as.flatMap aa).map .d) (xs:=(ys.flatMap aa).map .d) VR hH (by simp[cg cH]) (by simp[cg cH]) (by simp[eL]) (by grind[cf]);refine CG.eR ho hg (v:=.sl b ((as++ys).length*sz) 0 (as++ys).length sz) (wr:=wr) ?_ ?_ hd hq;all_goals grind[bt,List.length_append,aK]
theorem Ft{aa:α->List D}{as:List α}{b sz:Nat}(cH:∀a,(aa a).length=sz)(hH:aC H b=some (aK aa as)):jN H .slice (.sl b (as.length*sz) 0 as.length sz)=some as.length:=by
 have:eI H b (as.length*sz)=true:=by unfold eI;rw[hH];have hl:=cg cH as;unfold aK lh;cases h:as.flatMap aa<;>simp_all
 simp_all[jN,aaw]
theorem CG.Ik(aa:α->List D)(as:List α){g:Option (Nat×Bool)}{sz b:Nat}{x:aU}(cH:∀a,(aa a).length=sz)(ho:l.head?=some ⟨some d,.len .slice x,g,af⟩)(hg:aB g tm=some true)(hx:aT GL tm x=.sl b (as.length*sz) 0 as.length sz)(hH:aC H b=some (aK aa as))(hd:Nat.blt d n=true)(hq:CG P GL (.ops (l.drop 1)) K n (put tm d (.d (.int .i64 (.ofNat as.length)))) H Q):CG P GL (.ops l) K n tm H Q:=CG.eR ho hg (wr:=none) (by simp only[bt,hx,Ft cH hH];rfl) rfl hd hq
def rD(GL:bM)(tm:List (Nat×V))(d:Nat):Option aU->Option Nat|some x=>cN (aT GL tm x)|none=>some d
theorem qx{p q:Nat}{lo hi:Option aU}(kz:rD GL tm 0 lo=some p)(jr:rD GL tm n hi=some q)(h1:p<=q)(h2:q<=n):bounds (aT GL tm) n lo hi=some (p,q):=by
 have k1:Nat.ble p q=true:=by simp_all
 have k2:Nat.ble q n=true:=by simp_all
 cases lo with
  |none=>
   simp only[rD,aar]at kz;cases hi with
    |none=>simp only[rD,aar]at jr;subst kz;subst jr;simp only[bounds,k1,k2,abd,aaw]
    |some y=>simp only[rD]at jr;subst kz;simp only[bounds,jr,k1,k2,abd,aaw]
  |some x=>
   simp only[rD]at kz;cases hi with
    |none=>simp only[rD,aar]at jr;subst jr;simp only[bounds,kz,k1,k2,abd,aaw]
    |some y=>simp only[rD]at jr;simp only[bounds,kz,jr,k1,k2,abd,aaw]
theorem CG.JS(p q:Nat){g:Option (Nat×Bool)}{x:aU}{s:List UInt8}{lo hi:Option aU}(ho:l.head?=some ⟨some d,.hX x lo hi,g,af⟩)(hg:aB g tm=some true)(hx:aT GL tm x=.d (.str s))(kz:rD GL tm 0 lo=some p)(jr:rD GL tm s.length hi=some q)(PH:p<=q/\q<=s.length)(hd:Nat.blt d n=true)(hq:CG P GL (.ops (l.drop 1)) K n (put tm d (.d (.str ((s.take q).drop p)))) H Q):CG P GL (.ops l) K n tm H Q:=by have hb:bounds (aT GL tm) s.length lo hi=some (p,q):=qx kz jr PH.1 PH.2;refine CG.eR ho hg (v:=.d (.str ((s.take q).drop p))) (wr:=none) ?_ rfl hd hq;grind[bt]
theorem CG.rE{g:Option (Nat×Bool)}{f:FuncId}{first cap:List V}{x:aU}{args:List aU}{vs:List V}{v:V}(h:PC P GL f vs v)(ho:l.head?=some ⟨some d,.bY x args,g,af⟩)(hg:aB g tm=some true)(hx:aT GL tm x=.func f first cap)(ha:first++bI (aT GL tm) args++cap=vs)(hd:Nat.blt d n=true)(hq:CG P GL (.ops (l.drop 1)) K n (put tm d v) H Q):CG P GL (.ops l) K n tm H Q:=by subst ha;refine WO.head ho (WO.bY rfl hx hg (WF.ES h ⟨⟨n,put tm d v,H⟩,?_,hq⟩));simp_all[bB]
theorem CG.bh{β:Type}(l:List β)(I:Nat->α->List (Nat×V))(J:Nat->α->an)(inv:Nat->α->List β->Prop)(a0:α)(h0:inv 0 a0 l){b:IR}(hs:ax H.length ⟨n,tm,H⟩ ⟨n,I 0 a0,J 0 a0⟩)(EI:∀i a,i=l.length->l.drop i=[]->inv i a []->CG P GL (.code b) [] n (I i a) (J i a) (LQ P GL K Q fun _=>False))(PI:∀i a x r,l.drop i=x::r->l[i]? =some x->i<l.length->inv i a (x::r)->CG P GL (.code b) [] n (I i a) (J i a) (LQ P GL K Q fun s=>∃a',inv (i+1) a' r/\ax (J i a).length s ⟨n,I (i+1) a',J (i+1) a'⟩)):CG P GL (.code (.loop b)) K n tm H Q:=by
 refine CG.tc (α:=Nat×α) (fun p=>I p.1 p.2) (fun p=>J p.1 p.2) (fun p=>p.1<=l.length/\inv p.1 p.2 (l.drop p.1)) (fun p=>l.length - p.1) (0,a0) ⟨aaP _,h0⟩ hs ?_;rintro⟨i,a⟩ ⟨hi,aF⟩;rcases abi i l.length with cy|ON
 ·have hx:l.drop i=l[i]::l.drop (i+1):=abq cy;have:=PI i a l[i] (l.drop (i+1)) hx (aay cy) cy (by grind);refine WC.mono this fun e s hq=>?_
  cases e with
   |normal=>obtain⟨a',k1,k2⟩:=hq;exact⟨(i+1,a'),⟨cy,k1⟩,by grind,k2⟩
   |exit j=>exact hq
   |ret=>exact hq
 grind
end
end Fw
/-
  Walks through functions that look into their caller's boxes.
-/
namespace Fw
open Go
def nh(rs:List iQ)(R:V->an->Prop):Ex->St->Prop| .exit _,_=>False|_,σ=>∃v,h_ rs σ=some v/\R v σ.hp
def iK(v:V)(H:an):V->an->Prop:=fun r k=>r=v/\k=H
section
variable {P:Program}{GL:bM}
variable {H:an}{K:List Fr}{n d:Nat}{tm:List (Nat×V)}{R:V->an->Prop}{f:FuncId}{rs:List iQ}{af:List Nat}{l:List ab}{Q:Ex->St->Prop}{vs:List V}{v:V}
theorem CG.b_{fn:bL}{args:List V}(hf:au P f=some fn)(uM:al P f=true)(hc:Nat.ble args.length fn.ntmps=true)(h:CG P GL (.code fn.body) [] fn.ntmps (ry 0 args) H (nh fn.res R)):WF P GL f args H R:=WF.body hf uM (aax hc) (WC.mono h fun e s hq=>by cases e<;>exact hq)
theorem CG.VS{v':V}(h:h_ rs ⟨n,tm,H⟩=some v')(e:R v' H):CG P GL (.code .ret) K n tm H (nh rs R):=WC.ret (KQ.ret (show nh rs R .ret _ from⟨v',h,e⟩))
theorem CG.cG(v':V)(e:R v' H)(h:h_ rs ⟨n,tm,H⟩=some v':=by kernel_rfl):CG P GL (.code .ret) K n tm H (nh rs R):=CG.VS h e
theorem CG.PJ{K1:List Fr}{v':V}{S:St->Prop}(h:h_ rs ⟨n,tm,H⟩=some v')(e:R v' H):CG P GL (.code .ret) K1 n tm H (LQ P GL K (nh rs R) S):=WC.ret (KQ.ret (show KQ P GL K (nh rs R) .ret _ from KQ.ret (show nh rs R .ret _ from⟨v',h,e⟩)))
theorem CG.mh{K1:List Fr}{S:St->Prop}(v':V)(e:R v' H)(h:h_ rs ⟨n,tm,H⟩=some v':=by kernel_rfl):CG P GL (.code .ret) K1 n tm H (LQ P GL K (nh rs R) S):=CG.PJ h e
theorem CG.yx{g:Option (Nat×Bool)}{args:List aU}(h:WF P GL f vs H R)(ho:l.head?=some ⟨some d,.call f args,g,af⟩)(hg:aB g tm=some true)(ha:bI (aT GL tm) args=vs)(hd:Nat.blt d n=true)(hq:∀v H',R v H'->CG P GL (.ops (l.drop 1)) K n (put tm d v) H' Q):CG P GL (.ops l) K n tm H Q:=by subst ha;refine WO.head ho (WO.call rfl hg (h.mono ?_ ));intro v H' hr;refine⟨⟨n,put tm d v,H'⟩,?_,hq v H' hr⟩;simp_all[bB]
theorem CG.wf{g:Option (Nat×Bool)}{H':an}{args:List aU}(h:WF P GL f vs H (iK v H'))(ho:l.head?=some ⟨some d,.call f args,g,af⟩)(hg:aB g tm=some true)(ha:bI (aT GL tm) args=vs)(hd:Nat.blt d n=true)(hq:CG P GL (.ops (l.drop 1)) K n (put tm d v) H' Q):CG P GL (.ops l) K n tm H Q:=CG.yx h ho hg ha hd (by rintro v' H2 ⟨e1,e2⟩;grind)
theorem CG.wfv{g:Option (Nat×Bool)}{H':an}{first cap:List V}{x:aU}{args:List aU}(h:WF P GL f vs H (iK v H'))(ho:l.head?=some ⟨some d,.bY x args,g,af⟩)(hg:aB g tm=some true)(hx:aT GL tm x=.func f first cap)(ha:first++bI (aT GL tm) args++cap=vs)(hd:Nat.blt d n=true)(hq:CG P GL (.ops (l.drop 1)) K n (put tm d v) H' Q):CG P GL (.ops l) K n tm H Q:=by subst ha;refine WO.head ho (WO.bY rfl hx hg (h.mono ?_ ));rintro v' H2 ⟨e1,e2⟩;rw[e1,e2];refine⟨⟨n,put tm d v,H'⟩,?_,hq⟩;simp_all[bB]
theorem WF.same{args:List V}(h:PC P GL f args v)(H:an):WF P GL f args H (iK v H):=WF.ES h ⟨rfl,rfl⟩
end
end Fw
/-
  Drawn regions that write nothing, walked operation by operation.
-/
namespace Fw
open Go
theorem qy(n:Nat):∀(l:List D),aJ n (l.map .d)=true|[]=>rfl|d::l=>by simp;exact qy n l
theorem di{α:Type}(n:Nat)(aa:α->List D)(l:List α):dq n (aK aa l)=true:=by
 unfold aK lh;cases h:((l.flatMap aa).map V.d).isEmpty with
  |true=>rfl
  |false=>simp;exact qy n _
def rF(tm:List (Nat×V))(d:Option Nat)(v:V):List (Nat×V):=match d with
 |none=>tm
 |some d=>put tm d v
def AO(P:Program)(GL:bM)(base:Nat)(Hp:an):Nat->List ab->List (Nat×V)->(List (Nat×V)->Prop)->Prop|_,[],tm,Q=>Q tm|i,o::l,tm,Q=>∃cv v,ig GL tm Hp (base+i) o cv=some (v,none)/\(∀f args,cx (aT GL tm) o.op=some (f,args)->aB o.guard tm=some true->jH P GL f args Hp v)/\AO P GL base Hp (i+1) l (rF tm o.dst v) Q
section
variable {P:Program}{GL:bM}
variable {l:List ab}{tm:List (Nat×V)}{base i d:Nat}{Hp:an}{Q:List (Nat×V)->Prop}{af:List Nat}
theorem AO.runs{base n:Nat}{Hp:an}:∀{l:List ab}{i:Nat}{tm:List (Nat×V)}{Q:List (Nat×V)->Prop},AO P GL base Hp i l tm Q->∃(C6:List (Option V))(rs:List ((V×Wr)×List Nat))(a7:List (Nat×V)),C6.length=l.length/\(∀qc:Nat->Option CV,(∀j c,C6[j]? =some c->qc (i+j)=c.map .v)->nT GL base qc i l ⟨n,tm,Hp⟩=some rs)/\ud rs=true/\aL (fun _=>true) i l rs ⟨n,tm,Hp⟩=⟨n,a7,Hp⟩/\Q a7/\∀k o r,l[k]? =some o->rs[k]? =some r->∀f args,cx (aT GL (aL (fun j=>decide (j<i+k)) i l rs ⟨n,tm,Hp⟩).tm) o.op=some (f,args)->aB o.guard (aL (fun j=>decide (j<i+k)) i l rs ⟨n,tm,Hp⟩).tm=some true->∀ns,iv P GL f args (aL (fun j=>decide (j<i+k)) i l rs ⟨n,tm,Hp⟩).hp ns r.1
 |[],i,tm,Q,h=>⟨[],[],tm,rfl,fun _ _=>rfl,rfl,rfl,h,by simp⟩
 |o::l,i,tm,Q,h=>by
  obtain⟨cv,v,h1,h2,h3⟩:=h;obtain⟨C6,rs,a7,k1,k2,k3,k4,k5,k6⟩:=AO.runs (n:=n) h3;have aR:St.gq ⟨n,tm,Hp⟩ o.dst v Hp=⟨n,rF tm o.dst v,Hp⟩:=by unfold St.gq rF;grind
  refine⟨cv::C6,((v,none),mK (aT GL tm) o.op)::rs,a7,by simp[k1],fun qc PK=>?_,by grind[ud],?_,k5,fun k o' r ho hr f args bZ hg=>?_ ⟩
  ·have e0:qc i=cv.map .v:=by simpa using PK 0 cv rfl
   simp only[nT,e0,z7,h1,bp,aR];rw[k2 qc fun j c hj=>by have:=PK (j+1) c (by grind);grind]
  ·simp_all[aL,aaw,bp]
  ·cases k with
    |zero=>simp at ho hr;subst ho;subst hr;rw[iY (fun j hj=>aaN (by omega))]at bZ hg⊢;exact fun ns=>(h2 f args bZ hg).Lr ns
    |succ k=>
     simp at ho hr;have e:i+(k+1)=i+1+k:=by omega
     have hs:aL (fun j=>decide (j<i+(k+1))) i (o::l) (((v,none),mK (aT GL tm) o.op)::rs) ⟨n,tm,Hp⟩=aL (fun j=>decide (j<i+1+k)) (i+1) l rs ⟨n,rF tm o.dst v,Hp⟩:=by simp only[aL,e,show decide (i<i+1+k)=true by simp;omega,aaw,bp,aR]
     rw[hs]at bZ hg⊢;exact k6 k o' r ho hr f args bZ hg
theorem q_{m:Nat}:∀{rs:List ((V×Wr)×List Nat)},ud rs=true->eP m rs=true
 |[],_=>rfl
 |r::rs,h=>by
  simp only[ud]at h;split at h
  ·rename_i hr;simp only[eP,aaL,hr,bP,aaU];exact q_ h
  ·cases h
theorem CG.iy(hm:P.follows .mixedOrders=true){K:List Fr}{n:Nat}{H:an}{Q:Ex->St->Prop}(tZ:(nU l&&gg n l)=true)(hH:a6 H.length H=true)(h:AO P GL H.length (H++List.replicate l.length none) 0 l tm (fun a7=>∃cB eT,fc cB a7=eT/\sI H.length eT=true/\CG P GL (.out .normal) K n eT H Q)):CG P GL (.code (.draw l)) K n tm H Q:=by
 rw[aas]at tZ;obtain⟨C6,rs,a7,k1,k2,k3,k4,k5,k6⟩:=AO.runs (n:=n) h;have hw:WC P GL (.draw l) ⟨n,tm,H⟩ (fun e s=>e=.normal/\s=⟨n,a7,H++List.replicate l.length none⟩):=by
  refine WC.draw (σ:=⟨n,tm,H⟩) hm (qc:=fun i=>((C6[i]? ).bind id).map .v) (rs:=rs) ?_ ?_ tZ.2 (q_ k3) (fun i o r ho hr f args bZ hg=>?_ ) ?_
  ·exact k2 _ fun j c hj=>by simp[hj]
  ·simp_all[dU,Bool.true_or,abd]
  ·have:=k6 i o r ho hr f args (by rw[aaK];exact bZ);simp at this;exact this hg _
  ·refine⟨rfl,?_⟩;exact k4
 show WC P GL (.draw l) ⟨n,tm,H⟩ (KQ P GL K Q);refine WC.post (hw.mono ?_ );rintro e s ⟨rfl,rfl⟩;obtain⟨cB,eT,e1,e2,e3⟩:=k5;refine⟨⟨n,eT,H⟩,ax.clean (cB:=cB) (aaC _) ?_,e3⟩;unfold gK;grind
theorem AO.nil{base i:Nat}{Hp:an}{l:List ab}{tm:List (Nat×V)}{Q:List (Nat×V)->Prop}(hl:l.length=0)(h:Q tm):AO P GL base Hp i l tm Q:=by
 cases l with
  |nil=>exact h
  |cons o l=>simp at hl
def Aq(GL:bM)(base:Nat)(Hp:an):Nat->Nat->List ab->List (Nat×V)->Option (List (Nat×V))
 |0,_,_,tm=>some tm
 |k+1,i,o::l,tm=>
  match cx (aT GL tm) o.op,aB o.guard tm with
   |some _,some true=>none
   |_,_=>
    match ig GL tm Hp (base+i) o none with
     |some (v,none)=>Aq GL base Hp k (i+1) l (rF tm o.dst v)
     |_=>none
 |_+1,_,[],_=>none
theorem AO.run{base:Nat}{Hp:an}{Q:List (Nat×V)->Prop}:∀(k:Nat){i:Nat}{l:List ab}{tm a7:List (Nat×V)},Aq GL base Hp k i l tm=some a7->AO P GL base Hp (i+k) (l.drop k) a7 Q->AO P GL base Hp i l tm Q
 |0,_,_,_,_,h1,h2=>by grind[Aq,Option.some.injEq]
 |k+1,_,[],_,_,h1,_=>by grind[Aq]
 |k+1,i,o::l,tm,a7,h1,h2=>by
  have key:∀v,ig GL tm Hp (base+i) o none=some (v,none)->(∀f args,cx (aT GL tm) o.op=some (f,args)->aB o.guard tm≠some true)->Aq GL base Hp k (i+1) l (rF tm o.dst v)=some a7->AO P GL base Hp i (o::l) tm Q:=by intro v e1 e2 e3;exact⟨none,v,e1,fun f args hc hg=>absurd hg (e2 f args hc),AO.run k e3 (by grind)⟩
  unfold Aq at h1;grind
theorem AO.head{o:ab}(ho:l.head?=some o)(h:AO P GL base Hp i (o::l.drop 1) tm Q):AO P GL base Hp i l tm Q:=by cases l<;>grind
theorem AO.eR{op:jv}{g:Option (Nat×Bool)}{v:V}(ho:l.head?=some ⟨some d,op,g,af⟩)(hg:aB g tm=some true)(hc:z6 op=none)(he:bt (aT GL tm) Hp (base+i) op=some (v,none))(hq:AO P GL base Hp (i+1) (l.drop 1) (put tm d v) Q):AO P GL base Hp i l tm Q:=by
 refine AO.head ho ⟨none,v,?_,fun f args h=>?_,hq⟩
 ·simp only[ig,hg,gu he];exact he
 ·rw[gu he]at h;cases h
theorem AO.idx{g:Option (Nat×Bool)}{sz:Nat}{x k:aU}{es:List (List D)}{j:Nat}{e:List D}(he:es[j]? =some e)(ho:l.head?=some ⟨some d,.bj sz x k,g,af⟩)(hg:aB g tm=some true)(hx:aT GL tm x=.d (.list es))(hi:cN (aT GL tm k)=some j)(hd:Nat.beq e.length sz=true)(hq:AO P GL base Hp (i+1) (l.drop 1) (put tm d (.aO e)) Q):AO P GL base Hp i l tm Q:=AO.eR ho hg rfl (by simp_all[bt,aaw]) hq
theorem AO.iB{g:Option (Nat×Bool)}{x k:aU}{s:List UInt8}{j:Nat}{b:UInt8}(he:s[j]? =some b)(ho:l.head?=some ⟨some d,.iB x k,g,af⟩)(hg:aB g tm=some true)(hx:aT GL tm x=.d (.str s))(hi:cN (aT GL tm k)=some j)(hq:AO P GL base Hp (i+1) (l.drop 1) (put tm d (.d (.int .u8 b.toNat))) Q):AO P GL base Hp i l tm Q:=AO.eR ho hg rfl (by grind[bt]) hq
theorem AO.JS(p q:Nat){g:Option (Nat×Bool)}{x:aU}{s:List UInt8}{lo hi:Option aU}(ho:l.head?=some ⟨some d,.hX x lo hi,g,af⟩)(hg:aB g tm=some true)(hx:aT GL tm x=.d (.str s))(kz:rD GL tm 0 lo=some p)(jr:rD GL tm s.length hi=some q)(PH:p<=q/\q<=s.length)(hq:AO P GL base Hp (i+1) (l.drop 1) (put tm d (.d (.str ((s.take q).drop p)))) Q):AO P GL base Hp i l tm Q:=by have hb:bounds (aT GL tm) s.length lo hi=some (p,q):=qx kz jr PH.1 PH.2;refine AO.eR ho hg rfl (v:=.d (.str ((s.take q).drop p))) ?_ hq;grind[bt]
theorem AO.od{g:Option (Nat×Bool)}{f:FuncId}{args:List aU}{vs:List V}{v:V}(h:PC P GL f vs v)(ho:l.head?=some ⟨some d,.call f args,g,af⟩)(hg:aB g tm=some true)(ha:bI (aT GL tm) args=vs)(hq:AO P GL base Hp (i+1) (l.drop 1) (put tm d v) Q):AO P GL base Hp i l tm Q:=by
 subst ha;refine AO.head ho ⟨some v,v,?_,fun f' ve hc _=>?_,hq⟩
 ·grind[ig,cx]
 ·simp at hc;obtain⟨rfl,rfl⟩:=hc;exact h.uT
theorem AO.done{eT:List (Nat×V)}{m n:Nat}{K:List Fr}{H:an}{Q:Ex->St->Prop}(cB:List Nat)(hl:l.length=0)(e1:fc cB tm=eT)(e2:sI m eT=true)(hq:CG P GL (.out .normal) K n eT H Q):AO P GL base Hp i l tm (fun a7=>∃cB eT,fc cB a7=eT/\sI m eT=true/\CG P GL (.out .normal) K n eT H Q):=AO.nil hl ⟨cB,eT,e1,e2,hq⟩
end
end Fw
/-
  Own rows that are born as empty ones (and never nil), over open data; nil rows as data.
-/
namespace Fw
open Go
def dA{α:Type}(aa:α->List D)(l:List α):bR:=.cells ((l.flatMap aa).map .d)
theorem je{α:Type}(n:Nat)(aa:α->List D)(l:List α):dq n (dA aa l)=true:=qy n _
section
variable {P:Program}{GL:bM}
variable {H:an}{b:Nat}{α:Type}{tm:List (Nat×V)}
theorem wI{ns sz bytes len k:Nat}{cs xs:List V}(h0:0<sz)(hH:aC H b=some (.cells cs))(hl:cs.length=len*sz)(hk:xs.length=k*sz)(hx:xs.all eL=true)(hr:(len+k)*sz*(bytes+1)<=cf):dG H ns sz bytes (.sl b (len*sz) 0 len sz) xs=some (.sl b ((len+k)*sz) 0 (len+k) sz,some (b,.cells (cs++xs))):=by
 have h1:Nat.beq sz 0=false:=dr (by omega);have h2:Nat.beq (xs.length%sz) 0=true:=by simp_all
 have si:xs.length / sz=k:=by simp_all
 have mf:len*sz+xs.length=(len+k)*sz:=by grind
 have hb:Nat.ble ((len+k)*sz*(bytes+1)) cf=true:=by simp_all
 unfold dG;simp only[h1,h2,hx,abQ,aaM,aaS,aaw,hH,hl,aaW,mf,hb,si]
theorem CG.VT(aa:α->List D)(as ys:List α){d:Nat}{g:Option (Nat×Bool)}{af:List Nat}{l:List ab}{K:List Fr}{n:Nat}{H':an}{Q:Ex->St->Prop}{sz bytes:Nat}{x y:aU}(cH:∀a,(aa a).length=sz)(h0:Nat.blt 0 sz=true)(ho:l.head?=some ⟨some d,.append sz bytes x y,g,af⟩)(hg:aB g tm=some true)(hx:aT GL tm x=.sl b (as.length*sz) 0 as.length sz)(hH:aC H b=some (dA aa as))(hy:bO H sz (aT GL tm y)=some ((ys.flatMap aa).map .d))(hr:(as.length+ys.length)*sz*(bytes+1)<=1099511627776)(hd:Nat.blt d n=true)(hH':aR H b (dA aa (as++ys))=H')(hq:CG P GL (.ops (l.drop 1)) K n (put tm d (.sl b ((as++ys).length*sz) 0 (as++ys).length sz)) H' Q):CG P GL (.ops l) K n tm H Q:=by
 have VR:0<sz:=by simp_all
 have e1:=wI (H:=H) (ns:=H.length) (sz:=sz) (bytes:=bytes) (b:=b) (len:=as.length) (k:=ys.length) (cs:=(as.flatMap aa).map .d) (xs:=(ys.flatMap aa).map .d) VR hH (by simp[cg cH]) (by simp[cg cH]) (by simp[eL]) (by grind[cf]);refine CG.eR ho hg (v:=.sl b ((as++ys).length*sz) 0 (as++ys).length sz) (wr:=some (b,.cells ((as.flatMap aa).map .d++(ys.flatMap aa).map .d))) ?_ ?_ hd hq;all_goals grind[bt,List.length_append,bp,dA]
theorem C7{aa:α->List D}{l:List α}(h:aC H b=some (dA aa l)):xD H b=some (l.flatMap aa):=by unfold xD;rw[h];unfold dA;exact tg _
theorem ax.Fu(aa:α->List D)(as:List α){m n sz:Nat}{a7:List (Nat×V)}{H':an}(b s:Nat)(cH:∀a,(aa a).length=sz)(hs:get tm s=.sl b (as.length*sz) 0 as.length sz)(hH:aC H b=some (dA aa as))(xh:td b 0 H)(e1:put (tf b tm) s (.d (.list (as.map aa)))=a7)(e2:H.set b none=H'):ax m ⟨n,tm,H⟩ ⟨n,a7,H'⟩:=by
 intro GL g w a hr;have hf:=oe (ds:=as.flatMap aa) H 0 xh;rw[aaF (aaP _),acn]at hf;have LZ:j5 b ⟨n,tm,H⟩=some ⟨n,tm.map fun p=>(p.1,bV b (as.flatMap aa) p.2),H'⟩:=by unfold j5;rw[C7 hH];simp only[hf];rw[pH (mV hr.heap),aaw,e2]
 refine(ax.trans (ax.lG LZ) (ax.dW fun t=>?_ )) GL g w a hr;subst e1;rw[iE (bV b (as.flatMap aa)) (by simp only[bV]),fB];by_cases ht:t=s
 ·subst ht;rw[aaF rfl,hs];left;have hle:Nat.ble (0+as.length*sz) (as.length*sz)=true:=by simp_all
  simp only[bV,aaS,aaw,cg cH,hle,abd,abu,jd cH]
 ·rw[aaH ht,lj];cases hn:ew b (get tm t)with
   |true=>left;rw[aaw,dK _ hn]
   |false=>right;rfl
theorem vf{h off len sz j:Nat}(hl:eI H b h=true)(hj:j<len){GL:bM}{x i:aU}(hx:aT GL tm x=.sl b h off len sz)(hi:cN (aT GL tm i)=some j)(ns:Nat):bt (aT GL tm) H ns (.bj sz x i)=some (.ptr b h (off+j*sz),none):=by
 have:Nat.blt j len=true:=by simp_all
 simp only[bt,hi,hx,aaS,this,hl,abd,aaw]
end
end Fw
/-
  Boxes behind the last one that anybody speaks of are dropped.
-/
namespace Fw
open Go
theorem yy{k:Nat}(h:k<9223372036854775808):aW .i64 (Int.ofNat (k+1) - 1)=Int.ofNat k:=by grind[sS,IntKind.wrap_i64,Int.ofNat_eq_natCast]
theorem C8{k:Nat}(h:k<9223372036854775808):IntKind.wrap .i64 (Int.ofNat (k+1) - 1)=Int.ofNat k:=by grind[IntKind.wrap_i64,Int.ofNat_eq_natCast]
theorem eU(n:Nat)(cs:List V):dq n (.cells cs)=aJ n cs:=rfl
theorem mX(n:Nat):dq n .nil=true:=rfl
theorem ax.trim{m n:Nat}{tm:List (Nat×V)}{H H':an}(p:Nat)(cB:List Nat)(hm:Nat.ble m p=true)(hk:fc cB tm=tm)(ht:sI p tm=true)(e:H.take p=H')(hh:a6 p H'=true):ax m ⟨n,tm,H⟩ ⟨n,tm,H'⟩:=by refine ax.clean (cB:=cB) (aax hm) ?_;unfold gK;grind
section
variable {P:Program}{GL:bM}
theorem LQ.ret{K:List Fr}{Q:Ex->St->Prop}{R:St->Prop}{s:St}(h:Q .ret s):LQ P GL K Q R .ret s:=KQ.ret h
theorem CG.PL{K:List Fr}{n:Nat}{tm:List (Nat×V)}{H:an}{Q:Ex->St->Prop}(h:Q .ret ⟨n,tm,H⟩):CG P GL (.code .ret) K n tm H Q:=WC.ret (KQ.ret h)
theorem nh.ret{rs:List iQ}{R:V->an->Prop}{v':V}{σ:St}(h:h_ rs σ=some v')(e:R v' σ.hp):nh rs R .ret σ:=⟨v',h,e⟩
end
end Fw
/-
  A block whose last operations run: its end is the code's end.
-/
namespace Fw
open Go
variable {P:Program}{GL:bM}
theorem CG.ti{l:List ab}{id n:Nat}{K:List Fr}{tm:List (Nat×V)}{H:an}{Q:Ex->St->Prop}(h:CG P GL (.ops l) K n tm H Q):CG P GL (.ops l) (.block id::K) n tm H Q:=h
end Fw
/-
  Drawn regions that write, walked operation by operation; that the order is free is checked at the end.
-/
namespace Fw
open Go
abbrev RS:=List ((V×Wr)×List Nat)
def AW(P:Program)(GL:bM)(base:Nat):Nat->List ab->List (Nat×V)->an->(RS->List (Nat×V)->an->Prop)->Prop|_,[],tm,H,Q=>Q [] tm H|i,o::l,tm,H,Q=>∃cv v wr,nc GL tm H (base+i) o cv=some (v,wr)/\(∀f args,cx (aT GL tm) o.op=some (f,args)->aB o.guard tm=some true->iv P GL f args H (base+i) (v,wr))/\AW P GL base (i+1) l (rF tm o.dst v) (bp H wr) (fun rs t k=>Q (((v,wr),mK (aT GL tm) o.op)::rs) t k)
section
variable {P:Program}{GL:bM}
variable {tm:List (Nat×V)}{H:an}{l:List ab}{base i d:Nat}{Q:RS->List (Nat×V)->an->Prop}{af:List Nat}
theorem AW.runs{base n:Nat}:∀{l:List ab}{i:Nat}{tm:List (Nat×V)}{H:an}{Q:RS->List (Nat×V)->an->Prop},AW P GL base i l tm H Q->∃(C6:List (Option CV))(rs:RS)(a7:List (Nat×V))(H':an),C6.length=l.length/\(∀qc:Nat->Option CV,(∀j c,C6[j]? =some c->qc (i+j)=c)->nT GL base qc i l ⟨n,tm,H⟩=some rs)/\aL (fun _=>true) i l rs ⟨n,tm,H⟩=⟨n,a7,H'⟩/\Q rs a7 H'/\∀k o r,l[k]? =some o->rs[k]? =some r->∀f args,cx (aT GL (aL (fun j=>decide (j<i+k)) i l rs ⟨n,tm,H⟩).tm) o.op=some (f,args)->aB o.guard (aL (fun j=>decide (j<i+k)) i l rs ⟨n,tm,H⟩).tm=some true->iv P GL f args (aL (fun j=>decide (j<i+k)) i l rs ⟨n,tm,H⟩).hp (base+(i+k)) r.1
 |[],i,tm,H,Q,h=>⟨[],[],tm,H,rfl,fun _ _=>rfl,rfl,h,by simp⟩
 |o::l,i,tm,H,Q,h=>by
  obtain⟨cv,v,wr,h1,h2,h3⟩:=h;obtain⟨C6,rs,a7,H',k1,k2,k4,k5,k6⟩:=AW.runs (n:=n) h3;have aR:St.gq ⟨n,tm,H⟩ o.dst v (bp H wr)=⟨n,rF tm o.dst v,bp H wr⟩:=by unfold St.gq rF;grind
  refine⟨cv::C6,((v,wr),mK (aT GL tm) o.op)::rs,a7,H',by simp[k1],fun qc PK=>?_,?_,k5,fun k o' r ho hr f args bZ hg=>?_ ⟩
  ·have e0:qc i=cv:=by simpa using PK 0 cv rfl
   simp only[nT,e0,h1,aR];rw[k2 qc fun j c hj=>by have:=PK (j+1) c (by grind);grind]
  ·simp_all[aL,aaw]
  ·cases k with
    |zero=>simp at ho hr;subst ho;subst hr;rw[iY (fun j hj=>aaN (by omega))]at bZ hg⊢;exact h2 f args bZ hg
    |succ k=>
     simp at ho hr;have e:i+(k+1)=i+1+k:=by omega
     have hs:aL (fun j=>decide (j<i+(k+1))) i (o::l) (((v,wr),mK (aT GL tm) o.op)::rs) ⟨n,tm,H⟩=aL (fun j=>decide (j<i+1+k)) (i+1) l rs ⟨n,rF tm o.dst v,bp H wr⟩:=by simp only[aL,e,show decide (i<i+1+k)=true by simp;omega,aaw,aR]
     rw[hs]at bZ hg⊢;rw[e];exact k6 k o' r ho hr f args bZ hg
theorem CG.pI(hm:P.follows .mixedOrders=true){K:List Fr}{n:Nat}{Q:Ex->St->Prop}(tZ:gg n l=true)(h:AW P GL H.length 0 l tm (H++List.replicate l.length none) (fun rs a7 H'=>(dU l rs&&eP (H.length+l.length) rs)=true/\∃eT H2,ax H.length ⟨n,a7,H'⟩ ⟨n,eT,H2⟩/\CG P GL (.out .normal) K n eT H2 Q)):CG P GL (.code (.draw l)) K n tm H Q:=by
 obtain⟨C6,rs,a7,H',k1,k2,k4,⟨k5,k7⟩,k6⟩:=AW.runs (n:=n) h;rw[aas]at k5;have hw:WC P GL (.draw l) ⟨n,tm,H⟩ (fun e s=>e=.normal/\s=⟨n,a7,H'⟩):=by
  refine WC.draw (σ:=⟨n,tm,H⟩) hm (qc:=fun i=>(C6[i]? ).bind id) (rs:=rs) ?_ k5.1 tZ k5.2 (fun i o r ho hr f args bZ hg=>?_ ) ?_
  ·exact k2 _ fun j c hj=>by simp[hj]
  ·have:=k6 i o r ho hr f args (by rw[aaK];exact bZ);simp at this;exact this hg
  ·exact⟨rfl,k4⟩
 show WC P GL (.draw l) ⟨n,tm,H⟩ (KQ P GL K Q);refine WC.post (hw.mono ?_ );rintro e s ⟨rfl,rfl⟩;obtain⟨eT,H2,e1,e3⟩:=k7;exact⟨⟨n,eT,H2⟩,e1,e3⟩
theorem AW.head{o:ab}(ho:l.head?=some o)(h:AW P GL base i (o::l.drop 1) tm H Q):AW P GL base i l tm H Q:=by cases l<;>grind
theorem AW.nil{base i:Nat}{l:List ab}{tm:List (Nat×V)}{H:an}{Q:RS->List (Nat×V)->an->Prop}(hl:l.length=0)(h:Q [] tm H):AW P GL base i l tm H Q:=by
 cases l with
  |nil=>exact h
  |cons o l=>simp at hl
def qz(GL:bM)(base:Nat):Nat->Nat->List ab->List (Nat×V)->an->Option (RS×List (Nat×V)×an)
 |0,_,_,tm,H=>some ([],tm,H)
 |k+1,i,o::l,tm,H=>
  match cx (aT GL tm) o.op,aB o.guard tm with
   |some _,some true=>none
   |_,_=>
    match ig GL tm H (base+i) o none with
     |some (v,wr)=>
      match qz GL base k (i+1) l (rF tm o.dst v) (bp H wr)with
       |some (rs,t,h)=>some (((v,wr),mK (aT GL tm) o.op)::rs,t,h)
       |none=>none
     |none=>none
 |_+1,_,[],_,_=>none
theorem AW.run{base:Nat}:∀(k:Nat){i:Nat}{l:List ab}{tm a7:List (Nat×V)}{H H':an}{rs:RS}{Q:RS->List (Nat×V)->an->Prop},qz GL base k i l tm H=some (rs,a7,H')->AW P GL base (i+k) (l.drop k) a7 H' (fun r t h=>Q (rs++r) t h)->AW P GL base i l tm H Q
 |0,_,_,_,_,_,_,_,_,h1,h2=>by simp_all[qz,aar,aav]
 |k+1,_,[],_,_,_,_,_,_,h1,_=>by grind[qz]
 |k+1,i,o::l,tm,a7,H,H',rs,Q,h1,h2=>by
  have key:∀v wr,ig GL tm H (base+i) o none=some (v,wr)->(∀f args,cx (aT GL tm) o.op=some (f,args)->aB o.guard tm≠some true)->(∃PM,rs=((v,wr),mK (aT GL tm) o.op)::PM/\qz GL base k (i+1) l (rF tm o.dst v) (bp H wr)=some (PM,a7,H'))->AW P GL base i (o::l) tm H Q:=by rintro v wr e1 e2 ⟨PM,rfl,e3⟩;exact⟨none,v,wr,e1,fun f args hc hg=>absurd hg (e2 f args hc),AW.run k e3 (by grind)⟩
  unfold qz at h1;split at h1
  ·cases h1
  ·rename_i xh;split at h1
   ·rename_i v wr hv;split at h1
    ·rename_i PM t h hr;simp at h1;obtain⟨rfl,rfl,rfl⟩:=h1;exact key v wr hv (fun f args hc hg=>xh _ hc hg) ⟨PM,rfl,hr⟩
    ·cases h1
   ·cases h1
theorem AW.eR{op:jv}{g:Option (Nat×Bool)}{v:V}{wr:Wr}(ho:l.head?=some ⟨some d,op,g,af⟩)(hg:aB g tm=some true)(hc:z6 op=none)(he:bt (aT GL tm) H (base+i) op=some (v,wr))(hq:AW P GL base (i+1) (l.drop 1) (put tm d v) (bp H wr) (fun rs t k=>Q (((v,wr),mK (aT GL tm) op)::rs) t k)):AW P GL base i l tm H Q:=by
 refine AW.head ho ⟨none,v,wr,?_,fun f args h=>?_,hq⟩
 ·simp only[nc,ig,hg,gu he];exact he
 ·rw[gu he]at h;cases h
theorem AW.idx{g:Option (Nat×Bool)}{sz:Nat}{x k:aU}{es:List (List D)}{j:Nat}{e:List D}(he:es[j]? =some e)(ho:l.head?=some ⟨some d,.bj sz x k,g,af⟩)(hg:aB g tm=some true)(hx:aT GL tm x=.d (.list es))(hi:cN (aT GL tm k)=some j)(hd:Nat.beq e.length sz=true)(hq:AW P GL base (i+1) (l.drop 1) (put tm d (.aO e)) H (fun rs t k=>Q (((.aO e,none),[])::rs) t k)):AW P GL base i l tm H Q:=AW.eR (v:=.aO e) (wr:=none) ho hg rfl (by simp_all[bt,aaw]) (by simp only[mK,hx];exact hq)
theorem AW.od{g:Option (Nat×Bool)}{f:FuncId}{args:List aU}{vs:List V}{v:V}(h:PC P GL f vs v)(ho:l.head?=some ⟨some d,.call f args,g,af⟩)(hg:aB g tm=some true)(ha:bI (aT GL tm) args=vs)(hq:AW P GL base (i+1) (l.drop 1) (put tm d v) H (fun rs t k=>Q (((v,none),mK (aT GL tm) (.call f args))::rs) t k)):AW P GL base i l tm H Q:=by
 subst ha;refine AW.head ho ⟨some (.v v),v,none,?_,fun f' ve hc _=>?_,hq⟩
 ·grind[nc,ig,cx]
 ·simp at hc;obtain⟨rfl,rfl⟩:=hc;exact h.uT.Lr _
def L1:Option (RS×List (Nat×V)×an)->RS|some x=>x.1|none=>[]
theorem AW.runK(k:Nat){a7:List (Nat×V)}{H':an}(h1:(qz GL base k i l tm H).map (fun x=>x.2)=some (a7,H'))(h2:AW P GL base (i+k) (l.drop k) a7 H' (fun r t h=>Q (L1 (qz GL base k i l tm H)++r) t h)):AW P GL base i l tm H Q:=by
 cases hr:qz GL base k i l tm H with
  |none=>grind
  |some x=>obtain⟨rs,t,h⟩:=x;rw[hr]at h1 h2;simp at h1;obtain⟨rfl,rfl⟩:=h1;exact AW.run k hr h2
theorem AW.fin{m n:Nat}{K:List Fr}{eT:List (Nat×V)}{H2:an}{Q:Ex->St->Prop}(p:Nat)(cB:List Nat)(hm:Nat.ble m p=true)(e1:fc cB tm=eT)(e2:sI p eT=true)(e3:H.take p=H2)(e4:a6 p H2=true)(h:CG P GL (.out .normal) K n eT H2 Q):∃eT H2,ax m ⟨n,tm,H⟩ ⟨n,eT,H2⟩/\CG P GL (.out .normal) K n eT H2 Q:=by refine⟨eT,H2,ax.clean (cB:=cB) (aax hm) ?_,h⟩;unfold gK;grind
end
end Fw
/-
  An element appended to an own row in a drawn region that writes.
-/
/-
  A part of a row in a drawn region that writes.
-/
/-
  Steps that tell of a state only what is new.
-/
namespace Fw
open Go
variable {a b:Int}
abbrev bo(b:Bool):V:=.d (.bool b)
abbrev io(k:Int):V:=.d (.int .i64 k)
abbrev no(n:Nat):V:=.d (.int .i64 (.ofNat n))
abbrev lo{α:Type}(f:α->List D)(l:List α):V:=.d (.list (l.map f))
abbrev so(s:List UInt8):V:=.d (.str s)
@[simp] theorem Of(n:Nat)(b:Bool):aE n (bo b)=true:=rfl
@[simp] theorem Og(n:Nat)(k:Int):aE n (io k)=true:=rfl
@[simp] theorem Oh(n k:Nat):aE n (no k)=true:=rfl
@[simp] theorem Oi{α:Type}(n:Nat)(f:α->List D)(l:List α):aE n (lo f l)=true:=rfl
@[simp] theorem Oj(n:Nat)(s:List UInt8):aE n (so s)=true:=rfl
def VU:Nat->List (Nat×V)->List (Nat×V)|_,[]=>[]|m,p::l=>bif Nat.beq (Nat.land m 1) 1 then p::VU (Nat.shiftRight m 1) l else VU (Nat.shiftRight m 1) l
def cK(m:Nat)(nw tm:List (Nat×V)):List (Nat×V):=nw.foldl (fun t p=>put t p.1 p.2) (VU m tm)
def vg(l:List (Nat×bR))(H:an):an:=l.foldl (fun H p=>aR H p.1 p.2) H
theorem zz:(∀n:Nat,Int.ofNat n=(n:Int))/\(∀(α β:Type)(f:α->β)(l:List α),(l.map f).length=l.length)/\(∀(α:Type)(l r:List α),(l++r).length=l.length+r.length)/\(∀(α:Type)(a:α)(l:List α),(a::l).length=l.length+1)/\(∀α:Type,([]:List α).length=0)/\(∀(α:Type)(l:List α)(i:Nat),(l.take i).length=min i l.length)/\(∀(α:Type)(l:List α)(i:Nat),(l.drop i).length=l.length - i):=⟨fun _=>rfl,fun _ _ _ _=>aaE _,fun _ _ _=>aao,fun _ _ _=>rfl,fun _=>rfl,fun _ _ _=>abB,fun _ _ _=>acg⟩
theorem eV(a b:Nat)(h:Int.ofNat a<Int.ofNat b:=by(try simp only[zz]at*)<;>omega):aI (Int.ofNat a) (Int.ofNat b)=true:=PD h
theorem fp(a b:Nat)(h:Int.ofNat b<=Int.ofNat a:=by(try simp only[zz]at*)<;>omega):aI (Int.ofNat a) (Int.ofNat b)=false:=PE h
theorem tEn(a b:Nat)(h:Int.ofNat a=Int.ofNat b:=by(try simp only[zz]at*)<;>omega):aP (Int.ofNat a) (Int.ofNat b)=true:=uj h
theorem fEn(a b:Nat)(h:Int.ofNat a≠Int.ofNat b:=by(try simp only[zz]at*)<;>omega):aP (Int.ofNat a) (Int.ofNat b)=false:=uk h
theorem fe(h:a<b:=by(try simp only[zz]at*)<;>omega):aI a b=true:=PD h
theorem eW(h:b<=a:=by(try simp only[zz]at*)<;>omega):aI a b=false:=PE h
theorem mi(h:a=b:=by(try simp only[zz]at*)<;>omega):aP a b=true:=uj h
theorem rG(h:a≠b:=by(try simp only[zz]at*)<;>omega):aP a b=false:=uk h
abbrev bF:V:=.d (.bool false)
abbrev bT:V:=.d (.bool true)
abbrev i0:V:=.d (.int .i64 0)
abbrev sE:V:=.d (.str [])
abbrev tE:V:=.tuple []
section
variable {P:Program}{GL:bM}
variable {l:List ab}{tm:List (Nat×V)}{H:an}{G:Prop}{d n base i:Nat}{af:List Nat}{K:List Fr}{Q:Ex->St->Prop}
theorem AO.rd{Hp:an}{Q:List (Nat×V)->Prop}(k:Nat)(nw:List (Nat×V))(h1:Aq GL base Hp k i l tm=some (nw.foldl (fun t p=>put t p.1 p.2) tm))(h2:AO P GL base Hp (i+k) (l.drop k) (nw.foldl (fun t p=>put t p.1 p.2) tm) Q):AO P GL base Hp i l tm Q:=AO.run k h1 h2
theorem AW.rd(k:Nat)(nw:List (Nat×V)){H':an}{Q:RS->List (Nat×V)->an->Prop}(h1:(qz GL base k i l tm H).map (fun x=>x.2)=some (nw.foldl (fun t p=>put t p.1 p.2) tm,H'))(h2:AW P GL base (i+k) (l.drop k) (nw.foldl (fun t p=>put t p.1 p.2) tm) H' (fun r t h=>Q (L1 (qz GL base k i l tm H)++r) t h)):AW P GL base i l tm H Q:=AW.runK k h1 h2
theorem AW.rk(k:Nat)(nw:List (Nat×V))(hd:List (Nat×bR)){Q:RS->List (Nat×V)->an->Prop}(h1:(qz GL base k i l tm H).map (fun x=>x.2)=some (nw.foldl (fun t p=>put t p.1 p.2) tm,vg hd H))(h2:AW P GL base (i+k) (l.drop k) (nw.foldl (fun t p=>put t p.1 p.2) tm) (vg hd H) (fun r t h=>Q (L1 (qz GL base k i l tm H)++r) t h)):AW P GL base i l tm H Q:=AW.runK k h1 h2
theorem CG.ix{g:Option (Nat×Bool)}{sz:Nat}{x i:aU}{es:List (List D)}{j:Nat}{e:List D}(he:es[j]? =some e)(ho:l.head?=some ⟨some d,.bj sz x i,g,af⟩)(hc:(aB g tm,aT GL tm x,cN (aT GL tm i),Nat.blt d n&&Nat.beq e.length sz)=(some true,.d (.list es),some j,true))(hq:CG P GL (.ops (l.drop 1)) K n (put tm d (.aO e)) H Q):CG P GL (.ops l) K n tm H Q:=by simp only[aav]at hc;exact CG.idx he ho hc.1 hc.2.1 hc.2.2.1 hc.2.2.2 hq
theorem CG.VV{g:Option (Nat×Bool)}{x i:aU}{s:List UInt8}{j:Nat}{b:UInt8}(he:s[j]? =some b)(ho:l.head?=some ⟨some d,.iB x i,g,af⟩)(hc:(aB g tm,aT GL tm x,cN (aT GL tm i),Nat.blt d n)=(some true,.d (.str s),some j,true))(hq:CG P GL (.ops (l.drop 1)) K n (put tm d (.d (.int .u8 b.toNat))) H Q):CG P GL (.ops l) K n tm H Q:=by simp only[aav]at hc;exact CG.iB he ho hc.1 hc.2.1 hc.2.2.1 hc.2.2.2 hq
theorem CG.pg{g:Option (Nat×Bool)}{f:FuncId}{args:List aU}{vs:List V}{v:V}(h:PC P GL f vs v)(ho:l.head?=some ⟨some d,.call f args,g,af⟩)(hc:(aB g tm,bI (aT GL tm) args,Nat.blt d n)=(some true,vs,true))(hq:CG P GL (.ops (l.drop 1)) K n (put tm d v) H Q):CG P GL (.ops l) K n tm H Q:=by simp only[aav]at hc;exact CG.od h ho hc.1 hc.2.1 hc.2.2 hq
theorem CG.As{α:Type}(aa:α->List D)(as ys:List α){g:Option (Nat×Bool)}{sz bytes:Nat}{x y:aU}(b:Nat)(cH:∀a,(aa a).length=sz)(ho:l.head?=some ⟨some d,.append sz bytes x y,g,af⟩)(hc:(Nat.blt 0 sz,aB g tm,aT GL tm x,aC H b,Nat.blt d n)=(true,some true,.sl b (as.length*sz) 0 as.length sz,some (aK aa as),true))(hy:bO H sz (aT GL tm y)=some ((ys.flatMap aa).map .d))(hr:(as.length+ys.length)*sz*(bytes+1)<=1099511627776)(hq:CG P GL (.ops (l.drop 1)) K n (put tm d (.sl b ((as++ys).length*sz) 0 (as++ys).length sz)) (aR H b (aK aa (as++ys))) Q):CG P GL (.ops l) K n tm H Q:=by simp only[aav]at hc;exact CG.PG aa as ys cH hc.1 ho hc.2.1 hc.2.2.1 hc.2.2.2.1 hy hr hc.2.2.2.2 rfl hq
theorem CG.Il{α:Type}(aa:α->List D)(as ys:List α){g:Option (Nat×Bool)}{sz bytes:Nat}{x y:aU}(b:Nat)(cH:∀a,(aa a).length=sz)(ho:l.head?=some ⟨some d,.append sz bytes x y,g,af⟩)(hc:(Nat.blt 0 sz,aB g tm,aT GL tm x,aC H b,Nat.blt d n)=(true,some true,.sl b (as.length*sz) 0 as.length sz,some (dA aa as),true))(hy:bO H sz (aT GL tm y)=some ((ys.flatMap aa).map .d))(hr:(as.length+ys.length)*sz*(bytes+1)<=1099511627776)(hq:CG P GL (.ops (l.drop 1)) K n (put tm d (.sl b ((as++ys).length*sz) 0 (as++ys).length sz)) (aR H b (dA aa (as++ys))) Q):CG P GL (.ops l) K n tm H Q:=by simp only[aav]at hc;exact CG.VT aa as ys cH hc.1 ho hc.2.1 hc.2.2.1 hc.2.2.2.1 hy hr hc.2.2.2.2 rfl hq
theorem sp(b:Bool)(t:b=true->G)(f:b=false->G):G:=(Bool.eq_false_or_eq_true b).elim t f
theorem kf(a b:Int)(t:aI a b=true->a<b->G)(f:aI a b=false->b<=a->G):G:=sp (aI a b) (fun h=>t h (ZM h)) (fun h=>f h (ZN h))
theorem cq(a b:Int)(t:aP a b=true->a=b->G)(f:aP a b=false->a≠b->G):G:=sp (aP a b) (fun h=>t h (rC h)) (fun h=>f h (ZO h))
theorem PN(a b:Int)(t:(a==b)=true->a=b->G)(f:(a==b)=false->a≠b->G):G:=sp (a==b) (fun h=>t h (VP h)) (fun h=>f h (VQ h))
theorem PO(p:Prop) [Decidable p] (t:decide p=true->p->G) (f:decide p=false->¬p->G):G:=sp (decide p) (fun h=>t h (abN h)) (fun h=>f h (of_decide_eq_false h))
theorem bw(a b:Nat)(t:aI (.ofNat a) (.ofNat b)=true->a<b->G)(f:aI (.ofNat a) (.ofNat b)=false->b<=a->G):G:=sp _ (fun h=>t h (Int.ofNat_lt.1 (ZM h))) (fun h=>f h (Int.ofNat_le.1 (ZN h)))
theorem dZ(a b:Nat)(t:aP (.ofNat a) (.ofNat b)=true->a=b->G)(f:aP (.ofNat a) (.ofNat b)=false->a≠b->G):G:=sp _ (fun h=>t h (Int.ofNat_inj.1 (rC h))) (fun h=>f h (fun e=>ZO h (ace _ e)))
end
end Fw
/-
  A nil row in a cell of a box, known as empty data from here on.
-/
/-
  Equality of two structs in a walk; the state told anew.
-/
namespace Fw
open Go
def tj(ks:List Nat)(tm:List (Nat×V)):List (Nat×V):=ks.map fun k=>(k,get tm k)
theorem mj(tm:List (Nat×V)):∀(ks:List Nat)(s:Nat),get (tj ks tm) s=get tm s\/get (tj ks tm) s=.any
 |[],s=>.inr rfl
 |k::ks,s=>by
  show get ((k,get tm k)::tj ks tm) s=_\/get ((k,get tm k)::tj ks tm) s=_;simp only[get];cases h:Nat.beq k s with
   |true=>simp_all
   |false=>exact mj tm ks s
section
variable {P:Program}{GL:bM}
variable {tm:List (Nat×V)}{K:List Fr}{n:Nat}{H:an}{Q:Ex->St->Prop}{cur:lI}
theorem CG.Cn{d:Nat}{neg:Bool}{ks:List dj}{x y:aU}{g:Option (Nat×Bool)}{af:List Nat}{l:List ab}{xs ys:List V}{r:Bool}(ho:l.head?=some ⟨some d,.Cn neg ks x y,g,af⟩)(hc:(aB g tm,aT GL tm x,aT GL tm y,Nat.blt d n)=(some true,.agg xs,.agg ys,true))(he:iT ks xs ys=some r)(hq:CG P GL (.ops (l.drop 1)) K n (put tm d (.d (.bool (bif neg then !r else r)))) H Q):CG P GL (.ops l) K n tm H Q:=by simp only[aav]at hc;exact CG.eR ho hc.1 (v:=.d (.bool (bif neg then !r else r))) (wr:=none) (by grind[bt]) rfl hc.2.2.2 hq
theorem AO.Cn{base i d:Nat}{Hp:an}{neg:Bool}{ks:List dj}{x y:aU}{g:Option (Nat×Bool)}{af:List Nat}{l:List ab}{Q:List (Nat×V)->Prop}{xs ys:List V}{r:Bool}(ho:l.head?=some ⟨some d,.Cn neg ks x y,g,af⟩)(hc:(aB g tm,aT GL tm x,aT GL tm y)=(some true,.agg xs,.agg ys))(he:iT ks xs ys=some r)(hq:AO P GL base Hp (i+1) (l.drop 1) (put tm d (.d (.bool (bif neg then !r else r)))) Q):AO P GL base Hp i l tm Q:=by simp at hc;exact AO.eR ho hc.1 rfl (v:=.d (.bool (bif neg then !r else r))) (by grind[bt]) hq
theorem CG.is(a7:List (Nat×V))(H':an)(h:(tm,H)=(a7,H'))(hq:CG P GL cur K n a7 H' Q):CG P GL cur K n tm H Q:=by grind
theorem CG.cB(hc:yq cur=false)(ks:List Nat)(h:CG P GL cur K n (tj ks tm) H Q):CG P GL cur K n tm H Q:=CG.dW hc (fun s=>mj tm ks s) h
theorem CG.oh(H':an)(h:H=H')(hq:CG P GL cur K n tm H' Q):CG P GL cur K n tm H Q:=by grind
end
end Fw
/-
  An own row of which other boxes speak, known as data from here on.
-/
namespace Fw
open Go
def um(b:Nat)(xg new:V):List V->List V->Prop|[],[]=>True|v::vs,u::us=>((v=xg/\u=new)\/(ew b v=true/\u=v))/\um b xg new vs us|_,_=>False
def jf(b:Nat)(xg new:V):Nat->an->an->Prop|_,[],[]=>True|i,x::H,y::H'=>((i=b/\y=none)\/(i≠b/\fN b x/\y=x)\/(i≠b/\∃cs us,x=some (.cells cs)/\y=some (.cells us)/\um b xg new cs us))/\jf b xg new (i+1) H H'|_,_,_=>False
theorem yz{b:Nat}{ds:List D}{xg new:V}(ho:bV b ds xg=new):∀(cs us:List V),um b xg new cs us->lF b ds cs=us
 |[],[],_=>by simp only[lF]
 |v::vs,u::us,h=>by
  simp only[um]at h;simp only[lF,yz ho vs us h.2];rcases h.1 with⟨rfl,rfl⟩|⟨h1,rfl⟩
  ·rw[ho]
  ·rw[dK _ h1]
 |[],_::_,h=>by grind[um]
 |_::_,[],h=>by grind[um]
theorem tk{b:Nat}{ds:List D}{xg new:V}(ho:bV b ds xg=new):∀(H H':an)(i:Nat),jf b xg new i H H'->j4 b ds i H=H'
 |[],[],_,_=>by simp only[j4]
 |x::H,y::H',i,h=>by
  simp only[jf]at h;simp only[j4,tk ho H H' (i+1) h.2];rcases h.1 with⟨rfl,rfl⟩|⟨h1,h2,rfl⟩|⟨h1,cs,us,rfl,rfl,h2⟩
  ·simp_all
  ·rw[dr h1,aaM];cases y with
    |none=>rfl
    |some y=>rw[aaI,pG h2]
  ·rw[dr h1,aaM,aaI,eN,yz ho cs us h2]
 |[],_::_,_,h=>by grind[jf]
 |_::_,[],_,h=>by grind[jf]
theorem Fv{b:Nat}{xg new:V}(hn:eL new=true):∀(cs us:List V),um b xg new cs us->cs.all eL=true->us.all eL=true
 |[],[],_,_=>rfl
 |v::vs,u::us,h,k=>by simp only[um]at h;simp only[aaL,aas]at k⊢;refine⟨?_,Fv hn vs us h.2 k.2⟩;grind
 |[],_::_,h,_=>by grind[um]
 |_::_,[],h,_=>by grind
theorem Au{b:Nat}{xg new:V}(hn:eL new=true):∀(H H':an)(i:Nat),jf b xg new i H H'->H.all lS=true->H'.all lS=true
 |[],[],_,_,_=>rfl
 |x::H,y::H',i,h,k=>by
  simp only[jf]at h;simp only[aaL,aas]at k⊢;refine⟨?_,Au hn H H' (i+1) h.2 k.2⟩;rcases h.1 with⟨rfl,rfl⟩|⟨h1,h2,rfl⟩|⟨h1,cs,us,rfl,rfl,h2⟩
  ·rfl
  ·exact k.1
  ·exact Fv hn cs us h2 k.1
 |[],_::_,_,h,_=>by grind[jf]
 |_::_,[],_,h,_=>by grind
theorem ax.Im{α:Type}(aa:α->List D)(as:List α){m n sz:Nat}{tm a7:List (Nat×V)}{H H':an}(b:Nat)(cH:∀a,(aa a).length=sz)(hH:aC H b=some (aK aa as))(hr:jf b (.sl b (as.length*sz) 0 as.length sz) (.d (.list (as.map aa))) 0 H H')(e1:tf b tm=a7):ax m ⟨n,tm,H⟩ ⟨n,a7,H'⟩:=by
 intro GL g w a uB;have hle:Nat.ble (0+as.length*sz) (as.length*sz)=true:=by simp_all
 have ho:bV b (as.flatMap aa) (.sl b (as.length*sz) 0 as.length sz)=.d (.list (as.map aa)):=by simp only[bV,aaS,aaw,cg cH,hle,abd,abu,jd cH]
 have hf:=tk ho H H' 0 hr;have LZ:j5 b ⟨n,tm,H⟩=some ⟨n,tm.map fun p=>(p.1,bV b (as.flatMap aa) p.2),H'⟩:=by unfold j5;rw[th hH];simp only[hf];rw[Au rfl H H' 0 hr (mV uB.heap),aaw]
 refine(ax.trans (ax.lG LZ) (ax.dW fun t=>?_ )) GL g w a uB;subst e1;rw[iE (bV b (as.flatMap aa)) (by simp only[bV]),lj];cases hn:ew b (get tm t)with
  |true=>left;rw[aaw,dK _ hn]
  |false=>right;rfl
end Fw
/-
  A row of one cell-list told as it stands, appended to an own row in a drawn region; the nil row in it known as empty data behind it.
-/
namespace Fw
open Go
section
variable {P:Program}{GL:bM}
end
@[simp] theorem wJ(n:Nat)(xs:List V):∀(l:List D),aJ n (l.map .d++xs)=aJ n xs|[]=>rfl|d::l=>by rw[aaB,abI,aJ,wJ n xs l];rfl
end Fw
