/-
  Calls that hand back a row known to be nil.
-/
import Derived.Test.YtgfgckimecpmlaaGreatDoorFf
set_option linter.unusedSimpArgs false
set_option linter.unusedVariables false
namespace Fw
open Go
section
variable {P:Program}{GL:cj}
mutual
def RP:V→List Nat| .sl b _ _ _ _=>[b]| .agg cs=>BF cs| .tuple vs=>BF vs|_=>[]
def BF:List V→List Nat|[]=>[]|v::vs=>RP v++BF vs
end
end
end Fw
/-
  Loops over states told by data, and a row's element at an open place.
-/
namespace Fw
open Go
section
variable {P:Program}{GL:cj}
def LQ(P:Program)(GL:cj)(K:List Fr)(Q:Ex→St→Prop)(R:St→Prop):Ex→St→Prop| .normal,s=>R s|e,s=>KQ P GL K Q e s
def zu(i:Nat):List Fr→Bool|[]=>true| .block j::K=> !Nat.beq i j&&zu i K|_::K=>zu i K
theorem KQ.exit{i:Nat}:∀{K:List Fr}{Q:Ex→St→Prop}{σ:St},zu i K=true→Q (.exit i) σ→KQ P GL K Q (.exit i) σ
 |[],_,_,_,h=>h
 | .seq _::K,_,_,hf,h=>KQ.exit (K:=K) hf h
 | .block j::K,_,_,hf,h=>by simp only[zu,aaD,abj]at hf;exact e8.other (fun e=>by rw[e,aa0]at hf;cases hf.1) (KQ.exit (K:=K) hf.2 h)
 | .loop _ _::K,_,_,hf,h=>KQ.exit (K:=K) hf h
theorem CG.bg{i:Nat}{K K1:List Fr}{n:Nat}{tm:List (Nat×V)}{H:ai}{Q:Ex→St→Prop}{R:St→Prop}(hf:zu i K1=true)(h:CG P GL (.out (.exit i)) K n tm H Q):CG P GL (.code (.exit i)) K1 n tm H (LQ P GL K Q R):=WC.exit (KQ.exit hf h)
theorem CG.WT{K K1:List Fr}{n:Nat}{tm:List (Nat×V)}{H:ai}{rs:List iZ}{v v':V}{R:St→Prop}(h:(fq rs ⟨n,tm,H⟩).bind (gk H)=some v')(e:v'=v):CG P GL (.code .ret) K1 n tm H (LQ P GL K (qF rs v) R):=WC.ret (KQ.ret (show KQ P GL K (qF rs v) .ret _ from KQ.ret (qF.ret h e)))
theorem CG.e9{K K1:List Fr}{n:Nat}{tm:List (Nat×V)}{H:ai}{rs:List iZ}{v:V}{R:St→Prop}(v':V)(e:v'=v)(h:(fq rs ⟨n,tm,H⟩).bind (gk H)=some v':=by kernel_rfl):CG P GL (.code .ret) K1 n tm H (LQ P GL K (qF rs v) R):=CG.WT h e
theorem CG.bM{l:List ad}{K:List Fr}{n:Nat}{tm:List (Nat×V)}{H:ai}{Q:Ex→St→Prop}{R:St→Prop}(hl:l.length=0)(h:R ⟨n,tm,H⟩):CG P GL (.ops l) [] n tm H (LQ P GL K Q R):=by
 cases l with
  |nil=>exact WO.nil h
  |cons o l=>simp at hl
theorem CG.H4{α:Type}(I:α→List (Nat×V))(J:α→ai)(pre:α→Prop)(μ:α→Nat)(a:α)(h0:pre a){b:IR}{K:List Fr}{n:Nat}{tm:List (Nat×V)}{H:ai}{Q:Ex→St→Prop}(hs:au H.length ⟨n,tm,H⟩ ⟨n,I a,J a⟩)(h:∀a,pre a→CG P GL (.code b) [] n (I a) (J a) (LQ P GL K Q fun s=>∃a',pre a'∧μ a'<μ a∧au (J a).length s ⟨n,I a',J a'⟩)):CG P GL (.code (.loop b)) K n tm H Q:=by
 refine WC.HH (α:={a:α // pre a}) (fun a=>⟨n,I a.1,J a.1⟩) (fun a=>μ a.1) (fun a=>?_ ) ⟨a,h0⟩ hs;refine WC.mono (h a.1 a.2) fun e s hq=>?_
 cases e with
  |normal=>obtain⟨a',h1,h2,h3⟩:=hq;exact⟨⟨a',h1⟩,h2,h3⟩
  |exit i=>exact hq
  |ret=>exact hq
theorem CG.idx{d:Nat}{g:Option (Nat×Bool)}{af:List Nat}{l:List ad}{K:List Fr}{n:Nat}{tm:List (Nat×V)}{H:ai}{Q:Ex→St→Prop}{sz:Nat}{x i:ba}{es:List (List D)}{j:Nat}{e:List D}(he:es[j]? =some e)(ho:l.head?=some ⟨some d,.de sz x i,g,af⟩)(hg:ar g tm=some true)(hx:aX GL tm x=.d (.list es))(hi:dC (aX GL tm i)=some j)(hd:(Nat.blt d n&&Nat.beq e.length sz)=true)(hq:CG P GL (.ops (l.drop 1)) K n (put tm d (.ct e)) H Q):CG P GL (.ops l) K n tm H Q:=by
 rw[aaD]at hd;refine WO.head ho (WO.bw (v:=.ct e) (wr:=none) (aS:=⟨n,put tm d (.ct e),H⟩) hg ?_ ?_ hq)
 ·simp only[bw,hx,hi,he,hd.2,aaH]
 ·show St.put ⟨n,tm,H⟩ (some d) _ (aZ H none)=_;rw[aG,aaP (by simpa[aaT]using hd.1)];rfl
theorem CG.kL{d:Nat}{g:Option (Nat×Bool)}{af:List Nat}{l:List ad}{K:List Fr}{n:Nat}{tm:List (Nat×V)}{H:ai}{Q:Ex→St→Prop}{f:FuncId}{args:List ba}{vs:List V}{v:V}(h:PC P GL f vs v)(ho:l.head?=some ⟨some d,.call f args,g,af⟩)(hg:ar g tm=some true)(ha:bh (aX GL tm) args=vs)(hd:Nat.blt d n=true)(hq:CG P GL (.ops (l.drop 1)) K n (put tm d v) H Q):CG P GL (.ops l) K n tm H Q:=by refine WO.head ho (WO.MP h rfl hg ha (aS:=⟨n,put tm d v,H⟩) ?_ hq);show St.put ⟨n,tm,H⟩ (some d) v H=_;rw[aG,aaP (by simpa[aaT]using hd)]
theorem CG.gM{d:Nat}{g:Option (Nat×Bool)}{af:List Nat}{l:List ad}{K:List Fr}{n:Nat}{tm:List (Nat×V)}{H:ai}{Q:Ex→St→Prop}{x i:ba}{s:List UInt8}{j:Nat}{b:UInt8}(he:s[j]? =some b)(ho:l.head?=some ⟨some d,.gM x i,g,af⟩)(hg:ar g tm=some true)(hx:aX GL tm x=.d (.str s))(hi:dC (aX GL tm i)=some j)(hd:Nat.blt d n=true)(hq:CG P GL (.ops (l.drop 1)) K n (put tm d (.d (.int .u8 b.toNat))) H Q):CG P GL (.ops l) K n tm H Q:=by
 refine WO.head ho (WO.bw (v:=.d (.int .u8 b.toNat)) (wr:=none) (aS:=⟨n,put tm d (.d (.int .u8 b.toNat)),H⟩) hg ?_ ?_ hq)
 ·simp only[bw,hx,hi,he]
 ·show St.put ⟨n,tm,H⟩ (some d) _ (aZ H none)=_;rw[aG,aaP (by simpa[aaT]using hd)];rfl
theorem RQ{m:Nat}(h:m<9223372036854775808):aO .i64 (.ofNat m)=.ofNat m:=by simp only[aO];rw[show Nat.blt m 9223372036854775808=true by simpa[aaT]using h];rfl
theorem a6{i:Nat}(h:i+1<9223372036854775808):aO .i64 (bl (.ofNat i) 1)=.ofNat (i+1):=RQ h
end
end Fw
/-
  Own rows over open data: rows told by lists, appends, freezing, calls of values, parts of rows, loops over a list.
-/
namespace Fw
open Go
def gf(cs:List V):eG:=bif cs.isEmpty then .nil else .cells cs
def aM{α:Type}(aa:α→List D)(l:List α):eG:=gf ((l.flatMap aa).map .d)
theorem H5{α:Type}(aa:α→List D):aM aa []=.nil:=rfl
theorem ch{α:Type}{aa:α→List D}{sz:Nat}(h:∀a,(aa a).length=sz)(l:List α):(l.flatMap aa).length=l.length*sz:=by
 induction l with
  |nil=>simp
  |cons a l ih=>simp[ih,h,abu];omega
theorem vR:∀{H:ai}{b:Nat}{x:eG},aE H b=some x→bn H b x=H
 |[],_,_,h=>by simp[aE]at h
 |y::H,0,x,h=>by simp only[aE]at h;simp[bn,h]
 |y::H,b+1,x,h=>by simp only[aE]at h;simp[bn,vR h]
theorem zw{H:ai}{ns sz bytes b len k:Nat}{cs xs:List V}(h0:0<sz)(hH:aE H b=some (gf cs))(hl:cs.length=len*sz)(hk:xs.length=k*sz)(hx:xs.all dO=true)(hr:(len+k)*sz*(bytes+1)≤cy):∃wr,cM H ns sz bytes (.sl b (len*sz) 0 len sz) xs=some (.sl b ((len+k)*sz) 0 (len+k) sz,wr)∧aZ H wr=bn H b (gf (cs++xs)):=by
 have h1:Nat.beq sz 0=false:=cG (by omega);have h2:Nat.beq (xs.length%sz) 0=true:=by rw[hk,Nat.mul_mod_left];rfl
 have u3:xs.length / sz=k:=by rw[hk,aci _ h0]
 have BG:len*sz+xs.length=(len+k)*sz:=by rw[hk,abu]
 unfold cM;simp only[h1,h2,hx,abp,aaX,aa0,aaH,hH];cases cs with
  |nil=>
   have hlen:len=0:=by
    simp only[abl]at hl;rcases ack.1 hl.symm with h|h
    ·exact h
    ·omega
   subst hlen;simp only[gf,acS,aaH,adG,aa0,abk,abV];cases xs with
    |nil=>
     have:k=0:=by
      simp only[abl]at hk;rcases ack.1 hk.symm with h|h
      ·exact h
      ·omega
     subst this;refine⟨none,by simp,?_ ⟩;simp only[aZ,acS,aaH];exact(vR (by rw[hH];rfl)).symm
    |cons x xs=>
     refine⟨some (b,.cells (x::xs)),?_,by simp[aZ]⟩;have hb:Nat.ble (k*sz*(bytes+1)) cy=true:=by rw[ab8];simpa using hr
     simp only[hk,hb,aaH,aaU,aci _ h0]
  |cons c cs=>
   simp only[gf,acd,aaX,hl,aa0,aa2,acU,BG];have:Nat.ble ((len+k)*sz*(bytes+1)) cy=true:=by rw[ab8];exact hr
   simp only[this,aaH,u3,abQ,acd,aaX];exact⟨_,rfl,by simp[aZ]⟩
theorem fO{α:Type}{aa:α→List D}{sz:Nat}(h:∀a,(aa a).length=sz)(H:ai)(l:List α):cF H sz (.d (.list (l.map aa)))=some ((l.flatMap aa).map .d):=by
 have:(l.map aa).all (fun e=>Nat.beq e.length sz)=true:=by rw[aaR];intro e he;obtain⟨a,_,rfl⟩:=aa8.1 he;rw[h a,aa0]
 simp only[cF,this,aaH];rw[List.flatMap_def]
mutual
def fG(b:Nat):V→Bool| .ptr c _ _=> !Nat.beq c b| .sl c _ _ _ _=> !Nat.beq c b| .map c=> !Nat.beq c b| .iter c _=> !Nat.beq c b| .func _ a c=>kC b a&&kC b c| .iface _ v=>fG b v| .agg cs=>kC b cs| .tuple vs=>kC b vs|_=>true
def kC(b:Nat):List V→Bool|[]=>true|v::vs=>fG b v&&kC b vs
end
mutual
theorem e_{b:Nat}{ds:List D}:∀(v:V),fG b v=true→bP b ds v=v
 | .ptr c _ _,h=>by simp only[fG,abj]at h;simp only[bP,h,aaX]
 | .sl c _ _ _ _,h=>by simp only[fG,abj]at h;simp only[bP,h,aaX]
 | .map c,h=>by simp only[fG,abj]at h;simp only[bP,h,aaX]
 | .iter c _,h=>by simp only[fG,abj]at h;simp only[bP,h,aaX]
 | .func _ a c,h=>by simp only[fG,aaD]at h;simp only[bP,ig a h.1,ig c h.2]
 | .iface _ v,h=>by simp only[fG]at h;simp only[bP,e_ v h]
 | .agg cs,h=>by simp only[fG]at h;simp only[bP,ig cs h]
 | .tuple vs,h=>by simp only[fG]at h;simp only[bP,ig vs h]
 | .any,_=>by simp only[bP]
 | .d _,_=>by simp only[bP]
 | .ab,_=>by simp only[bP]
 | .jU,_=>by simp only[bP]
 | .ct _,_=>by simp only[bP]
 | .mf,_=>by simp only[bP]
 | .nK,_=>by simp only[bP]
 | .cd,_=>by simp only[bP]
 | .gX,_=>by simp only[bP]
theorem ig{b:Nat}{ds:List D}:∀(l:List V),kC b l=true→gN b ds l=l
 |[],_=>by simp only[gN]
 |v::vs,h=>by simp only[kC,aaD]at h;simp only[gN,e_ v h.1,ig vs h.2]
end
def gC(b:Nat):Option eG→Prop
 |some (.cells cs)=>kC b cs=true
 |some (.map es)=>es.all (fun p=>fG b p.2)=true
 |_=>True
def qJ(b:Nat):Nat→ai→Prop|_,[]=>True|i,x::H=>(i=b∨gC b x)∧qJ b (i+1) H
theorem zx(b:Nat):∀(l:List D),kC b (l.map .d)=true|[]=>rfl|d::l=>by simp only[aaY,kC,fG,aa2];exact zx b l
theorem vU{α:Type}(b:Nat)(aa:α→List D)(l:List α):gC b (some (aM aa l)):=by
 unfold aM gf;cases h:((l.flatMap aa).map V.d).isEmpty with
  |true=>simp[gC]
  |false=>simp only[aaX,gC];exact zx b _
theorem pG{b:Nat}{ds:List D}{x:eG}(h:gC b (some x)):eM b ds x=x:=by
 cases x with
  |cells cs=>simp only[gC]at h;simp only[eM,ig cs h]
  |map es=>
   simp only[gC,aaR]at h;simp only[eM,eG.map.injEq];conv=>rhs;rw[←List.map_id es]
   refine List.map_congr_left fun p hp=>?_
   rw[e_ _ (h p hp)];rfl
  |_=>simp only[eM]
theorem oU{b:Nat}{ds:List D}:∀(H:ai)(i:Nat),qJ b i H→ff b ds i H=if i≤b then H.set (b - i) none else H
 |[],i,_=>by simp[ff]
 |x::H,i,h=>by
  simp only[qJ]at h;simp only[ff,oU H (i+1) h.2];by_cases e:i=b
  ·subst e;rw[aa0,aaH,aaL (by omega),aaP (aaQ i),ac4];rfl
  ·rw[cG e,aaX];have hb:gC b x:=h.1.resolve_left e;have hx:x.map (eM b ds)=x:=by
    cases x with
     |none=>rfl
     |some x=>rw[aaV,pG hb]
   rw[hx];by_cases bS:i≤b
   ·rw[aaP (by omega),aaP bS,show b - i=b - (i+1)+1 by omega];rfl
   ·rw[aaL (by omega),aaL bS]
def qK(b:Nat)(tm:List (Nat×V)):List (Nat×V):=tm.map fun p=>(p.1,bif fG b p.2 then p.2 else .any)
theorem lK(b:Nat)(tm:List (Nat×V))(t:Nat):get (qK b tm) t=bif fG b (get tm t)then get tm t else .any:=lB (fun v=>bif fG b v then v else .any) rfl tm t
theorem ij{α:Type}{aa:α→List D}{sz:Nat}(h:∀a,(aa a).length=sz):∀(l:List α),eV sz l.length (l.flatMap aa)=l.map aa|[]=>rfl|a::l=>by simp only[aaS,eV,ace,aaY];rw[acI (by rw[h];exact aaQ _),←h a,ab9,List.drop_append_of_le_length (by omega),List.drop_length,abV,h a,ij h l]
theorem tU:∀(l:List D),ep (l.map .d)=some l|[]=>rfl|d::l=>by simp only[aaY,ep,tU l,aaV]
theorem zy{α:Type}{aa:α→List D}{H:ai}{b:Nat}{l:List α}(h:aE H b=some (aM aa l)):sb H b=some (l.flatMap aa):=by
 unfold sb;rw[h];unfold aM gf;cases hl:l.flatMap aa with
  |nil=>rfl
  |cons d ds=>simp only[aaY,acd,aaX];rw[←aaY,tU]
section
variable {P:Program}{GL:cj}
theorem nF{g:G}{w:World}{H:ai}(hh:az g w H):H.all fD=true:=by
 have:∀(H':ai),(∀b y,aE H' b=some y→fD (some y)=true)→H'.all fD=true:=by
  intro H';induction H' with
   |nil=>intro _;rfl
   |cons x H' ih=>
    intro h;simp only[aa4,aaD];refine⟨?_,ih fun b y hy=>h (b+1) y hy⟩;cases x with
     |none=>rfl
     |some y=>exact h 0 y rfl
 refine this H fun b y hy=>?_
 obtain⟨x,hx⟩:=hh.back b y hy;obtain⟨_,y',yI,hr⟩:=hh.live b x hx;rw[hy]at yI;simp only[aaC]at yI;subst yI;cases y with
  |cells cs=>
   cases x with
    |cells _ _ _=>simp only[RB]at hr;exact hr.2.1
    |_=>simp only[RB]at hr
  |_=>rfl
theorem pH{H:ai}{k:Nat}(h:H.all fD=true):(H.set k none).all fD=true:=by
 induction H generalizing k with
  |nil=>simp
  |cons x H ih=>
   simp only[aa4,aaD]at h;cases k with
    |zero=>simp only[acB,aa4,h.2];rfl
    |succ k=>simp only[acg,aa4,h.1,ih h.2];rfl
theorem au.zA{α:Type}(aa:α→List D)(as:List α){m n sz:Nat}{tm a7:List (Nat×V)}{H H':ai}(b s:Nat)(cB:∀a,(aa a).length=sz)(hs:get tm s=.sl b (as.length*sz) 0 as.length sz)(hH:aE H b=some (aM aa as))(vA:qJ b 0 H)(e1:put (qK b tm) s (.d (.list (as.map aa)))=a7)(e2:H.set b none=H'):au m ⟨n,tm,H⟩ ⟨n,a7,H'⟩:=by
 intro GL g w a hr;have hf:=oU (ds:=as.flatMap aa) H 0 vA;rw[aaP (acb _),ach]at hf;have Oo:j_ b ⟨n,tm,H⟩=some ⟨n,tm.map fun p=>(p.1,bP b (as.flatMap aa) p.2),H'⟩:=by unfold j_;rw[zy hH];simp only[hf];rw[pH (nF hr.heap),aaH,e2]
 refine(au.trans (au.oe Oo) (au.kZ fun t=>?_ )) GL g w a hr;subst e1;rw[lB (bP b (as.flatMap aa)) (by simp only[bP]),np];by_cases ht:t=s
 ·subst ht;rw[aaP rfl,hs];left;have hle:Nat.ble (0+as.length*sz) (as.length*sz)=true:=by rw[ab8];omega
  simp only[bP,aa0,aaH,ch cB,hle,abk,abZ,ij cB]
 ·rw[aaL ht,lK];cases hn:fG b (get tm t)with
   |true=>left;rw[aaH,e_ _ hn]
   |false=>right;rfl
theorem k9(H:ai)(x:Option eG)(b:Nat):aE (H++[x]) b=if b=H.length then x else aE H b:=by
 rw[HB];by_cases h:b<H.length
 ·rw[aaP h,aaL (by omega)]
 ·rw[aaL h];by_cases e:b=H.length
  ·subst e;rw[aaP rfl,ac4];rfl
  ·rw[aaL e,C0 (by omega:H.length≤b)];exact C0 (by simp;omega)
def G.c7(g:G)(b:Nat):G:=⟨fun c=>g.cR c∨c=b,fun c=>if c=b then some .nil else g.γ c,g.fo⟩
theorem cr.c7{g:G}{w:World}{b:Nat}(h:¬g.cR b):cr g w (g.c7 b) w:=⟨rfl,rfl,rfl,aaQ _,fun k hk=>
 ⟨⟨hk.1,hk.2.1,fun c x hx ho=>by
  simp only[G.c7]at hx;split at hx
  ·simp only[aaC]at hx;subst hx;cases ho
  ·exact hk.2.2 c x hx ho⟩,rfl⟩,fun _ hd=>.inl hd,fun c hd=>by simp only[G.c7];rw[aaL (fun e=>h (by rw[←e];exact hd))];exact GB.step.refl _,rfl,fun _ _=>rfl⟩
theorem az.c7{g:G}{w:World}{H:ai}(hh:az g w H):az (g.c7 H.length) w (H++[some .nil]):=by
 have MW:¬g.cR H.length:=fun h=>adv _ (hh.cR _ h)
 have he:cr g w (g.c7 H.length) w:=cr.c7 MW;refine⟨fun b hb=>?_,fun b x hx=>?_,fun b y hy=>?_,fun b b' x x' k hx g_ hk iT=>?_,fun k hk=>?_ ⟩
 ·simp only[G.c7]at hb;simp only[aa1,ab_];rcases hb with hb|hb
  ·have:=hh.cR b hb;omega
  ·omega
 ·simp only[G.c7]at hx⊢;split at hx
  ·rename_i e;subst e;simp only[aaC]at hx;subst hx;exact⟨.inr rfl,.nil,by rw[k9,aaP rfl],by simp only[RB]⟩
  ·rename_i e;obtain⟨h1,y,h2,h3⟩:=hh.live b x hx;exact⟨.inl h1,y,by rw[k9,aaL e];exact h2,h3.ext he (fun k _=>rfl)⟩
 ·rw[k9]at hy;simp only[G.c7];split at hy
  ·rename_i e;exact⟨.nil,by rw[aaP e]⟩
  ·rename_i e;obtain⟨x,hx⟩:=hh.back b y hy;exact⟨x,by rw[aaL e];exact hx⟩
 ·simp only[G.c7]at hx g_;split at hx
  ·simp only[aaC]at hx;subst hx;cases hk
  ·split at g_
   ·simp only[aaC]at g_;subst g_;cases iT
   ·exact hh.inj b b' x x' k hx g_ hk iT
 ·refine⟨(hh.fo k hk).1,fun b x hx=>?_ ⟩;simp only[G.c7]at hx;split at hx
  ·simp only[aaC]at hx;subst hx;intro h;cases h
  ·exact(hh.fo k hk).2 b x hx
theorem au.BH{m n:Nat}{tm a7:List (Nat×V)}{H:ai}(s sz:Nat)(hm:m≤H.length)(hs:get tm s=.ab)(e1:put tm s (.sl H.length 0 0 0 sz)=a7):au m ⟨n,tm,H⟩ ⟨n,a7,H++[some .nil]⟩:=by
 subst e1;intro GL g w a hr;have MW:¬g.cR H.length:=fun h=>adv _ (hr.heap.cR _ h)
 have he:cr g w (g.c7 H.length) w:=cr.c7 MW;refine⟨g.c7 H.length,⟨hr.defers,hr.size,fun t=>?_,hr.heap.c7,hr.eg.ext he⟩,fun g0 w0 _ h=>h.trans he⟩;show RV _ _ (get (put tm s _) t) _;rw[np];by_cases ht:t=s
 ·subst ht;have:=hr.tmps t;change RV g w (get tm t) _ at this;rw[hs]at this;simp only[RV]at this;rw[aaP rfl,this];simp only[RV];refine⟨⟨rfl,.inr rfl⟩,fun x hx=>?_ ⟩;simp only[G.c7,abv,aaC]at hx;subst hx;exact⟨by trivial,by trivial,by trivial,by trivial⟩
 ·rw[aaL ht];exact RV.ext he _ _ (hr.tmps t)
theorem aV.BI{g g':G}{w:World}(he:cr g w g' w){v:V}(hv:RV g' w v (.slice none 0 0)):∀(cs:List V)(vs:List Value)(j:Nat),cs[j]? =some .ab→aV g w cs vs→aV g' w (cs.set j v) vs
 |[],_,j,h,_=>by simp at h
 |c::cs,[],_,_,hr=>by simp only[aV]at hr
 |c::cs,x::vs,0,h,hr=>by simp only[ada,aaC]at h;subst h;simp only[aV,RV]at hr;simp only[acB,aV];rw[hr.1];exact⟨hv,aV.ext he _ _ hr.2⟩
 |c::cs,x::vs,j+1,h,hr=>by simp only[aV]at hr;simp only[acg,aV];exact⟨RV.ext he _ _ hr.1,aV.BI he hv cs vs j (by simpa using h) hr.2⟩
theorem au.H6{m n:Nat}{tm:List (Nat×V)}{H H':ai}(b j sz:Nat){cs:List V}(hm:m≤H.length)(hb:aE H b=some (.cells cs))(hj:cs[j]? =some .ab)(e1:bn H b (.cells (cs.set j (.sl H.length 0 0 0 sz)))++[some .nil]=H'):au m ⟨n,tm,H⟩ ⟨n,tm,H'⟩:=by
 subst e1;intro GL g w a hr;have bS:=jZ hb;have MW:¬g.cR H.length:=fun h=>adv _ (hr.heap.cR _ h)
 have he:cr g w (g.c7 H.length) w:=cr.c7 MW;have KL:=hr.heap.c7;have hlen:(bn H b (.cells (cs.set j (.sl H.length 0 0 0 sz)))).length=H.length:=eY bS;have hg:∀c,aE (bn H b (.cells (cs.set j (.sl H.length 0 0 0 sz)))++[some .nil]) c=if c=b then some (.cells (cs.set j (.sl H.length 0 0 0 sz)))else aE (H++[some .nil]) c:=by
  intro c;rw[k9,k9,hlen,eJ];by_cases hc:c=b
  ·rw[aaP hc,aaP hc,aaL (by omega)]
  ·rw[aaL hc,aaL hc]
 refine⟨g.c7 H.length,⟨hr.defers,hr.size,fun t=>RV.ext he _ _ (hr.tmps t),⟨fun c hc=>?_,fun c x hx=>?_,fun c y hy=>?_,KL.inj,KL.fo⟩,hr.eg.ext he⟩,fun g0 w0 _ h=>h.trans he⟩
 ·have:=KL.cR c hc;simp only[aa1,ab_,hlen]at this⊢;exact this
 ·obtain⟨h1,y,h2,h3⟩:=KL.live c x hx;refine⟨h1,?_⟩;show∃y,aE _ c=some y∧_;rw[hg];by_cases hc:c=b
  ·subst hc;rw[aaP rfl];refine⟨_,rfl,?_⟩;simp only[G.c7,aaL (show¬c=H.length by omega)]at hx;obtain⟨_,y',k2,k3⟩:=hr.heap.live c x hx;rw[hb]at k2;simp only[aaC]at k2;subst k2;cases x with
    |cells aT cp cur=>
     simp only[RB]at k3⊢;obtain⟨r1,r2,r3,cc,e,r4,r5,r6⟩:=k3;refine⟨by simp[r1],?_,by simp[r3],cc,e,r4,r5,?_ ⟩
     ·rw[aaR]at r2⊢;intro v hv;rcases acq hv with h|h
      ·exact r2 v h
      ·subst h;rfl
     ·rw[ac0];refine aV.BI he ?_ cs _ j hj r6;simp only[RV];refine⟨⟨rfl,.inr rfl⟩,fun x hx=>?_ ⟩;simp only[G.c7,abv,aaC]at hx;subst hx;exact⟨by trivial,by trivial,by trivial,by trivial⟩
    |_=>simp only[RB]at k3
  ·rw[aaL hc];exact⟨y,h2,h3⟩
 ·rw[hg]at hy;by_cases hc:c=b
  ·subst hc;obtain⟨x,hx⟩:=hr.heap.back c _ hb;exact⟨x,by simp only[G.c7,aaL (show¬c=H.length by omega)];exact hx⟩
  ·rw[aaL hc]at hy;exact KL.back c y hy
theorem CG.tidy{c:IR}{K:List Fr}{n:Nat}{tm a7:List (Nat×V)}{H H':ai}{Q:Ex→St→Prop}(ht:au H.length ⟨n,tm,H⟩ ⟨n,a7,H'⟩)(h:CG P GL (.code c) K n a7 H' Q):CG P GL (.code c) K n tm H Q:=WC.tidy (σ:=⟨n,tm,H⟩) ht h
theorem WO.tidy{l:List ad}{σ aS:St}{Q:St→Prop}(ht:au σ.hp.length σ aS)(h:WO P GL l aS Q):WO P GL l σ Q:=by intro ops k hc g w a hr;obtain⟨g',h1,h2⟩:=ht GL g w a hr;exact cW (cA.ext (h2 g w (fun b hb=>hr.heap.cR b hb) (cr.refl _ _))) _ _ _ (h ops k hc g' w a h1)
theorem CG.RR{l:List ad}{K:List Fr}{n:Nat}{tm a7:List (Nat×V)}{H H':ai}{Q:Ex→St→Prop}(ht:au H.length ⟨n,tm,H⟩ ⟨n,a7,H'⟩)(h:CG P GL (.ops l) K n a7 H' Q):CG P GL (.ops l) K n tm H Q:=WO.tidy (σ:=⟨n,tm,H⟩) ht h
theorem ltT{a b:Int}(h:aP a b=true):a<b:=by rw[fv]at h;simpa using h
theorem ltF{a b:Int}(h:aP a b=false):b≤a:=by rw[fv]at h;simpa using h
theorem eqT{a b:Int}(h:a_ a b=true):a=b:=by rw[kB]at h;simpa using h
theorem eqF{a b:Int}(h:a_ a b=false):a≠b:=by rw[kB]at h;simpa using h
theorem Oq{a b:Int}(h:a<b):aP a b=true:=by rw[fv];simpa using h
theorem La{a b:Int}(h:b≤a):aP a b=false:=by rw[fv];simpa using h
theorem RT{a b:Int}(h:a=b):a_ a b=true:=by rw[kB];simpa using h
theorem RU{a b:Int}(h:a≠b):a_ a b=false:=by rw[kB];simpa using h
theorem WU{a b:Int}(h:(a==b)=true):a=b:=by simpa using h
theorem WV{a b:Int}(h:(a==b)=false):a≠b:=by simpa using h
theorem ax{α:Type}{aa:α→List D}{l:List α}{i:Nat}{x:α}(h:l[i]? =some x):(l.map aa)[i]? =some (aa x):=by rw[abf,h];rfl
theorem CG.iL{d:Nat}{op:kI}{g:Option (Nat×Bool)}{af:List Nat}{l:List ad}{K:List Fr}{n:Nat}{tm:List (Nat×V)}{H H':ai}{Q:Ex→St→Prop}{v:V}{wr:Wr}(ho:l.head?=some ⟨some d,op,g,af⟩)(hg:ar g tm=some true)(he:bw (aX GL tm) H H.length op=some (v,wr))(hH:aZ H wr=H')(hd:Nat.blt d n=true)(hq:CG P GL (.ops (l.drop 1)) K n (put tm d v) H' Q):CG P GL (.ops l) K n tm H Q:=by subst hH;refine WO.head ho (WO.bw (v:=v) (wr:=wr) (aS:=⟨n,put tm d v,aZ H wr⟩) hg he ?_ hq);show St.put ⟨n,tm,H⟩ (some d) _ (aZ H wr)=_;rw[aG,aaP (by simpa[aaT]using hd)]
theorem CG.RW{α:Type}(aa:α→List D)(as ys:List α){d:Nat}{g:Option (Nat×Bool)}{af:List Nat}{l:List ad}{K:List Fr}{n:Nat}{tm:List (Nat×V)}{H H':ai}{Q:Ex→St→Prop}{sz bytes b:Nat}{x y:ba}(cB:∀a,(aa a).length=sz)(h0:Nat.blt 0 sz=true)(ho:l.head?=some ⟨some d,.append sz bytes x y,g,af⟩)(hg:ar g tm=some true)(hx:aX GL tm x=.sl b (as.length*sz) 0 as.length sz)(hH:aE H b=some (aM aa as))(hy:cF H sz (aX GL tm y)=some ((ys.flatMap aa).map .d))(hr:(as.length+ys.length)*sz*(bytes+1)≤1099511627776)(hd:Nat.blt d n=true)(RX:bn H b (aM aa (as++ys))=H')(hq:CG P GL (.ops (l.drop 1)) K n (put tm d (.sl b ((as++ys).length*sz) 0 (as++ys).length sz)) H' Q):CG P GL (.ops l) K n tm H Q:=by
 have Ot:0<sz:=by simpa[aaT]using h0
 obtain⟨wr,e1,e2⟩:=zw (H:=H) (ns:=H.length) (sz:=sz) (bytes:=bytes) (b:=b) (len:=as.length) (k:=ys.length) (cs:=(as.flatMap aa).map .d) (xs:=(ys.flatMap aa).map .d) Ot hH (by simp[ch cB]) (by simp[ch cB]) (by simp[dO]) (by simpa[cy]using hr);refine CG.iL ho hg (v:=.sl b ((as++ys).length*sz) 0 (as++ys).length sz) (wr:=wr) ?_ ?_ hd hq
 ·simp only[bw,hy,hx,e1,aa1]
 ·rw[e2,←RX];simp only[aM,abU,abW]
theorem zB{α:Type}{aa:α→List D}{as:List α}{H:ai}{b sz:Nat}(cB:∀a,(aa a).length=sz)(hH:aE H b=some (aM aa as)):gm H .slice (.sl b (as.length*sz) 0 as.length sz)=some as.length:=by
 have:ef H b (as.length*sz)=true:=by
  unfold ef;rw[hH];have hl:=ch cB as;unfold aM gf;cases h:as.flatMap aa with
   |nil=>rw[h]at hl;simp only[ac5,acS,aaH,←hl,abl,aa0]
   |cons d ds=>rw[h]at hl;simp only[aaY,acd,aaX,←hl,aaS,aaW,aa0]
 simp only[gm,this,aaH]
theorem CG.H7{α:Type}(aa:α→List D)(as:List α){d:Nat}{g:Option (Nat×Bool)}{af:List Nat}{l:List ad}{K:List Fr}{n:Nat}{tm:List (Nat×V)}{H:ai}{Q:Ex→St→Prop}{sz b:Nat}{x:ba}(cB:∀a,(aa a).length=sz)(ho:l.head?=some ⟨some d,.len .slice x,g,af⟩)(hg:ar g tm=some true)(hx:aX GL tm x=.sl b (as.length*sz) 0 as.length sz)(hH:aE H b=some (aM aa as))(hd:Nat.blt d n=true)(hq:CG P GL (.ops (l.drop 1)) K n (put tm d (.d (.int .i64 (.ofNat as.length)))) H Q):CG P GL (.ops l) K n tm H Q:=CG.iL ho hg (wr:=none) (by simp only[bw,hx,zB cB hH];rfl) rfl hd hq
def mj(GL:cj)(tm:List (Nat×V))(d:Nat):Option ba→Option Nat|some x=>dC (aX GL tm x)|none=>some d
theorem jl{tm:List (Nat×V)}{n p q:Nat}{lo hi:Option ba}(jS:mj GL tm 0 lo=some p)(jw:mj GL tm n hi=some q)(h1:p≤q)(h2:q≤n):bounds (aX GL tm) n lo hi=some (p,q):=by
 have k1:Nat.ble p q=true:=by rw[ab8];exact h1
 have k2:Nat.ble q n=true:=by rw[ab8];exact h2
 cases lo with
  |none=>
   simp only[mj,aaC]at jS;cases hi with
    |none=>simp only[mj,aaC]at jw;subst jS;subst jw;simp only[bounds,k1,k2,abk,aaH]
    |some y=>simp only[mj]at jw;subst jS;simp only[bounds,jw,k1,k2,abk,aaH]
  |some x=>
   simp only[mj]at jS;cases hi with
    |none=>simp only[mj,aaC]at jw;subst jw;simp only[bounds,jS,k1,k2,abk,aaH]
    |some y=>simp only[mj]at jw;simp only[bounds,jS,jw,k1,k2,abk,aaH]
theorem CG.Qn{α:Type}(aa:α→List D)(as:List α)(p q:Nat){d:Nat}{g:Option (Nat×Bool)}{af:List Nat}{l:List ad}{K:List Fr}{n:Nat}{tm:List (Nat×V)}{H:ai}{Q:Ex→St→Prop}{sz:Nat}{x:ba}{lo hi:Option ba}(cB:∀a,(aa a).length=sz)(ho:l.head?=some ⟨some d,.fK sz x lo hi,g,af⟩)(hg:ar g tm=some true)(hx:aX GL tm x=.d (.list (as.map aa)))(jS:mj GL tm 0 lo=some p)(jw:mj GL tm (as.map aa).length hi=some q)(Dy:p≤q∧q≤as.length)(hd:Nat.blt d n=true)(hq:CG P GL (.ops (l.drop 1)) K n (put tm d (.d (.list (((as.take q).drop p).map aa)))) H Q):CG P GL (.ops l) K n tm H Q:=by
 have jA:(as.map aa).all (fun e=>Nat.beq e.length sz)=true:=by rw[aaR];intro e he;obtain⟨a,_,rfl⟩:=aa8.1 he;rw[cB a,aa0]
 have hb:bounds (aX GL tm) (as.map aa).length lo hi=some (p,q):=jl jS jw Dy.1 (by rw[aaW];exact Dy.2);refine CG.iL ho hg (v:=.d (.list (((as.take q).drop p).map aa))) (wr:=none) ?_ rfl hd hq;simp only[bw,hx,jA,aaH,hb,aaV,acV,acT]
theorem CG.Qo(p q:Nat){d:Nat}{g:Option (Nat×Bool)}{af:List Nat}{l:List ad}{K:List Fr}{n:Nat}{tm:List (Nat×V)}{H:ai}{Q:Ex→St→Prop}{x:ba}{s:List UInt8}{lo hi:Option ba}(ho:l.head?=some ⟨some d,.lr x lo hi,g,af⟩)(hg:ar g tm=some true)(hx:aX GL tm x=.d (.str s))(jS:mj GL tm 0 lo=some p)(jw:mj GL tm s.length hi=some q)(Dy:p≤q∧q≤s.length)(hd:Nat.blt d n=true)(hq:CG P GL (.ops (l.drop 1)) K n (put tm d (.d (.str ((s.take q).drop p)))) H Q):CG P GL (.ops l) K n tm H Q:=by have hb:bounds (aX GL tm) s.length lo hi=some (p,q):=jl jS jw Dy.1 Dy.2;refine CG.iL ho hg (v:=.d (.str ((s.take q).drop p))) (wr:=none) ?_ rfl hd hq;simp only[bw,hx,hb,aaV]
theorem CG.WW{d:Nat}{g:Option (Nat×Bool)}{af:List Nat}{l:List ad}{K:List Fr}{n:Nat}{tm:List (Nat×V)}{H:ai}{Q:Ex→St→Prop}{f:FuncId}{first cap:List V}{x:ba}{args:List ba}{vs:List V}{v:V}(h:PC P GL f vs v)(ho:l.head?=some ⟨some d,.fm x args,g,af⟩)(hg:ar g tm=some true)(hx:aX GL tm x=.func f first cap)(ha:first++bh (aX GL tm) args++cap=vs)(hd:Nat.blt d n=true)(hq:CG P GL (.ops (l.drop 1)) K n (put tm d v) H Q):CG P GL (.ops l) K n tm H Q:=by subst ha;refine WO.head ho (WO.fm rfl hx hg (WF.EJ h ⟨⟨n,put tm d v,H⟩,?_,hq⟩));show St.put ⟨n,tm,H⟩ (some d) v H=_;rw[aG,aaP (by simpa[aaT]using hd)]
theorem CG.bI{α β:Type}(l:List β)(I:Nat→α→List (Nat×V))(J:Nat→α→ai)(RY:Nat→α→List β→Prop)(a0:α)(h0:RY 0 a0 l){b:IR}{K:List Fr}{n:Nat}{tm:List (Nat×V)}{H:ai}{Q:Ex→St→Prop}(hs:au H.length ⟨n,tm,H⟩ ⟨n,I 0 a0,J 0 a0⟩)(oq:∀i a,i=l.length→l.drop i=[]→RY i a []→CG P GL (.code b) [] n (I i a) (J i a) (LQ P GL K Q fun _=>False))(RZ:∀i a x r,l.drop i=x::r→l[i]? =some x→i<l.length→RY i a (x::r)→CG P GL (.code b) [] n (I i a) (J i a) (LQ P GL K Q fun s=>∃a',RY (i+1) a' r∧au (J i a).length s ⟨n,I (i+1) a',J (i+1) a'⟩)):CG P GL (.code (.loop b)) K n tm H Q:=by
 refine CG.H4 (α:=Nat×α) (fun p=>I p.1 p.2) (fun p=>J p.1 p.2) (fun p=>p.1≤l.length∧RY p.1 p.2 (l.drop p.1)) (fun p=>l.length - p.1) (0,a0) ⟨acb _,h0⟩ hs ?_;rintro⟨i,a⟩ ⟨hi,aF⟩;rcases abm i l.length with bS|Qh
 ·have hx:l.drop i=l[i]::l.drop (i+1):=abz bS;have:=RZ i a l[i] (l.drop (i+1)) hx (aaG bS) bS (by rw[←hx];exact aF);refine WC.mono this fun e s hq=>?_
  cases e with
   |normal=>obtain⟨a',k1,k2⟩:=hq;exact⟨(i+1,a'),⟨bS,k1⟩,by simp only;omega,k2⟩
   |exit j=>exact hq
   |ret=>exact hq
 ·have he:i=l.length:=by omega
  have hd:l.drop i=[]:=adg Qh;have:=oq i a he hd (by rw[←hd];exact aF);refine WC.mono this fun e s hq=>?_
  cases e with
   |normal=>exact hq.elim
   |exit j=>exact hq
   |ret=>exact hq
end
end Fw
/-
  Walks through functions that look into their caller's boxes.
-/
namespace Fw
open Go
def sg(rs:List iZ)(R:V→ai→Prop):Ex→St→Prop| .exit _,_=>False|_,σ=>∃v,fq rs σ=some v∧R v σ.hp
def iR(v:V)(H:ai):V→ai→Prop:=fun r k=>r=v∧k=H
section
variable {P:Program}{GL:cj}
theorem CG.gD{f:FuncId}{fn:cL}{args:List V}{H:ai}{R:V→ai→Prop}(hf:aI P f=some fn)(w6:ao P f=true)(hc:Nat.ble args.length fn.ntmps=true)(h:CG P GL (.code fn.body) [] fn.ntmps (tk 0 args) H (sg fn.res R)):WF P GL f args H R:=WF.body hf w6 (aaM hc) (WC.mono h fun e s hq=>by cases e<;>exact hq)
theorem CG.WX{K:List Fr}{n:Nat}{tm:List (Nat×V)}{H:ai}{rs:List iZ}{R:V→ai→Prop}{v':V}(h:fq rs ⟨n,tm,H⟩=some v')(e:R v' H):CG P GL (.code .ret) K n tm H (sg rs R):=WC.ret (KQ.ret (show sg rs R .ret _ from⟨v',h,e⟩))
theorem CG.uU{K:List Fr}{n:Nat}{tm:List (Nat×V)}{H:ai}{rs:List iZ}{R:V→ai→Prop}(v':V)(e:R v' H)(h:fq rs ⟨n,tm,H⟩=some v':=by kernel_rfl):CG P GL (.code .ret) K n tm H (sg rs R):=CG.WX h e
theorem CG.R0{K K1:List Fr}{n:Nat}{tm:List (Nat×V)}{H:ai}{rs:List iZ}{R:V→ai→Prop}{v':V}{S:St→Prop}(h:fq rs ⟨n,tm,H⟩=some v')(e:R v' H):CG P GL (.code .ret) K1 n tm H (LQ P GL K (sg rs R) S):=WC.ret (KQ.ret (show KQ P GL K (sg rs R) .ret _ from KQ.ret (show sg rs R .ret _ from⟨v',h,e⟩)))
theorem CG.Ou{K K1:List Fr}{n:Nat}{tm:List (Nat×V)}{H:ai}{rs:List iZ}{R:V→ai→Prop}{S:St→Prop}(v':V)(e:R v' H)(h:fq rs ⟨n,tm,H⟩=some v':=by kernel_rfl):CG P GL (.code .ret) K1 n tm H (LQ P GL K (sg rs R) S):=CG.R0 h e
theorem CG.wfR{d:Nat}{g:Option (Nat×Bool)}{af:List Nat}{l:List ad}{K:List Fr}{n:Nat}{tm:List (Nat×V)}{H:ai}{Q:Ex→St→Prop}{f:FuncId}{args:List ba}{vs:List V}{R:V→ai→Prop}(h:WF P GL f vs H R)(ho:l.head?=some ⟨some d,.call f args,g,af⟩)(hg:ar g tm=some true)(ha:bh (aX GL tm) args=vs)(hd:Nat.blt d n=true)(hq:∀v H',R v H'→CG P GL (.ops (l.drop 1)) K n (put tm d v) H' Q):CG P GL (.ops l) K n tm H Q:=by subst ha;refine WO.head ho (WO.call rfl hg (h.mono ?_ ));intro v H' hr;refine⟨⟨n,put tm d v,H'⟩,?_,hq v H' hr⟩;show St.put ⟨n,tm,H'⟩ (some d) v H'=_;rw[aG,aaP (by simpa[aaT]using hd)]
theorem CG.wf{d:Nat}{g:Option (Nat×Bool)}{af:List Nat}{l:List ad}{K:List Fr}{n:Nat}{tm:List (Nat×V)}{H H':ai}{Q:Ex→St→Prop}{f:FuncId}{args:List ba}{vs:List V}{v:V}(h:WF P GL f vs H (iR v H'))(ho:l.head?=some ⟨some d,.call f args,g,af⟩)(hg:ar g tm=some true)(ha:bh (aX GL tm) args=vs)(hd:Nat.blt d n=true)(hq:CG P GL (.ops (l.drop 1)) K n (put tm d v) H' Q):CG P GL (.ops l) K n tm H Q:=CG.wfR h ho hg ha hd (by rintro v' H2 ⟨e1,e2⟩;rw[e1,e2];exact hq)
theorem CG.Qp{d:Nat}{g:Option (Nat×Bool)}{af:List Nat}{l:List ad}{K:List Fr}{n:Nat}{tm:List (Nat×V)}{H H':ai}{Q:Ex→St→Prop}{f:FuncId}{first cap:List V}{x:ba}{args:List ba}{vs:List V}{v:V}(h:WF P GL f vs H (iR v H'))(ho:l.head?=some ⟨some d,.fm x args,g,af⟩)(hg:ar g tm=some true)(hx:aX GL tm x=.func f first cap)(ha:first++bh (aX GL tm) args++cap=vs)(hd:Nat.blt d n=true)(hq:CG P GL (.ops (l.drop 1)) K n (put tm d v) H' Q):CG P GL (.ops l) K n tm H Q:=by subst ha;refine WO.head ho (WO.fm rfl hx hg (h.mono ?_ ));rintro v' H2 ⟨e1,e2⟩;rw[e1,e2];refine⟨⟨n,put tm d v,H'⟩,?_,hq⟩;show St.put ⟨n,tm,H'⟩ (some d) v H'=_;rw[aG,aaP (by simpa[aaT]using hd)]
theorem WF.same{f:FuncId}{args:List V}{v:V}(h:PC P GL f args v)(H:ai):WF P GL f args H (iR v H):=WF.EJ h ⟨rfl,rfl⟩
end
end Fw
/-
  Drawn regions that write nothing, walked operation by operation.
-/
namespace Fw
open Go
theorem qL(n:Nat):∀(l:List D),an n (l.map .d)=true|[]=>rfl|d::l=>by simp only[aaY,an,aq,aa2];exact qL n l
theorem aR{α:Type}(n:Nat)(aa:α→List D)(l:List α):cE n (aM aa l)=true:=by
 unfold aM gf;cases h:((l.flatMap aa).map V.d).isEmpty with
  |true=>rfl
  |false=>simp only[aaX,cE];exact qL n _
def sh(tm:List (Nat×V))(d:Option Nat)(v:V):List (Nat×V):=match d with
 |none=>tm
 |some d=>put tm d v
def AO(P:Program)(GL:cj)(base:Nat)(Hp:ai):Nat→List ad→List (Nat×V)→(List (Nat×V)→Prop)→Prop|_,[],tm,Q=>Q tm|i,o::l,tm,Q=>∃cv v,eX GL tm Hp (base+i) o cv=some (v,none)∧(∀f args,bA o.op=some (f,args)→ar o.guard tm=some true→gU P GL f (bh (aX GL tm) args) Hp v)∧AO P GL base Hp (i+1) l (sh tm o.dst v) Q
section
variable {P:Program}{GL:cj}
theorem oW:∀(l:List ad)(rs:List ((V×Wr)×List Nat))(i k:Nat)(σ:St),k≤i→aB (fun j=>decide (j<k)) i l rs σ=σ
 |[],rs,i,k,σ,_=>by simp[aB]
 |o::l,[],i,k,σ,_=>by simp[aB]
 |o::l,r::rs,i,k,σ,h=>by
  have:decide (i<k)=false:=by simp;omega
  simp only[aB,this,aaX];exact oW l rs (i+1) k σ (by omega)
theorem AO.runs{base n:Nat}{Hp:ai}:∀{l:List ad}{i:Nat}{tm:List (Nat×V)}{Q:List (Nat×V)→Prop},AO P GL base Hp i l tm Q→∃(BJ:List (Option V))(rs:List ((V×Wr)×List Nat))(a7:List (Nat×V)),BJ.length=l.length∧(∀qc:Nat→Option V,(∀j c,BJ[j]? =some c→qc (i+j)=c)→mg GL base qc i l ⟨n,tm,Hp⟩=some rs)∧tq rs=true∧aB (fun _=>true) i l rs ⟨n,tm,Hp⟩=⟨n,a7,Hp⟩∧Q a7∧∀k o r,l[k]? =some o→rs[k]? =some r→∀f args,bA o.op=some (f,args)→ar o.guard (aB (fun j=>decide (j<i+k)) i l rs ⟨n,tm,Hp⟩).tm=some true→gU P GL f (bh (aX GL (aB (fun j=>decide (j<i+k)) i l rs ⟨n,tm,Hp⟩).tm) args) (aB (fun j=>decide (j<i+k)) i l rs ⟨n,tm,Hp⟩).hp r.1.1
 |[],i,tm,Q,h=>⟨[],[],tm,rfl,fun _ _=>rfl,rfl,rfl,h,by simp⟩
 |o::l,i,tm,Q,h=>by
  obtain⟨cv,v,h1,h2,h3⟩:=h;obtain⟨BJ,rs,a7,k1,k2,k3,k4,k5,k6⟩:=AO.runs (n:=n) h3;have bn:St.fu ⟨n,tm,Hp⟩ o.dst v Hp=⟨n,sh tm o.dst v,Hp⟩:=by unfold St.fu sh;cases o.dst<;>rfl
  refine⟨cv::BJ,((v,none),lC (aX GL tm) o.op)::rs,a7,by simp[k1],fun qc R1=>?_,by simp only[tq];exact k3,?_,k5,fun k o' r ho hr f args cD hg=>?_ ⟩
  ·have e0:qc i=cv:=by simpa using R1 0 cv rfl
   simp only[mg,e0,h1,aZ,bn];rw[k2 qc fun j c hj=>by have:=R1 (j+1) c (by simpa using hj);rwa[show i+(j+1)=i+1+j by omega]at this]
  ·simp only[aB,aaH,aZ,bn];exact k4
  ·cases k with
    |zero=>simp only[ada,aaC]at ho hr;subst ho;subst hr;rw[oW _ _ _ _ _ (by omega)]at hg⊢;exact h2 f args cD hg
    |succ k=>
     simp only[adb]at ho hr;have e:i+(k+1)=i+1+k:=by omega
     have hs:aB (fun j=>decide (j<i+(k+1))) i (o::l) (((v,none),lC (aX GL tm) o.op)::rs) ⟨n,tm,Hp⟩=aB (fun j=>decide (j<i+1+k)) (i+1) l rs ⟨n,sh tm o.dst v,Hp⟩:=by simp only[aB,e,show decide (i<i+1+k)=true by simp;omega,aaH,aZ,bn]
     rw[hs]at hg⊢;exact k6 k o' r ho hr f args cD hg
theorem rM{m:Nat}:∀{rs:List ((V×Wr)×List Nat)},tq rs=true→dT m rs=true
 |[],_=>rfl
 |r::rs,h=>by
  simp only[tq]at h;split at h
  ·rename_i hr;simp only[dT,aa4,hr,bq,aa2];exact rM h
  ·cases h
theorem CG.gF(hm:P.follows .mixedOrders=true){l:List ad}{K:List Fr}{n:Nat}{tm:List (Nat×V)}{H:ai}{Q:Ex→St→Prop}(wO:(oh l&&eZ n l)=true)(hH:aH H.length H=true)(h:AO P GL H.length (H++List.replicate l.length none) 0 l tm (fun a7=>∃cw eU,cg cw a7=eU∧gx H.length eU=true∧CG P GL (.out .normal) K n eU H Q)):CG P GL (.code (.draw l)) K n tm H Q:=by
 rw[aaD]at wO;obtain⟨BJ,rs,a7,k1,k2,k3,k4,k5,k6⟩:=AO.runs (n:=n) h;have hw:WC P GL (.draw l) ⟨n,tm,H⟩ (fun e s=>e=.normal∧s=⟨n,a7,H++List.replicate l.length none⟩):=by
  refine WC.draw (σ:=⟨n,tm,H⟩) hm (qc:=fun i=>(BJ[i]? ).bind id) (rs:=rs) ?_ ?_ wO.2 (rM k3) (fun i o r ho hr f args cD hg=>?_ ) ?_
  ·exact k2 _ fun j c hj=>by simp[hj]
  ·simp only[c6,wO.1,k3,Bool.true_or,abk]
  ·have:=k6 i o r ho hr f args cD;simp only[aaU]at this;exact this hg
  ·refine⟨rfl,?_⟩;exact k4
 show WC P GL (.draw l) ⟨n,tm,H⟩ (KQ P GL K Q);refine WC.post (hw.mono ?_ );rintro e s ⟨rfl,rfl⟩;obtain⟨cw,eU,e1,e2,e3⟩:=k5;refine⟨⟨n,eU,H⟩,au.clean (cw:=cw) (aaQ _) ?_,e3⟩;unfold cf;simp only[e1,e2,ac8,hH,abk,aaH]
theorem AO.nil{base i:Nat}{Hp:ai}{l:List ad}{tm:List (Nat×V)}{Q:List (Nat×V)→Prop}(hl:l.length=0)(h:Q tm):AO P GL base Hp i l tm Q:=by
 cases l with
  |nil=>exact h
  |cons o l=>simp at hl
def BK(GL:cj)(base:Nat)(Hp:ai):Nat→Nat→List ad→List (Nat×V)→Option (List (Nat×V))
 |0,_,_,tm=>some tm
 |k+1,i,o::l,tm=>
  match bA o.op,ar o.guard tm with
   |some _,some true=>none
   |_,_=>
    match eX GL tm Hp (base+i) o none with
     |some (v,none)=>BK GL base Hp k (i+1) l (sh tm o.dst v)
     |_=>none
 |_+1,_,[],_=>none
theorem AO.run{base:Nat}{Hp:ai}{Q:List (Nat×V)→Prop}:∀(k:Nat){i:Nat}{l:List ad}{tm a7:List (Nat×V)},BK GL base Hp k i l tm=some a7→AO P GL base Hp (i+k) (l.drop k) a7 Q→AO P GL base Hp i l tm Q
 |0,_,_,_,_,h1,h2=>by simp only[BK,aaC]at h1;subst h1;exact h2
 |k+1,_,[],_,_,h1,_=>by simp[BK]at h1
 |k+1,i,o::l,tm,a7,h1,h2=>by
  have key:∀v,eX GL tm Hp (base+i) o none=some (v,none)→(∀f args,bA o.op=some (f,args)→ar o.guard tm≠some true)→BK GL base Hp k (i+1) l (sh tm o.dst v)=some a7→AO P GL base Hp i (o::l) tm Q:=by intro v e1 e2 e3;exact⟨none,v,e1,fun f args hc hg=>absurd hg (e2 f args hc),AO.run k e3 (by rw[show i+1+k=i+(k+1) by omega];exact h2)⟩
  unfold BK at h1;split at h1
  ·cases h1
  ·rename_i vA;split at h1
   ·rename_i v hv;refine key v hv (fun f args hc hg=>?_ ) h1;exact vA _ hc hg
   ·cases h1
theorem AO.head{base i:Nat}{Hp:ai}{o:ad}{l:List ad}{tm:List (Nat×V)}{Q:List (Nat×V)→Prop}(ho:l.head?=some o)(h:AO P GL base Hp i (o::l.drop 1) tm Q):AO P GL base Hp i l tm Q:=by
 cases l with
  |nil=>simp at ho
  |cons o' l=>simp only[List.head?_cons,aaC]at ho;subst ho;exact h
theorem AO.iL{base i d:Nat}{Hp:ai}{op:kI}{g:Option (Nat×Bool)}{af:List Nat}{l:List ad}{tm:List (Nat×V)}{Q:List (Nat×V)→Prop}{v:V}(ho:l.head?=some ⟨some d,op,g,af⟩)(hg:ar g tm=some true)(hc:bA op=none)(he:bw (aX GL tm) Hp (base+i) op=some (v,none))(hq:AO P GL base Hp (i+1) (l.drop 1) (put tm d v) Q):AO P GL base Hp i l tm Q:=by
 refine AO.head ho ⟨none,v,?_,fun f args h=>?_,hq⟩
 ·simp only[eX,hg,hc,he]
 ·simp only at h;rw[hc]at h;cases h
theorem AO.idx{base i d:Nat}{Hp:ai}{g:Option (Nat×Bool)}{af:List Nat}{l:List ad}{tm:List (Nat×V)}{Q:List (Nat×V)→Prop}{sz:Nat}{x k:ba}{es:List (List D)}{j:Nat}{e:List D}(he:es[j]? =some e)(ho:l.head?=some ⟨some d,.de sz x k,g,af⟩)(hg:ar g tm=some true)(hx:aX GL tm x=.d (.list es))(hi:dC (aX GL tm k)=some j)(hd:Nat.beq e.length sz=true)(hq:AO P GL base Hp (i+1) (l.drop 1) (put tm d (.ct e)) Q):AO P GL base Hp i l tm Q:=AO.iL ho hg rfl (by simp only[bw,hx,hi,he,hd,aaH]) hq
theorem AO.gM{base i d:Nat}{Hp:ai}{g:Option (Nat×Bool)}{af:List Nat}{l:List ad}{tm:List (Nat×V)}{Q:List (Nat×V)→Prop}{x k:ba}{s:List UInt8}{j:Nat}{b:UInt8}(he:s[j]? =some b)(ho:l.head?=some ⟨some d,.gM x k,g,af⟩)(hg:ar g tm=some true)(hx:aX GL tm x=.d (.str s))(hi:dC (aX GL tm k)=some j)(hq:AO P GL base Hp (i+1) (l.drop 1) (put tm d (.d (.int .u8 b.toNat))) Q):AO P GL base Hp i l tm Q:=AO.iL ho hg rfl (by simp only[bw,hx,hi,he]) hq
theorem AO.H7{α:Type}(aa:α→List D)(as:List α){base i d:Nat}{Hp:ai}{g:Option (Nat×Bool)}{af:List Nat}{l:List ad}{tm:List (Nat×V)}{Q:List (Nat×V)→Prop}{sz b:Nat}{x:ba}(cB:∀a,(aa a).length=sz)(ho:l.head?=some ⟨some d,.len .slice x,g,af⟩)(hg:ar g tm=some true)(hx:aX GL tm x=.sl b (as.length*sz) 0 as.length sz)(hH:aE Hp b=some (aM aa as))(hq:AO P GL base Hp (i+1) (l.drop 1) (put tm d (.d (.int .i64 (.ofNat as.length)))) Q):AO P GL base Hp i l tm Q:=AO.iL ho hg rfl (by simp only[bw,hx,zB cB hH];rfl) hq
theorem AO.Qn{α:Type}(aa:α→List D)(as:List α)(p q:Nat){base i d:Nat}{Hp:ai}{g:Option (Nat×Bool)}{af:List Nat}{l:List ad}{tm:List (Nat×V)}{Q:List (Nat×V)→Prop}{sz:Nat}{x:ba}{lo hi:Option ba}(cB:∀a,(aa a).length=sz)(ho:l.head?=some ⟨some d,.fK sz x lo hi,g,af⟩)(hg:ar g tm=some true)(hx:aX GL tm x=.d (.list (as.map aa)))(jS:mj GL tm 0 lo=some p)(jw:mj GL tm (as.map aa).length hi=some q)(Dy:p≤q∧q≤as.length)(hq:AO P GL base Hp (i+1) (l.drop 1) (put tm d (.d (.list (((as.take q).drop p).map aa)))) Q):AO P GL base Hp i l tm Q:=by
 have jA:(as.map aa).all (fun e=>Nat.beq e.length sz)=true:=by rw[aaR];intro e he;obtain⟨a,_,rfl⟩:=aa8.1 he;rw[cB a,aa0]
 have hb:bounds (aX GL tm) (as.map aa).length lo hi=some (p,q):=jl jS jw Dy.1 (by rw[aaW];exact Dy.2);refine AO.iL ho hg rfl (v:=.d (.list (((as.take q).drop p).map aa))) ?_ hq;simp only[bw,hx,jA,aaH,hb,aaV,acV,acT]
theorem AO.Qo(p q:Nat){base i d:Nat}{Hp:ai}{g:Option (Nat×Bool)}{af:List Nat}{l:List ad}{tm:List (Nat×V)}{Q:List (Nat×V)→Prop}{x:ba}{s:List UInt8}{lo hi:Option ba}(ho:l.head?=some ⟨some d,.lr x lo hi,g,af⟩)(hg:ar g tm=some true)(hx:aX GL tm x=.d (.str s))(jS:mj GL tm 0 lo=some p)(jw:mj GL tm s.length hi=some q)(Dy:p≤q∧q≤s.length)(hq:AO P GL base Hp (i+1) (l.drop 1) (put tm d (.d (.str ((s.take q).drop p)))) Q):AO P GL base Hp i l tm Q:=by have hb:bounds (aX GL tm) s.length lo hi=some (p,q):=jl jS jw Dy.1 Dy.2;refine AO.iL ho hg rfl (v:=.d (.str ((s.take q).drop p))) ?_ hq;simp only[bw,hx,hb,aaV]
theorem AO.kL{base i d:Nat}{Hp:ai}{g:Option (Nat×Bool)}{af:List Nat}{l:List ad}{tm:List (Nat×V)}{Q:List (Nat×V)→Prop}{f:FuncId}{args:List ba}{vs:List V}{v:V}(h:PC P GL f vs v)(ho:l.head?=some ⟨some d,.call f args,g,af⟩)(hg:ar g tm=some true)(ha:bh (aX GL tm) args=vs)(hq:AO P GL base Hp (i+1) (l.drop 1) (put tm d v) Q):AO P GL base Hp i l tm Q:=by
 subst ha;refine AO.head ho ⟨some v,v,?_,fun f' R2 hc _=>?_,hq⟩
 ·simp only[eX,hg,bA,aaV]
 ·simp only[bA,aaC,aaF]at hc;obtain⟨rfl,rfl⟩:=hc;exact h.rF
theorem AO.done{base i:Nat}{Hp:ai}{l:List ad}{tm eU:List (Nat×V)}{m n:Nat}{K:List Fr}{H:ai}{Q:Ex→St→Prop}(cw:List Nat)(hl:l.length=0)(e1:cg cw tm=eU)(e2:gx m eU=true)(hq:CG P GL (.out .normal) K n eU H Q):AO P GL base Hp i l tm (fun a7=>∃cw eU,cg cw a7=eU∧gx m eU=true∧CG P GL (.out .normal) K n eU H Q):=AO.nil hl ⟨cw,eU,e1,e2,hq⟩
end
end Fw
/-
  Own rows that are born as empty ones (and never nil), over open data; nil rows as data.
-/
namespace Fw
open Go
def du{α:Type}(aa:α→List D)(l:List α):eG:=.cells ((l.flatMap aa).map .d)
theorem dv{α:Type}(n:Nat)(aa:α→List D)(l:List α):cE n (du aa l)=true:=qL n _
section
variable {P:Program}{GL:cj}
theorem pI{H:ai}{ns sz bytes b len k:Nat}{cs xs:List V}(h0:0<sz)(hH:aE H b=some (.cells cs))(hl:cs.length=len*sz)(hk:xs.length=k*sz)(hx:xs.all dO=true)(hr:(len+k)*sz*(bytes+1)≤cy):cM H ns sz bytes (.sl b (len*sz) 0 len sz) xs=some (.sl b ((len+k)*sz) 0 (len+k) sz,some (b,.cells (cs++xs))):=by
 have h1:Nat.beq sz 0=false:=cG (by omega);have h2:Nat.beq (xs.length%sz) 0=true:=by rw[hk,Nat.mul_mod_left];rfl
 have u3:xs.length / sz=k:=by rw[hk,aci _ h0]
 have BG:len*sz+xs.length=(len+k)*sz:=by rw[hk,abu]
 have hb:Nat.ble ((len+k)*sz*(bytes+1)) cy=true:=by rw[ab8];exact hr
 unfold cM;simp only[h1,h2,hx,abp,aaX,aa0,aaH,hH,hl,aa2,acU,BG,hb,u3]
theorem CG.BL{α:Type}(aa:α→List D)(as ys:List α){d:Nat}{g:Option (Nat×Bool)}{af:List Nat}{l:List ad}{K:List Fr}{n:Nat}{tm:List (Nat×V)}{H H':ai}{Q:Ex→St→Prop}{sz bytes b:Nat}{x y:ba}(cB:∀a,(aa a).length=sz)(h0:Nat.blt 0 sz=true)(ho:l.head?=some ⟨some d,.append sz bytes x y,g,af⟩)(hg:ar g tm=some true)(hx:aX GL tm x=.sl b (as.length*sz) 0 as.length sz)(hH:aE H b=some (du aa as))(hy:cF H sz (aX GL tm y)=some ((ys.flatMap aa).map .d))(hr:(as.length+ys.length)*sz*(bytes+1)≤1099511627776)(hd:Nat.blt d n=true)(RX:bn H b (du aa (as++ys))=H')(hq:CG P GL (.ops (l.drop 1)) K n (put tm d (.sl b ((as++ys).length*sz) 0 (as++ys).length sz)) H' Q):CG P GL (.ops l) K n tm H Q:=by
 have Ot:0<sz:=by simpa[aaT]using h0
 have e1:=pI (H:=H) (ns:=H.length) (sz:=sz) (bytes:=bytes) (b:=b) (len:=as.length) (k:=ys.length) (cs:=(as.flatMap aa).map .d) (xs:=(ys.flatMap aa).map .d) Ot hH (by simp[ch cB]) (by simp[ch cB]) (by simp[dO]) (by simpa[cy]using hr);refine CG.iL ho hg (v:=.sl b ((as++ys).length*sz) 0 (as++ys).length sz) (wr:=some (b,.cells ((as.flatMap aa).map .d++(ys.flatMap aa).map .d))) ?_ ?_ hd hq
 ·simp only[bw,hy,hx,e1,aa1]
 ·rw[←RX];simp only[aZ,du,abU,abW]
theorem vV{α:Type}{aa:α→List D}{H:ai}{b:Nat}{l:List α}(h:aE H b=some (du aa l)):sb H b=some (l.flatMap aa):=by unfold sb;rw[h];unfold du;exact tU _
theorem au.H8{α:Type}(aa:α→List D)(as:List α){m n sz:Nat}{tm a7:List (Nat×V)}{H H':ai}(b s:Nat)(cB:∀a,(aa a).length=sz)(hs:get tm s=.sl b (as.length*sz) 0 as.length sz)(hH:aE H b=some (du aa as))(vA:qJ b 0 H)(e1:put (qK b tm) s (.d (.list (as.map aa)))=a7)(e2:H.set b none=H'):au m ⟨n,tm,H⟩ ⟨n,a7,H'⟩:=by
 intro GL g w a hr;have hf:=oU (ds:=as.flatMap aa) H 0 vA;rw[aaP (acb _),ach]at hf;have Oo:j_ b ⟨n,tm,H⟩=some ⟨n,tm.map fun p=>(p.1,bP b (as.flatMap aa) p.2),H'⟩:=by unfold j_;rw[vV hH];simp only[hf];rw[pH (nF hr.heap),aaH,e2]
 refine(au.trans (au.oe Oo) (au.kZ fun t=>?_ )) GL g w a hr;subst e1;rw[lB (bP b (as.flatMap aa)) (by simp only[bP]),np];by_cases ht:t=s
 ·subst ht;rw[aaP rfl,hs];left;have hle:Nat.ble (0+as.length*sz) (as.length*sz)=true:=by rw[ab8];omega
  simp only[bP,aa0,aaH,ch cB,hle,abk,abZ,ij cB]
 ·rw[aaL ht,lK];cases hn:fG b (get tm t)with
   |true=>left;rw[aaH,e_ _ hn]
   |false=>right;rfl
theorem vW{H:ai}{b h off len sz j:Nat}(hl:ef H b h=true)(hj:j<len){GL:cj}{tm:List (Nat×V)}{x i:ba}(hx:aX GL tm x=.sl b h off len sz)(hi:dC (aX GL tm i)=some j)(ns:Nat):bw (aX GL tm) H ns (.de sz x i)=some (.ptr b h (off+j*sz),none):=by
 have:Nat.blt j len=true:=by rw[aaT];exact hj
 simp only[bw,hi,hx,aa0,this,hl,abk,aaH]
end
end Fw
/-
  Boxes behind the last one that anybody speaks of are dropped.
-/
namespace Fw
open Go
theorem zC{k:Nat}(h:k<9223372036854775808):aO .i64 (Int.ofNat (k+1) - 1)=Int.ofNat k:=by rw[gA,IntKind.wrap_i64];simp only[abI];omega
theorem nG{k:Nat}(h:k<9223372036854775808):IntKind.wrap .i64 (Int.ofNat (k+1) - 1)=Int.ofNat k:=by rw[IntKind.wrap_i64];simp only[abI];omega
theorem aN(n:Nat)(cs:List V):cE n (.cells cs)=an n cs:=rfl
theorem fX(n:Nat):cE n .nil=true:=rfl
theorem au.trim{m n:Nat}{tm:List (Nat×V)}{H H':ai}(p:Nat)(cw:List Nat)(hm:Nat.ble m p=true)(hk:cg cw tm=tm)(ht:gx p tm=true)(e:H.take p=H')(hh:aH p H'=true):au m ⟨n,tm,H⟩ ⟨n,tm,H'⟩:=by refine au.clean (cw:=cw) (aaM hm) ?_;unfold cf;simp only[hk,e,ht,hh,abk,aaH]
section
variable {P:Program}{GL:cj}
theorem LQ.ret{K:List Fr}{Q:Ex→St→Prop}{R:St→Prop}{s:St}(h:Q .ret s):LQ P GL K Q R .ret s:=KQ.ret h
theorem sg.ret{rs:List iZ}{R:V→ai→Prop}{v':V}{σ:St}(h:fq rs σ=some v')(e:R v' σ.hp):sg rs R .ret σ:=⟨v',h,e⟩
end
end Fw
/-
  A block whose last operations run: its end is the code's end.
-/
namespace Fw
open Go
variable {P:Program}{GL:cj}
theorem CG.R3{l:List ad}{id n:Nat}{K:List Fr}{tm:List (Nat×V)}{H:ai}{Q:Ex→St→Prop}(h:CG P GL (.ops l) K n tm H Q):CG P GL (.ops l) (.block id::K) n tm H Q:=h
end Fw
/-
  Drawn regions that write, walked operation by operation; that the order is free is checked at the end.
-/
namespace Fw
open Go
abbrev RS:=List ((V×Wr)×List Nat)
def AW(P:Program)(GL:cj)(base:Nat):Nat→List ad→List (Nat×V)→ai→(RS→List (Nat×V)→ai→Prop)→Prop|_,[],tm,H,Q=>Q [] tm H|i,o::l,tm,H,Q=>∃cv v wr,eX GL tm H (base+i) o cv=some (v,wr)∧(∀f args,bA o.op=some (f,args)→ar o.guard tm=some true→gU P GL f (bh (aX GL tm) args) H v)∧AW P GL base (i+1) l (sh tm o.dst v) (aZ H wr) (fun rs t k=>Q (((v,wr),lC (aX GL tm) o.op)::rs) t k)
section
variable {P:Program}{GL:cj}
theorem AW.runs{base n:Nat}:∀{l:List ad}{i:Nat}{tm:List (Nat×V)}{H:ai}{Q:RS→List (Nat×V)→ai→Prop},AW P GL base i l tm H Q→∃(BJ:List (Option V))(rs:RS)(a7:List (Nat×V))(H':ai),BJ.length=l.length∧(∀qc:Nat→Option V,(∀j c,BJ[j]? =some c→qc (i+j)=c)→mg GL base qc i l ⟨n,tm,H⟩=some rs)∧aB (fun _=>true) i l rs ⟨n,tm,H⟩=⟨n,a7,H'⟩∧Q rs a7 H'∧∀k o r,l[k]? =some o→rs[k]? =some r→∀f args,bA o.op=some (f,args)→ar o.guard (aB (fun j=>decide (j<i+k)) i l rs ⟨n,tm,H⟩).tm=some true→gU P GL f (bh (aX GL (aB (fun j=>decide (j<i+k)) i l rs ⟨n,tm,H⟩).tm) args) (aB (fun j=>decide (j<i+k)) i l rs ⟨n,tm,H⟩).hp r.1.1
 |[],i,tm,H,Q,h=>⟨[],[],tm,H,rfl,fun _ _=>rfl,rfl,h,by simp⟩
 |o::l,i,tm,H,Q,h=>by
  obtain⟨cv,v,wr,h1,h2,h3⟩:=h;obtain⟨BJ,rs,a7,H',k1,k2,k4,k5,k6⟩:=AW.runs (n:=n) h3;have bn:St.fu ⟨n,tm,H⟩ o.dst v (aZ H wr)=⟨n,sh tm o.dst v,aZ H wr⟩:=by unfold St.fu sh;cases o.dst<;>rfl
  refine⟨cv::BJ,((v,wr),lC (aX GL tm) o.op)::rs,a7,H',by simp[k1],fun qc R1=>?_,?_,k5,fun k o' r ho hr f args cD hg=>?_ ⟩
  ·have e0:qc i=cv:=by simpa using R1 0 cv rfl
   simp only[mg,e0,h1,bn];rw[k2 qc fun j c hj=>by have:=R1 (j+1) c (by simpa using hj);rwa[show i+(j+1)=i+1+j by omega]at this]
  ·simp only[aB,aaH,bn];exact k4
  ·cases k with
    |zero=>simp only[ada,aaC]at ho hr;subst ho;subst hr;rw[oW _ _ _ _ _ (by omega)]at hg⊢;exact h2 f args cD hg
    |succ k=>
     simp only[adb]at ho hr;have e:i+(k+1)=i+1+k:=by omega
     have hs:aB (fun j=>decide (j<i+(k+1))) i (o::l) (((v,wr),lC (aX GL tm) o.op)::rs) ⟨n,tm,H⟩=aB (fun j=>decide (j<i+1+k)) (i+1) l rs ⟨n,sh tm o.dst v,aZ H wr⟩:=by simp only[aB,e,show decide (i<i+1+k)=true by simp;omega,aaH,bn]
     rw[hs]at hg⊢;exact k6 k o' r ho hr f args cD hg
theorem CG.n8(hm:P.follows .mixedOrders=true){l:List ad}{K:List Fr}{n:Nat}{tm:List (Nat×V)}{H:ai}{Q:Ex→St→Prop}(wO:eZ n l=true)(h:AW P GL H.length 0 l tm (H++List.replicate l.length none) (fun rs a7 H'=>(c6 l rs&&dT (H.length+l.length) rs)=true∧∃eU H2,au H.length ⟨n,a7,H'⟩ ⟨n,eU,H2⟩∧CG P GL (.out .normal) K n eU H2 Q)):CG P GL (.code (.draw l)) K n tm H Q:=by
 obtain⟨BJ,rs,a7,H',k1,k2,k4,⟨k5,k7⟩,k6⟩:=AW.runs (n:=n) h;rw[aaD]at k5;have hw:WC P GL (.draw l) ⟨n,tm,H⟩ (fun e s=>e=.normal∧s=⟨n,a7,H'⟩):=by
  refine WC.draw (σ:=⟨n,tm,H⟩) hm (qc:=fun i=>(BJ[i]? ).bind id) (rs:=rs) ?_ k5.1 wO k5.2 (fun i o r ho hr f args cD hg=>?_ ) ?_
  ·exact k2 _ fun j c hj=>by simp[hj]
  ·have:=k6 i o r ho hr f args cD;simp only[aaU]at this;exact this hg
  ·exact⟨rfl,k4⟩
 show WC P GL (.draw l) ⟨n,tm,H⟩ (KQ P GL K Q);refine WC.post (hw.mono ?_ );rintro e s ⟨rfl,rfl⟩;obtain⟨eU,H2,e1,e3⟩:=k7;exact⟨⟨n,eU,H2⟩,e1,e3⟩
theorem AW.head{base i:Nat}{o:ad}{l:List ad}{tm:List (Nat×V)}{H:ai}{Q:RS→List (Nat×V)→ai→Prop}(ho:l.head?=some o)(h:AW P GL base i (o::l.drop 1) tm H Q):AW P GL base i l tm H Q:=by
 cases l with
  |nil=>simp at ho
  |cons o' l=>simp only[List.head?_cons,aaC]at ho;subst ho;exact h
theorem AW.nil{base i:Nat}{l:List ad}{tm:List (Nat×V)}{H:ai}{Q:RS→List (Nat×V)→ai→Prop}(hl:l.length=0)(h:Q [] tm H):AW P GL base i l tm H Q:=by
 cases l with
  |nil=>exact h
  |cons o l=>simp at hl
def qM(GL:cj)(base:Nat):Nat→Nat→List ad→List (Nat×V)→ai→Option (RS×List (Nat×V)×ai)
 |0,_,_,tm,H=>some ([],tm,H)
 |k+1,i,o::l,tm,H=>
  match bA o.op,ar o.guard tm with
   |some _,some true=>none
   |_,_=>
    match eX GL tm H (base+i) o none with
     |some (v,wr)=>
      match qM GL base k (i+1) l (sh tm o.dst v) (aZ H wr)with
       |some (rs,t,h)=>some (((v,wr),lC (aX GL tm) o.op)::rs,t,h)
       |none=>none
     |none=>none
 |_+1,_,[],_,_=>none
theorem AW.run{base:Nat}:∀(k:Nat){i:Nat}{l:List ad}{tm a7:List (Nat×V)}{H H':ai}{rs:RS}{Q:RS→List (Nat×V)→ai→Prop},qM GL base k i l tm H=some (rs,a7,H')→AW P GL base (i+k) (l.drop k) a7 H' (fun r t h=>Q (rs++r) t h)→AW P GL base i l tm H Q
 |0,_,_,_,_,_,_,_,_,h1,h2=>by simp only[qM,aaC,aaF]at h1;obtain⟨rfl,rfl,rfl⟩:=h1;exact h2
 |k+1,_,[],_,_,_,_,_,_,h1,_=>by simp[qM]at h1
 |k+1,i,o::l,tm,a7,H,H',rs,Q,h1,h2=>by
  have key:∀v wr,eX GL tm H (base+i) o none=some (v,wr)→(∀f args,bA o.op=some (f,args)→ar o.guard tm≠some true)→(∃R4,rs=((v,wr),lC (aX GL tm) o.op)::R4∧qM GL base k (i+1) l (sh tm o.dst v) (aZ H wr)=some (R4,a7,H'))→AW P GL base i (o::l) tm H Q:=by rintro v wr e1 e2 ⟨R4,rfl,e3⟩;exact⟨none,v,wr,e1,fun f args hc hg=>absurd hg (e2 f args hc),AW.run k e3 (by rw[show i+1+k=i+(k+1) by omega];exact h2)⟩
  unfold qM at h1;split at h1
  ·cases h1
  ·rename_i vA;split at h1
   ·rename_i v wr hv;split at h1
    ·rename_i R4 t h hr;simp only[aaC,aaF]at h1;obtain⟨rfl,rfl,rfl⟩:=h1;exact key v wr hv (fun f args hc hg=>vA _ hc hg) ⟨R4,rfl,hr⟩
    ·cases h1
   ·cases h1
theorem AW.iL{base i d:Nat}{op:kI}{g:Option (Nat×Bool)}{af:List Nat}{l:List ad}{tm:List (Nat×V)}{H:ai}{Q:RS→List (Nat×V)→ai→Prop}{v:V}{wr:Wr}(ho:l.head?=some ⟨some d,op,g,af⟩)(hg:ar g tm=some true)(hc:bA op=none)(he:bw (aX GL tm) H (base+i) op=some (v,wr))(hq:AW P GL base (i+1) (l.drop 1) (put tm d v) (aZ H wr) (fun rs t k=>Q (((v,wr),lC (aX GL tm) op)::rs) t k)):AW P GL base i l tm H Q:=by
 refine AW.head ho ⟨none,v,wr,?_,fun f args h=>?_,hq⟩
 ·simp only[eX,hg,hc,he]
 ·simp only at h;rw[hc]at h;cases h
theorem AW.idx{base i d:Nat}{g:Option (Nat×Bool)}{af:List Nat}{l:List ad}{tm:List (Nat×V)}{H:ai}{Q:RS→List (Nat×V)→ai→Prop}{sz:Nat}{x k:ba}{es:List (List D)}{j:Nat}{e:List D}(he:es[j]? =some e)(ho:l.head?=some ⟨some d,.de sz x k,g,af⟩)(hg:ar g tm=some true)(hx:aX GL tm x=.d (.list es))(hi:dC (aX GL tm k)=some j)(hd:Nat.beq e.length sz=true)(hq:AW P GL base (i+1) (l.drop 1) (put tm d (.ct e)) H (fun rs t k=>Q (((.ct e,none),[])::rs) t k)):AW P GL base i l tm H Q:=AW.iL (v:=.ct e) (wr:=none) ho hg rfl (by simp only[bw,hx,hi,he,hd,aaH]) (by simp only[lC,hx];exact hq)
theorem AW.kL{base i d:Nat}{g:Option (Nat×Bool)}{af:List Nat}{l:List ad}{tm:List (Nat×V)}{H:ai}{Q:RS→List (Nat×V)→ai→Prop}{f:FuncId}{args:List ba}{vs:List V}{v:V}(h:PC P GL f vs v)(ho:l.head?=some ⟨some d,.call f args,g,af⟩)(hg:ar g tm=some true)(ha:bh (aX GL tm) args=vs)(hq:AW P GL base (i+1) (l.drop 1) (put tm d v) H (fun rs t k=>Q (((v,none),lC (aX GL tm) (.call f args))::rs) t k)):AW P GL base i l tm H Q:=by
 subst ha;refine AW.head ho ⟨some v,v,none,?_,fun f' R2 hc _=>?_,hq⟩
 ·simp only[eX,hg,bA,aaV]
 ·simp only[bA,aaC,aaF]at hc;obtain⟨rfl,rfl⟩:=hc;exact h.rF
def Ov:Option (RS×List (Nat×V)×ai)→RS|some x=>x.1|none=>[]
theorem AW.runK{base:Nat}(k:Nat){i:Nat}{l:List ad}{tm a7:List (Nat×V)}{H H':ai}{Q:RS→List (Nat×V)→ai→Prop}(h1:(qM GL base k i l tm H).map (fun x=>x.2)=some (a7,H'))(h2:AW P GL base (i+k) (l.drop k) a7 H' (fun r t h=>Q (Ov (qM GL base k i l tm H)++r) t h)):AW P GL base i l tm H Q:=by
 cases hr:qM GL base k i l tm H with
  |none=>rw[hr]at h1;cases h1
  |some x=>obtain⟨rs,t,h⟩:=x;rw[hr]at h1 h2;simp only[aaV,aaC,aaF]at h1;obtain⟨rfl,rfl⟩:=h1;exact AW.run k hr h2
theorem AW.fin{m n:Nat}{K:List Fr}{tm eU:List (Nat×V)}{H H2:ai}{Q:Ex→St→Prop}(p:Nat)(cw:List Nat)(hm:Nat.ble m p=true)(e1:cg cw tm=eU)(e2:gx p eU=true)(e3:H.take p=H2)(e4:aH p H2=true)(h:CG P GL (.out .normal) K n eU H2 Q):∃eU H2,au m ⟨n,tm,H⟩ ⟨n,eU,H2⟩∧CG P GL (.out .normal) K n eU H2 Q:=by refine⟨eU,H2,au.clean (cw:=cw) (aaM hm) ?_,h⟩;unfold cf;simp only[e1,e2,e3,e4,abk,aaH]
end
end Fw
/-
  An element appended to an own row in a drawn region that writes.
-/
namespace Fw
open Go
theorem pJ{H:ai}{ns sz bytes b len k:Nat}{cs xs:List V}(h0:0<sz)(hH:aE H b=some (gf cs))(hl:cs.length=len*sz)(hk:xs.length=k*sz)(hx:xs.all dO=true)(hr:(len+k)*sz*(bytes+1)≤cy)(et:xs≠[]):cM H ns sz bytes (.sl b (len*sz) 0 len sz) xs=some (.sl b ((len+k)*sz) 0 (len+k) sz,some (b,.cells (cs++xs))):=by
 have h1:Nat.beq sz 0=false:=cG (by omega);have h2:Nat.beq (xs.length%sz) 0=true:=by rw[hk,Nat.mul_mod_left];rfl
 have u3:xs.length / sz=k:=by rw[hk,aci _ h0]
 have BG:len*sz+xs.length=(len+k)*sz:=by rw[hk,abu]
 have hb:Nat.ble ((len*sz+xs.length)*(bytes+1)) cy=true:=by rw[ab8,BG];exact hr
 unfold cM;simp only[h1,h2,hx,abp,aaX,aa0,aaH,hH];cases cs with
  |nil=>
   have hlen:len=0:=by
    simp only[abl]at hl;rcases ack.1 hl.symm with h|h
    ·exact h
    ·omega
   subst hlen;simp only[gf,acS,aaH,adG,aa0,abk,abV];cases xs with
    |nil=>exact absurd rfl et
    |cons x xs=>
     have hb:Nat.ble (k*sz*(bytes+1)) cy=true:=by rw[ab8];simpa using hr
     simp only[hk,hb,aaH,aaU,aci _ h0]
  |cons c cs=>
   have H9:Nat.beq (c::cs).length (len*sz)=true:=by rw[hl];exact aa0 _
   simp only[gf,acd,aaX,H9,aa0,abk,aaH,u3,BG];rw[BG]at hb;rw[hb];rfl
section
variable {P:Program}{GL:cj}
theorem AW.MX{α:Type}(aa:α→List D)(as:List α)(y:α){base i d:Nat}{g:Option (Nat×Bool)}{af:List Nat}{l:List ad}{tm:List (Nat×V)}{H H':ai}{Q:RS→List (Nat×V)→ai→Prop}{sz bytes b:Nat}{x y':ba}(cB:∀a,(aa a).length=sz)(h0:Nat.blt 0 sz=true)(ho:l.head?=some ⟨some d,.append sz bytes x y',g,af⟩)(hg:ar g tm=some true)(hx:aX GL tm x=.sl b (as.length*sz) 0 as.length sz)(hH:aE H b=some (aM aa as))(hy:cF H sz (aX GL tm y')=some ((aa y).map .d))(hr:(as.length+1)*sz*(bytes+1)≤1099511627776)(RX:bn H b (aM aa (as++[y]))=H')(hq:AW P GL base (i+1) (l.drop 1) (put tm d (.sl b ((as++[y]).length*sz) 0 (as++[y]).length sz)) H' (fun rs t k=>Q (((.sl b ((as++[y]).length*sz) 0 (as++[y]).length sz,some (b,aM aa (as++[y]))),lC (aX GL tm) (.append sz bytes x y'))::rs) t k)):AW P GL base i l tm H Q:=by
 have Ot:0<sz:=by simpa[aaT]using h0
 have et:(aa y).map V.d≠[]:=by intro h;have:=adh List.length h;rw[aaW,cB y]at this;simp only[abl]at this;omega
 have e1:=pJ (H:=H) (ns:=base+i) (sz:=sz) (bytes:=bytes) (b:=b) (len:=as.length) (k:=1) (cs:=(as.flatMap aa).map .d) (xs:=(aa y).map .d) Ot hH (by simp[ch cB]) (by simp[cB]) (by simp[dO]) (by simpa[cy]using hr) et;have e2:aM aa (as++[y])=.cells ((as.flatMap aa).map .d++(aa y).map .d):=by
  unfold aM gf;simp only[abU,abW,ace,List.flatMap_nil,List.append_nil];have:((as.flatMap aa).map V.d++(aa y).map V.d).isEmpty=false:=by
   cases h:(as.flatMap aa).map V.d++(aa y).map V.d with
    |nil=>exact absurd (List.append_eq_nil_iff.1 h).2 et
    |cons a b=>rfl
  rw[this];rfl
 refine AW.iL (v:=.sl b ((as++[y]).length*sz) 0 (as++[y]).length sz) (wr:=some (b,aM aa (as++[y]))) ho hg rfl ?_ ?_
 ·simp only[bw,hy,hx,e1,aa1,ab_,e2]
 ·simp only[aZ,RX];exact hq
end
end Fw
/-
  A part of a row in a drawn region that writes.
-/
namespace Fw
open Go
section
variable {P:Program}{GL:cj}
theorem AW.Qn{α:Type}(aa:α→List D)(as:List α)(p q:Nat){base i d:Nat}{g:Option (Nat×Bool)}{af:List Nat}{l:List ad}{tm:List (Nat×V)}{H:ai}{Q:RS→List (Nat×V)→ai→Prop}{sz:Nat}{x:ba}{lo hi:Option ba}(cB:∀a,(aa a).length=sz)(ho:l.head?=some ⟨some d,.fK sz x lo hi,g,af⟩)(hg:ar g tm=some true)(hx:aX GL tm x=.d (.list (as.map aa)))(jS:mj GL tm 0 lo=some p)(jw:mj GL tm (as.map aa).length hi=some q)(Dy:p≤q∧q≤as.length)(hq:AW P GL base (i+1) (l.drop 1) (put tm d (.d (.list (((as.take q).drop p).map aa)))) H (fun rs t k=>Q (((.d (.list (((as.take q).drop p).map aa)),none),[])::rs) t k)):AW P GL base i l tm H Q:=by
 have jA:(as.map aa).all (fun e=>Nat.beq e.length sz)=true:=by rw[aaR];intro e he;obtain⟨a,_,rfl⟩:=aa8.1 he;rw[cB a,aa0]
 have hb:bounds (aX GL tm) (as.map aa).length lo hi=some (p,q):=jl jS jw Dy.1 (by rw[aaW];exact Dy.2);refine AW.iL (v:=.d (.list (((as.take q).drop p).map aa))) (wr:=none) ho hg rfl ?_ ?_
 ·simp only[bw,hx,jA,aaH,hb,aaV,acV,acT]
 ·simp only[lC,hx];exact hq
end
end Fw
/-
  Steps that tell of a state only what is new.
-/
namespace Fw
open Go
abbrev bo(b:Bool):V:=.d (.bool b)
abbrev io(k:Int):V:=.d (.int .i64 k)
abbrev no(n:Nat):V:=.d (.int .i64 (.ofNat n))
abbrev lo{α:Type}(f:α→List D)(l:List α):V:=.d (.list (l.map f))
abbrev so(s:List UInt8):V:=.d (.str s)
@[simp] theorem Qq(n:Nat)(b:Bool):aq n (bo b)=true:=rfl
@[simp] theorem Qr(n:Nat)(k:Int):aq n (io k)=true:=rfl
@[simp] theorem Qs(n k:Nat):aq n (no k)=true:=rfl
@[simp] theorem Qt{α:Type}(n:Nat)(f:α→List D)(l:List α):aq n (lo f l)=true:=rfl
@[simp] theorem Qu(n:Nat)(s:List UInt8):aq n (so s)=true:=rfl
def WY:Nat→List (Nat×V)→List (Nat×V)|_,[]=>[]|m,p::l=>bif Nat.beq (Nat.land m 1) 1 then p::WY (Nat.shiftRight m 1) l else WY (Nat.shiftRight m 1) l
def mq(m:Nat)(nw tm:List (Nat×V)):List (Nat×V):=nw.foldl (fun t p=>put t p.1 p.2) (WY m tm)
def Dz(l:List (Nat×eG))(H:ai):ai:=l.foldl (fun H p=>bn H p.1 p.2) H
theorem zz:(∀n:Nat,Int.ofNat n=(n:Int))∧(∀(α β:Type)(f:α→β)(l:List α),(l.map f).length=l.length)∧(∀(α:Type)(l r:List α),(l++r).length=l.length+r.length)∧(∀(α:Type)(a:α)(l:List α),(a::l).length=l.length+1)∧(∀α:Type,([]:List α).length=0)∧(∀(α:Type)(l:List α)(i:Nat),(l.take i).length=min i l.length)∧(∀(α:Type)(l:List α)(i:Nat),(l.drop i).length=l.length - i):=⟨fun _=>rfl,fun _ _ _ _=>aaW _,fun _ _ _=>aa1,fun _ _ _=>rfl,fun _=>rfl,fun _ _ _=>abw,fun _ _ _=>adi⟩
theorem eC(a b:Nat)(h:Int.ofNat a<Int.ofNat b:=by(try simp only[zz]at*)<;>omega):aP (Int.ofNat a) (Int.ofNat b)=true:=Oq h
theorem fw(a b:Nat)(h:Int.ofNat b≤Int.ofNat a:=by(try simp only[zz]at*)<;>omega):aP (Int.ofNat a) (Int.ofNat b)=false:=La h
theorem tEn(a b:Nat)(h:Int.ofNat a=Int.ofNat b:=by(try simp only[zz]at*)<;>omega):a_ (Int.ofNat a) (Int.ofNat b)=true:=RT h
theorem fEn(a b:Nat)(h:Int.ofNat a≠Int.ofNat b:=by(try simp only[zz]at*)<;>omega):a_ (Int.ofNat a) (Int.ofNat b)=false:=RU h
theorem ki{a b:Int}(h:a<b:=by(try simp only[zz]at*)<;>omega):aP a b=true:=Oq h
theorem lZ{a b:Int}(h:b≤a:=by(try simp only[zz]at*)<;>omega):aP a b=false:=La h
theorem nP{a b:Int}(h:a=b:=by(try simp only[zz]at*)<;>omega):a_ a b=true:=RT h
theorem mr{a b:Int}(h:a≠b:=by(try simp only[zz]at*)<;>omega):a_ a b=false:=RU h
abbrev bF:V:=.d (.bool false)
abbrev bT:V:=.d (.bool true)
abbrev i0:V:=.d (.int .i64 0)
abbrev sE:V:=.d (.str [])
abbrev tE:V:=.tuple []
section
variable {P:Program}{GL:cj}
theorem AO.rd{base:Nat}{Hp:ai}{Q:List (Nat×V)→Prop}(k:Nat)(nw:List (Nat×V)){i:Nat}{l:List ad}{tm:List (Nat×V)}(h1:BK GL base Hp k i l tm=some (nw.foldl (fun t p=>put t p.1 p.2) tm))(h2:AO P GL base Hp (i+k) (l.drop k) (nw.foldl (fun t p=>put t p.1 p.2) tm) Q):AO P GL base Hp i l tm Q:=AO.run k h1 h2
theorem AW.rd{base:Nat}(k:Nat)(nw:List (Nat×V)){i:Nat}{l:List ad}{tm:List (Nat×V)}{H H':ai}{Q:RS→List (Nat×V)→ai→Prop}(h1:(qM GL base k i l tm H).map (fun x=>x.2)=some (nw.foldl (fun t p=>put t p.1 p.2) tm,H'))(h2:AW P GL base (i+k) (l.drop k) (nw.foldl (fun t p=>put t p.1 p.2) tm) H' (fun r t h=>Q (Ov (qM GL base k i l tm H)++r) t h)):AW P GL base i l tm H Q:=AW.runK k h1 h2
theorem AW.rk{base:Nat}(k:Nat)(nw:List (Nat×V))(hd:List (Nat×eG)){i:Nat}{l:List ad}{tm:List (Nat×V)}{H:ai}{Q:RS→List (Nat×V)→ai→Prop}(h1:(qM GL base k i l tm H).map (fun x=>x.2)=some (nw.foldl (fun t p=>put t p.1 p.2) tm,Dz hd H))(h2:AW P GL base (i+k) (l.drop k) (nw.foldl (fun t p=>put t p.1 p.2) tm) (Dz hd H) (fun r t h=>Q (Ov (qM GL base k i l tm H)++r) t h)):AW P GL base i l tm H Q:=AW.runK k h1 h2
theorem CG.ix{d:Nat}{g:Option (Nat×Bool)}{af:List Nat}{l:List ad}{K:List Fr}{n:Nat}{tm:List (Nat×V)}{H:ai}{Q:Ex→St→Prop}{sz:Nat}{x i:ba}{es:List (List D)}{j:Nat}{e:List D}(he:es[j]? =some e)(ho:l.head?=some ⟨some d,.de sz x i,g,af⟩)(hc:(ar g tm,aX GL tm x,dC (aX GL tm i),Nat.blt d n&&Nat.beq e.length sz)=(some true,.d (.list es),some j,true))(hq:CG P GL (.ops (l.drop 1)) K n (put tm d (.ct e)) H Q):CG P GL (.ops l) K n tm H Q:=by simp only[aaF]at hc;exact CG.idx he ho hc.1 hc.2.1 hc.2.2.1 hc.2.2.2 hq
theorem CG.Qv{d:Nat}{g:Option (Nat×Bool)}{af:List Nat}{l:List ad}{K:List Fr}{n:Nat}{tm:List (Nat×V)}{H:ai}{Q:Ex→St→Prop}{x i:ba}{s:List UInt8}{j:Nat}{b:UInt8}(he:s[j]? =some b)(ho:l.head?=some ⟨some d,.gM x i,g,af⟩)(hc:(ar g tm,aX GL tm x,dC (aX GL tm i),Nat.blt d n)=(some true,.d (.str s),some j,true))(hq:CG P GL (.ops (l.drop 1)) K n (put tm d (.d (.int .u8 b.toNat))) H Q):CG P GL (.ops l) K n tm H Q:=by simp only[aaF]at hc;exact CG.gM he ho hc.1 hc.2.1 hc.2.2.1 hc.2.2.2 hq
theorem CG.pg{d:Nat}{g:Option (Nat×Bool)}{af:List Nat}{l:List ad}{K:List Fr}{n:Nat}{tm:List (Nat×V)}{H:ai}{Q:Ex→St→Prop}{f:FuncId}{args:List ba}{vs:List V}{v:V}(h:PC P GL f vs v)(ho:l.head?=some ⟨some d,.call f args,g,af⟩)(hc:(ar g tm,bh (aX GL tm) args,Nat.blt d n)=(some true,vs,true))(hq:CG P GL (.ops (l.drop 1)) K n (put tm d v) H Q):CG P GL (.ops l) K n tm H Q:=by simp only[aaF]at hc;exact CG.kL h ho hc.1 hc.2.1 hc.2.2 hq
theorem CG.EV{α:Type}(aa:α→List D)(as ys:List α){d:Nat}{g:Option (Nat×Bool)}{af:List Nat}{l:List ad}{K:List Fr}{n:Nat}{tm:List (Nat×V)}{H:ai}{Q:Ex→St→Prop}{sz bytes:Nat}{x y:ba}(b:Nat)(cB:∀a,(aa a).length=sz)(ho:l.head?=some ⟨some d,.append sz bytes x y,g,af⟩)(hc:(Nat.blt 0 sz,ar g tm,aX GL tm x,aE H b,Nat.blt d n)=(true,some true,.sl b (as.length*sz) 0 as.length sz,some (aM aa as),true))(hy:cF H sz (aX GL tm y)=some ((ys.flatMap aa).map .d))(hr:(as.length+ys.length)*sz*(bytes+1)≤1099511627776)(hq:CG P GL (.ops (l.drop 1)) K n (put tm d (.sl b ((as++ys).length*sz) 0 (as++ys).length sz)) (bn H b (aM aa (as++ys))) Q):CG P GL (.ops l) K n tm H Q:=by simp only[aaF]at hc;exact CG.RW aa as ys cB hc.1 ho hc.2.1 hc.2.2.1 hc.2.2.2.1 hy hr hc.2.2.2.2 rfl hq
theorem CG.Vq{α:Type}(aa:α→List D)(as ys:List α){d:Nat}{g:Option (Nat×Bool)}{af:List Nat}{l:List ad}{K:List Fr}{n:Nat}{tm:List (Nat×V)}{H:ai}{Q:Ex→St→Prop}{sz bytes:Nat}{x y:ba}(b:Nat)(cB:∀a,(aa a).length=sz)(ho:l.head?=some ⟨some d,.append sz bytes x y,g,af⟩)(hc:(Nat.blt 0 sz,ar g tm,aX GL tm x,aE H b,Nat.blt d n)=(true,some true,.sl b (as.length*sz) 0 as.length sz,some (du aa as),true))(hy:cF H sz (aX GL tm y)=some ((ys.flatMap aa).map .d))(hr:(as.length+ys.length)*sz*(bytes+1)≤1099511627776)(hq:CG P GL (.ops (l.drop 1)) K n (put tm d (.sl b ((as++ys).length*sz) 0 (as++ys).length sz)) (bn H b (du aa (as++ys))) Q):CG P GL (.ops l) K n tm H Q:=by simp only[aaF]at hc;exact CG.BL aa as ys cB hc.1 ho hc.2.1 hc.2.2.1 hc.2.2.2.1 hy hr hc.2.2.2.2 rfl hq
theorem sp(b:Bool){G:Prop}(t:b=true→G)(f:b=false→G):G:=(Bool.eq_false_or_eq_true b).elim t f
theorem zD(a b:Int){G:Prop}(t:aP a b=true→a<b→G)(f:aP a b=false→b≤a→G):G:=sp (aP a b) (fun h=>t h (ltT h)) (fun h=>f h (ltF h))
theorem gG(a b:Int){G:Prop}(t:a_ a b=true→a=b→G)(f:a_ a b=false→a≠b→G):G:=sp (a_ a b) (fun h=>t h (eqT h)) (fun h=>f h (eqF h))
theorem va(a b:Int){G:Prop}(t:(a==b)=true→a=b→G)(f:(a==b)=false→a≠b→G):G:=sp (a==b) (fun h=>t h (WU h)) (fun h=>f h (WV h))
theorem R5(p:Prop) [Decidable p] {G:Prop} (t:decide p=true→p→G) (f:decide p=false→¬p→G):G:=sp (decide p) (fun h=>t h (acK h)) (fun h=>f h (adt h))
theorem dh(a b:Nat){G:Prop}(t:aP (.ofNat a) (.ofNat b)=true→a<b→G)(f:aP (.ofNat a) (.ofNat b)=false→b≤a→G):G:=sp _ (fun h=>t h (Int.ofNat_lt.1 (ltT h))) (fun h=>f h (Int.ofNat_le.1 (ltF h)))
theorem iX(a b:Nat){G:Prop}(t:a_ (.ofNat a) (.ofNat b)=true→a=b→G)(f:a_ (.ofNat a) (.ofNat b)=false→a≠b→G):G:=sp _ (fun h=>t h (Int.ofNat_inj.1 (eqT h))) (fun h=>f h (fun e=>eqF h (adh _ e)))
end
end Fw
/-
  A nil row in a cell of a box, known as empty data from here on.
-/
namespace Fw
open Go
theorem au.zE{m n:Nat}{tm:List (Nat×V)}{H H':ai}(b j:Nat){cs:List V}(hb:aE H b=some (.cells cs))(hj:cs[j]? =some .ab)(e1:bn H b (.cells (cs.set j (.d (.list []))))=H'):au m ⟨n,tm,H⟩ ⟨n,tm,H'⟩:=by
 subst e1;intro GL g w a hr;have bS:=jZ hb;have hlen:(bn H b (.cells (cs.set j (.d (.list []))))).length=H.length:=eY bS;refine⟨g,⟨hr.defers,hr.size,hr.tmps,⟨fun c hc=>?_,fun c x hx=>?_,fun c y hy=>?_,hr.heap.inj,hr.heap.fo⟩,hr.eg⟩,fun g0 w0 _ h=>h⟩
 ·have:=hr.heap.cR c hc;simp only[hlen]at this⊢;exact this
 ·obtain⟨h1,y,h2,h3⟩:=hr.heap.live c x hx;refine⟨h1,?_⟩;show∃y,aE _ c=some y∧_;rw[eJ];by_cases hc:c=b
  ·subst hc;rw[aaP rfl];refine⟨_,rfl,?_⟩;rw[hb]at h2;simp only[aaC]at h2;subst h2;cases x with
    |cells aT cp cur=>
     simp only[RB]at h3⊢;obtain⟨r1,r2,r3,cc,e,r4,r5,r6⟩:=h3;refine⟨by simp[r1],?_,by simp[r3],cc,e,r4,r5,?_ ⟩
     ·rw[aaR]at r2⊢;intro v hv;rcases acq hv with h|h
      ·exact r2 v h
      ·subst h;rfl
     ·rw[ac0];refine aV.BI (cr.refl _ _) ?_ cs _ j hj r6;simp only[RV,Rd];exact Or.inl ⟨by trivial,Or.inl (by trivial)⟩
    |_=>simp only[RB]at h3
  ·rw[aaL hc];exact⟨y,h2,h3⟩
 ·rw[eJ]at hy;by_cases hc:c=b
  ·subst hc;obtain⟨x,hx⟩:=hr.heap.back c _ hb;exact⟨x,hx⟩
  ·rw[aaL hc]at hy;exact hr.heap.back c y hy
end Fw
/-
  Equality of two structs in a walk; the state told anew.
-/
namespace Fw
open Go
def tV(ks:List Nat)(tm:List (Nat×V)):List (Nat×V):=ks.map fun k=>(k,get tm k)
theorem zF(tm:List (Nat×V)):∀(ks:List Nat)(s:Nat),get (tV ks tm) s=get tm s∨get (tV ks tm) s=.any
 |[],s=>.inr rfl
 |k::ks,s=>by
  show get ((k,get tm k)::tV ks tm) s=_∨get ((k,get tm k)::tV ks tm) s=_;simp only[get];cases h:Nat.beq k s with
   |true=>left;rw[aaI h];rfl
   |false=>exact zF tm ks s
section
variable {P:Program}{GL:cj}
theorem CG.GD{d:Nat}{neg:Bool}{ks:List cJ}{x y:ba}{g:Option (Nat×Bool)}{af:List Nat}{l:List ad}{K:List Fr}{n:Nat}{tm:List (Nat×V)}{H:ai}{Q:Ex→St→Prop}{xs ys:List V}{r:Bool}(ho:l.head?=some ⟨some d,.GD neg ks x y,g,af⟩)(hc:(ar g tm,aX GL tm x,aX GL tm y,Nat.blt d n)=(some true,.agg xs,.agg ys,true))(he:jo ks xs ys=some r)(hq:CG P GL (.ops (l.drop 1)) K n (put tm d (.d (.bool (bif neg then !r else r)))) H Q):CG P GL (.ops l) K n tm H Q:=by simp only[aaF]at hc;exact CG.iL ho hc.1 (v:=.d (.bool (bif neg then !r else r))) (wr:=none) (by simp only[bw,hc.2.1,hc.2.2.1,he]) rfl hc.2.2.2 hq
theorem AO.GD{base i d:Nat}{Hp:ai}{neg:Bool}{ks:List cJ}{x y:ba}{g:Option (Nat×Bool)}{af:List Nat}{l:List ad}{tm:List (Nat×V)}{Q:List (Nat×V)→Prop}{xs ys:List V}{r:Bool}(ho:l.head?=some ⟨some d,.GD neg ks x y,g,af⟩)(hc:(ar g tm,aX GL tm x,aX GL tm y)=(some true,.agg xs,.agg ys))(he:jo ks xs ys=some r)(hq:AO P GL base Hp (i+1) (l.drop 1) (put tm d (.d (.bool (bif neg then !r else r)))) Q):AO P GL base Hp i l tm Q:=by simp only[aaF]at hc;exact AO.iL ho hc.1 rfl (v:=.d (.bool (bif neg then !r else r))) (by simp only[bw,hc.2.1,hc.2.2,he]) hq
theorem CG.is{cur:kJ}{K:List Fr}{n:Nat}{tm:List (Nat×V)}{H:ai}{Q:Ex→St→Prop}(a7:List (Nat×V))(H':ai)(h:(tm,H)=(a7,H'))(hq:CG P GL cur K n a7 H' Q):CG P GL cur K n tm H Q:=by obtain⟨rfl,rfl⟩:=Prod.mk.inj h;exact hq
theorem CG.cw{cur:kJ}(hc:Dx cur=false)(ks:List Nat){K:List Fr}{n:Nat}{tm:List (Nat×V)}{H:ai}{Q:Ex→St→Prop}(h:CG P GL cur K n (tV ks tm) H Q):CG P GL cur K n tm H Q:=CG.kZ hc (fun s=>zF tm ks s) h
theorem CG.H_{cur:kJ}{K:List Fr}{n:Nat}{tm:List (Nat×V)}{H:ai}{Q:Ex→St→Prop}(H':ai)(h:H=H')(hq:CG P GL cur K n tm H' Q):CG P GL cur K n tm H Q:=by subst h;exact hq
theorem AW.is{base i:Nat}{l:List ad}{tm:List (Nat×V)}{H:ai}{Q:RS→List (Nat×V)→ai→Prop}(a7:List (Nat×V))(H':ai)(h:(tm,H)=(a7,H'))(hq:AW P GL base i l a7 H' Q):AW P GL base i l tm H Q:=by obtain⟨rfl,rfl⟩:=Prod.mk.inj h;exact hq
end
end Fw
/-
  An own row of which other boxes speak, known as data from here on.
-/
namespace Fw
open Go
def vb(b:Nat)(yx new:V):List V→List V→Prop|[],[]=>True|v::vs,u::us=>((v=yx∧u=new)∨(fG b v=true∧u=v))∧vb b yx new vs us|_,_=>False
def jF(b:Nat)(yx new:V):Nat→ai→ai→Prop|_,[],[]=>True|i,x::H,y::H'=>((i=b∧y=none)∨(i≠b∧gC b x∧y=x)∨(i≠b∧∃cs us,x=some (.cells cs)∧y=some (.cells us)∧vb b yx new cs us))∧jF b yx new (i+1) H H'|_,_,_=>False
theorem zG{b:Nat}{ds:List D}{yx new:V}(ho:bP b ds yx=new):∀(cs us:List V),vb b yx new cs us→gN b ds cs=us
 |[],[],_=>by simp only[gN]
 |v::vs,u::us,h=>by
  simp only[vb]at h;simp only[gN,zG ho vs us h.2];rcases h.1 with⟨rfl,rfl⟩|⟨h1,rfl⟩
  ·rw[ho]
  ·rw[e_ _ h1]
 |[],_::_,h=>by simp only[vb]at h
 |_::_,[],h=>by simp only[vb]at h
theorem tW{b:Nat}{ds:List D}{yx new:V}(ho:bP b ds yx=new):∀(H H':ai)(i:Nat),jF b yx new i H H'→ff b ds i H=H'
 |[],[],_,_=>by simp only[ff]
 |x::H,y::H',i,h=>by
  simp only[jF]at h;simp only[ff,tW ho H H' (i+1) h.2];rcases h.1 with⟨rfl,rfl⟩|⟨h1,h2,rfl⟩|⟨h1,cs,us,rfl,rfl,h2⟩
  ·rw[aa0,aaH]
  ·rw[cG h1,aaX];cases y with
    |none=>rfl
    |some y=>rw[aaV,pG h2]
  ·rw[cG h1,aaX,aaV,eM,zG ho cs us h2]
 |[],_::_,_,h=>by simp only[jF]at h
 |_::_,[],_,h=>by simp only[jF]at h
theorem Ia{b:Nat}{yx new:V}(hn:dO new=true):∀(cs us:List V),vb b yx new cs us→cs.all dO=true→us.all dO=true
 |[],[],_,_=>rfl
 |v::vs,u::us,h,k=>by
  simp only[vb]at h;simp only[aa4,aaD]at k⊢;refine⟨?_,Ia hn vs us h.2 k.2⟩;rcases h.1 with⟨rfl,rfl⟩|⟨h1,rfl⟩
  ·exact hn
  ·exact k.1
 |[],_::_,h,_=>by simp only[vb]at h
 |_::_,[],h,_=>by simp only[vb]at h
theorem BM{b:Nat}{yx new:V}(hn:dO new=true):∀(H H':ai)(i:Nat),jF b yx new i H H'→H.all fD=true→H'.all fD=true
 |[],[],_,_,_=>rfl
 |x::H,y::H',i,h,k=>by
  simp only[jF]at h;simp only[aa4,aaD]at k⊢;refine⟨?_,BM hn H H' (i+1) h.2 k.2⟩;rcases h.1 with⟨rfl,rfl⟩|⟨h1,h2,rfl⟩|⟨h1,cs,us,rfl,rfl,h2⟩
  ·rfl
  ·exact k.1
  ·exact Ia hn cs us h2 k.1
 |[],_::_,_,h,_=>by simp only[jF]at h
 |_::_,[],_,h,_=>by simp only[jF]at h
theorem au.Lb{α:Type}(aa:α→List D)(as:List α){m n sz:Nat}{tm a7:List (Nat×V)}{H H':ai}(b:Nat)(cB:∀a,(aa a).length=sz)(hH:aE H b=some (aM aa as))(hr:jF b (.sl b (as.length*sz) 0 as.length sz) (.d (.list (as.map aa))) 0 H H')(e1:qK b tm=a7):au m ⟨n,tm,H⟩ ⟨n,a7,H'⟩:=by
 intro GL g w a vz;have hle:Nat.ble (0+as.length*sz) (as.length*sz)=true:=by rw[ab8];omega
 have ho:bP b (as.flatMap aa) (.sl b (as.length*sz) 0 as.length sz)=.d (.list (as.map aa)):=by simp only[bP,aa0,aaH,ch cB,hle,abk,abZ,ij cB]
 have hf:=tW ho H H' 0 hr;have Oo:j_ b ⟨n,tm,H⟩=some ⟨n,tm.map fun p=>(p.1,bP b (as.flatMap aa) p.2),H'⟩:=by unfold j_;rw[zy hH];simp only[hf];rw[BM rfl H H' 0 hr (nF vz.heap),aaH]
 refine(au.trans (au.oe Oo) (au.kZ fun t=>?_ )) GL g w a vz;subst e1;rw[lB (bP b (as.flatMap aa)) (by simp only[bP]),lK];cases hn:fG b (get tm t)with
  |true=>left;rw[aaH,e_ _ hn]
  |false=>right;rfl
end Fw
/-
  A row of one cell-list told as it stands, appended to an own row in a drawn region; the nil row in it known as empty data behind it.
-/
namespace Fw
open Go
section
variable {P:Program}{GL:cj}
end
@[simp] theorem xz(n:Nat)(xs:List V):∀(l:List D),an n (l.map .d++xs)=an n xs|[]=>rfl|d::l=>by rw[aaY,abQ,an,xz n xs l];rfl
theorem au.eqs{m n:Nat}{tm a7:List (Nat×V)}{H H':ai}(h:(tm,H)=(a7,H')):au m ⟨n,tm,H⟩ ⟨n,a7,H'⟩:=by obtain⟨rfl,rfl⟩:=Prod.mk.inj h;exact au.refl _ _
end Fw
