/-
  Calls that hand back a row known to be nil.
-/
import Derived.Test.YtgfgckimecpmlaaGreatDoorFf
set_option linter.unusedSimpArgs false
set_option linter.unusedVariables false
namespace Fw
open Go
section
variable {P:Program}{GL:ca}
mutual
def Qk:V→List Nat| .sl b _ _ _ _=>[b]| .agg cs=>Bh cs| .tuple vs=>Bh vs|_=>[]
def Bh:List V→List Nat|[]=>[]|v::vs=>Qk v++Bh vs
end
def xh:List Nat→St→St|[],σ=>σ|b::l,σ=>xh l (match iQ b σ with|some aL=>aL|none=>σ)
theorem mM{m:Nat}:∀(l:List Nat)(σ:St),ar m σ (xh l σ)
 |[],σ=>ar.refl m σ
 |b::l,σ=>by
  simp only[xh];cases h:iQ b σ with
   |none=>exact mM l σ
   |some aL=>exact(ar.nL h).trans (mM l aL)
end
end Fw
/-
  Loops over states told by data, and a row's element at an open place.
-/
namespace Fw
open Go
section
variable {P:Program}{GL:ca}
def LQ(P:Program)(GL:ca)(K:List Fr)(Q:Ex→St→Prop)(R:St→Prop):Ex→St→Prop| .normal,s=>R s|e,s=>KQ P GL K Q e s
def zd(i:Nat):List Fr→Bool|[]=>true| .block j::K=> !Nat.beq i j&&zd i K|_::K=>zd i K
theorem KQ.exit{i:Nat}:∀{K:List Fr}{Q:Ex→St→Prop}{σ:St},zd i K=true→Q (.exit i) σ→KQ P GL K Q (.exit i) σ
 |[],_,_,_,h=>h
 | .seq _::K,_,_,hf,h=>KQ.exit (K:=K) hf h
 | .block j::K,_,_,hf,h=>by simp only[zd,aac,aaU]at hf;exact eP.other (fun e=>by rw[e,aaz]at hf;cases hf.1) (KQ.exit (K:=K) hf.2 h)
 | .loop _ _::K,_,_,hf,h=>KQ.exit (K:=K) hf h
theorem CG.bl{i:Nat}{K K1:List Fr}{n:Nat}{tm:List (Nat×V)}{H:ah}{Q:Ex→St→Prop}{R:St→Prop}(hf:zd i K1=true)(h:CG P GL (.out (.exit i)) K n tm H Q):CG P GL (.code (.exit i)) K1 n tm H (LQ P GL K Q R):=WC.exit (KQ.exit hf h)
theorem CG.UT{K K1:List Fr}{n:Nat}{tm:List (Nat×V)}{H:ah}{rs:List iV}{v v':V}{R:St→Prop}(h:(fb rs ⟨n,tm,H⟩).bind (fY H)=some v')(e:v'=v):CG P GL (.code .ret) K1 n tm H (LQ P GL K (oc rs v) R):=WC.ret (KQ.ret (show KQ P GL K (oc rs v) .ret _ from KQ.ret (oc.ret h e)))
theorem CG.fx{K K1:List Fr}{n:Nat}{tm:List (Nat×V)}{H:ah}{rs:List iV}{v:V}{R:St→Prop}(v':V)(e:v'=v)(h:(fb rs ⟨n,tm,H⟩).bind (fY H)=some v':=by kernel_rfl):CG P GL (.code .ret) K1 n tm H (LQ P GL K (oc rs v) R):=CG.UT h e
theorem CG.bU{l:List ad}{K:List Fr}{n:Nat}{tm:List (Nat×V)}{H:ah}{Q:Ex→St→Prop}{R:St→Prop}(hl:l.length=0)(h:R ⟨n,tm,H⟩):CG P GL (.ops l) [] n tm H (LQ P GL K Q R):=by
 cases l with
  |nil=>exact WO.nil h
  |cons o l=>simp at hl
theorem CG.G9{α:Type}(I:α→List (Nat×V))(J:α→ah)(pre:α→Prop)(μ:α→Nat)(a:α)(h0:pre a){b:IR}{K:List Fr}{n:Nat}{tm:List (Nat×V)}{H:ah}{Q:Ex→St→Prop}(hs:ar H.length ⟨n,tm,H⟩ ⟨n,I a,J a⟩)(h:∀a,pre a→CG P GL (.code b) [] n (I a) (J a) (LQ P GL K Q fun s=>∃a',pre a'∧μ a'<μ a∧ar (J a).length s ⟨n,I a',J a'⟩)):CG P GL (.code (.loop b)) K n tm H Q:=by
 refine WC.GP (α:={a:α // pre a}) (fun a=>⟨n,I a.1,J a.1⟩) (fun a=>μ a.1) (fun a=>?_ ) ⟨a,h0⟩ hs;refine WC.mono (h a.1 a.2) fun e s hq=>?_
 cases e with
  |normal=>obtain⟨a',h1,h2,h3⟩:=hq;exact⟨⟨a',h1⟩,h2,h3⟩
  |exit i=>exact hq
  |ret=>exact hq
theorem CG.idx{d:Nat}{g:Option (Nat×Bool)}{af:List Nat}{l:List ad}{K:List Fr}{n:Nat}{tm:List (Nat×V)}{H:ah}{Q:Ex→St→Prop}{sz:Nat}{x i:a_}{es:List (List D)}{j:Nat}{e:List D}(he:es[j]? =some e)(ho:l.head?=some ⟨some d,.db sz x i,g,af⟩)(hg:ao g tm=some true)(hx:aU GL tm x=.d (.list es))(hi:dp (aU GL tm i)=some j)(hd:(Nat.blt d n&&Nat.beq e.length sz)=true)(hq:CG P GL (.ops (l.drop 1)) K n (put tm d (.cA e)) H Q):CG P GL (.ops l) K n tm H Q:=by
 rw[aac]at hd;refine WO.head ho (WO.bu (v:=.cA e) (wr:=none) (aL:=⟨n,put tm d (.cA e),H⟩) hg ?_ ?_ hq)
 ·simp only[bu,hx,hi,he,hd.2,aag]
 ·show St.put ⟨n,tm,H⟩ (some d) _ (aX H none)=_;rw[aC,aan (by simpa[aas]using hd.1)];rfl
theorem CG.jM{d:Nat}{g:Option (Nat×Bool)}{af:List Nat}{l:List ad}{K:List Fr}{n:Nat}{tm:List (Nat×V)}{H:ah}{Q:Ex→St→Prop}{f:FuncId}{args:List a_}{vs:List V}{v:V}(h:PC P GL f vs v)(ho:l.head?=some ⟨some d,.call f args,g,af⟩)(hg:ao g tm=some true)(ha:bd (aU GL tm) args=vs)(hd:Nat.blt d n=true)(hq:CG P GL (.ops (l.drop 1)) K n (put tm d v) H Q):CG P GL (.ops l) K n tm H Q:=by refine WO.head ho (WO.Lq h rfl hg ha (aL:=⟨n,put tm d v,H⟩) ?_ hq);show St.put ⟨n,tm,H⟩ (some d) v H=_;rw[aC,aan (by simpa[aas]using hd)]
theorem CG.gF{d:Nat}{g:Option (Nat×Bool)}{af:List Nat}{l:List ad}{K:List Fr}{n:Nat}{tm:List (Nat×V)}{H:ah}{Q:Ex→St→Prop}{x i:a_}{s:List UInt8}{j:Nat}{b:UInt8}(he:s[j]? =some b)(ho:l.head?=some ⟨some d,.gF x i,g,af⟩)(hg:ao g tm=some true)(hx:aU GL tm x=.d (.str s))(hi:dp (aU GL tm i)=some j)(hd:Nat.blt d n=true)(hq:CG P GL (.ops (l.drop 1)) K n (put tm d (.d (.int .u8 b.toNat))) H Q):CG P GL (.ops l) K n tm H Q:=by
 refine WO.head ho (WO.bu (v:=.d (.int .u8 b.toNat)) (wr:=none) (aL:=⟨n,put tm d (.d (.int .u8 b.toNat)),H⟩) hg ?_ ?_ hq)
 ·simp only[bu,hx,hi,he]
 ·show St.put ⟨n,tm,H⟩ (some d) _ (aX H none)=_;rw[aC,aan (by simpa[aas]using hd)];rfl
theorem Ql{m:Nat}(h:m<9223372036854775808):aN .i64 (.ofNat m)=.ofNat m:=by simp only[aN];rw[show Nat.blt m 9223372036854775808=true by simpa[aas]using h];rfl
theorem a7{i:Nat}(h:i+1<9223372036854775808):aN .i64 (bp (.ofNat i) 1)=.ofNat (i+1):=Ql h
end
end Fw
/-
  Own rows over open data: rows told by lists, appends, freezing, calls of values, parts of rows, loops over a list.
-/
namespace Fw
open Go
def fT(cs:List V):dU:=bif cs.isEmpty then .nil else .cells cs
def aJ{α:Type}(aa:α→List D)(l:List α):dU:=fT ((l.flatMap aa).map .d)
theorem G'{α:Type}(aa:α→List D):aJ aa []=.nil:=rfl
theorem cj{α:Type}{aa:α→List D}{sz:Nat}(h:∀a,(aa a).length=sz)(l:List α):(l.flatMap aa).length=l.length*sz:=by
 induction l with
  |nil=>simp
  |cons a l ih=>simp[ih,h,aa3];omega
theorem vt:∀{H:ah}{b:Nat}{x:dU},aA H b=some x→bj H b x=H
 |[],_,_,h=>by simp[aA]at h
 |y::H,0,x,h=>by simp only[aA]at h;simp[bj,h]
 |y::H,b+1,x,h=>by simp only[aA]at h;simp[bj,vt h]
theorem ze{H:ah}{ns sz bytes b len k:Nat}{cs xs:List V}(h0:0<sz)(hH:aA H b=some (fT cs))(hl:cs.length=len*sz)(hk:xs.length=k*sz)(hx:xs.all dE=true)(hr:(len+k)*sz*(bytes+1)≤cq):∃wr,cF H ns sz bytes (.sl b (len*sz) 0 len sz) xs=some (.sl b ((len+k)*sz) 0 (len+k) sz,wr)∧aX H wr=bj H b (fT (cs++xs)):=by
 have h1:Nat.beq sz 0=false:=cw (by omega);have h2:Nat.beq (xs.length%sz) 0=true:=by rw[hk,Nat.mul_mod_left];rfl
 have uH:xs.length / sz=k:=by rw[hk,abT _ h0]
 have Bi:len*sz+xs.length=(len+k)*sz:=by rw[hk,aa3]
 unfold cF;simp only[h1,h2,hx,aa',aaw,aaz,aag,hH];cases cs with
  |nil=>
   have hlen:len=0:=by
    simp only[aaY]at hl;rcases abW.1 hl.symm with h|h
    ·exact h
    ·omega
   subst hlen;simp only[fT,acp,aag,ada,aaz,aaR,abv];cases xs with
    |nil=>
     have:k=0:=by
      simp only[aaY]at hk;rcases abW.1 hk.symm with h|h
      ·exact h
      ·omega
     subst this;refine⟨none,by simp,?_ ⟩;simp only[aX,acp,aag];exact(vt (by rw[hH];rfl)).symm
    |cons x xs=>
     refine⟨some (b,.cells (x::xs)),?_,by simp[aX]⟩;have hb:Nat.ble (k*sz*(bytes+1)) cq=true:=by rw[abG];simpa using hr
     simp only[hk,hb,aag,aau,abT _ h0]
  |cons c cs=>
   simp only[fT,abN,aaw,hl,aaz,aaE,acr,Bi];have:Nat.ble ((len+k)*sz*(bytes+1)) cq=true:=by rw[abG];exact hr
   simp only[this,aag,uH,abo,abN,aaw];exact⟨_,rfl,by simp[aX]⟩
theorem fD{α:Type}{aa:α→List D}{sz:Nat}(h:∀a,(aa a).length=sz)(H:ah)(l:List α):cC H sz (.d (.list (l.map aa)))=some ((l.flatMap aa).map .d):=by
 have:(l.map aa).all (fun e=>Nat.beq e.length sz)=true:=by rw[aaq];intro e he;obtain⟨a,_,rfl⟩:=aaG.1 he;rw[h a,aaz]
 simp only[cC,this,aag];rw[List.flatMap_def]
mutual
def fp(b:Nat):V→Bool| .ptr c _ _=> !Nat.beq c b| .sl c _ _ _ _=> !Nat.beq c b| .map c=> !Nat.beq c b| .iter c _=> !Nat.beq c b| .func _ a c=>kf b a&&kf b c| .iface _ v=>fp b v| .agg cs=>kf b cs| .tuple vs=>kf b vs|_=>true
def kf(b:Nat):List V→Bool|[]=>true|v::vs=>fp b v&&kf b vs
end
mutual
theorem eQ{b:Nat}{ds:List D}:∀(v:V),fp b v=true→bO b ds v=v
 | .ptr c _ _,h=>by simp only[fp,aaU]at h;simp only[bO,h,aaw]
 | .sl c _ _ _ _,h=>by simp only[fp,aaU]at h;simp only[bO,h,aaw]
 | .map c,h=>by simp only[fp,aaU]at h;simp only[bO,h,aaw]
 | .iter c _,h=>by simp only[fp,aaU]at h;simp only[bO,h,aaw]
 | .func _ a c,h=>by simp only[fp,aac]at h;simp only[bO,gZ a h.1,gZ c h.2]
 | .iface _ v,h=>by simp only[fp]at h;simp only[bO,eQ v h]
 | .agg cs,h=>by simp only[fp]at h;simp only[bO,gZ cs h]
 | .tuple vs,h=>by simp only[fp]at h;simp only[bO,gZ vs h]
 | .any,_=>by simp only[bO]
 | .d _,_=>by simp only[bO]
 | .ab,_=>by simp only[bO]
 | .ji,_=>by simp only[bO]
 | .cA _,_=>by simp only[bO]
 | .kV,_=>by simp only[bO]
 | .mh,_=>by simp only[bO]
 | .bX,_=>by simp only[bO]
 | .gD,_=>by simp only[bO]
theorem gZ{b:Nat}{ds:List D}:∀(l:List V),kf b l=true→gG b ds l=l
 |[],_=>by simp only[gG]
 |v::vs,h=>by simp only[kf,aac]at h;simp only[gG,eQ v h.1,gZ vs h.2]
end
def gn(b:Nat):Option dU→Prop
 |some (.cells cs)=>kf b cs=true
 |some (.map es)=>es.all (fun p=>fp b p.2)=true
 |_=>True
def qq(b:Nat):Nat→ah→Prop|_,[]=>True|i,x::H=>(i=b∨gn b x)∧qq b (i+1) H
theorem zf(b:Nat):∀(l:List D),kf b (l.map .d)=true|[]=>rfl|d::l=>by simp only[aax,kf,fp,aaE];exact zf b l
theorem qt{α:Type}(b:Nat)(aa:α→List D)(l:List α):gn b (some (aJ aa l)):=by
 unfold aJ fT;cases h:((l.flatMap aa).map V.d).isEmpty with
  |true=>simp[gn]
  |false=>simp only[aaw,gn];exact zf b _
theorem pk{b:Nat}{ds:List D}{x:dU}(h:gn b (some x)):ez b ds x=x:=by
 cases x with
  |cells cs=>simp only[gn]at h;simp only[ez,gZ cs h]
  |map es=>
   simp only[gn,aaq]at h;simp only[ez,dU.map.injEq];conv=>rhs;rw[←List.map_id es]
   refine List.map_congr_left fun p hp=>?_
   rw[eQ _ (h p hp)];rfl
  |_=>simp only[ez]
theorem oj{b:Nat}{ds:List D}:∀(H:ah)(i:Nat),qq b i H→eU b ds i H=if i≤b then H.set (b - i) none else H
 |[],i,_=>by simp[eU]
 |x::H,i,h=>by
  simp only[qq]at h;simp only[eU,oj H (i+1) h.2];by_cases e:i=b
  ·subst e;rw[aaz,aag,aal (by omega),aan (aao i),acj];rfl
  ·rw[cw e,aaw];have hb:gn b x:=h.1.resolve_left e;have hx:x.map (ez b ds)=x:=by
    cases x with
     |none=>rfl
     |some x=>rw[aat,pk hb]
   rw[hx];by_cases bL:i≤b
   ·rw[aan (by omega),aan bL,show b - i=b - (i+1)+1 by omega];rfl
   ·rw[aal (by omega),aal bL]
def qu(b:Nat)(tm:List (Nat×V)):List (Nat×V):=tm.map fun p=>(p.1,bif fp b p.2 then p.2 else .any)
theorem lE(b:Nat)(tm:List (Nat×V))(t:Nat):get (qu b tm) t=bif fp b (get tm t)then get tm t else .any:=ll (fun v=>bif fp b v then v else .any) rfl tm t
theorem g_{α:Type}{aa:α→List D}{sz:Nat}(h:∀a,(aa a).length=sz):∀(l:List α),eL sz l.length (l.flatMap aa)=l.map aa|[]=>rfl|a::l=>by simp only[aav,eL,abr,aax];rw[acg (by rw[h];exact aao _),←h a,abH,List.drop_append_of_le_length (by omega),List.drop_length,abv,h a,g_ h l]
theorem tu:∀(l:List D),dV (l.map .d)=some l|[]=>rfl|d::l=>by simp only[aax,dV,tu l,aat]
theorem zg{α:Type}{aa:α→List D}{H:ah}{b:Nat}{l:List α}(h:aA H b=some (aJ aa l)):rD H b=some (l.flatMap aa):=by
 unfold rD;rw[h];unfold aJ fT;cases hl:l.flatMap aa with
  |nil=>rfl
  |cons d ds=>simp only[aax,abN,aaw];rw[←aax,tu]
section
variable {P:Program}{GL:ca}
theorem nr{g:G}{w:World}{H:ah}(hh:av g w H):H.all fk=true:=by
 have:∀(H':ah),(∀b y,aA H' b=some y→fk (some y)=true)→H'.all fk=true:=by
  intro H';induction H' with
   |nil=>intro _;rfl
   |cons x H' ih=>
    intro h;simp only[aaF,aac];refine⟨?_,ih fun b y hy=>h (b+1) y hy⟩;cases x with
     |none=>rfl
     |some y=>exact h 0 y rfl
 refine this H fun b y hy=>?_
 obtain⟨x,hx⟩:=hh.back b y hy;obtain⟨_,y',yu,hr⟩:=hh.live b x hx;rw[hy]at yu;simp only[aab]at yu;subst yu;cases y with
  |cells cs=>
   cases x with
    |cells _ _ _=>simp only[RB]at hr;exact hr.2.1
    |_=>simp only[RB]at hr
  |_=>rfl
theorem pn{H:ah}{k:Nat}(h:H.all fk=true):(H.set k none).all fk=true:=by
 induction H generalizing k with
  |nil=>simp
  |cons x H ih=>
   simp only[aaF,aac]at h;cases k with
    |zero=>simp only[ab8,aaF,h.2];rfl
    |succ k=>simp only[abR,aaF,h.1,ih h.2];rfl
theorem ar.tv{α:Type}(aa:α→List D)(as:List α){m n sz:Nat}{tm aY:List (Nat×V)}{H H':ah}(b s:Nat)(cx:∀a,(aa a).length=sz)(hs:get tm s=.sl b (as.length*sz) 0 as.length sz)(hH:aA H b=some (aJ aa as))(ve:qq b 0 H)(e1:put (qu b tm) s (.d (.list (as.map aa)))=aY)(e2:H.set b none=H'):ar m ⟨n,tm,H⟩ ⟨n,aY,H'⟩:=by
 intro GL g w a hr;have hf:=oj (ds:=as.flatMap aa) H 0 ve;rw[aan (abK _),abS]at hf;have M9:iQ b ⟨n,tm,H⟩=some ⟨n,tm.map fun p=>(p.1,bO b (as.flatMap aa) p.2),H'⟩:=by unfold iQ;rw[zg hH];simp only[hf];rw[pn (nr hr.heap),aag,e2]
 refine(ar.trans (ar.nL M9) (ar.kJ fun t=>?_ )) GL g w a hr;subst e1;rw[ll (bO b (as.flatMap aa)) (by simp only[bO]),na];by_cases ht:t=s
 ·subst ht;rw[aan rfl,hs];left;have hle:Nat.ble (0+as.length*sz) (as.length*sz)=true:=by rw[abG];omega
  simp only[bO,aaz,aag,cj cx,hle,aaR,abz,g_ cx]
 ·rw[aal ht,lE];cases hn:fp b (get tm t)with
   |true=>left;rw[aag,eQ _ hn]
   |false=>right;rfl
theorem kL(H:ah)(x:Option dU)(b:Nat):aA (H++[x]) b=if b=H.length then x else aA H b:=by
 rw[GI];by_cases h:b<H.length
 ·rw[aan h,aal (by omega)]
 ·rw[aal h];by_cases e:b=H.length
  ·subst e;rw[aan rfl,acj];rfl
  ·rw[aal e,B7 (by omega:H.length≤b)];exact B7 (by simp;omega)
def G.cU(g:G)(b:Nat):G:=⟨fun c=>g.cK c∨c=b,fun c=>if c=b then some .nil else g.γ c,g.fo⟩
theorem ch.cU{g:G}{w:World}{b:Nat}(h:¬g.cK b):ch g w (g.cU b) w:=⟨rfl,rfl,rfl,aao _,fun k hk=>
 ⟨⟨hk.1,hk.2.1,fun c x hx ho=>by
  simp only[G.cU]at hx;split at hx
  ·simp only[aab]at hx;subst hx;cases ho
  ·exact hk.2.2 c x hx ho⟩,rfl⟩,fun _ hd=>.inl hd,fun c hd=>by simp only[G.cU];rw[aal (fun e=>h (by rw[←e];exact hd))];exact GB.step.refl _,rfl,fun _ _=>rfl⟩
theorem av.cU{g:G}{w:World}{H:ah}(hh:av g w H):av (g.cU H.length) w (H++[some .nil]):=by
 have Qm:¬g.cK H.length:=fun h=>ac0 _ (hh.cK _ h)
 have he:ch g w (g.cU H.length) w:=ch.cU Qm;refine⟨fun b hb=>?_,fun b x hx=>?_,fun b y hy=>?_,fun b b' x x' k hx gS hk iO=>?_,fun k hk=>?_ ⟩
 ·simp only[G.cU]at hb;simp only[aaA,abI];rcases hb with hb|hb
  ·have:=hh.cK b hb;omega
  ·omega
 ·simp only[G.cU]at hx⊢;split at hx
  ·rename_i e;subst e;simp only[aab]at hx;subst hx;exact⟨.inr rfl,.nil,by rw[kL,aan rfl],by simp only[RB]⟩
  ·rename_i e;obtain⟨h1,y,h2,h3⟩:=hh.live b x hx;exact⟨.inl h1,y,by rw[kL,aal e];exact h2,h3.ext he (fun k _=>rfl)⟩
 ·rw[kL]at hy;simp only[G.cU];split at hy
  ·rename_i e;exact⟨.nil,by rw[aan e]⟩
  ·rename_i e;obtain⟨x,hx⟩:=hh.back b y hy;exact⟨x,by rw[aal e];exact hx⟩
 ·simp only[G.cU]at hx gS;split at hx
  ·simp only[aab]at hx;subst hx;cases hk
  ·split at gS
   ·simp only[aab]at gS;subst gS;cases iO
   ·exact hh.inj b b' x x' k hx gS hk iO
 ·refine⟨(hh.fo k hk).1,fun b x hx=>?_ ⟩;simp only[G.cU]at hx;split at hx
  ·simp only[aab]at hx;subst hx;intro h;cases h
  ·exact(hh.fo k hk).2 b x hx
theorem ar.uN{m n:Nat}{tm aY:List (Nat×V)}{H:ah}(s sz:Nat)(hm:m≤H.length)(hs:get tm s=.ab)(e1:put tm s (.sl H.length 0 0 0 sz)=aY):ar m ⟨n,tm,H⟩ ⟨n,aY,H++[some .nil]⟩:=by
 subst e1;intro GL g w a hr;have Qm:¬g.cK H.length:=fun h=>ac0 _ (hr.heap.cK _ h)
 have he:ch g w (g.cU H.length) w:=ch.cU Qm;refine⟨g.cU H.length,⟨hr.defers,hr.size,fun t=>?_,hr.heap.cU,hr.dQ.ext he⟩,fun g0 w0 _ h=>h.trans he⟩;show RV _ _ (get (put tm s _) t) _;rw[na];by_cases ht:t=s
 ·subst ht;have:=hr.tmps t;change RV g w (get tm t) _ at this;rw[hs]at this;simp only[RV]at this;rw[aan rfl,this];simp only[RV];refine⟨⟨rfl,.inr rfl⟩,fun x hx=>?_ ⟩;simp only[G.cU,aa4,aab]at hx;subst hx;exact⟨by trivial,by trivial,by trivial,by trivial⟩
 ·rw[aal ht];exact RV.ext he _ _ (hr.tmps t)
theorem aP.Bj{g g':G}{w:World}(he:ch g w g' w){v:V}(hv:RV g' w v (.slice none 0 0)):∀(cs:List V)(vs:List Value)(j:Nat),cs[j]? =some .ab→aP g w cs vs→aP g' w (cs.set j v) vs
 |[],_,j,h,_=>by simp at h
 |c::cs,[],_,_,hr=>by simp only[aP]at hr
 |c::cs,x::vs,0,h,hr=>by simp only[acG,aab]at h;subst h;simp only[aP,RV]at hr;simp only[ab8,aP];rw[hr.1];exact⟨hv,aP.ext he _ _ hr.2⟩
 |c::cs,x::vs,j+1,h,hr=>by simp only[aP]at hr;simp only[abR,aP];exact⟨RV.ext he _ _ hr.1,aP.Bj he hv cs vs j (by simpa using h) hr.2⟩
theorem ar.G_{m n:Nat}{tm:List (Nat×V)}{H H':ah}(b j sz:Nat){cs:List V}(hm:m≤H.length)(hb:aA H b=some (.cells cs))(hj:cs[j]? =some .ab)(e1:bj H b (.cells (cs.set j (.sl H.length 0 0 0 sz)))++[some .nil]=H'):ar m ⟨n,tm,H⟩ ⟨n,tm,H'⟩:=by
 subst e1;intro GL g w a hr;have bL:=jO hb;have Qm:¬g.cK H.length:=fun h=>ac0 _ (hr.heap.cK _ h)
 have he:ch g w (g.cU H.length) w:=ch.cU Qm;have JC:=hr.heap.cU;have hlen:(bj H b (.cells (cs.set j (.sl H.length 0 0 0 sz)))).length=H.length:=eN bL;have hg:∀c,aA (bj H b (.cells (cs.set j (.sl H.length 0 0 0 sz)))++[some .nil]) c=if c=b then some (.cells (cs.set j (.sl H.length 0 0 0 sz)))else aA (H++[some .nil]) c:=by
  intro c;rw[kL,kL,hlen,er];by_cases hc:c=b
  ·rw[aan hc,aan hc,aal (by omega)]
  ·rw[aal hc,aal hc]
 refine⟨g.cU H.length,⟨hr.defers,hr.size,fun t=>RV.ext he _ _ (hr.tmps t),⟨fun c hc=>?_,fun c x hx=>?_,fun c y hy=>?_,JC.inj,JC.fo⟩,hr.dQ.ext he⟩,fun g0 w0 _ h=>h.trans he⟩
 ·have:=JC.cK c hc;simp only[aaA,abI,hlen]at this⊢;exact this
 ·obtain⟨h1,y,h2,h3⟩:=JC.live c x hx;refine⟨h1,?_⟩;show∃y,aA _ c=some y∧_;rw[hg];by_cases hc:c=b
  ·subst hc;rw[aan rfl];refine⟨_,rfl,?_⟩;simp only[G.cU,aal (show¬c=H.length by omega)]at hx;obtain⟨_,y',k2,k3⟩:=hr.heap.live c x hx;rw[hb]at k2;simp only[aab]at k2;subst k2;cases x with
    |cells aO cp cur=>
     simp only[RB]at k3⊢;obtain⟨r1,r2,r3,cc,e,r4,r5,r6⟩:=k3;refine⟨by simp[r1],?_,by simp[r3],cc,e,r4,r5,?_ ⟩
     ·rw[aaq]at r2⊢;intro v hv;rcases abZ hv with h|h
      ·exact r2 v h
      ·subst h;rfl
     ·rw[ab9];refine aP.Bj he ?_ cs _ j hj r6;simp only[RV];refine⟨⟨rfl,.inr rfl⟩,fun x hx=>?_ ⟩;simp only[G.cU,aa4,aab]at hx;subst hx;exact⟨by trivial,by trivial,by trivial,by trivial⟩
    |_=>simp only[RB]at k3
  ·rw[aal hc];exact⟨y,h2,h3⟩
 ·rw[hg]at hy;by_cases hc:c=b
  ·subst hc;obtain⟨x,hx⟩:=hr.heap.back c _ hb;exact⟨x,by simp only[G.cU,aal (show¬c=H.length by omega)];exact hx⟩
  ·rw[aal hc]at hy;exact JC.back c y hy
theorem CG.tidy{c:IR}{K:List Fr}{n:Nat}{tm aY:List (Nat×V)}{H H':ah}{Q:Ex→St→Prop}(ht:ar H.length ⟨n,tm,H⟩ ⟨n,aY,H'⟩)(h:CG P GL (.code c) K n aY H' Q):CG P GL (.code c) K n tm H Q:=WC.tidy (σ:=⟨n,tm,H⟩) ht h
theorem WO.tidy{l:List ad}{σ aL:St}{Q:St→Prop}(ht:ar σ.hp.length σ aL)(h:WO P GL l aL Q):WO P GL l σ Q:=by intro ops k hc g w a hr;obtain⟨g',h1,h2⟩:=ht GL g w a hr;exact cP (cr.ext (h2 g w (fun b hb=>hr.heap.cK b hb) (ch.refl _ _))) _ _ _ (h ops k hc g' w a h1)
theorem CG.Ha{l:List ad}{K:List Fr}{n:Nat}{tm aY:List (Nat×V)}{H H':ah}{Q:Ex→St→Prop}(ht:ar H.length ⟨n,tm,H⟩ ⟨n,aY,H'⟩)(h:CG P GL (.ops l) K n aY H' Q):CG P GL (.ops l) K n tm H Q:=WO.tidy (σ:=⟨n,tm,H⟩) ht h
theorem YB{a b:Int}(h:aS a b=true):a<b:=by rw[fe]at h;simpa using h
theorem YC{a b:Int}(h:aS a b=false):b≤a:=by rw[fe]at h;simpa using h
theorem YD{a b:Int}(h:bf a b=true):a=b:=by rw[lB]at h;simpa using h
theorem YE{a b:Int}(h:bf a b=false):a≠b:=by rw[lB]at h;simpa using h
theorem Qn{a b:Int}(h:a<b):aS a b=true:=by rw[fe];simpa using h
theorem M'{a b:Int}(h:b≤a):aS a b=false:=by rw[fe];simpa using h
theorem Qo{a b:Int}(h:a=b):bf a b=true:=by rw[lB];simpa using h
theorem Qp{a b:Int}(h:a≠b):bf a b=false:=by rw[lB];simpa using h
theorem UU{a b:Int}(h:(a==b)=true):a=b:=by simpa using h
theorem UV{a b:Int}(h:(a==b)=false):a≠b:=by simpa using h
theorem ay{α:Type}{aa:α→List D}{l:List α}{i:Nat}{x:α}(h:l[i]? =some x):(l.map aa)[i]? =some (aa x):=by rw[aaO,h];rfl
theorem CG.iJ{d:Nat}{op:ki}{g:Option (Nat×Bool)}{af:List Nat}{l:List ad}{K:List Fr}{n:Nat}{tm:List (Nat×V)}{H H':ah}{Q:Ex→St→Prop}{v:V}{wr:Wr}(ho:l.head?=some ⟨some d,op,g,af⟩)(hg:ao g tm=some true)(he:bu (aU GL tm) H H.length op=some (v,wr))(hH:aX H wr=H')(hd:Nat.blt d n=true)(hq:CG P GL (.ops (l.drop 1)) K n (put tm d v) H' Q):CG P GL (.ops l) K n tm H Q:=by subst hH;refine WO.head ho (WO.bu (v:=v) (wr:=wr) (aL:=⟨n,put tm d v,aX H wr⟩) hg he ?_ hq);show St.put ⟨n,tm,H⟩ (some d) _ (aX H wr)=_;rw[aC,aan (by simpa[aas]using hd)]
theorem CG.Qq{α:Type}(aa:α→List D)(as ys:List α){d:Nat}{g:Option (Nat×Bool)}{af:List Nat}{l:List ad}{K:List Fr}{n:Nat}{tm:List (Nat×V)}{H H':ah}{Q:Ex→St→Prop}{sz bytes b:Nat}{x y:a_}(cx:∀a,(aa a).length=sz)(h0:Nat.blt 0 sz=true)(ho:l.head?=some ⟨some d,.append sz bytes x y,g,af⟩)(hg:ao g tm=some true)(hx:aU GL tm x=.sl b (as.length*sz) 0 as.length sz)(hH:aA H b=some (aJ aa as))(hy:cC H sz (aU GL tm y)=some ((ys.flatMap aa).map .d))(hr:(as.length+ys.length)*sz*(bytes+1)≤1099511627776)(hd:Nat.blt d n=true)(Qr:bj H b (aJ aa (as++ys))=H')(hq:CG P GL (.ops (l.drop 1)) K n (put tm d (.sl b ((as++ys).length*sz) 0 (as++ys).length sz)) H' Q):CG P GL (.ops l) K n tm H Q:=by
 have M_:0<sz:=by simpa[aas]using h0
 obtain⟨wr,e1,e2⟩:=ze (H:=H) (ns:=H.length) (sz:=sz) (bytes:=bytes) (b:=b) (len:=as.length) (k:=ys.length) (cs:=(as.flatMap aa).map .d) (xs:=(ys.flatMap aa).map .d) M_ hH (by simp[cj cx]) (by simp[cj cx]) (by simp[dE]) (by simpa[cq]using hr);refine CG.iJ ho hg (v:=.sl b ((as++ys).length*sz) 0 (as++ys).length sz) (wr:=wr) ?_ ?_ hd hq
 ·simp only[bu,hy,hx,e1,aaA]
 ·rw[e2,←Qr];simp only[aJ,abu,abM]
theorem zh{α:Type}{aa:α→List D}{as:List α}{H:ah}{b sz:Nat}(cx:∀a,(aa a).length=sz)(hH:aA H b=some (aJ aa as)):fZ H .slice (.sl b (as.length*sz) 0 as.length sz)=some as.length:=by
 have:dP H b (as.length*sz)=true:=by
  unfold dP;rw[hH];have hl:=cj cx as;unfold aJ fT;cases h:as.flatMap aa with
   |nil=>rw[h]at hl;simp only[ac',acp,aag,←hl,aaY,aaz]
   |cons d ds=>rw[h]at hl;simp only[aax,abN,aaw,←hl,aav,aar,aaz]
 simp only[fZ,this,aag]
theorem CG.Bk{α:Type}(aa:α→List D)(as:List α){d:Nat}{g:Option (Nat×Bool)}{af:List Nat}{l:List ad}{K:List Fr}{n:Nat}{tm:List (Nat×V)}{H:ah}{Q:Ex→St→Prop}{sz b:Nat}{x:a_}(cx:∀a,(aa a).length=sz)(ho:l.head?=some ⟨some d,.len .slice x,g,af⟩)(hg:ao g tm=some true)(hx:aU GL tm x=.sl b (as.length*sz) 0 as.length sz)(hH:aA H b=some (aJ aa as))(hd:Nat.blt d n=true)(hq:CG P GL (.ops (l.drop 1)) K n (put tm d (.d (.int .i64 (.ofNat as.length)))) H Q):CG P GL (.ops l) K n tm H Q:=CG.iJ ho hg (wr:=none) (by simp only[bu,hx,zh cx hH];rfl) rfl hd hq
def l_(GL:ca)(tm:List (Nat×V))(d:Nat):Option a_→Option Nat|some x=>dp (aU GL tm x)|none=>some d
theorem jf{tm:List (Nat×V)}{n p q:Nat}{lo hi:Option a_}(jH:l_ GL tm 0 lo=some p)(js:l_ GL tm n hi=some q)(h1:p≤q)(h2:q≤n):bounds (aU GL tm) n lo hi=some (p,q):=by
 have k1:Nat.ble p q=true:=by rw[abG];exact h1
 have k2:Nat.ble q n=true:=by rw[abG];exact h2
 cases lo with
  |none=>
   simp only[l_,aab]at jH;cases hi with
    |none=>simp only[l_,aab]at js;subst jH;subst js;simp only[bounds,k1,k2,aaR,aag]
    |some y=>simp only[l_]at js;subst jH;simp only[bounds,js,k1,k2,aaR,aag]
  |some x=>
   simp only[l_]at jH;cases hi with
    |none=>simp only[l_,aab]at js;subst js;simp only[bounds,jH,k1,k2,aaR,aag]
    |some y=>simp only[l_]at js;simp only[bounds,jH,js,k1,k2,aaR,aag]
theorem CG.OS{α:Type}(aa:α→List D)(as:List α)(p q:Nat){d:Nat}{g:Option (Nat×Bool)}{af:List Nat}{l:List ad}{K:List Fr}{n:Nat}{tm:List (Nat×V)}{H:ah}{Q:Ex→St→Prop}{sz:Nat}{x:a_}{lo hi:Option a_}(cx:∀a,(aa a).length=sz)(ho:l.head?=some ⟨some d,.eu sz x lo hi,g,af⟩)(hg:ao g tm=some true)(hx:aU GL tm x=.d (.list (as.map aa)))(jH:l_ GL tm 0 lo=some p)(js:l_ GL tm (as.map aa).length hi=some q)(CL:p≤q∧q≤as.length)(hd:Nat.blt d n=true)(hq:CG P GL (.ops (l.drop 1)) K n (put tm d (.d (.list (((as.take q).drop p).map aa)))) H Q):CG P GL (.ops l) K n tm H Q:=by
 have jw:(as.map aa).all (fun e=>Nat.beq e.length sz)=true:=by rw[aaq];intro e he;obtain⟨a,_,rfl⟩:=aaG.1 he;rw[cx a,aaz]
 have hb:bounds (aU GL tm) (as.map aa).length lo hi=some (p,q):=jf jH js CL.1 (by rw[aar];exact CL.2);refine CG.iJ ho hg (v:=.d (.list (((as.take q).drop p).map aa))) (wr:=none) ?_ rfl hd hq;simp only[bu,hx,jw,aag,hb,aat,acs,acq]
theorem CG.OT(p q:Nat){d:Nat}{g:Option (Nat×Bool)}{af:List Nat}{l:List ad}{K:List Fr}{n:Nat}{tm:List (Nat×V)}{H:ah}{Q:Ex→St→Prop}{x:a_}{s:List UInt8}{lo hi:Option a_}(ho:l.head?=some ⟨some d,.kY x lo hi,g,af⟩)(hg:ao g tm=some true)(hx:aU GL tm x=.d (.str s))(jH:l_ GL tm 0 lo=some p)(js:l_ GL tm s.length hi=some q)(CL:p≤q∧q≤s.length)(hd:Nat.blt d n=true)(hq:CG P GL (.ops (l.drop 1)) K n (put tm d (.d (.str ((s.take q).drop p)))) H Q):CG P GL (.ops l) K n tm H Q:=by have hb:bounds (aU GL tm) s.length lo hi=some (p,q):=jf jH js CL.1 CL.2;refine CG.iJ ho hg (v:=.d (.str ((s.take q).drop p))) (wr:=none) ?_ rfl hd hq;simp only[bu,hx,hb,aat]
theorem CG.UW{d:Nat}{g:Option (Nat×Bool)}{af:List Nat}{l:List ad}{K:List Fr}{n:Nat}{tm:List (Nat×V)}{H:ah}{Q:Ex→St→Prop}{f:FuncId}{first cap:List V}{x:a_}{args:List a_}{vs:List V}{v:V}(h:PC P GL f vs v)(ho:l.head?=some ⟨some d,.e_ x args,g,af⟩)(hg:ao g tm=some true)(hx:aU GL tm x=.func f first cap)(ha:first++bd (aU GL tm) args++cap=vs)(hd:Nat.blt d n=true)(hq:CG P GL (.ops (l.drop 1)) K n (put tm d v) H Q):CG P GL (.ops l) K n tm H Q:=by subst ha;refine WO.head ho (WO.e_ rfl hx hg (WF.DR h ⟨⟨n,put tm d v,H⟩,?_,hq⟩));show St.put ⟨n,tm,H⟩ (some d) v H=_;rw[aC,aan (by simpa[aas]using hd)]
theorem CG.bV{α β:Type}(l:List β)(I:Nat→α→List (Nat×V))(J:Nat→α→ah)(Qs:Nat→α→List β→Prop)(a0:α)(h0:Qs 0 a0 l){b:IR}{K:List Fr}{n:Nat}{tm:List (Nat×V)}{H:ah}{Q:Ex→St→Prop}(hs:ar H.length ⟨n,tm,H⟩ ⟨n,I 0 a0,J 0 a0⟩)(n8:∀i a,i=l.length→l.drop i=[]→Qs i a []→CG P GL (.code b) [] n (I i a) (J i a) (LQ P GL K Q fun _=>False))(Qt:∀i a x r,l.drop i=x::r→l[i]? =some x→i<l.length→Qs i a (x::r)→CG P GL (.code b) [] n (I i a) (J i a) (LQ P GL K Q fun s=>∃a',Qs (i+1) a' r∧ar (J i a).length s ⟨n,I (i+1) a',J (i+1) a'⟩)):CG P GL (.code (.loop b)) K n tm H Q:=by
 refine CG.G9 (α:=Nat×α) (fun p=>I p.1 p.2) (fun p=>J p.1 p.2) (fun p=>p.1≤l.length∧Qs p.1 p.2 (l.drop p.1)) (fun p=>l.length - p.1) (0,a0) ⟨abK _,h0⟩ hs ?_;rintro⟨i,a⟩ ⟨hi,aD⟩;rcases aaW i l.length with bL|OK
 ·have hx:l.drop i=l[i]::l.drop (i+1):=aa6 bL;have:=Qt i a l[i] (l.drop (i+1)) hx (aaf bL) bL (by rw[←hx];exact aD);refine WC.mono this fun e s hq=>?_
  cases e with
   |normal=>obtain⟨a',k1,k2⟩:=hq;exact⟨(i+1,a'),⟨bL,k1⟩,by simp only;omega,k2⟩
   |exit j=>exact hq
   |ret=>exact hq
 ·have he:i=l.length:=by omega
  have hd:l.drop i=[]:=acL OK;have:=n8 i a he hd (by rw[←hd];exact aD);refine WC.mono this fun e s hq=>?_
  cases e with
   |normal=>exact hq.elim
   |exit j=>exact hq
   |ret=>exact hq
end
end Fw
/-
  Walks through functions that look into their caller's boxes.
-/
namespace Fw
open Go
def rI(rs:List iV)(R:V→ah→Prop):Ex→St→Prop| .exit _,_=>False|_,σ=>∃v,fb rs σ=some v∧R v σ.hp
def iK(v:V)(H:ah):V→ah→Prop:=fun r k=>r=v∧k=H
section
variable {P:Program}{GL:ca}
theorem CG.gp{f:FuncId}{fn:cD}{args:List V}{H:ah}{R:V→ah→Prop}(hf:aK P f=some fn)(wO:aq P f=true)(hc:Nat.ble args.length fn.ntmps=true)(h:CG P GL (.code fn.body) [] fn.ntmps (sP 0 args) H (rI fn.res R)):WF P GL f args H R:=WF.body hf wO (aak hc) (WC.mono h fun e s hq=>by cases e<;>exact hq)
theorem CG.UX{K:List Fr}{n:Nat}{tm:List (Nat×V)}{H:ah}{rs:List iV}{R:V→ah→Prop}{v':V}(h:fb rs ⟨n,tm,H⟩=some v')(e:R v' H):CG P GL (.code .ret) K n tm H (rI rs R):=WC.ret (KQ.ret (show rI rs R .ret _ from⟨v',h,e⟩))
theorem CG.uB{K:List Fr}{n:Nat}{tm:List (Nat×V)}{H:ah}{rs:List iV}{R:V→ah→Prop}(v':V)(e:R v' H)(h:fb rs ⟨n,tm,H⟩=some v':=by kernel_rfl):CG P GL (.code .ret) K n tm H (rI rs R):=CG.UX h e
theorem CG.Qu{K K1:List Fr}{n:Nat}{tm:List (Nat×V)}{H:ah}{rs:List iV}{R:V→ah→Prop}{v':V}{S:St→Prop}(h:fb rs ⟨n,tm,H⟩=some v')(e:R v' H):CG P GL (.code .ret) K1 n tm H (LQ P GL K (rI rs R) S):=WC.ret (KQ.ret (show KQ P GL K (rI rs R) .ret _ from KQ.ret (show rI rs R .ret _ from⟨v',h,e⟩)))
theorem CG.Nb{K K1:List Fr}{n:Nat}{tm:List (Nat×V)}{H:ah}{rs:List iV}{R:V→ah→Prop}{S:St→Prop}(v':V)(e:R v' H)(h:fb rs ⟨n,tm,H⟩=some v':=by kernel_rfl):CG P GL (.code .ret) K1 n tm H (LQ P GL K (rI rs R) S):=CG.Qu h e
theorem CG.YF{d:Nat}{g:Option (Nat×Bool)}{af:List Nat}{l:List ad}{K:List Fr}{n:Nat}{tm:List (Nat×V)}{H:ah}{Q:Ex→St→Prop}{f:FuncId}{args:List a_}{vs:List V}{R:V→ah→Prop}(h:WF P GL f vs H R)(ho:l.head?=some ⟨some d,.call f args,g,af⟩)(hg:ao g tm=some true)(ha:bd (aU GL tm) args=vs)(hd:Nat.blt d n=true)(hq:∀v H',R v H'→CG P GL (.ops (l.drop 1)) K n (put tm d v) H' Q):CG P GL (.ops l) K n tm H Q:=by subst ha;refine WO.head ho (WO.call rfl hg (h.mono ?_ ));intro v H' hr;refine⟨⟨n,put tm d v,H'⟩,?_,hq v H' hr⟩;show St.put ⟨n,tm,H'⟩ (some d) v H'=_;rw[aC,aan (by simpa[aas]using hd)]
theorem CG.wf{d:Nat}{g:Option (Nat×Bool)}{af:List Nat}{l:List ad}{K:List Fr}{n:Nat}{tm:List (Nat×V)}{H H':ah}{Q:Ex→St→Prop}{f:FuncId}{args:List a_}{vs:List V}{v:V}(h:WF P GL f vs H (iK v H'))(ho:l.head?=some ⟨some d,.call f args,g,af⟩)(hg:ao g tm=some true)(ha:bd (aU GL tm) args=vs)(hd:Nat.blt d n=true)(hq:CG P GL (.ops (l.drop 1)) K n (put tm d v) H' Q):CG P GL (.ops l) K n tm H Q:=CG.YF h ho hg ha hd (by rintro v' H2 ⟨e1,e2⟩;rw[e1,e2];exact hq)
theorem CG.OU{d:Nat}{g:Option (Nat×Bool)}{af:List Nat}{l:List ad}{K:List Fr}{n:Nat}{tm:List (Nat×V)}{H H':ah}{Q:Ex→St→Prop}{f:FuncId}{first cap:List V}{x:a_}{args:List a_}{vs:List V}{v:V}(h:WF P GL f vs H (iK v H'))(ho:l.head?=some ⟨some d,.e_ x args,g,af⟩)(hg:ao g tm=some true)(hx:aU GL tm x=.func f first cap)(ha:first++bd (aU GL tm) args++cap=vs)(hd:Nat.blt d n=true)(hq:CG P GL (.ops (l.drop 1)) K n (put tm d v) H' Q):CG P GL (.ops l) K n tm H Q:=by subst ha;refine WO.head ho (WO.e_ rfl hx hg (h.mono ?_ ));rintro v' H2 ⟨e1,e2⟩;rw[e1,e2];refine⟨⟨n,put tm d v,H'⟩,?_,hq⟩;show St.put ⟨n,tm,H'⟩ (some d) v H'=_;rw[aC,aan (by simpa[aas]using hd)]
theorem WF.same{f:FuncId}{args:List V}{v:V}(h:PC P GL f args v)(H:ah):WF P GL f args H (iK v H):=WF.DR h ⟨rfl,rfl⟩
end
end Fw
/-
  Drawn regions that write nothing, walked operation by operation.
-/
namespace Fw
open Go
theorem qv(n:Nat):∀(l:List D),ak n (l.map .d)=true|[]=>rfl|d::l=>by simp only[aax,ak,an,aaE];exact qv n l
theorem aW{α:Type}(n:Nat)(aa:α→List D)(l:List α):cu n (aJ aa l)=true:=by
 unfold aJ fT;cases h:((l.flatMap aa).map V.d).isEmpty with
  |true=>rfl
  |false=>simp only[aaw,cu];exact qv n _
def rJ(tm:List (Nat×V))(d:Option Nat)(v:V):List (Nat×V):=match d with
 |none=>tm
 |some d=>put tm d v
def AO(P:Program)(GL:ca)(base:Nat)(Hp:ah):Nat→List ad→List (Nat×V)→(List (Nat×V)→Prop)→Prop|_,[],tm,Q=>Q tm|i,o::l,tm,Q=>∃cv v,eI GL tm Hp (base+i) o cv=some (v,none)∧(∀f args,bw o.op=some (f,args)→ao o.guard tm=some true→fl P GL f (bd (aU GL tm) args) Hp v)∧AO P GL base Hp (i+1) l (rJ tm o.dst v) Q
section
variable {P:Program}{GL:ca}
theorem oo:∀(l:List ad)(rs:List ((V×Wr)×List Nat))(i k:Nat)(σ:St),k≤i→ax (fun j=>decide (j<k)) i l rs σ=σ
 |[],rs,i,k,σ,_=>by simp[ax]
 |o::l,[],i,k,σ,_=>by simp[ax]
 |o::l,r::rs,i,k,σ,h=>by
  have:decide (i<k)=false:=by simp;omega
  simp only[ax,this,aaw];exact oo l rs (i+1) k σ (by omega)
theorem AO.runs{base n:Nat}{Hp:ah}:∀{l:List ad}{i:Nat}{tm:List (Nat×V)}{Q:List (Nat×V)→Prop},AO P GL base Hp i l tm Q→∃(Bl:List (Option V))(rs:List ((V×Wr)×List Nat))(aY:List (Nat×V)),Bl.length=l.length∧(∀qc:Nat→Option V,(∀j c,Bl[j]? =some c→qc (i+j)=c)→l3 GL base qc i l ⟨n,tm,Hp⟩=some rs)∧sT rs=true∧ax (fun _=>true) i l rs ⟨n,tm,Hp⟩=⟨n,aY,Hp⟩∧Q aY∧∀k o r,l[k]? =some o→rs[k]? =some r→∀f args,bw o.op=some (f,args)→ao o.guard (ax (fun j=>decide (j<i+k)) i l rs ⟨n,tm,Hp⟩).tm=some true→fl P GL f (bd (aU GL (ax (fun j=>decide (j<i+k)) i l rs ⟨n,tm,Hp⟩).tm) args) (ax (fun j=>decide (j<i+k)) i l rs ⟨n,tm,Hp⟩).hp r.1.1
 |[],i,tm,Q,h=>⟨[],[],tm,rfl,fun _ _=>rfl,rfl,rfl,h,by simp⟩
 |o::l,i,tm,Q,h=>by
  obtain⟨cv,v,h1,h2,h3⟩:=h;obtain⟨Bl,rs,aY,k1,k2,k3,k4,k5,k6⟩:=AO.runs (n:=n) h3;have bj:St.fc ⟨n,tm,Hp⟩ o.dst v Hp=⟨n,rJ tm o.dst v,Hp⟩:=by unfold St.fc rJ;cases o.dst<;>rfl
  refine⟨cv::Bl,((v,none),lq (aU GL tm) o.op)::rs,aY,by simp[k1],fun qc Qv=>?_,by simp only[sT];exact k3,?_,k5,fun k o' r ho hr f args cl hg=>?_ ⟩
  ·have e0:qc i=cv:=by simpa using Qv 0 cv rfl
   simp only[l3,e0,h1,aX,bj];rw[k2 qc fun j c hj=>by have:=Qv (j+1) c (by simpa using hj);rwa[show i+(j+1)=i+1+j by omega]at this]
  ·simp only[ax,aag,aX,bj];exact k4
  ·cases k with
    |zero=>simp only[acG,aab]at ho hr;subst ho;subst hr;rw[oo _ _ _ _ _ (by omega)]at hg⊢;exact h2 f args cl hg
    |succ k=>
     simp only[acH]at ho hr;have e:i+(k+1)=i+1+k:=by omega
     have hs:ax (fun j=>decide (j<i+(k+1))) i (o::l) (((v,none),lq (aU GL tm) o.op)::rs) ⟨n,tm,Hp⟩=ax (fun j=>decide (j<i+1+k)) (i+1) l rs ⟨n,rJ tm o.dst v,Hp⟩:=by simp only[ax,e,show decide (i<i+1+k)=true by simp;omega,aag,aX,bj]
     rw[hs]at hg⊢;exact k6 k o' r ho hr f args cl hg
theorem re{m:Nat}:∀{rs:List ((V×Wr)×List Nat)},sT rs=true→dK m rs=true
 |[],_=>rfl
 |r::rs,h=>by
  simp only[sT]at h;split at h
  ·rename_i hr;simp only[dK,aaF,hr,bq,aaE];exact re h
  ·cases h
theorem CG.iC(hm:P.follows .mixedOrders=true){l:List ad}{K:List Fr}{n:Nat}{tm:List (Nat×V)}{H:ah}{Q:Ex→St→Prop}(sF:(n6 l&&eO n l)=true)(hH:aG H.length H=true)(h:AO P GL H.length (H++List.replicate l.length none) 0 l tm (fun aY=>∃b9 eJ,cb b9 aY=eJ∧gk H.length eJ=true∧CG P GL (.out .normal) K n eJ H Q)):CG P GL (.code (.draw l)) K n tm H Q:=by
 rw[aac]at sF;obtain⟨Bl,rs,aY,k1,k2,k3,k4,k5,k6⟩:=AO.runs (n:=n) h;have hw:WC P GL (.draw l) ⟨n,tm,H⟩ (fun e s=>e=.normal∧s=⟨n,aY,H++List.replicate l.length none⟩):=by
  refine WC.draw (σ:=⟨n,tm,H⟩) hm (qc:=fun i=>(Bl[i]? ).bind id) (rs:=rs) ?_ ?_ sF.2 (re k3) (fun i o r ho hr f args cl hg=>?_ ) ?_
  ·exact k2 _ fun j c hj=>by simp[hj]
  ·simp only[cT,sF.1,k3,Bool.true_or,aaR]
  ·have:=k6 i o r ho hr f args cl;simp only[aau]at this;exact this hg
  ·refine⟨rfl,?_⟩;exact k4
 show WC P GL (.draw l) ⟨n,tm,H⟩ (KQ P GL K Q);refine WC.post (hw.mono ?_ );rintro e s ⟨rfl,rfl⟩;obtain⟨b9,eJ,e1,e2,e3⟩:=k5;refine⟨⟨n,eJ,H⟩,ar.clean (b9:=b9) (aao _) ?_,e3⟩;unfold b_;simp only[e1,e2,acD,hH,aaR,aag]
theorem AO.nil{base i:Nat}{Hp:ah}{l:List ad}{tm:List (Nat×V)}{Q:List (Nat×V)→Prop}(hl:l.length=0)(h:Q tm):AO P GL base Hp i l tm Q:=by
 cases l with
  |nil=>exact h
  |cons o l=>simp at hl
def Bm(GL:ca)(base:Nat)(Hp:ah):Nat→Nat→List ad→List (Nat×V)→Option (List (Nat×V))
 |0,_,_,tm=>some tm
 |k+1,i,o::l,tm=>
  match bw o.op,ao o.guard tm with
   |some _,some true=>none
   |_,_=>
    match eI GL tm Hp (base+i) o none with
     |some (v,none)=>Bm GL base Hp k (i+1) l (rJ tm o.dst v)
     |_=>none
 |_+1,_,[],_=>none
theorem AO.run{base:Nat}{Hp:ah}{Q:List (Nat×V)→Prop}:∀(k:Nat){i:Nat}{l:List ad}{tm aY:List (Nat×V)},Bm GL base Hp k i l tm=some aY→AO P GL base Hp (i+k) (l.drop k) aY Q→AO P GL base Hp i l tm Q
 |0,_,_,_,_,h1,h2=>by simp only[Bm,aab]at h1;subst h1;exact h2
 |k+1,_,[],_,_,h1,_=>by simp[Bm]at h1
 |k+1,i,o::l,tm,aY,h1,h2=>by
  have key:∀v,eI GL tm Hp (base+i) o none=some (v,none)→(∀f args,bw o.op=some (f,args)→ao o.guard tm≠some true)→Bm GL base Hp k (i+1) l (rJ tm o.dst v)=some aY→AO P GL base Hp i (o::l) tm Q:=by intro v e1 e2 e3;exact⟨none,v,e1,fun f args hc hg=>absurd hg (e2 f args hc),AO.run k e3 (by rw[show i+1+k=i+(k+1) by omega];exact h2)⟩
  unfold Bm at h1;split at h1
  ·cases h1
  ·rename_i ve;split at h1
   ·rename_i v hv;refine key v hv (fun f args hc hg=>?_ ) h1;exact ve _ hc hg
   ·cases h1
theorem AO.head{base i:Nat}{Hp:ah}{o:ad}{l:List ad}{tm:List (Nat×V)}{Q:List (Nat×V)→Prop}(ho:l.head?=some o)(h:AO P GL base Hp i (o::l.drop 1) tm Q):AO P GL base Hp i l tm Q:=by
 cases l with
  |nil=>simp at ho
  |cons o' l=>simp only[List.head?_cons,aab]at ho;subst ho;exact h
theorem AO.iJ{base i d:Nat}{Hp:ah}{op:ki}{g:Option (Nat×Bool)}{af:List Nat}{l:List ad}{tm:List (Nat×V)}{Q:List (Nat×V)→Prop}{v:V}(ho:l.head?=some ⟨some d,op,g,af⟩)(hg:ao g tm=some true)(hc:bw op=none)(he:bu (aU GL tm) Hp (base+i) op=some (v,none))(hq:AO P GL base Hp (i+1) (l.drop 1) (put tm d v) Q):AO P GL base Hp i l tm Q:=by
 refine AO.head ho ⟨none,v,?_,fun f args h=>?_,hq⟩
 ·simp only[eI,hg,hc,he]
 ·simp only at h;rw[hc]at h;cases h
theorem AO.idx{base i d:Nat}{Hp:ah}{g:Option (Nat×Bool)}{af:List Nat}{l:List ad}{tm:List (Nat×V)}{Q:List (Nat×V)→Prop}{sz:Nat}{x k:a_}{es:List (List D)}{j:Nat}{e:List D}(he:es[j]? =some e)(ho:l.head?=some ⟨some d,.db sz x k,g,af⟩)(hg:ao g tm=some true)(hx:aU GL tm x=.d (.list es))(hi:dp (aU GL tm k)=some j)(hd:Nat.beq e.length sz=true)(hq:AO P GL base Hp (i+1) (l.drop 1) (put tm d (.cA e)) Q):AO P GL base Hp i l tm Q:=AO.iJ ho hg rfl (by simp only[bu,hx,hi,he,hd,aag]) hq
theorem AO.gF{base i d:Nat}{Hp:ah}{g:Option (Nat×Bool)}{af:List Nat}{l:List ad}{tm:List (Nat×V)}{Q:List (Nat×V)→Prop}{x k:a_}{s:List UInt8}{j:Nat}{b:UInt8}(he:s[j]? =some b)(ho:l.head?=some ⟨some d,.gF x k,g,af⟩)(hg:ao g tm=some true)(hx:aU GL tm x=.d (.str s))(hi:dp (aU GL tm k)=some j)(hq:AO P GL base Hp (i+1) (l.drop 1) (put tm d (.d (.int .u8 b.toNat))) Q):AO P GL base Hp i l tm Q:=AO.iJ ho hg rfl (by simp only[bu,hx,hi,he]) hq
theorem AO.Bk{α:Type}(aa:α→List D)(as:List α){base i d:Nat}{Hp:ah}{g:Option (Nat×Bool)}{af:List Nat}{l:List ad}{tm:List (Nat×V)}{Q:List (Nat×V)→Prop}{sz b:Nat}{x:a_}(cx:∀a,(aa a).length=sz)(ho:l.head?=some ⟨some d,.len .slice x,g,af⟩)(hg:ao g tm=some true)(hx:aU GL tm x=.sl b (as.length*sz) 0 as.length sz)(hH:aA Hp b=some (aJ aa as))(hq:AO P GL base Hp (i+1) (l.drop 1) (put tm d (.d (.int .i64 (.ofNat as.length)))) Q):AO P GL base Hp i l tm Q:=AO.iJ ho hg rfl (by simp only[bu,hx,zh cx hH];rfl) hq
theorem AO.OS{α:Type}(aa:α→List D)(as:List α)(p q:Nat){base i d:Nat}{Hp:ah}{g:Option (Nat×Bool)}{af:List Nat}{l:List ad}{tm:List (Nat×V)}{Q:List (Nat×V)→Prop}{sz:Nat}{x:a_}{lo hi:Option a_}(cx:∀a,(aa a).length=sz)(ho:l.head?=some ⟨some d,.eu sz x lo hi,g,af⟩)(hg:ao g tm=some true)(hx:aU GL tm x=.d (.list (as.map aa)))(jH:l_ GL tm 0 lo=some p)(js:l_ GL tm (as.map aa).length hi=some q)(CL:p≤q∧q≤as.length)(hq:AO P GL base Hp (i+1) (l.drop 1) (put tm d (.d (.list (((as.take q).drop p).map aa)))) Q):AO P GL base Hp i l tm Q:=by
 have jw:(as.map aa).all (fun e=>Nat.beq e.length sz)=true:=by rw[aaq];intro e he;obtain⟨a,_,rfl⟩:=aaG.1 he;rw[cx a,aaz]
 have hb:bounds (aU GL tm) (as.map aa).length lo hi=some (p,q):=jf jH js CL.1 (by rw[aar];exact CL.2);refine AO.iJ ho hg rfl (v:=.d (.list (((as.take q).drop p).map aa))) ?_ hq;simp only[bu,hx,jw,aag,hb,aat,acs,acq]
theorem AO.OT(p q:Nat){base i d:Nat}{Hp:ah}{g:Option (Nat×Bool)}{af:List Nat}{l:List ad}{tm:List (Nat×V)}{Q:List (Nat×V)→Prop}{x:a_}{s:List UInt8}{lo hi:Option a_}(ho:l.head?=some ⟨some d,.kY x lo hi,g,af⟩)(hg:ao g tm=some true)(hx:aU GL tm x=.d (.str s))(jH:l_ GL tm 0 lo=some p)(js:l_ GL tm s.length hi=some q)(CL:p≤q∧q≤s.length)(hq:AO P GL base Hp (i+1) (l.drop 1) (put tm d (.d (.str ((s.take q).drop p)))) Q):AO P GL base Hp i l tm Q:=by have hb:bounds (aU GL tm) s.length lo hi=some (p,q):=jf jH js CL.1 CL.2;refine AO.iJ ho hg rfl (v:=.d (.str ((s.take q).drop p))) ?_ hq;simp only[bu,hx,hb,aat]
theorem AO.jM{base i d:Nat}{Hp:ah}{g:Option (Nat×Bool)}{af:List Nat}{l:List ad}{tm:List (Nat×V)}{Q:List (Nat×V)→Prop}{f:FuncId}{args:List a_}{vs:List V}{v:V}(h:PC P GL f vs v)(ho:l.head?=some ⟨some d,.call f args,g,af⟩)(hg:ao g tm=some true)(ha:bd (aU GL tm) args=vs)(hq:AO P GL base Hp (i+1) (l.drop 1) (put tm d v) Q):AO P GL base Hp i l tm Q:=by
 subst ha;refine AO.head ho ⟨some v,v,?_,fun f' Lw hc _=>?_,hq⟩
 ·simp only[eI,hg,bw,aat]
 ·simp only[bw,aab,aae]at hc;obtain⟨rfl,rfl⟩:=hc;exact h.qX
theorem AO.done{base i:Nat}{Hp:ah}{l:List ad}{tm eJ:List (Nat×V)}{m n:Nat}{K:List Fr}{H:ah}{Q:Ex→St→Prop}(b9:List Nat)(hl:l.length=0)(e1:cb b9 tm=eJ)(e2:gk m eJ=true)(hq:CG P GL (.out .normal) K n eJ H Q):AO P GL base Hp i l tm (fun aY=>∃b9 eJ,cb b9 aY=eJ∧gk m eJ=true∧CG P GL (.out .normal) K n eJ H Q):=AO.nil hl ⟨b9,eJ,e1,e2,hq⟩
end
end Fw
/-
  Own rows that are born as empty ones (and never nil), over open data; nil rows as data.
-/
namespace Fw
open Go
def dS{α:Type}(aa:α→List D)(l:List α):dU:=.cells ((l.flatMap aa).map .d)
theorem fE{α:Type}(n:Nat)(aa:α→List D)(l:List α):cu n (dS aa l)=true:=qv n _
section
variable {P:Program}{GL:ca}
theorem po{H:ah}{ns sz bytes b len k:Nat}{cs xs:List V}(h0:0<sz)(hH:aA H b=some (.cells cs))(hl:cs.length=len*sz)(hk:xs.length=k*sz)(hx:xs.all dE=true)(hr:(len+k)*sz*(bytes+1)≤cq):cF H ns sz bytes (.sl b (len*sz) 0 len sz) xs=some (.sl b ((len+k)*sz) 0 (len+k) sz,some (b,.cells (cs++xs))):=by
 have h1:Nat.beq sz 0=false:=cw (by omega);have h2:Nat.beq (xs.length%sz) 0=true:=by rw[hk,Nat.mul_mod_left];rfl
 have uH:xs.length / sz=k:=by rw[hk,abT _ h0]
 have Bi:len*sz+xs.length=(len+k)*sz:=by rw[hk,aa3]
 have hb:Nat.ble ((len+k)*sz*(bytes+1)) cq=true:=by rw[abG];exact hr
 unfold cF;simp only[h1,h2,hx,aa',aaw,aaz,aag,hH,hl,aaE,acr,Bi,hb,uH]
theorem CG.D2{α:Type}(aa:α→List D)(as ys:List α){d:Nat}{g:Option (Nat×Bool)}{af:List Nat}{l:List ad}{K:List Fr}{n:Nat}{tm:List (Nat×V)}{H H':ah}{Q:Ex→St→Prop}{sz bytes b:Nat}{x y:a_}(cx:∀a,(aa a).length=sz)(h0:Nat.blt 0 sz=true)(ho:l.head?=some ⟨some d,.append sz bytes x y,g,af⟩)(hg:ao g tm=some true)(hx:aU GL tm x=.sl b (as.length*sz) 0 as.length sz)(hH:aA H b=some (dS aa as))(hy:cC H sz (aU GL tm y)=some ((ys.flatMap aa).map .d))(hr:(as.length+ys.length)*sz*(bytes+1)≤1099511627776)(hd:Nat.blt d n=true)(Qr:bj H b (dS aa (as++ys))=H')(hq:CG P GL (.ops (l.drop 1)) K n (put tm d (.sl b ((as++ys).length*sz) 0 (as++ys).length sz)) H' Q):CG P GL (.ops l) K n tm H Q:=by
 have M_:0<sz:=by simpa[aas]using h0
 have e1:=po (H:=H) (ns:=H.length) (sz:=sz) (bytes:=bytes) (b:=b) (len:=as.length) (k:=ys.length) (cs:=(as.flatMap aa).map .d) (xs:=(ys.flatMap aa).map .d) M_ hH (by simp[cj cx]) (by simp[cj cx]) (by simp[dE]) (by simpa[cq]using hr);refine CG.iJ ho hg (v:=.sl b ((as++ys).length*sz) 0 (as++ys).length sz) (wr:=some (b,.cells ((as.flatMap aa).map .d++(ys.flatMap aa).map .d))) ?_ ?_ hd hq
 ·simp only[bu,hy,hx,e1,aaA]
 ·rw[←Qr];simp only[aX,dS,abu,abM]
theorem vu{α:Type}{aa:α→List D}{H:ah}{b:Nat}{l:List α}(h:aA H b=some (dS aa l)):rD H b=some (l.flatMap aa):=by unfold rD;rw[h];unfold dS;exact tu _
theorem ar.JY{α:Type}(aa:α→List D)(as:List α){m n sz:Nat}{tm aY:List (Nat×V)}{H H':ah}(b s:Nat)(cx:∀a,(aa a).length=sz)(hs:get tm s=.sl b (as.length*sz) 0 as.length sz)(hH:aA H b=some (dS aa as))(ve:qq b 0 H)(e1:put (qu b tm) s (.d (.list (as.map aa)))=aY)(e2:H.set b none=H'):ar m ⟨n,tm,H⟩ ⟨n,aY,H'⟩:=by
 intro GL g w a hr;have hf:=oj (ds:=as.flatMap aa) H 0 ve;rw[aan (abK _),abS]at hf;have M9:iQ b ⟨n,tm,H⟩=some ⟨n,tm.map fun p=>(p.1,bO b (as.flatMap aa) p.2),H'⟩:=by unfold iQ;rw[vu hH];simp only[hf];rw[pn (nr hr.heap),aag,e2]
 refine(ar.trans (ar.nL M9) (ar.kJ fun t=>?_ )) GL g w a hr;subst e1;rw[ll (bO b (as.flatMap aa)) (by simp only[bO]),na];by_cases ht:t=s
 ·subst ht;rw[aan rfl,hs];left;have hle:Nat.ble (0+as.length*sz) (as.length*sz)=true:=by rw[abG];omega
  simp only[bO,aaz,aag,cj cx,hle,aaR,abz,g_ cx]
 ·rw[aal ht,lE];cases hn:fp b (get tm t)with
   |true=>left;rw[aag,eQ _ hn]
   |false=>right;rfl
theorem vv{H:ah}{b h off len sz j:Nat}(hl:dP H b h=true)(hj:j<len){GL:ca}{tm:List (Nat×V)}{x i:a_}(hx:aU GL tm x=.sl b h off len sz)(hi:dp (aU GL tm i)=some j)(ns:Nat):bu (aU GL tm) H ns (.db sz x i)=some (.ptr b h (off+j*sz),none):=by
 have:Nat.blt j len=true:=by rw[aas];exact hj
 simp only[bu,hi,hx,aaz,this,hl,aaR,aag]
end
end Fw
/-
  Boxes behind the last one that anybody speaks of are dropped.
-/
namespace Fw
open Go
theorem zi{k:Nat}(h:k<9223372036854775808):aN .i64 (Int.ofNat (k+1) - 1)=Int.ofNat k:=by rw[iz,IntKind.wrap_i64];simp only[abp];omega
theorem nt{k:Nat}(h:k<9223372036854775808):IntKind.wrap .i64 (Int.ofNat (k+1) - 1)=Int.ofNat k:=by rw[IntKind.wrap_i64];simp only[abp];omega
theorem aR(n:Nat)(cs:List V):cu n (.cells cs)=ak n cs:=rfl
theorem jg(n:Nat):cu n .nil=true:=rfl
theorem ar.trim{m n:Nat}{tm:List (Nat×V)}{H H':ah}(p:Nat)(b9:List Nat)(hm:Nat.ble m p=true)(hk:cb b9 tm=tm)(ht:gk p tm=true)(e:H.take p=H')(hh:aG p H'=true):ar m ⟨n,tm,H⟩ ⟨n,tm,H'⟩:=by refine ar.clean (b9:=b9) (aak hm) ?_;unfold b_;simp only[hk,e,ht,hh,aaR,aag]
section
variable {P:Program}{GL:ca}
theorem LQ.ret{K:List Fr}{Q:Ex→St→Prop}{R:St→Prop}{s:St}(h:Q .ret s):LQ P GL K Q R .ret s:=KQ.ret h
theorem rI.ret{rs:List iV}{R:V→ah→Prop}{v':V}{σ:St}(h:fb rs σ=some v')(e:R v' σ.hp):rI rs R .ret σ:=⟨v',h,e⟩
end
end Fw
/-
  A block whose last operations run: its end is the code's end.
-/
namespace Fw
open Go
variable {P:Program}{GL:ca}
theorem CG.Qw{l:List ad}{id n:Nat}{K:List Fr}{tm:List (Nat×V)}{H:ah}{Q:Ex→St→Prop}(h:CG P GL (.ops l) K n tm H Q):CG P GL (.ops l) (.block id::K) n tm H Q:=h
end Fw
/-
  Drawn regions that write, walked operation by operation; that the order is free is checked at the end.
-/
namespace Fw
open Go
abbrev RS:=List ((V×Wr)×List Nat)
def AW(P:Program)(GL:ca)(base:Nat):Nat→List ad→List (Nat×V)→ah→(RS→List (Nat×V)→ah→Prop)→Prop|_,[],tm,H,Q=>Q [] tm H|i,o::l,tm,H,Q=>∃cv v wr,eI GL tm H (base+i) o cv=some (v,wr)∧(∀f args,bw o.op=some (f,args)→ao o.guard tm=some true→fl P GL f (bd (aU GL tm) args) H v)∧AW P GL base (i+1) l (rJ tm o.dst v) (aX H wr) (fun rs t k=>Q (((v,wr),lq (aU GL tm) o.op)::rs) t k)
section
variable {P:Program}{GL:ca}
theorem AW.runs{base n:Nat}:∀{l:List ad}{i:Nat}{tm:List (Nat×V)}{H:ah}{Q:RS→List (Nat×V)→ah→Prop},AW P GL base i l tm H Q→∃(Bl:List (Option V))(rs:RS)(aY:List (Nat×V))(H':ah),Bl.length=l.length∧(∀qc:Nat→Option V,(∀j c,Bl[j]? =some c→qc (i+j)=c)→l3 GL base qc i l ⟨n,tm,H⟩=some rs)∧ax (fun _=>true) i l rs ⟨n,tm,H⟩=⟨n,aY,H'⟩∧Q rs aY H'∧∀k o r,l[k]? =some o→rs[k]? =some r→∀f args,bw o.op=some (f,args)→ao o.guard (ax (fun j=>decide (j<i+k)) i l rs ⟨n,tm,H⟩).tm=some true→fl P GL f (bd (aU GL (ax (fun j=>decide (j<i+k)) i l rs ⟨n,tm,H⟩).tm) args) (ax (fun j=>decide (j<i+k)) i l rs ⟨n,tm,H⟩).hp r.1.1
 |[],i,tm,H,Q,h=>⟨[],[],tm,H,rfl,fun _ _=>rfl,rfl,h,by simp⟩
 |o::l,i,tm,H,Q,h=>by
  obtain⟨cv,v,wr,h1,h2,h3⟩:=h;obtain⟨Bl,rs,aY,H',k1,k2,k4,k5,k6⟩:=AW.runs (n:=n) h3;have bj:St.fc ⟨n,tm,H⟩ o.dst v (aX H wr)=⟨n,rJ tm o.dst v,aX H wr⟩:=by unfold St.fc rJ;cases o.dst<;>rfl
  refine⟨cv::Bl,((v,wr),lq (aU GL tm) o.op)::rs,aY,H',by simp[k1],fun qc Qv=>?_,?_,k5,fun k o' r ho hr f args cl hg=>?_ ⟩
  ·have e0:qc i=cv:=by simpa using Qv 0 cv rfl
   simp only[l3,e0,h1,bj];rw[k2 qc fun j c hj=>by have:=Qv (j+1) c (by simpa using hj);rwa[show i+(j+1)=i+1+j by omega]at this]
  ·simp only[ax,aag,bj];exact k4
  ·cases k with
    |zero=>simp only[acG,aab]at ho hr;subst ho;subst hr;rw[oo _ _ _ _ _ (by omega)]at hg⊢;exact h2 f args cl hg
    |succ k=>
     simp only[acH]at ho hr;have e:i+(k+1)=i+1+k:=by omega
     have hs:ax (fun j=>decide (j<i+(k+1))) i (o::l) (((v,wr),lq (aU GL tm) o.op)::rs) ⟨n,tm,H⟩=ax (fun j=>decide (j<i+1+k)) (i+1) l rs ⟨n,rJ tm o.dst v,aX H wr⟩:=by simp only[ax,e,show decide (i<i+1+k)=true by simp;omega,aag,bj]
     rw[hs]at hg⊢;exact k6 k o' r ho hr f args cl hg
theorem CG.j3(hm:P.follows .mixedOrders=true){l:List ad}{K:List Fr}{n:Nat}{tm:List (Nat×V)}{H:ah}{Q:Ex→St→Prop}(sF:eO n l=true)(h:AW P GL H.length 0 l tm (H++List.replicate l.length none) (fun rs aY H'=>(cT l rs&&dK (H.length+l.length) rs)=true∧∃eJ H2,ar H.length ⟨n,aY,H'⟩ ⟨n,eJ,H2⟩∧CG P GL (.out .normal) K n eJ H2 Q)):CG P GL (.code (.draw l)) K n tm H Q:=by
 obtain⟨Bl,rs,aY,H',k1,k2,k4,⟨k5,k7⟩,k6⟩:=AW.runs (n:=n) h;rw[aac]at k5;have hw:WC P GL (.draw l) ⟨n,tm,H⟩ (fun e s=>e=.normal∧s=⟨n,aY,H'⟩):=by
  refine WC.draw (σ:=⟨n,tm,H⟩) hm (qc:=fun i=>(Bl[i]? ).bind id) (rs:=rs) ?_ k5.1 sF k5.2 (fun i o r ho hr f args cl hg=>?_ ) ?_
  ·exact k2 _ fun j c hj=>by simp[hj]
  ·have:=k6 i o r ho hr f args cl;simp only[aau]at this;exact this hg
  ·exact⟨rfl,k4⟩
 show WC P GL (.draw l) ⟨n,tm,H⟩ (KQ P GL K Q);refine WC.post (hw.mono ?_ );rintro e s ⟨rfl,rfl⟩;obtain⟨eJ,H2,e1,e3⟩:=k7;exact⟨⟨n,eJ,H2⟩,e1,e3⟩
theorem AW.head{base i:Nat}{o:ad}{l:List ad}{tm:List (Nat×V)}{H:ah}{Q:RS→List (Nat×V)→ah→Prop}(ho:l.head?=some o)(h:AW P GL base i (o::l.drop 1) tm H Q):AW P GL base i l tm H Q:=by
 cases l with
  |nil=>simp at ho
  |cons o' l=>simp only[List.head?_cons,aab]at ho;subst ho;exact h
theorem AW.nil{base i:Nat}{l:List ad}{tm:List (Nat×V)}{H:ah}{Q:RS→List (Nat×V)→ah→Prop}(hl:l.length=0)(h:Q [] tm H):AW P GL base i l tm H Q:=by
 cases l with
  |nil=>exact h
  |cons o l=>simp at hl
def qw(GL:ca)(base:Nat):Nat→Nat→List ad→List (Nat×V)→ah→Option (RS×List (Nat×V)×ah)
 |0,_,_,tm,H=>some ([],tm,H)
 |k+1,i,o::l,tm,H=>
  match bw o.op,ao o.guard tm with
   |some _,some true=>none
   |_,_=>
    match eI GL tm H (base+i) o none with
     |some (v,wr)=>
      match qw GL base k (i+1) l (rJ tm o.dst v) (aX H wr)with
       |some (rs,t,h)=>some (((v,wr),lq (aU GL tm) o.op)::rs,t,h)
       |none=>none
     |none=>none
 |_+1,_,[],_,_=>none
theorem AW.run{base:Nat}:∀(k:Nat){i:Nat}{l:List ad}{tm aY:List (Nat×V)}{H H':ah}{rs:RS}{Q:RS→List (Nat×V)→ah→Prop},qw GL base k i l tm H=some (rs,aY,H')→AW P GL base (i+k) (l.drop k) aY H' (fun r t h=>Q (rs++r) t h)→AW P GL base i l tm H Q
 |0,_,_,_,_,_,_,_,_,h1,h2=>by simp only[qw,aab,aae]at h1;obtain⟨rfl,rfl,rfl⟩:=h1;exact h2
 |k+1,_,[],_,_,_,_,_,_,h1,_=>by simp[qw]at h1
 |k+1,i,o::l,tm,aY,H,H',rs,Q,h1,h2=>by
  have key:∀v wr,eI GL tm H (base+i) o none=some (v,wr)→(∀f args,bw o.op=some (f,args)→ao o.guard tm≠some true)→(∃Qx,rs=((v,wr),lq (aU GL tm) o.op)::Qx∧qw GL base k (i+1) l (rJ tm o.dst v) (aX H wr)=some (Qx,aY,H'))→AW P GL base i (o::l) tm H Q:=by rintro v wr e1 e2 ⟨Qx,rfl,e3⟩;exact⟨none,v,wr,e1,fun f args hc hg=>absurd hg (e2 f args hc),AW.run k e3 (by rw[show i+1+k=i+(k+1) by omega];exact h2)⟩
  unfold qw at h1;split at h1
  ·cases h1
  ·rename_i ve;split at h1
   ·rename_i v wr hv;split at h1
    ·rename_i Qx t h hr;simp only[aab,aae]at h1;obtain⟨rfl,rfl,rfl⟩:=h1;exact key v wr hv (fun f args hc hg=>ve _ hc hg) ⟨Qx,rfl,hr⟩
    ·cases h1
   ·cases h1
theorem AW.iJ{base i d:Nat}{op:ki}{g:Option (Nat×Bool)}{af:List Nat}{l:List ad}{tm:List (Nat×V)}{H:ah}{Q:RS→List (Nat×V)→ah→Prop}{v:V}{wr:Wr}(ho:l.head?=some ⟨some d,op,g,af⟩)(hg:ao g tm=some true)(hc:bw op=none)(he:bu (aU GL tm) H (base+i) op=some (v,wr))(hq:AW P GL base (i+1) (l.drop 1) (put tm d v) (aX H wr) (fun rs t k=>Q (((v,wr),lq (aU GL tm) op)::rs) t k)):AW P GL base i l tm H Q:=by
 refine AW.head ho ⟨none,v,wr,?_,fun f args h=>?_,hq⟩
 ·simp only[eI,hg,hc,he]
 ·simp only at h;rw[hc]at h;cases h
theorem AW.idx{base i d:Nat}{g:Option (Nat×Bool)}{af:List Nat}{l:List ad}{tm:List (Nat×V)}{H:ah}{Q:RS→List (Nat×V)→ah→Prop}{sz:Nat}{x k:a_}{es:List (List D)}{j:Nat}{e:List D}(he:es[j]? =some e)(ho:l.head?=some ⟨some d,.db sz x k,g,af⟩)(hg:ao g tm=some true)(hx:aU GL tm x=.d (.list es))(hi:dp (aU GL tm k)=some j)(hd:Nat.beq e.length sz=true)(hq:AW P GL base (i+1) (l.drop 1) (put tm d (.cA e)) H (fun rs t k=>Q (((.cA e,none),[])::rs) t k)):AW P GL base i l tm H Q:=AW.iJ (v:=.cA e) (wr:=none) ho hg rfl (by simp only[bu,hx,hi,he,hd,aag]) (by simp only[lq,hx];exact hq)
theorem AW.jM{base i d:Nat}{g:Option (Nat×Bool)}{af:List Nat}{l:List ad}{tm:List (Nat×V)}{H:ah}{Q:RS→List (Nat×V)→ah→Prop}{f:FuncId}{args:List a_}{vs:List V}{v:V}(h:PC P GL f vs v)(ho:l.head?=some ⟨some d,.call f args,g,af⟩)(hg:ao g tm=some true)(ha:bd (aU GL tm) args=vs)(hq:AW P GL base (i+1) (l.drop 1) (put tm d v) H (fun rs t k=>Q (((v,none),lq (aU GL tm) (.call f args))::rs) t k)):AW P GL base i l tm H Q:=by
 subst ha;refine AW.head ho ⟨some v,v,none,?_,fun f' Lw hc _=>?_,hq⟩
 ·simp only[eI,hg,bw,aat]
 ·simp only[bw,aab,aae]at hc;obtain⟨rfl,rfl⟩:=hc;exact h.qX
def Nc:Option (RS×List (Nat×V)×ah)→RS|some x=>x.1|none=>[]
theorem AW.runK{base:Nat}(k:Nat){i:Nat}{l:List ad}{tm aY:List (Nat×V)}{H H':ah}{Q:RS→List (Nat×V)→ah→Prop}(h1:(qw GL base k i l tm H).map (fun x=>x.2)=some (aY,H'))(h2:AW P GL base (i+k) (l.drop k) aY H' (fun r t h=>Q (Nc (qw GL base k i l tm H)++r) t h)):AW P GL base i l tm H Q:=by
 cases hr:qw GL base k i l tm H with
  |none=>rw[hr]at h1;cases h1
  |some x=>obtain⟨rs,t,h⟩:=x;rw[hr]at h1 h2;simp only[aat,aab,aae]at h1;obtain⟨rfl,rfl⟩:=h1;exact AW.run k hr h2
theorem AW.fin{m n:Nat}{K:List Fr}{tm eJ:List (Nat×V)}{H H2:ah}{Q:Ex→St→Prop}(p:Nat)(b9:List Nat)(hm:Nat.ble m p=true)(e1:cb b9 tm=eJ)(e2:gk p eJ=true)(e3:H.take p=H2)(e4:aG p H2=true)(h:CG P GL (.out .normal) K n eJ H2 Q):∃eJ H2,ar m ⟨n,tm,H⟩ ⟨n,eJ,H2⟩∧CG P GL (.out .normal) K n eJ H2 Q:=by refine⟨eJ,H2,ar.clean (b9:=b9) (aak hm) ?_,h⟩;unfold b_;simp only[e1,e2,e3,e4,aaR,aag]
end
end Fw
/-
  An element appended to an own row in a drawn region that writes.
-/
namespace Fw
open Go
theorem xi{H:ah}{ns sz bytes b len k:Nat}{cs xs:List V}(h0:0<sz)(hH:aA H b=some (fT cs))(hl:cs.length=len*sz)(hk:xs.length=k*sz)(hx:xs.all dE=true)(hr:(len+k)*sz*(bytes+1)≤cq)(ew:xs≠[]):cF H ns sz bytes (.sl b (len*sz) 0 len sz) xs=some (.sl b ((len+k)*sz) 0 (len+k) sz,some (b,.cells (cs++xs))):=by
 have h1:Nat.beq sz 0=false:=cw (by omega);have h2:Nat.beq (xs.length%sz) 0=true:=by rw[hk,Nat.mul_mod_left];rfl
 have uH:xs.length / sz=k:=by rw[hk,abT _ h0]
 have Bi:len*sz+xs.length=(len+k)*sz:=by rw[hk,aa3]
 have hb:Nat.ble ((len*sz+xs.length)*(bytes+1)) cq=true:=by rw[abG,Bi];exact hr
 unfold cF;simp only[h1,h2,hx,aa',aaw,aaz,aag,hH];cases cs with
  |nil=>
   have hlen:len=0:=by
    simp only[aaY]at hl;rcases abW.1 hl.symm with h|h
    ·exact h
    ·omega
   subst hlen;simp only[fT,acp,aag,ada,aaz,aaR,abv];cases xs with
    |nil=>exact absurd rfl ew
    |cons x xs=>
     have hb:Nat.ble (k*sz*(bytes+1)) cq=true:=by rw[abG];simpa using hr
     simp only[hk,hb,aag,aau,abT _ h0]
  |cons c cs=>
   have Hb:Nat.beq (c::cs).length (len*sz)=true:=by rw[hl];exact aaz _
   simp only[fT,abN,aaw,Hb,aaz,aaR,aag,uH,Bi];rw[Bi]at hb;rw[hb];rfl
section
variable {P:Program}{GL:ca}
theorem AW.Lx{α:Type}(aa:α→List D)(as:List α)(y:α){base i d:Nat}{g:Option (Nat×Bool)}{af:List Nat}{l:List ad}{tm:List (Nat×V)}{H H':ah}{Q:RS→List (Nat×V)→ah→Prop}{sz bytes b:Nat}{x y':a_}(cx:∀a,(aa a).length=sz)(h0:Nat.blt 0 sz=true)(ho:l.head?=some ⟨some d,.append sz bytes x y',g,af⟩)(hg:ao g tm=some true)(hx:aU GL tm x=.sl b (as.length*sz) 0 as.length sz)(hH:aA H b=some (aJ aa as))(hy:cC H sz (aU GL tm y')=some ((aa y).map .d))(hr:(as.length+1)*sz*(bytes+1)≤1099511627776)(Qr:bj H b (aJ aa (as++[y]))=H')(hq:AW P GL base (i+1) (l.drop 1) (put tm d (.sl b ((as++[y]).length*sz) 0 (as++[y]).length sz)) H' (fun rs t k=>Q (((.sl b ((as++[y]).length*sz) 0 (as++[y]).length sz,some (b,aJ aa (as++[y]))),lq (aU GL tm) (.append sz bytes x y'))::rs) t k)):AW P GL base i l tm H Q:=by
 have M_:0<sz:=by simpa[aas]using h0
 have ew:(aa y).map V.d≠[]:=by intro h;have:=acM List.length h;rw[aar,cx y]at this;simp only[aaY]at this;omega
 have e1:=xi (H:=H) (ns:=base+i) (sz:=sz) (bytes:=bytes) (b:=b) (len:=as.length) (k:=1) (cs:=(as.flatMap aa).map .d) (xs:=(aa y).map .d) M_ hH (by simp[cj cx]) (by simp[cx]) (by simp[dE]) (by simpa[cq]using hr) ew;have e2:aJ aa (as++[y])=.cells ((as.flatMap aa).map .d++(aa y).map .d):=by
  unfold aJ fT;simp only[abu,abM,abr,List.flatMap_nil,acA];have:((as.flatMap aa).map V.d++(aa y).map V.d).isEmpty=false:=by
   cases h:(as.flatMap aa).map V.d++(aa y).map V.d with
    |nil=>exact absurd (List.append_eq_nil_iff.1 h).2 ew
    |cons a b=>rfl
  rw[this];rfl
 refine AW.iJ (v:=.sl b ((as++[y]).length*sz) 0 (as++[y]).length sz) (wr:=some (b,aJ aa (as++[y]))) ho hg rfl ?_ ?_
 ·simp only[bu,hy,hx,e1,aaA,abI,e2]
 ·simp only[aX,Qr];exact hq
end
end Fw
/-
  A part of a row in a drawn region that writes.
-/
namespace Fw
open Go
section
variable {P:Program}{GL:ca}
theorem AW.OS{α:Type}(aa:α→List D)(as:List α)(p q:Nat){base i d:Nat}{g:Option (Nat×Bool)}{af:List Nat}{l:List ad}{tm:List (Nat×V)}{H:ah}{Q:RS→List (Nat×V)→ah→Prop}{sz:Nat}{x:a_}{lo hi:Option a_}(cx:∀a,(aa a).length=sz)(ho:l.head?=some ⟨some d,.eu sz x lo hi,g,af⟩)(hg:ao g tm=some true)(hx:aU GL tm x=.d (.list (as.map aa)))(jH:l_ GL tm 0 lo=some p)(js:l_ GL tm (as.map aa).length hi=some q)(CL:p≤q∧q≤as.length)(hq:AW P GL base (i+1) (l.drop 1) (put tm d (.d (.list (((as.take q).drop p).map aa)))) H (fun rs t k=>Q (((.d (.list (((as.take q).drop p).map aa)),none),[])::rs) t k)):AW P GL base i l tm H Q:=by
 have jw:(as.map aa).all (fun e=>Nat.beq e.length sz)=true:=by rw[aaq];intro e he;obtain⟨a,_,rfl⟩:=aaG.1 he;rw[cx a,aaz]
 have hb:bounds (aU GL tm) (as.map aa).length lo hi=some (p,q):=jf jH js CL.1 (by rw[aar];exact CL.2);refine AW.iJ (v:=.d (.list (((as.take q).drop p).map aa))) (wr:=none) ho hg rfl ?_ ?_
 ·simp only[bu,hx,jw,aag,hb,aat,acs,acq]
 ·simp only[lq,hx];exact hq
end
end Fw
/-
  Steps that tell of a state only what is new.
-/
namespace Fw
open Go
abbrev bo(b:Bool):V:=.d (.bool b)
abbrev io(k:Int):V:=.d (.int .i64 k)
abbrev no(n:Nat):V:=.d (.int .i64 (.ofNat n))
abbrev lo{α:Type}(f:α→List D)(l:List α):V:=.d (.list (l.map f))
abbrev so(s:List UInt8):V:=.d (.str s)
@[simp] theorem OV(n:Nat)(b:Bool):an n (bo b)=true:=rfl
@[simp] theorem OW(n:Nat)(k:Int):an n (io k)=true:=rfl
@[simp] theorem OX(n k:Nat):an n (no k)=true:=rfl
@[simp] theorem OY{α:Type}(n:Nat)(f:α→List D)(l:List α):an n (lo f l)=true:=rfl
@[simp] theorem OZ(n:Nat)(s:List UInt8):an n (so s)=true:=rfl
def UY:Nat→List (Nat×V)→List (Nat×V)|_,[]=>[]|m,p::l=>bif Nat.beq (Nat.land m 1) 1 then p::UY (Nat.shiftRight m 1) l else UY (Nat.shiftRight m 1) l
def mf(m:Nat)(nw tm:List (Nat×V)):List (Nat×V):=nw.foldl (fun t p=>put t p.1 p.2) (UY m tm)
def CM(l:List (Nat×dU))(H:ah):ah:=l.foldl (fun H p=>bj H p.1 p.2) H
theorem zz:(∀n:Nat,Int.ofNat n=(n:Int))∧(∀(α β:Type)(f:α→β)(l:List α),(l.map f).length=l.length)∧(∀(α:Type)(l r:List α),(l++r).length=l.length+r.length)∧(∀(α:Type)(a:α)(l:List α),(a::l).length=l.length+1)∧(∀α:Type,([]:List α).length=0)∧(∀(α:Type)(l:List α)(i:Nat),(l.take i).length=min i l.length)∧(∀(α:Type)(l:List α)(i:Nat),(l.drop i).length=l.length - i):=⟨fun _=>rfl,fun _ _ _ _=>aar _,fun _ _ _=>aaA,fun _ _ _=>rfl,fun _=>rfl,fun _ _ _=>aaQ,fun _ _ _=>aco⟩
theorem eH(a b:Nat)(h:Int.ofNat a<Int.ofNat b:=by(try simp only[zz]at*)<;>omega):aS (Int.ofNat a) (Int.ofNat b)=true:=Qn h
theorem fP(a b:Nat)(h:Int.ofNat b≤Int.ofNat a:=by(try simp only[zz]at*)<;>omega):aS (Int.ofNat a) (Int.ofNat b)=false:=M' h
theorem tEn(a b:Nat)(h:Int.ofNat a=Int.ofNat b:=by(try simp only[zz]at*)<;>omega):bf (Int.ofNat a) (Int.ofNat b)=true:=Qo h
theorem fEn(a b:Nat)(h:Int.ofNat a≠Int.ofNat b:=by(try simp only[zz]at*)<;>omega):bf (Int.ofNat a) (Int.ofNat b)=false:=Qp h
theorem mg{a b:Int}(h:a<b:=by(try simp only[zz]at*)<;>omega):aS a b=true:=Qn h
theorem nU{a b:Int}(h:b≤a:=by(try simp only[zz]at*)<;>omega):aS a b=false:=M' h
theorem oY{a b:Int}(h:a=b:=by(try simp only[zz]at*)<;>omega):bf a b=true:=Qo h
theorem pq{a b:Int}(h:a≠b:=by(try simp only[zz]at*)<;>omega):bf a b=false:=Qp h
abbrev bF:V:=.d (.bool false)
abbrev bT:V:=.d (.bool true)
abbrev i0:V:=.d (.int .i64 0)
abbrev sE:V:=.d (.str [])
abbrev tE:V:=.tuple []
section
variable {P:Program}{GL:ca}
theorem AO.rd{base:Nat}{Hp:ah}{Q:List (Nat×V)→Prop}(k:Nat)(nw:List (Nat×V)){i:Nat}{l:List ad}{tm:List (Nat×V)}(h1:Bm GL base Hp k i l tm=some (nw.foldl (fun t p=>put t p.1 p.2) tm))(h2:AO P GL base Hp (i+k) (l.drop k) (nw.foldl (fun t p=>put t p.1 p.2) tm) Q):AO P GL base Hp i l tm Q:=AO.run k h1 h2
theorem AW.rd{base:Nat}(k:Nat)(nw:List (Nat×V)){i:Nat}{l:List ad}{tm:List (Nat×V)}{H H':ah}{Q:RS→List (Nat×V)→ah→Prop}(h1:(qw GL base k i l tm H).map (fun x=>x.2)=some (nw.foldl (fun t p=>put t p.1 p.2) tm,H'))(h2:AW P GL base (i+k) (l.drop k) (nw.foldl (fun t p=>put t p.1 p.2) tm) H' (fun r t h=>Q (Nc (qw GL base k i l tm H)++r) t h)):AW P GL base i l tm H Q:=AW.runK k h1 h2
theorem AW.rk{base:Nat}(k:Nat)(nw:List (Nat×V))(hd:List (Nat×dU)){i:Nat}{l:List ad}{tm:List (Nat×V)}{H:ah}{Q:RS→List (Nat×V)→ah→Prop}(h1:(qw GL base k i l tm H).map (fun x=>x.2)=some (nw.foldl (fun t p=>put t p.1 p.2) tm,CM hd H))(h2:AW P GL base (i+k) (l.drop k) (nw.foldl (fun t p=>put t p.1 p.2) tm) (CM hd H) (fun r t h=>Q (Nc (qw GL base k i l tm H)++r) t h)):AW P GL base i l tm H Q:=AW.runK k h1 h2
theorem CG.ix{d:Nat}{g:Option (Nat×Bool)}{af:List Nat}{l:List ad}{K:List Fr}{n:Nat}{tm:List (Nat×V)}{H:ah}{Q:Ex→St→Prop}{sz:Nat}{x i:a_}{es:List (List D)}{j:Nat}{e:List D}(he:es[j]? =some e)(ho:l.head?=some ⟨some d,.db sz x i,g,af⟩)(hc:(ao g tm,aU GL tm x,dp (aU GL tm i),Nat.blt d n&&Nat.beq e.length sz)=(some true,.d (.list es),some j,true))(hq:CG P GL (.ops (l.drop 1)) K n (put tm d (.cA e)) H Q):CG P GL (.ops l) K n tm H Q:=by simp only[aae]at hc;exact CG.idx he ho hc.1 hc.2.1 hc.2.2.1 hc.2.2.2 hq
theorem CG.O0{d:Nat}{g:Option (Nat×Bool)}{af:List Nat}{l:List ad}{K:List Fr}{n:Nat}{tm:List (Nat×V)}{H:ah}{Q:Ex→St→Prop}{x i:a_}{s:List UInt8}{j:Nat}{b:UInt8}(he:s[j]? =some b)(ho:l.head?=some ⟨some d,.gF x i,g,af⟩)(hc:(ao g tm,aU GL tm x,dp (aU GL tm i),Nat.blt d n)=(some true,.d (.str s),some j,true))(hq:CG P GL (.ops (l.drop 1)) K n (put tm d (.d (.int .u8 b.toNat))) H Q):CG P GL (.ops l) K n tm H Q:=by simp only[aae]at hc;exact CG.gF he ho hc.1 hc.2.1 hc.2.2.1 hc.2.2.2 hq
theorem CG.pg{d:Nat}{g:Option (Nat×Bool)}{af:List Nat}{l:List ad}{K:List Fr}{n:Nat}{tm:List (Nat×V)}{H:ah}{Q:Ex→St→Prop}{f:FuncId}{args:List a_}{vs:List V}{v:V}(h:PC P GL f vs v)(ho:l.head?=some ⟨some d,.call f args,g,af⟩)(hc:(ao g tm,bd (aU GL tm) args,Nat.blt d n)=(some true,vs,true))(hq:CG P GL (.ops (l.drop 1)) K n (put tm d v) H Q):CG P GL (.ops l) K n tm H Q:=by simp only[aae]at hc;exact CG.jM h ho hc.1 hc.2.1 hc.2.2 hq
theorem CG.zj{α:Type}(aa:α→List D)(as ys:List α){d:Nat}{g:Option (Nat×Bool)}{af:List Nat}{l:List ad}{K:List Fr}{n:Nat}{tm:List (Nat×V)}{H:ah}{Q:Ex→St→Prop}{sz bytes:Nat}{x y:a_}(b:Nat)(cx:∀a,(aa a).length=sz)(ho:l.head?=some ⟨some d,.append sz bytes x y,g,af⟩)(hc:(Nat.blt 0 sz,ao g tm,aU GL tm x,aA H b,Nat.blt d n)=(true,some true,.sl b (as.length*sz) 0 as.length sz,some (aJ aa as),true))(hy:cC H sz (aU GL tm y)=some ((ys.flatMap aa).map .d))(hr:(as.length+ys.length)*sz*(bytes+1)≤1099511627776)(hq:CG P GL (.ops (l.drop 1)) K n (put tm d (.sl b ((as++ys).length*sz) 0 (as++ys).length sz)) (bj H b (aJ aa (as++ys))) Q):CG P GL (.ops l) K n tm H Q:=by simp only[aae]at hc;exact CG.Qq aa as ys cx hc.1 ho hc.2.1 hc.2.2.1 hc.2.2.2.1 hy hr hc.2.2.2.2 rfl hq
theorem CG.TF{α:Type}(aa:α→List D)(as ys:List α){d:Nat}{g:Option (Nat×Bool)}{af:List Nat}{l:List ad}{K:List Fr}{n:Nat}{tm:List (Nat×V)}{H:ah}{Q:Ex→St→Prop}{sz bytes:Nat}{x y:a_}(b:Nat)(cx:∀a,(aa a).length=sz)(ho:l.head?=some ⟨some d,.append sz bytes x y,g,af⟩)(hc:(Nat.blt 0 sz,ao g tm,aU GL tm x,aA H b,Nat.blt d n)=(true,some true,.sl b (as.length*sz) 0 as.length sz,some (dS aa as),true))(hy:cC H sz (aU GL tm y)=some ((ys.flatMap aa).map .d))(hr:(as.length+ys.length)*sz*(bytes+1)≤1099511627776)(hq:CG P GL (.ops (l.drop 1)) K n (put tm d (.sl b ((as++ys).length*sz) 0 (as++ys).length sz)) (bj H b (dS aa (as++ys))) Q):CG P GL (.ops l) K n tm H Q:=by simp only[aae]at hc;exact CG.D2 aa as ys cx hc.1 ho hc.2.1 hc.2.2.1 hc.2.2.2.1 hy hr hc.2.2.2.2 rfl hq
theorem sp(b:Bool){G:Prop}(t:b=true→G)(f:b=false→G):G:=(Bool.eq_false_or_eq_true b).elim t f
theorem Hc(a b:Int){G:Prop}(t:aS a b=true→a<b→G)(f:aS a b=false→b≤a→G):G:=sp (aS a b) (fun h=>t h (YB h)) (fun h=>f h (YC h))
theorem fF(a b:Int){G:Prop}(t:bf a b=true→a=b→G)(f:bf a b=false→a≠b→G):G:=sp (bf a b) (fun h=>t h (YD h)) (fun h=>f h (YE h))
theorem zk(a b:Int){G:Prop}(t:(a==b)=true→a=b→G)(f:(a==b)=false→a≠b→G):G:=sp (a==b) (fun h=>t h (UU h)) (fun h=>f h (UV h))
theorem Qy(p:Prop) [Decidable p] {G:Prop} (t:decide p=true→p→G) (f:decide p=false→¬p→G):G:=sp (decide p) (fun h=>t h (ach h)) (fun h=>f h (acY h))
theorem dT(a b:Nat){G:Prop}(t:aS (.ofNat a) (.ofNat b)=true→a<b→G)(f:aS (.ofNat a) (.ofNat b)=false→b≤a→G):G:=sp _ (fun h=>t h (Int.ofNat_lt.1 (YB h))) (fun h=>f h (Int.ofNat_le.1 (YC h)))
theorem iD(a b:Nat){G:Prop}(t:bf (.ofNat a) (.ofNat b)=true→a=b→G)(f:bf (.ofNat a) (.ofNat b)=false→a≠b→G):G:=sp _ (fun h=>t h (Int.ofNat_inj.1 (YD h))) (fun h=>f h (fun e=>YE h (acM _ e)))
end
end Fw
/-
  A nil row in a cell of a box, known as empty data from here on.
-/
namespace Fw
open Go
theorem ar.zl{m n:Nat}{tm:List (Nat×V)}{H H':ah}(b j:Nat){cs:List V}(hb:aA H b=some (.cells cs))(hj:cs[j]? =some .ab)(e1:bj H b (.cells (cs.set j (.d (.list []))))=H'):ar m ⟨n,tm,H⟩ ⟨n,tm,H'⟩:=by
 subst e1;intro GL g w a hr;have bL:=jO hb;have hlen:(bj H b (.cells (cs.set j (.d (.list []))))).length=H.length:=eN bL;refine⟨g,⟨hr.defers,hr.size,hr.tmps,⟨fun c hc=>?_,fun c x hx=>?_,fun c y hy=>?_,hr.heap.inj,hr.heap.fo⟩,hr.dQ⟩,fun g0 w0 _ h=>h⟩
 ·have:=hr.heap.cK c hc;simp only[hlen]at this⊢;exact this
 ·obtain⟨h1,y,h2,h3⟩:=hr.heap.live c x hx;refine⟨h1,?_⟩;show∃y,aA _ c=some y∧_;rw[er];by_cases hc:c=b
  ·subst hc;rw[aan rfl];refine⟨_,rfl,?_⟩;rw[hb]at h2;simp only[aab]at h2;subst h2;cases x with
    |cells aO cp cur=>
     simp only[RB]at h3⊢;obtain⟨r1,r2,r3,cc,e,r4,r5,r6⟩:=h3;refine⟨by simp[r1],?_,by simp[r3],cc,e,r4,r5,?_ ⟩
     ·rw[aaq]at r2⊢;intro v hv;rcases abZ hv with h|h
      ·exact r2 v h
      ·subst h;rfl
     ·rw[ab9];refine aP.Bj (ch.refl _ _) ?_ cs _ j hj r6;simp only[RV,Rd];exact Or.inl ⟨by trivial,Or.inl (by trivial)⟩
    |_=>simp only[RB]at h3
  ·rw[aal hc];exact⟨y,h2,h3⟩
 ·rw[er]at hy;by_cases hc:c=b
  ·subst hc;obtain⟨x,hx⟩:=hr.heap.back c _ hb;exact⟨x,hx⟩
  ·rw[aal hc]at hy;exact hr.heap.back c y hy
end Fw
/-
  Equality of two structs in a walk; the state told anew.
-/
namespace Fw
open Go
def tw(ks:List Nat)(tm:List (Nat×V)):List (Nat×V):=ks.map fun k=>(k,get tm k)
theorem zm(tm:List (Nat×V)):∀(ks:List Nat)(s:Nat),get (tw ks tm) s=get tm s∨get (tw ks tm) s=.any
 |[],s=>.inr rfl
 |k::ks,s=>by
  show get ((k,get tm k)::tw ks tm) s=_∨get ((k,get tm k)::tw ks tm) s=_;simp only[get];cases h:Nat.beq k s with
   |true=>left;rw[aah h];rfl
   |false=>exact zm tm ks s
section
variable {P:Program}{GL:ca}
theorem CG.FJ{d:Nat}{neg:Bool}{ks:List cB}{x y:a_}{g:Option (Nat×Bool)}{af:List Nat}{l:List ad}{K:List Fr}{n:Nat}{tm:List (Nat×V)}{H:ah}{Q:Ex→St→Prop}{xs ys:List V}{r:Bool}(ho:l.head?=some ⟨some d,.FJ neg ks x y,g,af⟩)(hc:(ao g tm,aU GL tm x,aU GL tm y,Nat.blt d n)=(some true,.agg xs,.agg ys,true))(he:jk ks xs ys=some r)(hq:CG P GL (.ops (l.drop 1)) K n (put tm d (.d (.bool (bif neg then !r else r)))) H Q):CG P GL (.ops l) K n tm H Q:=by simp only[aae]at hc;exact CG.iJ ho hc.1 (v:=.d (.bool (bif neg then !r else r))) (wr:=none) (by simp only[bu,hc.2.1,hc.2.2.1,he]) rfl hc.2.2.2 hq
theorem AO.FJ{base i d:Nat}{Hp:ah}{neg:Bool}{ks:List cB}{x y:a_}{g:Option (Nat×Bool)}{af:List Nat}{l:List ad}{tm:List (Nat×V)}{Q:List (Nat×V)→Prop}{xs ys:List V}{r:Bool}(ho:l.head?=some ⟨some d,.FJ neg ks x y,g,af⟩)(hc:(ao g tm,aU GL tm x,aU GL tm y)=(some true,.agg xs,.agg ys))(he:jk ks xs ys=some r)(hq:AO P GL base Hp (i+1) (l.drop 1) (put tm d (.d (.bool (bif neg then !r else r)))) Q):AO P GL base Hp i l tm Q:=by simp only[aae]at hc;exact AO.iJ ho hc.1 rfl (v:=.d (.bool (bif neg then !r else r))) (by simp only[bu,hc.2.1,hc.2.2,he]) hq
theorem CG.is{cur:kj}{K:List Fr}{n:Nat}{tm:List (Nat×V)}{H:ah}{Q:Ex→St→Prop}(aY:List (Nat×V))(H':ah)(h:(tm,H)=(aY,H'))(hq:CG P GL cur K n aY H' Q):CG P GL cur K n tm H Q:=by obtain⟨rfl,rfl⟩:=Prod.mk.inj h;exact hq
theorem CG.b9{cur:kj}(hc:CK cur=false)(ks:List Nat){K:List Fr}{n:Nat}{tm:List (Nat×V)}{H:ah}{Q:Ex→St→Prop}(h:CG P GL cur K n (tw ks tm) H Q):CG P GL cur K n tm H Q:=CG.kJ hc (fun s=>zm tm ks s) h
theorem CG.CN{cur:kj}{K:List Fr}{n:Nat}{tm:List (Nat×V)}{H:ah}{Q:Ex→St→Prop}(H':ah)(h:H=H')(hq:CG P GL cur K n tm H' Q):CG P GL cur K n tm H Q:=by subst h;exact hq
theorem AW.is{base i:Nat}{l:List ad}{tm:List (Nat×V)}{H:ah}{Q:RS→List (Nat×V)→ah→Prop}(aY:List (Nat×V))(H':ah)(h:(tm,H)=(aY,H'))(hq:AW P GL base i l aY H' Q):AW P GL base i l tm H Q:=by obtain⟨rfl,rfl⟩:=Prod.mk.inj h;exact hq
end
end Fw
/-
  An own row of which other boxes speak, known as data from here on.
-/
namespace Fw
open Go
def uO(b:Nat)(yh new:V):List V→List V→Prop|[],[]=>True|v::vs,u::us=>((v=yh∧u=new)∨(fp b v=true∧u=v))∧uO b yh new vs us|_,_=>False
def jB(b:Nat)(yh new:V):Nat→ah→ah→Prop|_,[],[]=>True|i,x::H,y::H'=>((i=b∧y=none)∨(i≠b∧gn b x∧y=x)∨(i≠b∧∃cs us,x=some (.cells cs)∧y=some (.cells us)∧uO b yh new cs us))∧jB b yh new (i+1) H H'|_,_,_=>False
theorem zn{b:Nat}{ds:List D}{yh new:V}(ho:bO b ds yh=new):∀(cs us:List V),uO b yh new cs us→gG b ds cs=us
 |[],[],_=>by simp only[gG]
 |v::vs,u::us,h=>by
  simp only[uO]at h;simp only[gG,zn ho vs us h.2];rcases h.1 with⟨rfl,rfl⟩|⟨h1,rfl⟩
  ·rw[ho]
  ·rw[eQ _ h1]
 |[],_::_,h=>by simp only[uO]at h
 |_::_,[],h=>by simp only[uO]at h
theorem tx{b:Nat}{ds:List D}{yh new:V}(ho:bO b ds yh=new):∀(H H':ah)(i:Nat),jB b yh new i H H'→eU b ds i H=H'
 |[],[],_,_=>by simp only[eU]
 |x::H,y::H',i,h=>by
  simp only[jB]at h;simp only[eU,tx ho H H' (i+1) h.2];rcases h.1 with⟨rfl,rfl⟩|⟨h1,h2,rfl⟩|⟨h1,cs,us,rfl,rfl,h2⟩
  ·rw[aaz,aag]
  ·rw[cw h1,aaw];cases y with
    |none=>rfl
    |some y=>rw[aat,pk h2]
  ·rw[cw h1,aaw,aat,ez,zn ho cs us h2]
 |[],_::_,_,h=>by simp only[jB]at h
 |_::_,[],_,h=>by simp only[jB]at h
theorem Hd{b:Nat}{yh new:V}(hn:dE new=true):∀(cs us:List V),uO b yh new cs us→cs.all dE=true→us.all dE=true
 |[],[],_,_=>rfl
 |v::vs,u::us,h,k=>by
  simp only[uO]at h;simp only[aaF,aac]at k⊢;refine⟨?_,Hd hn vs us h.2 k.2⟩;rcases h.1 with⟨rfl,rfl⟩|⟨h1,rfl⟩
  ·exact hn
  ·exact k.1
 |[],_::_,h,_=>by simp only[uO]at h
 |_::_,[],h,_=>by simp only[uO]at h
theorem Bn{b:Nat}{yh new:V}(hn:dE new=true):∀(H H':ah)(i:Nat),jB b yh new i H H'→H.all fk=true→H'.all fk=true
 |[],[],_,_,_=>rfl
 |x::H,y::H',i,h,k=>by
  simp only[jB]at h;simp only[aaF,aac]at k⊢;refine⟨?_,Bn hn H H' (i+1) h.2 k.2⟩;rcases h.1 with⟨rfl,rfl⟩|⟨h1,h2,rfl⟩|⟨h1,cs,us,rfl,rfl,h2⟩
  ·rfl
  ·exact k.1
  ·exact Hd hn cs us h2 k.1
 |[],_::_,_,h,_=>by simp only[jB]at h
 |_::_,[],_,h,_=>by simp only[jB]at h
theorem ar.JZ{α:Type}(aa:α→List D)(as:List α){m n sz:Nat}{tm aY:List (Nat×V)}{H H':ah}(b:Nat)(cx:∀a,(aa a).length=sz)(hH:aA H b=some (aJ aa as))(hr:jB b (.sl b (as.length*sz) 0 as.length sz) (.d (.list (as.map aa))) 0 H H')(e1:qu b tm=aY):ar m ⟨n,tm,H⟩ ⟨n,aY,H'⟩:=by
 intro GL g w a vd;have hle:Nat.ble (0+as.length*sz) (as.length*sz)=true:=by rw[abG];omega
 have ho:bO b (as.flatMap aa) (.sl b (as.length*sz) 0 as.length sz)=.d (.list (as.map aa)):=by simp only[bO,aaz,aag,cj cx,hle,aaR,abz,g_ cx]
 have hf:=tx ho H H' 0 hr;have M9:iQ b ⟨n,tm,H⟩=some ⟨n,tm.map fun p=>(p.1,bO b (as.flatMap aa) p.2),H'⟩:=by unfold iQ;rw[zg hH];simp only[hf];rw[Bn rfl H H' 0 hr (nr vd.heap),aag]
 refine(ar.trans (ar.nL M9) (ar.kJ fun t=>?_ )) GL g w a vd;subst e1;rw[ll (bO b (as.flatMap aa)) (by simp only[bO]),lE];cases hn:fp b (get tm t)with
  |true=>left;rw[aag,eQ _ hn]
  |false=>right;rfl
end Fw
/-
  A row of one cell-list told as it stands, appended to an own row in a drawn region; the nil row in it known as empty data behind it.
-/
namespace Fw
open Go
section
variable {P:Program}{GL:ca}
end
@[simp] theorem xj(n:Nat)(xs:List V):∀(l:List D),ak n (l.map .d++xs)=ak n xs|[]=>rfl|d::l=>by rw[aax,abo,ak,xj n xs l];rfl
theorem ar.eqs{m n:Nat}{tm aY:List (Nat×V)}{H H':ah}(h:(tm,H)=(aY,H')):ar m ⟨n,tm,H⟩ ⟨n,aY,H'⟩:=by obtain⟨rfl,rfl⟩:=Prod.mk.inj h;exact ar.refl _ _
end Fw
