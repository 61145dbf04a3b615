/-
  Cells of own rows at open places: looked at and written.
-/
import Derived.Test.YtgfgckimecpmlaaGreatDoorFg
import Derived.Test.YtgfgckimecpmlaaGreatDoorFe
set_option linter.unusedSimpArgs false
set_option linter.unusedVariables false
namespace Fw
open Go
theorem vw{α:Type}{aa:α→List D}{sz:Nat}(h:∀a,(aa a).length=sz):∀(l:List α)(j:Nat),(l.flatMap aa).drop (j*sz)=(l.drop j).flatMap aa
 |[],j=>by simp
 |a::l,0=>by simp
 |a::l,j+1=>by rw[abr,acv,←vw h l j,abF,Nat.add_comm,←abQ,←h a,List.drop_left]
theorem lF{α:Type}{l:List α}{i:Nat}{x:α}(h:l[i]? =some x):l.drop i=x::l.drop (i+1):=by obtain⟨bL,he⟩:=aai.1 h;rw[aa6 bL,he]
theorem J0{α:Type}{aa:α→List D}{sz:Nat}(h:∀a,(aa a).length=sz){l:List α}{j:Nat}{x:α}(hx:l[j]? =some x){o n:Nat}(Qz:o+n≤sz):((l.flatMap aa).drop (j*sz+o)).take n=((aa x).drop o).take n:=by rw[←abQ,vw h,lF hx,abr,List.drop_append_of_le_length (by rw[h];omega),acg (by rw[aco,h];omega)]
theorem fG{α:Type}{aa:α→List D}{sz:Nat}(h:∀a,(aa a).length=sz)(h0:0<sz){l:List α}(hl:l≠[]):aJ aa l=.cells ((l.flatMap aa).map .d):=by
 have:(l.flatMap aa).length≠0:=by
  rw[cj h];cases l with
   |nil=>exact absurd rfl hl
   |cons a l=>simp only[aav,abF];omega
 unfold aJ fT;cases hf:l.flatMap aa with
  |nil=>rw[hf]at this;exact absurd rfl this
  |cons d ds=>rfl
theorem vz{α:Type}{aa:α→List D}{sz:Nat}(h:∀a,(aa a).length=sz){l:List α}{j o n b off:Nat}{x:α}{H:ah}(hx:l[j]? =some x)(hH:aA H b=some (aJ aa l))(h0:0<sz)(Qz:o+n≤sz)(ho:off=j*sz+o):cY H n (.ptr b (l.length*sz) off)=some ((((aa x).drop o).take n).map .d):=by
 have ew:l≠[]:=by rintro rfl;simp at hx
 have bL:j<l.length:=(aai.1 hx).1;have hm:(j+1)*sz≤l.length*sz:=aaM _ bL;rw[abF]at hm;subst ho;have e1:(Nat.beq ((l.flatMap aa).map V.d).length (l.length*sz)&&Nat.ble (j*sz+o+n) (l.length*sz))=true:=by rw[aar,cj h,aaz,aba (by omega)];rfl
 simp only[cY,hH,fG h h0 ew,e1,aag,←acs,←acq,J0 h hx Qz]
theorem lG{α:Type}:∀(b' a b c:List α),b'.length=b.length→putCells (a++(b++c)) a.length b'=a++(b'++c)
 |[],a,b,c,hl=>by
  cases b with
   |nil=>rfl
   |cons _ _=>simp at hl
 |v::vs,a,b,c,hl=>by
  cases b with
   |nil=>simp at hl
   |cons x b=>
    simp only[aav,Nat.add_right_cancel_iff]at hl;have e:(a++(x::b++c)).set a.length v=(a++[v])++(b++c):=by simp
    have:=lG vs (a++[v]) b c hl;rw[aaA]at this;show putCells ((a++(x::b++c)).set a.length v) (a.length+1) vs=_;rw[e];simpa using this
theorem vA{α:Type}{aa:α→List D}{l:List α}{j:Nat}{x:α}(hx:l[j]? =some x):l.flatMap aa=(l.take j).flatMap aa++(aa x++(l.drop (j+1)).flatMap aa):=by
 conv=>lhs;rw[←abx j l,lF hx]
 rw[abu,abr]
theorem vD{α:Type}{l:List α}{j:Nat}{x y:α}(hx:l[j]? =some x):l.set j y=l.take j++y::l.drop (j+1):=by obtain⟨bL,_⟩:=aai.1 hx;rw[List.set_eq_take_append_cons_drop,aan bL]
theorem tz{α:Type}{aa:α→List D}{sz:Nat}(h:∀a,(aa a).length=sz){l:List α}{j b off:Nat}{x y:α}{H:ah}{v:V}(hx:l[j]? =some x)(hH:aA H b=some (aJ aa l))(h0:0<sz)(ho:off=j*sz)(hv:bK v=(aa y).map .d):dz H sz (.ptr b (l.length*sz) off) v=some (b,aJ aa (l.set j y)):=by
 have ew:l≠[]:=by rintro rfl;simp at hx
 have bL:j<l.length:=(aai.1 hx).1;have Nf:l.set j y≠[]:=by intro e;have:=acM List.length e;simp at this;exact ew this
 have hm:(j+1)*sz≤l.length*sz:=aaM _ bL;rw[abF]at hm;subst ho;have e1:(Nat.beq ((l.flatMap aa).map V.d).length (l.length*sz)&&Nat.ble (j*sz+sz) (l.length*sz)&&Nat.beq ((aa y).map V.d).length sz&&((aa y).map V.d).all dE)=true:=by rw[aar,cj h,aaz,aba (by omega),aar,h,aaz];simp[dE]
 have e2:putCells ((l.flatMap aa).map V.d) (j*sz) ((aa y).map V.d)=((l.set j y).flatMap aa).map V.d:=by
  have hlen:((l.take j).flatMap aa).length=j*sz:=by rw[cj h,aaQ,abX (Nat.le_of_lt bL)]
  rw[vA hx,vD hx,abu,abr,abM,abM,abM,abM];have:=lG ((aa y).map V.d) (((l.take j).flatMap aa).map V.d) ((aa x).map V.d) (((l.drop (j+1)).flatMap aa).map V.d) (by simp[h]);rw[aar,hlen]at this;exact this
 simp only[dz,hH,fG h h0 ew,fG h h0 Nf,hv,e1,aag,e2]
section
variable {P:Program}{GL:ca}
theorem CG.Ng{α:Type}(aa:α→List D)(as:List α)(j o:Nat){y:α}{d:Nat}{m:Nat}{agg:Bool}{g:Option (Nat×Bool)}{af:List Nat}{l:List ad}{K:List Fr}{n:Nat}{tm:List (Nat×V)}{H:ah}{Q:Ex→St→Prop}{sz b off:Nat}{a:a_}{v:V}(cx:∀a,(aa a).length=sz)(hy:as[j]? =some y)(ho:l.head?=some ⟨some d,.load m agg a,g,af⟩)(hc:(Nat.blt 0 sz,ao g tm,aU GL tm a,aA H b,Nat.blt d n,Nat.ble (o+m) sz)=(true,some true,.ptr b (as.length*sz) off,some (aJ aa as),true,true))(xk:off=j*sz+o)(hv:oW agg ((((aa y).drop o).take m).map .d)=some v)(hq:CG P GL (.ops (l.drop 1)) K n (put tm d v) H Q):CG P GL (.ops l) K n tm H Q:=by simp only[aae]at hc;refine CG.iJ ho hc.2.1 (v:=v) (wr:=none) ?_ rfl hc.2.2.2.2.1 hq;simp only[bu,hc.2.2.1,vz cx hy hc.2.2.2.1 (by simpa[aas]using hc.1) (aak hc.2.2.2.2.2) xk,hv,aat]
theorem CG.D3{op:ki}{g:Option (Nat×Bool)}{af:List Nat}{l:List ad}{K:List Fr}{n:Nat}{tm:List (Nat×V)}{H H':ah}{Q:Ex→St→Prop}{v:V}{wr:Wr}(ho:l.head?=some ⟨none,op,g,af⟩)(hg:ao g tm=some true)(he:bu (aU GL tm) H H.length op=some (v,wr))(hH:aX H wr=H')(hq:CG P GL (.ops (l.drop 1)) K n tm H' Q):CG P GL (.ops l) K n tm H Q:=by subst hH;exact WO.head ho (WO.bu (v:=v) (wr:=wr) (aL:=⟨n,tm,aX H wr⟩) hg he (by rw[b6]) hq)
theorem CG.UZ{α:Type}(aa:α→List D)(as:List α)(j:Nat){y z:α}{g:Option (Nat×Bool)}{af:List Nat}{l:List ad}{K:List Fr}{n:Nat}{tm:List (Nat×V)}{H:ah}{Q:Ex→St→Prop}{sz b off:Nat}{a x:a_}(cx:∀a,(aa a).length=sz)(hy:as[j]? =some y)(ho:l.head?=some ⟨none,.store sz a x,g,af⟩)(hc:(Nat.blt 0 sz,ao g tm,aU GL tm a,aA H b,bK (aU GL tm x))=(true,some true,.ptr b (as.length*sz) off,some (aJ aa as),(aa z).map .d))(xk:off=j*sz)(hq:CG P GL (.ops (l.drop 1)) K n tm (bj H b (aJ aa (as.set j z))) Q):CG P GL (.ops l) K n tm H Q:=by simp only[aae]at hc;refine CG.D3 ho hc.2.1 (v:=.any) (wr:=some (b,aJ aa (as.set j z))) ?_ rfl hq;simp only[bu,hc.2.2.1,tz cx hy hc.2.2.2.1 (by simpa[aas]using hc.1) xk hc.2.2.2.2,aat]
theorem qx{α:Type}{aa:α→List D}{as:List α}{H:ah}{b sz:Nat}(cx:∀a,(aa a).length=sz)(hH:aA H b=some (aJ aa as)):dP H b (as.length*sz)=true:=by
 unfold dP;rw[hH];have hl:=cj cx as;unfold aJ fT;cases h:as.flatMap aa with
  |nil=>rw[h]at hl;simp only[ac',acp,aag,←hl,aaY,aaz]
  |cons d ds=>rw[h]at hl;simp only[aax,abN,aaw,←hl,aav,aar,aaz]
theorem CG.rh{α:Type}(aa:α→List D)(as:List α)(b j:Nat){d:Nat}{g:Option (Nat×Bool)}{af:List Nat}{l:List ad}{K:List Fr}{n:Nat}{tm:List (Nat×V)}{H:ah}{Q:Ex→St→Prop}{sz len:Nat}{x k:a_}(cx:∀a,(aa a).length=sz)(hj:j<len)(ho:l.head?=some ⟨some d,.db sz x k,g,af⟩)(hc:(ao g tm,aU GL tm x,aA H b,dp (aU GL tm k),Nat.blt d n)=(some true,.sl b (as.length*sz) 0 len sz,some (aJ aa as),some j,true))(hq:CG P GL (.ops (l.drop 1)) K n (put tm d (.ptr b (as.length*sz) (j*sz))) H Q):CG P GL (.ops l) K n tm H Q:=by simp only[aae]at hc;refine CG.iJ ho hc.1 (v:=.ptr b (as.length*sz) (j*sz)) (wr:=none) ?_ rfl hc.2.2.2.2 hq;have:=vv (qx cx hc.2.2.1) hj hc.2.1 hc.2.2.2.1 H.length;rwa[aau]at this
theorem CG.QA{α:Type}(aa:α→List D)(as:List α)(b p:Nat){d:Nat}{g:Option (Nat×Bool)}{af:List Nat}{l:List ad}{K:List Fr}{n:Nat}{tm:List (Nat×V)}{H:ah}{Q:Ex→St→Prop}{sz:Nat}{x k:a_}(cx:∀a,(aa a).length=sz)(hp:p≤as.length)(ho:l.head?=some ⟨some d,.eu sz x none (some k),g,af⟩)(hc:(ao g tm,aU GL tm x,aA H b,dp (aU GL tm k),Nat.blt d n)=(some true,.sl b (as.length*sz) 0 as.length sz,some (aJ aa as),some p,true))(hq:CG P GL (.ops (l.drop 1)) K n (put tm d (.sl b (as.length*sz) 0 p sz)) H Q):CG P GL (.ops l) K n tm H Q:=by simp only[aae]at hc;have hb:bounds (aU GL tm) as.length none (some k)=some (0,p):=jf rfl hc.2.2.2.1 (abK _) hp;refine CG.iJ ho hc.1 (v:=.sl b (as.length*sz) 0 p sz) (wr:=none) ?_ rfl hc.2.2.2.2 hq;simp only[bu,hc.2.1,aaz,qx cx hc.2.2.1,aaR,aag,hb,aat,uE,aa',abe,aaw,ada,aau,abS]
theorem CO(H:ah)(f:Nat)(x:D):fi H f (.d x)=some x:=by cases f<;>rfl
theorem He{f:V→Option D}(h:∀x,f (.d x)=some x):∀(l:List D),bJ f (l.map .d)=some l|[]=>rfl|a::l=>by simp only[aax,bJ,h,He h l]
theorem vE{α:Type}{aa:α→List D}{sz:Nat}(h:∀a,(aa a).length=sz)(h0:0<sz){H:ah}{b p f:Nat}{l:List α}(hH:aA H b=some (aJ aa l))(hp:p≤l.length):fi H (f+1) (.sl b (l.length*sz) 0 p sz)=some (.list ((l.take p).map aa)):=by
 cases l with
  |nil=>
   have:p=0:=by simpa using hp
   subst this;simp only[fi,hH,G'];rfl
  |cons a l=>
   have hm:p*sz≤(a::l).length*sz:=aaM _ hp;have e1:(Nat.beq (((a::l).flatMap aa).map V.d).length ((a::l).length*sz)&&Nat.ble (0+p*sz) ((a::l).length*sz))=true:=by rw[aar,cj h,aaz,aba (by omega)];rfl
   have e2:((((a::l).flatMap aa).map V.d).drop 0).take (p*sz)=((((a::l).take p).flatMap aa).map V.d):=by
    rw[abz,←acq];congr 1;have hs:(a::l).flatMap aa=((a::l).take p).flatMap aa++((a::l).drop p).flatMap aa:=by rw[←abu,abx]
    rw[hs,acg (by rw[cj h,aaQ,abX hp];exact aao _),abf (by rw[cj h,aaQ,abX hp];exact aao _)]
   have e3:eL sz p (((a::l).take p).flatMap aa)=((a::l).take p).map aa:=by have:=g_ h ((a::l).take p);rwa[aaQ,abX hp]at this
   simp only[fi,hH,fG h h0 (List.cons_ne_nil a l),e1,aag,e2,He (CO H f),e3]
theorem AW.D3{base i:Nat}{op:ki}{g:Option (Nat×Bool)}{af:List Nat}{l:List ad}{tm:List (Nat×V)}{H:ah}{Q:RS→List (Nat×V)→ah→Prop}{v:V}{wr:Wr}(ho:l.head?=some ⟨none,op,g,af⟩)(hg:ao g tm=some true)(hc:bw op=none)(he:bu (aU GL tm) H (base+i) op=some (v,wr))(hq:AW P GL base (i+1) (l.drop 1) tm (aX H wr) (fun rs t k=>Q (((v,wr),lq (aU GL tm) op)::rs) t k)):AW P GL base i l tm H Q:=by
 refine AW.head ho ⟨none,v,wr,?_,fun f args h=>?_,hq⟩
 ·simp only[eI,hg,hc,he]
 ·simp only at h;rw[hc]at h;cases h
theorem AW.rh{α:Type}(aa:α→List D)(as:List α)(b j:Nat){base i d:Nat}{g:Option (Nat×Bool)}{af:List Nat}{l:List ad}{tm:List (Nat×V)}{H:ah}{Q:RS→List (Nat×V)→ah→Prop}{sz len:Nat}{x k:a_}(cx:∀a,(aa a).length=sz)(hj:j<len)(ho:l.head?=some ⟨some d,.db sz x k,g,af⟩)(hc:(ao g tm,aU GL tm x,aA H b,dp (aU GL tm k))=(some true,.sl b (as.length*sz) 0 len sz,some (aJ aa as),some j))(hq:AW P GL base (i+1) (l.drop 1) (put tm d (.ptr b (as.length*sz) (j*sz))) H (fun rs t k'=>Q (((.ptr b (as.length*sz) (j*sz),none),lq (aU GL tm) (.db sz x k))::rs) t k')):AW P GL base i l tm H Q:=by simp only[aae]at hc;refine AW.iJ ho hc.1 rfl (v:=.ptr b (as.length*sz) (j*sz)) (wr:=none) ?_ hq;have:=vv (qx cx hc.2.2.1) hj hc.2.1 hc.2.2.2 (base+i);rwa[aau]at this
theorem AW.Ng{α:Type}(aa:α→List D)(as:List α)(j o:Nat){y:α}{base i d:Nat}{m:Nat}{agg:Bool}{g:Option (Nat×Bool)}{af:List Nat}{l:List ad}{tm:List (Nat×V)}{H:ah}{Q:RS→List (Nat×V)→ah→Prop}{sz b off:Nat}{a:a_}{v:V}(cx:∀a,(aa a).length=sz)(hy:as[j]? =some y)(ho:l.head?=some ⟨some d,.load m agg a,g,af⟩)(hc:(Nat.blt 0 sz,ao g tm,aU GL tm a,aA H b,Nat.ble (o+m) sz)=(true,some true,.ptr b (as.length*sz) off,some (aJ aa as),true))(xk:off=j*sz+o)(hv:oW agg ((((aa y).drop o).take m).map .d)=some v)(hq:AW P GL base (i+1) (l.drop 1) (put tm d v) H (fun rs t k'=>Q (((v,none),lq (aU GL tm) (.load m agg a))::rs) t k')):AW P GL base i l tm H Q:=by simp only[aae]at hc;refine AW.iJ ho hc.2.1 rfl (v:=v) (wr:=none) ?_ hq;simp only[bu,hc.2.2.1,vz cx hy hc.2.2.2.1 (by simpa[aas]using hc.1) (aak hc.2.2.2.2) xk,hv,aat]
theorem AW.UZ{α:Type}(aa:α→List D)(as:List α)(j:Nat){y z:α}{base i:Nat}{g:Option (Nat×Bool)}{af:List Nat}{l:List ad}{tm:List (Nat×V)}{H:ah}{Q:RS→List (Nat×V)→ah→Prop}{sz b off:Nat}{a x:a_}(cx:∀a,(aa a).length=sz)(hy:as[j]? =some y)(ho:l.head?=some ⟨none,.store sz a x,g,af⟩)(hc:(Nat.blt 0 sz,ao g tm,aU GL tm a,aA H b,bK (aU GL tm x))=(true,some true,.ptr b (as.length*sz) off,some (aJ aa as),(aa z).map .d))(xk:off=j*sz)(hq:AW P GL base (i+1) (l.drop 1) tm (bj H b (aJ aa (as.set j z))) (fun rs t k'=>Q (((.any,some (b,aJ aa (as.set j z))),lq (aU GL tm) (.store sz a x))::rs) t k')):AW P GL base i l tm H Q:=by simp only[aae]at hc;refine AW.D3 ho hc.2.1 rfl (v:=.any) (wr:=some (b,aJ aa (as.set j z))) ?_ hq;simp only[bu,hc.2.2.1,tz cx hy hc.2.2.2.1 (by simpa[aas]using hc.1) xk hc.2.2.2.2,aat]
end
end Fw
/-
  Rows born empty: appended to in drawn regions, and known as data where cells speak of them.
-/
namespace Fw
open Go
section
variable {P:Program}{GL:ca}
theorem AW.D2{α:Type}(aa:α→List D)(as ys:List α){base i d:Nat}{g:Option (Nat×Bool)}{af:List Nat}{l:List ad}{tm:List (Nat×V)}{H:ah}{Q:RS→List (Nat×V)→ah→Prop}{sz bytes:Nat}{x y:a_}(b:Nat)(cx:∀a,(aa a).length=sz)(ho:l.head?=some ⟨some d,.append sz bytes x y,g,af⟩)(hc:(Nat.blt 0 sz,ao g tm,aU GL tm x,aA H b)=(true,some true,.sl b (as.length*sz) 0 as.length sz,some (dS aa as)))(hy:cC H sz (aU GL tm y)=some ((ys.flatMap aa).map .d))(hr:(as.length+ys.length)*sz*(bytes+1)≤1099511627776)(hq:AW P GL base (i+1) (l.drop 1) (put tm d (.sl b ((as++ys).length*sz) 0 (as++ys).length sz)) (bj H b (dS aa (as++ys))) (fun rs t k=>Q (((.sl b ((as++ys).length*sz) 0 (as++ys).length sz,some (b,dS aa (as++ys))),lq (aU GL tm) (.append sz bytes x y))::rs) t k)):AW P GL base i l tm H Q:=by
 simp only[aae]at hc;have M_:0<sz:=by simpa[aas]using hc.1
 have e1:=po (H:=H) (ns:=base+i) (sz:=sz) (bytes:=bytes) (b:=b) (len:=as.length) (k:=ys.length) (cs:=(as.flatMap aa).map .d) (xs:=(ys.flatMap aa).map .d) M_ hc.2.2.2 (by simp[cj cx]) (by simp[cj cx]) (by simp[dE]) (by simpa[cq]using hr);refine AW.iJ (v:=.sl b ((as++ys).length*sz) 0 (as++ys).length sz) (wr:=some (b,dS aa (as++ys))) ho hc.2.1 rfl ?_ hq;simp only[bu,hy,hc.2.2.1,e1,aaA,dS,abu,abM]
end
theorem ar.QB{α:Type}(aa:α→List D)(as:List α){m n sz:Nat}{tm aY:List (Nat×V)}{H H':ah}(b:Nat)(cx:∀a,(aa a).length=sz)(hH:aA H b=some (dS aa as))(hr:jB b (.sl b (as.length*sz) 0 as.length sz) (.d (.list (as.map aa))) 0 H H')(e1:qu b tm=aY):ar m ⟨n,tm,H⟩ ⟨n,aY,H'⟩:=by
 intro GL g w a vd;have hle:Nat.ble (0+as.length*sz) (as.length*sz)=true:=by rw[abG];omega
 have ho:bO b (as.flatMap aa) (.sl b (as.length*sz) 0 as.length sz)=.d (.list (as.map aa)):=by simp only[bO,aaz,aag,cj cx,hle,aaR,abz,g_ cx]
 have hf:=tx ho H H' 0 hr;have M9:iQ b ⟨n,tm,H⟩=some ⟨n,tm.map fun p=>(p.1,bO b (as.flatMap aa) p.2),H'⟩:=by unfold iQ;rw[vu hH];simp only[hf];rw[Bn rfl H H' 0 hr (nr vd.heap),aag]
 refine(ar.trans (ar.nL M9) (ar.kJ fun t=>?_ )) GL g w a vd;subst e1;rw[ll (bO b (as.flatMap aa)) (by simp only[bO]),lE];cases hn:fp b (get tm t)with
  |true=>left;rw[aag,eQ _ hn]
  |false=>right;rfl
end Fw
/-
  Nil rows handed on as arguments.
-/
namespace Fw
open Go
section
variable {P:Program}{GL:ca}
def mO:List V→List V→Prop|[],[]=>True|a::as,b::bs=>(a=b∨(a=.ab∧b=.d (.list [])))∧mO as bs|_,_=>False
theorem mO.TG{g:G}{w:World}:∀{as bs:List V}{vs:List Value},mO as bs→aP g w as vs→aP g w bs vs
 |[],[],_,_,h=>h
 |a::as,b::bs,[],_,h=>by simp only[aP]at h
 |a::as,b::bs,v::vs,hr,h=>by
  simp only[aP]at h⊢;obtain⟨jW,wL⟩:=hr;refine⟨?_,mO.TG wL h.2⟩;rcases jW with rfl|⟨rfl,rfl⟩
  ·exact h.1
  ·have:=h.1;simp only[RV]at this;simp only[RV,Rd];exact .inl ⟨trivial,.inl this⟩
 |[],_::_,_,hr,_=>by simp only[mO]at hr
 |_::_,[],_,hr,_=>by simp only[mO]at hr
theorem PC.nil{f:FuncId}{args q0:List V}{v:V}(h:PC P GL f q0 v)(hr:mO args q0):PC P GL f args v:=⟨h.1,fun g w vs dI h1 h2 h3=>h.2 g w vs (mO.TG hr dI) h1 h2 h3⟩
theorem CG.U0{i:Nat}{n:Nat}{tm:List (Nat×V)}{H:ah}{rs:List iV}{R:V→ah→Prop}{v':V}(h:fb rs ⟨n,tm,H⟩=some v')(e:R v' H):CG P GL (.out (.exit i)) [.block i] n tm H (rI rs R):=eP.exit (show rI rs R .normal ⟨n,tm,H⟩from⟨v',h,e⟩)
end
end Fw
/-
  A drawn region in parts: some operations all come ahead of the others; between the parts the state may be told anew.
-/
namespace Fw
open Go
section
variable {P:Program}{GL:ca}
def oq(k:Nat)(o:ad):ad:={o with after:=(o.after.filter fun e=>Nat.ble k e).map (· - k)}
def j4(k:Nat)(l:List ad):List ad:=(l.drop k).map (oq k)
def Hf(m:Nat):List Nat→Bool|[]=>true|r::rs=>Nat.beq (Nat.land r (2^m - 1)) (2^m - 1)&&Hf m rs
def Hg(k m:Nat)(l:List ad):Bool:=kC 0 (j4 k l)&&Hf m ((cM 0 [] (j4 k l)).drop m)
def DP(P:Program)(GL:ca)(mm:Nat)(l:List ad)(k:Nat)(σ:St)(Q:Ex→St→Prop):Prop:=∀(ops:Array Oper),iW P ops.toList true ops.toList=some l→∀(listed:Array Bool) g w a g0 w0,listed.size=ops.size→(∀j,listed.getD j false=decide (j<k))→R GL g w a σ→(∀b,g0.cK b→b<mm)→ch g0 w0 g w→wpAny P .any ops (cr GL g0 w0 Q) (ops.size - k) listed a w
theorem zo{m:Nat}:∀{rs:List Nat}{i:Nat},Hf m rs=true→i<rs.length→∀j,j<m→Nat.testBit (rs.getD i 0) j=true
 |[],i,_,h,_,_=>by simp at h
 |r::rs,0,h,_,j,hj=>by
  simp only[Hf,aac]at h;have e:=aah h.1;have h1:Nat.testBit (Nat.land r (2^m - 1)) j=true:=by rw[e,Nat.testBit_two_pow_sub_one];simpa using hj
  rw[Gp,aac]at h1;simpa using h1.1
 |r::rs,i+1,h,hi,j,hj=>by simp only[Hf,aac]at h;rw[acV];exact zo h.2 (by simpa using hi) j hj
theorem xl{l:List ad}{K:Nat→Bool}(hb:kC 0 l=true)(hK:gU l K):∀j i,Nat.testBit ((cM 0 [] l).getD j 0) i=true→K j=true→K i=true:=by
 intro j;induction j using Nat.strongRecOn with
  |_ j ih=>
   intro i hi hj;have pQ:j<l.length:=by
    rcases aaW j l.length with h|h
    ·exact h
    ·rw[aaD,acm (by rw[dJ];exact h)]at hi;simp at hi
   have ho:l[j]? =some l[j]:=aaf pQ;obtain⟨e,h4,h5⟩:=lu hb (fun e m hm ew=>by simp[my]at hm;exact absurd hm.symm ew) j _ ho i hi;have PV:=hK j _ ho hj e h4;have bL:=jv hb j _ ho e h4;rcases h5 with rfl|⟨h5,h6⟩|⟨h5,h6⟩
   ·exact PV
   ·omega
   ·exact ih e (by omega) i (by simpa using h6) PV
theorem D4{k:Nat}{l:List ad}{i:Nat}{o:ad}(h:l[k+i]? =some o):(j4 k l)[i]? =some (oq k o):=by simp only[j4,aaO,aa7,h,aat]
theorem D5{k:Nat}{l:List ad}{i:Nat}{o:ad}(h:(j4 k l)[i]? =some o):∃o',l[k+i]? =some o'∧o=oq k o':=by simp only[j4,aaO,aa7,aad]at h;obtain⟨o',h1,h2⟩:=h;exact⟨o',h1,h2.symm⟩
theorem qy{k:Nat}{o:ad}{e:Nat}:e∈(oq k o).after↔k+e∈o.after:=by
 simp only[oq,aaG,aay,abG];constructor
 ·rintro⟨x,⟨h1,h2⟩,rfl⟩;rwa[show k+(x - k)=x by omega]
 ·intro h;exact⟨k+e,⟨h,by omega⟩,by omega⟩
theorem WC.qz{l:List ad}{σ:St}{Q:Ex→St→Prop}(hm:P.follows .mixedOrders=true)(h:DP P GL σ.hp.length l 0 σ Q):WC P GL (.draw l) σ Q:=by
 intro code hc g w rX hr;obtain⟨id,ops,rfl,hl⟩:∃id ops,code=.region id ops true∧iW P ops.toList true ops.toList=some l:=by
  cases code with
   |region id ops draw=>
    simp only[aH]at hc;split at hc
    ·rename_i l' FL;cases draw with
      |false=>simp at hc
      |true=>simp at hc;subst hc;exact⟨id,ops,rfl,FL⟩
    ·cases hc
   |seq=>simp only[aH]at hc;split at hc<;>simp at hc
   |cond=>simp only[aH]at hc;split at hc<;>simp at hc
   |_=>simp[aH]at hc
 refine wp_region_any hm ?_;have dY:∀j,(Array.replicate ops.size false).getD j false=false:=by intro j;rw[aaj,ab2];split<;>rfl
 exact h ops hl (Array.replicate ops.size false) g _ rX g w (by simp) (fun j=>by rw[dY];simp) (hr.drawn _) (fun b hb=>hr.heap.cK b hb) (ch.drawn g w _)
theorem DP.done{mm:Nat}{l:List ad}{σ:St}{Q:Ex→St→Prop}(h:Q .normal σ):DP P GL mm l l.length σ Q:=by
 intro ops hl listed g w a g0 w0 cx hK hR hm hE;obtain⟨hlen,_⟩:=gV hl;rw[hlen,acj];refine⟨?_,g,σ,hR,hE,h⟩;unfold Region.ready;rw[aaX];intro j hj;simp only[aaJ]at hj;have h1:=hK j;rw[hlen,aaK hj]at h1;have h2:listed.getD j true=true:=by rw[aaj]at h1⊢;rw[Array.getElem?_eq_getElem (by omega)]at h1⊢;exact h1
 simp[h2]
theorem DP.tidy{mm:Nat}{l:List ad}{k:Nat}{σ aL:St}{Q:Ex→St→Prop}(ht:ar mm σ aL)(h:DP P GL mm l k aL Q):DP P GL mm l k σ Q:=by intro ops hl listed g w a g0 w0 cx hK hR hm hE;obtain⟨g',h1,h2⟩:=ht GL g w a hR;exact h ops hl listed g' w a g0 w0 cx hK h1 hm (h2 g0 w0 hm hE)
theorem DP.part{mm:Nat}{l:List ad}{k:Nat}(m:Nat){σ:St}{Q:Ex→St→Prop}{qc:Nat→Option V}{rs:List ((V×Wr)×List Nat)}{lp:List ad}(O1:(j4 k l).take m=lp)(hm:Nat.ble (k+m) l.length=true)(Hh:Hg k m l=true)(ey:l3 GL σ.hp.length qc 0 lp (b8 σ lp.length)=some rs)(eF:cT lp rs=true)(dN:eO σ.n lp=true)(o9:dK (σ.hp.length+lp.length) rs=true)(hq:∀(i:Nat)(o:ad)(r:(V×Wr)×List Nat),lp[i]? =some o→rs[i]? =some r→∀f args,bw o.op=some (f,args)→ao o.guard (dr lp rs (b8 σ lp.length) i).tm=some true→fl P GL f (bd (aU GL (dr lp rs (b8 σ lp.length) i).tm) args) (dr lp rs (b8 σ lp.length) i).hp r.1.1)(h:DP P GL mm l (k+m) (ax (fun _=>true) 0 lp rs (b8 σ lp.length)) Q):DP P GL mm l k σ Q:=by
 intro ops hl xn g w rX g0 w0 U1 Nh hr ZE ZF;have hm:=aak hm;simp only[Hg,aac]at Hh;obtain⟨hlen,dD⟩:=gV hl;have ZG:lp.length=m:=by rw[←O1];simp[j4];omega
 have QC:∀i,i<m→∀o,l[k+i]? =some o→lp[i]? =some (oq k o):=fun i hi o ho=>by rw[←O1,aaL,aan hi];exact D4 ho
 have YG:∀i o,lp[i]? =some o→(j4 k l)[i]? =some o:=fun i o ho=>by
  rw[←O1,aaL]at ho;split at ho
  ·exact ho
  ·cases ho
 obtain⟨MI,MJ⟩:=mz ey;have yK:=jZ eF MI;have sX:∀(i:Nat)(o:ad),lp[i]? =some o→∀d,o.dst=some d→d<σ.n:=by intro i o ho d hd;have:=(aaq.1 dN) o (aap ho);rw[hd]at this;simpa[aas]using this
 have dd:∀r∈rs,∀b,bq r.1.2=some b→b<σ.hp.length+lp.length:=by intro r hr b hb;have:=(aaq.1 o9) r hr;rw[hb]at this;simpa[aas]using this
 generalize n7:b8 σ lp.length=dj at*;have nC:dj.hp.length=σ.hp.length+lp.length:=by rw[←n7];simp[b8]
 have MK:dj.n=σ.n:=by rw[←n7];rfl
 have key:∀(c_:Nat)(listed:Array Bool)(g1:G)(w1:World)(a1:Act),listed.size=ops.size→(∀j,j<k→listed.getD j false=true)→(∀j,k+m≤j→listed.getD j false=false)→((List.range m).filter fun j=> !listed.getD (k+j) false).length=c_→gU lp (fun j=>listed.getD (k+j) false)→R GL g1 w1 a1 (ax (fun j=>listed.getD (k+j) false) 0 lp rs dj)→ch g w g1 w1→(∀b,g1.cK b→b<σ.hp.length∨∃j,listed.getD (k+j) false=true∧b=σ.hp.length+j)→wpAny P .any ops (cr GL g0 w0 Q) (c_+(ops.size - (k+m))) listed a1 w1:=by
  intro c_;induction c_ with
   |zero=>
    intro listed g1 w1 a1 cx jH js iv iq hR hE gQ;have jw:∀j,j<m→listed.getD (k+j) false=true:=by intro j hj;have:=aby iv;rw[aaX]at this;have:=this j (by simpa using hj);simpa using this
    rw[aau];refine h ops hl listed g1 w1 a1 g0 w0 cx (fun j=>?_ ) ?_ ZE (ZF.trans hE)
    ·rcases aaW j k with h1|h1
     ·rw[jH j h1,aaK (by omega)]
     ·rcases aaW j (k+m)with h2|h2
      ·have:=jw (j - k) (by omega);rw[show k+(j - k)=j by omega]at this;rw[this,aaK h2]
      ·rw[js j h2,aaZ (by omega)]
    ·rw[bZ (K':=fun j=>listed.getD (k+j) false) (fun j hj=>by simp only[aau];exact(jw j (by omega)).symm)];exact hR
   |succ c_ ih=>
    intro listed g1 w1 a1 cx jH js iv iq hR hE gQ;have uJ:∃j,j<m∧listed.getD (k+j) false=false:=by
     have ew:((List.range m).filter fun j=> !listed.getD (k+j) false)≠[]:=by intro e;rw[e]at iv;simp at iv
     obtain⟨j,hj⟩:=ab1 _ ew;rw[aay]at hj;exact⟨j,by simpa using hj.1,by simpa using hj.2⟩
    rw[show c_+1+(ops.size - (k+m))=(c_+(ops.size - (k+m)))+1 by omega];constructor
    ·intro n8;exfalso;obtain⟨j,⟨FN,rW⟩,yE⟩:=vb uJ;have Gs:ops[k+j]? =some ops[k+j]:=Array.getElem?_eq_getElem (by omega);obtain⟨o,ho,_,_,_,iI⟩:=dD (k+j) _ Gs;have UE:j<rs.length:=by omega
     have rZ:=bA (QC j FN o ho) (aaf UE);have:k+j∈Region.ready .any ops listed:=by
      unfold Region.ready;rw[aay];refine⟨by rw[aaJ];omega,?_ ⟩;have h2:listed.getD (k+j) true=false:=by rw[aaj]at rW⊢;rw[Array.getElem?_eq_getElem (by omega)]at rW⊢;exact rW
      simp only[h2,abd,aaE,Gs,aat,aaN,aaB];intro e he;cases hb:Region.binds .any e with
       |false=>rfl
       |true=>
        simp only[aa',abO];have FO:e.on∈o.after:=by rw[iI];simp only[ct,aaG,aay];exact⟨e,⟨by simpa using he,hb⟩,rfl⟩
        rcases aaW e.on k with h1|h1
        ·exact jH _ h1
        ·have bL:=yK.before j _ rZ (e.on - k) (qy.2 (by rwa[show k+(e.on - k)=e.on by omega]));cases OO:listed.getD e.on false with
          |true=>rfl
          |false=>have:=yE (e.on - k) ⟨by omega,by rwa[show k+(e.on - k)=e.on by omega]⟩;omega
     rw[n8]at this;cases this
    ·intro i0 hi;unfold Region.ready at hi;rw[aay]at hi;have rZ:i0<ops.size:=by simpa using hi.1
     have sY:ops[i0]? =some ops[i0]:=Array.getElem?_eq_getElem rZ;have lj:=hi.2;simp only[aac,aaU,sY,aat,aaN,aaB]at lj;obtain⟨o0,DQ,ei,lh,hd,iI⟩:=dD i0 _ sY;have Nh:listed.getD i0 false=false:=by have:=lj.1;rw[aaj]at this⊢;rw[Array.getElem?_eq_getElem (by omega)]at this⊢;exact this
     have CP:∀e∈o0.after,listed.getD e false=true:=by intro e he;rw[iI]at he;simp only[ct,aaG,aay]at he;obtain⟨ed,⟨vf,rV⟩,rfl⟩:=he;have:=lj.2 ed (by simpa using vf);simpa[rV]using this
     have Cd:k≤i0:=by
      rcases aaW i0 k with h1|h1
      ·rw[jH i0 h1]at Nh;cases Nh
      ·exact h1
     obtain⟨i,rfl⟩:∃i,i0=k+i:=⟨i0 - k,by omega⟩;have sN:i<m:=by
      rcases aaW i m with h1|h1
      ·exact h1
      ·exfalso;obtain⟨j,FN,rW⟩:=uJ;have U2:(j4 k l).length=l.length - k:=by simp[j4]
       have U3:Nat.testBit ((cM 0 [] (j4 k l)).getD i 0) j=true:=by have:=zo (m:=m) (i:=i - m) Hh.2 (by rw[aco,dJ,U2];omega) j FN;rw[aaD,aa7,show m+(i - m)=i by omega,←aaD]at this;exact this
       have hC:gU (j4 k l) (fun j=>listed.getD (k+j) false||decide (j=i)):=by
        intro j' o' iR Ly e he;simp only[aa1,aam]at Ly⊢;rcases Ly with Ly|rfl
        ·have Tq:j'<m:=by
          rcases aaW j' m with h2|h2
          ·exact h2
          ·rw[js (k+j') (by omega)]at Ly;cases Ly
         left;refine iq j' o' ?_ Ly e he;rw[←O1,aaL,aan Tq];exact iR
        ·obtain⟨o2,k1,rfl⟩:=D5 iR;rw[DQ]at k1;simp only[aab]at k1;subst k1;exact .inl (CP _ (qy.1 he))
       have:=xl Hh.1 hC i j U3 (by simp);simp only[aa1,aam]at this;rcases this with h2|h2
       ·rw[rW]at h2;cases h2
       ·omega
     obtain⟨o,ho,ei,lh,hd,dA⟩:∃o,lp[i]? =some o∧(bD P (ops[k+i]).op).getD .bad=o.op∧fJ ops.toList ops[k+i]=some o.guard∧(ops[k+i]).dst=o.dst∧∀e∈o.after,listed.getD (k+e) false=true:=⟨oq k o0,QC i sN o0 DQ,ei,lh,hd,fun e he=>CP _ (qy.1 he)⟩;have Gu:i<rs.length:=by omega
     have sZ:rs[i]? =some rs[i]:=aaf Gu;obtain⟨r,jW,wL,DO⟩:=MJ i _ ho;rw[sZ]at jW;simp only[aab]at jW;simp only[aau]at wL DO;have qY:listed.getD (k+i) false=false:=Nh;have A2:=bA ho sZ;have nK:∀{j:Nat}{y:lT},(gK lp rs)[j]? =some y→gT {dst:=o.dst,lk:=dq o,rd:=rs[i].2,ws:=bq rs[i].1.2,after:=o.after} y=true→listed.getD (k+j) false=decide (j<i):=fun hy hm=>agree yK iq ho qY dA A2 hy hm (by rw[ng];exact hm)
     have A3:∀t∈dq o,get (ax (fun j=>listed.getD (k+j) false) 0 lp rs dj).tm t=get (dr lp rs dj i).tm t:=by
      intro t ht;refine kD rfl (fun j o' h1 h2=>?_ );simp only[aau];have A4:j<rs.length:=by have:=(aai.1 h1).1;omega
      have fB:=bA h1 (aaf A4);refine nK fB ?_;unfold gT;have:nM o'.dst (dq o)=true:=iY.2 ⟨t,h2,ht⟩;simp[this]
     have Gv:∀b∈lq (aU GL (dr lp rs dj i).tm) o.op,aA (ax (fun j=>listed.getD (k+j) false) 0 lp rs dj).hp b=aA (dr lp rs dj i).hp b:=by
      intro b hb;refine kE rfl (fun j r' h1 h2=>?_ );simp only[aau];have pQ:j<lp.length:=by have:=(aai.1 h1).1;omega
      have fB:=bA (aaf pQ) h1;refine nK fB ?_;unfold gT;have:nM (bq r'.1.2) rs[i].2=true:=iY.2 ⟨b,h2,by rw[jW,DO];exact hb⟩;simp[this]
     have qd:=lx (GL:=GL) (ns:=σ.hp.length+i) (cv:=qc i) A3 Gv;have A5:eI GL (dr lp rs dj i).tm (dr lp rs dj i).hp (σ.hp.length+i) o (qc i)=some r.1:=wL;rw[A5]at qd;have A6:∀x∈looks o.op,aU GL (ax (fun j=>listed.getD (k+j) false) 0 lp rs dj).tm x=aU GL (dr lp rs dj i).tm x:=fun x hx=>kF (fun t ht=>A3 t (by simp only[dq,aaV,ab_];exact .inl ⟨x,hx,ht⟩))
     have ML:ao o.guard (ax (fun j=>listed.getD (k+j) false) 0 lp rs dj).tm=ao o.guard (dr lp rs dj i).tm:=gj (fun d w hd=>A3 d (by simp[dq,hd]));unfold wpOp;simp only[sY];have r_:=rY (P:=P) (GL:=GL) (ops:=ops) (v:=r.1.1) (wr:=r.1.2) ei lh hd qd (fun f args hc Ch=>by
      rw[ML]at Ch;have:=hq i o rs[i] ho sZ f args hc Ch;rw[jW]at this;have Ln:bd (aU GL (ax (fun j=>listed.getD (k+j) false) 0 lp rs dj).tm) args=bd (aU GL (dr lp rs dj i).tm) args:=by refine dR (fun x hx=>A6 x ?_ );cases mC:o.op<;>rw[mC]at hc<;>simp[bw]at hc;obtain⟨rfl,rfl⟩:=hc;simpa[looks]using hx
      rw[Ln];refine this.congr (fun b hb=>Gv b ?_ );cases mC:o.op<;>rw[mC]at hc<;>simp[bw]at hc;obtain⟨rfl,rfl⟩:=hc;simpa only[lq]using hb) hR (by
      intro yI;rcases gQ _ yI with h1|⟨j,h1,h2⟩
      ·omega
      ·have:j=i:=by omega
       subst this;rw[qY]at h1;cases h1) (fun d yI=>by rw[eG,MK];exact sX i o ho d yI) (wpAny P .any ops (cr GL g0 w0 Q) (c_+(ops.size - (k+m))) (listed.setIfInBounds (k+i) true)) (cr GL g0 w0 Q) (by
      intro g2 w2 a2 Jz Cm MM;have rE:∀j,(listed.setIfInBounds (k+i) true).getD (k+j) false=df (fun j=>listed.getD (k+j) false) i j:=by
       intro j;simp only[df,aaj];by_cases hj:j=i
       ·subst hj;rw[aaI (by omega)];simp
       ·rw[aaC (by omega)];simp[hj]
      have YH:∀j,j≠k+i→(listed.setIfInBounds (k+i) true).getD j false=listed.getD j false:=by intro j hj;simp only[aaj];rw[aaC (fun e=>hj e.symm)]
      have mD:ax (fun j=>(listed.setIfInBounds (k+i) true).getD (k+j) false) 0 lp rs dj=ax (df (fun j=>listed.getD (k+j) false) i) 0 lp rs dj:=bZ (fun j _=>rE _);refine ih _ g2 w2 a2 (by simpa using cx) (fun j hj=>by rw[YH j (by omega)];exact jH j hj) (fun j hj=>by rw[YH j (by omega)];exact js j hj) ?_ ?_ ?_ (hE.trans Cm) ?_
      ·have e1:(fun j=> !(listed.setIfInBounds (k+i) true).getD (k+j) false)=fun j=> !listed.getD (k+j) false&& !decide (j=i):=by funext j;rw[rE j];simp[df]
       rw[e1];have n9:∀(m:Nat)(f:Nat→Bool),i<m→f i=true→((List.range m).filter f).length=((List.range m).filter fun j=>f j&& !decide (j=i)).length+1:=by
        intro m f;induction m with
         |zero=>intro h;omega
         |succ m JA=>
          intro sN Gw;rw[aca,aa9,aa9,aaA,aaA];rcases aaW i m with h1|h1
          ·rw[JA h1 Gw];have:m≠i:=by omega
           simp[abi,this];split<;>simp<;>omega
          ·have:m=i:=by omega
           subst this;have s5:(List.range m).filter f=(List.range m).filter fun j=>f j&& !decide (j=m):=by
            refine acJ (fun j hj=>?_ );have:j≠m:=by have:=aaJ.1 hj;omega
            simp[this]
           rw[←s5];simp[abi,Gw]
       have:=n9 m (fun j=> !listed.getD (k+j) false) sN (by simp[qY]);rw[iv]at this;omega
      ·intro j o' iR hj e he;simp only[rE]at hj⊢;simp only[df,aa1,aam]at hj⊢;rcases hj with hj|rfl
       ·exact .inl (iq j o' iR hj e he)
       ·rw[ho]at iR;simp only[aab]at iR;subst iR;exact .inl (dA e he)
      ·rw[mD];refine Jz.congr ?_ (fun t=>?_ ) ?_
       ·rw[eG];have:∀(s:St)(v:V)(H:ah),(s.fc o.dst v H).n=s.n:=by intro s v H;cases o.dst<;>rfl
        rw[this,eG]
       ·rw[iZ (k:=i) (by omega) ho sZ qY (by omega) (fun j o' h1 h2 h3 h4 h5=>by
         simp only[aau]at h5;have A4:j<rs.length:=by have:=(aai.1 h1).1;omega
         have fB:=bA h1 (aaf A4);have:=nK fB (by unfold gT;have:gL o.dst o'.dst=true:=c7.2 ⟨t,h4,h3⟩;simp[this]);rw[h5]at this;simpa using this.symm),iu,jW]
       ·have AZ:∀(s:St)(v:V)(H:ah),(s.fc o.dst v H).hp=H:=by intro s v H;cases o.dst<;>rfl
        rw[AZ];refine mA ?_ (fun b=>?_ )
        ·rw[c8 nC (by rw[←nC]at dd⊢;simpa[nC]using dd)];cases hw:r.1.2 with
          |none=>simp only[aX];rw[c8 nC (by simpa using dd)]
          |some p=>obtain⟨c,y⟩:=p;have hc:c<σ.hp.length+lp.length:=dd rs[i] (abg Gu) c (by rw[jW,hw];rfl);have Ji:=c8 (K:=fun j=>listed.getD (k+j) false) (i:=0) (l:=lp) (rs:=rs) nC (by simpa using dd);simp only[aX];rw[eN (by omega),Ji]
        ·have:=i_ (K:=fun j=>listed.getD (k+j) false) (b:=b) (σ:=dj) (i0:=0) (k:=i) (l:=lp) (by omega) (by omega) sZ qY (fun j r' h1 h2 h3 h4 h5=>by
          simp only[aau]at h5;have pQ:j<lp.length:=by have:=(aai.1 h1).1;omega
          have fB:=bA (aaf pQ) h1;have:=nK fB (by unfold gT;have:gL (bq rs[i].1.2) (bq r'.1.2)=true:=c7.2 ⟨b,h4,h3⟩;simp[this]);rw[h5]at this;simpa using this.symm)
         rw[this,jW]
      ·intro b hb;rcases MM b hb with h1|rfl
       ·rcases gQ b h1 with h2|⟨j,h2,h3⟩
        ·exact .inl h2
        ·exact .inr ⟨j,by rw[rE];simp[df,h2],h3⟩
       ·exact .inr ⟨i,by rw[rE];simp[df],rfl⟩)
     split
     ·rename_i hw;simp only[hw,aa4]at r_;exact .inl r_
     ·rename_i hw;simp only[hw]at r_;exact r_
 rw[show ops.size - k=m+(ops.size - (k+m)) by omega];have dY:∀j,xn.getD (k+j) false=false:=fun j=>by rw[Nh];simp
 have iS:ax (fun j=>xn.getD (k+j) false) 0 lp rs dj=dj:=by
  have:∀(l:List ad)(rs:List ((V×Wr)×List Nat))(i:Nat)(s:St),ax (fun _=>false) i l rs s=s:=by
   intro l;induction l with
    |nil=>intro rs i s;simp[ax]
    |cons o l ih=>
     intro rs i s;cases rs with
      |nil=>simp[ax]
      |cons r rs=>simp only[ax,aaw];exact ih _ _ _
  rw[bZ (K':=fun _=>false) (fun j _=>dY _)];exact this _ _ _ _
 refine key m xn g _ rX U1 (fun j hj=>by rw[Nh,aaK hj]) (fun j hj=>by rw[Nh,aaZ (by omega)]) ?_ ?_ ?_ (ch.refl _ _) ?_
 ·simp only[dY,abd];rw[abP.2 (by simp)];simp
 ·intro j o _ hj;simp only[dY]at hj;cases hj
 ·rw[iS,←n7];exact hr.pad lp.length
 ·intro b hb;exact .inl (hr.heap.cK b hb)
end
end Fw
/-
  The last operation of a drawn region, for which all others come ahead, told as an ordinary one; parts walked one by one.
-/
namespace Fw
open Go
def vF(o:ad):ad:={o with after:=[]}
section
variable {P:Program}{GL:ca}
theorem uP{ops:List Oper}{o:Oper}{o':ad}(h:fj P ops true o=some o'):fj P ops false o=some (vF o'):=by
 unfold fj at h⊢;split at h
 ·simp only[aab]at h;subst h;rfl
 ·cases h
theorem qA{ops:List Oper}:∀{L:List Oper}{l:List ad},bJ (fj P ops true) L=some l→bJ (fj P ops false) L=some (l.map vF)
 |[],l,h=>by simp only[bJ,aab]at h;subst h;rfl
 |x::L,l,h=>by
  simp only[bJ]at h;cases h1:fj P ops true x with
   |none=>rw[h1]at h;cases h
   |some y=>
    rw[h1]at h;cases h2:bJ (fj P ops true) L with
     |none=>rw[h2]at h;cases h
     |some ys=>rw[h2]at h;simp only[aab]at h;subst h;simp only[bJ,uP h1,qA h2,aax]
theorem qB{α β:Type}{f:α→Option β}:∀{L:List α}{l:List β}(k:Nat),bJ f L=some l→bJ f (L.drop k)=some (l.drop k)
 |L,l,0,h=>by simpa using h
 |[],l,k+1,h=>by simp only[bJ,aab]at h;subst h;rfl
 |x::L,l,k+1,h=>by
  simp only[bJ]at h;cases h1:f x with
   |none=>rw[h1]at h;cases h
   |some y=>
    rw[h1]at h;cases h2:bJ f L with
     |none=>rw[h2]at h;cases h
     |some ys=>rw[h2]at h;simp only[aab]at h;subst h;simpa using qB k h2
theorem DP.last{mm:Nat}{l:List ad}{k:Nat}{σ:St}{Q:Ex→St→Prop}(hk:Nat.beq (k+1) l.length=true)(Bo:kC 0 l=true)(h:WO P GL ((l.drop k).map vF) σ (fun s=>Q .normal s)):DP P GL mm l k σ Q:=by
 intro ops hl listed g w a g0 w0 cx hK hR hm hE;have hk:=aah hk;obtain⟨hlen,dD⟩:=gV hl;have Gf:k<ops.size:=by omega
 have eF:ops[k]? =some ops[k]:=Array.getElem?_eq_getElem Gf;obtain⟨o,ho,_,_,_,iI⟩:=dD k _ eF;have hw:=h ops k (by have:=qB k (qA hl);rw[acs];exact this) g w a hR;rw[show ops.size - k=1 by omega]at hw⊢;have FQ:=cP (Q':=cr GL g0 w0 Q) (fun e a v hp=>by have:=cr.ext hE e a v hp;cases e<;>first|exact this|(obtain⟨_,_,_,_,h⟩:=this;exact h.elim)) _ _ _ hw;rw[show List.range' k 1=[k]from rfl,wpOps_cons]at FQ;have yK:listed.getD k false=false:=by rw[hK];simp
 have U4:listed.getD k true=false:=by rw[aaj]at yK⊢;rw[Array.getElem?_eq_getElem (by omega)]at yK⊢;exact yK
 constructor
 ·intro n8;exfalso;have:k∈Region.ready .any ops listed:=by
   unfold Region.ready;rw[aay];refine⟨by rw[aaJ];omega,?_ ⟩;simp only[U4,abd,aaE,eF,aat,aaN,aaB];intro e he;cases hb:Region.binds .any e with
    |false=>rfl
    |true=>
     simp only[aa',abO];have FO:e.on∈o.after:=by rw[iI];simp only[ct,aaG,aay];exact⟨e,⟨by simpa using he,hb⟩,rfl⟩
     have bL:=jv Bo k o ho e.on FO;rw[hK,aaK (by omega)]
  rw[n8]at this;cases this
 ·intro i hi;unfold Region.ready at hi;rw[aay]at hi;have rZ:i<ops.size:=by simpa using hi.1
  have sY:ops[i]? =some ops[i]:=Array.getElem?_eq_getElem rZ;have lj:=hi.2;simp only[aac,aaU,sY,aat,aaN,aaB]at lj;have AM:i=k:=by have h1:=lj.1;have h2:=hK i;rw[aaj]at h1 h2;rw[Array.getElem?_eq_getElem (by omega)]at h1 h2;simp only[aaN]at h1 h2;rw[h1]at h2;have:=acY h2.symm;omega
  subst AM;refine wpOp_mono (fun a' w' hq=>?_ ) FQ;refine⟨?_,hq⟩;unfold Region.ready;rw[aaX];intro j hj;simp only[aaJ]at hj;have h2:(listed.setIfInBounds i true).getD j true=true:=by
   rw[aaj];by_cases U5:j=i
   ·subst U5;rw[aaI (by omega)];rfl
   ·rw[aaC (by omega)];have h3:=hK j;rw[aaK (by omega),aaj]at h3;rw[Array.getElem?_eq_getElem (by omega)]at h3⊢;exact h3
  simp[h2]
theorem DP.walk{mm k:Nat}(m:Nat){l:List ad}{n:Nat}{tm:List (Nat×V)}{H:ah}{Q:Ex→St→Prop}{lp:List ad}(O1:(j4 k l).take m=lp)(hm:Nat.ble (k+m) l.length=true)(Hh:Hg k m l=true)(sF:eO n lp=true)(h:AW P GL H.length 0 lp tm (H++List.replicate lp.length none) (fun rs aY H'=>(cT lp rs&&dK (H.length+lp.length) rs)=true∧∃eJ H2,ar mm ⟨n,aY,H'⟩ ⟨n,eJ,H2⟩∧DP P GL mm l (k+m) ⟨n,eJ,H2⟩ Q)):DP P GL mm l k ⟨n,tm,H⟩ Q:=by
 obtain⟨Bl,rs,aY,H',k1,k2,k4,⟨k5,eJ,H2,k7,k8⟩,k6⟩:=AW.runs (n:=n) h;rw[aac]at k5;refine DP.part (σ:=⟨n,tm,H⟩) m (qc:=fun i=>(Bl[i]? ).bind id) (rs:=rs) O1 hm Hh ?_ k5.1 sF k5.2 (fun i o r ho hr f args cl hg=>?_ ) ?_
 ·exact k2 _ fun j c hj=>by simp[hj]
 ·have:=k6 i o r ho hr f args cl;simp only[aau]at this;exact this hg
 ·show DP P GL mm l (k+m) (ax (fun _=>true) 0 lp rs (b8 ⟨n,tm,H⟩ lp.length)) Q;have e:ax (fun _=>true) 0 lp rs (b8 ⟨n,tm,H⟩ lp.length)=⟨n,aY,H'⟩:=k4;rw[e];exact DP.tidy k7 k8
theorem CG.qz(hm:P.follows .mixedOrders=true){l:List ad}{K:List Fr}{n:Nat}{tm:List (Nat×V)}{H:ah}{Q:Ex→St→Prop}(h:DP P GL H.length l 0 ⟨n,tm,H⟩ (KQ P GL K Q)):CG P GL (.code (.draw l)) K n tm H Q:=WC.qz hm h
theorem DP.QD{mm:Nat}{l:List ad}{k:Nat}{n:Nat}{tm:List (Nat×V)}{H:ah}{K:List Fr}{Q:Ex→St→Prop}(hk:Nat.beq (k+1) l.length=true)(Bo:kC 0 l=true)(h:CG P GL (.ops ((l.drop k).map vF)) K n tm H Q):DP P GL mm l k ⟨n,tm,H⟩ (KQ P GL K Q):=DP.last hk Bo h
theorem DP.Lz{mm:Nat}{l:List ad}{k:Nat}{n:Nat}{tm:List (Nat×V)}{H:ah}{K:List Fr}{Q:Ex→St→Prop}(hk:Nat.beq k l.length=true)(h:CG P GL (.out .normal) K n tm H Q):DP P GL mm l k ⟨n,tm,H⟩ (KQ P GL K Q):=by have:=aah hk;subst this;exact DP.done h
end
end Fw
/-
  Rows that are nil or empty, appended to and known as data; an empty row looked at for nil.
-/
namespace Fw
open Go
def zp{α:Type}(aa:α→List D)(l:List α)(x:dU):Prop:=x=aJ aa l∨x=dS aa l
theorem tA{α:Type}{aa:α→List D}{sz:Nat}(h:∀a,(aa a).length=sz)(h0:0<sz){l:List α}(hl:l≠[]):aJ aa l=dS aa l:=fG h h0 hl
theorem zp.cell{α:Type}{aa:α→List D}{sz:Nat}(h:∀a,(aa a).length=sz)(h0:0<sz){l:List α}{x:dU}(hx:zp aa l x)(hl:l≠[]):x=aJ aa l:=by
 rcases hx with hx|hx
 ·exact hx
 ·rw[hx,tA h h0 hl]
def uQ{α:Type}(aa:α→List D)(z:Bool)(l:List α):dU:=bif z then dS aa l else aJ aa l
theorem zp.z{α:Type}{aa:α→List D}{l:List α}{x:dU}(h:zp aa l x):∃z,x=uQ aa z l:=by
 rcases h with h|h
 ·exact⟨false,h⟩
 ·exact⟨true,h⟩
theorem uQ.x{α:Type}(aa:α→List D)(z:Bool)(l:List α):zp aa l (uQ aa z l):=by
 cases z
 ·exact .inl rfl
 ·exact .inr rfl
@[simp] theorem Ni{α:Type}(n:Nat)(aa:α→List D)(z:Bool)(l:List α):cu n (uQ aa z l)=true:=by
 cases z
 ·exact aW n aa l
 ·exact fE n aa l
section
variable {P:Program}{GL:ca}
theorem CG.se{d:Nat}{x y:a_}{g:Option (Nat×Bool)}{af:List Nat}{l:List ad}{K:List Fr}{n:Nat}{tm:List (Nat×V)}{H:ah}{Q:Ex→St→Prop}(ho:l.head?=some ⟨some d,.eq false .slice x y,g,af⟩)(hc:(ao g tm,aU GL tm x,aU GL tm y,Nat.blt d n)=(some true,.d (.list []),.ab,true))(hq:∀b,CG P GL (.ops (l.drop 1)) K n (put tm d (.d (.bool b))) H Q):CG P GL (.ops l) K n tm H Q:=by simp only[aae]at hc;refine WO.head ho (WO.se (x:=x) (y:=y) rfl hc.1 hc.2.1 hc.2.2.1 fun b=>⟨⟨n,put tm d (.d (.bool b)),H⟩,?_,hq b⟩);show St.put ⟨n,tm,H⟩ (some d) _ H=_;rw[aC,aan (by simpa[aas]using hc.2.2.2)]
theorem AW.QE{α:Type}(aa:α→List D)(as:List α)(y:α){base i d:Nat}{g:Option (Nat×Bool)}{af:List Nat}{l:List ad}{tm:List (Nat×V)}{H:ah}{Q:RS→List (Nat×V)→ah→Prop}{sz bytes:Nat}{x y':a_}{bx:dU}(b:Nat)(cx:∀a,(aa a).length=sz)(ho:l.head?=some ⟨some d,.append sz bytes x y',g,af⟩)(hc:(Nat.blt 0 sz,ao g tm,aU GL tm x,aA H b)=(true,some true,.sl b (as.length*sz) 0 as.length sz,some bx))(hx:zp aa as bx)(hy:cC H sz (aU GL tm y')=some ((aa y).map .d))(hr:(as.length+1)*sz*(bytes+1)≤1099511627776)(hq:AW P GL base (i+1) (l.drop 1) (put tm d (.sl b ((as++[y]).length*sz) 0 (as++[y]).length sz)) (bj H b (aJ aa (as++[y]))) (fun rs t k=>Q (((.sl b ((as++[y]).length*sz) 0 (as++[y]).length sz,some (b,aJ aa (as++[y]))),lq (aU GL tm) (.append sz bytes x y'))::rs) t k)):AW P GL base i l tm H Q:=by
 have O2:=hc;simp only[aae]at O2;have h0:0<sz:=by simpa[aas]using O2.1
 rcases hx with rfl|rfl
 ·exact AW.Lx aa as y cx O2.1 ho O2.2.1 O2.2.2.1 O2.2.2.2 hy hr rfl hq
 ·have e:aJ aa (as++[y])=dS aa (as++[y]):=tA cx h0 (by simp);rw[e]at hq;exact AW.D2 aa as [y] b cx ho hc (by simpa using hy) (by simpa using hr) hq
end
theorem ar.U6{α:Type}(aa:α→List D)(as:List α){m n sz:Nat}{tm aY:List (Nat×V)}{H H':ah}{bx:dU}(b s:Nat)(hx:zp aa as bx)(cx:∀a,(aa a).length=sz)(hs:get tm s=.sl b (as.length*sz) 0 as.length sz)(hH:aA H b=some bx)(ve:qq b 0 H)(e1:put (qu b tm) s (.d (.list (as.map aa)))=aY)(e2:H.set b none=H'):ar m ⟨n,tm,H⟩ ⟨n,aY,H'⟩:=by
 rcases hx with rfl|rfl
 ·exact ar.tv aa as b s cx hs hH ve e1 e2
 ·exact ar.JY aa as b s cx hs hH ve e1 e2
end Fw
/-
  The rest of a drawn region whose operations wait one for the other, told as an ordinary one.
-/
namespace Fw
open Go
def Bp(k:Nat)(l:List ad):Bool:=(List.range l.length).all fun j=>Nat.ble j k||((l[j]? ).map fun o=>o.after.contains (j - 1)).getD false
section
variable {P:Program}{GL:ca}
theorem vG{ops:Array Oper}{Q:Exit→Act→World→Prop}(hb:∀(i:Nat)(hi:i<ops.size) (e),e∈ops[i].after→Region.binds .any e=true→e.on<i):∀(m k:Nat)(listed:Array Bool)(a:Act)(w:World),listed.size=ops.size→(∀j,listed.getD j false=decide (j<k))→k+m=ops.size→(∀(j:Nat)(hj:j<ops.size),k<j→∃e,e∈ops[j].after∧Region.binds .any e=true∧e.on=j - 1)→wpOps P ops Q (List.range' k m) a w→wpAny P .any ops Q m listed a w
 |0,k,listed,a,w,cx,hK,hm,hc,h=>by
  refine⟨?_,by simpa[wpOps]using h⟩;unfold Region.ready;rw[aaX];intro j hj;simp only[aaJ]at hj;have h3:=hK j;rw[aaK (by omega),aaj,Array.getElem?_eq_getElem (by omega)]at h3;have h4:listed.getD j true=true:=by rw[aaj,Array.getElem?_eq_getElem (by omega)];exact h3
  simp[h4]
 |m+1,k,listed,a,w,cx,hK,hm,hc,h=>by
  have Gf:k<ops.size:=by omega
  have eF:ops[k]? =some ops[k]:=Array.getElem?_eq_getElem Gf;rw[List.range'_succ,wpOps_cons]at h;have aA:∀j,j<ops.size→listed.getD j true=decide (j<k):=fun j hj=>by have h3:=hK j;rw[aaj,Array.getElem?_eq_getElem (by omega)]at h3⊢;exact h3
  constructor
  ·intro n8;exfalso;have:k∈Region.ready .any ops listed:=by
    unfold Region.ready;rw[aay];refine⟨by rw[aaJ];omega,?_ ⟩;simp only[aA k Gf,ac0,ac9,abd,aaE,eF,aat,aaN,aaB];intro e he;cases Nj:Region.binds .any e with
     |false=>rfl
     |true=>have bL:=hb k Gf e he Nj;rw[hK,aaK bL];rfl
   rw[n8]at this;cases this
  ·intro i hi;unfold Region.ready at hi;rw[aay]at hi;have rZ:i<ops.size:=by simpa using hi.1
   have sY:ops[i]? =some ops[i]:=Array.getElem?_eq_getElem rZ;have lj:=hi.2;simp only[aac,aaU,sY,aat,aaN,aaB]at lj;have OK:k≤i:=by have h1:=lj.1;rw[aA i rZ]at h1;have:=acY h1;omega
   have AM:i=k:=by
    rcases aaW k i with bL|hle
    ·exfalso;obtain⟨e,he,Nj,Qz⟩:=hc i rZ bL;have:=lj.2 e he;rw[Nj,hK,aaZ (by omega)]at this;cases this
    ·omega
   subst AM;refine wpOp_mono (fun a' w' hq=>?_ ) h;refine vG hb m (i+1) _ a' w' (by simp[cx]) (fun j=>?_ ) (by omega) (fun j hj bL=>hc j hj (by omega)) hq;by_cases U5:j=i
   ·subst U5;rw[aaj,aaI (by omega)];simp
   ·have h3:=hK j;rw[aaj]at h3⊢;rw[aaC (by omega),h3];congr 1;simp;omega
theorem DP.chain{mm:Nat}{l:List ad}{k:Nat}{σ:St}{Q:Ex→St→Prop}(hk:Nat.ble k l.length=true)(Bo:kC 0 l=true)(TH:Bp k l=true)(h:WO P GL ((l.drop k).map vF) σ (fun s=>Q .normal s)):DP P GL mm l k σ Q:=by
 intro ops hl listed g w a g0 w0 cx hK hR hm hE;have hk:=aak hk;obtain⟨hlen,dD⟩:=gV hl;have hw:=h ops k (by have:=qB k (qA hl);rw[acs];exact this) g w a hR;have FQ:=cP (Q':=cr GL g0 w0 Q) (fun e a v hp=>by have:=cr.ext hE e a v hp;cases e<;>first|exact this|(obtain⟨_,_,_,_,h⟩:=this;exact h.elim)) _ _ _ hw;refine vG (fun i hi e he Nj=>?_ ) _ k listed a w cx hK (by omega) (fun j hj bL=>?_ ) FQ
 ·obtain⟨o,ho,_,_,_,iI⟩:=dD i _ (Array.getElem?_eq_getElem hi);have FO:e.on∈o.after:=by rw[iI];simp only[ct,aaG,aay];exact⟨e,⟨by simpa using he,Nj⟩,rfl⟩
  have:=jv Bo i o ho e.on FO;omega
 ·obtain⟨o,ho,_,_,_,iI⟩:=dD j _ (Array.getElem?_eq_getElem hj);unfold Bp at TH;have h1:=aaq.1 TH j (by rw[aaJ];omega);have h2:Nat.ble j k=false:=by
   cases hb:Nat.ble j k with
    |false=>rfl
    |true=>have:=aak hb;omega
  rw[h2,abO,ho]at h1;simp only[aat,aaN,List.contains_iff_mem]at h1;rw[iI]at h1;simp only[ct,aaG,aay]at h1;obtain⟨e,⟨he,Nj⟩,Qz⟩:=h1;exact⟨e,by simpa using he,Nj,Qz⟩
theorem DP.Nk{mm:Nat}{l:List ad}{k:Nat}{n:Nat}{tm:List (Nat×V)}{H:ah}{K:List Fr}{Q:Ex→St→Prop}(hk:Nat.ble k l.length=true)(Bo:kC 0 l=true)(TH:Bp k l=true)(h:CG P GL (.ops ((l.drop k).map vF)) K n tm H Q):DP P GL mm l k ⟨n,tm,H⟩ (KQ P GL K Q):=DP.chain hk Bo TH h
end
end Fw
/-
  Own rows at open places: a part of an element is written.
-/
namespace Fw
open Go
theorem Bq{α:Type}{aa:α→List D}{sz:Nat}(h:∀a,(aa a).length=sz){l:List α}{j b off n:Nat}{x y:α}{A B B' C:List D}{H:ah}{v:V}(hx:l[j]? =some x)(hH:aA H b=some (aJ aa l))(h0:0<sz)(Dw:aa x=A++(B++C))(Px:aa y=A++(B'++C))(hB:B'.length=B.length)(hn:B'.length=n)(ho:off=j*sz+A.length)(hv:bK v=B'.map .d):dz H n (.ptr b (l.length*sz) off) v=some (b,aJ aa (l.set j y)):=by
 have ew:l≠[]:=by rintro rfl;simp at hx
 have bL:j<l.length:=(aai.1 hx).1;have Nf:l.set j y≠[]:=by intro e;have:=acM List.length e;simp at this;exact ew this
 have hm:(j+1)*sz≤l.length*sz:=aaM _ bL;rw[abF]at hm;have I8:A.length+(B.length+C.length)=sz:=by rw[←h x,Dw];simp
 subst ho;have e1:(Nat.beq ((l.flatMap aa).map V.d).length (l.length*sz)&&Nat.ble (j*sz+A.length+n) (l.length*sz)&&Nat.beq (B'.map V.d).length n&&(B'.map V.d).all dE)=true:=by rw[aar,cj h,aaz,aba (by omega),aar,hn,aaz];simp[dE]
 have e2:putCells ((l.flatMap aa).map V.d) (j*sz+A.length) (B'.map V.d)=((l.set j y).flatMap aa).map V.d:=by
  have hlen:((l.take j).flatMap aa).length=j*sz:=by rw[cj h,aaQ,abX (Nat.le_of_lt bL)]
  rw[vA hx,vD hx,abu,abr,Dw,Px];have:=lG (B'.map V.d) ((((l.take j).flatMap aa)++A).map V.d) (B.map V.d) ((C++(l.drop (j+1)).flatMap aa).map V.d) (by simp[hB]);rw[aar,aaA,hlen]at this;simpa[ac7]using this
 simp only[dz,hH,fG h h0 ew,fG h h0 Nf,hv,e1,aag,e2]
section
variable {P:Program}{GL:ca}
theorem CG.ZH{α:Type}(aa:α→List D)(as:List α)(j o m:Nat){y:α}(z:α){g:Option (Nat×Bool)}{af:List Nat}{l:List ad}{K:List Fr}{n:Nat}{tm:List (Nat×V)}{H:ah}{Q:Ex→St→Prop}{sz b off:Nat}{a x:a_}(cx:∀a,(aa a).length=sz)(hy:as[j]? =some y)(ho:l.head?=some ⟨none,.store m a x,g,af⟩)(B':List D)(hc:(Nat.blt 0 sz,ao g tm,aU GL tm a,aA H b,bK (aU GL tm x),Nat.beq B'.length m,Nat.ble (o+m) sz)=(true,some true,.ptr b (as.length*sz) off,some (aJ aa as),B'.map .d,true,true))(xk:off=j*sz+o)(hz:aa z=(aa y).take o++(B'++(aa y).drop (o+m)))(hq:CG P GL (.ops (l.drop 1)) K n tm (bj H b (aJ aa (as.set j z))) Q):CG P GL (.ops l) K n tm H Q:=by
 simp only[aae]at hc;have hm:B'.length=m:=aah hc.2.2.2.2.2.1;have hle:=aak hc.2.2.2.2.2.2;have Qh:=cx y;have hA:((aa y).take o).length=o:=by rw[aaQ,Qh];omega
 have hB:(((aa y).drop o).take m).length=m:=by rw[aaQ,aco,Qh];omega
 refine CG.D3 ho hc.2.1 (v:=.any) (wr:=some (b,aJ aa (as.set j z))) ?_ rfl hq;have:=Bq (n:=m) (off:=off) (v:=aU GL tm x) (A:=(aa y).take o) (B:=((aa y).drop o).take m) (B':=B') (C:=(aa y).drop (o+m)) cx hy hc.2.2.2.1 (by simpa[aas]using hc.1) (by rw[←abQ,abx,abx]) hz (by rw[hB,hm]) hm (by rw[hA,xk]) hc.2.2.2.2.1;simp only[bu,hc.2.2.1,this,aat]
end
end Fw
/-
  A call in a drawn region that looks into an own row: told by a closed run beside that row alone.
-/
namespace Fw
open Go
section
variable {P:Program}{GL:ca}
theorem AW.cd{base i d:Nat}{g:Option (Nat×Bool)}{af:List Nat}{l:List ad}{tm:List (Nat×V)}{H:ah}{Q:RS→List (Nat×V)→ah→Prop}{f:FuncId}{args:List a_}{vs:List V}{v:V}(h:fl P GL f vs H v)(ho:l.head?=some ⟨some d,.call f args,g,af⟩)(hg:ao g tm=some true)(ha:bd (aU GL tm) args=vs)(hq:AW P GL base (i+1) (l.drop 1) (put tm d v) H (fun rs t k=>Q (((v,none),lq (aU GL tm) (.call f args))::rs) t k)):AW P GL base i l tm H Q:=by
 subst ha;refine AW.head ho ⟨some v,v,none,?_,fun f' Lw hc _=>?_,hq⟩
 ·simp only[eI,hg,bw,aat]
 ·simp only[bw,aab,aae]at hc;obtain⟨rfl,rfl⟩:=hc;exact h
mutual
def gq:V→V| .ab=>.d (.list [])| .agg cs=>.agg (uR cs)| .tuple cs=>.tuple (uR cs)| .d x=>.d x|_=>.any
def uR:List V→List V|[]=>[]|v::vs=>gq v::uR vs
end
mutual
theorem RV.gq{g:G}{w:World}:∀{u:V}{v:Value},RV g w u v→RV g w (Fw.gq u) v
 | .ab,v,h=>by simp only[RV]at h;subst h;simp only[Fw.gq,RV,Rd];exact Or.inl ⟨by trivial,Or.inl (by trivial)⟩
 | .agg cs,v,h=>by simp only[RV]at h;obtain⟨x,rfl,hx⟩:=h;simp only[Fw.gq,RV];exact⟨x,rfl,aP.uR hx⟩
 | .tuple cs,v,h=>by simp only[RV]at h;obtain⟨x,rfl,hx⟩:=h;simp only[Fw.gq,RV];exact⟨x,rfl,aP.uR hx⟩
 | .d x,v,h=>by simpa only[Fw.gq]using h
 | .any,v,h=>by simp only[Fw.gq,RV]
 | .ptr _ _ _,v,h=>by simp only[Fw.gq,RV]
 | .ji,v,h=>by simp only[Fw.gq,RV]
 | .cA _,v,h=>by simp only[Fw.gq,RV]
 | .sl _ _ _ _ _,v,h=>by simp only[Fw.gq,RV]
 | .map _,v,h=>by simp only[Fw.gq,RV]
 | .kV,v,h=>by simp only[Fw.gq,RV]
 | .func _ _ _,v,h=>by simp only[Fw.gq,RV]
 | .mh,v,h=>by simp only[Fw.gq,RV]
 | .iface _ _,v,h=>by simp only[Fw.gq,RV]
 | .bX,v,h=>by simp only[Fw.gq,RV]
 | .gD,v,h=>by simp only[Fw.gq,RV]
 | .iter _ _,v,h=>by simp only[Fw.gq,RV]
theorem aP.uR{g:G}{w:World}:∀{us:List V}{vs:List Value},aP g w us vs→aP g w (Fw.uR us) vs
 |[],[],_=>by simp only[Fw.uR,aP]
 |_::_,_::_,h=>by simp only[aP]at h;simp only[Fw.uR,aP];exact⟨RV.gq h.1,aP.uR h.2⟩
 |[],_::_,h=>by simp only[aP]at h
 |_::_,[],h=>by simp only[aP]at h
end
theorem WF.gq{f:FuncId}{args:List V}{H H0:ah}{d:V}(h:WF P GL f args H (fun r H'=>r=d∧H'=H0)):WF P GL f args H (fun r H'=>r=Fw.gq d∧H'=H0):=by refine⟨h.1,fun g w vs dI hh hg=>(h.2 g w vs dI hh hg).mono ?_ ⟩;rintro e w' ⟨x,v,g',H',rfl,⟨rfl,rfl⟩,hx,pZ,he⟩;exact⟨x,_,g',_,rfl,⟨rfl,rfl⟩,hx.gq,pZ,he⟩
def Nl(m:Nat)(v:V)(H:ah):Option (V×ah):=match b_ [0] m (xh (List.range' m (H.length - m)++(List.range' m (H.length - m)++List.range' m (H.length - m))) ⟨1,[(0,v)],H⟩)with
 |some σ=>some (get σ.tm 0,σ.hp)
 |none=>none
theorem J1{m:Nat}{v:V}{H:ah}{d:V}{H1:ah}(h:Nl m v H=some (d,H1)):∃aL,ar m ⟨1,[(0,v)],H⟩ aL∧get aL.tm 0=d∧aL.hp=H1:=by
 unfold Nl at h;split at h
 ·rename_i σ hc;simp only[aab,aae]at h;exact⟨σ,(mM _ _).trans (ar.clean (aao m) hc),h.1,h.2⟩
 ·cases h
def xo(call:a6)(f:FuncId)(a:V)(n:Nat)(cs:List V):Option V:=bif aG 0 [some (dU.cells cs)]then
 (match call f [a,.sl 0 n 0 (n / 7) 7] [some (.cells cs)]with
  |some (u,H0)=>
   (match Nl 1 u H0 with
    |some (d,H1)=>bif an 0 (gq d)&&eZ H1 [some (.cells cs)]then some (gq d)else none
    |none=>none)
  |none=>none)else none
theorem nu{call:a6}(hc:bH P GL call){f:FuncId}{a:V}{n:Nat}{cs:List V}{d:V}(h:xo call f a n cs=some d)(ha:an 1 a=true){b:Nat}(hr:dt [b] a=a)(YI:bQ a=[]){H:ah}(hb:aA H b=some (.cells cs)):fl P GL f [a,.sl b n 0 (n / 7) 7] H d:=by
 unfold xo at h;cases hl:aG 0 [some (dU.cells cs)]with
  |false=>rw[hl]at h;cases h
  |true=>
   rw[hl,aag]at h;split at h
   ·rename_i u H0 cl;split at h
    ·rename_i d' H1 U7;cases he:(an 0 (gq d')&&eZ H1 [some (.cells cs)])with
      |false=>rw[he]at h;cases h
      |true=>
       rw[he,aag,aab]at h;subst h;rw[aac]at he;have hH:=lD he.2;have hw:WF P GL f [a,.sl 0 n 0 (n / 7) 7] [some (.cells cs)] (fun r H'=>r=d'∧H'=[some (.cells cs)]):=by refine WF.fw ((hc _ _ _ _ _ cl).mono fun r H' hq=>?_ );obtain⟨rfl,rfl⟩:=hq;obtain⟨aL,e1,e2,e3⟩:=J1 U7;exact⟨aL,by simpa using e1,e2,by rw[e3,hH]⟩
       have:=fl.Qe (v:=gq d') [b] (H:=H) hw.gq (by simp) rfl (by simp[ak,an,ha]) hl he.1 (fun i hi=>by
        have:i=0:=by simp at hi;omega
        subst this;exact⟨_,rfl,hb⟩) (fun i hi=>by
        have:i=0:=by simp at hi;omega
        subst this;simp[eX,dt,hr,YI,bQ])
       simpa[eX,dt,hr]using this
    ·cases h
   ·cases h
end
end Fw
