/-
  Cells of own rows at open places: looked at and written.
-/
import Derived.Test.YtgfgckimecpmlaaGreatDoorFg
import Derived.Test.YtgfgckimecpmlaaGreatDoorFe
set_option linter.unusedSimpArgs false
set_option linter.unusedVariables false
namespace Fw
open Go
theorem vX{α:Type}{aa:α→List D}{sz:Nat}(h:∀a,(aa a).length=sz):∀(l:List α)(j:Nat),(l.flatMap aa).drop (j*sz)=(l.drop j).flatMap aa
 |[],j=>by simp
 |a::l,0=>by simp
 |a::l,j+1=>by rw[ace,acX,←vX h l j,ab7,Nat.add_comm,←acN,←h a,List.drop_left]
theorem lL{α:Type}{l:List α}{i:Nat}{x:α}(h:l[i]? =some x):l.drop i=x::l.drop (i+1):=by obtain⟨bS,he⟩:=aaK.1 h;rw[abz bS,he]
theorem Lc{α:Type}{aa:α→List D}{sz:Nat}(h:∀a,(aa a).length=sz){l:List α}{j:Nat}{x:α}(hx:l[j]? =some x){o n:Nat}(R6:o+n≤sz):((l.flatMap aa).drop (j*sz+o)).take n=((aa x).drop o).take n:=by rw[←acN,vX h,lL hx,ace,List.drop_append_of_le_length (by rw[h];omega),acI (by rw[adi,h];omega)]
theorem jG{α:Type}{aa:α→List D}{sz:Nat}(h:∀a,(aa a).length=sz)(h0:0<sz){l:List α}(hl:l≠[]):aM aa l=.cells ((l.flatMap aa).map .d):=by
 have:(l.flatMap aa).length≠0:=by
  rw[ch h];cases l with
   |nil=>exact absurd rfl hl
   |cons a l=>simp only[aaS,ab7];omega
 unfold aM gf;cases hf:l.flatMap aa with
  |nil=>rw[hf]at this;exact absurd rfl this
  |cons d ds=>rfl
theorem vY{α:Type}{aa:α→List D}{sz:Nat}(h:∀a,(aa a).length=sz){l:List α}{j o n b off:Nat}{x:α}{H:ai}(hx:l[j]? =some x)(hH:aE H b=some (aM aa l))(h0:0<sz)(R6:o+n≤sz)(ho:off=j*sz+o):df H n (.ptr b (l.length*sz) off)=some ((((aa x).drop o).take n).map .d):=by
 have et:l≠[]:=by rintro rfl;simp at hx
 have bS:j<l.length:=(aaK.1 hx).1;have hm:(j+1)*sz≤l.length*sz:=abg _ bS;rw[ab7]at hm;subst ho;have e1:(Nat.beq ((l.flatMap aa).map V.d).length (l.length*sz)&&Nat.ble (j*sz+o+n) (l.length*sz))=true:=by rw[aaW,ch h,aa0,abO (by omega)];rfl
 simp only[df,hH,jG h h0 et,e1,aaH,←acV,←acT,Lc h hx R6]
theorem pK{α:Type}:∀(b' a b c:List α),b'.length=b.length→putCells (a++(b++c)) a.length b'=a++(b'++c)
 |[],a,b,c,hl=>by
  cases b with
   |nil=>rfl
   |cons _ _=>simp at hl
 |v::vs,a,b,c,hl=>by
  cases b with
   |nil=>simp at hl
   |cons x b=>
    simp only[aaS,Nat.add_right_cancel_iff]at hl;have e:(a++(x::b++c)).set a.length v=(a++[v])++(b++c):=by simp
    have:=pK vs (a++[v]) b c hl;rw[aa1]at this;show putCells ((a++(x::b++c)).set a.length v) (a.length+1) vs=_;rw[e];simpa using this
theorem EW{α:Type}{aa:α→List D}{l:List α}{j:Nat}{x:α}(hx:l[j]? =some x):l.flatMap aa=(l.take j).flatMap aa++(aa x++(l.drop (j+1)).flatMap aa):=by
 conv=>lhs;rw[←acm j l,lL hx]
 rw[abU,ace]
theorem EX{α:Type}{l:List α}{j:Nat}{x y:α}(hx:l[j]? =some x):l.set j y=l.take j++y::l.drop (j+1):=by obtain⟨bS,_⟩:=aaK.1 hx;rw[List.set_eq_take_append_cons_drop,aaP bS]
theorem tX{α:Type}{aa:α→List D}{sz:Nat}(h:∀a,(aa a).length=sz){l:List α}{j b off:Nat}{x y:α}{H:ai}{v:V}(hx:l[j]? =some x)(hH:aE H b=some (aM aa l))(h0:0<sz)(ho:off=j*sz)(hv:bU v=(aa y).map .d):er H sz (.ptr b (l.length*sz) off) v=some (b,aM aa (l.set j y)):=by
 have et:l≠[]:=by rintro rfl;simp at hx
 have bS:j<l.length:=(aaK.1 hx).1;have WZ:l.set j y≠[]:=by intro e;have:=adh List.length e;simp at this;exact et this
 have hm:(j+1)*sz≤l.length*sz:=abg _ bS;rw[ab7]at hm;subst ho;have e1:(Nat.beq ((l.flatMap aa).map V.d).length (l.length*sz)&&Nat.ble (j*sz+sz) (l.length*sz)&&Nat.beq ((aa y).map V.d).length sz&&((aa y).map V.d).all dO)=true:=by rw[aaW,ch h,aa0,abO (by omega),aaW,h,aa0];simp[dO]
 have e2:putCells ((l.flatMap aa).map V.d) (j*sz) ((aa y).map V.d)=((l.set j y).flatMap aa).map V.d:=by
  have hlen:((l.take j).flatMap aa).length=j*sz:=by rw[ch h,abw,ac3 (Nat.le_of_lt bS)]
  rw[EW hx,EX hx,abU,ace,abW,abW,abW,abW];have:=pK ((aa y).map V.d) (((l.take j).flatMap aa).map V.d) ((aa x).map V.d) (((l.drop (j+1)).flatMap aa).map V.d) (by simp[h]);rw[aaW,hlen]at this;exact this
 simp only[er,hH,jG h h0 et,jG h h0 WZ,hv,e1,aaH,e2]
section
variable {P:Program}{GL:cj}
theorem CG.R7{α:Type}(aa:α→List D)(as:List α)(j o:Nat){y:α}{d:Nat}{m:Nat}{agg:Bool}{g:Option (Nat×Bool)}{af:List Nat}{l:List ad}{K:List Fr}{n:Nat}{tm:List (Nat×V)}{H:ai}{Q:Ex→St→Prop}{sz b off:Nat}{a:ba}{v:V}(cB:∀a,(aa a).length=sz)(hy:as[j]? =some y)(ho:l.head?=some ⟨some d,.load m agg a,g,af⟩)(hc:(Nat.blt 0 sz,ar g tm,aX GL tm a,aE H b,Nat.blt d n,Nat.ble (o+m) sz)=(true,some true,.ptr b (as.length*sz) off,some (aM aa as),true,true))(BN:off=j*sz+o)(hv:pj agg ((((aa y).drop o).take m).map .d)=some v)(hq:CG P GL (.ops (l.drop 1)) K n (put tm d v) H Q):CG P GL (.ops l) K n tm H Q:=by simp only[aaF]at hc;refine CG.iL ho hc.2.1 (v:=v) (wr:=none) ?_ rfl hc.2.2.2.2.1 hq;simp only[bw,hc.2.2.1,vY cB hy hc.2.2.2.1 (by simpa[aaT]using hc.1) (aaM hc.2.2.2.2.2) BN,hv,aaV]
theorem CG.Ib{op:kI}{g:Option (Nat×Bool)}{af:List Nat}{l:List ad}{K:List Fr}{n:Nat}{tm:List (Nat×V)}{H H':ai}{Q:Ex→St→Prop}{v:V}{wr:Wr}(ho:l.head?=some ⟨none,op,g,af⟩)(hg:ar g tm=some true)(he:bw (aX GL tm) H H.length op=some (v,wr))(hH:aZ H wr=H')(hq:CG P GL (.ops (l.drop 1)) K n tm H' Q):CG P GL (.ops l) K n tm H Q:=by subst hH;exact WO.head ho (WO.bw (v:=v) (wr:=wr) (aS:=⟨n,tm,aZ H wr⟩) hg he (by rw[bZ]) hq)
theorem CG.W1{α:Type}(aa:α→List D)(as:List α)(j:Nat){y z:α}{g:Option (Nat×Bool)}{af:List Nat}{l:List ad}{K:List Fr}{n:Nat}{tm:List (Nat×V)}{H:ai}{Q:Ex→St→Prop}{sz b off:Nat}{a x:ba}(cB:∀a,(aa a).length=sz)(hy:as[j]? =some y)(ho:l.head?=some ⟨none,.store sz a x,g,af⟩)(hc:(Nat.blt 0 sz,ar g tm,aX GL tm a,aE H b,bU (aX GL tm x))=(true,some true,.ptr b (as.length*sz) off,some (aM aa as),(aa z).map .d))(BN:off=j*sz)(hq:CG P GL (.ops (l.drop 1)) K n tm (bn H b (aM aa (as.set j z))) Q):CG P GL (.ops l) K n tm H Q:=by simp only[aaF]at hc;refine CG.Ib ho hc.2.1 (v:=.any) (wr:=some (b,aM aa (as.set j z))) ?_ rfl hq;simp only[bw,hc.2.2.1,tX cB hy hc.2.2.2.1 (by simpa[aaT]using hc.1) BN hc.2.2.2.2,aaV]
theorem qN{α:Type}{aa:α→List D}{as:List α}{H:ai}{b sz:Nat}(cB:∀a,(aa a).length=sz)(hH:aE H b=some (aM aa as)):ef H b (as.length*sz)=true:=by
 unfold ef;rw[hH];have hl:=ch cB as;unfold aM gf;cases h:as.flatMap aa with
  |nil=>rw[h]at hl;simp only[ac5,acS,aaH,←hl,abl,aa0]
  |cons d ds=>rw[h]at hl;simp only[aaY,acd,aaX,←hl,aaS,aaW,aa0]
theorem CG.DA{α:Type}(aa:α→List D)(as:List α)(b j:Nat){d:Nat}{g:Option (Nat×Bool)}{af:List Nat}{l:List ad}{K:List Fr}{n:Nat}{tm:List (Nat×V)}{H:ai}{Q:Ex→St→Prop}{sz len:Nat}{x k:ba}(cB:∀a,(aa a).length=sz)(hj:j<len)(ho:l.head?=some ⟨some d,.de sz x k,g,af⟩)(hc:(ar g tm,aX GL tm x,aE H b,dC (aX GL tm k),Nat.blt d n)=(some true,.sl b (as.length*sz) 0 len sz,some (aM aa as),some j,true))(hq:CG P GL (.ops (l.drop 1)) K n (put tm d (.ptr b (as.length*sz) (j*sz))) H Q):CG P GL (.ops l) K n tm H Q:=by simp only[aaF]at hc;refine CG.iL ho hc.1 (v:=.ptr b (as.length*sz) (j*sz)) (wr:=none) ?_ rfl hc.2.2.2.2 hq;have:=vW (qN cB hc.2.2.1) hj hc.2.1 hc.2.2.2.1 H.length;rwa[aaU]at this
theorem CG.R8{α:Type}(aa:α→List D)(as:List α)(b p:Nat){d:Nat}{g:Option (Nat×Bool)}{af:List Nat}{l:List ad}{K:List Fr}{n:Nat}{tm:List (Nat×V)}{H:ai}{Q:Ex→St→Prop}{sz:Nat}{x k:ba}(cB:∀a,(aa a).length=sz)(hp:p≤as.length)(ho:l.head?=some ⟨some d,.fK sz x none (some k),g,af⟩)(hc:(ar g tm,aX GL tm x,aE H b,dC (aX GL tm k),Nat.blt d n)=(some true,.sl b (as.length*sz) 0 as.length sz,some (aM aa as),some p,true))(hq:CG P GL (.ops (l.drop 1)) K n (put tm d (.sl b (as.length*sz) 0 p sz)) H Q):CG P GL (.ops l) K n tm H Q:=by simp only[aaF]at hc;have hb:bounds (aX GL tm) as.length none (some k)=some (0,p):=jl rfl hc.2.2.2.1 (acb _) hp;refine CG.iL ho hc.1 (v:=.sl b (as.length*sz) 0 p sz) (wr:=none) ?_ rfl hc.2.2.2.2 hq;simp only[bw,hc.2.1,aa0,qN cB hc.2.2.1,abk,aaH,hb,aaV,uY,abp,abH,aaX,adG,aaU,ach]
theorem DB(H:ai)(f:Nat)(x:D):fB H f (.d x)=some x:=by cases f<;>rfl
theorem Ic{f:V→Option D}(h:∀x,f (.d x)=some x):∀(l:List D),bK f (l.map .d)=some l|[]=>rfl|a::l=>by simp only[aaY,bK,h,Ic h l]
theorem vZ{α:Type}{aa:α→List D}{sz:Nat}(h:∀a,(aa a).length=sz)(h0:0<sz){H:ai}{b p f:Nat}{l:List α}(hH:aE H b=some (aM aa l))(hp:p≤l.length):fB H (f+1) (.sl b (l.length*sz) 0 p sz)=some (.list ((l.take p).map aa)):=by
 cases l with
  |nil=>
   have:p=0:=by simpa using hp
   subst this;simp only[fB,hH,H5];rfl
  |cons a l=>
   have hm:p*sz≤(a::l).length*sz:=abg _ hp;have e1:(Nat.beq (((a::l).flatMap aa).map V.d).length ((a::l).length*sz)&&Nat.ble (0+p*sz) ((a::l).length*sz))=true:=by rw[aaW,ch h,aa0,abO (by omega)];rfl
   have e2:((((a::l).flatMap aa).map V.d).drop 0).take (p*sz)=((((a::l).take p).flatMap aa).map V.d):=by
    rw[abZ,←acT];congr 1;have hs:(a::l).flatMap aa=((a::l).take p).flatMap aa++((a::l).drop p).flatMap aa:=by rw[←abU,acm]
    rw[hs,acI (by rw[ch h,abw,ac3 hp];exact aaQ _),abS (by rw[ch h,abw,ac3 hp];exact aaQ _)]
   have e3:eV sz p (((a::l).take p).flatMap aa)=((a::l).take p).map aa:=by have:=ij h ((a::l).take p);rwa[abw,ac3 hp]at this
   simp only[fB,hH,jG h h0 (List.cons_ne_nil a l),e1,aaH,e2,Ic (DB H f),e3]
theorem AW.Ib{base i:Nat}{op:kI}{g:Option (Nat×Bool)}{af:List Nat}{l:List ad}{tm:List (Nat×V)}{H:ai}{Q:RS→List (Nat×V)→ai→Prop}{v:V}{wr:Wr}(ho:l.head?=some ⟨none,op,g,af⟩)(hg:ar g tm=some true)(hc:bA op=none)(he:bw (aX GL tm) H (base+i) op=some (v,wr))(hq:AW P GL base (i+1) (l.drop 1) tm (aZ H wr) (fun rs t k=>Q (((v,wr),lC (aX GL tm) op)::rs) t k)):AW P GL base i l tm H Q:=by
 refine AW.head ho ⟨none,v,wr,?_,fun f args h=>?_,hq⟩
 ·simp only[eX,hg,hc,he]
 ·simp only at h;rw[hc]at h;cases h
theorem AW.DA{α:Type}(aa:α→List D)(as:List α)(b j:Nat){base i d:Nat}{g:Option (Nat×Bool)}{af:List Nat}{l:List ad}{tm:List (Nat×V)}{H:ai}{Q:RS→List (Nat×V)→ai→Prop}{sz len:Nat}{x k:ba}(cB:∀a,(aa a).length=sz)(hj:j<len)(ho:l.head?=some ⟨some d,.de sz x k,g,af⟩)(hc:(ar g tm,aX GL tm x,aE H b,dC (aX GL tm k))=(some true,.sl b (as.length*sz) 0 len sz,some (aM aa as),some j))(hq:AW P GL base (i+1) (l.drop 1) (put tm d (.ptr b (as.length*sz) (j*sz))) H (fun rs t k'=>Q (((.ptr b (as.length*sz) (j*sz),none),lC (aX GL tm) (.de sz x k))::rs) t k')):AW P GL base i l tm H Q:=by simp only[aaF]at hc;refine AW.iL ho hc.1 rfl (v:=.ptr b (as.length*sz) (j*sz)) (wr:=none) ?_ hq;have:=vW (qN cB hc.2.2.1) hj hc.2.1 hc.2.2.2 (base+i);rwa[aaU]at this
theorem AW.R7{α:Type}(aa:α→List D)(as:List α)(j o:Nat){y:α}{base i d:Nat}{m:Nat}{agg:Bool}{g:Option (Nat×Bool)}{af:List Nat}{l:List ad}{tm:List (Nat×V)}{H:ai}{Q:RS→List (Nat×V)→ai→Prop}{sz b off:Nat}{a:ba}{v:V}(cB:∀a,(aa a).length=sz)(hy:as[j]? =some y)(ho:l.head?=some ⟨some d,.load m agg a,g,af⟩)(hc:(Nat.blt 0 sz,ar g tm,aX GL tm a,aE H b,Nat.ble (o+m) sz)=(true,some true,.ptr b (as.length*sz) off,some (aM aa as),true))(BN:off=j*sz+o)(hv:pj agg ((((aa y).drop o).take m).map .d)=some v)(hq:AW P GL base (i+1) (l.drop 1) (put tm d v) H (fun rs t k'=>Q (((v,none),lC (aX GL tm) (.load m agg a))::rs) t k')):AW P GL base i l tm H Q:=by simp only[aaF]at hc;refine AW.iL ho hc.2.1 rfl (v:=v) (wr:=none) ?_ hq;simp only[bw,hc.2.2.1,vY cB hy hc.2.2.2.1 (by simpa[aaT]using hc.1) (aaM hc.2.2.2.2) BN,hv,aaV]
theorem AW.W1{α:Type}(aa:α→List D)(as:List α)(j:Nat){y z:α}{base i:Nat}{g:Option (Nat×Bool)}{af:List Nat}{l:List ad}{tm:List (Nat×V)}{H:ai}{Q:RS→List (Nat×V)→ai→Prop}{sz b off:Nat}{a x:ba}(cB:∀a,(aa a).length=sz)(hy:as[j]? =some y)(ho:l.head?=some ⟨none,.store sz a x,g,af⟩)(hc:(Nat.blt 0 sz,ar g tm,aX GL tm a,aE H b,bU (aX GL tm x))=(true,some true,.ptr b (as.length*sz) off,some (aM aa as),(aa z).map .d))(BN:off=j*sz)(hq:AW P GL base (i+1) (l.drop 1) tm (bn H b (aM aa (as.set j z))) (fun rs t k'=>Q (((.any,some (b,aM aa (as.set j z))),lC (aX GL tm) (.store sz a x))::rs) t k')):AW P GL base i l tm H Q:=by simp only[aaF]at hc;refine AW.Ib ho hc.2.1 rfl (v:=.any) (wr:=some (b,aM aa (as.set j z))) ?_ hq;simp only[bw,hc.2.2.1,tX cB hy hc.2.2.2.1 (by simpa[aaT]using hc.1) BN hc.2.2.2.2,aaV]
end
end Fw
/-
  Rows born empty: appended to in drawn regions, and known as data where cells speak of them.
-/
namespace Fw
open Go
section
variable {P:Program}{GL:cj}
theorem AW.BL{α:Type}(aa:α→List D)(as ys:List α){base i d:Nat}{g:Option (Nat×Bool)}{af:List Nat}{l:List ad}{tm:List (Nat×V)}{H:ai}{Q:RS→List (Nat×V)→ai→Prop}{sz bytes:Nat}{x y:ba}(b:Nat)(cB:∀a,(aa a).length=sz)(ho:l.head?=some ⟨some d,.append sz bytes x y,g,af⟩)(hc:(Nat.blt 0 sz,ar g tm,aX GL tm x,aE H b)=(true,some true,.sl b (as.length*sz) 0 as.length sz,some (du aa as)))(hy:cF H sz (aX GL tm y)=some ((ys.flatMap aa).map .d))(hr:(as.length+ys.length)*sz*(bytes+1)≤1099511627776)(hq:AW P GL base (i+1) (l.drop 1) (put tm d (.sl b ((as++ys).length*sz) 0 (as++ys).length sz)) (bn H b (du aa (as++ys))) (fun rs t k=>Q (((.sl b ((as++ys).length*sz) 0 (as++ys).length sz,some (b,du aa (as++ys))),lC (aX GL tm) (.append sz bytes x y))::rs) t k)):AW P GL base i l tm H Q:=by
 simp only[aaF]at hc;have Ot:0<sz:=by simpa[aaT]using hc.1
 have e1:=pI (H:=H) (ns:=base+i) (sz:=sz) (bytes:=bytes) (b:=b) (len:=as.length) (k:=ys.length) (cs:=(as.flatMap aa).map .d) (xs:=(ys.flatMap aa).map .d) Ot hc.2.2.2 (by simp[ch cB]) (by simp[ch cB]) (by simp[dO]) (by simpa[cy]using hr);refine AW.iL (v:=.sl b ((as++ys).length*sz) 0 (as++ys).length sz) (wr:=some (b,du aa (as++ys))) ho hc.2.1 rfl ?_ hq;simp only[bw,hy,hc.2.2.1,e1,aa1,du,abU,abW]
end
theorem au.R9{α:Type}(aa:α→List D)(as:List α){m n sz:Nat}{tm a7:List (Nat×V)}{H H':ai}(b:Nat)(cB:∀a,(aa a).length=sz)(hH:aE H b=some (du aa as))(hr:jF b (.sl b (as.length*sz) 0 as.length sz) (.d (.list (as.map aa))) 0 H H')(e1:qK b tm=a7):au m ⟨n,tm,H⟩ ⟨n,a7,H'⟩:=by
 intro GL g w a vz;have hle:Nat.ble (0+as.length*sz) (as.length*sz)=true:=by rw[ab8];omega
 have ho:bP b (as.flatMap aa) (.sl b (as.length*sz) 0 as.length sz)=.d (.list (as.map aa)):=by simp only[bP,aa0,aaH,ch cB,hle,abk,abZ,ij cB]
 have hf:=tW ho H H' 0 hr;have Oo:j_ b ⟨n,tm,H⟩=some ⟨n,tm.map fun p=>(p.1,bP b (as.flatMap aa) p.2),H'⟩:=by unfold j_;rw[vV hH];simp only[hf];rw[BM rfl H H' 0 hr (nF vz.heap),aaH]
 refine(au.trans (au.oe Oo) (au.kZ fun t=>?_ )) GL g w a vz;subst e1;rw[lB (bP b (as.flatMap aa)) (by simp only[bP]),lK];cases hn:fG b (get tm t)with
  |true=>left;rw[aaH,e_ _ hn]
  |false=>right;rfl
end Fw
/-
  Nil rows handed on as arguments.
-/
namespace Fw
open Go
section
variable {P:Program}{GL:cj}
def mT:List V→List V→Prop|[],[]=>True|a::as,b::bs=>(a=b∨(a=.ab∧b=.d (.list [])))∧mT as bs|_,_=>False
theorem mT.R'{g:G}{w:World}:∀{as bs:List V}{vs:List Value},mT as bs→aV g w as vs→aV g w bs vs
 |[],[],_,_,h=>h
 |a::as,b::bs,[],_,h=>by simp only[aV]at h
 |a::as,b::bs,v::vs,hr,h=>by
  simp only[aV]at h⊢;obtain⟨ka,wZ⟩:=hr;refine⟨?_,mT.R' wZ h.2⟩;rcases ka with rfl|⟨rfl,rfl⟩
  ·exact h.1
  ·have:=h.1;simp only[RV]at this;simp only[RV,Rd];exact .inl ⟨trivial,.inl this⟩
 |[],_::_,_,hr,_=>by simp only[mT]at hr
 |_::_,[],_,hr,_=>by simp only[mT]at hr
theorem PC.nil{f:FuncId}{args rI:List V}{v:V}(h:PC P GL f rI v)(hr:mT args rI):PC P GL f args v:=⟨h.1,fun g w vs dX h1 h2 h3=>h.2 g w vs (mT.R' hr dX) h1 h2 h3⟩
theorem CG.W2{i:Nat}{n:Nat}{tm:List (Nat×V)}{H:ai}{rs:List iZ}{R:V→ai→Prop}{v':V}(h:fq rs ⟨n,tm,H⟩=some v')(e:R v' H):CG P GL (.out (.exit i)) [.block i] n tm H (sg rs R):=e8.exit (show sg rs R .normal ⟨n,tm,H⟩from⟨v',h,e⟩)
end
end Fw
/-
  A drawn region in parts: some operations all come ahead of the others; between the parts the state may be told anew.
-/
namespace Fw
open Go
section
variable {P:Program}{GL:cj}
def oY(k:Nat)(o:ad):ad:={o with after:=(o.after.filter fun e=>Nat.ble k e).map (· - k)}
def kj(k:Nat)(l:List ad):List ad:=(l.drop k).map (oY k)
def Ie(m:Nat):List Nat→Bool|[]=>true|r::rs=>Nat.beq (Nat.land r (2^m - 1)) (2^m - 1)&&Ie m rs
def If(k m:Nat)(l:List ad):Bool:=kR 0 (kj k l)&&Ie m ((cT 0 [] (kj k l)).drop m)
def DP(P:Program)(GL:cj)(mm:Nat)(l:List ad)(k:Nat)(σ:St)(Q:Ex→St→Prop):Prop:=∀(ops:Array Oper),i_ P ops.toList true ops.toList=some l→∀(listed:Array Bool) g w a g0 w0,listed.size=ops.size→(∀j,listed.getD j false=decide (j<k))→R GL g w a σ→(∀b,g0.cR b→b<mm)→cr g0 w0 g w→wpAny P .any ops (cA GL g0 w0 Q) (ops.size - k) listed a w
theorem zH{m:Nat}:∀{rs:List Nat}{i:Nat},Ie m rs=true→i<rs.length→∀j,j<m→Nat.testBit (rs.getD i 0) j=true
 |[],i,_,h,_,_=>by simp at h
 |r::rs,0,h,_,j,hj=>by
  simp only[Ie,aaD]at h;have e:=aaI h.1;have h1:Nat.testBit (Nat.land r (2^m - 1)) j=true:=by rw[e,Nat.testBit_two_pow_sub_one];simpa using hj
  rw[Hk,aaD]at h1;simpa using h1.1
 |r::rs,i+1,h,hi,j,hj=>by simp only[Ie,aaD]at h;rw[adp];exact zH h.2 (by simpa using hi) j hj
theorem xA{l:List ad}{K:Nat→Bool}(hb:kR 0 l=true)(hK:hU l K):∀j i,Nat.testBit ((cT 0 [] l).getD j 0) i=true→K j=true→K i=true:=by
 intro j;induction j using Nat.strongRecOn with
  |_ j ih=>
   intro i hi hj;have qk:j<l.length:=by
    rcases abm j l.length with h|h
    ·exact h
    ·rw[aa7,acO (by rw[dS];exact h)]at hi;simp at hi
   have ho:l[j]? =some l[j]:=aaG qk;obtain⟨e,h4,h5⟩:=lF hb (fun e m hm et=>by simp[mF]at hm;exact absurd hm.symm et) j _ ho i hi;have Rn:=hK j _ ho hj e h4;have bS:=jz hb j _ ho e h4;rcases h5 with rfl|⟨h5,h6⟩|⟨h5,h6⟩
   ·exact Rn
   ·omega
   ·exact ih e (by omega) i (by simpa using h6) Rn
theorem EY{k:Nat}{l:List ad}{i:Nat}{o:ad}(h:l[k+i]? =some o):(kj k l)[i]? =some (oY k o):=by simp only[kj,abf,abA,h,aaV]
theorem EZ{k:Nat}{l:List ad}{i:Nat}{o:ad}(h:(kj k l)[i]? =some o):∃o',l[k+i]? =some o'∧o=oY k o':=by simp only[kj,abf,abA,aaE]at h;obtain⟨o',h1,h2⟩:=h;exact⟨o',h1,h2.symm⟩
theorem qO{k:Nat}{o:ad}{e:Nat}:e∈(oY k o).after↔k+e∈o.after:=by
 simp only[oY,aa8,aaZ,ab8];constructor
 ·rintro⟨x,⟨h1,h2⟩,rfl⟩;rwa[show k+(x - k)=x by omega]
 ·intro h;exact⟨k+e,⟨h,by omega⟩,by omega⟩
theorem WC.mU{l:List ad}{σ:St}{Q:Ex→St→Prop}(hm:P.follows .mixedOrders=true)(h:DP P GL σ.hp.length l 0 σ Q):WC P GL (.draw l) σ Q:=by
 intro code hc g w sB hr;obtain⟨id,ops,rfl,hl⟩:∃id ops,code=.region id ops true∧i_ P ops.toList true ops.toList=some l:=by
  cases code with
   |region id ops draw=>
    simp only[aJ]at hc;split at hc
    ·rename_i l' GG;cases draw with
      |false=>simp at hc
      |true=>simp at hc;subst hc;exact⟨id,ops,rfl,GG⟩
    ·cases hc
   |seq=>simp only[aJ]at hc;split at hc<;>simp at hc
   |cond=>simp only[aJ]at hc;split at hc<;>simp at hc
   |_=>simp[aJ]at hc
 refine wp_region_any hm ?_;have ey:∀j,(Array.replicate ops.size false).getD j false=false:=by intro j;rw[aaJ,acv];split<;>rfl
 exact h ops hl (Array.replicate ops.size false) g _ sB g w (by simp) (fun j=>by rw[ey];simp) (hr.drawn _) (fun b hb=>hr.heap.cR b hb) (cr.drawn g w _)
theorem DP.done{mm:Nat}{l:List ad}{σ:St}{Q:Ex→St→Prop}(h:Q .normal σ):DP P GL mm l l.length σ Q:=by
 intro ops hl listed g w a g0 w0 cB hK hR hm hE;obtain⟨hlen,_⟩:=hY hl;rw[hlen,ac4];refine⟨?_,g,σ,hR,hE,h⟩;unfold Region.ready;rw[abn];intro j hj;simp only[abb]at hj;have h1:=hK j;rw[hlen,aa9 hj]at h1;have h2:listed.getD j true=true:=by rw[aaJ]at h1⊢;rw[Array.getElem?_eq_getElem (by omega)]at h1⊢;exact h1
 simp[h2]
theorem DP.tidy{mm:Nat}{l:List ad}{k:Nat}{σ aS:St}{Q:Ex→St→Prop}(ht:au mm σ aS)(h:DP P GL mm l k aS Q):DP P GL mm l k σ Q:=by intro ops hl listed g w a g0 w0 cB hK hR hm hE;obtain⟨g',h1,h2⟩:=ht GL g w a hR;exact h ops hl listed g' w a g0 w0 cB hK h1 hm (h2 g0 w0 hm hE)
theorem DP.part{mm:Nat}{l:List ad}{k:Nat}(m:Nat){σ:St}{Q:Ex→St→Prop}{qc:Nat→Option V}{rs:List ((V×Wr)×List Nat)}{lp:List ad}(Qw:(kj k l).take m=lp)(hm:Nat.ble (k+m) l.length=true)(Ig:If k m l=true)(eL:mg GL σ.hp.length qc 0 lp (ca σ lp.length)=some rs)(eF:c6 lp rs=true)(dY:eZ σ.n lp=true)(px:dT (σ.hp.length+lp.length) rs=true)(hq:∀(i:Nat)(o:ad)(r:(V×Wr)×List Nat),lp[i]? =some o→rs[i]? =some r→∀f args,bA o.op=some (f,args)→ar o.guard (dE lp rs (ca σ lp.length) i).tm=some true→gU P GL f (bh (aX GL (dE lp rs (ca σ lp.length) i).tm) args) (dE lp rs (ca σ lp.length) i).hp r.1.1)(h:DP P GL mm l (k+m) (aB (fun _=>true) 0 lp rs (ca σ lp.length)) Q):DP P GL mm l k σ Q:=by
 intro ops hl xB g w sB g0 w0 W3 Ow hr hdm hE0;have hm:=aaM hm;simp only[If,aaD]at Ig;obtain⟨hlen,dL⟩:=hY hl;have aaz:lp.length=m:=by rw[←Qw];simp[kj];omega
 have R_:∀i,i<m→∀o,l[k+i]? =some o→lp[i]? =some (oY k o):=fun i hi o ho=>by rw[←Qw,abd,aaP hi];exact EY ho
 have aat:∀i o,lp[i]? =some o→(kj k l)[i]? =some o:=fun i o ho=>by
  rw[←Qw,abd]at ho;split at ho
  ·exact ho
  ·cases ho
 obtain⟨NZ,N0⟩:=mG eL;have yY:=kg eF NZ;have tx:∀(i:Nat)(o:ad),lp[i]? =some o→∀d,o.dst=some d→d<σ.n:=by intro i o ho d hd;have:=(aaR.1 dY) o (aaO ho);rw[hd]at this;simpa[aaT]using this
 have dr:∀r∈rs,∀b,bq r.1.2=some b→b<σ.hp.length+lp.length:=by intro r hr b hb;have:=(aaR.1 px) r hr;rw[hb]at this;simpa[aaT]using this
 generalize oo:ca σ lp.length=dz at*;have nM:dz.hp.length=σ.hp.length+lp.length:=by rw[←oo];simp[ca]
 have N1:dz.n=σ.n:=by rw[←oo];rfl
 have key:∀(dp:Nat)(listed:Array Bool)(g1:G)(w1:World)(a1:Act),listed.size=ops.size→(∀j,j<k→listed.getD j false=true)→(∀j,k+m≤j→listed.getD j false=false)→((List.range m).filter fun j=> !listed.getD (k+j) false).length=dp→hU lp (fun j=>listed.getD (k+j) false)→R GL g1 w1 a1 (aB (fun j=>listed.getD (k+j) false) 0 lp rs dz)→cr g w g1 w1→(∀b,g1.cR b→b<σ.hp.length∨∃j,listed.getD (k+j) false=true∧b=σ.hp.length+j)→wpAny P .any ops (cA GL g0 w0 Q) (dp+(ops.size - (k+m))) listed a1 w1:=by
  intro dp;induction dp with
   |zero=>
    intro listed g1 w1 a1 cB jS jw iG iE hR hE gY;have jA:∀j,j<m→listed.getD (k+j) false=true:=by intro j hj;have:=abY iG;rw[abn]at this;have:=this j (by simpa using hj);simpa using this
    rw[aaU];refine h ops hl listed g1 w1 a1 g0 w0 cB (fun j=>?_ ) ?_ hdm (hE0.trans hE)
    ·rcases abm j k with h1|h1
     ·rw[jS j h1,aa9 (by omega)]
     ·rcases abm j (k+m)with h2|h2
      ·have:=jA (j - k) (by omega);rw[show k+(j - k)=j by omega]at this;rw[this,aa9 h2]
      ·rw[jw j h2,aa5 (by omega)]
    ·rw[bY (K':=fun j=>listed.getD (k+j) false) (fun j hj=>by simp only[aaU];exact(jA j (by omega)).symm)];exact hR
   |succ dp ih=>
    intro listed g1 w1 a1 cB jS jw iG iE hR hE gY;have u6:∃j,j<m∧listed.getD (k+j) false=false:=by
     have et:((List.range m).filter fun j=> !listed.getD (k+j) false)≠[]:=by intro e;rw[e]at iG;simp at iG
     obtain⟨j,hj⟩:=acr _ et;rw[aaZ]at hj;exact⟨j,by simpa using hj.1,by simpa using hj.2⟩
    rw[show dp+1+(ops.size - (k+m))=(dp+(ops.size - (k+m)))+1 by omega];constructor
    ·intro oq;exfalso;obtain⟨j,⟨GK,sA⟩,yS⟩:=vv u6;have Hn:ops[k+j]? =some ops[k+j]:=Array.getElem?_eq_getElem (by omega);obtain⟨o,ho,_,_,_,iQ⟩:=dL (k+j) _ Hn;have Wy:j<rs.length:=by omega
     have sF:=bz (R_ j GK o ho) (aaG Wy);have:k+j∈Region.ready .any ops listed:=by
      unfold Region.ready;rw[aaZ];refine⟨by rw[abb];omega,?_ ⟩;have h2:listed.getD (k+j) true=false:=by rw[aaJ]at sA⊢;rw[Array.getElem?_eq_getElem (by omega)]at sA⊢;exact sA
      simp only[h2,abD,aa2,Hn,aaV,abe,aa3];intro e he;cases hb:Region.binds .any e with
       |false=>rfl
       |true=>
        simp only[abp,abM];have GM:e.on∈o.after:=by rw[iQ];simp only[cC,aa8,aaZ];exact⟨e,⟨by simpa using he,hb⟩,rfl⟩
        rcases abm e.on k with h1|h1
        ·exact jS _ h1
        ·have bS:=yY.before j _ sF (e.on - k) (qO.2 (by rwa[show k+(e.on - k)=e.on by omega]));cases Qj:listed.getD e.on false with
          |true=>rfl
          |false=>have:=yS (e.on - k) ⟨by omega,by rwa[show k+(e.on - k)=e.on by omega]⟩;omega
     rw[oq]at this;cases this
    ·intro i0 hi;unfold Region.ready at hi;rw[aaZ]at hi;have sF:i0<ops.size:=by simpa using hi.1
     have tz:ops[i0]? =some ops[i0]:=Array.getElem?_eq_getElem sF;have lA:=hi.2;simp only[aaD,abj,tz,aaV,abe,aa3]at lA;obtain⟨o0,EI,eH,lz,hd,iQ⟩:=dL i0 _ tz;have Ow:listed.getD i0 false=false:=by have:=lA.1;rw[aaJ]at this⊢;rw[Array.getElem?_eq_getElem (by omega)]at this⊢;exact this
     have DC:∀e∈o0.after,listed.getD e false=true:=by intro e he;rw[iQ]at he;simp only[cC,aa8,aaZ]at he;obtain⟨ed,⟨vD,sy⟩,rfl⟩:=he;have:=lA.2 ed (by simpa using vD);simpa[sy]using this
     have C6:k≤i0:=by
      rcases abm i0 k with h1|h1
      ·rw[jS i0 h1]at Ow;cases Ow
      ·exact h1
     obtain⟨i,rfl⟩:∃i,i0=k+i:=⟨i0 - k,by omega⟩;have ti:i<m:=by
      rcases abm i m with h1|h1
      ·exact h1
      ·exfalso;obtain⟨j,GK,sA⟩:=u6;have W4:(kj k l).length=l.length - k:=by simp[kj]
       have W5:Nat.testBit ((cT 0 [] (kj k l)).getD i 0) j=true:=by have:=zH (m:=m) (i:=i - m) Ig.2 (by rw[adi,dS,W4];omega) j GK;rw[aa7,abA,show m+(i - m)=i by omega,←aa7]at this;exact this
       have hC:hU (kj k l) (fun j=>listed.getD (k+j) false||decide (j=i)):=by
        intro j' o' iV MY e he;simp only[abq,aaN]at MY⊢;rcases MY with MY|rfl
        ·have U_:j'<m:=by
          rcases abm j' m with h2|h2
          ·exact h2
          ·rw[jw (k+j') (by omega)]at MY;cases MY
         left;refine iE j' o' ?_ MY e he;rw[←Qw,abd,aaP U_];exact iV
        ·obtain⟨o2,k1,rfl⟩:=EZ iV;rw[EI]at k1;simp only[aaC]at k1;subst k1;exact .inl (DC _ (qO.1 he))
       have:=xA Ig.1 hC i j W5 (by simp);simp only[abq,aaN]at this;rcases this with h2|h2
       ·rw[sA]at h2;cases h2
       ·omega
     obtain⟨o,ho,eH,lz,hd,dI⟩:∃o,lp[i]? =some o∧(bD P (ops[k+i]).op).getD .bad=o.op∧fR ops.toList ops[k+i]=some o.guard∧(ops[k+i]).dst=o.dst∧∀e∈o.after,listed.getD (k+e) false=true:=⟨oY k o0,R_ i ti o0 EI,eH,lz,hd,fun e he=>DC _ (qO.1 he)⟩;have Ho:i<rs.length:=by omega
     have tA:rs[i]? =some rs[i]:=aaG Ho;obtain⟨r,ka,wZ,EH⟩:=N0 i _ ho;rw[tA]at ka;simp only[aaC]at ka;simp only[aaU]at wZ EH;have rG:listed.getD (k+i) false=false:=Ow;have Bq:=bz ho tA;have nV:∀{j:Nat}{y:lW},(gS lp rs)[j]? =some y→hO {dst:=o.dst,lk:=dD o,rd:=rs[i].2,ws:=bq rs[i].1.2,after:=o.after} y=true→listed.getD (k+j) false=decide (j<i):=fun hy hm=>agree yY iE ho rG dI Bq hy hm (by rw[nv];exact hm)
     have Br:∀t∈dD o,get (aB (fun j=>listed.getD (k+j) false) 0 lp rs dz).tm t=get (dE lp rs dz i).tm t:=by
      intro t ht;refine kT rfl (fun j o' h1 h2=>?_ );simp only[aaU];have Bs:j<rs.length:=by have:=(aaK.1 h1).1;omega
      have fM:=bz h1 (aaG Bs);refine nV fM ?_;unfold hO;have:nW o'.dst (dD o)=true:=jb.2 ⟨t,h2,ht⟩;simp[this]
     have Hq:∀b∈lC (aX GL (dE lp rs dz i).tm) o.op,aE (aB (fun j=>listed.getD (k+j) false) 0 lp rs dz).hp b=aE (dE lp rs dz i).hp b:=by
      intro b hb;refine kU rfl (fun j r' h1 h2=>?_ );simp only[aaU];have qk:j<lp.length:=by have:=(aaK.1 h1).1;omega
      have fM:=bz (aaG qk) h1;refine nV fM ?_;unfold hO;have:nW (bq r'.1.2) rs[i].2=true:=jb.2 ⟨b,h2,by rw[ka,EH];exact hb⟩;simp[this]
     have qw:=lG (GL:=GL) (ns:=σ.hp.length+i) (cv:=qc i) Br Hq;have Bt:eX GL (dE lp rs dz i).tm (dE lp rs dz i).hp (σ.hp.length+i) o (qc i)=some r.1:=wZ;rw[Bt]at qw;have Bu:∀x∈looks o.op,aX GL (aB (fun j=>listed.getD (k+j) false) 0 lp rs dz).tm x=aX GL (dE lp rs dz i).tm x:=fun x hx=>kV (fun t ht=>Br t (by simp only[dD,abc,acE];exact .inl ⟨x,hx,ht⟩))
     have N2:ar o.guard (aB (fun j=>listed.getD (k+j) false) 0 lp rs dz).tm=ar o.guard (dE lp rs dz i).tm:=gw (fun d w hd=>Br d (by simp[dD,hd]));unfold wpOp;simp only[tz];have sG:=sD (P:=P) (GL:=GL) (ops:=ops) (v:=r.1.1) (wr:=r.1.2) eH lz hd qw (fun f args hc C9=>by
      rw[N2]at C9;have:=hq i o rs[i] ho tA f args hc C9;rw[ka]at this;have MM:bh (aX GL (aB (fun j=>listed.getD (k+j) false) 0 lp rs dz).tm) args=bh (aX GL (dE lp rs dz i).tm) args:=by refine ei (fun x hx=>Bu x ?_ );cases mJ:o.op<;>rw[mJ]at hc<;>simp[bA]at hc;obtain⟨rfl,rfl⟩:=hc;simpa[looks]using hx
      rw[MM];refine this.congr (fun b hb=>Hq b ?_ );cases mJ:o.op<;>rw[mJ]at hc<;>simp[bA]at hc;obtain⟨rfl,rfl⟩:=hc;simpa only[lC]using hb) hR (by
      intro yW;rcases gY _ yW with h1|⟨j,h1,h2⟩
      ·omega
      ·have:j=i:=by omega
       subst this;rw[rG]at h1;cases h1) (fun d yW=>by rw[eS,N1];exact tx i o ho d yW) (wpAny P .any ops (cA GL g0 w0 Q) (dp+(ops.size - (k+m))) (listed.setIfInBounds (k+i) true)) (cA GL g0 w0 Q) (by
      intro g2 w2 a2 KH KI N3;have sc:∀j,(listed.setIfInBounds (k+i) true).getD (k+j) false=dw (fun j=>listed.getD (k+j) false) i j:=by
       intro j;simp only[dw,aaJ];by_cases hj:j=i
       ·subst hj;rw[aba (by omega)];simp
       ·rw[aa6 (by omega)];simp[hj]
      have hKo:∀j,j≠k+i→(listed.setIfInBounds (k+i) true).getD j false=listed.getD j false:=by intro j hj;simp only[aaJ];rw[aa6 (fun e=>hj e.symm)]
      have mK:aB (fun j=>(listed.setIfInBounds (k+i) true).getD (k+j) false) 0 lp rs dz=aB (dw (fun j=>listed.getD (k+j) false) i) 0 lp rs dz:=bY (fun j _=>sc _);refine ih _ g2 w2 a2 (by simpa using cB) (fun j hj=>by rw[hKo j (by omega)];exact jS j hj) (fun j hj=>by rw[hKo j (by omega)];exact jw j hj) ?_ ?_ ?_ (hE.trans KI) ?_
      ·have e1:(fun j=> !(listed.setIfInBounds (k+i) true).getD (k+j) false)=fun j=> !listed.getD (k+j) false&& !decide (j=i):=by funext j;rw[sc j];simp[dw]
       rw[e1];have ou:∀(m:Nat)(f:Nat→Bool),i<m→f i=true→((List.range m).filter f).length=((List.range m).filter fun j=>f j&& !decide (j=i)).length+1:=by
        intro m f;induction m with
         |zero=>intro h;omega
         |succ m KJ=>
          intro ti Hr;rw[acF,abC,abC,aa1,aa1];rcases abm i m with h1|h1
          ·rw[KJ h1 Hr];have:m≠i:=by omega
           simp[abE,this];split<;>simp<;>omega
          ·have:m=i:=by omega
           subst this;have tB:(List.range m).filter f=(List.range m).filter fun j=>f j&& !decide (j=m):=by
            refine acJ (fun j hj=>?_ );have:j≠m:=by have:=abb.1 hj;omega
            simp[this]
           rw[←tB];simp[abE,Hr]
       have:=ou m (fun j=> !listed.getD (k+j) false) ti (by simp[rG]);rw[iG]at this;omega
      ·intro j o' iV hj e he;simp only[sc]at hj⊢;simp only[dw,abq,aaN]at hj⊢;rcases hj with hj|rfl
       ·exact .inl (iE j o' iV hj e he)
       ·rw[ho]at iV;simp only[aaC]at iV;subst iV;exact .inl (dI e he)
      ·rw[mK];refine KH.congr ?_ (fun t=>?_ ) ?_
       ·rw[eS];have:∀(s:St)(v:V)(H:ai),(s.fu o.dst v H).n=s.n:=by intro s v H;cases o.dst<;>rfl
        rw[this,eS]
       ·rw[jc (k:=i) (by omega) ho tA rG (by omega) (fun j o' h1 h2 h3 h4 h5=>by
         simp only[aaU]at h5;have Bs:j<rs.length:=by have:=(aaK.1 h1).1;omega
         have fM:=bz h1 (aaG Bs);have:=nV fM (by unfold hO;have:gT o.dst o'.dst=true:=dm.2 ⟨t,h4,h3⟩;simp[this]);rw[h5]at this;simpa using this.symm),iF,ka]
       ·have Bn:∀(s:St)(v:V)(H:ai),(s.fu o.dst v H).hp=H:=by intro s v H;cases o.dst<;>rfl
        rw[Bn];refine mH ?_ (fun b=>?_ )
        ·rw[dn nM (by rw[←nM]at dr⊢;simpa[nM]using dr)];cases hw:r.1.2 with
          |none=>simp only[aZ];rw[dn nM (by simpa using dr)]
          |some p=>obtain⟨c,y⟩:=p;have hc:c<σ.hp.length+lp.length:=dr rs[i] (abK Ho) c (by rw[ka,hw];rfl);have Kq:=dn (K:=fun j=>listed.getD (k+j) false) (i:=0) (l:=lp) (rs:=rs) nM (by simpa using dr);simp only[aZ];rw[eY (by omega),Kq]
        ·have:=jd (K:=fun j=>listed.getD (k+j) false) (b:=b) (σ:=dz) (i0:=0) (k:=i) (l:=lp) (by omega) (by omega) tA rG (fun j r' h1 h2 h3 h4 h5=>by
          simp only[aaU]at h5;have qk:j<lp.length:=by have:=(aaK.1 h1).1;omega
          have fM:=bz (aaG qk) h1;have:=nV fM (by unfold hO;have:gT (bq rs[i].1.2) (bq r'.1.2)=true:=dm.2 ⟨b,h4,h3⟩;simp[this]);rw[h5]at this;simpa using this.symm)
         rw[this,ka]
      ·intro b hb;rcases N3 b hb with h1|rfl
       ·rcases gY b h1 with h2|⟨j,h2,h3⟩
        ·exact .inl h2
        ·exact .inr ⟨j,by rw[sc];simp[dw,h2],h3⟩
       ·exact .inr ⟨i,by rw[sc];simp[dw],rfl⟩)
     split
     ·rename_i hw;simp only[hw,abv]at sG;exact .inl sG
     ·rename_i hw;simp only[hw]at sG;exact sG
 rw[show ops.size - k=m+(ops.size - (k+m)) by omega];have ey:∀j,xB.getD (k+j) false=false:=fun j=>by rw[Ow];simp
 have iW:aB (fun j=>xB.getD (k+j) false) 0 lp rs dz=dz:=by
  have:∀(l:List ad)(rs:List ((V×Wr)×List Nat))(i:Nat)(s:St),aB (fun _=>false) i l rs s=s:=by
   intro l;induction l with
    |nil=>intro rs i s;simp[aB]
    |cons o l ih=>
     intro rs i s;cases rs with
      |nil=>simp[aB]
      |cons r rs=>simp only[aB,aaX];exact ih _ _ _
  rw[bY (K':=fun _=>false) (fun j _=>ey _)];exact this _ _ _ _
 refine key m xB g _ sB W3 (fun j hj=>by rw[Ow,aa9 hj]) (fun j hj=>by rw[Ow,aa5 (by omega)]) ?_ ?_ ?_ (cr.refl _ _) ?_
 ·simp only[ey,abD];rw[ab5.2 (by simp)];simp
 ·intro j o _ hj;simp only[ey]at hj;cases hj
 ·rw[iW,←oo];exact hr.pad lp.length
 ·intro b hb;exact .inl (hr.heap.cR b hb)
end
end Fw
/-
  The last operation of a drawn region, for which all others come ahead, told as an ordinary one; parts walked one by one.
-/
namespace Fw
open Go
def v7(o:ad):ad:={o with after:=[]}
section
variable {P:Program}{GL:cj}
theorem vc{ops:List Oper}{o:Oper}{o':ad}(h:fC P ops true o=some o'):fC P ops false o=some (v7 o'):=by
 unfold fC at h⊢;split at h
 ·simp only[aaC]at h;subst h;rfl
 ·cases h
theorem qP{ops:List Oper}:∀{L:List Oper}{l:List ad},bK (fC P ops true) L=some l→bK (fC P ops false) L=some (l.map v7)
 |[],l,h=>by simp only[bK,aaC]at h;subst h;rfl
 |x::L,l,h=>by
  simp only[bK]at h;cases h1:fC P ops true x with
   |none=>rw[h1]at h;cases h
   |some y=>
    rw[h1]at h;cases h2:bK (fC P ops true) L with
     |none=>rw[h2]at h;cases h
     |some ys=>rw[h2]at h;simp only[aaC]at h;subst h;simp only[bK,vc h1,qP h2,aaY]
theorem qQ{α β:Type}{f:α→Option β}:∀{L:List α}{l:List β}(k:Nat),bK f L=some l→bK f (L.drop k)=some (l.drop k)
 |L,l,0,h=>by simpa using h
 |[],l,k+1,h=>by simp only[bK,aaC]at h;subst h;rfl
 |x::L,l,k+1,h=>by
  simp only[bK]at h;cases h1:f x with
   |none=>rw[h1]at h;cases h
   |some y=>
    rw[h1]at h;cases h2:bK f L with
     |none=>rw[h2]at h;cases h
     |some ys=>rw[h2]at h;simp only[aaC]at h;subst h;simpa using qQ k h2
theorem DP.last{mm:Nat}{l:List ad}{k:Nat}{σ:St}{Q:Ex→St→Prop}(hk:Nat.beq (k+1) l.length=true)(BO:kR 0 l=true)(h:WO P GL ((l.drop k).map v7) σ (fun s=>Q .normal s)):DP P GL mm l k σ Q:=by
 intro ops hl listed g w a g0 w0 cB hK hR hm hE;have hk:=aaI hk;obtain⟨hlen,dL⟩:=hY hl;have Er:k<ops.size:=by omega
 have eF:ops[k]? =some ops[k]:=Array.getElem?_eq_getElem Er;obtain⟨o,ho,_,_,_,iQ⟩:=dL k _ eF;have hw:=h ops k (by have:=qQ k (qP hl);rw[acV];exact this) g w a hR;rw[show ops.size - k=1 by omega]at hw⊢;have Dk:=cW (Q':=cA GL g0 w0 Q) (fun e a v hp=>by have:=cA.ext hE e a v hp;cases e<;>first|exact this|(obtain⟨_,_,_,_,h⟩:=this;exact h.elim)) _ _ _ hw;rw[show List.range' k 1=[k]from rfl,wpOps_cons]at Dk;have yY:listed.getD k false=false:=by rw[hK];simp
 have W6:listed.getD k true=false:=by rw[aaJ]at yY⊢;rw[Array.getElem?_eq_getElem (by omega)]at yY⊢;exact yY
 constructor
 ·intro oq;exfalso;have:k∈Region.ready .any ops listed:=by
   unfold Region.ready;rw[aaZ];refine⟨by rw[abb];omega,?_ ⟩;simp only[W6,abD,aa2,eF,aaV,abe,aa3];intro e he;cases hb:Region.binds .any e with
    |false=>rfl
    |true=>
     simp only[abp,abM];have GM:e.on∈o.after:=by rw[iQ];simp only[cC,aa8,aaZ];exact⟨e,⟨by simpa using he,hb⟩,rfl⟩
     have bS:=jz BO k o ho e.on GM;rw[hK,aa9 (by omega)]
  rw[oq]at this;cases this
 ·intro i hi;unfold Region.ready at hi;rw[aaZ]at hi;have sF:i<ops.size:=by simpa using hi.1
  have tz:ops[i]? =some ops[i]:=Array.getElem?_eq_getElem sF;have lA:=hi.2;simp only[aaD,abj,tz,aaV,abe,aa3]at lA;have A9:i=k:=by have h1:=lA.1;have h2:=hK i;rw[aaJ]at h1 h2;rw[Array.getElem?_eq_getElem (by omega)]at h1 h2;simp only[abe]at h1 h2;rw[h1]at h2;have:=adt h2.symm;omega
  subst A9;refine wpOp_mono (fun a' w' hq=>?_ ) Dk;refine⟨?_,hq⟩;unfold Region.ready;rw[abn];intro j hj;simp only[abb]at hj;have h2:(listed.setIfInBounds i true).getD j true=true:=by
   rw[aaJ];by_cases W7:j=i
   ·subst W7;rw[aba (by omega)];rfl
   ·rw[aa6 (by omega)];have h3:=hK j;rw[aa9 (by omega),aaJ]at h3;rw[Array.getElem?_eq_getElem (by omega)]at h3⊢;exact h3
  simp[h2]
theorem DP.walk{mm k:Nat}(m:Nat){l:List ad}{n:Nat}{tm:List (Nat×V)}{H:ai}{Q:Ex→St→Prop}{lp:List ad}(Qw:(kj k l).take m=lp)(hm:Nat.ble (k+m) l.length=true)(Ig:If k m l=true)(wO:eZ n lp=true)(h:AW P GL H.length 0 lp tm (H++List.replicate lp.length none) (fun rs a7 H'=>(c6 lp rs&&dT (H.length+lp.length) rs)=true∧∃eU H2,au mm ⟨n,a7,H'⟩ ⟨n,eU,H2⟩∧DP P GL mm l (k+m) ⟨n,eU,H2⟩ Q)):DP P GL mm l k ⟨n,tm,H⟩ Q:=by
 obtain⟨BJ,rs,a7,H',k1,k2,k4,⟨k5,eU,H2,k7,k8⟩,k6⟩:=AW.runs (n:=n) h;rw[aaD]at k5;refine DP.part (σ:=⟨n,tm,H⟩) m (qc:=fun i=>(BJ[i]? ).bind id) (rs:=rs) Qw hm Ig ?_ k5.1 wO k5.2 (fun i o r ho hr f args cD hg=>?_ ) ?_
 ·exact k2 _ fun j c hj=>by simp[hj]
 ·have:=k6 i o r ho hr f args cD;simp only[aaU]at this;exact this hg
 ·show DP P GL mm l (k+m) (aB (fun _=>true) 0 lp rs (ca ⟨n,tm,H⟩ lp.length)) Q;have e:aB (fun _=>true) 0 lp rs (ca ⟨n,tm,H⟩ lp.length)=⟨n,a7,H'⟩:=k4;rw[e];exact DP.tidy k7 k8
theorem CG.mU(hm:P.follows .mixedOrders=true){l:List ad}{K:List Fr}{n:Nat}{tm:List (Nat×V)}{H:ai}{Q:Ex→St→Prop}(h:DP P GL H.length l 0 ⟨n,tm,H⟩ (KQ P GL K Q)):CG P GL (.code (.draw l)) K n tm H Q:=WC.mU hm h
theorem DP.Sa{mm:Nat}{l:List ad}{k:Nat}{n:Nat}{tm:List (Nat×V)}{H:ai}{K:List Fr}{Q:Ex→St→Prop}(hk:Nat.beq (k+1) l.length=true)(BO:kR 0 l=true)(h:CG P GL (.ops ((l.drop k).map v7)) K n tm H Q):DP P GL mm l k ⟨n,tm,H⟩ (KQ P GL K Q):=DP.last hk BO h
theorem DP.DD{mm:Nat}{l:List ad}{k:Nat}{n:Nat}{tm:List (Nat×V)}{H:ai}{K:List Fr}{Q:Ex→St→Prop}(hk:Nat.beq k l.length=true)(h:CG P GL (.out .normal) K n tm H Q):DP P GL mm l k ⟨n,tm,H⟩ (KQ P GL K Q):=by have:=aaI hk;subst this;exact DP.done h
end
end Fw
/-
  Rows that are nil or empty, appended to and known as data; an empty row looked at for nil.
-/
namespace Fw
open Go
def zI{α:Type}(aa:α→List D)(l:List α)(x:eG):Prop:=x=aM aa l∨x=du aa l
theorem oZ{α:Type}{aa:α→List D}{sz:Nat}(h:∀a,(aa a).length=sz)(h0:0<sz){l:List α}(hl:l≠[]):aM aa l=du aa l:=jG h h0 hl
theorem zI.cell{α:Type}{aa:α→List D}{sz:Nat}(h:∀a,(aa a).length=sz)(h0:0<sz){l:List α}{x:eG}(hx:zI aa l x)(hl:l≠[]):x=aM aa l:=by
 rcases hx with hx|hx
 ·exact hx
 ·rw[hx,oZ h h0 hl]
def vd{α:Type}(aa:α→List D)(z:Bool)(l:List α):eG:=bif z then du aa l else aM aa l
theorem zI.z{α:Type}{aa:α→List D}{l:List α}{x:eG}(h:zI aa l x):∃z,x=vd aa z l:=by
 rcases h with h|h
 ·exact⟨false,h⟩
 ·exact⟨true,h⟩
theorem vd.x{α:Type}(aa:α→List D)(z:Bool)(l:List α):zI aa l (vd aa z l):=by
 cases z
 ·exact .inl rfl
 ·exact .inr rfl
@[simp] theorem Ox{α:Type}(n:Nat)(aa:α→List D)(z:Bool)(l:List α):cE n (vd aa z l)=true:=by
 cases z
 ·exact aR n aa l
 ·exact dv n aa l
section
variable {P:Program}{GL:cj}
theorem CG.sK{d:Nat}{x y:ba}{g:Option (Nat×Bool)}{af:List Nat}{l:List ad}{K:List Fr}{n:Nat}{tm:List (Nat×V)}{H:ai}{Q:Ex→St→Prop}(ho:l.head?=some ⟨some d,.eq false .slice x y,g,af⟩)(hc:(ar g tm,aX GL tm x,aX GL tm y,Nat.blt d n)=(some true,.d (.list []),.ab,true))(hq:∀b,CG P GL (.ops (l.drop 1)) K n (put tm d (.d (.bool b))) H Q):CG P GL (.ops l) K n tm H Q:=by simp only[aaF]at hc;refine WO.head ho (WO.sK (x:=x) (y:=y) rfl hc.1 hc.2.1 hc.2.2.1 fun b=>⟨⟨n,put tm d (.d (.bool b)),H⟩,?_,hq b⟩);show St.put ⟨n,tm,H⟩ (some d) _ H=_;rw[aG,aaP (by simpa[aaT]using hc.2.2.2)]
theorem AW.Sb{α:Type}(aa:α→List D)(as:List α)(y:α){base i d:Nat}{g:Option (Nat×Bool)}{af:List Nat}{l:List ad}{tm:List (Nat×V)}{H:ai}{Q:RS→List (Nat×V)→ai→Prop}{sz bytes:Nat}{x y':ba}{bx:eG}(b:Nat)(cB:∀a,(aa a).length=sz)(ho:l.head?=some ⟨some d,.append sz bytes x y',g,af⟩)(hc:(Nat.blt 0 sz,ar g tm,aX GL tm x,aE H b)=(true,some true,.sl b (as.length*sz) 0 as.length sz,some bx))(hx:zI aa as bx)(hy:cF H sz (aX GL tm y')=some ((aa y).map .d))(hr:(as.length+1)*sz*(bytes+1)≤1099511627776)(hq:AW P GL base (i+1) (l.drop 1) (put tm d (.sl b ((as++[y]).length*sz) 0 (as++[y]).length sz)) (bn H b (aM aa (as++[y]))) (fun rs t k=>Q (((.sl b ((as++[y]).length*sz) 0 (as++[y]).length sz,some (b,aM aa (as++[y]))),lC (aX GL tm) (.append sz bytes x y'))::rs) t k)):AW P GL base i l tm H Q:=by
 have GN:=hc;simp only[aaF]at GN;have h0:0<sz:=by simpa[aaT]using GN.1
 rcases hx with rfl|rfl
 ·exact AW.MX aa as y cB GN.1 ho GN.2.1 GN.2.2.1 GN.2.2.2 hy hr rfl hq
 ·have e:aM aa (as++[y])=du aa (as++[y]):=oZ cB h0 (by simp);rw[e]at hq;exact AW.BL aa as [y] b cB ho hc (by simpa using hy) (by simpa using hr) hq
theorem AW.Sc{α:Type}(aa:α→List D)(as ys:List α){base i d:Nat}{g:Option (Nat×Bool)}{af:List Nat}{l:List ad}{tm:List (Nat×V)}{H:ai}{Q:RS→List (Nat×V)→ai→Prop}{sz bytes:Nat}{x y':ba}(b:Nat)(et:as++ys≠[])(cB:∀a,(aa a).length=sz)(ho:l.head?=some ⟨some d,.append sz bytes x y',g,af⟩)(hc:(Nat.blt 0 sz,ar g tm,aX GL tm x,aE H b)=(true,some true,.sl b (as.length*sz) 0 as.length sz,some (aM aa as)))(hy:cF H sz (aX GL tm y')=some ((ys.flatMap aa).map .d))(hr:(as.length+ys.length)*sz*(bytes+1)≤1099511627776)(hq:AW P GL base (i+1) (l.drop 1) (put tm d (.sl b ((as++ys).length*sz) 0 (as++ys).length sz)) (bn H b (du aa (as++ys))) (fun rs t k=>Q (((.sl b ((as++ys).length*sz) 0 (as++ys).length sz,some (b,du aa (as++ys))),lC (aX GL tm) (.append sz bytes x y'))::rs) t k)):AW P GL base i l tm H Q:=by
 have GN:=hc;simp only[aaF]at GN;have h0:0<sz:=by simpa[aaT]using GN.1
 by_cases GH:ys=[]
 ·subst GH;have ha:as≠[]:=by simpa using et
  rw[oZ cB h0 ha]at hc;exact AW.BL aa as [] b cB ho hc hy hr hq
 ·have Eh:(ys.flatMap aa).map V.d≠[]:=by
   intro h;have:=adh List.length h;rw[aaW,ch cB]at this;cases ys with
    |nil=>exact GH rfl
    |cons a ys=>simp only[abl,aaS,ab7]at this;omega
  have e1:=pJ (H:=H) (ns:=base+i) (sz:=sz) (bytes:=bytes) (b:=b) (len:=as.length) (k:=ys.length) (cs:=(as.flatMap aa).map .d) (xs:=(ys.flatMap aa).map .d) h0 GN.2.2.2 (by simp[ch cB]) (by simp[ch cB]) (by simp[dO]) (by simpa[cy]using hr) Eh;refine AW.iL (v:=.sl b ((as++ys).length*sz) 0 (as++ys).length sz) (wr:=some (b,du aa (as++ys))) ho GN.2.1 rfl ?_ hq;simp only[bw,hy,GN.2.2.1,e1,aa1,du,abU,abW]
end
theorem au.W8{α:Type}(aa:α→List D)(as:List α){m n sz:Nat}{tm a7:List (Nat×V)}{H H':ai}{bx:eG}(b s:Nat)(hx:zI aa as bx)(cB:∀a,(aa a).length=sz)(hs:get tm s=.sl b (as.length*sz) 0 as.length sz)(hH:aE H b=some bx)(vA:qJ b 0 H)(e1:put (qK b tm) s (.d (.list (as.map aa)))=a7)(e2:H.set b none=H'):au m ⟨n,tm,H⟩ ⟨n,a7,H'⟩:=by
 rcases hx with rfl|rfl
 ·exact au.zA aa as b s cB hs hH vA e1 e2
 ·exact au.H8 aa as b s cB hs hH vA e1 e2
end Fw
/-
  The rest of a drawn region whose operations wait one for the other, told as an ordinary one.
-/
namespace Fw
open Go
def BP(k:Nat)(l:List ad):Bool:=(List.range l.length).all fun j=>Nat.ble j k||((l[j]? ).map fun o=>o.after.contains (j - 1)).getD false
section
variable {P:Program}{GL:cj}
theorem v8{ops:Array Oper}{Q:Exit→Act→World→Prop}(hb:∀(i:Nat)(hi:i<ops.size) (e),e∈ops[i].after→Region.binds .any e=true→e.on<i):∀(m k:Nat)(listed:Array Bool)(a:Act)(w:World),listed.size=ops.size→(∀j,listed.getD j false=decide (j<k))→k+m=ops.size→(∀(j:Nat)(hj:j<ops.size),k<j→∃e,e∈ops[j].after∧Region.binds .any e=true∧e.on=j - 1)→wpOps P ops Q (List.range' k m) a w→wpAny P .any ops Q m listed a w
 |0,k,listed,a,w,cB,hK,hm,hc,h=>by
  refine⟨?_,by simpa[wpOps]using h⟩;unfold Region.ready;rw[abn];intro j hj;simp only[abb]at hj;have h3:=hK j;rw[aa9 (by omega),aaJ,Array.getElem?_eq_getElem (by omega)]at h3;have h4:listed.getD j true=true:=by rw[aaJ,Array.getElem?_eq_getElem (by omega)];exact h3
  simp[h4]
 |m+1,k,listed,a,w,cB,hK,hm,hc,h=>by
  have Er:k<ops.size:=by omega
  have eF:ops[k]? =some ops[k]:=Array.getElem?_eq_getElem Er;rw[List.range'_succ,wpOps_cons]at h;have aE:∀j,j<ops.size→listed.getD j true=decide (j<k):=fun j hj=>by have h3:=hK j;rw[aaJ,Array.getElem?_eq_getElem (by omega)]at h3⊢;exact h3
  constructor
  ·intro oq;exfalso;have:k∈Region.ready .any ops listed:=by
    unfold Region.ready;rw[aaZ];refine⟨by rw[abb];omega,?_ ⟩;simp only[aE k Er,adv,adE,abD,aa2,eF,aaV,abe,aa3];intro e he;cases Oy:Region.binds .any e with
     |false=>rfl
     |true=>have bS:=hb k Er e he Oy;rw[hK,aa9 bS];rfl
   rw[oq]at this;cases this
  ·intro i hi;unfold Region.ready at hi;rw[aaZ]at hi;have sF:i<ops.size:=by simpa using hi.1
   have tz:ops[i]? =some ops[i]:=Array.getElem?_eq_getElem sF;have lA:=hi.2;simp only[aaD,abj,tz,aaV,abe,aa3]at lA;have Qh:k≤i:=by have h1:=lA.1;rw[aE i sF]at h1;have:=adt h1;omega
   have A9:i=k:=by
    rcases abm k i with bS|hle
    ·exfalso;obtain⟨e,he,Oy,R6⟩:=hc i sF bS;have:=lA.2 e he;rw[Oy,hK,aa5 (by omega)]at this;cases this
    ·omega
   subst A9;refine wpOp_mono (fun a' w' hq=>?_ ) h;refine v8 hb m (i+1) _ a' w' (by simp[cB]) (fun j=>?_ ) (by omega) (fun j hj bS=>hc j hj (by omega)) hq;by_cases W7:j=i
   ·subst W7;rw[aaJ,aba (by omega)];simp
   ·have h3:=hK j;rw[aaJ]at h3⊢;rw[aa6 (by omega),h3];congr 1;simp;omega
theorem DP.chain{mm:Nat}{l:List ad}{k:Nat}{σ:St}{Q:Ex→St→Prop}(hk:Nat.ble k l.length=true)(BO:kR 0 l=true)(Vr:BP k l=true)(h:WO P GL ((l.drop k).map v7) σ (fun s=>Q .normal s)):DP P GL mm l k σ Q:=by
 intro ops hl listed g w a g0 w0 cB hK hR hm hE;have hk:=aaM hk;obtain⟨hlen,dL⟩:=hY hl;have hw:=h ops k (by have:=qQ k (qP hl);rw[acV];exact this) g w a hR;have Dk:=cW (Q':=cA GL g0 w0 Q) (fun e a v hp=>by have:=cA.ext hE e a v hp;cases e<;>first|exact this|(obtain⟨_,_,_,_,h⟩:=this;exact h.elim)) _ _ _ hw;refine v8 (fun i hi e he Oy=>?_ ) _ k listed a w cB hK (by omega) (fun j hj bS=>?_ ) Dk
 ·obtain⟨o,ho,_,_,_,iQ⟩:=dL i _ (Array.getElem?_eq_getElem hi);have GM:e.on∈o.after:=by rw[iQ];simp only[cC,aa8,aaZ];exact⟨e,⟨by simpa using he,Oy⟩,rfl⟩
  have:=jz BO i o ho e.on GM;omega
 ·obtain⟨o,ho,_,_,_,iQ⟩:=dL j _ (Array.getElem?_eq_getElem hj);unfold BP at Vr;have h1:=aaR.1 Vr j (by rw[abb];omega);have h2:Nat.ble j k=false:=by
   cases hb:Nat.ble j k with
    |false=>rfl
    |true=>have:=aaM hb;omega
  rw[h2,abM,ho]at h1;simp only[aaV,abe,List.contains_iff_mem]at h1;rw[iQ]at h1;simp only[cC,aa8,aaZ]at h1;obtain⟨e,⟨he,Oy⟩,R6⟩:=h1;exact⟨e,by simpa using he,Oy,R6⟩
theorem DP.Oz{mm:Nat}{l:List ad}{k:Nat}{n:Nat}{tm:List (Nat×V)}{H:ai}{K:List Fr}{Q:Ex→St→Prop}(hk:Nat.ble k l.length=true)(BO:kR 0 l=true)(Vr:BP k l=true)(h:CG P GL (.ops ((l.drop k).map v7)) K n tm H Q):DP P GL mm l k ⟨n,tm,H⟩ (KQ P GL K Q):=DP.chain hk BO Vr h
end
end Fw
