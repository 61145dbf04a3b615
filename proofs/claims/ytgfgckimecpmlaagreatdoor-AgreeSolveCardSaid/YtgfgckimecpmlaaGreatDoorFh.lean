/-
  Cells of own rows at open places: looked at and written.
-/
import Derived.Test.YtgfgckimecpmlaaGreatDoorFg
import Derived.Test.YtgfgckimecpmlaaGreatDoorFe
set_option linter.unusedSimpArgs false
set_option linter.unusedVariables false
namespace Fw
open Go
variable {α:Type}{j sz:Nat}
theorem xF{α:Type}{aa:α->List D}{sz:Nat}(h:∀a,(aa a).length=sz):∀(l:List α)(j:Nat),(l.flatMap aa).drop (j*sz)=(l.drop j).flatMap aa
 |[],j=>by simp
 |a::l,0=>by simp
 |a::l,j+1=>by rw[ab1,ac9,←xF h l j,acK,Nat.add_comm,←abW,←h a,List.drop_left]
theorem lZ{l:List α}{i:Nat}{x:α}(h:l[i]? =some x):l.drop i=x::l.drop (i+1):=by obtain⟨b8,he⟩:=aaO.1 h;rw[ab8 b8,he]
theorem KP{aa:α->List D}(h:∀a,(aa a).length=sz){l:List α}{x:α}(hx:l[j]? =some x){o n:Nat}(hon:o+n<=sz):((l.flatMap aa).drop (j*sz+o)).take n=((aa x).drop o).take n:=by rw[←abW,xF h,lZ hx,ab1,acI (by grind),acH (by grind)]
theorem eG{aa:α->List D}(h:∀a,(aa a).length=sz)(h0:0<sz){l:List α}(hl:l≠[]):ah aa l=.cells ((l.flatMap aa).map .d):=by
 have:(l.flatMap aa).length≠0:=by rw[bn h];cases l<;>grind[List.length_cons,Nat.succ_mul]
 unfold ah eR;cases hf:l.flatMap aa<;>grind
theorem sy{aa:α->List D}(h:∀a,(aa a).length=sz){l:List α}{o n b off:Nat}{x:α}{H:ao}(hx:l[j]? =some x)(hH:aF H b=some (ah aa l))(h0:0<sz)(hon:o+n<=sz)(ho:off=j*sz+o):jR H n (.ptr b (l.length*sz) off)=some ((((aa x).drop o).take n).map .d):=by
 have fq:l≠[]:=by grind
 have b8:j<l.length:=(aaO.1 hx).1;have hm:(j+1)*sz<=l.length*sz:=abc _ b8;rw[acK]at hm;subst ho;have e1:(Nat.beq ((l.flatMap aa).map V.d).length (l.length*sz)&&Nat.ble (j*sz+o+n) (l.length*sz))=true:=by rw[aaQ,bn h,aa4,abp (by omega)];rfl
 simp only[jR,hH,eG h h0 fq,e1,aaJ,←ac2,←acO,KP h hx hon]
theorem l5{α:Type}:∀(b' a b c:List α),b'.length=b.length->putCells (a++(b++c)) a.length b'=a++(b'++c)
 |[],a,b,c,hl=>by
  cases b with
   |nil=>rfl
   |cons _ _=>simp at hl
 |v::vs,a,b,c,hl=>by
  cases b with
   |nil=>simp at hl
   |cons x b=>
    simp only[aaR,Nat.add_right_cancel_iff]at hl;have e:(a++(x::b++c)).set a.length v=(a++[v])++(b++c):=by simp
    have:=l5 vs (a++[v]) b c hl;rw[aaZ]at this;show putCells ((a++(x::b++c)).set a.length v) (a.length+1) vs=_;grind
theorem xG{aa:α->List D}{l:List α}{x:α}(hx:l[j]? =some x):l.flatMap aa=(l.take j).flatMap aa++(aa x++(l.drop (j+1)).flatMap aa):=by
 conv=>lhs;rw[←acJ j l,lZ hx]
 grind
theorem xH{l:List α}{x y:α}(hx:l[j]? =some x):l.set j y=l.take j++y::l.drop (j+1):=by grind[List.set_eq_take_append_cons_drop]
theorem vq{aa:α->List D}(h:∀a,(aa a).length=sz){l:List α}{b off:Nat}{x y:α}{H:ao}{v:V}(hx:l[j]? =some x)(hH:aF H b=some (ah aa l))(h0:0<sz)(ho:off=j*sz)(hv:cl v=(aa y).map .d):gA H sz (.ptr b (l.length*sz) off) v=some (b,ah aa (l.set j y)):=by
 have fq:l≠[]:=by grind
 have b8:j<l.length:=(aaO.1 hx).1;have NX:l.set j y≠[]:=by simp_all
 have hm:(j+1)*sz<=l.length*sz:=abc _ b8;rw[acK]at hm;subst ho;have e1:(Nat.beq ((l.flatMap aa).map V.d).length (l.length*sz)&&Nat.ble (j*sz+sz) (l.length*sz)&&Nat.beq ((aa y).map V.d).length sz&&((aa y).map V.d).all eK)=true:=by rw[aaQ,bn h,aa4,abp (by omega),aaQ,h,aa4];simp[eK]
 have e2:putCells ((l.flatMap aa).map V.d) (j*sz) ((aa y).map V.d)=((l.set j y).flatMap aa).map V.d:=by
  have hlen:((l.take j).flatMap aa).length=j*sz:=by rw[bn h,aa1,ac8 (Nat.le_of_lt b8)]
  rw[xG hx,xH hx,acf,ab1,abB,abB,abB,abB];have:=l5 ((aa y).map V.d) (((l.take j).flatMap aa).map V.d) ((aa x).map V.d) (((l.drop (j+1)).flatMap aa).map V.d) (by simp[h]);grind
 simp only[gA,hH,eG h h0 fq,eG h h0 NX,hv,e1,aaJ,e2]
section
variable {P:Program}{GL:ch}
variable {H:ao}{α:Type}{g:Option (Nat×Bool)}{af:List Nat}{l:List aj}{tm:List (Nat×V)}{sz b d n off base i:Nat}{K:List Fr}{Q:Ex->St->Prop}{a k:a_}{v:V}
theorem CG.tF(aa:α->List D)(as:List α)(j o:Nat){y:α}{m:Nat}{agg:Bool}(cK:∀a,(aa a).length=sz)(hy:as[j]? =some y)(ho:l.head?=some ⟨some d,.load m agg a,g,af⟩)(hc:(Nat.blt 0 sz,aA g tm,aZ GL tm a,aF H b,Nat.blt d n,Nat.ble (o+m) sz)=(true,some true,.ptr b (as.length*sz) off,some (ah aa as),true,true))(vr:off=j*sz+o)(hv:B_ agg ((((aa y).drop o).take m).map .d)=some v)(hq:CG P GL (.ops (l.drop 1)) K n (put tm d v) H Q):CG P GL (.ops l) K n tm H Q:=by simp only[aaE]at hc;refine CG.eT ho hc.2.1 (v:=v) (wr:=none) ?_ rfl hc.2.2.2.2.1 hq;simp only[bE,hc.2.2.1,sy cK hy hc.2.2.2.1 (by simp_all) (aaN hc.2.2.2.2.2) vr,hv,aaU]
theorem CG.H_{op:lv}{H':ao}{wr:Wr}(ho:l.head?=some ⟨none,op,g,af⟩)(hg:aA g tm=some true)(he:bE (aZ GL tm) H H.length op=some (v,wr))(hH:br H wr=H')(hq:CG P GL (.ops (l.drop 1)) K n tm H' Q):CG P GL (.ops l) K n tm H Q:=by subst hH;exact WO.head ho (WO.bE (v:=v) (wr:=wr) (aY:=⟨n,tm,br H wr⟩) hg he (by rw[CO]) hq)
theorem CG.PM(aa:α->List D)(as:List α)(j:Nat){y z:α}{x:a_}(cK:∀a,(aa a).length=sz)(hy:as[j]? =some y)(ho:l.head?=some ⟨none,.store sz a x,g,af⟩)(hc:(Nat.blt 0 sz,aA g tm,aZ GL tm a,aF H b,cl (aZ GL tm x))=(true,some true,.ptr b (as.length*sz) off,some (ah aa as),(aa z).map .d))(vr:off=j*sz)(hq:CG P GL (.ops (l.drop 1)) K n tm (bJ H b (ah aa (as.set j z))) Q):CG P GL (.ops l) K n tm H Q:=by simp only[aaE]at hc;refine CG.H_ ho hc.2.1 (v:=.any) (wr:=some (b,ah aa (as.set j z))) ?_ rfl hq;simp only[bE,hc.2.2.1,vq cK hy hc.2.2.2.1 (by simp_all) vr hc.2.2.2.2,aaU]
theorem ob{aa:α->List D}{as:List α}(cK:∀a,(aa a).length=sz)(hH:aF H b=some (ah aa as)):ff H b (as.length*sz)=true:=by unfold ff;rw[hH];have hl:=bn cK as;unfold ah eR;cases h:as.flatMap aa<;>simp_all
theorem CG.qV(aa:α->List D)(as:List α)(b j:Nat){len:Nat}{x:a_}(cK:∀a,(aa a).length=sz)(hj:j<len)(ho:l.head?=some ⟨some d,.cF sz x k,g,af⟩)(hc:(aA g tm,aZ GL tm x,aF H b,ct (aZ GL tm k),Nat.blt d n)=(some true,.sl b (as.length*sz) 0 len sz,some (ah aa as),some j,true))(hq:CG P GL (.ops (l.drop 1)) K n (put tm d (.ptr b (as.length*sz) (j*sz))) H Q):CG P GL (.ops l) K n tm H Q:=by simp only[aaE]at hc;refine CG.eT ho hc.1 (v:=.ptr b (as.length*sz) (j*sz)) (wr:=none) ?_ rfl hc.2.2.2.2 hq;have:=su (ob cK hc.2.2.1) hj hc.2.1 hc.2.2.2.1 H.length;grind
theorem CG.Q9(aa:α->List D)(as:List α)(b p:Nat){x:a_}(cK:∀a,(aa a).length=sz)(hp:p<=as.length)(ho:l.head?=some ⟨some d,.fY sz x none (some k),g,af⟩)(hc:(aA g tm,aZ GL tm x,aF H b,ct (aZ GL tm k),Nat.blt d n)=(some true,.sl b (as.length*sz) 0 as.length sz,some (ah aa as),some p,true))(hq:CG P GL (.ops (l.drop 1)) K n (put tm d (.sl b (as.length*sz) 0 p sz)) H Q):CG P GL (.ops l) K n tm H Q:=by simp only[aaE]at hc;have hb:bounds (aZ GL tm) as.length none (some k)=some (0,p):=kW rfl hc.2.2.2.1 (aby _) hp;refine CG.eT ho hc.1 (v:=.sl b (as.length*sz) 0 p sz) (wr:=none) ?_ rfl hc.2.2.2.2 hq;simp only[bE,hc.2.1,aa4,ob cK hc.2.2.1,abf,aaJ,hb,aaU,yc,abF,abY,aaT,adm,aaY,acX]
theorem Ed(H:ao)(f:Nat)(x:D):iI H f (.d x)=some x:=by cases f<;>rfl
theorem Ia{f:V->Option D}(h:∀x,f (.d x)=some x):∀(l:List D),bW f (l.map .d)=some l|[]=>rfl|a::l=>by simp only[aaV,bW,h,Ia h l]
theorem xI{aa:α->List D}(h:∀a,(aa a).length=sz)(h0:0<sz){p f:Nat}{l:List α}(hH:aF H b=some (ah aa l))(hp:p<=l.length):iI H (f+1) (.sl b (l.length*sz) 0 p sz)=some (.list ((l.take p).map aa)):=by
 cases l with
  |nil=>simp_all[iI,HY]
  |cons a l=>
   have hm:p*sz<=(a::l).length*sz:=abc _ hp;have e1:(Nat.beq (((a::l).flatMap aa).map V.d).length ((a::l).length*sz)&&Nat.ble (0+p*sz) ((a::l).length*sz))=true:=by rw[aaQ,bn h,aa4,abp (by omega)];rfl
   have e2:((((a::l).flatMap aa).map V.d).drop 0).take (p*sz)=((((a::l).take p).flatMap aa).map V.d):=by
    rw[abA,←acO];congr 1;have hs:(a::l).flatMap aa=((a::l).take p).flatMap aa++((a::l).drop p).flatMap aa:=by rw[←acf,acJ]
    rw[hs,acH (by rw[bn h,aa1,ac8 hp];grind),abq (by rw[bn h,aa1,ac8 hp];grind)]
   have e3:gv sz p (((a::l).take p).flatMap aa)=((a::l).take p).map aa:=by have:=gL h ((a::l).take p);grind
   simp only[iI,hH,eG h h0 (List.cons_ne_nil a l),e1,aaJ,e2,Ia (Ed H f),e3]
theorem AW.H_{op:lv}{Q:RS->List (Nat×V)->ao->Prop}{wr:Wr}(ho:l.head?=some ⟨none,op,g,af⟩)(hg:aA g tm=some true)(hc:bX op=none)(he:bE (aZ GL tm) H (base+i) op=some (v,wr))(hq:AW P GL base (i+1) (l.drop 1) tm (br H wr) (fun rs t k=>Q (((v,wr),mV (aZ GL tm) op)::rs) t k)):AW P GL base i l tm H Q:=by refine AW.head ho ⟨none,v,wr,?_,fun f args h=>?_,hq⟩;all_goals grind[gn]
theorem AW.qV(aa:α->List D)(as:List α)(b j:Nat){Q:RS->List (Nat×V)->ao->Prop}{len:Nat}{x:a_}(cK:∀a,(aa a).length=sz)(hj:j<len)(ho:l.head?=some ⟨some d,.cF sz x k,g,af⟩)(hc:(aA g tm,aZ GL tm x,aF H b,ct (aZ GL tm k))=(some true,.sl b (as.length*sz) 0 len sz,some (ah aa as),some j))(hq:AW P GL base (i+1) (l.drop 1) (put tm d (.ptr b (as.length*sz) (j*sz))) H (fun rs t k'=>Q (((.ptr b (as.length*sz) (j*sz),none),mV (aZ GL tm) (.cF sz x k))::rs) t k')):AW P GL base i l tm H Q:=by simp only[aaE]at hc;refine AW.eT ho hc.1 rfl (v:=.ptr b (as.length*sz) (j*sz)) (wr:=none) ?_ hq;have:=su (ob cK hc.2.2.1) hj hc.2.1 hc.2.2.2 (base+i);grind
theorem AW.tF(aa:α->List D)(as:List α)(j o:Nat){y:α}{m:Nat}{agg:Bool}{Q:RS->List (Nat×V)->ao->Prop}(cK:∀a,(aa a).length=sz)(hy:as[j]? =some y)(ho:l.head?=some ⟨some d,.load m agg a,g,af⟩)(hc:(Nat.blt 0 sz,aA g tm,aZ GL tm a,aF H b,Nat.ble (o+m) sz)=(true,some true,.ptr b (as.length*sz) off,some (ah aa as),true))(vr:off=j*sz+o)(hv:B_ agg ((((aa y).drop o).take m).map .d)=some v)(hq:AW P GL base (i+1) (l.drop 1) (put tm d v) H (fun rs t k'=>Q (((v,none),mV (aZ GL tm) (.load m agg a))::rs) t k')):AW P GL base i l tm H Q:=by simp only[aaE]at hc;refine AW.eT ho hc.2.1 rfl (v:=v) (wr:=none) ?_ hq;simp only[bE,hc.2.2.1,sy cK hy hc.2.2.2.1 (by simp_all) (aaN hc.2.2.2.2) vr,hv,aaU]
theorem AW.PM(aa:α->List D)(as:List α)(j:Nat){y z:α}{Q:RS->List (Nat×V)->ao->Prop}{x:a_}(cK:∀a,(aa a).length=sz)(hy:as[j]? =some y)(ho:l.head?=some ⟨none,.store sz a x,g,af⟩)(hc:(Nat.blt 0 sz,aA g tm,aZ GL tm a,aF H b,cl (aZ GL tm x))=(true,some true,.ptr b (as.length*sz) off,some (ah aa as),(aa z).map .d))(vr:off=j*sz)(hq:AW P GL base (i+1) (l.drop 1) tm (bJ H b (ah aa (as.set j z))) (fun rs t k'=>Q (((.any,some (b,ah aa (as.set j z))),mV (aZ GL tm) (.store sz a x))::rs) t k')):AW P GL base i l tm H Q:=by simp only[aaE]at hc;refine AW.H_ ho hc.2.1 rfl (v:=.any) (wr:=some (b,ah aa (as.set j z))) ?_ hq;simp only[bE,hc.2.2.1,vq cK hy hc.2.2.2.1 (by simp_all) vr hc.2.2.2.2,aaU]
end
end Fw
/-
  Rows born empty: appended to in drawn regions, and known as data where cells speak of them.
-/
namespace Fw
open Go
section
variable {P:Program}{GL:ch}
theorem AW.H7{α:Type}(aa:α->List D)(as ys:List α){base i d:Nat}{g:Option (Nat×Bool)}{af:List Nat}{l:List aj}{tm:List (Nat×V)}{H:ao}{Q:RS->List (Nat×V)->ao->Prop}{sz bytes:Nat}{x y:a_}(b:Nat)(cK:∀a,(aa a).length=sz)(ho:l.head?=some ⟨some d,.append sz bytes x y,g,af⟩)(hc:(Nat.blt 0 sz,aA g tm,aZ GL tm x,aF H b)=(true,some true,.sl b (as.length*sz) 0 as.length sz,some (cd aa as)))(hy:bt H sz (aZ GL tm y)=some ((ys.flatMap aa).map .d))(hr:(as.length+ys.length)*sz*(bytes+1)<=1099511627776)(hq:AW P GL base (i+1) (l.drop 1) (put tm d (.sl b ((as++ys).length*sz) 0 (as++ys).length sz)) (bJ H b (cd aa (as++ys))) (fun rs t k=>Q (((.sl b ((as++ys).length*sz) 0 (as++ys).length sz,some (b,cd aa (as++ys))),mV (aZ GL tm) (.append sz bytes x y))::rs) t k)):AW P GL base i l tm H Q:=by
 simp only[aaE]at hc;have KL:0<sz:=by simp_all
 have e1:=qU (H:=H) (ns:=base+i) (sz:=sz) (bytes:=bytes) (b:=b) (len:=as.length) (k:=ys.length) (cs:=(as.flatMap aa).map .d) (xs:=(ys.flatMap aa).map .d) KL hc.2.2.2 (by simp[bn cK]) (by simp[bn cK]) (by simp[eK]) (by grind[bI]);refine AW.eT (v:=.sl b ((as++ys).length*sz) 0 (as++ys).length sz) (wr:=some (b,cd aa (as++ys))) ho hc.2.1 rfl ?_ hq;grind[bE,List.length_append,cd]
end
theorem an.Q_{α:Type}(aa:α->List D)(as:List α){m n sz:Nat}{tm aW:List (Nat×V)}{H H':ao}(b:Nat)(cK:∀a,(aa a).length=sz)(hH:aF H b=some (cd aa as))(hr:kG b (.sl b (as.length*sz) 0 as.length sz) (.d (.list (as.map aa))) 0 H H')(e1:vl b tm=aW):an m ⟨n,tm,H⟩ ⟨n,aW,H'⟩:=by
 intro GL g w a jH;have hle:Nat.ble (0+as.length*sz) (as.length*sz)=true:=by simp_all
 have ho:bS b (as.flatMap aa) (.sl b (as.length*sz) 0 as.length sz)=.d (.list (as.map aa)):=by simp only[bS,aa4,aaJ,bn cK,hle,abf,abA,gL cK]
 have hf:=vp ho H H' 0 hr;have NU:kS b ⟨n,tm,H⟩=some ⟨n,tm.map fun p=>(p.1,bS b (as.flatMap aa) p.2),H'⟩:=by unfold kS;rw[xC hH];simp only[hf];rw[CY rfl H H' 0 hr (n_ jH.heap),aaJ]
 refine(an.trans (an.qh NU) (an.nA fun t=>?_ )) GL g w a jH;subst e1;rw[lM (bS b (as.flatMap aa)) (by simp only[bS]),lX];cases hn:fh b (get tm t)with
  |true=>left;rw[aaJ,eE _ hn]
  |false=>right;rfl
end Fw
/-
  Nil rows handed on as arguments.
-/
namespace Fw
open Go
section
variable {P:Program}{GL:ch}
def nC:List V->List V->Prop|[],[]=>True|a::as,b::bs=>(a=b\/(a=.ad/\b=.d (.list [])))/\nC as bs|_,_=>False
theorem nC.Ra{g:G}{w:World}:∀{as bs:List V}{vs:List Value},nC as bs->aT g w as vs->aT g w bs vs
 |[],[],_,_,h=>h
 |a::as,b::bs,[],_,h=>by grind[aT]
 |a::as,b::bs,v::vs,hr,h=>by simp only[aT]at h⊢;obtain⟨yl,Ff⟩:=hr;refine⟨?_,nC.Ra Ff h.2⟩;grind[RV,Rd]
 |[],_::_,_,hr,_=>by grind[nC]
 |_::_,[],_,hr,_=>by grind[nC]
theorem PC.nil{f:FuncId}{args u_:List V}{v:V}(h:PC P GL f u_ v)(hr:nC args u_):PC P GL f args v:=⟨h.1,fun g w vs dU h1 h2 h3=>h.2 g w vs (nC.Ra hr dU) h1 h2 h3⟩
end
end Fw
/-
  A drawn region in parts: some operations all come ahead of the others; between the parts the state may be told anew.
-/
/-
  The last operation of a drawn region, for which all others come ahead, told as an ordinary one; parts walked one by one.
-/
/-
  Rows that are nil or empty, appended to and known as data; an empty row looked at for nil.
-/
namespace Fw
open Go
variable {α:Type}
def Ib(aa:α->List D)(l:List α)(x:fJ):Prop:=x=ah aa l\/x=cd aa l
theorem vt{aa:α->List D}{sz:Nat}(h:∀a,(aa a).length=sz)(h0:0<sz){l:List α}(hl:l≠[]):ah aa l=cd aa l:=eG h h0 hl
theorem Ib.cell{aa:α->List D}{sz:Nat}(h:∀a,(aa a).length=sz)(h0:0<sz){l:List α}{x:fJ}(hx:Ib aa l x)(hl:l≠[]):x=ah aa l:=by
 rcases hx with hx|hx
 ·exact hx
 ·rw[hx,vt h h0 hl]
def KR(aa:α->List D)(z:Bool)(l:List α):fJ:=bif z then cd aa l else ah aa l
theorem Ib.z{α:Type}{aa:α->List D}{l:List α}{x:fJ}(h:Ib aa l x):∃z,x=KR aa z l:=by
 rcases h with h|h
 ·exact⟨false,h⟩
 ·exact⟨true,h⟩
theorem KR.x(aa:α->List D)(z:Bool)(l:List α):Ib aa l (KR aa z l):=by
 cases z
 ·exact .inl rfl
 ·exact .inr rfl
@[simp] theorem NY(n:Nat)(aa:α->List D)(z:Bool)(l:List α):ef n (KR aa z l)=true:=by
 cases z
 ·exact aw n aa l
 ·exact bj n aa l
section
variable {P:Program}{GL:ch}
theorem AW.Ee{α:Type}(aa:α->List D)(as ys:List α){base i d:Nat}{g:Option (Nat×Bool)}{af:List Nat}{l:List aj}{tm:List (Nat×V)}{H:ao}{Q:RS->List (Nat×V)->ao->Prop}{sz bytes:Nat}{x y':a_}(b:Nat)(fq:as++ys≠[])(cK:∀a,(aa a).length=sz)(ho:l.head?=some ⟨some d,.append sz bytes x y',g,af⟩)(hc:(Nat.blt 0 sz,aA g tm,aZ GL tm x,aF H b)=(true,some true,.sl b (as.length*sz) 0 as.length sz,some (ah aa as)))(hy:bt H sz (aZ GL tm y')=some ((ys.flatMap aa).map .d))(hr:(as.length+ys.length)*sz*(bytes+1)<=1099511627776)(hq:AW P GL base (i+1) (l.drop 1) (put tm d (.sl b ((as++ys).length*sz) 0 (as++ys).length sz)) (bJ H b (cd aa (as++ys))) (fun rs t k=>Q (((.sl b ((as++ys).length*sz) 0 (as++ys).length sz,some (b,cd aa (as++ys))),mV (aZ GL tm) (.append sz bytes x y'))::rs) t k)):AW P GL base i l tm H Q:=by
 have Xf:=hc;simp only[aaE]at Xf;have h0:0<sz:=by simp_all
 by_cases L':ys=[]
 ·subst L';have ha:as≠[]:=by grind
  rw[vt cK h0 ha]at hc;exact AW.H7 aa as [] b cK ho hc hy hr hq
 ·have E9:(ys.flatMap aa).map V.d≠[]:=by intro h;have:=aba List.length h;rw[aaQ,bn cK]at this;cases ys<;>grind
  have e1:=lY (H:=H) (ns:=base+i) (sz:=sz) (bytes:=bytes) (b:=b) (len:=as.length) (k:=ys.length) (cs:=(as.flatMap aa).map .d) (xs:=(ys.flatMap aa).map .d) h0 Xf.2.2.2 (by simp[bn cK]) (by simp[bn cK]) (by simp[eK]) (by grind[bI]) E9;refine AW.eT (v:=.sl b ((as++ys).length*sz) 0 (as++ys).length sz) (wr:=some (b,cd aa (as++ys))) ho Xf.2.1 rfl ?_ hq;grind[bE,List.length_append,cd]
end
end Fw
/-
  Own rows at open places: a part of an element is written.
-/
namespace Fw
open Go
theorem vu{α:Type}{aa:α->List D}{sz:Nat}(h:∀a,(aa a).length=sz){l:List α}{j b off n:Nat}{x y:α}{A B B' C:List D}{H:ao}{v:V}(hx:l[j]? =some x)(hH:aF H b=some (ah aa l))(h0:0<sz)(Mg:aa x=A++(B++C))(Vs:aa y=A++(B'++C))(hB:B'.length=B.length)(hn:B'.length=n)(ho:off=j*sz+A.length)(hv:cl v=B'.map .d):gA H n (.ptr b (l.length*sz) off) v=some (b,ah aa (l.set j y)):=by
 have fq:l≠[]:=by grind
 have b8:j<l.length:=(aaO.1 hx).1;have NX:l.set j y≠[]:=by simp_all
 have hm:(j+1)*sz<=l.length*sz:=abc _ b8;rw[acK]at hm;have C0:A.length+(B.length+C.length)=sz:=by grind
 subst ho;have e1:(Nat.beq ((l.flatMap aa).map V.d).length (l.length*sz)&&Nat.ble (j*sz+A.length+n) (l.length*sz)&&Nat.beq (B'.map V.d).length n&&(B'.map V.d).all eK)=true:=by rw[aaQ,bn h,aa4,abp (by omega),aaQ,hn,aa4];simp[eK]
 have e2:putCells ((l.flatMap aa).map V.d) (j*sz+A.length) (B'.map V.d)=((l.set j y).flatMap aa).map V.d:=by
  have hlen:((l.take j).flatMap aa).length=j*sz:=by rw[bn h,aa1,ac8 (Nat.le_of_lt b8)]
  rw[xG hx,xH hx,acf,ab1,Mg,Vs];have:=l5 (B'.map V.d) ((((l.take j).flatMap aa)++A).map V.d) (B.map V.d) ((C++(l.drop (j+1)).flatMap aa).map V.d) (by simp[hB]);grind
 simp only[gA,hH,eG h h0 fq,eG h h0 NX,hv,e1,aaJ,e2]
section
variable {P:Program}{GL:ch}
theorem CG.GJ{α:Type}(aa:α->List D)(as:List α)(j o m:Nat){y:α}(z:α){g:Option (Nat×Bool)}{af:List Nat}{l:List aj}{K:List Fr}{n:Nat}{tm:List (Nat×V)}{H:ao}{Q:Ex->St->Prop}{sz b off:Nat}{a x:a_}(cK:∀a,(aa a).length=sz)(hy:as[j]? =some y)(ho:l.head?=some ⟨none,.store m a x,g,af⟩)(B':List D)(hc:(Nat.blt 0 sz,aA g tm,aZ GL tm a,aF H b,cl (aZ GL tm x),Nat.beq B'.length m,Nat.ble (o+m) sz)=(true,some true,.ptr b (as.length*sz) off,some (ah aa as),B'.map .d,true,true))(vr:off=j*sz+o)(hz:aa z=(aa y).take o++(B'++(aa y).drop (o+m)))(hq:CG P GL (.ops (l.drop 1)) K n tm (bJ H b (ah aa (as.set j z))) Q):CG P GL (.ops l) K n tm H Q:=by
 simp only[aaE]at hc;have hm:B'.length=m:=aaM hc.2.2.2.2.2.1;have hle:=aaN hc.2.2.2.2.2.2;have KH:=cK y;have hA:((aa y).take o).length=o:=by grind
 have hB:(((aa y).drop o).take m).length=m:=by grind
 refine CG.H_ ho hc.2.1 (v:=.any) (wr:=some (b,ah aa (as.set j z))) ?_ rfl hq;have:=vu (n:=m) (off:=off) (v:=aZ GL tm x) (A:=(aa y).take o) (B:=((aa y).drop o).take m) (B':=B') (C:=(aa y).drop (o+m)) cK hy hc.2.2.2.1 (by simp_all) (by grind[List.drop_drop,List.take_append_drop]) hz (by rw[hB,hm]) hm (by grind) hc.2.2.2.2.1;grind[bE]
theorem AW.GJ{α:Type}(aa:α->List D)(as:List α)(j o m:Nat){y:α}(z:α){base i:Nat}{g:Option (Nat×Bool)}{af:List Nat}{l:List aj}{tm:List (Nat×V)}{H:ao}{Q:RS->List (Nat×V)->ao->Prop}{sz b off:Nat}{a x:a_}(cK:∀a,(aa a).length=sz)(hy:as[j]? =some y)(ho:l.head?=some ⟨none,.store m a x,g,af⟩)(B':List D)(hc:(Nat.blt 0 sz,aA g tm,aZ GL tm a,aF H b,cl (aZ GL tm x),Nat.beq B'.length m,Nat.ble (o+m) sz)=(true,some true,.ptr b (as.length*sz) off,some (ah aa as),B'.map .d,true,true))(vr:off=j*sz+o)(hz:aa z=(aa y).take o++(B'++(aa y).drop (o+m)))(hq:AW P GL base (i+1) (l.drop 1) tm (bJ H b (ah aa (as.set j z))) (fun rs t k'=>Q (((.any,some (b,ah aa (as.set j z))),mV (aZ GL tm) (.store m a x))::rs) t k')):AW P GL base i l tm H Q:=by
 simp only[aaE]at hc;have hm:B'.length=m:=aaM hc.2.2.2.2.2.1;have hle:=aaN hc.2.2.2.2.2.2;have KH:=cK y;have hA:((aa y).take o).length=o:=by grind
 have hB:(((aa y).drop o).take m).length=m:=by grind
 refine AW.H_ ho hc.2.1 rfl (v:=.any) (wr:=some (b,ah aa (as.set j z))) ?_ hq;have:=vu (n:=m) (off:=off) (v:=aZ GL tm x) (A:=(aa y).take o) (B:=((aa y).drop o).take m) (B':=B') (C:=(aa y).drop (o+m)) cK hy hc.2.2.2.1 (by simp_all) (by grind[List.drop_drop,List.take_append_drop]) hz (by rw[hB,hm]) hm (by grind) hc.2.2.2.2.1;grind[bE]
end
end Fw
/-
  A call in a drawn region that looks into an own row: told by a closed run beside that row alone.
-/
namespace Fw
open Go
section
variable {P:Program}{GL:ch}
mutual
def gp:V->V| .ad=>.d (.list [])| .agg cs=>.agg (qW cs)| .tuple cs=>.tuple (qW cs)| .d x=>.d x|_=>.any
def qW:List V->List V|[]=>[]|v::vs=>gp v::qW vs
end
mutual
theorem RV.gp{g:G}{w:World}:∀{u:V}{v:Value},RV g w u v->RV g w (Fw.gp u) v
 | .ad,v,h=>by grind[RV,Fw.gp,Rd]
 | .agg cs,v,h=>by simp only[RV]at h;obtain⟨x,rfl,hx⟩:=h;simp only[Fw.gp,RV];exact⟨x,rfl,aT.qW hx⟩
 | .tuple cs,v,h=>by simp only[RV]at h;obtain⟨x,rfl,hx⟩:=h;simp only[Fw.gp,RV];exact⟨x,rfl,aT.qW hx⟩
 | .d x,v,h=>by grind[Fw.gp]
 | .any,v,h=>by grind[Fw.gp,RV]
 | .full _,v,h=>by grind[Fw.gp,RV]
 | .ptr _ _ _,v,h=>by grind[Fw.gp,RV]
 | .mW,v,h=>by grind[Fw.gp,RV]
 | .bB _,v,h=>by grind[Fw.gp,RV]
 | .sl _ _ _ _ _,v,h=>by grind[Fw.gp,RV]
 | .map _,v,h=>by grind[Fw.gp,RV]
 | .mX,v,h=>by grind[Fw.gp,RV]
 | .func _ _ _,v,h=>by grind[Fw.gp,RV]
 | .rL,v,h=>by grind[Fw.gp,RV]
 | .iface _ _,v,h=>by grind[Fw.gp,RV]
 | .bN,v,h=>by grind[Fw.gp,RV]
 | .gm,v,h=>by grind[Fw.gp,RV]
 | .iter _ _,v,h=>by grind[Fw.gp,RV]
theorem aT.qW{g:G}{w:World}:∀{us:List V}{vs:List Value},aT g w us vs->aT g w (Fw.qW us) vs
 |[],[],_=>by grind[Fw.qW,aT]
 |_::_,_::_,h=>by simp only[aT]at h;simp only[Fw.qW,aT];exact⟨RV.gp h.1,aT.qW h.2⟩
 |[],_::_,h=>by grind[aT]
 |_::_,[],h=>by grind[aT]
end
theorem WF.gp{f:FuncId}{args:List V}{H H0:ao}{d:V}(h:WF P GL f args H (fun r H'=>r=d/\H'=H0)):WF P GL f args H (fun r H'=>r=Fw.gp d/\H'=H0):=by refine⟨h.1,fun g w vs dU hh hg=>(h.2 g w vs dU hh hg).mono ?_ ⟩;rintro e w' ⟨x,v,g',H',rfl,⟨rfl,rfl⟩,hx,ti,he⟩;exact⟨x,_,g',_,rfl,⟨rfl,rfl⟩,hx.gp,ti,he⟩
end
end Fw
/-
  Quotient and remainder by an open number that is not 0.
-/
namespace Fw
open Go
section
variable {P:Program}{GL:ch}
variable {tm:List (Nat×V)}{d n:Nat}{g:Option (Nat×Bool)}{af:List Nat}{l:List aj}{y:a_}{k:IntKind}{a b:Int}{K:List Fr}{H:ao}{Q:Ex->St->Prop}
theorem CG.quo{x:a_}(hb:b≠0)(ho:l.head?=some ⟨some d,.bin .quo x y,g,af⟩)(hc:(aA g tm,aZ GL tm x,aZ GL tm y,Nat.blt d n)=(some true,.d (.int k a),.d (.int k b),true))(hq:CG P GL (.ops (l.drop 1)) K n (put tm d (.d (.int k (k.wrap (a.tdiv b))))) H Q):CG P GL (.ops l) K n tm H Q:=by simp only[aaE]at hc;refine CG.eT ho hc.1 (v:=.d (.int k (k.wrap (a.tdiv b)))) (wr:=none) ?_ rfl hc.2.2.2 hq;grind[bE,mJ,ou]
theorem CG.rem{x:a_}(hb:b≠0)(ho:l.head?=some ⟨some d,.bin .rem x y,g,af⟩)(hc:(aA g tm,aZ GL tm x,aZ GL tm y,Nat.blt d n)=(some true,.d (.int k a),.d (.int k b),true))(hq:CG P GL (.ops (l.drop 1)) K n (put tm d (.d (.int k (a.tmod b)))) H Q):CG P GL (.ops l) K n tm H Q:=by simp only[aaE]at hc;refine CG.eT ho hc.1 (v:=.d (.int k (a.tmod b))) (wr:=none) ?_ rfl hc.2.2.2 hq;grind[bE,mJ,ou]
theorem AO.quo{base i:Nat}{Hp:ao}{Q:List (Nat×V)->Prop}{x:a_}(hb:b≠0)(ho:l.head?=some ⟨some d,.bin .quo x y,g,af⟩)(hc:(aA g tm,aZ GL tm x,aZ GL tm y)=(some true,.d (.int k a),.d (.int k b)))(hq:AO P GL base Hp (i+1) (l.drop 1) (put tm d (.d (.int k (k.wrap (a.tdiv b))))) Q):AO P GL base Hp i l tm Q:=by simp only[aaE]at hc;refine AO.eT ho hc.1 rfl (v:=.d (.int k (k.wrap (a.tdiv b)))) ?_ hq;grind[bE,mJ,ou]
theorem AO.rem{base i:Nat}{Hp:ao}{Q:List (Nat×V)->Prop}{x:a_}(hb:b≠0)(ho:l.head?=some ⟨some d,.bin .rem x y,g,af⟩)(hc:(aA g tm,aZ GL tm x,aZ GL tm y)=(some true,.d (.int k a),.d (.int k b)))(hq:AO P GL base Hp (i+1) (l.drop 1) (put tm d (.d (.int k (a.tmod b)))) Q):AO P GL base Hp i l tm Q:=by simp only[aaE]at hc;refine AO.eT ho hc.1 rfl (v:=.d (.int k (a.tmod b))) ?_ hq;grind[bE,mJ,ou]
theorem CG.Rb{a b:List UInt8}{x:a_}(hl:a.length+b.length<=4611686018427387904)(ho:l.head?=some ⟨some d,.bin .add x y,g,af⟩)(hc:(aA g tm,aZ GL tm x,aZ GL tm y,Nat.blt d n)=(some true,.d (.str a),.d (.str b),true))(hq:CG P GL (.ops (l.drop 1)) K n (put tm d (.d (.str (a++b)))) H Q):CG P GL (.ops l) K n tm H Q:=by simp only[aaE]at hc;refine CG.eT ho hc.1 (v:=.d (.str (a++b))) (wr:=none) ?_ rfl hc.2.2.2 hq;have:a.length+b.length<=Cj:=hl;grind[bE,mJ,GQ]
theorem CG.mP{id:Nat}{R:St->Prop}(h:R ⟨n,tm,H⟩):CG P GL (.out .normal) [.block id] n tm H (LQ P GL K Q R):=h
end
end Fw
/-
  A clipped slice of data and an append to it; slots kept and boxes cut.
-/
namespace Fw
open Go
theorem an.hO{m n:Nat}{tm aW:List (Nat×V)}{H H':ao}(p:Nat)(cm:List Nat)(hm:Nat.ble m p=true)(e1:(fD cm tm,H.take p)=(aW,H'))(e2:u4 p aW=true)(e4:aB p H'=true):an m ⟨n,tm,H⟩ ⟨n,aW,H'⟩:=by obtain⟨rfl,rfl⟩:=Prod.mk.inj e1;refine an.clean (cm:=cm) (aaN hm) ?_;unfold gQ;grind
section
variable {P:Program}{GL:ch}
variable {base i d sz:Nat}{g:Option (Nat×Bool)}{af:List Nat}{l:List aj}{tm:List (Nat×V)}{H:ao}{Q:RS->List (Nat×V)->ao->Prop}{α:Type}{y:a_}
theorem AW.clip(aa:α->List D)(xs:List α)(k:Nat){x z:a_}(cK:∀a,(aa a).length=sz)(hk:k<=xs.length)(ho:l.head?=some ⟨some d,.clip sz x y z,g,af⟩)(hc:(aA g tm,aZ GL tm x,ct (aZ GL tm y),ct (aZ GL tm z))=(some true,.d (.list (xs.map aa)),some k,some k))(hq:AW P GL base (i+1) (l.drop 1) (put tm d (.full ((xs.take k).map aa))) H (fun rs t h=>Q (((.full ((xs.take k).map aa),none),[])::rs) t h)):AW P GL base i l tm H Q:=by
 simp only[aaE]at hc;have lN:(xs.map aa).all (fun e=>Nat.beq e.length sz)=true:=by simp_all
 refine AW.eT (v:=.full ((xs.take k).map aa)) (wr:=none) ho hc.1 rfl ?_ hq;have:Nat.ble k (xs.map aa).length=true:=by simp_all
 simp only[bE,hc.2.1,hc.2.2.1,hc.2.2.2,lN,aa4,this,abf,aaJ,acO]
theorem AW.NZ(aa:α->List D)(xs ys:List α){bytes:Nat}{x:a_}(cK:∀a,(aa a).length=sz)(GF:ys≠[])(ho:l.head?=some ⟨some d,.append sz bytes x y,g,af⟩)(hc:(Nat.blt 0 sz,aA g tm,aZ GL tm x)=(true,some true,.full (xs.map aa)))(hy:bt H sz (aZ GL tm y)=some ((ys.flatMap aa).map .d))(hr:(xs.length+ys.length)*sz*(bytes+1)<=1099511627776)(hq:AW P GL base (i+1) (l.drop 1) (put tm d (.sl (base+i) ((xs++ys).length*sz) 0 (xs++ys).length sz)) (bJ H (base+i) (ah aa (xs++ys))) (fun rs t k=>Q (((.sl (base+i) ((xs++ys).length*sz) 0 (xs++ys).length sz,some (base+i,ah aa (xs++ys))),mV (aZ GL tm) (.append sz bytes x y))::rs) t k)):AW P GL base i l tm H Q:=by
 simp only[aaE]at hc;have h0:0<sz:=by simp_all
 have U':=bn cK xs;have U9:=bn cK ys;have aat:0<(ys.flatMap aa).length:=by rw[U9];exact Nat.mul_pos (List.length_pos_iff.2 GF) h0
 have lN:(xs.map aa).all (fun e=>Nat.beq e.length sz)=true:=by simp_all
 have M6:(xs.map aa).flatten=xs.flatMap aa:=(List.flatMap_def .. ).symm;have fq:((ys.flatMap aa).map V.d).isEmpty=false:=by grind[List.isEmpty_eq_false_iff,List.map_eq_nil_iff]
 have pF:ah aa (xs++ys)=.cells ((xs.flatMap aa).map .d++(ys.flatMap aa).map .d):=by
  unfold ah eR;rw[acf,abB];have:((xs.flatMap aa).map V.d++(ys.flatMap aa).map V.d).isEmpty=false:=by simp_all
  grind
 refine AW.eT (v:=.sl (base+i) ((xs++ys).length*sz) 0 (xs++ys).length sz) (wr:=some (base+i,ah aa (xs++ys))) ho hc.2.1 rfl ?_ hq;have aau:(xs.length+ys.length)*sz=(xs.flatMap aa).length+(ys.flatMap aa).length:=by grind
 have hb:Nat.ble (((xs.map aa).flatten.length+((ys.flatMap aa).map V.d).length)*(bytes+1)) bI=true:=by grind[Nat.ble_eq,List.length_map,bI]
 have hm:Nat.beq (((ys.flatMap aa).map V.d).length%sz) 0=true:=by simp_all
 have Xg:Nat.beq sz 0=false:=by
  cases sz with
   |zero=>omega
   |succ n=>rfl
 have iL:((ys.flatMap aa).map V.d).all eK=true:=by simp[eK]
 have rT:((ys.flatMap aa).map V.d).length / sz=ys.length:=by simp_all
 simp only[bE,hy,hc.2.2,dr,Xg,hm,iL,lN,fq,hb,abF,ab7,abf,aaJ,aaT,rT];simp_all
theorem AW.mkF{z:List V}{ps:List (Nat×Nat×a_)}(ho:l.head?=some ⟨some d,.mkSlice sz 0 z ps,g,af⟩)(hc:(aA g tm,jo (aZ GL tm) (.mkSlice sz 0 z ps))=(some true,some (.full [])))(hq:AW P GL base (i+1) (l.drop 1) (put tm d (.full [])) H (fun rs t k=>Q (((.full [],none),[])::rs) t k)):AW P GL base i l tm H Q:=by simp only[aaE]at hc;refine AW.head ho ⟨some .any,.full [],none,?_,fun f args h=>?_,hq⟩;all_goals grind[gn,bX]
theorem AW.Rc(aa:α->List D)(xs ys:List α){bytes:Nat}{x:a_}(cK:∀a,(aa a).length=sz)(GF:ys≠[])(ho:l.head?=some ⟨some d,.append sz bytes x y,g,af⟩)(hc:(aA g tm,aZ GL tm x,aZ GL tm y)=(some true,.full (xs.map aa),.d (.list (ys.map aa))))(hr:(xs.length+ys.length)*sz*(bytes+1)<=1099511627776)(hq:AW P GL base (i+1) (l.drop 1) (put tm d (.d (.list ((xs++ys).map aa)))) H (fun rs t k=>Q (((.d (.list ((xs++ys).map aa)),none),[])::rs) t k)):AW P GL base i l tm H Q:=by
 simp only[aaE]at hc;have lN:∀l:List α,(l.map aa).all (fun e=>Nat.beq e.length sz)=true:=fun l=>by simp_all
 have M6:∀l:List α,(l.map aa).flatten.length=l.length*sz:=fun l=>by rw[←bn cK l,List.flatMap_def]
 have fq:(ys.map aa).isEmpty=false:=by simp_all
 have hb:Nat.ble (((xs.map aa).flatten.length+(ys.map aa).flatten.length)*(bytes+1)) bI=true:=by grind[Nat.ble_eq,Nat.add_mul,bI]
 refine AW.head ho ⟨some .any,.d (.list ((xs++ys).map aa)),none,?_,fun f args h=>?_,?_ ⟩
 ·simp only[gn,hc.1,bX,jo,hc.2.1,hc.2.2,lN,fq,hb,ab7,abf,aaJ,aaU,abB]
 ·simp[bX]at h
 ·simp only[mV,hc.2.1,hc.2.2,bK,acV];exact hq
end
end Fw
