/-
  Cells of own rows at open places: looked at and written.
-/
import Derived.Test.YtpeomfjbcdahnaaGreatDoorFg
import Derived.Test.YtpeomfjbcdahnaaGreatDoorFe
import Derived.Test.YtpeomfjbcdahnaaGreatDoorFf
set_option linter.unusedSimpArgs false
set_option linter.unusedVariables false
namespace Fw
open Go
variable {α:Type}{j:Nat}
theorem vh{α:Type}{aa:α->List D}{sz:Nat}(h:∀a,(aa a).length=sz):∀(l:List α)(j:Nat),(l.flatMap aa).drop (j*sz)=(l.drop j).flatMap aa
 |[],j=>by simp
 |a::l,0=>by simp
 |a::l,j+1=>by rw[aaV,ab5,←vh h l j,acE,Nat.add_comm,←acw,←h a,List.drop_left]
theorem pJ{l:List α}{i:Nat}{x:α}(h:l[i]? =some x):l.drop i=x::l.drop (i+1):=by obtain⟨cy,he⟩:=aaz.1 h;rw[abq cy,he]
theorem Io{aa:α->List D}{sz:Nat}(h:∀a,(aa a).length=sz){l:List α}{x:α}(hx:l[j]? =some x){o n:Nat}(ZP:o+n<=sz):((l.flatMap aa).drop (j*sz+o)).take n=((aa x).drop o).take n:=by rw[←acw,vh h,pJ hx,aaV,List.drop_append_of_le_length (by grind),List.take_append_of_le_length (by grind)]
theorem ff{aa:α->List D}{sz:Nat}(h:∀a,(aa a).length=sz)(h0:0<sz){l:List α}(hl:l≠[]):aK aa l=.cells ((l.flatMap aa).map .d):=by
 have:(l.flatMap aa).length≠0:=by rw[cg h];cases l<;>grind[List.length_cons,Nat.succ_mul]
 unfold aK lh;cases hf:l.flatMap aa<;>grind
theorem C9{aa:α->List D}{sz:Nat}(h:∀a,(aa a).length=sz){l:List α}{o n b off:Nat}{x:α}{H:an}(hx:l[j]? =some x)(hH:aC H b=some (aK aa l))(h0:0<sz)(ZP:o+n<=sz)(ho:off=j*sz+o):jw H n (.ptr b (l.length*sz) off)=some ((((aa x).drop o).take n).map .d):=by
 have hO:l≠[]:=by grind
 have cy:j<l.length:=(aaz.1 hx).1;have hm:(j+1)*sz<=l.length*sz:=aa0 _ cy;rw[acE]at hm;subst ho;have e1:(Nat.beq ((l.flatMap aa).map V.d).length (l.length*sz)&&Nat.ble (j*sz+o+n) (l.length*sz))=true:=by rw[aaE,cg h,aaS,abE (by omega)];rfl
 simp only[jw,hH,ff h h0 hO,e1,aaw,←List.map_drop,←acz,Io h hx ZP]
theorem iL{α:Type}:∀(b' a b c:List α),b'.length=b.length->putCells (a++(b++c)) a.length b'=a++(b'++c)
 |[],a,b,c,hl=>by
  cases b with
   |nil=>rfl
   |cons _ _=>simp at hl
 |v::vs,a,b,c,hl=>by
  cases b with
   |nil=>simp at hl
   |cons x b=>
    simp at hl;have e:(a++(x::b++c)).set a.length v=(a++[v])++(b++c):=by simp
    have:=iL vs (a++[v]) b c hl;rw[aao]at this;show putCells ((a++(x::b++c)).set a.length v) (a.length+1) vs=_;grind
theorem vi{aa:α->List D}{l:List α}{x:α}(hx:l[j]? =some x):l.flatMap aa=(l.take j).flatMap aa++(aa x++(l.drop (j+1)).flatMap aa):=by
 conv=>lhs;rw[←acj j l,pJ hx]
 grind
theorem vj{l:List α}{x y:α}(hx:l[j]? =some x):l.set j y=l.take j++y::l.drop (j+1):=by grind[List.set_eq_take_append_cons_drop]
theorem tl{aa:α->List D}{sz:Nat}(h:∀a,(aa a).length=sz){l:List α}{b off:Nat}{x y:α}{H:an}{v:V}(hx:l[j]? =some x)(hH:aC H b=some (aK aa l))(h0:0<sz)(ho:off=j*sz)(hv:bU v=(aa y).map .d):eg H sz (.ptr b (l.length*sz) off) v=some (b,aK aa (l.set j y)):=by
 have hO:l≠[]:=by grind
 have cy:j<l.length:=(aaz.1 hx).1;have Fx:l.set j y≠[]:=by simp_all
 have hm:(j+1)*sz<=l.length*sz:=aa0 _ cy;rw[acE]at hm;subst ho;have e1:(Nat.beq ((l.flatMap aa).map V.d).length (l.length*sz)&&Nat.ble (j*sz+sz) (l.length*sz)&&Nat.beq ((aa y).map V.d).length sz&&((aa y).map V.d).all eL)=true:=by rw[aaE,cg h,aaS,abE (by omega),aaE,h,aaS];simp[eL]
 have e2:putCells ((l.flatMap aa).map V.d) (j*sz) ((aa y).map V.d)=((l.set j y).flatMap aa).map V.d:=by
  have hlen:((l.take j).flatMap aa).length=j*sz:=by rw[cg h,abB,Nat.min_eq_left (acF cy)]
  rw[vi hx,vj hx,ab6,aaV,abt,abt,abt,abt];have:=iL ((aa y).map V.d) (((l.take j).flatMap aa).map V.d) ((aa x).map V.d) (((l.drop (j+1)).flatMap aa).map V.d) (by simp[h]);grind
 simp only[eg,hH,ff h h0 hO,ff h h0 Fx,hv,e1,aaw,e2]
section
variable {P:Program}{GL:bM}
variable {H:an}{af:List Nat}{l:List ab}{tm:List (Nat×V)}{α:Type}{b base i n off d:Nat}{Q:RS->List (Nat×V)->an->Prop}{K:List Fr}{v:V}{a:aU}
theorem CG.yA{op:jv}{g:Option (Nat×Bool)}{H':an}{Q:Ex->St->Prop}{wr:Wr}(ho:l.head?=some ⟨none,op,g,af⟩)(hg:aB g tm=some true)(he:bt (aT GL tm) H H.length op=some (v,wr))(hH:bp H wr=H')(hq:CG P GL (.ops (l.drop 1)) K n tm H' Q):CG P GL (.ops l) K n tm H Q:=by subst hH;exact WO.head ho (WO.bt (v:=v) (wr:=wr) (aS:=⟨n,tm,bp H wr⟩) hg he (by rw[sM]) hq)
theorem CG.Ol(aa:α->List D)(as:List α)(j:Nat){y z:α}{g:Option (Nat×Bool)}{Q:Ex->St->Prop}{sz:Nat}{x:aU}(cH:∀a,(aa a).length=sz)(hy:as[j]? =some y)(ho:l.head?=some ⟨none,.store sz a x,g,af⟩)(hc:(Nat.blt 0 sz,aB g tm,aT GL tm a,aC H b,bU (aT GL tm x))=(true,some true,.ptr b (as.length*sz) off,some (aK aa as),(aa z).map .d))(Av:off=j*sz)(hq:CG P GL (.ops (l.drop 1)) K n tm (aR H b (aK aa (as.set j z))) Q):CG P GL (.ops l) K n tm H Q:=by simp at hc;refine CG.yA ho hc.2.1 (v:=.any) (wr:=some (b,aK aa (as.set j z))) ?_ rfl hq;simp only[bt,hc.2.2.1,tl cH hy hc.2.2.2.1 (by simp_all) Av hc.2.2.2.2,aaI]
theorem qA{aa:α->List D}{as:List α}{sz:Nat}(cH:∀a,(aa a).length=sz)(hH:aC H b=some (aK aa as)):eI H b (as.length*sz)=true:=by unfold eI;rw[hH];have hl:=cg cH as;unfold aK lh;cases h:as.flatMap aa<;>simp_all
theorem CG.C'(aa:α->List D)(as:List α)(b j:Nat){g:Option (Nat×Bool)}{Q:Ex->St->Prop}{sz len:Nat}{x k:aU}(cH:∀a,(aa a).length=sz)(hj:j<len)(ho:l.head?=some ⟨some d,.bj sz x k,g,af⟩)(hc:(aB g tm,aT GL tm x,aC H b,cN (aT GL tm k),Nat.blt d n)=(some true,.sl b (as.length*sz) 0 len sz,some (aK aa as),some j,true))(hq:CG P GL (.ops (l.drop 1)) K n (put tm d (.ptr b (as.length*sz) (j*sz))) H Q):CG P GL (.ops l) K n tm H Q:=by simp only[aav]at hc;refine CG.eR ho hc.1 (v:=.ptr b (as.length*sz) (j*sz)) (wr:=none) ?_ rfl hc.2.2.2.2 hq;have:=vf (qA cH hc.2.2.1) hj hc.2.1 hc.2.2.2.1 H.length;grind
theorem AW.yA{op:jv}{g:Option (Nat×Bool)}{wr:Wr}(ho:l.head?=some ⟨none,op,g,af⟩)(hg:aB g tm=some true)(hc:z6 op=none)(he:bt (aT GL tm) H (base+i) op=some (v,wr))(hq:AW P GL base (i+1) (l.drop 1) tm (bp H wr) (fun rs t k=>Q (((v,wr),mK (aT GL tm) op)::rs) t k)):AW P GL base i l tm H Q:=by
 refine AW.head ho ⟨none,v,wr,?_,fun f args h=>?_,hq⟩
 ·simp only[nc,ig,hg,gu he];exact he
 ·rw[gu he]at h;cases h
theorem AW.C'(aa:α->List D)(as:List α)(b j:Nat){g:Option (Nat×Bool)}{sz len:Nat}{x k:aU}(cH:∀a,(aa a).length=sz)(hj:j<len)(ho:l.head?=some ⟨some d,.bj sz x k,g,af⟩)(hc:(aB g tm,aT GL tm x,aC H b,cN (aT GL tm k))=(some true,.sl b (as.length*sz) 0 len sz,some (aK aa as),some j))(hq:AW P GL base (i+1) (l.drop 1) (put tm d (.ptr b (as.length*sz) (j*sz))) H (fun rs t k'=>Q (((.ptr b (as.length*sz) (j*sz),none),mK (aT GL tm) (.bj sz x k))::rs) t k')):AW P GL base i l tm H Q:=by simp at hc;refine AW.eR ho hc.1 rfl (v:=.ptr b (as.length*sz) (j*sz)) (wr:=none) ?_ hq;have:=vf (qA cH hc.2.2.1) hj hc.2.1 hc.2.2.2 (base+i);grind
theorem AW.Ud(aa:α->List D)(as:List α)(j o:Nat){y:α}{m:Nat}{agg:Bool}{g:Option (Nat×Bool)}{sz:Nat}(cH:∀a,(aa a).length=sz)(hy:as[j]? =some y)(ho:l.head?=some ⟨some d,.load m agg a,g,af⟩)(hc:(Nat.blt 0 sz,aB g tm,aT GL tm a,aC H b,Nat.ble (o+m) sz)=(true,some true,.ptr b (as.length*sz) off,some (aK aa as),true))(Av:off=j*sz+o)(hv:A7 agg ((((aa y).drop o).take m).map .d)=some v)(hq:AW P GL base (i+1) (l.drop 1) (put tm d v) H (fun rs t k'=>Q (((v,none),mK (aT GL tm) (.load m agg a))::rs) t k')):AW P GL base i l tm H Q:=by simp only[aav]at hc;refine AW.eR ho hc.2.1 rfl (v:=v) (wr:=none) ?_ hq;simp only[bt,hc.2.2.1,C9 cH hy hc.2.2.2.1 (by simp_all) (aax hc.2.2.2.2) Av,hv,aaI]
theorem AW.Ol(aa:α->List D)(as:List α)(j:Nat){y z:α}{g:Option (Nat×Bool)}{sz:Nat}{x:aU}(cH:∀a,(aa a).length=sz)(hy:as[j]? =some y)(ho:l.head?=some ⟨none,.store sz a x,g,af⟩)(hc:(Nat.blt 0 sz,aB g tm,aT GL tm a,aC H b,bU (aT GL tm x))=(true,some true,.ptr b (as.length*sz) off,some (aK aa as),(aa z).map .d))(Av:off=j*sz)(hq:AW P GL base (i+1) (l.drop 1) tm (aR H b (aK aa (as.set j z))) (fun rs t k'=>Q (((.any,some (b,aK aa (as.set j z))),mK (aT GL tm) (.store sz a x))::rs) t k')):AW P GL base i l tm H Q:=by simp at hc;refine AW.yA ho hc.2.1 rfl (v:=.any) (wr:=some (b,aK aa (as.set j z))) ?_ hq;simp only[bt,hc.2.2.1,tl cH hy hc.2.2.2.1 (by simp_all) Av hc.2.2.2.2,aaI]
end
end Fw
/-
  Rows born empty: appended to in drawn regions, and known as data where cells speak of them.
-/
/-
  A drawn region in parts: some operations all come ahead of the others; between the parts the state may be told anew.
-/
/-
  Nil rows handed on as arguments.
-/
namespace Fw
open Go
section
variable {P:Program}{GL:bM}
def ml:List V->List V->Prop|[],[]=>True|a::as,b::bs=>(a=b\/(a=.ak/\b=.d (.list [])))/\ml as bs|_,_=>False
theorem ml.JT{g:G}{w:World}:∀{as bs:List V}{vs:List Value},ml as bs->aN g w as vs->aN g w bs vs
 |[],[],_,_,h=>h
 |a::as,b::bs,[],_,h=>by grind[aN]
 |a::as,b::bs,v::vs,hr,h=>by simp only[aN]at h⊢;obtain⟨tX,uH⟩:=hr;refine⟨?_,ml.JT uH h.2⟩;grind[RV,Rd]
 |[],_::_,_,hr,_=>by grind[ml]
 |_::_,[],_,hr,_=>by grind[ml]
theorem PC.nil{f:FuncId}{args nB:List V}{v:V}(h:PC P GL f nB v)(hr:ml args nB):PC P GL f args v:=⟨h.1,fun g w vs cX h1 h2 h3=>h.2 g w vs (ml.JT hr cX) h1 h2 h3⟩
end
end Fw
/-
  The last operation of a drawn region, for which all others come ahead, told as an ordinary one; parts walked one by one.
-/
/-
  Rows that are nil or empty, appended to and known as data; an empty row looked at for nil.
-/
namespace Fw
open Go
variable {α:Type}
def Fy(aa:α->List D)(l:List α)(x:bR):Prop:=x=aK aa l\/x=dA aa l
theorem jg{aa:α->List D}{sz:Nat}(h:∀a,(aa a).length=sz)(h0:0<sz){l:List α}(hl:l≠[]):aK aa l=dA aa l:=ff h h0 hl
theorem Fy.cell{aa:α->List D}{sz:Nat}(h:∀a,(aa a).length=sz)(h0:0<sz){l:List α}{x:bR}(hx:Fy aa l x)(hl:l≠[]):x=aK aa l:=by
 rcases hx with hx|hx
 ·exact hx
 ·rw[hx,jg h h0 hl]
def Ip(aa:α->List D)(z:Bool)(l:List α):bR:=bif z then dA aa l else aK aa l
theorem Fy.z{α:Type}{aa:α->List D}{l:List α}{x:bR}(h:Fy aa l x):∃z,x=Ip aa z l:=by
 rcases h with h|h
 ·exact⟨false,h⟩
 ·exact⟨true,h⟩
theorem Ip.x(aa:α->List D)(z:Bool)(l:List α):Fy aa l (Ip aa z l):=by
 cases z
 ·exact .inl rfl
 ·exact .inr rfl
@[simp] theorem L2(n:Nat)(aa:α->List D)(z:Bool)(l:List α):dq n (Ip aa z l)=true:=by
 cases z
 ·exact di n aa l
 ·exact je n aa l
section
variable {P:Program}{GL:bM}
end
end Fw
/-
  Own rows at open places: a part of an element is written.
-/
namespace Fw
open Go
theorem tn{α:Type}{aa:α->List D}{sz:Nat}(h:∀a,(aa a).length=sz){l:List α}{j b off n:Nat}{x y:α}{A B B' C:List D}{H:an}{v:V}(hx:l[j]? =some x)(hH:aC H b=some (aK aa l))(h0:0<sz)(T6:aa x=A++(B++C))(hy1:aa y=A++(B'++C))(hB:B'.length=B.length)(hn:B'.length=n)(ho:off=j*sz+A.length)(hv:bU v=B'.map .d):eg H n (.ptr b (l.length*sz) off) v=some (b,aK aa (l.set j y)):=by
 have hO:l≠[]:=by grind
 have cy:j<l.length:=(aaz.1 hx).1;have Fx:l.set j y≠[]:=by simp_all
 have hm:(j+1)*sz<=l.length*sz:=aa0 _ cy;rw[acE]at hm;have Vh:A.length+(B.length+C.length)=sz:=by grind
 subst ho;have e1:(Nat.beq ((l.flatMap aa).map V.d).length (l.length*sz)&&Nat.ble (j*sz+A.length+n) (l.length*sz)&&Nat.beq (B'.map V.d).length n&&(B'.map V.d).all eL)=true:=by rw[aaE,cg h,aaS,abE (by omega),aaE,hn,aaS];simp[eL]
 have e2:putCells ((l.flatMap aa).map V.d) (j*sz+A.length) (B'.map V.d)=((l.set j y).flatMap aa).map V.d:=by
  have hlen:((l.take j).flatMap aa).length=j*sz:=by rw[cg h,abB,Nat.min_eq_left (acF cy)]
  rw[vi hx,vj hx,ab6,aaV,T6,hy1];have:=iL (B'.map V.d) ((((l.take j).flatMap aa)++A).map V.d) (B.map V.d) ((C++(l.drop (j+1)).flatMap aa).map V.d) (by simp[hB]);grind
 simp only[eg,hH,ff h h0 hO,ff h h0 Fx,hv,e1,aaw,e2]
section
variable {P:Program}{GL:bM}
theorem CG.Ue{α:Type}(aa:α->List D)(as:List α)(j o m:Nat){y:α}(z:α){g:Option (Nat×Bool)}{af:List Nat}{l:List ab}{K:List Fr}{n:Nat}{tm:List (Nat×V)}{H:an}{Q:Ex->St->Prop}{sz b off:Nat}{a x:aU}(cH:∀a,(aa a).length=sz)(hy:as[j]? =some y)(ho:l.head?=some ⟨none,.store m a x,g,af⟩)(B':List D)(hc:(Nat.blt 0 sz,aB g tm,aT GL tm a,aC H b,bU (aT GL tm x),Nat.beq B'.length m,Nat.ble (o+m) sz)=(true,some true,.ptr b (as.length*sz) off,some (aK aa as),B'.map .d,true,true))(Av:off=j*sz+o)(hz:aa z=(aa y).take o++(B'++(aa y).drop (o+m)))(hq:CG P GL (.ops (l.drop 1)) K n tm (aR H b (aK aa (as.set j z))) Q):CG P GL (.ops l) K n tm H Q:=by
 simp only[aav]at hc;have hm:B'.length=m:=aau hc.2.2.2.2.2.1;have hle:=aax hc.2.2.2.2.2.2;have Oe:=cH y;have hA:((aa y).take o).length=o:=by grind
 have hB:(((aa y).drop o).take m).length=m:=by grind
 refine CG.yA ho hc.2.1 (v:=.any) (wr:=some (b,aK aa (as.set j z))) ?_ rfl hq;have:=tn (n:=m) (off:=off) (v:=aT GL tm x) (A:=(aa y).take o) (B:=((aa y).drop o).take m) (B':=B') (C:=(aa y).drop (o+m)) cH hy hc.2.2.2.1 (by simp_all) (by grind[List.drop_drop,List.take_append_drop]) hz (by rw[hB,hm]) hm (by grind) hc.2.2.2.2.1;grind[bt]
theorem AW.Ue{α:Type}(aa:α->List D)(as:List α)(j o m:Nat){y:α}(z:α){base i:Nat}{g:Option (Nat×Bool)}{af:List Nat}{l:List ab}{tm:List (Nat×V)}{H:an}{Q:RS->List (Nat×V)->an->Prop}{sz b off:Nat}{a x:aU}(cH:∀a,(aa a).length=sz)(hy:as[j]? =some y)(ho:l.head?=some ⟨none,.store m a x,g,af⟩)(B':List D)(hc:(Nat.blt 0 sz,aB g tm,aT GL tm a,aC H b,bU (aT GL tm x),Nat.beq B'.length m,Nat.ble (o+m) sz)=(true,some true,.ptr b (as.length*sz) off,some (aK aa as),B'.map .d,true,true))(Av:off=j*sz+o)(hz:aa z=(aa y).take o++(B'++(aa y).drop (o+m)))(hq:AW P GL base (i+1) (l.drop 1) tm (aR H b (aK aa (as.set j z))) (fun rs t k'=>Q (((.any,some (b,aK aa (as.set j z))),mK (aT GL tm) (.store m a x))::rs) t k')):AW P GL base i l tm H Q:=by
 simp only[aav]at hc;have hm:B'.length=m:=aau hc.2.2.2.2.2.1;have hle:=aax hc.2.2.2.2.2.2;have Oe:=cH y;have hA:((aa y).take o).length=o:=by grind
 have hB:(((aa y).drop o).take m).length=m:=by grind
 refine AW.yA ho hc.2.1 rfl (v:=.any) (wr:=some (b,aK aa (as.set j z))) ?_ hq;have:=tn (n:=m) (off:=off) (v:=aT GL tm x) (A:=(aa y).take o) (B:=((aa y).drop o).take m) (B':=B') (C:=(aa y).drop (o+m)) cH hy hc.2.2.2.1 (by simp_all) (by grind[List.drop_drop,List.take_append_drop]) hz (by rw[hB,hm]) hm (by grind) hc.2.2.2.2.1;grind[bt]
end
end Fw
/-
  A call in a drawn region that looks into an own row: told by a closed run beside that row alone.
-/
namespace Fw
open Go
section
variable {P:Program}{GL:bM}
mutual
def jh:V->V| .ak=>.d (.list [])| .agg cs=>.agg (uo cs)| .tuple cs=>.tuple (uo cs)| .d x=>.d x|_=>.any
def uo:List V->List V|[]=>[]|v::vs=>jh v::uo vs
end
mutual
theorem RV.jh{g:G}{w:World}:∀{u:V}{v:Value},RV g w u v->RV g w (Fw.jh u) v
 | .ak,v,h=>by grind[RV,Fw.jh,Rd]
 | .agg cs,v,h=>by simp only[RV]at h;obtain⟨x,rfl,hx⟩:=h;simp only[Fw.jh,RV];exact⟨x,rfl,aN.uo hx⟩
 | .tuple cs,v,h=>by simp only[RV]at h;obtain⟨x,rfl,hx⟩:=h;simp only[Fw.jh,RV];exact⟨x,rfl,aN.uo hx⟩
 | .d x,v,h=>by grind[Fw.jh]
 | .any,v,h=>by grind[Fw.jh,RV]
 | .full _,v,h=>by grind[Fw.jh,RV]
 | .ptr _ _ _,v,h=>by grind[Fw.jh,RV]
 | .lD,v,h=>by grind[Fw.jh,RV]
 | .aO _,v,h=>by grind[Fw.jh,RV]
 | .sl _ _ _ _ _,v,h=>by grind[Fw.jh,RV]
 | .map _,v,h=>by grind[Fw.jh,RV]
 | .kC,v,h=>by grind[Fw.jh,RV]
 | .func _ _ _,v,h=>by grind[Fw.jh,RV]
 | .oK,v,h=>by grind[Fw.jh,RV]
 | .iface _ _,v,h=>by grind[Fw.jh,RV]
 | .bz,v,h=>by grind[Fw.jh,RV]
 | .fy,v,h=>by grind[Fw.jh,RV]
 | .iter _ _,v,h=>by grind[Fw.jh,RV]
 | .gI _,v,h=>by grind[Fw.jh,RV]
theorem aN.uo{g:G}{w:World}:∀{us:List V}{vs:List Value},aN g w us vs->aN g w (Fw.uo us) vs
 |[],[],_=>by grind[Fw.uo,aN]
 |_::_,_::_,h=>by simp only[aN]at h;simp only[Fw.uo,aN];exact⟨RV.jh h.1,aN.uo h.2⟩
 |[],_::_,h=>by grind[aN]
 |_::_,[],h=>by grind[aN]
end
end
end Fw
/-
  Quotient and remainder by an open number that is not 0.
-/
namespace Fw
open Go
section
variable {P:Program}{GL:bM}
variable {tm:List (Nat×V)}{d n:Nat}{af:List Nat}{l:List ab}{y:aU}{k:IntKind}{a b:Int}{K:List Fr}{H:an}{Q:Ex->St->Prop}
theorem CG.quo{g:Option (Nat×Bool)}{x:aU}(hb:b≠0)(ho:l.head?=some ⟨some d,.bin .quo x y,g,af⟩)(hc:(aB g tm,aT GL tm x,aT GL tm y,Nat.blt d n)=(some true,.d (.int k a),.d (.int k b),true))(hq:CG P GL (.ops (l.drop 1)) K n (put tm d (.d (.int k (k.wrap (a.tdiv b))))) H Q):CG P GL (.ops l) K n tm H Q:=by simp only[aav]at hc;refine CG.eR ho hc.1 (v:=.d (.int k (k.wrap (a.tdiv b)))) (wr:=none) ?_ rfl hc.2.2.2 hq;grind[bt,lL,vI]
theorem CG.rem{g:Option (Nat×Bool)}{x:aU}(hb:b≠0)(ho:l.head?=some ⟨some d,.bin .rem x y,g,af⟩)(hc:(aB g tm,aT GL tm x,aT GL tm y,Nat.blt d n)=(some true,.d (.int k a),.d (.int k b),true))(hq:CG P GL (.ops (l.drop 1)) K n (put tm d (.d (.int k (a.tmod b)))) H Q):CG P GL (.ops l) K n tm H Q:=by simp only[aav]at hc;refine CG.eR ho hc.1 (v:=.d (.int k (a.tmod b))) (wr:=none) ?_ rfl hc.2.2.2 hq;grind[bt,lL,vI]
theorem AO.quo{base i:Nat}{Hp:an}{g:Option (Nat×Bool)}{Q:List (Nat×V)->Prop}{x:aU}(hb:b≠0)(ho:l.head?=some ⟨some d,.bin .quo x y,g,af⟩)(hc:(aB g tm,aT GL tm x,aT GL tm y)=(some true,.d (.int k a),.d (.int k b)))(hq:AO P GL base Hp (i+1) (l.drop 1) (put tm d (.d (.int k (k.wrap (a.tdiv b))))) Q):AO P GL base Hp i l tm Q:=by simp at hc;refine AO.eR ho hc.1 rfl (v:=.d (.int k (k.wrap (a.tdiv b)))) ?_ hq;grind[bt,lL,vI]
theorem AO.rem{base i:Nat}{Hp:an}{g:Option (Nat×Bool)}{Q:List (Nat×V)->Prop}{x:aU}(hb:b≠0)(ho:l.head?=some ⟨some d,.bin .rem x y,g,af⟩)(hc:(aB g tm,aT GL tm x,aT GL tm y)=(some true,.d (.int k a),.d (.int k b)))(hq:AO P GL base Hp (i+1) (l.drop 1) (put tm d (.d (.int k (a.tmod b)))) Q):AO P GL base Hp i l tm Q:=by simp at hc;refine AO.eR ho hc.1 rfl (v:=.d (.int k (a.tmod b))) ?_ hq;grind[bt,lL,vI]
theorem CG.bg{a b:List UInt8}{g:Option (Nat×Bool)}{x:aU}(hl:a.length+b.length<=4611686018427387904)(ho:l.head?=some ⟨some d,.bin .add x y,g,af⟩)(hc:(aB g tm,aT GL tm x,aT GL tm y,Nat.blt d n)=(some true,.d (.str a),.d (.str b),true))(hq:CG P GL (.ops (l.drop 1)) K n (put tm d (.d (.str (a++b)))) H Q):CG P GL (.ops l) K n tm H Q:=by simp only[aav]at hc;refine CG.eR ho hc.1 (v:=.d (.str (a++b))) (wr:=none) ?_ rfl hc.2.2.2 hq;have:a.length+b.length<=iS:=hl;grind[bt,lL,zD]
theorem CG.kg{id:Nat}{R:St->Prop}(h:R ⟨n,tm,H⟩):CG P GL (.out .normal) [.block id] n tm H (LQ P GL K Q R):=h
end
end Fw
/-
  A clipped slice of data and an append to it; slots kept and boxes cut.
-/
namespace Fw
open Go
theorem ax.tp{m n:Nat}{tm a7:List (Nat×V)}{H H':an}(p:Nat)(cB:List Nat)(hm:Nat.ble m p=true)(e1:(fc cB tm,H.take p)=(a7,H'))(e2:sI p a7=true)(e4:a6 p H'=true):ax m ⟨n,tm,H⟩ ⟨n,a7,H'⟩:=by obtain⟨rfl,rfl⟩:=Prod.mk.inj e1;refine ax.clean (cB:=cB) (aax hm) ?_;unfold gK;grind
section
variable {P:Program}{GL:bM}
theorem AW.clip{α:Type}(aa:α->List D)(xs:List α)(k:Nat){base i d:Nat}{g:Option (Nat×Bool)}{af:List Nat}{l:List ab}{tm:List (Nat×V)}{H:an}{Q:RS->List (Nat×V)->an->Prop}{sz:Nat}{x y z:aU}(cH:∀a,(aa a).length=sz)(hk:k<=xs.length)(ho:l.head?=some ⟨some d,.clip sz x y z,g,af⟩)(hc:(aB g tm,aT GL tm x,cN (aT GL tm y),cN (aT GL tm z))=(some true,.d (.list (xs.map aa)),some k,some k))(hq:AW P GL base (i+1) (l.drop 1) (put tm d (.full ((xs.take k).map aa))) H (fun rs t h=>Q (((.full ((xs.take k).map aa),none),[])::rs) t h)):AW P GL base i l tm H Q:=by
 simp at hc;have iF:(xs.map aa).all (fun e=>Nat.beq e.length sz)=true:=by simp_all
 refine AW.eR (v:=.full ((xs.take k).map aa)) (wr:=none) ho hc.1 rfl ?_ hq;have:Nat.ble k (xs.map aa).length=true:=by simp_all
 simp only[bt,hc.2.1,hc.2.2.1,hc.2.2.2,iF,aaS,this,abd,aaw,acz]
end
end Fw
/-
  A call of a drawn region that hands back a row of its own.
-/
namespace Fw
open Go
section
variable {P:Program}{GL:bM}
theorem iv.HZ{f:FuncId}{args cs:List V}{n sz:Nat}(h:WF P GL f args [] (fun v H'=>v=.sl 0 cs.length 0 n sz/\H'=[some (.cells cs)]))(ha:aJ 0 args=true)(nS:dq 0 (.cells cs)=true)(H:an)(ns:Nat):iv P GL f args H ns (.sl ns cs.length 0 n sz,some (ns,.cells cs)):=by
 refine⟨h.1,fun H1 _ g w vs cX hh hg fD=>?_ ⟩;obtain⟨sR,Ob,hG⟩:=wq (S:=[]) (g:=g) (w:=w) (H:=H1) (H0:=[]) List.nodup_nil rfl hh hg (fun i hi=>absurd hi (Nat.not_lt_zero i));have xB:nA 0 g (ld [] g) w:=⟨fun b hb=>by omega,fun b hb=>by omega,fun k hk=>(sR.cl k).2 hk⟩;refine(h.2 (ld [] g) w vs (aN.agree xB _ _ ha cX) Ob hG).mono ?_;rintro e w' ⟨x,v',g0,H',rfl,⟨rfl,rfl⟩,hx,qg,he⟩;obtain⟨x0,N5⟩:=qg.back 0 (.cells cs) rfl;obtain⟨T3,y0,DT,ZQ⟩:=qg.live 0 x0 N5;have:y0=.cells cs:=by simpa[aC]using DT.symm
 subst this;have Aj:∀k,g0.fo k↔(g.fo k\/∃b x,g.γ b=some x/\x.own=some k):=by intro k;rw[he.fo];simp[ld]
 have gp:∀k,(g.fo k\/∃b x,g.γ b=some x/\x.own=some k)->x0.own≠some k:=fun k hk=>(qg.fo k ((Aj k).2 hk)).2 0 x0 N5
 have nf:∀k,cl g0 w' k->cl (g.add ns x0) w' k:=by
  rintro k ⟨h1,h2,h3⟩;rw[Aj]at h2;refine⟨h1,fun hf=>h2 (.inl hf),fun b z hz hk=>?_ ⟩;simp only[G.add]at hz;split at hz
  ·simp only[aar]at hz;subst hz;exact h3 0 _ N5 hk
  ·exact h2 (.inr ⟨b,z,hz,hk⟩)
 have hE:bu g w (g.add ns x0) w':=by
  refine⟨he.os,he.tape,he.output,he.size,fun k hk=>?_,fun b hb=>.inl hb,fun b hb=>?_,rfl,rfl,fun k hk=>he.dw k (Or.inl hk)⟩
  ·obtain⟨k1,k2⟩:=he.keeps k ((sR.cl k).2 hk);exact⟨nf k k1,k2⟩
  ·have:b≠ns:=by rintro rfl;exact fD hb
   simp only[G.add,this,ab0];exact GB.step.refl _
 refine⟨x,g.add ns x0,rfl,?_,hE,?_,fun b hb=>hb⟩
 ·simp only[RV]at hx⊢;refine⟨⟨hx.1.1,.inr rfl⟩,fun z hz=>?_ ⟩;have tY:z=x0:=by simpa[G.add]using hz.symm
  subst tY;exact hx.2 _ N5
 ·have H4:nA 0 g0 (g.add ns x0) w':=⟨fun b hb=>by omega,fun b hb=>by omega,nf⟩;refine⟨fun b hb=>?_,fun b z hz=>?_,fun b z hz=>?_,fun b b' z z' k hz tY hk kx=>?_,fun k hk=>⟨aaX (hh.fo k hk).1 he.size,fun b z hz kx=>?_ ⟩⟩
  ·have hl:=gS H1 ns (.cells cs);simp only[bp];rcases hb with hb|rfl
   ·have:=hh.cd b hb;omega
   ·exact hl.2
  ·simp only[G.add]at hz;split at hz
   ·rename_i hb;simp only[aar]at hz;subst hz;subst hb;exact⟨.inr rfl,.cells cs,fC _ _ _,RB.agree H4 nS ZQ⟩
   ·rename_i hb;obtain⟨h1,y',h2,h3⟩:=hh.live b z hz;exact⟨.inl h1,y',by simp only[bp];rw[dn _ hb];exact h2,RB.ext hE (fun k hk=>he.dw k (Or.inr ⟨b,z,by simp,hz,hk⟩)) h3⟩
  ·by_cases hb:b=ns
   ·exact⟨x0,by simp[G.add,hb]⟩
   ·simp only[bp]at hz;rw[dn _ hb]at hz;obtain⟨q,hq⟩:=hh.back b z hz;exact⟨q,by simp[G.add,hb,hq]⟩
  ·simp only[G.add]at hz tY;split at hz
   ·rename_i hb;split at tY
    ·rename_i Li;rw[hb,Li]
    ·simp only[aar]at hz;subst hz;exact absurd hk (gp k (.inr ⟨b',z',tY,kx⟩))
   ·split at tY
    ·simp only[aar]at tY;subst tY;exact absurd kx (gp k (.inr ⟨b,z,hz,hk⟩))
    ·exact hh.inj b b' z z' k hz tY hk kx
  ·simp only[G.add]at hz;split at hz
   ·simp only[aar]at hz;subst hz;exact gp k (.inl hk) kx
   ·exact(hh.fo k hk).2 b z hz kx
theorem AW.own{cs vs:List V}{n sz base i d:Nat}{g:Option (Nat×Bool)}{af:List Nat}{l:List ab}{tm:List (Nat×V)}{H:an}{Q:RS->List (Nat×V)->an->Prop}{f:FuncId}{args:List aU}(h:WF P GL f vs [] (fun v H'=>v=.sl 0 cs.length 0 n sz/\H'=[some (.cells cs)]))(hr:(aJ 0 vs&&dq 0 (.cells cs))=true)(ho:l.head?=some ⟨some d,.call f args,g,af⟩)(hg:aB g tm=some true)(ha:bI (aT GL tm) args=vs)(hq:AW P GL base (i+1) (l.drop 1) (put tm d (.sl (base+i) cs.length 0 n sz)) (aR H (base+i) (.cells cs)) (fun rs t k=>Q (((.sl (base+i) cs.length 0 n sz,some (base+i,.cells cs)),mK (aT GL tm) (.call f args))::rs) t k)):AW P GL base i l tm H Q:=by
 subst ha;rw[aas]at hr;refine AW.head ho ⟨some (.own cs n sz),.sl (base+i) cs.length 0 n sz,some (base+i,.cells cs),?_,fun f' ve hc _=>?_,hq⟩
 ·simp only[nc,hg,cx]
 ·simp only[cx,aar,aav]at hc;obtain⟨rfl,rfl⟩:=hc;exact iv.HZ h hr.1 hr.2 _ _
end
end Fw
/-
  Strings of which a bound of the length alone is known: taken out at a place of a walk, handed back at its end; arguments that hold some.
-/
namespace Fw
open Go
section
variable {P:Program}{GL:bM}
variable {u v:V}{w:World}{f:FuncId}
theorem PP{g:G}{a:Act}{n t B:Nat}{tm:List (Nat×V)}{H:an}(h:R GL g w a ⟨n,tm,H⟩)(ht:get tm t=.d (.sN B)):∃s:List UInt8,s.length<=B/\R GL g w a ⟨n,put tm t (.d (.str s)),H⟩:=by
 have hv:=h.tmps t;simp only at hv;rw[ht]at hv;simp only[RV,Rd]at hv;obtain⟨s,h1,h2⟩:=hv;refine⟨s.data.toList,h2,h.defers,h.size,fun t'=>?_,h.heap,h.cD⟩;simp only;rw[fB];split
 ·rename_i e;subst e;rw[h1];exact RV.UO s
 ·exact h.tmps t'
theorem CG.sN{cur:lI}(t B:Nat)(hc:yq cur=false){K:List Fr}{n:Nat}{tm:List (Nat×V)}{H:an}{Q:Ex->St->Prop}(ht:get tm t=.d (.sN B))(h:∀s:List UInt8,s.length<=B->CG P GL cur K n (put tm t (.d (.str s))) H Q):CG P GL cur K n tm H Q:=by
 cases cur with
  |code c=>intro code CA ro lE g w a hr;obtain⟨s,h1,h2⟩:=PP hr ht;exact h s h1 code CA ro lE g w a h2
  |ops l=>intro ro ops k hk g w a hr;obtain⟨s,h1,h2⟩:=PP hr ht;exact h s h1 ro ops k hk g w a h2
  |out e=>cases hc
def PQ:V->V->Prop| .d (.sN n),.d (.str s)=>s.length<=n| .d (.sN n),.d (.sN m)=>m<=n|u,v=>v=u
def Om:List V->List V->Prop|[],[]=>True|u::us,v::vs=>PQ u v/\Om us vs|_,_=>False
def PR:V->V->Prop| .tuple us,.tuple vs=>Om us vs|u,v=>PQ u v
theorem PQ.rv{g:G}{x:Value}(h:PQ u v)(hv:RV g w v x):RV g w u x:=by
 unfold PQ at h;split at h
 ·simp only[RV,Rd]at hv⊢;obtain⟨s,h1,h2⟩:=hv;exact⟨s,h1,by rw[h2];exact h⟩
 ·simp only[RV,Rd]at hv⊢;obtain⟨s,h1,h2⟩:=hv;exact⟨s,h1,aby h2 h⟩
 ·rw[←h];exact hv
theorem Om.JT{g:G}{w:World}:∀{us vs:List V}{xs:List Value},Om us vs->aN g w vs xs->aN g w us xs
 |[],[],_,_,h=>h
 |u::us,v::vs,[],_,h=>by simp only[aN]at h
 |u::us,v::vs,x::xs,h,hv=>by simp only[aN]at hv⊢;exact⟨h.1.rv hv.1,Om.JT h.2 hv.2⟩
 |[],_::_,_,h,_=>h.elim
 |_::_,[],_,h,_=>h.elim
theorem PR.rv{g:G}{x:Value}(h:PR u v)(hv:RV g w v x):RV g w u x:=by
 unfold PR at h;split at h
 ·simp only[RV]at hv⊢;obtain⟨y,h1,h2⟩:=hv;exact⟨y,h1,Om.JT h h2⟩
 ·exact h.rv hv
def Wk(u:V):V->an->Prop:=fun r H=>∃v,fA H r=some v/\PR u v
theorem PC.VW{args:List V}(hd:aJ 0 args=true)(h:WF P GL f args [] (Wk u)):PC P GL f args u:=by refine PC.VA hd h ?_;rintro r H' g g' w x ⟨v,h1,h2⟩ hh nt hx;exact h2.rv (sJ hh nt h1 hx)
theorem CG.fO{fn:bL}{args:List V}(hf:au P f=some fn)(uM:al P f=true)(hc:(Nat.ble args.length fn.ntmps&&aJ 0 args)=true)(h:CG P GL (.code fn.body) [] fn.ntmps (ry 0 args) [] (nh fn.res (Wk u))):PC P GL f args u:=by rw[aas]at hc;exact PC.VW hc.2 (CG.b_ hf uM hc.1 h)
theorem PC.dW{args:List V}(h:PC P GL f args v)(hw:PR u v):PC P GL f args u:=by refine⟨h.1,fun g w vs hv hf ho hg=>(h.2 g w vs hv hf ho hg).mono ?_ ⟩;rintro e w' ⟨x,h1,h2,h3⟩;exact⟨x,h1,hw.rv h2,h3⟩
theorem PC.args{α:Type}{f:FuncId}{args:List V}{v:V}(ve:α->List V)(x0:α)(ha:∀g w vs,aN g w args vs->∃x,aN g w (ve x) vs)(h:∀x,PC P GL f (ve x) v):PC P GL f args v:=by refine⟨(h x0).1,fun g w vs hv hf ho hg=>?_ ⟩;obtain⟨x,hx⟩:=ha g w vs.toList hv;exact(h x).2 g w vs hx hf ho hg
def mn:List (List UInt8)->List Nat->Prop|[],[]=>True|s::ss,n::ns=>s.length<=n/\mn ss ns|_,_=>False
theorem dR.sN{w:World}{im:Nat->Prop}{aM sz:Nat}:∀{ns:List Nat}{off:Nat},dR w im aM off sz (ns.map fun n=>[.sN n])->∃ss:List (List UInt8),mn ss ns/\dR w im aM off sz (ss.map fun s=>[.str s])
 |[],_,_=>⟨[],trivial,by simp only[aaZ,dR]⟩
 |n::ns,off,h=>by simp only[aaB,dR,cP]at h;obtain⟨h1,⟨⟨v,h2,h3⟩,-⟩,h4⟩:=h;obtain⟨ss,k1,k2⟩:=dR.sN h4;simp only[Rd]at h3;obtain⟨s,rfl,h5⟩:=h3;refine⟨s.data.toList::ss,⟨h5,k1⟩,?_⟩;simp only[aaB,dR,cP];exact⟨h1,⟨⟨_,h2,by simp only[Rd];exact⟨s,rfl,rfl⟩⟩,trivial⟩,k2⟩
theorem mn.len:∀{ss:List (List UInt8)}{ns:List Nat},mn ss ns->ss.length=ns.length
 |[],[],_=>rfl
 |_::_,_::_,h=>by simp[mn.len h.2]
 |[],_::_,h=>h.elim
 |_::_,[],h=>h.elim
end
end Fw
/-
  Loops over functions in a walk: the rounds by a step over data, the iterator by what it goes over.
-/
namespace Fw
open Go
def iter{α X:Type}(step:α->X->α×kG):α->List X->α×kG
 |a,[]=>(a,.ready)
 |a,x::xs=>
  match step a x with
   |(a',.ready)=>iter step a' xs
   |r=>r
def gL:kG->Bool| .ready=>true|_=>false
theorem ra{α X:Type}(step:α->X->α×kG):∀(a:α)(xs ys:List X),iter step a (xs++ys)=match iter step a xs with
  |(a',.ready)=>iter step a' ys
  |r=>r
 |a,[],ys=>rfl
 |a,x::xs,ys=>by
  simp only[abI,iter];cases h:step a x with
   |mk a' s=>
    cases s with
     |ready=>simp only;exact ra step a' xs ys
     |_=>rfl
section
variable {P:Program}{GL:bM}
variable {b n:Nat}{H H':an}{tm:List (Nat×V)}{Q:V->an->Prop}{ps:List Nat}{ca cb:Code}{X:Type}
theorem WY.cut{args:List V}(h:WY P GL b args H (fun v H'=>Q v H'\/(aE H.length v=true/\a6 H.length (H'.take H.length)=true/\Q v (H'.take H.length)))):WY P GL b args H Q:=by
 intro g w vs l h1 h2 h3 h4;obtain⟨fn,tmps,assign,body,k1,k2⟩:=h g w vs l h1 h2 h3 h4;refine⟨fn,tmps,assign,body,k1,k2.mono ?_⟩;rintro e w' ⟨x,v,g',H',rfl,hq,hx,qg,he⟩;rcases hq with hq|⟨e1,e2,e3⟩
 ·exact⟨x,v,g',H',rfl,hq,hx,qg,he⟩
 ·exact⟨x,v,g'.cut H.length,_,rfl,e3,RV.agree (fm g' w' _) _ _ e1 hx,qg.cut e2,he.cut (fun b hb=>h2.cd b hb)⟩
def PS(b:Nat)(Q:V->an->Prop):Ex->St->Prop:=fun e s=>pa b e s.hp Q
def RQ(m:Nat)(v:V)(H:an):V->an->Prop:=fun r k=>r=v/\(k=H\/(a6 m (k.take m)=true/\k.take m=H))
theorem WY.VX{args:List V}{r:Bool}(h:WY P GL b args H (RQ H.length (.d (.bool r)) H')):WY P GL b args H (iK (.d (.bool r)) H'):=WY.cut (h.mono fun v k ⟨h1,h2⟩=>by
 rcases h2 with h2|⟨h2,h3⟩
 ·exact .inl ⟨h1,h2⟩
 ·exact .inr ⟨by rw[h1];rfl,h2,h1,h3⟩)
theorem WY.VY{args:List V}{r:Bool}{ia ib:IR}(hb:aC H b=some (.loop n tm ps ca cb .ready))(hl:args.length=ps.length)(hp:ps.all (fun p=>Nat.blt p n)=true)(ha:aD P ca=some ia)(hc:aD P cb=some ib)(fa:dP ia=true)(fb:dP ib=true)(h:CG P GL (.code ia) [] n (ic tm ps args) H (LQ P GL [] (fun _ _=>False) (fun s=>∃n1 kR mH mI mJ,aC s.hp b=some (.loop n1 kR mH mI mJ .ready)/\CG P GL (.code ib) [] s.n s.tm (aR s.hp b (.loop n1 kR mH mI mJ .busy)) (LQ P GL [] (PS b (RQ H.length (.d (.bool r)) H')) (fun s=>pa b .normal s.hp (RQ H.length (.d (.bool r)) H')))))):WY P GL b args H (iK (.d (.bool r)) H'):=by
 refine WY.VX (WY.round hb hl hp ha hc fa fb ?_ );refine WC.mono h fun e s hq=>?_
 cases e with
  |normal=>
   obtain⟨n1,kR,mH,mI,mJ,k1,k2⟩:=hq;refine⟨n1,kR,mH,mI,mJ,k1,WC.mono k2 fun e s hq=>?_ ⟩;cases e with
    |normal=>exact hq
    |exit i=>exact hq
    |ret=>exact hq
  |exit i=>exact hq.elim
  |ret=>exact hq.elim
theorem pa.mk{e:Ex}(h:aC H b=some (.loop n tm ps ca cb .busy))(hq:Q (.d (.bool (lV e))) (aR H b (.loop n tm ps ca cb (Ez e)))):pa b e H Q:=⟨n,tm,ps,ca,cb,h,hq⟩
theorem CG.L3{K1:List Fr}{R:St->Prop}(h:pa b .ret H Q):CG P GL (.code .ret) K1 n tm H (LQ P GL [] (PS b Q) R):=WC.ret (KQ.ret h)
structure On (P:Program) (GL:bM) (b:Nat) {α X:Type} (aa:X->List V) (Hg:α->kG->an) (step:α->X->α×kG) (inv:α->List X->Prop):Prop where
 loop:∀a s,∃n tm ps ca cb,aC (Hg a s) b=some (.loop n tm ps ca cb s)
 gI:∀a x r,inv a (x::r)->WY P GL b (aa x) (Hg a .ready) (iK (.d (.bool (gL (step a x).2))) (Hg (step a x).1 (step a x).2))
 inv:∀a x r,inv a (x::r)->(step a x).2=.ready->inv (step a x).1 r
theorem On.iter{α:Type}{aa:X->List V}{Hg:α->kG->an}{step:α->X->α×kG}{inv:α->List X->Prop}(h:On P GL b aa Hg step inv):∀{xs r:List X}{a:α},inv a (xs++r)->(Fw.iter step a xs).2=.ready->inv (Fw.iter step a xs).1 r
 |[],r,a,hi,_=>hi
 |x::xs,r,a,hi,hr=>by
  have h1:=h.inv a x (xs++r) hi;simp only[Fw.iter]at hr⊢;cases hs:step a x with
   |mk a' s=>
    rw[hs]at hr h1;cases s with
     |ready=>exact h.iter (h1 rfl) hr
     |busy=>cases hr
     |done e=>cases hr
     |over=>cases hr
def Oo(s:kG):V:=.d (.bool (gL s))
def ItF(P:Program)(GL:bM)(f:FuncId)(args:List V)(b:Nat)(aa:X->List V)(xs:List X):Prop:=∀{α:Type}(Hg:α->kG->an)(step:α->X->α×kG)(inv:α->List X->Prop),On P GL b aa Hg step inv->∀a r,inv a (xs++r)->WF P GL f args (Hg a .ready) (iK (Oo (iter step a xs).2) (Hg (iter step a xs).1 (iter step a xs).2))
theorem CG.gI{d:Nat}{g:Option (Nat×Bool)}{af:List Nat}{l:List ab}{K:List Fr}{Q:Ex->St->Prop}{x:aU}{args:List aU}{vs:List V}{v:V}(h:WY P GL b vs H (iK v H'))(hb:∃n tm ps ca cb st,aC H b=some (.loop n tm ps ca cb st))(ho:l.head?=some ⟨some d,.bY x args,g,af⟩)(hg:aB g tm=some true)(hx:aT GL tm x=.gI b)(ha:bI (aT GL tm) args=vs)(hd:Nat.blt d n=true)(hq:CG P GL (.ops (l.drop 1)) K n (put tm d v) H' Q):CG P GL (.ops l) K n tm H Q:=by subst ha;refine WO.head ho (WO.JI rfl hx hb hg (h.mono ?_ ));rintro v' H2 ⟨e1,e2⟩;rw[e1,e2];refine⟨⟨n,put tm d v,H'⟩,?_,hq⟩;simp_all[bB]
theorem CG.n9{α:Type}{f:aU}{K:List Fr}{Q:Ex->St->Prop}{zX:FuncId}{first cap:List V}(uP:List (Nat×V))(xs:List X)(aa:X->List V)(Hg:α->kG->an)(step:α->X->α×kG)(a0:α)(hw:∀s,get uP s=get tm s\/get uP s=.any)(hf:aT GL tm f=.func zX first cap)(h0:aR H H.length (.loop n uP ps ca cb .ready)=Hg a0 .ready)(hit:WF P GL zX (first++[.gI H.length]++cap) (Hg a0 .ready) (fun _ H'=>H'=Hg (iter step a0 xs).1 (iter step a0 xs).2))(hl:∀a s,aC (Hg a s) H.length=some (.loop n uP ps ca cb s))(L4:∀a,iter step a0 xs=(a,.ready)->CG P GL (.out .normal) K n tm (aR (Hg a .ready) H.length (.loop n uP ps ca cb .over)) Q)(VZ:∀a,iter step a0 xs=(a,.done none)->CG P GL (.out .ret) K n tm (aR (Hg a (.done none)) H.length (.loop n uP ps ca cb .over)) Q)(xf:∀a i,iter step a0 xs=(a,.done (some i))->CG P GL (.out (.exit i)) K n tm (aR (Hg a (.done (some i))) H.length (.loop n uP ps ca cb .over)) Q)(xh:(iter step a0 xs).2≠ .busy/\(iter step a0 xs).2≠ .over):CG P GL (.code (.cZ f ps ca cb)) K n tm H Q:=by
 refine WC.cZ (σ:=⟨n,tm,H⟩) uP hw hf ?_;show WF P GL zX (first++[.gI H.length]++cap) (aR H H.length (.loop n uP ps ca cb .ready)) _;rw[h0];refine hit.mono ?_;rintro v H' rfl;cases hs:iter step a0 xs with
  |mk a s=>
   rw[hs]at xh;refine⟨n,uP,ps,ca,cb,s,hl a s,?_⟩;cases s with
    |ready=>exact L4 a hs
    |done e=>
     cases e with
      |none=>exact VZ a hs
      |some i=>exact xf a i hs
    |busy=>exact xh.1 rfl
    |over=>exact xh.2 rfl
end
end Fw
