/-
  A call that looks into a few own rows of data and leaves them, in a drawn region.
-/
import Derived.Test.YtpeomfjbcdahnaaGreatDoorFe
set_option linter.unusedSimpArgs false
set_option linter.unusedVariables false
namespace Fw
open Go
section
variable {P:Program}{GL:bM}
theorem jH.HZ{f:FuncId}{j9:List V}{H0:an}{v:V}(S:List Nat){H:an}(h:WF P GL f j9 H0 (fun r H'=>r=v/\H'=H0))(hn:S.Nodup)(hl:H0.length=S.length)(ha:aJ S.length j9=true)(T_:a6 0 H0=true)(hv:aE 0 v=true)(hb:∀i,i<S.length->∃y,aC H0 i=some y/\aC H (S.getD i 0)=some y)(EJ:∀i,i<S.length->S.getD i 0∈(fI S j9).flatMap bq):jH P GL f (fI S j9) H v:=by
 refine⟨h.1,fun H1 hH1 g w vs cX hh hg=>?_ ⟩;have zr:∀i,i<S.length->∃y,aC H0 i=some y/\aC H1 (S.getD i 0)=some y:=fun i hi=>by grind
 have x6:=@qo S;have Od:=@py S g;obtain⟨sR,Ob,hG⟩:=wq hn hl hh hg (fun i hi=>by obtain⟨y,k1,k2⟩:=zr i hi;exact⟨y,y,k1,k2,fun x hs h=>RB.agree (g:=g) (n:=0) ⟨fun b hb=>by omega,fun b hb=>by omega,fun k hk=>(hs.cl k).2 hk⟩ (e_ T_ k1) h⟩);have nf:=sR.cl;refine(h.2 (ld S g) w vs ((aN.sO sR _ _ ha).1 cX) Ob hG).mono ?_;rintro e w' ⟨x,v',E2,H',rfl,⟨rfl,rfl⟩,hx,qg,he⟩;have VG:∀i x,(ld S g).γ i=some x->E2.γ i=some x:=by
  intro i x hx;obtain⟨hd,y,hy,hr⟩:=Ob.live i x hx;obtain⟨x',lx⟩:=qg.back i y hy;obtain⟨_,y',xt,uB⟩:=qg.live i x' lx;rw[hy]at xt;simp at xt;subst xt;have hs:=he.step i hd;rw[hx,lx]at hs;rw[lx];cases x with
   |cells b c u=>
    rcases hs with rfl|⟨b',c',u',rfl,hu⟩
    ·rfl
    ·exfalso;cases y<;>simp only[RB]at hr uB;omega
   |nil=>grind[RB]
   |obj b=>exact ace some hs
 have Ph:∀k,cl E2 w' k->cl g w' k:=by
  rintro k ⟨h1,h2,h3⟩;rw[he.fo]at h2;refine⟨h1,fun hf=>h2 (Or.inl hf),fun b x hx hk=>?_ ⟩;by_cases qX:b∈S
  ·grind
  ·exact h2 (Or.inr ⟨b,x,qX,hx,hk⟩)
 have H4:nA 0 E2 g w':=⟨fun b hb=>by omega,fun b hb=>by omega,Ph⟩;have hE:bu g w g w':=by refine⟨he.os,he.tape,he.output,he.size,fun k hk=>?_,fun b hb=>hb,fun b _=>GB.step.refl _,rfl,rfl,fun k hk=>he.dw k (Or.inl hk)⟩;obtain⟨k1,k2⟩:=he.keeps k ((nf k).2 hk);grind
 refine⟨x,rfl,RV.agree H4 _ _ hv hx,hE,?_⟩;refine⟨hh.cd,fun b x hx=>?_,hh.back,hh.inj,fun k hk=>⟨aaX (hh.fo k hk).1 he.size,(hh.fo k hk).2⟩⟩;obtain⟨hd,y,hy,hr⟩:=hh.live b x hx;refine⟨hd,y,hy,?_⟩;by_cases qX:b∈S
 ·obtain⟨i,hi,rfl⟩:=x6 b qX;obtain⟨_,y2,Oe,uH⟩:=qg.live i x (VG i x (by grind));obtain⟨y0,k1,k2⟩:=zr i hi;rw[hy]at k2;simp at k2;subst k2;rw[Oe]at k1;simp at k1;subst k1;exact RB.agree H4 (e_ T_ Oe) uH
 ·exact RB.ext hE (fun k hk=>he.dw k (Or.inr ⟨b,x,qX,hx,hk⟩)) hr
end
end Fw
/-
  A quicker run for what is known whole: slots in a tree, operations told apart in small steps, what comes next handed on.
-/
namespace Fw
open Go
inductive T where
 |e
 |n (l:T) (v:V) (r:T)
 deriving Inhabited
noncomputable def eQ(t:T):Nat->V:=@T.rec (fun _=>Nat->V) (fun _=>V.any) (fun _ v _ gl gr i=>@Nat.rec (fun _=>V) v (fun j _=>@Nat.rec (fun _=>V) (gl (Nat.shiftRight j 1)) (fun _ _=>gr (Nat.shiftRight j 1)) (Nat.land j 1)) i) t
noncomputable def ma(k:Nat):T->Nat->V->T:=@Nat.rec (fun _=>T->Nat->V->T) (fun t _ _=>t) (fun _ ih t i v=>@T.rec (fun _=>T) (@Nat.rec (fun _=>T) (T.n T.e v T.e) (fun j _=>@Nat.rec (fun _=>T) (T.n (ih T.e (Nat.shiftRight j 1) v) V.any T.e) (fun _ _=>T.n T.e V.any (ih T.e (Nat.shiftRight j 1) v)) (Nat.land j 1)) i) (fun l u r _ _=>@Nat.rec (fun _=>T) (T.n l v r) (fun j _=>@Nat.rec (fun _=>T) (T.n (ih l (Nat.shiftRight j 1) v) u r) (fun _ _=>T.n l u (ih r (Nat.shiftRight j 1) v)) (Nat.land j 1)) i) t) k
theorem wu(i:Nat):eQ .e i=.any:=rfl
theorem mQ(l r:T)(v:V):eQ (.n l v r) 0=v:=rfl
theorem jL(l r:T)(v:V)(j:Nat):eQ (.n l v r) (j+1)=if j%2=0 then eQ l (j / 2)else eQ r (j / 2):=by
 have h:eQ (.n l v r) (j+1)=@Nat.rec (fun _=>V) (eQ l (Nat.shiftRight j 1)) (fun _ _=>eQ r (Nat.shiftRight j 1)) (Nat.land j 1):=rfl;have h1:Nat.shiftRight j 1=j / 2:=by simp_all[abF]
 have h2:Nat.land j 1=j%2:=abT j;rw[h,h1,h2];rcases abz j with hj|hj<;>rw[hj]<;>rfl
theorem H5(k:Nat)(v:V):ma (k+1) .e 0 v=.n .e v .e:=rfl
theorem wv(k j:Nat)(v:V):ma (k+1) .e (j+1) v=if j%2=0 then .n (ma k .e (j / 2) v) .any .e else .n .e .any (ma k .e (j / 2) v):=by
 have h:ma (k+1) .e (j+1) v=@Nat.rec (fun _=>T) (T.n (ma k T.e (Nat.shiftRight j 1) v) V.any T.e) (fun _ _=>T.n T.e V.any (ma k T.e (Nat.shiftRight j 1) v)) (Nat.land j 1):=rfl;have h1:Nat.shiftRight j 1=j / 2:=by simp_all[abF]
 have h2:Nat.land j 1=j%2:=abT j;rw[h,h1,h2];rcases abz j with hj|hj<;>rw[hj]<;>rfl
theorem H6(k:Nat)(l r:T)(u v:V):ma (k+1) (.n l u r) 0 v=.n l v r:=rfl
theorem wx(k j:Nat)(l r:T)(u v:V):ma (k+1) (.n l u r) (j+1) v=if j%2=0 then .n (ma k l (j / 2) v) u r else .n l u (ma k r (j / 2) v):=by
 have h:ma (k+1) (.n l u r) (j+1) v=@Nat.rec (fun _=>T) (T.n (ma k l (Nat.shiftRight j 1) v) u r) (fun _ _=>T.n l u (ma k r (Nat.shiftRight j 1) v)) (Nat.land j 1):=rfl;have h1:Nat.shiftRight j 1=j / 2:=by simp_all[abF]
 have h2:Nat.land j 1=j%2:=abT j;rw[h,h1,h2];rcases abz j with hj|hj<;>rw[hj]<;>rfl
theorem u1:∀(k:Nat)(t:T)(i s:Nat)(v:V),i+1<2^k->eQ (ma k t i v) s=if s=i then v else eQ t s
 |0,t,i,s,v,h=>by simp at h
 |k+1,t,i,s,v,h=>by
  have ih:=u1 k;cases t with
   |e=>
    cases i with
     |zero=>rw[H5];cases s<;>grind[mQ,jL,wu]
     |succ j=>
      rw[wv];have hj:j / 2+1<2^k:=by grind
      by_cases h2:j%2=0
      ·rw[aaF h2];cases s<;>grind[mQ,wu,jL]
      ·rw[aaH h2];cases s<;>grind[mQ,wu,jL]
   |n l u r=>
    cases i with
     |zero=>rw[H6];cases s<;>grind[mQ,jL]
     |succ j=>
      rw[wx];have hj:j / 2+1<2^k:=by grind
      by_cases h2:j%2=0
      ·rw[aaF h2];cases s<;>grind[mQ,jL]
      ·rw[aaH h2];cases s<;>grind[mQ,jL]
def fW:Nat:=4000
noncomputable def CW(t:T)(i:Nat)(v:V):T:=ma 12 t i v
theorem qp(t:T)(i s:Nat)(v:V)(h:i<fW):eQ (CW t i v) s=if s=i then v else eQ t s:=u1 12 t i s v (by grind[fW])
def ka(tm:List (Nat×V))(t:T):Prop:=∀s,get tm s=eQ t s
theorem ka.put{tm:List (Nat×V)}{t:T}(h:ka tm t){i:Nat}{v:V}(hi:i<fW):ka (put tm i v) (CW t i v):=fun s=>by rw[fB,qp _ _ _ _ hi,h s]
theorem ka.nil:ka [] .e:=fun _=>rfl
noncomputable def nD:Nat->List V->T->T|_,[],t=>t|n,v::vs,t=>nD (n+1) vs (CW t n v)
theorem u3:∀(vs:List V)(n:Nat)(t:T)(s:Nat),n+vs.length<=fW->eQ (nD n vs t) s=if n<=s/\s<n+vs.length then(vs[s - n]? ).getD .any else eQ t s
 |[],n,t,s,_=>by grind[nD]
 |v::vs,n,t,s,h=>by simp at h;rw[nD,u3 vs (n+1) _ s (by omega),qp _ _ _ _ (by omega)];grind
theorem ka.args(vs:List V)(h:vs.length<=fW):ka (ry 0 vs) (nD 0 vs .e):=fun s=>by rw[xG,u3 _ _ _ _ (by omega)];simp_all[Nat.not_lt_zero,aaP,true_and,aaK,acn,wu]
def aI:Int->Int->Bool| .ofNat a,.ofNat b=>Nat.blt a b| .ofNat _,.negSucc _=>false| .negSucc _,.ofNat _=>true| .negSucc a,.negSucc b=>Nat.blt b a
def aP:Int->Int->Bool| .ofNat a,.ofNat b=>Nat.beq a b| .negSucc a,.negSucc b=>Nat.beq a b|_,_=>false
def bJ:Int->Int->Int| .ofNat a,.ofNat b=>.ofNat (Nat.add a b)|a,b=>a+b
def aW(k:IntKind)(n:Int):Int:=match k with
 | .i64=>
  match n with
   | .ofNat m=>bif Nat.blt m 9223372036854775808 then .ofNat m else IntKind.i64.wrap n
   | .negSucc m=>bif Nat.blt m 9223372036854775808 then .negSucc m else IntKind.i64.wrap n
 |k=>k.wrap n
theorem dI(a b:Int):aI a b=decide (a<b):=by cases a<;>cases b<;>simp only[aI,Pe]<;>(grind)
theorem dd(a b:Int):aP a b=(a==b):=by cases a<;>cases b<;>simp only[aP,LG]<;>(grind)
theorem BB(a b:Int):bJ a b=a+b:=by cases a<;>cases b<;>simp[bJ]
theorem sS(k:IntKind)(n:Int):aW k n=k.wrap n:=by
 have aak:∀(b:Bool)(x y z:Int),(b=true->x=z)->y=z->(bif b then x else y)=z:=fun b x y z h1 h2=>by grind
 unfold aW;split
 ·split;all_goals grind[Pe,IntKind.wrap_i64,Int.ofNat_eq_natCast,Int.negSucc_eq]
 ·rfl
def E4(op:BinOp)(k:IntKind)(a b:Int):Option D:=match op with
 | .add=>some (.int k (aW k (bJ a b)))
 | .sub=>some (.int k (aW k (a - b)))
 | .eql=>some (.bool (aP a b))
 | .neq=>some (.bool (!aP a b))
 | .lss=>some (.bool (aI a b))
 | .leq=>some (.bool (!aI b a))
 | .gtr=>some (.bool (aI b a))
 | .geq=>some (.bool (!aI a b))
 |op=>vI op k a b
theorem E5(op:BinOp)(k:IntKind)(a b:Int):E4 op k a b=vI op k a b:=by
 have hn:∀(x y:Int),(!decide (x<y))=decide (y<=x):=fun x y=>by grind
 cases op<;>simp only[E4,vI,sS,BB,dd,dI,hn,bne]<;>rfl
def Po:IntKind->Nat| .i8=>0| .i16=>1| .i32=>2| .i64=>3| .u8=>4| .u16=>5| .u32=>6| .u64=>7
def H7(k k':IntKind):Bool:=Nat.beq (Po k) (Po k')
theorem sT{k k':IntKind}:H7 k k'=true↔k=k':=by cases k<;>cases k'<;>decide
def x7(op:BinOp):V->V->Option (V×Wr)
 | .d (.int k a),.d (.int k' b)=>bif H7 k k' then(match E4 op k a b with|some x=>some (.d x,none)|none=>none)else none
 | .d (.str a),.d (.str b)=>match zD op a b with|some x=>some (.d x,none)|none=>none
 | .d (.str a),.d (.sN m)=>match oS op a.length m with|some x=>some (.d x,none)|none=>none
 | .d (.sN n),.d (.str b)=>match oS op n b.length with|some x=>some (.d x,none)|none=>none
 | .d (.sN n),.d (.sN m)=>match oS op n m with|some x=>some (.d x,none)|none=>none
 |_,_=>none
theorem E6(op:BinOp)(x y:V):x7 op x y=(lL op x y).map fun v=>(v,none):=by
 unfold x7;split
 ·rename_i k a k' b;simp only[lL,E5];cases h:H7 k k' with
   |true=>have:=sT.1 h;grind
   |false=>
    have:¬k=k':=fun e=>by rw[sT.2 e]at h;cases h
    grind
 all_goals grind[lL]
def BC(H:an)(n:Nat)(agg:Bool)(a:V):Option (V×Wr):=match jw H n a with
 |some cs=>match A7 agg cs with|some v=>some (v,none)|none=>none
 |none=>none
def wy(H:an)(n:Nat)(a x:V):Option (V×Wr):=match eg H n a x with
 |some p=>some (.any,some p)
 |none=>none
def Pp(c a b:V):Option (V×Wr):=match c with
 | .d (.bool t)=>some (bif t then a else b,none)
 |_=>none
def VH(ns n:Nat)(x:V):Option (V×Wr):=bif Nat.beq (bU x).length n&&(bU x).all eL then some (.ptr ns n 0,some (ns,.cells (bU x)))else none
def E7(ρ:aU->V)(z:List V)(ps:List (Nat×Nat×aU)):Option (V×Wr):=match fg ρ z ps with
 |some cs=>some (.agg cs,none)
 |none=>none
def LL(x:V):Option (V×Wr):=match x with
 | .ptr b h off=>some (.ptr b h off,none)
 | .aO cs=>some (.aO cs,none)
 | .func f a b=>some (.func f a b,none)
 |_=>none
def Ua(H:an)(neg:Bool)(k:qd)(x y:V):Option (V×Wr):=match Hj H k x y with
 |some b=>some (.d (.bool (bif neg then !b else b)),none)
 |none=>none
def H8(off n:Nat)(agg:Bool)(x:V):Option (V×Wr):=match x with
 | .agg cs=>bif Nat.ble (off+n) cs.length then(match A7 agg ((cs.drop off).take n)with|some v=>some (v,none)|none=>none)else none
 |_=>none
def Ak(off n:Nat)(x:V):Option (V×Wr):=match x with
 | .ptr b h o=>some (.ptr b h (o+off),none)
 | .aO cs=>some (.aO ((cs.drop off).take n),none)
 |_=>none
def Al(H:an)(sz:Nat)(x i:V):Option (V×Wr):=match cN i with
 |none=>none
 |some j=>
  match x with
   | .d (.list es)=>
    (match es[j]? with
     |some e=>bif Nat.beq e.length sz then some (.aO e,none)else none
     |none=>none)
   | .sl b h off len uA=>bif Nat.beq sz uA&&Nat.blt j len&&eI H b h then some (.ptr b h (off+j*sz),none)else none
   |_=>none
def E8(x i:V):Option (V×Wr):=match cN i with
 |none=>none
 |some j=>
  match x with
   | .d (.str s)=>
    (match s[j]? with
     |some b=>some (.d (.int .u8 b.toNat),none)
     |none=>none)
   |_=>none
def H9(x:V)(i:Nat):Option (V×Wr):=match x with
 | .tuple vs=>(match vs[i]? with|some v=>some (v,none)|none=>none)
 |_=>none
def H_(H:an)(k:kD)(x:V):Option (V×Wr):=match jN H k x with
 |some n=>some (.d (.int .i64 (Int.ofNat n)),none)
 |none=>none
def Ia(H:an)(ns sz bytes:Nat)(x y:V):Option (V×Wr):=match bO H sz y with
 |some xs=>dG H ns sz bytes x xs
 |none=>none
def Ub(op:UnOp)(x:V):Option (V×Wr):=match TW op x with|some v=>some (v,none)|none=>none
def Ib(ρ:aU->V)(H:an)(ns:Nat):jv->Option (V×Wr)| .mv x=>some (ρ x,none)| .pick c a b=>Pp (ρ c) (ρ a) (ρ b)| .alloc z=>some (.ptr ns z.length 0,some (ns,.cells z))| .box n x=>VH ns n (ρ x)| .build z ps=>E7 ρ z ps| .load n agg a=>BC H n agg (ρ a)| .store n a x=>wy H n (ρ a) (ρ x)| .kE x=>LL (ρ x)| .bin op x y=>x7 op (ρ x) (ρ y)| .eq neg k x y=>Ua H neg k (ρ x) (ρ y)| .un op x=>Ub op (ρ x)| .iO f a b=>some (.func f (bI ρ a) (bI ρ b),none)| .N1 off n agg x=>H8 off n agg (ρ x)| .dm off n x=>Ak off n (ρ x)| .bj sz x i=>Al H sz (ρ x) (ρ i)| .iB x i=>E8 (ρ x) (ρ i)| .ext x i=>H9 (ρ x) i| .len .slice x=>H_ H .slice (ρ x)| .len .str x=>H_ H .str (ρ x)| .append sz bytes x y=>Ia H ns sz bytes (ρ x) (ρ y)|op=>bt ρ H ns op
theorem BD(ρ:aU->V)(H:an)(ns:Nat)(op:jv):Ib ρ H ns op=bt ρ H ns op:=by
 unfold Ib;split
 ·rfl
 ·rfl
 ·rfl
 ·rfl
 ·grind[E7,bt]
 ·grind[BC,bt]
 ·grind[wy,bt]
 ·rfl
 ·grind[E6,bt]
 ·grind[Ua,bt]
 ·grind[Ub,bt]
 ·rfl
 ·rename_i off n agg x;simp only[H8,bt];grind
 ·rfl
 ·rfl
 ·rfl
 ·grind[H9,bt]
 ·grind[H_,bt]
 ·grind[H_,bt]
 ·rfl
 ·rfl
end Fw
/-
  Calls in drawn regions that may look into own rows of data: run beside these alone.
-/
namespace Fw
open Go
abbrev gy:=FuncId->List V->an->Option V
def mR(P:Program)(GL:bM)(dc:gy):Prop:=∀f args H v,dc f args H=some v->jH P GL f args H v
mutual
def ug:D->D->Bool| .bool a,.bool b=>a==b| .int k a,.int k' b=>H7 k k'&&aP a b| .str a,.str b=>ah a b| .list a,.list b=>CX a b|_,_=>false
def CX:List (List D)->List (List D)->Bool|[],[]=>true|a::x,b::y=>CY a b&&CX x y|_,_=>false
def CY:List D->List D->Bool|[],[]=>true|a::x,b::y=>ug a b&&CY x y|_,_=>false
end
theorem nF:∀{x y:List UInt8},ah x y=true->x=y
 |[],[],_=>rfl
 |[],_::_,h=>by simp[ah]at h
 |_::_,[],h=>by simp[ah]at h
 |a::x,b::y,h=>by
  simp only[ah]at h;cases hb:Nat.beq a.toNat b.toNat with
   |false=>grind
   |true=>rw[hb]at h;rw[nF h,ab8.1 (aau hb)]
mutual
theorem pz:∀{x y:D},ug x y=true->x=y
 | .bool a,y,h=>by cases y<;>simp[ug]at h;rw[h]
 | .int k a,y,h=>by cases y<;>simp[ug]at h;rename_i k' b;rw[sT.1 h.1];grind[dd]
 | .str a,y,h=>by cases y<;>simp[ug]at h;rw[nF h]
 | .list a,y,h=>by cases y<;>simp[ug]at h;rw[BE h]
 | .sN n,y,h=>by cases y<;>simp[ug]at h
theorem BE:∀{x y:List (List D)},CX x y=true->x=y
 |[],[],_=>rfl
 |[],_::_,h=>by simp[CX]at h
 |_::_,[],h=>by simp[CX]at h
 |a::x,b::y,h=>by simp only[CX,aas]at h;rw[BF h.1,BE h.2]
theorem BF:∀{x y:List D},CY x y=true->x=y
 |[],[],_=>rfl
 |[],_::_,h=>by simp[CY]at h
 |_::_,[],h=>by simp[CY]at h
 |a::x,b::y,h=>by simp only[CY,aas]at h;rw[pz h.1,BF h.2]
end
def bn:List V->List V->Bool|[],[]=>true| .d a::x,.d b::y=>ug a b&&bn x y| .ak::x,.ak::y=>bn x y|_,_=>false
theorem dJ:∀{x y:List V},bn x y=true->x=y
 |[],[],_=>rfl
 |[],_::_,h=>by simp[bn]at h
 | .d a::x,.d b::y,h=>by simp only[bn,aas]at h;rw[pz h.1,dJ h.2]
 | .ak::x,.ak::y,h=>by simp only[bn]at h;rw[dJ h]
 |a::x,[],h=>by grind[bn]
 | .any::_,_::_,h=>by simp[bn]at h
 | .full _::_,_::_,h=>by simp[bn]at h
 | .d _::_,b::_,h=>by cases b<;>simp[bn]at h;rw[pz h.1,dJ h.2]
 | .ak::_,b::_,h=>by cases b<;>simp[bn]at h;rw[dJ h]
 | .ptr _ _ _::_,_::_,h=>by simp[bn]at h
 | .lD::_,_::_,h=>by simp[bn]at h
 | .aO _::_,_::_,h=>by simp[bn]at h
 | .sl _ _ _ _ _::_,_::_,h=>by simp[bn]at h
 | .map _::_,_::_,h=>by simp[bn]at h
 | .kC::_,_::_,h=>by simp[bn]at h
 | .func _ _ _::_,_::_,h=>by simp[bn]at h
 | .oK::_,_::_,h=>by simp[bn]at h
 | .iface _ _::_,_::_,h=>by simp[bn]at h
 | .bz::_,_::_,h=>by simp[bn]at h
 | .fy::_,_::_,h=>by simp[bn]at h
 | .agg _::_,_::_,h=>by simp[bn]at h
 | .tuple _::_,_::_,h=>by simp[bn]at h
 | .iter _ _::_,_::_,h=>by simp[bn]at h
 | .gI _::_,_::_,h=>by simp[bn]at h
def E9:V->V->Bool| .d a,.d b=>ug a b| .ak,.ak=>true| .agg a,.agg b=>bn a b|_,_=>false
theorem E'{x y:V}(h:E9 x y=true):x=y:=by
 unfold E9 at h;split at h
 ·rw[pz h]
 ·rfl
 ·rw[dJ h]
 ·cases h
def u4:List (D×V)->List (D×V)->Bool|[],[]=>true|(k,v)::x,(l,w)::y=>ug k l&&E9 v w&&u4 x y|_,_=>false
theorem x8:∀{x y:List (D×V)},u4 x y=true->x=y
 |[],[],_=>rfl
 |(k,v)::x,(l,w)::y,h=>by simp only[u4,aas]at h;rw[pz h.1.1,E' h.1.2,x8 h.2]
 |[],_::_,h=>by simp[u4]at h
 |_::_,[],h=>by simp[u4]at h
def fL:an->an->Bool|[],[]=>true|some (.map a)::x,some (.map b)::y=>u4 a b&&fL x y|some (.cells a)::x,some (.cells b)::y=>bn a b&&fL x y|some .nil::x,some .nil::y=>fL x y|_,_=>false
theorem lf:∀{x y:an},fL x y=true->x=y
 |[],[],_=>rfl
 |[],_::_,h=>by simp[fL]at h
 |a::x,[],h=>by grind[fL]
 |a::x,b::y,h=>by
  rcases a with _|a
  ·simp[fL]at h
  ·rcases b with _|b
   ·grind[fL]
   ·cases a<;>cases b<;>simp[fL]at h
    ·rw[dJ h.1,lf h.2]
    ·rw[lf h]
    ·rw[x8 h.1,lf h.2]
def x9:List V->Bool|[]=>true| .d _::l=>x9 l| .ak::l=>x9 l|_=>false
theorem x_(S:List Nat):∀{l:List V},x9 l=true->fI S l=l|[],_=>rfl|v::l,h=>by cases v<;>simp[x9]at h<;>simp[fI,db,x_ S h]
theorem BG(n:Nat):∀{l:List V},x9 l=true->aJ n l=true|[],_=>rfl|v::l,h=>by cases v<;>simp[x9]at h<;>simp[aJ,aE,BG n h]
def uh(S:List Nat):V->Option V
 | .sl b h off len sz=>
  match S.idxOf? b with
   |some i=>some (.sl i h off len sz)
   |none=>none
 | .ptr b h off=>
  match S.idxOf? b with
   |some i=>some (.ptr i h off)
   |none=>none
 | .map b=>
  match S.idxOf? b with
   |some i=>some (.map i)
   |none=>none
 | .d x=>some (.d x)
 | .ak=>some .ak
 | .agg cs=>bif x9 cs then some (.agg cs)else none
 |_=>none
theorem Ic{S:List Nat}{u u0:V}(h:uh S u=some u0):db S u0=u/\aE S.length u0=true:=by
 cases u with
  |sl b hh off len sz=>
   simp only[uh]at h;split at h
   ·rename_i i hi;simp at h;subst h;obtain⟨k1,k2⟩:=jb hi;grind[db,aE,Nat.blt_eq]
   ·cases h
  |ptr b hh off=>
   simp only[uh]at h;split at h
   ·rename_i i hi;simp at h;subst h;obtain⟨k1,k2⟩:=jb hi;grind[db,aE,Nat.blt_eq]
   ·cases h
  |map b=>
   simp only[uh]at h;split at h
   ·rename_i i hi;simp at h;subst h;obtain⟨k1,k2⟩:=jb hi;grind[db,aE,Nat.blt_eq]
   ·cases h
  |d x=>simp only[uh]at h;cases h;exact⟨rfl,rfl⟩
  |ak=>simp only[uh]at h;cases h;exact⟨rfl,rfl⟩
  |agg cs=>
   simp only[uh]at h;cases hc:x9 cs with
    |false=>grind
    |true=>rw[hc]at h;simp at h;subst h;exact⟨by simp[db,x_ S hc],by simp[aE,BG _ hc]⟩
  |_=>simp only[uh]at h;cases h
theorem ya{S:List Nat}:∀{l l0:List V},bS (uh S) l=some l0->fI S l0=l/\aJ S.length l0=true
 |[],l0,h=>by simp only[bS,aar]at h;subst h;exact⟨rfl,rfl⟩
 |u::l,l0,h=>by
  simp only[bS]at h;split at h
  ·cases h
  ·rename_i u0 hu;split at h
   ·cases h
   ·rename_i l1 hl;simp at h;subst h;obtain⟨k1,k2⟩:=Ic hu;obtain⟨k3,k4⟩:=ya hl;grind[fI,aJ]
section
variable {P:Program}{GL:bM}
def mS(aH:ba)(call:aY):gy:=fun f args H=>
 match aH f args with
  |some v=>some v
  |none=>
   bif decide ((args.flatMap bq).Nodup)then
    match bS (uh (args.flatMap bq)) args,bS (aC H) (args.flatMap bq)with
     |some j9,some bs=>
      bif a6 0 (bs.map some)then
       match pw call f j9 (bs.map some)with
        |some (v,H0)=>bif aE 0 v&&fL H0 (bs.map some)then some v else none
        |none=>none else none
     |_,_=>none
   else none
theorem n8{aH:ba}{call:aY}(hp:bG P GL aH)(hc:ct P GL call):mR P GL (mS aH call):=by
 intro f args H v h;unfold mS at h;split at h
 ·rename_i u hu;simp at h;subst h;exact(hp _ _ _ hu).uT
 ·cases hn:decide ((args.flatMap bq).Nodup)with
   |false=>grind
   |true=>
    rw[hn,aaw]at h;split at h
    ·rename_i j9 bs h1 h2;cases hl:a6 0 (bs.map some)with
      |false=>grind
      |true=>
       rw[hl,aaw]at h;split at h
       ·rename_i u H0 bZ;cases he:(aE 0 u&&fL H0 (bs.map some))with
         |false=>grind
         |true=>
          rw[he,aaw,aar]at h;subst h;rw[aas]at he;have hH:=lf he.2;obtain⟨k1,k2⟩:=ya h1;have hlen:=bQ h2;have hw:=hc.g _ _ _ _ _ bZ;rw[hH]at hw;have:=jH.HZ (v:=u) (args.flatMap bq) (H:=H) hw (by grind) (by grind) k2 hl he.1 (fun i hi=>by
           have qi:(args.flatMap bq)[i]? =some ((args.flatMap bq).getD i 0):=by grind
           obtain⟨y,h3,h4⟩:=gU i _ h2 qi;refine⟨y,?_,h4⟩;have:∀(l:List bR)(i:Nat)(y:bR),l[i]? =some y->aC (l.map some) i=some y:=by
            intro l;induction l with
             |nil=>grind
             |cons a l ih=>intro i y h;cases i<;>grind[aC]
           grind) (fun i hi=>by grind)
          grind
       ·cases h
    ·cases h
end
end Fw
/-
  The quicker run: operations, drawn regions, code, calls; and that the model does the same.
-/
namespace Fw
open Go
abbrev XR:=V×an
abbrev KN:=T->an->Option XR
noncomputable def gz(GL:bM)(t:T)(x:aU):V:=match x with
 | .t n=>eQ t n
 | .c v=>v
 | .g n=>(match GL.rd n with|some cs=>.aO cs|none=>.any)
 | .f f=>.func f [] []
theorem mT{GL:bM}{tm:List (Nat×V)}{t:T}(h:ka tm t):gz GL t=aT GL tm:=funext fun x=>by
 cases x with
  |t n=>simp[gz,aT,h _]
  |c v=>rfl
  |g n=>grind[gz,aT]
  |f f=>rfl
noncomputable def CZ(n:Nat)(dst:Option Nat)(v:V)(t:T)(H:an)(k:KN):Option XR:=match dst with
 |none=>k t H
 |some d=>bif Nat.blt d n then k (CW t d v) H else none
noncomputable def qq(gd:Option (Nat×Bool))(t:T)(skip go:Option XR):Option XR:=match gd with
 |none=>go
 |some (d,nR)=>
  match eQ t d with
   | .d (.bool b)=>bif b then(bif nR then go else skip)else(bif nR then skip else go)
   | .tuple []=>skip
   |_=>none
def yc(v:V)(H:an):Option (V×an):=match v with
 | .iter b _=>
  match aC H b with
   |some (.bH m n seen)=>
    match aC H m with
     |some (.map es)=>
      match es,n,seen with
       |[],0,_=>some (.tuple [.d (.bool false)],H)
       |[(k,v)],1,[]=>some (.tuple [.d (.bool true),.d k,v],aR H b (.bH m 1 [0]))
       |[_],1,[0]=>some (.tuple [.d (.bool false)],H)
       |_,_,_=>none
     |_=>none
   |_=>none
 |_=>none
noncomputable def Pq(own:List Nat)(GL:bM)(call:aY)(dst:Option Nat)(op:jv)(t:T)(H:an)(k:V->an->Option XR):Option XR:=match op with
 | .call f args=>(match pw call f (bI (gz GL t) args) H with|some (v,H')=>k v H'|none=>none)
 | .bY x args=>
  (match gz GL t x with
   | .func f first cap=>(match pw call f (first++bI (gz GL t) args++cap) H with|some (v,H')=>k v H'|none=>none)
   | .gI b=>(match call j8 (.gI b::bI (gz GL t) args) H with|some (v,H')=>k v H'|none=>none)
   |_=>none)
 | .mkSlice sz len z ps=>
  (match(bif zu dst own then none else jQ (gz GL t) (.mkSlice sz len z ps))with
   |some v=>k v H
   |none=>(match bt (gz GL t) H H.length (.mkSlice sz len z ps)with|some (v,wr)=>k v (bp H wr)|none=>none))
 | .fX x=>(match yc (gz GL t x) H with|some (v,H')=>k v H'|none=>none)
 |op=>(match Ib (gz GL t) H H.length op with|some (v,wr)=>k v (bp H wr)|none=>none)
noncomputable def pA(own:List Nat)(GL:bM)(call:aY)(n:Nat)(o:ab)(t:T)(H:an)(k:KN):Option XR:=match o with|⟨dst,op,gd,_⟩=>qq gd t (CZ n dst (.tuple []) t H k) (Pq own GL call dst op t H (fun v H'=>CZ n dst v t H' k))
noncomputable def pB(own:List Nat)(GL:bM)(call:aY)(n:Nat)(l:List ab):T->an->KN->Option XR:=@List.rec ab (fun _=>T->an->KN->Option XR) (fun t H k=>k t H) (fun o _ ih t H k=>pA own GL call n o t H (fun t' H'=>ih t' H' k)) l
section
variable {P:Program}{GL:bM}
variable {tm:List (Nat×V)}{n:Nat}{dst:Option Nat}{t:T}{H:an}{gd:Option (Nat×Bool)}
theorem rU(hn:n<=fW){v:V}{k:KN}{x:XR}(hs:ka tm t)(h:CZ n dst v t H k=some x):∃a7 t',ka a7 t'/\k t' H=some x/\∀H0,St.put ⟨n,tm,H0⟩ dst v H=some ⟨n,a7,H⟩:=by
 unfold CZ at h;split at h
 ·exact⟨tm,t,hs,h,fun _=>rfl⟩
 ·rename_i d;cases hb:Nat.blt d n with
   |false=>grind
   |true=>
    rw[hb]at h;have hd:d<n:=by simp_all
    exact⟨_,_,hs.put (by omega),h,fun H0=>by simp[St.put,hb]⟩
theorem u5{skip go:Option XR}{x:XR}(hs:ka tm t)(h:qq gd t skip go=some x):(aB gd tm=some true/\go=some x)\/(aB gd tm=some false/\skip=some x):=by
 unfold qq at h;unfold aB;split at h
 ·grind
 ·rename_i d nR;simp only[hs d];grind
theorem WO.yc{x:aU}{af:List Nat}{H':an}{v:V}(hg:aB gd tm=some true)(h:Fw.yc (aT GL tm x) H=some (v,H')):∀l aS Q,St.put ⟨n,tm,H⟩ dst v H'=some aS->WO P GL l aS Q->WO P GL (⟨dst,.fX x,gd,af⟩::l) ⟨n,tm,H⟩ Q:=by
 intro l aS Q hp hw;unfold Fw.yc at h;split at h
 ·rename_i b m0 hx;split at h
  ·rename_i m n' seen hb;split at h
   ·rename_i es hm;split at h
    ·simp at h;obtain⟨rfl,rfl⟩:=h;exact WO.fX rfl hg hx hb hm rfl (fun i k v hi _=>by simp at hi) (fun _=>⟨aS,hp,hw⟩)
    ·simp at h;obtain⟨rfl,rfl⟩:=h;refine WO.fX rfl hg hx hb hm rfl (fun i k v hi _=>?_ ) (fun hs=>by grind);grind
    ·simp at h;obtain⟨rfl,rfl⟩:=h;refine WO.fX rfl hg hx hb hm rfl (fun i k v hi hs=>?_ ) (fun _=>⟨aS,hp,hw⟩);grind
    ·cases h
   ·cases h
  ·cases h
 ·cases h
theorem E_{own:List Nat}{call:aY}(hc:ct P GL call){op:jv}{af:List Nat}{k:V->an->Option XR}{x:XR}(hs:ka tm t)(hg:aB gd tm=some true)(h:Pq own GL call dst op t H k=some x):∃v H',k v H'=some x/\∀l aS Q,St.put ⟨n,tm,H⟩ dst v H'=some aS->WO P GL l aS Q->WO P GL (⟨dst,op,gd,af⟩::l) ⟨n,tm,H⟩ Q:=by
 unfold Pq at h;rw[mT hs]at h;split at h
 ·rename_i f args;split at h
  ·rename_i v H' bZ;refine⟨v,H',h,fun l aS Q hp hw=>WO.call rfl hg ((hc.g _ _ _ _ _ bZ).mono ?_ )⟩;grind
  ·cases h
 ·rename_i y args;split at h
  ·rename_i f first cap hx
   split at h
   ·rename_i v H' bZ;refine⟨v,H',h,fun l aS Q hp hw=>WO.bY rfl hx hg ((hc.g _ _ _ _ _ bZ).mono ?_ )⟩;grind
   ·cases h
  ·rename_i b hx;split at h
   ·rename_i v H' bZ;obtain⟨b',as,e,hb,hy⟩:=hc.yl _ _ _ _ bZ;simp only[acm,V.gI.injEq]at e;obtain⟨rfl,rfl⟩:=e;refine⟨v,H',h,fun l aS Q hp hw=>WO.JI rfl hx hb hg (hy.mono ?_ )⟩;rintro r h' ⟨rfl,rfl⟩;exact⟨aS,hp,hw⟩
   ·cases h
  ·cases h
 ·rename_i sz len z ps;split at h
  ·rename_i v hv;refine⟨v,H,h,fun l aS Q hp hw=>WO.jQ hg ?_ hp hw⟩;grind
  ·split at h
   ·rename_i v wr he;exact⟨v,_,h,fun l aS Q hp hw=>WO.bt hg he hp hw⟩
   ·cases h
 ·split at h
  ·rename_i v H' hv;exact⟨v,H',h,WO.yc hg hv⟩
  ·cases h
 ·split at h
  ·rename_i v wr he;rw[BD]at he;exact⟨v,_,h,fun l aS Q hp hw=>WO.bt hg he hp hw⟩
  ·cases h
theorem kb{own:List Nat}{call:aY}(hc:ct P GL call){n:Nat}(hn:n<=fW):∀{l:List ab}{t:T}{H:an}{k:KN}{x:XR}{tm:List (Nat×V)},ka tm t->pB own GL call n l t H k=some x->∃a7 t' H',ka a7 t'/\WO P GL l ⟨n,tm,H⟩ (fun s=>s=⟨n,a7,H'⟩)/\k t' H'=some x
 |[],t,H,k,x,tm,hs,h=>⟨tm,t,H,hs,WO.nil rfl,h⟩
 |o::l,t,H,k,x,tm,hs,h=>by
  have h:pA own GL call n o t H (fun t' H'=>pB own GL call n l t' H' k)=some x:=h;obtain⟨dst,op,gd,af⟩:=o;simp only[pA]at h;rcases u5 hs h with⟨hg,h⟩|⟨hg,h⟩
  ·obtain⟨v,H',h1,h2⟩:=E_ (n:=n) (af:=af) hc hs hg h;obtain⟨a7,t',jq,h3,h4⟩:=rU hn hs h1;obtain⟨eT,t2,H2,BH,hw,hk⟩:=kb hc hn jq h3;grind
  ·obtain⟨a7,t',jq,h3,h4⟩:=rU hn hs h;obtain⟨eT,t2,H2,BH,hw,hk⟩:=kb hc hn jq h3;exact⟨eT,t2,H2,BH,WO.skip hg (h4 H) hw,hk⟩
end
def look{α:Type}:List (Nat×α)->Nat->Option α|[],_=>none|(k,a)::l,i=>bif Nat.beq k i then some a else look l i
def LM(b':Option Bool)(v:V):V×List (Bool×Bool):=match b',v with
 |some b',.d (.bool b)=>(.d (.bool b'),[(b,b')])
 |_,v=>(v,[])
abbrev lz:=List (FuncId×List V×V)
def nG(own:List Nat)(GL:bM)(dc:gy)(ov:List (Nat×Bool))(sp:List (Nat×V))(base:Nat):Nat->List ab->St->Option (List (((V×Wr)×List Nat)×Option V)×List (Bool×Bool)×lz)
 |_,[],_=>some ([],[],[])
 |i,o::l,σ=>
  let cv:Option V:=match cx (aT GL σ.tm) o.op with
   |some (f,args)=>(match look sp i with|some v=>some v|none=>dc f args σ.hp)
   |none=>bif zu o.dst own then none else jQ (aT GL σ.tm) o.op
  match ig GL σ.tm σ.hp (base+i) o cv with
   |none=>none
   |some r=>
    match nG own GL dc ov sp base (i+1) l (σ.gq o.dst (LM (look ov i) r.1).1 (bp σ.hp r.2))with
     |none=>none
     |some (rs,cs,calls)=>some (((((LM (look ov i) r.1).1,r.2),mK (aT GL σ.tm) o.op),cv)::rs,(LM (look ov i) r.1).2++cs,(match cx (aT GL σ.tm) o.op,look sp i with|some (f,args),some v=>[(f,args,v)]|_,_=>[])++calls)
def lA:List (Bool×Bool)->Prop|[]=>True|(a,b)::l=>a=b/\lA l
def nH(P:Program)(GL:bM):lz->Prop|[]=>True|(f,args,v)::l=>PC P GL f args v/\nH P GL l
theorem qt:∀{a b:List (Bool×Bool)},lA (a++b)->lA a/\lA b|[],_,h=>⟨trivial,h⟩|(x,y)::a,b,h=>⟨⟨h.1,(qt h.2).1⟩,(qt h.2).2⟩
section
variable {P:Program}{GL:bM}
variable {l:List ab}
theorem qu:∀{a b:lz},nH P GL (a++b)->nH P GL a/\nH P GL b|[],_,h=>⟨trivial,h⟩|(x,y,z)::a,b,h=>⟨⟨h.1,(qu h.2).1⟩,(qu h.2).2⟩
theorem LN{b:Option Bool}{v:V}(h:lA (LM b v).2):(LM b v).1=v:=by unfold LM at h⊢;grind[lA]
theorem yd{own:List Nat}{dc:gy}(hd:mR P GL dc){ov:List (Nat×Bool)}{sp:List (Nat×V)}{base:Nat}:∀{l:List ab}{i:Nat}{σ:St}{qs:List (((V×Wr)×List Nat)×Option V)}{cs:List (Bool×Bool)}{calls:lz},nG own GL dc ov sp base i l σ=some (qs,cs,calls)->lA cs->nH P GL calls->∀qc:Nat->Option CV,(∀j q,qs[j]? =some q->qc (i+j)=q.2.map .v)->nT GL base qc i l σ=some (qs.map (·.1))/\qs.length=l.length/\∀k o q,l[k]? =some o->qs[k]? =some q->∀f args,cx (aT GL (aL (fun j=>decide (j<i+k)) i l (qs.map (·.1)) σ).tm) o.op=some (f,args)->aB o.guard (aL (fun j=>decide (j<i+k)) i l (qs.map (·.1)) σ).tm=some true->∀ns,iv P GL f args (aL (fun j=>decide (j<i+k)) i l (qs.map (·.1)) σ).hp ns q.1.1
 |[],i,σ,qs,cs,calls,h,_,_,qc,hq=>by simp only[nG,aar,aav]at h;obtain⟨rfl,rfl,rfl⟩:=h;exact⟨rfl,rfl,by simp⟩
 |o::l,i,σ,qs,cs,calls,h,nS,ky,qc,hq=>by
  simp only[nG]at h;split at h
  ·cases h
  ·rename_i r hr;split at h
   ·cases h
   ·rename_i rs sf LO JL;simp at h;obtain⟨rfl,rfl,rfl⟩:=h;obtain⟨VI,HM⟩:=qt nS;obtain⟨N7,HS⟩:=qu ky;have hv:=LN VI;rw[hv]at JL hq⊢;have h0:=hq 0 _ rfl;simp at h0;obtain⟨k1,k2,k3⟩:=yd hd JL HM HS qc (fun j q hj=>by have:=hq (j+1) q (by grind);grind);have Zq:(r.1,r.2)=r:=rfl;refine⟨?_,by simp[k2],fun k o' q nV HX f args bZ hg=>?_ ⟩
    ·simp only[nT,h0,z7,hr,k1,aaB]
    ·cases k with
      |zero=>
       simp at nV HX;subst nV;subst HX;rw[iY (fun j hj=>aaN (by omega))]at bZ hg⊢;simp only[bZ]at hr N7;unfold ig at hr;rw[hg]at hr;simp only[bZ]at hr;cases hs:look sp i with
        |some v=>rw[hs]at hr N7;simp at hr;rw[←hr];exact fun ns=>(N7.1).uT.Lr ns
        |none=>
         rw[hs]at hr;simp only at hr;cases hp:dc f args σ.hp with
          |none=>grind
          |some v=>rw[hp]at hr;simp at hr;rw[←hr];exact fun ns=>(hd _ _ _ _ hp).Lr ns
      |succ k=>
       simp at nV HX;have e:i+(k+1)=i+1+k:=by omega
       have Bh:aL (fun j=>decide (j<i+(k+1))) i (o::l) (((r.1,r.2),mK (aT GL σ.tm) o.op)::rs.map (·.1)) σ=aL (fun j=>decide (j<i+1+k)) (i+1) l (rs.map (·.1)) (σ.gq o.dst r.1 (bp σ.hp r.2)):=by simp only[aL,e,show decide (i<i+1+k)=true by simp;omega,aaw]
       grind
theorem WO.mono{σ:St}{Q Q':St->Prop}(h:WO P GL l σ Q)(hq:∀s,Q s->Q' s):WO P GL l σ Q':=by intro ro ops k h1 g w a hr;exact cF (fun e a w hp=>cE.mono (fun e s HX=>by grind) e a w hp) _ _ _ (h ro ops k h1 g w a hr)
theorem DP.JO{own:List Nat}{dc:gy}(hd:mR P GL dc){ov:List (Nat×Bool)}{sp:List (Nat×V)}{mm:Nat}{k:Nat}(m:Nat){n:Nat}{tm:List (Nat×V)}{H:an}{lp:List ab}{qs:List (((V×Wr)×List Nat)×Option V)}{cs:List (Bool×Bool)}{calls:lz}{Q:Ex->St->Prop}(Ls:(iw k l).take m=lp)(hmb:Nat.ble (k+m) l.length=true)(EF:po k m l=true)(h:nG own GL dc ov sp H.length 0 lp ⟨n,tm,H++List.replicate lp.length none⟩=some (qs,cs,calls))(hb:(dU lp (qs.map (·.1))&&gg n lp&&eP (H.length+lp.length) (qs.map (·.1)))=true)(nS:lA cs)(ky:nH P GL calls)(hq:DP P GL mm l (k+m) (aL (fun _=>true) 0 lp (qs.map (·.1)) ⟨n,tm,H++List.replicate lp.length none⟩) Q):DP P GL mm l k ⟨n,tm,H⟩ Q:=by simp at hb;obtain⟨k1,k2,k3⟩:=yd hd h nS ky (fun i=>((qs[i]? ).bind (·.2)).map .v) (fun j q hj=>by simp[hj]);refine DP.part (σ:=⟨n,tm,H⟩) m Ls hmb EF k1 hb.1.1 hb.1.2 hb.2 (fun i o r ho hr f args bZ hg=>?_ ) hq;simp only[aa4,aaA]at hr;obtain⟨q,Pc,rfl⟩:=hr;have:=k3 i o q ho Pc f args (by rw[aaK];exact bZ);simp at this;exact this hg _
theorem WC.Fa{own:List Nat}{dc:gy}(hm:P.follows .mixedOrders=true)(hd:mR P GL dc){ov:List (Nat×Bool)}{sp:List (Nat×V)}{n:Nat}{tm:List (Nat×V)}{H:an}{qs:List (((V×Wr)×List Nat)×Option V)}{cs:List (Bool×Bool)}{calls:lz}{Q:Ex->St->Prop}(h:nG own GL dc ov sp H.length 0 l ⟨n,tm,H++List.replicate l.length none⟩=some (qs,cs,calls))(hb:(dU l (qs.map (·.1))&&gg n l&&eP (H.length+l.length) (qs.map (·.1)))=true)(nS:lA cs)(ky:nH P GL calls)(hq:Q .normal (aL (fun _=>true) 0 l (qs.map (·.1)) ⟨n,tm,H++List.replicate l.length none⟩)):WC P GL (.draw l) ⟨n,tm,H⟩ Q:=WC.Aa hm (DP.JO hd l.length (by rw[ja,abA]) (by simp_all) (by simp only[dU,aas]at hb;exact Bu hb.1.1.1) h hb nS ky (by rw[aaK];exact DP.done hq))
end
variable {H H':an}{t:T}{tm:List (Nat×V)}{GL:bM}{n:Nat}{l:List ab}{aH:ba}
noncomputable def wz(gd:Option (Nat×Bool))(t:T):Option Bool:=match gd with
 |none=>some true
 |some (d,nR)=>
  match eQ t d with
   | .d (.bool b)=>some (b==nR)
   | .tuple []=>some false
   |_=>none
theorem An{gd:Option (Nat×Bool)}(hs:ka tm t):wz gd t=aB gd tm:=by
 unfold wz aB;cases gd with
  |none=>rfl
  |some p=>simp only[hs p.1];rfl
noncomputable def Fb(GL:bM)(t:T)(H:an)(ns:Nat)(o:ab)(cv:Option V):Option (V×Wr):=match wz o.guard t with
 |none=>none
 |some false=>some (.tuple [],none)
 |some true=>
  match cx (gz GL t) o.op with
   |some _=>cv.map fun v=>(v,none)
   |none=>
    match cv with
     |some _=>(jQ (gz GL t) o.op).map fun v=>(v,none)
     |none=>Ib (gz GL t) H ns o.op
theorem Fc(hs:ka tm t){ns:Nat}{o:ab}{cv:Option V}:Fb GL t H ns o cv=ig GL tm H ns o cv:=by unfold Fb ig;simp only[An hs,mT hs,BD];rfl
noncomputable def JP(dst:Option Nat)(v:V)(t:T):T:=match dst with
 |none=>t
 |some d=>CW t d v
noncomputable def ye(own:List Nat)(GL:bM)(dc:gy)(base:Nat):Nat->List ab->T->an->Option (List (((V×Wr)×List Nat)×Option V)×T×an)
 |_,[],t,H=>some ([],t,H)
 |i,o::l,t,H=>
  let cv:Option V:=match cx (gz GL t) o.op with
   |some (f,args)=>dc f args H
   |none=>bif zu o.dst own then none else jQ (gz GL t) o.op
  match Fb GL t H (base+i) o cv with
   |none=>none
   |some r=>
    match ye own GL dc base (i+1) l (JP o.dst r.1 t) (bp H r.2)with
     |none=>none
     |some (rs,t',H')=>some (((r,mK (gz GL t) o.op),cv)::rs,t',H')
theorem yf{own:List Nat}{GL:bM}{dc:gy}{base n:Nat}(hn:n<=fW):∀{l:List ab}{i:Nat}{t:T}{H:an}{tm:List (Nat×V)}{qs:List (((V×Wr)×List Nat)×Option V)}{t':T}{H':an},ka tm t->gg n l=true->ye own GL dc base i l t H=some (qs,t',H')->nG own GL dc [] [] base i l ⟨n,tm,H⟩=some (qs,[],[])/\∃a7,ka a7 t'/\aL (fun _=>true) i l (qs.map (·.1)) ⟨n,tm,H⟩=⟨n,a7,H'⟩
 |[],i,t,H,tm,qs,t',H',hs,hd,h=>by simp only[ye,aar,aav]at h;obtain⟨rfl,rfl,rfl⟩:=h;exact⟨rfl,tm,hs,rfl⟩
 |o::l,i,t,H,tm,qs,t',H',hs,hd,h=>by
  simp only[ye]at h;rw[Fc hs,mT hs]at h;simp only[gg,aaL,aas]at hd;split at h
  ·cases h
  ·rename_i r hr;split at h
   ·cases h
   ·rename_i rs t2 H2 JL;simp at h;obtain⟨rfl,rfl,rfl⟩:=h;have aR:∃kR,ka kR (JP o.dst r.1 t)/\St.gq ⟨n,tm,H⟩ o.dst r.1 (bp H r.2)=⟨n,kR,bp H r.2⟩:=by
     cases eO:o.dst with
      |none=>exact⟨tm,hs,rfl⟩
      |some d=>
       have h1:=hd.1;rw[eO]at h1;have cy:d<n:=by simp_all
       exact⟨_,hs.put (by omega),rfl⟩
    obtain⟨kR,Hn,N7⟩:=aR;obtain⟨k1,eT,BH,k2⟩:=yf hn (n:=n) Hn (by grind[gg]) JL;simp_all[nG,look,LM,aaB,aL,aaw]
noncomputable def BI(own:List Nat)(GL:bM)(dc:gy)(n:Nat)(l:List ab)(t:T)(H:an):Option (T×an):=bif nU l&&gg n l then
 match ye own GL dc H.length 0 l t (H++List.replicate l.length none)with
  |none=>none
  |some (qs,t',H')=>bif (ud (qs.map (·.1))||JK 0 [] (CO (qs.map (·.1))) (dp 0 [] l))&&eP (H.length+l.length) (qs.map (·.1))then some (t',H')else none else none
theorem yg{own:List Nat}{dc:gy}(hn:n<=fW){t':T}(hs:ka tm t)(h:BI own GL dc n l t H=some (t',H')):∃a7 qs,ka a7 t'/\nG own GL dc [] [] H.length 0 l ⟨n,tm,H++List.replicate l.length none⟩=some (qs,[],[])/\(dU l (qs.map (·.1))&&gg n l&&eP (H.length+l.length) (qs.map (·.1)))=true/\aL (fun _=>true) 0 l (qs.map (·.1)) ⟨n,tm,H++List.replicate l.length none⟩=⟨n,a7,H'⟩:=by
 unfold BI at h;cases h1:(nU l&&gg n l)with
  |false=>grind
  |true=>
   rw[h1]at h;simp at h;simp at h1;split at h
   ·cases h
   ·rename_i qs t2 H2 hq;cases h2:((ud (qs.map (·.1))||JK 0 [] (CO (qs.map (·.1))) (dp 0 [] l))&&eP (H.length+l.length) (qs.map (·.1)))with
     |false=>grind
     |true=>rw[h2]at h;simp at h;obtain⟨rfl,rfl⟩:=h;simp at h2;obtain⟨k1,a7,jq,k2⟩:=yf hn hs h1.2 hq;simp_all[dU,aas]
def BJ(l:List ab):Nat->Nat->Option Nat|0,_=>none|f+1,m=>bif sH m l&&po 0 m l then some m else BJ l f (m+1)
theorem yh{l:List ab}:∀{f m r:Nat},BJ l f m=some r->(sH r l&&po 0 r l)=true/\r<m+f
 |0,m,r,h=>by cases h
 |f+1,m,r,h=>by
  simp only[BJ]at h;cases hb:(sH m l&&po 0 m l)with
   |true=>grind
   |false=>rw[hb]at h;have:=yh h;grind
noncomputable def Ff(own:List Nat)(GL:bM)(call:aY)(aH:ba)(n:Nat)(l:List ab)(t:T)(H:an)(k:KN):Option XR:=match BJ l l.length 0 with
 |none=>none
 |some m=>
  match BI own GL (mS aH call) n (l.take m) t H with
   |none=>none
   |some (t1,H1)=>pB own GL call n ((l.drop m).map Bs) t1 H1 k
theorem Fh{P:Program}{own:List Nat}{call:aY}(hm:P.follows .mixedOrders=true)(hc:ct P GL call)(hp:bG P GL aH)(hn:n<=fW){k:KN}{x:XR}(hs:ka tm t)(h:Ff own GL call aH n l t H k=some x):∃a7 t' H',ka a7 t'/\WC P GL (.draw l) ⟨n,tm,H⟩ (fun e s=>e=.normal/\s=⟨n,a7,H'⟩)/\k t' H'=some x:=by
 unfold Ff at h;split at h
 ·cases h
 ·rename_i m hfm;obtain⟨JD,hml⟩:=yh hfm;rw[aas]at JD;split at h
  ·cases h
  ·rename_i t1 H1 hd;obtain⟨kR,qs,Hn,k1,hb,k2⟩:=yg hn hs hd;obtain⟨a7,t',H',jq,hw,hk⟩:=kb hc hn Hn h;refine⟨a7,t',H',jq,WC.Aa hm (DP.JO (n8 hp hc) m (by rw[ja]) (by rw[abG];omega) JD.2 k1 hb trivial trivial ?_ ),hk⟩;rw[k2,aaK];have ZI:=JD.2;simp only[po,ja,aas]at ZI;exact DP.chain (by rw[abG];omega) ZI.1 JD.1 (hw.mono fun s hs=>⟨rfl,hs⟩)
noncomputable def qv(own:List Nat)(GL:bM)(call:aY)(aH:ba)(n:Nat)(l:List ab)(t:T)(H:an)(k:KN):Option XR:=match BI own GL (mS aH call) n l t H with
 |some (t',H')=>k t' H'
 |none=>Ff own GL call aH n l t H k
theorem u6{own:List Nat}{P:Program}{call:aY}(hm:P.follows .mixedOrders=true)(hc:ct P GL call)(hp:bG P GL aH)(hn:n<=fW){k:KN}{x:XR}(hs:ka tm t)(h:qv own GL call aH n l t H k=some x):∃a7 t' H',ka a7 t'/\WC P GL (.draw l) ⟨n,tm,H⟩ (fun e s=>e=.normal/\s=⟨n,a7,H'⟩)/\k t' H'=some x:=by
 unfold qv at h;split at h
 ·rename_i t' H' hd;obtain⟨a7,qs,jq,k1,hb,k2⟩:=yg hn hs hd;exact⟨a7,t',H',jq,WC.Fa hm (n8 hp hc) k1 hb trivial trivial (by grind),h⟩
 ·exact Fh hm hc hp hn hs h
noncomputable def qZ(body:T->an->KN->(Nat->KN)->KN->Option XR)(m:Nat):T->an->(Nat->KN)->KN->Option XR:=@Nat.rec (fun _=>T->an->(Nat->KN)->KN->Option XR) (fun _ _ _ _=>none) (fun _ ih t H ke kr=>body t H (fun t' H'=>ih t' H' ke kr) ke kr) m
noncomputable def ao(v:V)(a b:Option XR):Option XR:=match v with
 | .d (.bool t)=>bif t then a else b
 |_=>none
noncomputable def yi(n:Nat)(t:T):List (Nat×V):=(List.range n).map fun i=>(i,eQ t i)
theorem C0(t:T)(s:Nat):∀(n:Nat),get (yi n t) s=eQ t s\/get (yi n t) s=.any:=by
 intro n;unfold yi;generalize List.range n=l;induction l with
  |nil=>exact .inr rfl
  |cons i l ih=>
   simp only[aaB,get];cases hb:Nat.beq i s with
    |true=>left;rw[aau hb];rfl
    |false=>exact ih
noncomputable def n9(GL:bM)(call:aY)(n:Nat)(f:aU)(ps:List Nat)(ca cb:Code)(t:T)(H:an)(kn:KN)(ke:Nat->KN)(kr:KN):Option XR:=match gz GL t f with
 | .func zX first cap=>
  match pw call zX (first++[.gI H.length]++cap) (aR H H.length (.loop n (yi n t) ps ca cb .ready))with
   |some (_,H')=>
    match aC H' H.length with
     |some (.loop n1 kR mH mI mJ st)=>
      match st with
       | .ready=>kn t (aR H' H.length (.loop n1 kR mH mI mJ .over))
       | .done none=>kr t (aR H' H.length (.loop n1 kR mH mI mJ .over))
       | .done (some i)=>ke i t (aR H' H.length (.loop n1 kR mH mI mJ .over))
       |_=>none
     |_=>none
   |none=>none
 |_=>none
noncomputable def eK(own:List Nat)(GL:bM)(call:aY)(aH:ba)(m n:Nat)(c:IR):T->an->KN->(Nat->KN)->KN->Option XR:=@IR.rec (fun _=>T->an->KN->(Nat->KN)->KN->Option XR) (fun t H kn _ _=>kn t H) (fun l t H kn _ _=>pB own GL call n l t H kn) (fun l t H kn _ _=>qv own GL call aH n l t H kn) (fun _ _ ia ib t H kn ke kr=>ia t H (fun t' H'=>ib t' H' kn ke kr) ke kr) (fun c _ _ ia ib t H kn ke kr=>ao (gz GL t c) (ia t H kn ke kr) (ib t H kn ke kr)) (fun id _ ib t H kn ke kr=>ib t H kn (fun i t' H'=>bif Nat.beq i id then kn t' H' else ke i t' H') kr) (fun _ ib t H _ ke kr=>qZ ib m t H ke kr) (fun id t H _ ke _=>ke id t H) (fun t H _ _ kr=>kr t H) (fun f ps ca cb t H kn ke kr=>n9 GL call n f ps ca cb t H kn ke kr) c
def LP(kn:KN)(ke:Nat->KN)(kr:KN)(e:Ex)(t:T)(H:an):Option XR:=match e with
 | .normal=>kn t H
 | .exit i=>ke i t H
 | .ret=>kr t H
def sU(P:Program)(GL:bM)(b:IR)(e:Ex)(s':St):Nat->St->Prop
 |0,_=>False
 |k+1,s=>
  WC P GL b s (fun e1 s1=>
   match e1 with
    | .normal=>sU P GL b e s' k s1
    |e1=>e1=e/\s1=s')
theorem sU.wc{P:Program}{b:IR}{e:Ex}{s':St}{k:Nat}{s:St}(h:sU P GL b e s' k s):WC P GL (.loop b) s (fun e1 s1=>e1=e/\s1=s'):=by
 refine WC.loop (fun m s=>sU P GL b e s' m s) (fun m s hm=>?_ ) h;cases m with
  |zero=>exact hm.elim
  |succ m=>refine WC.mono hm ?_;grind
theorem fM{P:Program}{GL:bM}{own:List Nat}{call:aY}{aH:ba}(hm:P.follows .mixedOrders=true)(hc:ct P GL call)(hp:bG P GL aH){m n:Nat}(hn:n<=fW):∀{c:IR}{t:T}{H:an}{kn:KN}{ke:Nat->KN}{kr:KN}{x:XR}{tm:List (Nat×V)},ka tm t->eK own GL call aH m n c t H kn ke kr=some x->∃e a7 t' H',ka a7 t'/\WC P GL c ⟨n,tm,H⟩ (fun e' s=>e'=e/\s=⟨n,a7,H'⟩)/\LP kn ke kr e t' H'=some x
 | .skip,t,H,kn,ke,kr,x,tm,hs,h=>⟨.normal,tm,t,H,hs,WC.skip ⟨rfl,rfl⟩,h⟩
 | .region l,t,H,kn,ke,kr,x,tm,hs,h=>by obtain⟨a7,t',H',jq,hw,hk⟩:=kb hc hn hs (show pB own GL call n l t H kn=some x from h);refine⟨.normal,a7,t',H',jq,WC.region ?_,hk⟩;grind
 | .draw l,t,H,kn,ke,kr,x,tm,hs,h=>by obtain⟨a7,t',H',jq,hw,hk⟩:=u6 hm hc hp hn hs (show qv own GL call aH n l t H kn=some x from h);exact⟨.normal,a7,t',H',jq,hw,hk⟩
 | .seq a b,t,H,kn,ke,kr,x,tm,hs,h=>by
  obtain⟨e,a7,t',H',jq,hw,hk⟩:=fM hm hc hp hn hs (show eK own GL call aH m n a t H (fun t' H'=>eK own GL call aH m n b t' H' kn ke kr) ke kr=some x from h);cases e with
   |normal=>obtain⟨e2,eT,t2,H2,BH,zx,qh⟩:=fM hm hc hp hn jq (show eK own GL call aH m n b t' H' kn ke kr=some x from hk);refine⟨e2,eT,t2,H2,BH,WC.seq (hw.mono ?_ ),qh⟩;grind
   |exit i=>refine⟨.exit i,a7,t',H',jq,WC.seq (hw.mono ?_ ),hk⟩;grind
   |ret=>refine⟨.ret,a7,t',H',jq,WC.seq (hw.mono ?_ ),hk⟩;grind
 | .cond c a b,t,H,kn,ke,kr,x,tm,hs,h=>by
  have h:ao (gz GL t c) (eK own GL call aH m n a t H kn ke kr) (eK own GL call aH m n b t H kn ke kr)=some x:=h;rw[mT hs]at h;unfold ao at h;split at h
  ·rename_i tb hv;cases tb with
    |true=>obtain⟨e,a7,t',H',jq,hw,hk⟩:=fM hm hc hp hn hs (show eK own GL call aH m n a t H kn ke kr=some x from h);exact⟨e,a7,t',H',jq,WC.cond hv hw,hk⟩
    |false=>obtain⟨e,a7,t',H',jq,hw,hk⟩:=fM hm hc hp hn hs (show eK own GL call aH m n b t H kn ke kr=some x from h);exact⟨e,a7,t',H',jq,WC.cond hv hw,hk⟩
  ·cases h
 | .block id b,t,H,kn,ke,kr,x,tm,hs,h=>by
  obtain⟨e,a7,t',H',jq,hw,hk⟩:=fM hm hc hp hn hs (show eK own GL call aH m n b t H kn (fun i t' H'=>bif Nat.beq i id then kn t' H' else ke i t' H') kr=some x from h);cases e with
   |normal=>refine⟨.normal,a7,t',H',jq,WC.block (hw.mono ?_ ),hk⟩;grind
   |exit i=>
    have hk:(bif Nat.beq i id then kn t' H' else ke i t' H')=some x:=hk;by_cases hi:i=id
    ·subst hi;rw[aaS,aaw]at hk;refine⟨.normal,a7,t',H',jq,WC.block (hw.mono ?_ ),hk⟩;grind
    ·rw[dr hi,aaM]at hk;refine⟨.exit i,a7,t',H',jq,WC.block (hw.mono ?_ ),hk⟩;grind
   |ret=>refine⟨.ret,a7,t',H',jq,WC.block (hw.mono ?_ ),hk⟩;grind
 | .loop b,t,H,kn,ke,kr,x,tm,hs,h=>by
  have h:qZ (eK own GL call aH m n b) m t H ke kr=some x:=h;have key:∀(k:Nat)(t:T)(H:an)(tm:List (Nat×V)),ka tm t->qZ (eK own GL call aH m n b) k t H ke kr=some x->∃e a7 t' H',ka a7 t'/\sU P GL b e ⟨n,a7,H'⟩ k ⟨n,tm,H⟩/\LP kn ke kr e t' H'=some x:=by
   intro k;induction k with
    |zero=>intro t H tm _ h0;cases h0
    |succ k ih=>
     intro t H tm hs h0;have h0:eK own GL call aH m n b t H (fun t' H'=>qZ (eK own GL call aH m n b) k t' H' ke kr) ke kr=some x:=h0;obtain⟨e,a7,t',H',jq,hw,hk⟩:=fM hm hc hp hn hs h0;cases e with
      |normal=>obtain⟨e2,eT,t2,H2,BH,zx,qh⟩:=ih t' H' a7 jq hk;refine⟨e2,eT,t2,H2,BH,WC.mono hw ?_,qh⟩;grind
      |exit i=>refine⟨.exit i,a7,t',H',jq,WC.mono hw ?_,hk⟩;grind
      |ret=>refine⟨.ret,a7,t',H',jq,WC.mono hw ?_,hk⟩;grind
  obtain⟨e,a7,t',H',jq,hw,hk⟩:=key m t H tm hs h;exact⟨e,a7,t',H',jq,hw.wc,hk⟩
 | .exit id,t,H,kn,ke,kr,x,tm,hs,h=>⟨.exit id,tm,t,H,hs,WC.exit ⟨rfl,rfl⟩,h⟩
 | .ret,t,H,kn,ke,kr,x,tm,hs,h=>⟨.ret,tm,t,H,hs,WC.ret ⟨rfl,rfl⟩,h⟩
 | .cZ f ps ca cb,t,H,kn,ke,kr,x,tm,hs,h=>by
  have h:n9 GL call n f ps ca cb t H kn ke kr=some x:=h;unfold n9 at h;rw[mT hs]at h;split at h
  ·rename_i zX first cap hx
   split at h
   ·rename_i v H' bZ;have hwf:=hc.g _ _ _ _ _ bZ;split at h
    ·rename_i n1 kR mH mI mJ st hb;have Pr:∀(ex:Ex),(match st with| .ready=>ex=.normal| .done none=>ex=.ret| .done (some i)=>ex=.exit i|_=>False)->WC P GL (.cZ f ps ca cb) ⟨n,tm,H⟩ (fun e' s=>e'=ex/\s=⟨n,tm,aR H' H.length (.loop n1 kR mH mI mJ .over)⟩):=by
      intro ex xf;refine WC.cZ (σ:=⟨n,tm,H⟩) (yi n t) (fun s=>by rw[hs s];exact C0 t s n) hx (hwf.mono ?_ );rintro r h' ⟨rfl,rfl⟩;refine⟨n1,kR,mH,mI,mJ,st,hb,?_⟩;revert xf;cases st with
       |ready=>rintro rfl;exact⟨rfl,rfl⟩
       |busy=>exact fun h=>h.elim
       |over=>exact fun h=>h.elim
       |done e=>cases e<;>(rintro rfl;exact⟨rfl,rfl⟩)
     split at h
     ·exact⟨.normal,tm,t,_,hs,Pr _ rfl,h⟩
     ·exact⟨.ret,tm,t,_,hs,Pr _ rfl,h⟩
     ·exact⟨.exit _,tm,t,_,hs,Pr _ rfl,h⟩
     ·cases h
    ·cases h
   ·cases h
  ·cases h
inductive FT (α:Type) where
 |e
 |n (l:FT α) (k:Nat) (a:α) (r:FT α)
noncomputable def mc{α:Type}(t:FT α)(f:Nat):Option α:=@FT.rec α (fun _=>Option α) none (fun _ k a _ il ir=>@Bool.rec (fun _=>Option α) (@Bool.rec (fun _=>Option α) ir il (Nat.ble f k)) (some a) (Nat.beq f k)) t
def sV{α:Type}(p:Nat->α->Prop):FT α->Prop| .e=>True| .n l k a r=>sV p l/\p k a/\sV p r
theorem mU{α:Type}{p:Nat->α->Prop}:∀{t:FT α}{f:Nat}{a:α},sV p t->mc t f=some a->p f a
 | .e,f,a,_,h=>by cases h
 | .n l k b r,f,a,ht,h=>by
  have h:@Bool.rec (fun _=>Option α) (@Bool.rec (fun _=>Option α) (mc r f) (mc l f) (Nat.ble f k)) (some b) (Nat.beq f k)=some a:=h;cases h1:Nat.beq f k with
   |true=>rw[h1]at h;have:=aau h1;subst this;simp at h;subst h;exact ht.2.1
   |false=>
    rw[h1]at h;cases h2:Nat.ble f k with
     |true=>rw[h2]at h;exact mU ht.1 h
     |false=>rw[h2]at h;exact mU ht.2.2 h
noncomputable def rV(t:T)(H:an):iQ->Option V
 | .t n=>some (eQ t n)
 | .cell n size agg=>
  match jw H size (eQ t n)with
   |some cs=>A7 agg cs
   |none=>none
noncomputable def pC(rs:List iQ)(t:T)(H:an):Option XR:=match bS (rV t H) rs with
 |some [v]=>some (v,H)
 |some vs=>some (.tuple vs,H)
 |none=>none
theorem BK{rs:List iQ}{x:XR}(hs:ka tm t)(h:pC rs t H=some x):h_ rs ⟨n,tm,H⟩=some x.1/\x.2=H:=by
 have e:rV t H=iW ⟨n,tm,H⟩:=funext fun r=>by
  cases r with
   |t n=>simp only[rV,iW,hs _]
   |cell n size agg=>simp only[rV,iW,hs _];grind
 unfold pC at h;unfold h_;grind
noncomputable def sW:List (Nat×V)->T|[]=>.e|(s,u)::l=>CW (sW l) s u
def lg(tm:List (Nat×V)):Bool:=tm.all fun p=>Nat.blt p.1 fW
theorem ka.tree:∀{tm:List (Nat×V)},lg tm=true->ka tm (sW tm)
 |[],_=>ka.nil
 |(s,u)::l,h=>
  fun t=>by
   simp only[lg,aaL,aas]at h;have hs:s<fW:=by simp_all
   rw[dy,sW,qp _ _ _ _ hs,ka.tree (by grind[lg]) t];grind
noncomputable def yj(b:Nat)(e:Ex)(H:an):Option XR:=match aC H b with
 |some (.loop n tm ps ca cb .busy)=>some (.d (.bool (lV e)),aR H b (.loop n tm ps ca cb (Ez e)))
 |_=>none
noncomputable def n_(cc:Code->Option IR)(GL:bM)(call:aY)(aH:ba)(m:Nat)(args:List V)(H:an):Option XR:=match args with
 | .gI b::as=>
  match aC H b with
   |some (.loop n tm ps ca cb .ready)=>
    match cc ca,cc cb with
     |some ia,some ib=>
      bif Nat.beq as.length ps.length&&ps.all (fun p=>Nat.blt p n)&&Nat.ble n fW&&dP ia&&dP ib&&lg (ic tm ps as)then
       eK [] GL call aH m n ia (sW (ic tm ps as)) H (fun t H1=>
        match aC H1 b with
         |some (.loop n1 kR mH mI mJ .ready)=>eK [] GL call aH m n ib t (aR H1 b (.loop n1 kR mH mI mJ .busy)) (fun _ H2=>yj b .normal H2) (fun i _ H2=>yj b (.exit i) H2) (fun _ H2=>yj b .ret H2)
         |_=>none) (fun _ _ _=>none) (fun _ _=>none)
      else none
     |_,_=>none
   |_=>none
 |_=>none
theorem Ie{b:Nat}{e:Ex}{v:V}(h:yj b e H=some (v,H')):pa b e H (fun r h=>r=v/\h=H'):=by
 unfold yj at h;split at h
 ·rename_i n tm ps ca cb hb;simp only[aar,aav]at h;exact⟨n,tm,ps,ca,cb,hb,h.1,h.2⟩
 ·cases h
theorem C1{P:Program}{call:aY}(hm:P.follows .mixedOrders=true)(hc:ct P GL call)(hp:bG P GL aH){m:Nat}{args:List V}{v:V}(h:n_ (aD P) GL call aH m args H=some (v,H')):∃b as,args=.gI b::as/\(∃n tm ps ca cb st,aC H b=some (.loop n tm ps ca cb st))/\WY P GL b as H (fun r h=>r=v/\h=H'):=by
 unfold n_ at h;split at h
 ·rename_i b as;split at h
  ·rename_i n tm ps ca cb hb;refine⟨b,as,rfl,⟨_,_,_,_,_,_,hb⟩,?_⟩;split at h
   ·rename_i ia ib LR hib;cases hg:(Nat.beq as.length ps.length&&ps.all (fun p=>Nat.blt p n)&&Nat.ble n fW&&dP ia&&dP ib&&lg (ic tm ps as))with
     |false=>rw[hg]at h;cases h
     |true=>
      rw[hg,aaw]at h;simp only[aas]at hg;obtain⟨⟨⟨⟨⟨g1,g2⟩,g3⟩,g4⟩,g5⟩,g6⟩:=hg;have hn:=aax g3;obtain⟨e,a7,t',H1,jq,hw,hk⟩:=fM hm hc hp hn (ka.tree g6) h;refine WY.round hb (aau g1) g2 LR hib g4 g5 (hw.mono ?_ );rintro e' s ⟨rfl,rfl⟩;cases e' with
       |exit i=>cases(show(none:Option XR)=some (v,H')from hk)
       |ret=>cases(show(none:Option XR)=some (v,H')from hk)
       |normal=>
        simp only[LP]at hk;split at hk
        ·rename_i n1 kR mH mI mJ zr;refine⟨n1,kR,mH,mI,mJ,zr,?_⟩;obtain⟨e2,eT,t2,H2,BH,zx,qh⟩:=fM hm hc hp hn jq hk;refine zx.mono ?_;rintro e3 s ⟨rfl,rfl⟩;cases e3<;>exact Ie qh
        ·cases hk
   ·cases h
  ·cases h
 ·cases h
noncomputable def sX(cc:Code->Option IR)(ep:FuncId->List Nat)(GL:bM)(q0:FT bL)(mk:aY->aY)(oa:aY->ba)(m:Nat)(d:Nat):aY:=@Nat.rec (fun _=>aY) (fun _ _ _=>none) (fun _ ih f args H=>
 bif Nat.beq f j8 then n_ cc GL (mk ih) (oa ih) m args H else
  match mc q0 f with
   |none=>none
   |some fn=>bif Nat.ble args.length fn.ntmps&&Nat.ble fn.ntmps fW then eK (ep f) GL (mk ih) (oa ih) m fn.ntmps fn.body (nD 0 args .e) H (fun t H=>pC fn.res t H) (fun _ _ _=>none) (fun t H=>pC fn.res t H)else none) d
theorem wA{P:Program}{GL:bM}{ep:FuncId->List Nat}{q0:FT bL}{mk:aY->aY}{oa:aY->ba}(hm:P.follows .mixedOrders=true)(hf:sV (fun f fn=>au P f=some fn/\al P f=true) q0)(VJ:∀iH,ct P GL iH->ct P GL (mk iH))(LS:∀iH,ct P GL iH->bG P GL (oa iH))(m:Nat):∀d,ct P GL (sX (aD P) ep GL q0 mk oa m d)
 |0=>⟨fun f args H v H' _ h=>(by cases h),fun args H v H' h=>(by cases h)⟩
 |d+1=>by
  have ih:=wA (ep:=ep) hm hf VJ LS m d;have step:∀f args H,sX (aD P) ep GL q0 mk oa m (d+1) f args H=(bif Nat.beq f j8 then n_ (aD P) GL (mk (sX (aD P) ep GL q0 mk oa m d)) (oa (sX (aD P) ep GL q0 mk oa m d)) m args H else
   match mc q0 f with
    |none=>none
    |some fn=>bif Nat.ble args.length fn.ntmps&&Nat.ble fn.ntmps fW then eK (ep f) GL (mk (sX (aD P) ep GL q0 mk oa m d)) (oa (sX (aD P) ep GL q0 mk oa m d)) m fn.ntmps fn.body (nD 0 args .e) H (fun t H=>pC fn.res t H) (fun _ _ _=>none) (fun t H=>pC fn.res t H)else none):=fun _ _ _=>rfl
  refine⟨fun f args H v H' hy h=>?_,fun args H v H' h=>?_ ⟩
  ·rw[step,hy,aaM]at h;split at h
   ·cases h
   ·rename_i fn HR;obtain⟨h1,h2⟩:=mU hf HR;cases hb:(Nat.ble args.length fn.ntmps&&Nat.ble fn.ntmps fW)with
     |false=>grind
     |true=>
      rw[hb]at h;simp at h;simp only[aas]at hb;have zr:=aax hb.1;have Be:=aax hb.2;obtain⟨e,a7,t',H2,jq,hw,hk⟩:=fM hm (VJ _ ih) (LS _ ih) Be (ka.args args (by omega)) h;refine WF.body h1 h2 zr (hw.mono ?_ );rintro e' s' ⟨rfl,rfl⟩;cases e' with
       |normal=>obtain⟨k1,k2⟩:=BK (n:=fn.ntmps) jq (show pC fn.res t' H2=some (v,H')from hk);grind
       |exit i=>cases(show(none:Option XR)=some (v,H')from hk)
       |ret=>obtain⟨k1,k2⟩:=BK (n:=fn.ntmps) jq (show pC fn.res t' H2=some (v,H')from hk);grind
  ·rw[step,aaS,aaw]at h;exact C1 hm (VJ _ ih) (LS _ ih) h
abbrev Extra:=FT (List V->Option V)
noncomputable def yk(ex:Extra)(gx:ba):ba:=fun f args=>
 match mc ex f with
  |none=>gx f args
  |some s=>
   match s args with
    |some v=>some v
    |none=>gx f args
noncomputable def Uc(kt:FT Nat)(ex:Extra)(rf:FuncId->Bool)(ng:Af)(gx:ba)(iH:aY):aY:=fun f args H=>
 bif Nat.beq f j8 then iH f args H else
  match mc kt f with
   |none=>rP (fun _=>false) (fun _ _=>none) iH f args H
   |some _=>
    match yk ex (fun _ _=>none) f args with
     |some v=>some (v,H)
     |none=>Ag rf ng (yk ex gx) iH f args H
noncomputable def LU(kt:FT Nat)(ex:Extra)(rf:FuncId->Bool)(gx:ba)(iH:aY):ba:=fun f args=>
 match mc kt f with
  |none=>mO (fun _ _=>none) iH f args
  |some _=>bif rf f then none else mO (yk ex gx) iH f args
def sY(P:Program)(GL:bM)(ex:Extra):Prop:=sV (fun f s=>∀args v,s args=some v->PC P GL f args v) ex
section
variable {P:Program}{GL:bM}
variable {ex:Extra}{gx:ba}
theorem sZ(he:sY P GL ex)(hp:bG P GL gx):bG P GL (yk ex gx):=by
 intro f args v h;unfold yk at h;split at h
 ·exact hp _ _ _ h
 ·rename_i s hs;split at h
  ·rename_i u hu;simp at h;subst h;exact mU he hs _ _ hu
  ·exact hp _ _ _ h
theorem wB:bG P GL (fun _ _=>none):=by intro f a v h;cases h
theorem Fi{kt:FT Nat}{rf:FuncId->Bool}{ng:Af}(he:sY P GL ex)(hh:wo P GL ng)(hp:bG P GL gx):∀iH,ct P GL iH->ct P GL (Uc kt ex rf ng gx iH):=by
 intro iH hr;refine⟨fun f args H v H' hf h=>?_,fun args H v H' h=>hr.yl _ _ _ _ h⟩;unfold Uc at h;rw[hf,aaM]at h;split at h
 ·exact(sL wB hr).fn _ _ _ _ _ hf h
 ·split at h
  ·rename_i u hu;simp at h;obtain⟨rfl,rfl⟩:=h;exact WF.ES (sZ he wB _ _ _ hu) ⟨rfl,rfl⟩
  ·exact(CR hh (sZ he hp) hr).fn _ _ _ _ _ hf h
theorem If{kt:FT Nat}{rf:FuncId->Bool}(he:sY P GL ex)(hp:bG P GL gx):∀iH,ct P GL iH->bG P GL (LU kt ex rf gx iH):=by
 intro iH hr f args v h;unfold LU at h;split at h
 ·exact la wB hr _ _ _ h
 ·cases hb:rf f with
   |true=>grind
   |false=>rw[hb]at h;exact la (sZ he hp) hr _ _ _ h
end
end Fw
/-
  Pieces of code by the quicker run: from a state told by a few slots to another, or to a function's result.
-/
namespace Fw
open Go
def wC:List Nat->List V->List (Nat×V)|k::ks,v::vs=>(k,v)::wC ks vs|_,_=>[]
theorem s8{t:T}(s:Nat):∀(ks:List Nat),get (wC ks (ks.map (eQ t))) s=eQ t s\/get (wC ks (ks.map (eQ t))) s=.any
 |[]=>.inr rfl
 |k::ks=>by
  simp only[aaB,wC,dy];by_cases e:k=s
  ·grind
  ·rw[aaH e];exact s8 s ks
theorem R.dW{GL:bM}{g:G}{w:World}{a:Act}{n:Nat}{tm eT:List (Nat×V)}{H:an}(hw:∀s,get eT s=get tm s\/get eT s=.any)(h:R GL g w a ⟨n,tm,H⟩):R GL g w a ⟨n,eT,H⟩:=⟨h.defers,h.size,fun t=>by
 show RV g w (get eT t) _;rcases hw t with e|e
 ·rw[e];exact h.tmps t
 grind[RV],h.heap,h.cD⟩
theorem ax.dW{m n:Nat}{tm eT:List (Nat×V)}{H:an}(hw:∀s,get eT s=get tm s\/get eT s=.any):ax m ⟨n,tm,H⟩ ⟨n,eT,H⟩:=fun _ g _ _ hr=>⟨g,hr.dW hw,fun _ _ _ he=>he⟩
section
variable {P:Program}{GL:bM}
theorem WC.dW{c:IR}{n:Nat}{tm eT:List (Nat×V)}{H:an}{Q:Ex->St->Prop}(hw:∀s,get eT s=get tm s\/get eT s=.any)(h:WC P GL c ⟨n,eT,H⟩ Q):WC P GL c ⟨n,tm,H⟩ Q:=WC.tidy (ax.dW hw) h
end
end Fw
/-
  The quicker run, made ready once for each text of code: what an operation does, as a small function of slots and boxes.
-/
namespace Fw
open Go
inductive Bx (α:Type) where|mk (a:α)
structure pD where
 GL:bM
 call:aY
 aH:ba
abbrev VK:=V->an->Option XR
noncomputable def C2(k:Nat):Nat->Bx (T->V):=@Nat.rec (fun _=>Nat->Bx (T->V)) (fun i=>.mk (fun t=>eQ t i)) (fun _ ih i=>@Nat.rec (fun _=>Bx (T->V)) (.mk (fun t=>@T.rec (fun _=>V) .any (fun _ v _ _ _=>v) t)) (fun j _=>@Bx.rec (T->V) (fun _=>Bx (T->V)) (fun g=>@Nat.rec (fun _=>Bx (T->V)) (.mk (fun t=>@T.rec (fun _=>V) .any (fun l _ _ _ _=>g l) t)) (fun _ _=>.mk (fun t=>@T.rec (fun _=>V) .any (fun _ _ r _ _=>g r) t)) (Nat.land j 1)) (ih (Nat.shiftRight j 1))) i) k
theorem wD:∀(k i:Nat),∃g,C2 k i=.mk g/\∀t,g t=eQ t i
 |0,i=>⟨_,rfl,fun _=>rfl⟩
 |k+1,0=>⟨_,rfl,fun t=>by cases t<;>rfl⟩
 |k+1,j+1=>by
  have h1:Nat.shiftRight j 1=j / 2:=by simp_all[abF]
  have h2:Nat.land j 1=j%2:=abT j;obtain⟨g,hg,ym⟩:=wD k (Nat.shiftRight j 1);have h:C2 (k+1) (j+1)=@Bx.rec (T->V) (fun _=>Bx (T->V)) (fun g=>@Nat.rec (fun _=>Bx (T->V)) (.mk (fun t=>@T.rec (fun _=>V) .any (fun l _ _ _ _=>g l) t)) (fun _ _=>.mk (fun t=>@T.rec (fun _=>V) .any (fun _ _ r _ _=>g r) t)) (Nat.land j 1)) (C2 k (Nat.shiftRight j 1)):=rfl;rw[h,hg];rw[h1]at ym;rcases abz j with hj|hj
  ·rw[h2,hj];refine⟨_,rfl,fun t=>?_ ⟩;cases t with
    |e=>rfl
    |n l u r=>grind[jL]
  ·rw[h2,hj];refine⟨_,rfl,fun t=>?_ ⟩;cases t with
    |e=>rfl
    |n l u r=>grind[jL]
noncomputable def Ig(k:Nat):Nat->Bx (T->V->T):=@Nat.rec (fun _=>Nat->Bx (T->V->T)) (fun i=>.mk (fun t _=>t)) (fun _ ih i=>@Nat.rec (fun _=>Bx (T->V->T)) (.mk (fun t v=>@T.rec (fun _=>T) (.n .e v .e) (fun l _ r _ _=>.n l v r) t)) (fun j _=>@Bx.rec (T->V->T) (fun _=>Bx (T->V->T)) (fun g=>@Nat.rec (fun _=>Bx (T->V->T)) (.mk (fun t v=>@T.rec (fun _=>T) (.n (g .e v) .any .e) (fun l u r _ _=>.n (g l v) u r) t)) (fun _ _=>.mk (fun t v=>@T.rec (fun _=>T) (.n .e .any (g .e v)) (fun l u r _ _=>.n l u (g r v)) t)) (Nat.land j 1)) (ih (Nat.shiftRight j 1))) i) k
theorem BL:∀(k i:Nat),∃g,Ig k i=.mk g/\∀t v,g t v=ma k t i v
 |0,i=>⟨_,rfl,fun _ _=>rfl⟩
 |k+1,0=>⟨_,rfl,fun t v=>by cases t<;>rfl⟩
 |k+1,j+1=>by
  have h1:Nat.shiftRight j 1=j / 2:=by simp_all[abF]
  have h2:Nat.land j 1=j%2:=abT j;obtain⟨g,hg,ym⟩:=BL k (Nat.shiftRight j 1);have h:Ig (k+1) (j+1)=@Bx.rec (T->V->T) (fun _=>Bx (T->V->T)) (fun g=>@Nat.rec (fun _=>Bx (T->V->T)) (.mk (fun t v=>@T.rec (fun _=>T) (.n (g .e v) .any .e) (fun l u r _ _=>.n (g l v) u r) t)) (fun _ _=>.mk (fun t v=>@T.rec (fun _=>T) (.n .e .any (g .e v)) (fun l u r _ _=>.n l u (g r v)) t)) (Nat.land j 1)) (Ig k (Nat.shiftRight j 1)):=rfl;rw[h,hg];rw[h1]at ym;rcases abz j with hj|hj
  ·rw[h2,hj];refine⟨_,rfl,fun t v=>?_ ⟩;cases t<;>grind[wv,wx]
  ·rw[h2,hj];refine⟨_,rfl,fun t v=>?_ ⟩;cases t<;>grind[wv,wx]
noncomputable def wE(x:aU):Bx (pD->T->V):=@aU.rec (fun _=>Bx (pD->T->V)) (fun n=>@Bx.rec (T->V) (fun _=>Bx (pD->T->V)) (fun g=>.mk (fun _ t=>g t)) (C2 12 n)) (fun v=>.mk (fun _ _=>v)) (fun n=>.mk (fun E t=>gz E.GL t (.g n))) (fun f=>.mk (fun _ _=>.func f [] [])) x
theorem pE(x:aU):∃f,wE x=.mk f/\∀E t,f E t=gz E.GL t x:=by
 cases x with
  |t n=>obtain⟨g,hg,ym⟩:=wD 12 n;have h:wE (.t n)=@Bx.rec (T->V) (fun _=>Bx (pD->T->V)) (fun g=>.mk (fun _ t=>g t)) (C2 12 n):=rfl;rw[h,hg];exact⟨_,rfl,fun E t=>ym t⟩
  |c v=>exact⟨_,rfl,fun _ _=>rfl⟩
  |g n=>exact⟨_,rfl,fun _ _=>rfl⟩
  |f f=>exact⟨_,rfl,fun _ _=>rfl⟩
noncomputable def BM(l:List aU):Bx (pD->T->List V):=@List.rec aU (fun _=>Bx (pD->T->List V)) (.mk (fun _ _=>[])) (fun x _ ih=>@Bx.rec (pD->T->V) (fun _=>Bx (pD->T->List V)) (fun f=>@Bx.rec (pD->T->List V) (fun _=>Bx (pD->T->List V)) (fun g=>.mk (fun E t=>f E t::g E t)) ih) (wE x)) l
theorem yn:∀(l:List aU),∃f,BM l=.mk f/\∀E t,f E t=bI (gz E.GL t) l
 |[]=>⟨_,rfl,fun _ _=>rfl⟩
 |x::l=>by obtain⟨f,hf,ui⟩:=pE x;obtain⟨g,hg,ym⟩:=yn l;have h:BM (x::l)=@Bx.rec (pD->T->V) (fun _=>Bx (pD->T->List V)) (fun f=>@Bx.rec (pD->T->List V) (fun _=>Bx (pD->T->List V)) (fun g=>.mk (fun E t=>f E t::g E t)) (BM l)) (wE x):=rfl;simp_all[bI]
abbrev OC:=pD->T->an->VK->Option XR
def js(r:Option (V×Wr))(H:an)(k:VK):Option XR:=match r with
 |some (v,wr)=>k v (bp H wr)
 |none=>none
def Ps(r:Option XR)(k:VK):Option XR:=match r with
 |some (v,H')=>k v H'
 |none=>none
noncomputable def Ih(x:aU)(F:(pD->T->V)->OC):Bx OC:=@Bx.rec (pD->T->V) (fun _=>Bx OC) (fun f=>.mk (F f)) (wE x)
noncomputable def LV(x y:aU)(F:(pD->T->V)->(pD->T->V)->OC):Bx OC:=@Bx.rec (pD->T->V) (fun _=>Bx OC) (fun f=>@Bx.rec (pD->T->V) (fun _=>Bx OC) (fun g=>.mk (F f g)) (wE y)) (wE x)
theorem ob{x:aU}{F:(pD->T->V)->OC}:∃f,Ih x F=.mk (F f)/\∀E t,f E t=gz E.GL t x:=by obtain⟨f,hf,ui⟩:=pE x;exact⟨f,by unfold Ih;rw[hf],ui⟩
theorem s9{x y:aU}{F:(pD->T->V)->(pD->T->V)->OC}:∃f g,LV x y F=.mk (F f g)/\(∀E t,f E t=gz E.GL t x)/\∀E t,g E t=gz E.GL t y:=by obtain⟨f,hf,ui⟩:=pE x;obtain⟨g,hg,ym⟩:=pE y;exact⟨f,g,by unfold LV;rw[hf,hg],ui,ym⟩
noncomputable def DW(own:List Nat)(dst:Option Nat)(op:jv):Bx OC:=match op with
 | .mv x=>Ih x fun f E t H k=>k (f E t) H
 | .load n agg a=>Ih a fun f E t H k=>js (BC H n agg (f E t)) H k
 | .store n a x=>LV a x fun f g E t H k=>js (wy H n (f E t) (g E t)) H k
 | .bin op x y=>LV x y fun f g E t H k=>js (x7 op (f E t) (g E t)) H k
 | .eq neg kk x y=>LV x y fun f g E t H k=>js (Ua H neg kk (f E t) (g E t)) H k
 | .un op x=>Ih x fun f E t H k=>js (Ub op (f E t)) H k
 | .kE x=>Ih x fun f E t H k=>js (LL (f E t)) H k
 | .N1 off n agg x=>Ih x fun f E t H k=>js (H8 off n agg (f E t)) H k
 | .dm off n x=>Ih x fun f E t H k=>js (Ak off n (f E t)) H k
 | .bj sz x i=>LV x i fun f g E t H k=>js (Al H sz (f E t) (g E t)) H k
 | .iB x i=>LV x i fun f g E t H k=>js (E8 (f E t) (g E t)) H k
 | .ext x i=>Ih x fun f E t H k=>js (H9 (f E t) i) H k
 | .call f args=>@Bx.rec (pD->T->List V) (fun _=>Bx OC) (fun a=>.mk fun E t H k=>Ps (pw E.call f (a E t) H) k) (BM args)
 |op=>.mk fun E t H k=>Pq own E.GL E.call dst op t H k
theorem LW(own:List Nat)(dst:Option Nat)(op:jv):∃f,DW own dst op=.mk f/\∀E t H k,f E t H k=Pq own E.GL E.call dst op t H k:=by
 cases op with
  |mv x=>obtain⟨f,h,hf⟩:=ob (x:=x) (F:=fun f E t H k=>k (f E t) H);exact⟨_,h,fun E t H k=>by simp only[hf];rfl⟩
  |load n agg a=>obtain⟨f,h,hf⟩:=ob (x:=a) (F:=fun f E t H k=>js (BC H n agg (f E t)) H k);exact⟨_,h,fun E t H k=>by simp only[hf];rfl⟩
  |store n a x=>obtain⟨f,g,h,hf,hg⟩:=s9 (x:=a) (y:=x) (F:=fun f g E t H k=>js (wy H n (f E t) (g E t)) H k);exact⟨_,h,fun E t H k=>by simp only[hf,hg];rfl⟩
  |bin op x y=>obtain⟨f,g,h,hf,hg⟩:=s9 (x:=x) (y:=y) (F:=fun f g E t H k=>js (x7 op (f E t) (g E t)) H k);exact⟨_,h,fun E t H k=>by simp only[hf,hg];rfl⟩
  |eq neg kk x y=>obtain⟨f,g,h,hf,hg⟩:=s9 (x:=x) (y:=y) (F:=fun f g E t H k=>js (Ua H neg kk (f E t) (g E t)) H k);exact⟨_,h,fun E t H k=>by simp only[hf,hg];rfl⟩
  |un op x=>obtain⟨f,h,hf⟩:=ob (x:=x) (F:=fun f E t H k=>js (Ub op (f E t)) H k);exact⟨_,h,fun E t H k=>by simp only[hf];rfl⟩
  |kE x=>obtain⟨f,h,hf⟩:=ob (x:=x) (F:=fun f E t H k=>js (LL (f E t)) H k);exact⟨_,h,fun E t H k=>by simp only[hf];rfl⟩
  |N1 off n agg x=>obtain⟨f,h,hf⟩:=ob (x:=x) (F:=fun f E t H k=>js (H8 off n agg (f E t)) H k);exact⟨_,h,fun E t H k=>by simp only[hf];rfl⟩
  |dm off n x=>obtain⟨f,h,hf⟩:=ob (x:=x) (F:=fun f E t H k=>js (Ak off n (f E t)) H k);exact⟨_,h,fun E t H k=>by simp only[hf];rfl⟩
  |bj sz x i=>obtain⟨f,g,h,hf,hg⟩:=s9 (x:=x) (y:=i) (F:=fun f g E t H k=>js (Al H sz (f E t) (g E t)) H k);exact⟨_,h,fun E t H k=>by simp only[hf,hg];rfl⟩
  |iB x i=>obtain⟨f,g,h,hf,hg⟩:=s9 (x:=x) (y:=i) (F:=fun f g E t H k=>js (E8 (f E t) (g E t)) H k);exact⟨_,h,fun E t H k=>by simp only[hf,hg];rfl⟩
  |ext x i=>obtain⟨f,h,hf⟩:=ob (x:=x) (F:=fun f E t H k=>js (H9 (f E t) i) H k);exact⟨_,h,fun E t H k=>by simp only[hf];rfl⟩
  |call f args=>
   obtain⟨a,ha,ha2⟩:=yn args;refine⟨fun E t H k=>Ps (pw E.call f (a E t) H) k,?_,?_ ⟩
   ·simp_all[DW]
   ·intro E t H k;simp only[ha2];rfl
  |_=>exact⟨_,rfl,fun _ _ _ _=>rfl⟩
abbrev SC:=pD->T->an->KN->Option XR
noncomputable def LX(n:Nat)(dst:Option Nat):Bx (V->T->an->KN->Option XR):=match dst with
 |none=>.mk fun _ t H k=>k t H
 |some d=>@Bool.rec (fun _=>Bx (V->T->an->KN->Option XR)) (.mk fun _ _ _ _=>none) (@Bx.rec (T->V->T) (fun _=>Bx (V->T->an->KN->Option XR)) (fun s=>.mk fun v t H k=>k (s t v) H) (Ig 12 d)) (Nat.blt d n)
theorem Ii(n:Nat)(dst:Option Nat):∃f,LX n dst=.mk f/\∀v t H k,f v t H k=CZ n dst v t H k:=by
 cases dst with
  |none=>exact⟨_,rfl,fun _ _ _ _=>rfl⟩
  |some d=>
   simp only[LX,CZ];cases h:Nat.blt d n with
    |false=>grind
    |true=>obtain⟨s,hs,BH⟩:=BL 12 d;simp only[hs];exact⟨_,rfl,fun v t H k=>by simp only[BH];rfl⟩
noncomputable def Ij(v:V)(Pt Pu:Option XR)(skip:Option XR):Option XR:=match v with
 | .d (.bool b)=>@Bool.rec (fun _=>Option XR) Pu Pt b
 | .tuple []=>skip
 |_=>none
noncomputable def BN(own:List Nat)(n:Nat)(o:ab):Bx SC:=match o with
 |⟨dst,op,gd,_⟩=>
  @Bx.rec OC (fun _=>Bx SC) (fun f=>
   @Bx.rec (V->T->an->KN->Option XR) (fun _=>Bx SC) (fun p=>
    match gd with
     |none=>.mk fun E t H k=>f E t H (fun v H'=>p v t H' k)
     |some (d,nR)=>
      @Bx.rec (T->V) (fun _=>Bx SC) (fun g=>
       match nR with
        |true=>.mk fun E t H k=>Ij (g t) (f E t H (fun v H'=>p v t H' k)) (p (.tuple []) t H k) (p (.tuple []) t H k)
        |false=>.mk fun E t H k=>Ij (g t) (p (.tuple []) t H k) (f E t H (fun v H'=>p v t H' k)) (p (.tuple []) t H k)) (C2 12 d)) (LX n dst)) (DW own dst op)
theorem Fj(own:List Nat)(n:Nat)(o:ab):∃f,BN own n o=.mk f/\∀E t H k,f E t H k=pA own E.GL E.call n o t H k:=by
 obtain⟨dst,op,gd,af⟩:=o;obtain⟨f,hf,ui⟩:=LW own dst op;obtain⟨p,hp,HS⟩:=Ii n dst;simp only[BN,hf,hp];cases gd with
  |none=>simp_all[pA,qq]
  |some q=>
   obtain⟨d,nR⟩:=q;obtain⟨g,hg,ym⟩:=wD 12 d;simp only[hg];cases nR with
    |true=>
     refine⟨_,rfl,fun E t H k=>?_ ⟩;simp only[pA,qq,Ij,ui,HS,ym];generalize eQ t d=v;cases v with
      |d x=>
       cases x with
        |bool b=>cases b<;>rfl
        |_=>rfl
      |tuple vs=>grind
      |_=>rfl
    |false=>
     refine⟨_,rfl,fun E t H k=>?_ ⟩;simp only[pA,qq,Ij,ui,HS,ym];generalize eQ t d=v;cases v with
      |d x=>
       cases x with
        |bool b=>cases b<;>rfl
        |_=>rfl
      |tuple vs=>grind
      |_=>rfl
noncomputable def C3(own:List Nat)(n:Nat)(l:List ab):Bx SC:=@List.rec ab (fun _=>Bx SC) (.mk fun _ t H k=>k t H) (fun o _ ih=>@Bx.rec SC (fun _=>Bx SC) (fun f=>@Bx.rec SC (fun _=>Bx SC) (fun g=>.mk fun E t H k=>f E t H (fun t' H'=>g E t' H' k)) ih) (BN own n o)) l
theorem wF(own:List Nat)(n:Nat):∀(l:List ab),∃f,C3 own n l=.mk f/\∀E t H k,f E t H k=pB own E.GL E.call n l t H k
 |[]=>⟨_,rfl,fun _ _ _ _=>rfl⟩
 |o::l=>by obtain⟨f,hf,ui⟩:=Fj own n o;obtain⟨g,hg,ym⟩:=wF own n l;have h:C3 own n (o::l)=@Bx.rec SC (fun _=>Bx SC) (fun f=>@Bx.rec SC (fun _=>Bx SC) (fun g=>.mk fun E t H k=>f E t H (fun t' H'=>g E t' H' k)) (C3 own n l)) (BN own n o):=rfl;rw[h,hf,hg];exact⟨_,rfl,fun E t H k=>by simp only[ui,ym];rfl⟩
abbrev CC:=pD->T->an->KN->(Nat->KN)->KN->Option XR
noncomputable def C4(own:List Nat)(m n:Nat)(c:IR):Bx CC:=@IR.rec (fun _=>Bx CC) (.mk fun _ t H kn _ _=>kn t H) (fun l=>@Bx.rec SC (fun _=>Bx CC) (fun f=>.mk fun E t H kn _ _=>f E t H kn) (C3 own n l)) (fun l=>.mk fun E t H kn _ _=>qv own E.GL E.call E.aH n l t H kn) (fun _ _ ia ib=>@Bx.rec CC (fun _=>Bx CC) (fun f=>@Bx.rec CC (fun _=>Bx CC) (fun g=>.mk fun E t H kn ke kr=>f E t H (fun t' H'=>g E t' H' kn ke kr) ke kr) ib) ia) (fun c _ _ ia ib=>@Bx.rec (pD->T->V) (fun _=>Bx CC) (fun x=>@Bx.rec CC (fun _=>Bx CC) (fun f=>@Bx.rec CC (fun _=>Bx CC) (fun g=>.mk fun E t H kn ke kr=>ao (x E t) (f E t H kn ke kr) (g E t H kn ke kr)) ib) ia) (wE c)) (fun id _ ib=>@Bx.rec CC (fun _=>Bx CC) (fun f=>.mk fun E t H kn ke kr=>f E t H kn (fun i t' H'=>bif Nat.beq i id then kn t' H' else ke i t' H') kr) ib) (fun _ ib=>@Bx.rec CC (fun _=>Bx CC) (fun f=>.mk fun E t H _ ke kr=>qZ (f E) m t H ke kr) ib) (fun id=>.mk fun _ t H _ ke _=>ke id t H) (.mk fun _ t H _ _ kr=>kr t H) (fun f ps ca cb=>.mk fun E t H kn ke kr=>n9 E.GL E.call n f ps ca cb t H kn ke kr) c
theorem oc(own:List Nat)(m n:Nat):∀(c:IR),∃f,C4 own m n c=.mk f/\∀E t H kn ke kr,f E t H kn ke kr=eK own E.GL E.call E.aH m n c t H kn ke kr
 | .skip=>⟨_,rfl,fun _ _ _ _ _ _=>rfl⟩
 | .region l=>by obtain⟨f,hf,ui⟩:=wF own n l;have h:C4 own m n (.region l)=@Bx.rec SC (fun _=>Bx CC) (fun f=>.mk fun E t H kn _ _=>f E t H kn) (C3 own n l):=rfl;rw[h,hf];exact⟨_,rfl,fun E t H kn ke kr=>by simp only[ui];rfl⟩
 | .draw l=>⟨_,rfl,fun _ _ _ _ _ _=>rfl⟩
 | .seq a b=>by obtain⟨f,hf,ui⟩:=oc own m n a;obtain⟨g,hg,ym⟩:=oc own m n b;have h:C4 own m n (.seq a b)=@Bx.rec CC (fun _=>Bx CC) (fun f=>@Bx.rec CC (fun _=>Bx CC) (fun g=>.mk fun E t H kn ke kr=>f E t H (fun t' H'=>g E t' H' kn ke kr) ke kr) (C4 own m n b)) (C4 own m n a):=rfl;rw[h,hf,hg];exact⟨_,rfl,fun E t H kn ke kr=>by simp only[ui,ym];rfl⟩
 | .cond c a b=>by obtain⟨x,hx,nb⟩:=pE c;obtain⟨f,hf,ui⟩:=oc own m n a;obtain⟨g,hg,ym⟩:=oc own m n b;have h:C4 own m n (.cond c a b)=@Bx.rec (pD->T->V) (fun _=>Bx CC) (fun x=>@Bx.rec CC (fun _=>Bx CC) (fun f=>@Bx.rec CC (fun _=>Bx CC) (fun g=>.mk fun E t H kn ke kr=>ao (x E t) (f E t H kn ke kr) (g E t H kn ke kr)) (C4 own m n b)) (C4 own m n a)) (wE c):=rfl;rw[h,hx,hf,hg];exact⟨_,rfl,fun E t H kn ke kr=>by simp only[nb,ui,ym];rfl⟩
 | .block id b=>by obtain⟨f,hf,ui⟩:=oc own m n b;have h:C4 own m n (.block id b)=@Bx.rec CC (fun _=>Bx CC) (fun f=>.mk fun E t H kn ke kr=>f E t H kn (fun i t' H'=>bif Nat.beq i id then kn t' H' else ke i t' H') kr) (C4 own m n b):=rfl;rw[h,hf];exact⟨_,rfl,fun E t H kn ke kr=>by simp only[ui];rfl⟩
 | .loop b=>by
  obtain⟨f,hf,ui⟩:=oc own m n b;have h:C4 own m n (.loop b)=@Bx.rec CC (fun _=>Bx CC) (fun f=>.mk fun E t H _ ke kr=>qZ (f E) m t H ke kr) (C4 own m n b):=rfl;rw[h,hf];refine⟨_,rfl,fun E t H kn ke kr=>?_ ⟩;have e:f E=eK own E.GL E.call E.aH m n b:=funext fun t=>funext fun H=>funext fun kn=>funext fun ke=>funext fun kr=>ui E t H kn ke kr
  show qZ (f E) m t H ke kr=qZ (eK own E.GL E.call E.aH m n b) m t H ke kr;rw[e]
 | .exit id=>⟨_,rfl,fun _ _ _ _ _ _=>rfl⟩
 | .ret=>⟨_,rfl,fun _ _ _ _ _ _=>rfl⟩
 | .cZ f ps ca cb=>⟨_,rfl,fun _ _ _ _ _ _=>rfl⟩
noncomputable def s_(own:List Nat)(GL:bM)(call:aY)(aH:ba)(m n:Nat)(c:IR)(t:T)(H:an)(kn:KN)(ke:Nat->KN)(kr:KN):Option XR:=@Bx.rec CC (fun _=>Option XR) (fun f=>f ⟨GL,call,aH⟩ t H kn ke kr) (C4 own m n c)
theorem yo(own:List Nat)(GL:bM)(call:aY)(aH:ba)(m n:Nat)(c:IR):s_ own GL call aH m n c=eK own GL call aH m n c:=by obtain⟨f,hf,ui⟩:=oc own m n c;funext t H kn ke kr;unfold s_;simp_all
noncomputable def wG(cc:Code->Option IR)(GL:bM)(call:aY)(aH:ba)(m:Nat)(args:List V)(H:an):Option XR:=match args with
 | .gI b::as=>
  match aC H b with
   |some (.loop n tm ps ca cb .ready)=>
    match cc ca,cc cb with
     |some ia,some ib=>
      bif Nat.beq as.length ps.length&&ps.all (fun p=>Nat.blt p n)&&Nat.ble n fW&&dP ia&&dP ib&&lg (ic tm ps as)then
       s_ [] GL call aH m n ia (sW (ic tm ps as)) H (fun t H1=>
        match aC H1 b with
         |some (.loop n1 kR mH mI mJ .ready)=>s_ [] GL call aH m n ib t (aR H1 b (.loop n1 kR mH mI mJ .busy)) (fun _ H2=>yj b .normal H2) (fun i _ H2=>yj b (.exit i) H2) (fun _ H2=>yj b .ret H2)
         |_=>none) (fun _ _ _=>none) (fun _ _=>none)
      else none
     |_,_=>none
   |_=>none
 |_=>none
theorem C5(cc:Code->Option IR)(GL:bM)(call:aY)(aH:ba)(m:Nat):wG cc GL call aH m=n_ cc GL call aH m:=by funext args H;unfold wG n_;simp only[yo]<;>rfl
noncomputable def Ao(cc:Code->Option IR)(ep:FuncId->List Nat)(GL:bM)(q0:FT bL)(mk:aY->aY)(oa:aY->ba)(m:Nat)(d:Nat):aY:=@Nat.rec (fun _=>aY) (fun _ _ _=>none) (fun _ ih f args H=>
 bif Nat.beq f j8 then wG cc GL (mk ih) (oa ih) m args H else
  match mc q0 f with
   |none=>none
   |some fn=>bif Nat.ble args.length fn.ntmps&&Nat.ble fn.ntmps fW then s_ (ep f) GL (mk ih) (oa ih) m fn.ntmps fn.body (nD 0 args .e) H (fun t H=>pC fn.res t H) (fun _ _ _=>none) (fun t H=>pC fn.res t H)else none) d
theorem wH(cc:Code->Option IR)(ep:FuncId->List Nat)(GL:bM)(q0:FT bL)(mk:aY->aY)(oa:aY->ba)(m:Nat):∀d,Ao cc ep GL q0 mk oa m d=sX cc ep GL q0 mk oa m d
 |0=>rfl
 |d+1=>by
  have ih:=wH cc ep GL q0 mk oa m d;funext f args H;show(bif Nat.beq f j8 then wG cc GL (mk (Ao cc ep GL q0 mk oa m d)) (oa (Ao cc ep GL q0 mk oa m d)) m args H else
   match mc q0 f with
    |none=>none
    |some fn=>bif Nat.ble args.length fn.ntmps&&Nat.ble fn.ntmps fW then s_ (ep f) GL (mk (Ao cc ep GL q0 mk oa m d)) (oa (Ao cc ep GL q0 mk oa m d)) m fn.ntmps fn.body (nD 0 args .e) H (fun t H=>pC fn.res t H) (fun _ _ _=>none) (fun t H=>pC fn.res t H)else none)=(bif Nat.beq f j8 then n_ cc GL (mk (sX cc ep GL q0 mk oa m d)) (oa (sX cc ep GL q0 mk oa m d)) m args H else
   match mc q0 f with
    |none=>none
    |some fn=>bif Nat.ble args.length fn.ntmps&&Nat.ble fn.ntmps fW then eK (ep f) GL (mk (sX cc ep GL q0 mk oa m d)) (oa (sX cc ep GL q0 mk oa m d)) m fn.ntmps fn.body (nD 0 args .e) H (fun t H=>pC fn.res t H) (fun _ _ _=>none) (fun t H=>pC fn.res t H)else none)
  rw[ih,C5];simp only[yo]
end Fw
/-
  Operations by the quicker run, and the code behind them.
-/
namespace Fw
open Go
section
variable {P:Program}{GL:bM}
theorem WO.dW{l:List ab}{n:Nat}{tm eT:List (Nat×V)}{H:an}{Q:St->Prop}(hw:∀s,get eT s=get tm s\/get eT s=.any)(h:WO P GL l ⟨n,eT,H⟩ Q):WO P GL l ⟨n,tm,H⟩ Q:=fun ro ops k h1 g w a hr=>h ro ops k h1 g w a (hr.dW hw)
noncomputable def u7(own:List Nat)(GL:bM)(call:aY)(aH:ba)(n:Nat)(l:List ab)(t:T)(H:an)(k:KN):Option XR:=@Bx.rec SC (fun _=>Option XR) (fun f=>f ⟨GL,call,aH⟩ t H k) (C3 own n l)
theorem ta(own:List Nat)(GL:bM)(call:aY)(aH:ba)(n:Nat)(l:List ab):u7 own GL call aH n l=pB own GL call n l:=by obtain⟨f,hf,ui⟩:=wF own n l;funext t H k;unfold u7;simp_all
end
end Fw
/-
  Walks with symbolic values: branches at a truth value, runs of pieces told by a few slots, results.
-/
namespace Fw
open Go
def nn(k:Nat)(H:an):an:=List.replicate k none++H
section
variable {P:Program}{GL:bM}
variable {Q:Ex->St->Prop}{σ:St}{id:Nat}{b:IR}{v:V}
theorem WC.ay{c:aU}{a d:IR}{b:Bool}(h:b=true)(ht:aT GL σ.tm c=.d (.bool b))(h1:WC P GL a σ Q):WC P GL (.cond c a d) σ Q:=by subst h;exact WC.cond ht h1
theorem WC.ao{c:aU}{a d:IR}{b:Bool}(h:b=false)(ht:aT GL σ.tm c=.d (.bool b))(h1:WC P GL d σ Q):WC P GL (.cond c a d) σ Q:=by subst h;exact WC.cond ht h1
def eu(id:Nat)(Q:Ex->St->Prop):Ex->St->Prop| .exit i,s=>if i=id then Q .normal s else Q (.exit i) s| .normal,s=>Q .normal s| .ret,s=>Q .ret s
theorem eu.exit{s:St}(h:Q .normal s):eu id Q (.exit id) s:=by grind[eu]
theorem eu.other{i:Nat}{s:St}(hn:i≠id)(h:Q (.exit i) s):eu id Q (.exit i) s:=by grind[eu]
theorem eu.normal{s:St}(h:Q .normal s):eu id Q .normal s:=h
theorem eu.ret{s:St}(h:Q .ret s):eu id Q .ret s:=h
theorem WC.LY(h:WC P GL b σ (eu id Q)):WC P GL (.block id b) σ Q:=WC.block (WC.mono h fun e s hq=>by cases e<;>exact hq)
def lB(P:Program)(GL:bM)(b:IR)(Q:Ex->St->Prop):Nat->St->Prop|0,_=>False|n+1,s=>WC P GL b s (fun e s'=>match e with| .normal=>lB P GL b Q n s'|e=>Q e s')
theorem lB.step{n:Nat}{s:St}(h:WC P GL b s (fun e s'=>match e with| .normal=>lB P GL b Q n s'|e=>Q e s')):lB P GL b Q (n+1) s:=h
theorem lB.wc{n:Nat}{s:St}(h:lB P GL b Q n s):WC P GL (.loop b) s Q:=WC.loop (fun m s=>lB P GL b Q m s) (fun m s hm=>by
 cases m with
  |zero=>grind[lB]
  |succ m=>
   refine WC.mono hm fun e s' hq=>?_
   grind) h
def me(rs:List iQ)(v:V):Ex->St->Prop| .exit _,_=>False|_,σ=>(h_ rs σ).bind (fA σ.hp)=some v
theorem me.ret{rs:List iQ}{v':V}(h:(h_ rs σ).bind (fA σ.hp)=some v')(e:v'=v):me rs v .ret σ:=by subst e;exact h
theorem me.normal{rs:List iQ}{v':V}(h:(h_ rs σ).bind (fA σ.hp)=some v')(e:v'=v):me rs v .normal σ:=by subst e;exact h
theorem PC.Pv{f:FuncId}{fn:bL}{args:List V}(hf:au P f=some fn)(uM:al P f=true)(hc:(Nat.ble args.length fn.ntmps&&aJ 0 args)=true)(h:WC P GL fn.body ⟨fn.ntmps,ry 0 args,[]⟩ (me fn.res v)):PC P GL f args v:=by
 rw[aas]at hc;refine PC.body hf uM (aax hc.1) hc.2 (WC.mono h fun e s hq=>?_ );cases e with
  |normal=>exact hq
  |exit i=>exact hq
  |ret=>exact hq
theorem pF:∀(tm:List (Nat×V)),wC (tm.map Prod.fst) (tm.map Prod.snd)=tm|[]=>rfl|(k,v)::l=>by simp[wC,pF l]
noncomputable def VL(own:List Nat)(GL:bM)(call:aY)(aH:ba)(n:Nat)(c:IR)(ks:List Nat)(tm:List (Nat×V))(H:an):Option XR:=bif Nat.ble n fW&&lg tm then s_ own GL call aH 1000 n c (sW tm) H (fun t H=>some (.tuple (ks.map (eQ t)),H)) (fun _ _ _=>none) (fun _ _=>none)else none
theorem qw{own:List Nat}{call:aY}(hc:ct P GL call){n:Nat}(hn:n<=fW){l2:List ab}{Q:St->Prop}:∀{l:List ab}{t:T}{H:an}{k:KN}{x:XR}{tm:List (Nat×V)},ka tm t->pB own GL call n l t H k=some x->(∀a7 t' H',ka a7 t'->k t' H'=some x->WO P GL l2 ⟨n,a7,H'⟩ Q)->WO P GL (l++l2) ⟨n,tm,H⟩ Q
 |[],t,H,k,x,tm,hs,h,hq=>hq tm t H hs h
 |o::l,t,H,k,x,tm,hs,h,hq=>by
  have h:pA own GL call n o t H (fun t' H'=>pB own GL call n l t' H' k)=some x:=h;obtain⟨dst,op,gd,af⟩:=o;simp only[pA]at h;rcases u5 hs h with⟨hg,h⟩|⟨hg,h⟩
  ·obtain⟨v,H',h1,h2⟩:=E_ (n:=n) (af:=af) hc hs hg h;obtain⟨a7,t',jq,h3,h4⟩:=rU hn hs h1;exact h2 _ _ _ (h4 H) (qw hc hn jq h3 hq)
  ·obtain⟨a7,t',jq,h3,h4⟩:=rU hn hs h;exact WO.skip hg (h4 H) (qw hc hn jq h3 hq)
theorem WO.head{o:ab}{l:List ab}{Q:St->Prop}(ho:l.head?=some o)(h:WO P GL (o::l.drop 1) σ Q):WO P GL l σ Q:=by cases l<;>grind
end
end Fw
/-
  Drawn regions whose calls may look into own rows of data.
-/
/-
  Drawn regions with values that hypotheses settle, and calls that summaries answer.
-/
namespace Fw
open Go
section
variable {P:Program}{GL:bM}
def yp(own:List Nat)(GL:bM)(dc:gy)(ov:List (Nat×Bool))(sp:List (Nat×V))(n:Nat)(l:List ab)(ks:List Nat)(tm:List (Nat×V))(H:an):Option (List V×an×List (Bool×Bool)×lz):=match nG own GL dc ov sp H.length 0 l ⟨n,tm,H++List.replicate l.length none⟩with
 |none=>none
 |some (qs,cs,calls)=>bif dU l (qs.map (·.1))&&gg n l&&eP (H.length+l.length) (qs.map (·.1))then(match aL (fun _=>true) 0 l (qs.map (·.1)) ⟨n,tm,H++List.replicate l.length none⟩with|⟨_,eT,H2⟩=>some (ks.map (get eT),H2,cs,calls))else none
theorem u9{tm:List (Nat×V)}(s:Nat):∀(ks:List Nat),get (wC ks (ks.map (get tm))) s=get tm s\/get (wC ks (ks.map (get tm))) s=.any
 |[]=>.inr rfl
 |k::ks=>by
  simp only[aaB,wC,dy];by_cases e:k=s
  ·grind
  ·rw[aaH e];exact u9 s ks
theorem WC.Fk{own:List Nat}{dc:gy}(hm:P.follows .mixedOrders=true)(hp:mR P GL dc)(ov:List (Nat×Bool))(sp:List (Nat×V)){n:Nat}{l:List ab}{tm a7:List (Nat×V)}{H H':an}{cs:List (Bool×Bool)}{calls:lz}{Q:Ex->St->Prop}(h:yp own GL dc ov sp n l (a7.map Prod.fst) tm H=some (a7.map Prod.snd,H',cs,calls))(nS:lA cs)(ky:nH P GL calls)(hq:Q .normal ⟨n,a7,H'⟩):WC P GL (.draw l) ⟨n,tm,H⟩ Q:=by
 unfold yp at h;split at h
 ·cases h
 ·rename_i qs sf LO Hy;cases hb:(dU l (qs.map (·.1))&&gg n l&&eP (H.length+l.length) (qs.map (·.1)))with
   |false=>grind
   |true=>rw[hb,aaw]at h;simp only[aar,aav]at h;obtain⟨h1,rfl,rfl,rfl⟩:=h;have hw:WC P GL (.draw l) ⟨n,tm,H⟩ (fun e s=>e=.normal/\s=aL (fun _=>true) 0 l (qs.map (·.1)) ⟨n,tm,H++List.replicate l.length none⟩):=WC.Fa hm hp Hy hb nS ky ⟨rfl,rfl⟩;have HR:(aL (fun _=>true) 0 l (qs.map (·.1)) ⟨n,tm,H++List.replicate l.length none⟩).n=n:=jE;generalize aL (fun _=>true) 0 l (qs.map (·.1)) ⟨n,tm,H++List.replicate l.length none⟩=σF at hw HR h1 hq;obtain⟨n2,eT,H2⟩:=σF;simp only at HR h1 hq;subst HR;refine WC.post (hw.mono ?_ );rintro e s ⟨rfl,rfl⟩;refine⟨_,ax.dW (eT:=a7) (fun s=>?_ ),hq⟩;rw[←pF a7,←h1];exact u9 s _
end
end Fw
/-
  Runs step by step over code and what waits behind it: from one point of a function to another.
-/
namespace Fw
open Go
inductive Fr where
 |seq (b:IR)
 |block (id:Nat)
 |loop (n:Nat) (b:IR)
inductive lI where
 |code (c:IR)
 |ops (l:List ab)
 |out (e:Ex)
section
variable {P:Program}{GL:bM}
variable {K:List Fr}{n:Nat}{tm:List (Nat×V)}{H:an}{Q:Ex->St->Prop}{v:V}
def KQ(P:Program)(GL:bM):List Fr->(Ex->St->Prop)->Ex->St->Prop
 |[],Q=>Q
 | .seq b::K,Q=>
  fun e s=>
   match e with
    | .normal=>WC P GL b s (KQ P GL K Q)
    |e=>KQ P GL K Q e s
 | .block id::K,Q=>eu id (KQ P GL K Q)
 | .loop n b::K,Q=>
  fun e s=>
   match e with
    | .normal=>lB P GL b (KQ P GL K Q) n s
    |e=>KQ P GL K Q e s
def CG(P:Program)(GL:bM)(cur:lI)(K:List Fr)(n:Nat)(tm:List (Nat×V))(H:an)(Q:Ex->St->Prop):Prop:=match cur with
 | .code c=>WC P GL c ⟨n,tm,H⟩ (KQ P GL K Q)
 | .ops l=>WO P GL l ⟨n,tm,H⟩ (fun σ=>KQ P GL K Q .normal σ)
 | .out e=>KQ P GL K Q e ⟨n,tm,H⟩
def Pw(go:lI->List Fr->Option (lI×List Fr))(e:Ex)(K:List Fr):Option (lI×List Fr):=match K with
 |[]=>none
 | .seq b::K=>
  (match e with
   | .normal=>go (.code b) K
   |e=>go (.out e) K)
 | .block id::K=>
  (match e with
   | .exit i=>bif Nat.beq i id then go (.out .normal) K else go (.out (.exit i)) K
   |e=>go (.out e) K)
 | .loop j b::K=>
  (match e with
   | .normal=>
    (match j with
     |0=>none
     |j+1=>go (.code b) (.loop j b::K))
   |e=>go (.out e) K)
def jc:Nat->List Bool->lI->List Fr->Option (lI×List Fr)
 |0,_,cur,K=>some (cur,K)
 |N+1,bs,cur,K=>
  match cur with
   | .code .skip=>jc N bs (.out .normal) K
   | .code (.seq a b)=>jc N bs (.code a) (.seq b::K)
   | .code (.region _)=>jc N bs (.out .normal) K
   | .code (.draw _)=>jc N bs (.out .normal) K
   | .code (.cond _ a b)=>
    (match bs with
     |true::bs=>jc N bs (.code a) K
     |false::bs=>jc N bs (.code b) K
     |[]=>none)
   | .code (.block id b)=>jc N bs (.code b) (.block id::K)
   | .code (.loop b)=>jc N bs (.code b) (.loop 40 b::K)
   | .code (.exit i)=>jc N bs (.out (.exit i)) K
   | .code .ret=>none
   | .code (.cZ _ _ _ _)=>none
   | .ops _=>jc N bs (.out .normal) K
   | .out e=>Pw (jc N bs) e K
noncomputable def JQ(v:V)(bs:List Bool)(a b:List Bool->Option XR):Option XR:=match v with
 | .d (.bool t)=>
  (match bs with
   |true::bs=>bif t then a bs else none
   |false::bs=>bif t then none else b bs
   |[]=>none)
 |_=>none
noncomputable def Py(go:lI->List Fr->Option XR)(e:Ex)(K:List Fr):Option XR:=match K with
 |[]=>none
 | .seq b::K=>
  (match e with
   | .normal=>go (.code b) K
   |e=>go (.out e) K)
 | .block id::K=>
  (match e with
   | .exit i=>bif Nat.beq i id then go (.out .normal) K else go (.out (.exit i)) K
   |e=>go (.out e) K)
 | .loop j b::K=>
  (match e with
   | .normal=>
    (match j with
     |0=>none
     |j+1=>go (.code b) (.loop j b::K))
   |e=>go (.out e) K)
noncomputable def xi(own:List Nat)(GL:bM)(call:aY)(aH:ba)(n:Nat)(k:lI->KN):Nat->List Bool->lI->List Fr->T->an->Option XR
 |0,_,cur,_,t,H=>k cur t H
 |N+1,bs,cur,K,t,H=>
  match cur with
   | .code .skip=>xi own GL call aH n k N bs (.out .normal) K t H
   | .code (.seq a b)=>xi own GL call aH n k N bs (.code a) (.seq b::K) t H
   | .code (.region l)=>u7 own GL call aH n l t H (fun t' H'=>xi own GL call aH n k N bs (.out .normal) K t' H')
   | .code (.draw l)=>qv own GL call aH n l t H (fun t' H'=>xi own GL call aH n k N bs (.out .normal) K t' H')
   | .code (.cond x a b)=>JQ (gz GL t x) bs (fun bs=>xi own GL call aH n k N bs (.code a) K t H) (fun bs=>xi own GL call aH n k N bs (.code b) K t H)
   | .code (.block id b)=>xi own GL call aH n k N bs (.code b) (.block id::K) t H
   | .code (.loop b)=>xi own GL call aH n k N bs (.code b) (.loop 40 b::K) t H
   | .code (.exit i)=>xi own GL call aH n k N bs (.out (.exit i)) K t H
   | .code .ret=>none
   | .code (.cZ _ _ _ _)=>none
   | .ops l=>u7 own GL call aH n l t H (fun t' H'=>xi own GL call aH n k N bs (.out .normal) K t' H')
   | .out e=>Py (fun cur K=>xi own GL call aH n k N bs cur K t H) e K
theorem Fl{own:List Nat}{call:aY}{aH:ba}(hm:P.follows .mixedOrders=true)(hc:ct P GL call)(hp:bG P GL aH){n:Nat}(hn:n<=fW){k:lI->KN}{x:XR}{zQ:lI}{K':List Fr}{Q:Ex->St->Prop}(hk:∀a7 t' H',ka a7 t'->k zQ t' H'=some x->CG P GL zQ K' n a7 H' Q):∀{N:Nat}{bs:List Bool}{cur:lI}{K:List Fr}{t:T}{H:an}{tm:List (Nat×V)},ka tm t->jc N bs cur K=some (zQ,K')->xi own GL call aH n k N bs cur K t H=some x->CG P GL cur K n tm H Q
 |0,bs,cur,K,t,H,tm,hs,h1,h2=>by simp only[jc,aar,aav]at h1;obtain⟨rfl,rfl⟩:=h1;exact hk tm t H hs h2
 |N+1,bs,cur,K,t,H,tm,hs,h1,h2=>by
  have ih:=fun{bs cur K t H tm}=>@Fl own call aH hm hc hp n hn k x zQ K' Q hk N bs cur K t H tm
  cases cur with
   |code c=>
    cases c with
     |skip=>exact WC.skip (ih hs h1 h2)
     |seq a b=>have:=ih hs (show jc N bs (.code a) (.seq b::K)=_ from h1) h2;exact WC.seq (WC.mono this fun e s hq=>by cases e<;>exact hq)
     |region l=>simp only[xi]at h2;rw[ta]at h2;obtain⟨a7,t',H',jq,hw,kx⟩:=kb hc hn hs h2;refine WC.region (hw.mono ?_ );rintro s rfl;exact ih jq (show jc N bs (.out .normal) K=_ from h1) kx
     |draw l=>simp only[xi]at h2;obtain⟨a7,t',H',jq,hw,kx⟩:=u6 hm hc hp hn hs h2;refine WC.mono hw ?_;rintro e s ⟨rfl,rfl⟩;exact ih jq (show jc N bs (.out .normal) K=_ from h1) kx
     |cond c a b=>
      simp only[xi]at h2;simp only[jc]at h1;rw[mT hs]at h2;unfold JQ at h2;split at h2
      ·rename_i tb ZJ;cases bs with
        |nil=>cases h2
        |cons b0 bs=>
         cases b0 with
          |true=>
           cases tb with
            |true=>exact WC.cond (t:=true) ZJ (ih hs h1 h2)
            |false=>cases h2
          |false=>
           cases tb with
            |true=>cases h2
            |false=>exact WC.cond (t:=false) ZJ (ih hs h1 h2)
      ·cases h2
     |block id b=>exact WC.LY (ih hs (show jc N bs (.code b) (.block id::K)=_ from h1) h2)
     |loop b=>have:=ih hs (show jc N bs (.code b) (.loop 40 b::K)=_ from h1) h2;exact lB.wc (n:=41) (lB.step (WC.mono this fun e s hq=>by cases e<;>exact hq))
     |exit i=>exact WC.exit (ih hs (show jc N bs (.out (.exit i)) K=_ from h1) h2)
     |ret=>cases h1
     |cZ f ps ca cb=>cases h1
   |ops l=>simp only[xi]at h2;rw[ta]at h2;obtain⟨a7,t',H',jq,hw,kx⟩:=kb hc hn hs h2;refine hw.mono ?_;rintro s rfl;exact ih jq (show jc N bs (.out .normal) K=_ from h1) kx
   |out e=>
    simp only[jc]at h1;simp only[xi]at h2;unfold Pw at h1;unfold Py at h2;cases K with
     |nil=>cases h1
     |cons f K=>
      cases f with
       |seq b=>
        cases e with
         |normal=>exact ih (cur:=.code b) (K:=K) hs h1 h2
         |exit i=>exact ih (cur:=.out (.exit i)) (K:=K) hs h1 h2
         |ret=>exact ih (cur:=.out .ret) (K:=K) hs h1 h2
       |block id=>
        cases e with
         |normal=>exact ih (cur:=.out .normal) (K:=K) hs h1 h2
         |ret=>exact ih (cur:=.out .ret) (K:=K) hs h1 h2
         |exit i=>
          simp only at h1 h2;show eu id (KQ P GL K Q) (.exit i) _;cases hb:Nat.beq i id with
           |true=>rw[hb]at h1 h2;have:i=id:=aau hb;subst this;exact eu.exit (ih (cur:=.out .normal) (K:=K) hs h1 h2)
           |false=>
            rw[hb]at h1 h2;have hO:i≠id:=fun e=>by simp_all
            exact eu.other hO (ih (cur:=.out (.exit i)) (K:=K) hs h1 h2)
       |loop j b=>
        cases e with
         |normal=>
          cases j with
           |zero=>cases h1
           |succ j=>have:=ih (cur:=.code b) (K:=.loop j b::K) hs h1 h2;exact lB.step (WC.mono this fun e s hq=>by cases e<;>exact hq)
         |ret=>exact ih (cur:=.out .ret) (K:=K) hs h1 h2
         |exit i=>exact ih (cur:=.out (.exit i)) (K:=K) hs h1 h2
def u_:lI->List ab| .code (.region l)=>l| .ops l=>l|_=>[]
def Pz(j:Nat)(c:lI):lI:=match j with
 |0=>c
 |_=>.ops ((u_ c).drop j)
def Fm:lI->Bool| .code (.region _)=>true| .ops _=>true|_=>false
def yq:lI->Bool| .out _=>true|_=>false
def dz(N j:Nat)(bs:List Bool)(cur:lI)(K:List Fr):Option (lI×List Fr):=match jc N bs cur K with
 |some (c,K')=>bif (Nat.beq j 0&& !yq c)||(!Nat.beq j 0&&Fm c)then some (Pz j c,K')else none
 |none=>none
noncomputable def yr(own:List Nat)(GL:bM)(call:aY)(aH:ba)(n:Nat)(N j:Nat)(bs:List Bool)(cur:lI)(K:List Fr)(ks:List Nat)(tm:List (Nat×V))(H:an):Option XR:=bif Nat.ble n fW&&lg tm then
 xi own GL call aH n (fun c t H=>
  match j with
   |0=>some (.tuple (ks.map (eQ t)),H)
   |j+1=>u7 own GL call aH n ((u_ c).take (j+1)) t H (fun t H=>some (.tuple (ks.map (eQ t)),H))) N bs cur K (sW tm) H else none
theorem CG.dW{cur:lI}(hc:yq cur=false){eT:List (Nat×V)}(hw:∀s,get eT s=get tm s\/get eT s=.any)(h:CG P GL cur K n eT H Q):CG P GL cur K n tm H Q:=by
 cases cur with
  |code c=>exact WC.dW hw h
  |ops l=>exact WO.dW hw h
  |out e=>cases hc
theorem CG.st{own:List Nat}{call:aY}{aH:ba}(hm:P.follows .mixedOrders=true)(hc:ct P GL call)(hp:bG P GL aH)(N j:Nat)(bs:List Bool){cur c':lI}{K':List Fr}{a7:List (Nat×V)}{H':an}(h1:dz N j bs cur K=some (c',K'))(h2:yr own GL call aH n N j bs cur K (a7.map Prod.fst) tm H=some (.tuple (a7.map Prod.snd),H'))(hq:CG P GL c' K' n a7 H' Q):CG P GL cur K n tm H Q:=by
 unfold dz at h1;split at h1
 ·rename_i c K2 VM;cases hb:(Nat.beq j 0&& !yq c)||(!Nat.beq j 0&&Fm c)with
   |false=>grind
   |true=>
    rw[hb]at h1;simp at h1;obtain⟨rfl,rfl⟩:=h1;unfold yr at h2;cases hk:(Nat.ble n fW&&lg tm)with
     |false=>grind
     |true=>
      rw[hk,aaw]at h2;rw[aas]at hk;have hn:=aax hk.1;refine Fl hm hc hp hn (zQ:=c) (K':=K2) (fun eT t2 H2 hs qh=>?_ ) (ka.tree hk.2) VM h2;cases j with
       |zero=>simp only[aar,aav,V.tuple.injEq]at qh;obtain⟨e1,rfl⟩:=qh;simp at hb;refine CG.dW hb (fun s=>?_ ) hq;rw[hs s,←pF a7,←e1];exact s8 s _
       |succ j=>
        have hj:Nat.beq (j+1) 0=false:=rfl;rw[hj]at hb;simp at hb;have qh:u7 own GL call aH n ((u_ c).take (j+1)) t2 H2 (fun t H=>some (.tuple ((a7.map Prod.fst).map (eQ t)),H))=_:=qh;rw[ta]at qh;have hq:CG P GL (.ops ((u_ c).drop (j+1))) K2 n a7 H' Q:=hq;have PA:WO P GL (u_ c) ⟨n,eT,H2⟩ (fun σ=>KQ P GL K2 Q .normal σ):=by rw[←acj (j+1) (u_ c)];refine qw hc hn hs qh (fun tm3 t3 H3 ZK ZL=>?_ );simp only[aar,aav,V.tuple.injEq]at ZL;obtain⟨e1,rfl⟩:=ZL;refine WO.dW (eT:=a7) (fun s=>?_ ) hq;rw[ZK s,←pF a7,←e1];exact s8 s _
        cases c with
         |code c=>
          cases c with
           |region l=>exact WC.region PA
           |_=>grind[Fm]
         |ops l=>exact PA
         |out e=>cases hb
 ·cases h1
theorem CG.start{f:FuncId}{fn:bL}{args:List V}(hf:au P f=some fn)(uM:al P f=true)(hc:(Nat.ble args.length fn.ntmps&&aJ 0 args)=true)(h:CG P GL (.code fn.body) [] fn.ntmps (ry 0 args) [] (me fn.res v)):PC P GL f args v:=PC.Pv hf uM hc h
theorem KQ.ret:∀{K:List Fr}{Q:Ex->St->Prop}{σ:St},Q .ret σ->KQ P GL K Q .ret σ|[],_,_,h=>h| .seq _::K,_,_,h=>KQ.ret (K:=K) h| .block _::K,_,_,h=>KQ.ret (K:=K) h| .loop _ _::K,_,_,h=>KQ.ret (K:=K) h
theorem CG.ret{rs:List iQ}{v':V}(h:(h_ rs ⟨n,tm,H⟩).bind (fA H)=some v')(e:v'=v):CG P GL (.code .ret) K n tm H (me rs v):=WC.ret (KQ.ret (me.ret h e))
theorem CG.rt{rs:List iQ}(v':V)(e:v'=v)(h:(h_ rs ⟨n,tm,H⟩).bind (fA H)=some v':=by kernel_rfl):CG P GL (.code .ret) K n tm H (me rs v):=CG.ret h e
theorem CG.ay{c:aU}{a d:IR}{b:Bool}(h:b=true)(ht:aT GL tm c=.d (.bool b))(h1:CG P GL (.code a) K n tm H Q):CG P GL (.code (.cond c a d)) K n tm H Q:=WC.ay h ht h1
theorem CG.ao{c:aU}{a d:IR}{b:Bool}(h:b=false)(ht:aT GL tm c=.d (.bool b))(h1:CG P GL (.code d) K n tm H Q):CG P GL (.code (.cond c a d)) K n tm H Q:=WC.ao h ht h1
theorem CG.dt{l:List ab}(h:CG P GL (.ops l) K n tm H Q):CG P GL (.code (.region l)) K n tm H Q:=WC.region h
theorem CG.Fk{own:List Nat}{dc:gy}(hm:P.follows .mixedOrders=true)(hp:mR P GL dc)(ov:List (Nat×Bool))(sp:List (Nat×V)){l:List ab}{a7:List (Nat×V)}{H':an}{cs:List (Bool×Bool)}{calls:lz}(h:yp own GL dc ov sp n l (a7.map Prod.fst) tm H=some (a7.map Prod.snd,H',cs,calls))(nS:lA cs)(ky:nH P GL calls)(hq:CG P GL (.out .normal) K n a7 H' Q):CG P GL (.code (.draw l)) K n tm H Q:=WC.Fk hm hp ov sp h nS ky hq
end
end Fw
