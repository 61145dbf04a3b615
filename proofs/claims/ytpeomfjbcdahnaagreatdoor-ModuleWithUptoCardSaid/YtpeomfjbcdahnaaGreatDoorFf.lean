/-
  A call that looks into a few own rows of data and leaves them, in a drawn region.
-/
import Derived.Test.YtpeomfjbcdahnaaGreatDoorFe
set_option linter.unusedSimpArgs false
set_option linter.unusedVariables false
namespace Fw
open Go
section
variable {P:Program}{GL:bR}
theorem lS.HZ{f:FuncId}{jA:List V}{H0:ao}{v:V}(S:List Nat){H:ao}(h:WF P GL f jA H0 (fun r H'=>r=v/\H'=H0))(hn:S.Nodup)(hl:H0.length=S.length)(ha:aE S.length jA=true)(Up:aS 0 H0=true)(hv:aC 0 v=true)(hb:∀i,i<S.length->∃y,aA H0 i=some y/\aA H (S.getD i 0)=some y)(JO:∀i,i<S.length->S.getD i 0∈(ff S jA).flatMap bu):lS P GL f (ff S jA) H v:=by
 refine⟨h.1,fun H1 hH1 g w vs cX hh hg=>?_ ⟩;have zk:∀i,i<S.length->∃y,aA H0 i=some y/\aA H1 (S.getD i 0)=some y:=fun i hi=>by grind
 have qj:=@qi S;have Hr:=@o7 S g;obtain⟨sC,N',hG⟩:=wm hn hl hh hg (fun i hi=>by obtain⟨y,k1,k2⟩:=zk i hi;exact⟨y,y,k1,k2,fun x hs h=>RB.agree (g:=g) (n:=0) ⟨fun b hb=>by omega,fun b hb=>by omega,fun k hk=>(hs.cw k).2 hk⟩ (fc Up k1) h⟩);have mT:=sC.cw;refine(h.2 (kR S g) w vs ((aM.sA sC _ _ ha).1 cX) N' hG).mono ?_;rintro e w' ⟨x,v',EY,H',rfl,⟨rfl,rfl⟩,hx,pW,he⟩;have VP:∀i x,(kR S g).γ i=some x->EY.γ i=some x:=by
  intro i x hx;obtain⟨hd,y,hy,hr⟩:=N'.live i x hx;obtain⟨x',kZ⟩:=pW.back i y hy;obtain⟨_,y',tQ,ur⟩:=pW.live i x' kZ;rw[hy]at tQ;simp at tQ;subst tQ;have hs:=he.step i hd;rw[hx,kZ]at hs;rw[kZ];cases x with
   |cells b c u=>
    rcases hs with rfl|⟨b',c',u',rfl,hu⟩
    ·rfl
    ·exfalso;cases y<;>simp only[RB]at hr ur;omega
   |nil=>grind[RB]
   |obj b=>exact aca some hs
 have Ph:∀k,cw EY w' k->cw g w' k:=by
  rintro k ⟨h1,h2,h3⟩;rw[he.fo]at h2;refine⟨h1,fun hf=>h2 (Or.inl hf),fun b x hx hk=>?_ ⟩;by_cases qS:b∈S
  ·grind
  ·exact h2 (Or.inr ⟨b,x,qS,hx,hk⟩)
 have H4:nk 0 EY g w':=⟨fun b hb=>by omega,fun b hb=>by omega,Ph⟩;have hE:bA g w g w':=by refine⟨he.os,he.tape,he.output,he.size,fun k hk=>?_,fun b hb=>hb,fun b _=>GB.step.refl _,rfl,rfl,fun k hk=>he.dB k (Or.inl hk)⟩;obtain⟨k1,k2⟩:=he.keeps k ((mT k).2 hk);grind
 refine⟨x,rfl,RV.agree H4 _ _ hv hx,hE,?_⟩;refine⟨hh.cr,fun b x hx=>?_,hh.back,hh.inj,fun k hk=>⟨aaY (hh.fo k hk).1 he.size,(hh.fo k hk).2⟩⟩;obtain⟨hd,y,hy,hr⟩:=hh.live b x hx;refine⟨hd,y,hy,?_⟩;by_cases qS:b∈S
 ·obtain⟨i,hi,rfl⟩:=qj b qS;obtain⟨_,y2,Oa,Ep⟩:=pW.live i x (VP i x (by grind));obtain⟨y0,k1,k2⟩:=zk i hi;rw[hy]at k2;simp at k2;subst k2;rw[Oa]at k1;simp at k1;subst k1;exact RB.agree H4 (fc Up Oa) Ep
 ·exact RB.ext hE (fun k hk=>he.dB k (Or.inr ⟨b,x,qS,hx,hk⟩)) hr
end
end Fw
/-
  A quicker run for what is known whole: slots in a tree, operations told apart in small steps, what comes next handed on.
-/
namespace Fw
open Go
inductive T where
 |e
 |n (l:T) (v:V) (r:T)
 deriving Inhabited
noncomputable def eU(t:T):Nat->V:=@T.rec (fun _=>Nat->V) (fun _=>V.any) (fun _ v _ gl gr i=>@Nat.rec (fun _=>V) v (fun j _=>@Nat.rec (fun _=>V) (gl (Nat.shiftRight j 1)) (fun _ _=>gr (Nat.shiftRight j 1)) (Nat.land j 1)) i) t
noncomputable def lW(k:Nat):T->Nat->V->T:=@Nat.rec (fun _=>T->Nat->V->T) (fun t _ _=>t) (fun _ ih t i v=>@T.rec (fun _=>T) (@Nat.rec (fun _=>T) (T.n T.e v T.e) (fun j _=>@Nat.rec (fun _=>T) (T.n (ih T.e (Nat.shiftRight j 1) v) V.any T.e) (fun _ _=>T.n T.e V.any (ih T.e (Nat.shiftRight j 1) v)) (Nat.land j 1)) i) (fun l u r _ _=>@Nat.rec (fun _=>T) (T.n l v r) (fun j _=>@Nat.rec (fun _=>T) (T.n (ih l (Nat.shiftRight j 1) v) u r) (fun _ _=>T.n l u (ih r (Nat.shiftRight j 1) v)) (Nat.land j 1)) i) t) k
theorem wq(i:Nat):eU .e i=.any:=rfl
theorem mJ(l r:T)(v:V):eU (.n l v r) 0=v:=rfl
theorem jC(l r:T)(v:V)(j:Nat):eU (.n l v r) (j+1)=if j%2=0 then eU l (j / 2)else eU r (j / 2):=by
 have h:eU (.n l v r) (j+1)=@Nat.rec (fun _=>V) (eU l (Nat.shiftRight j 1)) (fun _ _=>eU r (Nat.shiftRight j 1)) (Nat.land j 1):=rfl;have h1:Nat.shiftRight j 1=j / 2:=by simp_all[abE]
 have h2:Nat.land j 1=j%2:=abR j;rw[h,h1,h2];rcases abw j with hj|hj<;>rw[hj]<;>rfl
theorem H5(k:Nat)(v:V):lW (k+1) .e 0 v=.n .e v .e:=rfl
theorem wt(k j:Nat)(v:V):lW (k+1) .e (j+1) v=if j%2=0 then .n (lW k .e (j / 2) v) .any .e else .n .e .any (lW k .e (j / 2) v):=by
 have h:lW (k+1) .e (j+1) v=@Nat.rec (fun _=>T) (T.n (lW k T.e (Nat.shiftRight j 1) v) V.any T.e) (fun _ _=>T.n T.e V.any (lW k T.e (Nat.shiftRight j 1) v)) (Nat.land j 1):=rfl;have h1:Nat.shiftRight j 1=j / 2:=by simp_all[abE]
 have h2:Nat.land j 1=j%2:=abR j;rw[h,h1,h2];rcases abw j with hj|hj<;>rw[hj]<;>rfl
theorem H6(k:Nat)(l r:T)(u v:V):lW (k+1) (.n l u r) 0 v=.n l v r:=rfl
theorem wu(k j:Nat)(l r:T)(u v:V):lW (k+1) (.n l u r) (j+1) v=if j%2=0 then .n (lW k l (j / 2) v) u r else .n l u (lW k r (j / 2) v):=by
 have h:lW (k+1) (.n l u r) (j+1) v=@Nat.rec (fun _=>T) (T.n (lW k l (Nat.shiftRight j 1) v) u r) (fun _ _=>T.n l u (lW k r (Nat.shiftRight j 1) v)) (Nat.land j 1):=rfl;have h1:Nat.shiftRight j 1=j / 2:=by simp_all[abE]
 have h2:Nat.land j 1=j%2:=abR j;rw[h,h1,h2];rcases abw j with hj|hj<;>rw[hj]<;>rfl
theorem uO:∀(k:Nat)(t:T)(i s:Nat)(v:V),i+1<2^k->eU (lW k t i v) s=if s=i then v else eU t s
 |0,t,i,s,v,h=>by simp at h
 |k+1,t,i,s,v,h=>by
  have ih:=uO k;cases t with
   |e=>
    cases i with
     |zero=>rw[H5];cases s<;>grind[mJ,jC,wq]
     |succ j=>
      rw[wt];have hj:j / 2+1<2^k:=by grind
      by_cases h2:j%2=0
      ·rw[aaD h2];cases s<;>grind[mJ,wq,jC]
      ·rw[aaH h2];cases s<;>grind[mJ,wq,jC]
   |n l u r=>
    cases i with
     |zero=>rw[H6];cases s<;>grind[mJ,jC]
     |succ j=>
      rw[wu];have hj:j / 2+1<2^k:=by grind
      by_cases h2:j%2=0
      ·rw[aaD h2];cases s<;>grind[mJ,jC]
      ·rw[aaH h2];cases s<;>grind[mJ,jC]
def gz:Nat:=4000
noncomputable def CN(t:T)(i:Nat)(v:V):T:=lW 12 t i v
theorem qk(t:T)(i s:Nat)(v:V)(h:i<gz):eU (CN t i v) s=if s=i then v else eU t s:=uO 12 t i s v (by grind[gz])
def jY(tm:List (Nat×V))(t:T):Prop:=∀s,get tm s=eU t s
theorem jY.put{tm:List (Nat×V)}{t:T}(h:jY tm t){i:Nat}{v:V}(hi:i<gz):jY (put tm i v) (CN t i v):=fun s=>by rw[eY,qk _ _ _ _ hi,h s]
theorem jY.nil:jY [] .e:=fun _=>rfl
noncomputable def nl:Nat->List V->T->T|_,[],t=>t|n,v::vs,t=>nl (n+1) vs (CN t n v)
theorem uP:∀(vs:List V)(n:Nat)(t:T)(s:Nat),n+vs.length<=gz->eU (nl n vs t) s=if n<=s/\s<n+vs.length then(vs[s - n]? ).getD .any else eU t s
 |[],n,t,s,_=>by grind[nl]
 |v::vs,n,t,s,h=>by simp at h;rw[nl,uP vs (n+1) _ s (by omega),qk _ _ _ _ (by omega)];grind
theorem jY.args(vs:List V)(h:vs.length<=gz):jY (pZ 0 vs) (nl 0 vs .e):=fun s=>by rw[xE,uP _ _ _ _ (by omega)];simp_all[acm,aaO,true_and,aaR,acn,wq]
def aI:Int->Int->Bool| .ofNat a,.ofNat b=>Nat.blt a b| .ofNat _,.negSucc _=>false| .negSucc _,.ofNat _=>true| .negSucc a,.negSucc b=>Nat.blt b a
def aN:Int->Int->Bool| .ofNat a,.ofNat b=>Nat.beq a b| .negSucc a,.negSucc b=>Nat.beq a b|_,_=>false
def bC:Int->Int->Int| .ofNat a,.ofNat b=>.ofNat (Nat.add a b)|a,b=>a+b
def aT(k:IntKind)(n:Int):Int:=match k with
 | .i64=>
  match n with
   | .ofNat m=>bif Nat.blt m 9223372036854775808 then .ofNat m else IntKind.i64.wrap n
   | .negSucc m=>bif Nat.blt m 9223372036854775808 then .negSucc m else IntKind.i64.wrap n
 |k=>k.wrap n
theorem dP(a b:Int):aI a b=decide (a<b):=by cases a<;>cases b<;>simp only[aI,Pd]<;>(grind)
theorem cR(a b:Int):aN a b=(a==b):=by cases a<;>cases b<;>simp only[aN,HY]<;>(grind)
theorem Bn(a b:Int):bC a b=a+b:=by cases a<;>cases b<;>simp[bC]
theorem o8(k:IntKind)(n:Int):aT k n=k.wrap n:=by
 have aaj:∀(b:Bool)(x y z:Int),(b=true->x=z)->y=z->(bif b then x else y)=z:=fun b x y z h1 h2=>by grind
 unfold aT;split
 ·split;all_goals grind[Pd,IntKind.wrap_i64,Int.ofNat_eq_natCast,Int.negSucc_eq]
 ·rfl
def E0(op:BinOp)(k:IntKind)(a b:Int):Option D:=match op with
 | .add=>some (.int k (aT k (bC a b)))
 | .sub=>some (.int k (aT k (a - b)))
 | .eql=>some (.bool (aN a b))
 | .neq=>some (.bool (!aN a b))
 | .lss=>some (.bool (aI a b))
 | .leq=>some (.bool (!aI b a))
 | .gtr=>some (.bool (aI b a))
 | .geq=>some (.bool (!aI a b))
 |op=>DZ op k a b
theorem E1(op:BinOp)(k:IntKind)(a b:Int):E0 op k a b=DZ op k a b:=by
 have hn:∀(x y:Int),(!decide (x<y))=decide (y<=x):=fun x y=>by grind
 cases op<;>simp only[E0,DZ,o8,Bn,cR,dP,hn,bne]<;>rfl
def Po:IntKind->Nat| .i8=>0| .i16=>1| .i32=>2| .i64=>3| .u8=>4| .u16=>5| .u32=>6| .u64=>7
def H7(k k':IntKind):Bool:=Nat.beq (Po k) (Po k')
theorem sF{k k':IntKind}:H7 k k'=true↔k=k':=by cases k<;>cases k'<;>decide
def xY(op:BinOp):V->V->Option (V×Wr)
 | .d (.int k a),.d (.int k' b)=>bif H7 k k' then(match E0 op k a b with|some x=>some (.d x,none)|none=>none)else none
 | .d (.str a),.d (.str b)=>match zr op a b with|some x=>some (.d x,none)|none=>none
 | .d (.str a),.d (.sN m)=>match oh op a.length m with|some x=>some (.d x,none)|none=>none
 | .d (.sN n),.d (.str b)=>match oh op n b.length with|some x=>some (.d x,none)|none=>none
 | .d (.sN n),.d (.sN m)=>match oh op n m with|some x=>some (.d x,none)|none=>none
 |_,_=>none
theorem E2(op:BinOp)(x y:V):xY op x y=(pT op x y).map fun v=>(v,none):=by
 unfold xY;split
 ·rename_i k a k' b;simp only[pT,E1];cases h:H7 k k' with
   |true=>have:=sF.1 h;grind
   |false=>
    have:¬k=k':=fun e=>by rw[sF.2 e]at h;cases h
    grind
 all_goals grind[pT]
def Bo(H:ao)(n:Nat)(agg:Bool)(a:V):Option (V×Wr):=match jq H n a with
 |some cs=>match AX agg cs with|some v=>some (v,none)|none=>none
 |none=>none
def wv(H:ao)(n:Nat)(a x:V):Option (V×Wr):=match dL H n a x with
 |some p=>some (.any,some p)
 |none=>none
def Pp(c a b:V):Option (V×Wr):=match c with
 | .d (.bool t)=>some (bif t then a else b,none)
 |_=>none
def VQ(ns n:Nat)(x:V):Option (V×Wr):=bif Nat.beq (bP x).length n&&(bP x).all eC then some (.ptr ns n 0,some (ns,.cells (bP x)))else none
def E3(ρ:aX->V)(z:List V)(ps:List (Nat×Nat×aX)):Option (V×Wr):=match eR ρ z ps with
 |some cs=>some (.agg cs,none)
 |none=>none
def LJ(x:V):Option (V×Wr):=match x with
 | .ptr b h off=>some (.ptr b h off,none)
 | .aL cs=>some (.aL cs,none)
 | .func f a b=>some (.func f a b,none)
 |_=>none
def Uq(H:ao)(neg:Bool)(k:pS)(x y:V):Option (V×Wr):=match Hj H k x y with
 |some b=>some (.d (.bool (bif neg then !b else b)),none)
 |none=>none
def H8(off n:Nat)(agg:Bool)(x:V):Option (V×Wr):=match x with
 | .agg cs=>bif Nat.ble (off+n) cs.length then(match AX agg ((cs.drop off).take n)with|some v=>some (v,none)|none=>none)else none
 |_=>none
def z_(off n:Nat)(x:V):Option (V×Wr):=match x with
 | .ptr b h o=>some (.ptr b h (o+off),none)
 | .aL cs=>some (.aL ((cs.drop off).take n),none)
 |_=>none
def Aa(H:ao)(sz:Nat)(x i:V):Option (V×Wr):=match dh i with
 |none=>none
 |some j=>
  match x with
   | .d (.list es)=>
    (match es[j]? with
     |some e=>bif Nat.beq e.length sz then some (.aL e,none)else none
     |none=>none)
   | .sl b h off len uq=>bif Nat.beq sz uq&&Nat.blt j len&&eL H b h then some (.ptr b h (off+j*sz),none)else none
   |_=>none
def E4(x i:V):Option (V×Wr):=match dh i with
 |none=>none
 |some j=>
  match x with
   | .d (.str s)=>
    (match s[j]? with
     |some b=>some (.d (.int .u8 b.toNat),none)
     |none=>none)
   |_=>none
def H9(x:V)(i:Nat):Option (V×Wr):=match x with
 | .tuple vs=>(match vs[i]? with|some v=>some (v,none)|none=>none)
 |_=>none
def H_(H:ao)(k:km)(x:V):Option (V×Wr):=match jI H k x with
 |some n=>some (.d (.int .i64 (Int.ofNat n)),none)
 |none=>none
def Ia(H:ao)(ns sz bytes:Nat)(x y:V):Option (V×Wr):=match bE H sz y with
 |some xs=>dM H ns sz bytes x xs
 |none=>none
def Ur(op:UnOp)(x:V):Option (V×Wr):=match T' op x with|some v=>some (v,none)|none=>none
def Ib(ρ:aX->V)(H:ao)(ns:Nat):jG->Option (V×Wr)| .mv x=>some (ρ x,none)| .pick c a b=>Pp (ρ c) (ρ a) (ρ b)| .alloc z=>some (.ptr ns z.length 0,some (ns,.cells z))| .box n x=>VQ ns n (ρ x)| .build z ps=>E3 ρ z ps| .load n agg a=>Bo H n agg (ρ a)| .store n a x=>wv H n (ρ a) (ρ x)| .kp x=>LJ (ρ x)| .bin op x y=>xY op (ρ x) (ρ y)| .eq neg k x y=>Uq H neg k (ρ x) (ρ y)| .un op x=>Ur op (ρ x)| .h_ f a b=>some (.func f (bQ ρ a) (bQ ρ b),none)| .N1 off n agg x=>H8 off n agg (ρ x)| .cJ off n x=>z_ off n (ρ x)| .a_ sz x i=>Aa H sz (ρ x) (ρ i)| .jh x i=>E4 (ρ x) (ρ i)| .ext x i=>H9 (ρ x) i| .len .slice x=>H_ H .slice (ρ x)| .len .str x=>H_ H .str (ρ x)| .append sz bytes x y=>Ia H ns sz bytes (ρ x) (ρ y)|op=>bw ρ H ns op
theorem Bp(ρ:aX->V)(H:ao)(ns:Nat)(op:jG):Ib ρ H ns op=bw ρ H ns op:=by
 unfold Ib;split
 ·rfl
 ·rfl
 ·rfl
 ·rfl
 ·grind[E3,bw]
 ·grind[Bo,bw]
 ·grind[wv,bw]
 ·rfl
 ·grind[E2,bw]
 ·grind[Uq,bw]
 ·grind[Ur,bw]
 ·rfl
 ·rename_i off n agg x;simp only[H8,bw];grind
 ·rfl
 ·rfl
 ·rfl
 ·grind[H9,bw]
 ·grind[H_,bw]
 ·grind[H_,bw]
 ·rfl
 ·rfl
end Fw
/-
  Calls in drawn regions that may look into own rows of data: run beside these alone.
-/
namespace Fw
open Go
abbrev gA:=FuncId->List V->ao->Option V
def mK(P:Program)(GL:bR)(dc:gA):Prop:=∀f args H v,dc f args H=some v->lS P GL f args H v
mutual
def tX:D->D->Bool| .bool a,.bool b=>a==b| .int k a,.int k' b=>H7 k k'&&aN a b| .str a,.str b=>ah a b| .list a,.list b=>CO a b|_,_=>false
def CO:List (List D)->List (List D)->Bool|[],[]=>true|a::x,b::y=>CP a b&&CO x y|_,_=>false
def CP:List D->List D->Bool|[],[]=>true|a::x,b::y=>tX a b&&CP x y|_,_=>false
end
theorem np:∀{x y:List UInt8},ah x y=true->x=y
 |[],[],_=>rfl
 |[],_::_,h=>by simp[ah]at h
 |_::_,[],h=>by simp[ah]at h
 |a::x,b::y,h=>by
  simp only[ah]at h;cases hb:Nat.beq a.toNat b.toNat with
   |false=>grind
   |true=>rw[hb]at h;rw[np h,ab6.1 (aav hb)]
mutual
theorem o9:∀{x y:D},tX x y=true->x=y
 | .bool a,y,h=>by cases y<;>simp[tX]at h;rw[h]
 | .int k a,y,h=>by cases y<;>simp[tX]at h;rename_i k' b;rw[sF.1 h.1];grind[cR]
 | .str a,y,h=>by cases y<;>simp[tX]at h;rw[np h]
 | .list a,y,h=>by cases y<;>simp[tX]at h;rw[Bq h]
 | .sN n,y,h=>by cases y<;>simp[tX]at h
theorem Bq:∀{x y:List (List D)},CO x y=true->x=y
 |[],[],_=>rfl
 |[],_::_,h=>by simp[CO]at h
 |_::_,[],h=>by simp[CO]at h
 |a::x,b::y,h=>by simp only[CO,aas]at h;rw[Br h.1,Bq h.2]
theorem Br:∀{x y:List D},CP x y=true->x=y
 |[],[],_=>rfl
 |[],_::_,h=>by simp[CP]at h
 |_::_,[],h=>by simp[CP]at h
 |a::x,b::y,h=>by simp only[CP,aas]at h;rw[o9 h.1,Br h.2]
end
def bq:List V->List V->Bool|[],[]=>true| .d a::x,.d b::y=>tX a b&&bq x y| .aj::x,.aj::y=>bq x y|_,_=>false
theorem dQ:∀{x y:List V},bq x y=true->x=y
 |[],[],_=>rfl
 |[],_::_,h=>by simp[bq]at h
 | .d a::x,.d b::y,h=>by simp only[bq,aas]at h;rw[o9 h.1,dQ h.2]
 | .aj::x,.aj::y,h=>by simp only[bq]at h;rw[dQ h]
 |a::x,[],h=>by grind[bq]
 | .any::_,_::_,h=>by simp[bq]at h
 | .full _::_,_::_,h=>by simp[bq]at h
 | .d _::_,b::_,h=>by cases b<;>simp[bq]at h;rw[o9 h.1,dQ h.2]
 | .aj::_,b::_,h=>by cases b<;>simp[bq]at h;rw[dQ h]
 | .ptr _ _ _::_,_::_,h=>by simp[bq]at h
 | .lu::_,_::_,h=>by simp[bq]at h
 | .aL _::_,_::_,h=>by simp[bq]at h
 | .sl _ _ _ _ _::_,_::_,h=>by simp[bq]at h
 | .map _::_,_::_,h=>by simp[bq]at h
 | .kj::_,_::_,h=>by simp[bq]at h
 | .func _ _ _::_,_::_,h=>by simp[bq]at h
 | .ob::_,_::_,h=>by simp[bq]at h
 | .iface _ _::_,_::_,h=>by simp[bq]at h
 | .bD::_,_::_,h=>by simp[bq]at h
 | .fA::_,_::_,h=>by simp[bq]at h
 | .agg _::_,_::_,h=>by simp[bq]at h
 | .tuple _::_,_::_,h=>by simp[bq]at h
 | .iter _ _::_,_::_,h=>by simp[bq]at h
 | .gJ _::_,_::_,h=>by simp[bq]at h
def E5:V->V->Bool| .d a,.d b=>tX a b| .aj,.aj=>true| .agg a,.agg b=>bq a b|_,_=>false
theorem E6{x y:V}(h:E5 x y=true):x=y:=by
 unfold E5 at h;split at h
 ·rw[o9 h]
 ·rfl
 ·rw[dQ h]
 ·cases h
def uQ:List (D×V)->List (D×V)->Bool|[],[]=>true|(k,v)::x,(l,w)::y=>tX k l&&E5 v w&&uQ x y|_,_=>false
theorem xZ:∀{x y:List (D×V)},uQ x y=true->x=y
 |[],[],_=>rfl
 |(k,v)::x,(l,w)::y,h=>by simp only[uQ,aas]at h;rw[o9 h.1.1,E6 h.1.2,xZ h.2]
 |[],_::_,h=>by simp[uQ]at h
 |_::_,[],h=>by simp[uQ]at h
def fM:ao->ao->Bool|[],[]=>true|some (.map a)::x,some (.map b)::y=>uQ a b&&fM x y|some (.cells a)::x,some (.cells b)::y=>bq a b&&fM x y|some .nil::x,some .nil::y=>fM x y|_,_=>false
theorem kS:∀{x y:ao},fM x y=true->x=y
 |[],[],_=>rfl
 |[],_::_,h=>by simp[fM]at h
 |a::x,[],h=>by grind[fM]
 |a::x,b::y,h=>by
  rcases a with _|a
  ·simp[fM]at h
  ·rcases b with _|b
   ·grind[fM]
   ·cases a<;>cases b<;>simp[fM]at h
    ·rw[dQ h.1,kS h.2]
    ·rw[kS h]
    ·rw[xZ h.1,kS h.2]
def x4:List V->Bool|[]=>true| .d _::l=>x4 l| .aj::l=>x4 l|_=>false
theorem x5(S:List Nat):∀{l:List V},x4 l=true->ff S l=l|[],_=>rfl|v::l,h=>by cases v<;>simp[x4]at h<;>simp[ff,de,x5 S h]
theorem Bs(n:Nat):∀{l:List V},x4 l=true->aE n l=true|[],_=>rfl|v::l,h=>by cases v<;>simp[x4]at h<;>simp[aE,aC,Bs n h]
def tY(S:List Nat):V->Option V
 | .sl b h off len sz=>
  match S.idxOf? b with
   |some i=>some (.sl i h off len sz)
   |none=>none
 | .ptr b h off=>
  match S.idxOf? b with
   |some i=>some (.ptr i h off)
   |none=>none
 | .map b=>
  match S.idxOf? b with
   |some i=>some (.map i)
   |none=>none
 | .d x=>some (.d x)
 | .aj=>some .aj
 | .agg cs=>bif x4 cs then some (.agg cs)else none
 |_=>none
theorem Ic{S:List Nat}{u u0:V}(h:tY S u=some u0):de S u0=u/\aC S.length u0=true:=by
 cases u with
  |sl b hh off len sz=>
   simp only[tY]at h;split at h
   ·rename_i i hi;simp at h;subst h;obtain⟨k1,k2⟩:=iY hi;grind[de,aC,Nat.blt_eq]
   ·cases h
  |ptr b hh off=>
   simp only[tY]at h;split at h
   ·rename_i i hi;simp at h;subst h;obtain⟨k1,k2⟩:=iY hi;grind[de,aC,Nat.blt_eq]
   ·cases h
  |map b=>
   simp only[tY]at h;split at h
   ·rename_i i hi;simp at h;subst h;obtain⟨k1,k2⟩:=iY hi;grind[de,aC,Nat.blt_eq]
   ·cases h
  |d x=>simp only[tY]at h;cases h;exact⟨rfl,rfl⟩
  |aj=>simp only[tY]at h;cases h;exact⟨rfl,rfl⟩
  |agg cs=>
   simp only[tY]at h;cases hc:x4 cs with
    |false=>grind
    |true=>rw[hc]at h;simp at h;subst h;exact⟨by simp[de,x5 S hc],by simp[aC,Bs _ hc]⟩
  |_=>simp only[tY]at h;cases h
theorem x6{S:List Nat}:∀{l l0:List V},bS (tY S) l=some l0->ff S l0=l/\aE S.length l0=true
 |[],l0,h=>by simp only[bS,aat]at h;subst h;exact⟨rfl,rfl⟩
 |u::l,l0,h=>by
  simp only[bS]at h;split at h
  ·cases h
  ·rename_i u0 hu;split at h
   ·cases h
   ·rename_i l1 hl;simp at h;subst h;obtain⟨k1,k2⟩:=Ic hu;obtain⟨k3,k4⟩:=x6 hl;grind[ff,aE]
section
variable {P:Program}{GL:bR}
def mL(aO:br)(call:a7):gA:=fun f args H=>
 match aO f args with
  |some v=>some v
  |none=>
   bif decide ((args.flatMap bu).Nodup)then
    match bS (tY (args.flatMap bu)) args,bS (aA H) (args.flatMap bu)with
     |some jA,some bs=>
      bif aS 0 (bs.map some)then
       match o6 call f jA (bs.map some)with
        |some (v,H0)=>bif aC 0 v&&fM H0 (bs.map some)then some v else none
        |none=>none else none
     |_,_=>none
   else none
theorem nP{aO:br}{call:a7}(hp:cd P GL aO)(hc:cy P GL call):mK P GL (mL aO call):=by
 intro f args H v h;unfold mL at h;split at h
 ·rename_i u hu;simp at h;subst h;exact(hp _ _ _ hu).Be
 ·cases hn:decide ((args.flatMap bu).Nodup)with
   |false=>grind
   |true=>
    rw[hn,aaw]at h;split at h
    ·rename_i jA bs h1 h2;cases hl:aS 0 (bs.map some)with
      |false=>grind
      |true=>
       rw[hl,aaw]at h;split at h
       ·rename_i u H0 cq;cases he:(aC 0 u&&fM H0 (bs.map some))with
         |false=>grind
         |true=>
          rw[he,aaw,aat]at h;subst h;rw[aas]at he;have hH:=kS he.2;obtain⟨k1,k2⟩:=x6 h1;have hlen:=bU h2;have hw:=hc.g _ _ _ _ _ cq;rw[hH]at hw;have:=lS.HZ (v:=u) (args.flatMap bu) (H:=H) hw (by grind) (by grind) k2 hl he.1 (fun i hi=>by
           have tN:(args.flatMap bu)[i]? =some ((args.flatMap bu).getD i 0):=by grind
           obtain⟨y,h3,h4⟩:=gV i _ h2 tN;refine⟨y,?_,h4⟩;have:∀(l:List bW)(i:Nat)(y:bW),l[i]? =some y->aA (l.map some) i=some y:=by
            intro l;induction l with
             |nil=>grind
             |cons a l ih=>intro i y h;cases i<;>grind[aA]
           grind) (fun i hi=>by grind)
          grind
       ·cases h
    ·cases h
end
end Fw
/-
  The quicker run: operations, drawn regions, code, calls; and that the model does the same.
-/
namespace Fw
open Go
abbrev XR:=V×ao
abbrev KN:=T->ao->Option XR
noncomputable def gB(GL:bR)(t:T)(x:aX):V:=match x with
 | .t n=>eU t n
 | .c v=>v
 | .g n=>(match GL.rd n with|some cs=>.aL cs|none=>.any)
 | .f f=>.func f [] []
theorem mM{GL:bR}{tm:List (Nat×V)}{t:T}(h:jY tm t):gB GL t=aW GL tm:=funext fun x=>by
 cases x with
  |t n=>simp[gB,aW,h _]
  |c v=>rfl
  |g n=>grind[gB,aW]
  |f f=>rfl
noncomputable def CQ(n:Nat)(dst:Option Nat)(v:V)(t:T)(H:ao)(k:KN):Option XR:=match dst with
 |none=>k t H
 |some d=>bif Nat.blt d n then k (CN t d v) H else none
noncomputable def ql(gd:Option (Nat×Bool))(t:T)(skip go:Option XR):Option XR:=match gd with
 |none=>go
 |some (d,nH)=>
  match eU t d with
   | .d (.bool b)=>bif b then(bif nH then go else skip)else(bif nH then skip else go)
   | .tuple []=>skip
   |_=>none
def x7(v:V)(H:ao):Option (V×ao):=match v with
 | .iter b _=>
  match aA H b with
   |some (.bM m n seen)=>
    match aA H m with
     |some (.map es)=>
      match es,n,seen with
       |[],0,_=>some (.tuple [.d (.bool false)],H)
       |[(k,v)],1,[]=>some (.tuple [.d (.bool true),.d k,v],aR H b (.bM m 1 [0]))
       |[_],1,[0]=>some (.tuple [.d (.bool false)],H)
       |_,_,_=>none
     |_=>none
   |_=>none
 |_=>none
noncomputable def Pq(own:List Nat)(GL:bR)(call:a7)(dst:Option Nat)(op:jG)(t:T)(H:ao)(k:V->ao->Option XR):Option XR:=match op with
 | .call f args=>(match o6 call f (bQ (gB GL t) args) H with|some (v,H')=>k v H'|none=>none)
 | .b_ x args=>
  (match gB GL t x with
   | .func f first cap=>(match o6 call f (first++bQ (gB GL t) args++cap) H with|some (v,H')=>k v H'|none=>none)
   | .gJ b=>(match call jW (.gJ b::bQ (gB GL t) args) H with|some (v,H')=>k v H'|none=>none)
   |_=>none)
 | .mkSlice sz len z ps=>
  (match(bif zU dst own then none else jN (gB GL t) (.mkSlice sz len z ps))with
   |some v=>k v H
   |none=>(match bw (gB GL t) H H.length (.mkSlice sz len z ps)with|some (v,wr)=>k v (bn H wr)|none=>none))
 | .f_ x=>(match x7 (gB GL t x) H with|some (v,H')=>k v H'|none=>none)
 |op=>(match Ib (gB GL t) H H.length op with|some (v,wr)=>k v (bn H wr)|none=>none)
noncomputable def o_(own:List Nat)(GL:bR)(call:a7)(n:Nat)(o:ab)(t:T)(H:ao)(k:KN):Option XR:=match o with|⟨dst,op,gd,_⟩=>ql gd t (CQ n dst (.tuple []) t H k) (Pq own GL call dst op t H (fun v H'=>CQ n dst v t H' k))
noncomputable def pa(own:List Nat)(GL:bR)(call:a7)(n:Nat)(l:List ab):T->ao->KN->Option XR:=@List.rec ab (fun _=>T->ao->KN->Option XR) (fun t H k=>k t H) (fun o _ ih t H k=>o_ own GL call n o t H (fun t' H'=>ih t' H' k)) l
section
variable {P:Program}{GL:bR}
variable {tm:List (Nat×V)}{n:Nat}{dst:Option Nat}{t:T}{H:ao}{gd:Option (Nat×Bool)}
theorem rH(hn:n<=gz){v:V}{k:KN}{x:XR}(hs:jY tm t)(h:CQ n dst v t H k=some x):∃aZ t',jY aZ t'/\k t' H=some x/\∀H0,St.put ⟨n,tm,H0⟩ dst v H=some ⟨n,aZ,H⟩:=by
 unfold CQ at h;split at h
 ·exact⟨tm,t,hs,h,fun _=>rfl⟩
 ·rename_i d;cases hb:Nat.blt d n with
   |false=>grind
   |true=>
    rw[hb]at h;have hd:d<n:=by simp_all
    exact⟨_,_,hs.put (by omega),h,fun H0=>by simp[St.put,hb]⟩
theorem uR{skip go:Option XR}{x:XR}(hs:jY tm t)(h:ql gd t skip go=some x):(aB gd tm=some true/\go=some x)\/(aB gd tm=some false/\skip=some x):=by
 unfold ql at h;unfold aB;split at h
 ·grind
 ·rename_i d nH;simp only[hs d];grind
theorem WO.x7{x:aX}{af:List Nat}{H':ao}{v:V}(hg:aB gd tm=some true)(h:Fw.x7 (aW GL tm x) H=some (v,H')):∀l bg Q,St.put ⟨n,tm,H⟩ dst v H'=some bg->WO P GL l bg Q->WO P GL (⟨dst,.f_ x,gd,af⟩::l) ⟨n,tm,H⟩ Q:=by
 intro l bg Q hp hw;unfold Fw.x7 at h;split at h
 ·rename_i b m0 hx;split at h
  ·rename_i m n' seen hb;split at h
   ·rename_i es hm;split at h
    ·simp at h;obtain⟨rfl,rfl⟩:=h;exact WO.f_ rfl hg hx hb hm rfl (fun i k v hi _=>by simp at hi) (fun _=>⟨bg,hp,hw⟩)
    ·simp at h;obtain⟨rfl,rfl⟩:=h;refine WO.f_ rfl hg hx hb hm rfl (fun i k v hi _=>?_ ) (fun hs=>by grind);grind
    ·simp at h;obtain⟨rfl,rfl⟩:=h;refine WO.f_ rfl hg hx hb hm rfl (fun i k v hi hs=>?_ ) (fun _=>⟨bg,hp,hw⟩);grind
    ·cases h
   ·cases h
  ·cases h
 ·cases h
theorem E7{own:List Nat}{call:a7}(hc:cy P GL call){op:jG}{af:List Nat}{k:V->ao->Option XR}{x:XR}(hs:jY tm t)(hg:aB gd tm=some true)(h:Pq own GL call dst op t H k=some x):∃v H',k v H'=some x/\∀l bg Q,St.put ⟨n,tm,H⟩ dst v H'=some bg->WO P GL l bg Q->WO P GL (⟨dst,op,gd,af⟩::l) ⟨n,tm,H⟩ Q:=by
 unfold Pq at h;rw[mM hs]at h;split at h
 ·rename_i f args;split at h
  ·rename_i v H' cq;refine⟨v,H',h,fun l bg Q hp hw=>WO.call rfl hg ((hc.g _ _ _ _ _ cq).mono ?_ )⟩;grind
  ·cases h
 ·rename_i y args;split at h
  ·rename_i f first cap hx
   split at h
   ·rename_i v H' cq;refine⟨v,H',h,fun l bg Q hp hw=>WO.b_ rfl hx hg ((hc.g _ _ _ _ _ cq).mono ?_ )⟩;grind
   ·cases h
  ·rename_i b hx;split at h
   ·rename_i v H' cq;obtain⟨b',as,e,hb,hy⟩:=hc.yl _ _ _ _ cq;simp only[ack,V.gJ.injEq]at e;obtain⟨rfl,rfl⟩:=e;refine⟨v,H',h,fun l bg Q hp hw=>WO.JI rfl hx hb hg (hy.mono ?_ )⟩;rintro r h' ⟨rfl,rfl⟩;exact⟨bg,hp,hw⟩
   ·cases h
  ·cases h
 ·rename_i sz len z ps;split at h
  ·rename_i v hv;refine⟨v,H,h,fun l bg Q hp hw=>WO.jN hg ?_ hp hw⟩;grind
  ·split at h
   ·rename_i v wr he;exact⟨v,_,h,fun l bg Q hp hw=>WO.bw hg he hp hw⟩
   ·cases h
 ·split at h
  ·rename_i v H' hv;exact⟨v,H',h,WO.x7 hg hv⟩
  ·cases h
 ·split at h
  ·rename_i v wr he;rw[Bp]at he;exact⟨v,_,h,fun l bg Q hp hw=>WO.bw hg he hp hw⟩
  ·cases h
theorem jZ{own:List Nat}{call:a7}(hc:cy P GL call){n:Nat}(hn:n<=gz):∀{l:List ab}{t:T}{H:ao}{k:KN}{x:XR}{tm:List (Nat×V)},jY tm t->pa own GL call n l t H k=some x->∃aZ t' H',jY aZ t'/\WO P GL l ⟨n,tm,H⟩ (fun s=>s=⟨n,aZ,H'⟩)/\k t' H'=some x
 |[],t,H,k,x,tm,hs,h=>⟨tm,t,H,hs,WO.nil rfl,h⟩
 |o::l,t,H,k,x,tm,hs,h=>by
  have h:o_ own GL call n o t H (fun t' H'=>pa own GL call n l t' H' k)=some x:=h;obtain⟨dst,op,gd,af⟩:=o;simp only[o_]at h;rcases uR hs h with⟨hg,h⟩|⟨hg,h⟩
  ·obtain⟨v,H',h1,h2⟩:=E7 (n:=n) (af:=af) hc hs hg h;obtain⟨aZ,t',jg,h3,h4⟩:=rH hn hs h1;obtain⟨eT,t2,H2,Bt,hw,hk⟩:=jZ hc hn jg h3;grind
  ·obtain⟨aZ,t',jg,h3,h4⟩:=rH hn hs h;obtain⟨eT,t2,H2,Bt,hw,hk⟩:=jZ hc hn jg h3;exact⟨eT,t2,H2,Bt,WO.skip hg (h4 H) hw,hk⟩
end
def look{α:Type}:List (Nat×α)->Nat->Option α|[],_=>none|(k,a)::l,i=>bif Nat.beq k i then some a else look l i
def LK(b':Option Bool)(v:V):V×List (Bool×Bool):=match b',v with
 |some b',.d (.bool b)=>(.d (.bool b'),[(b,b')])
 |_,v=>(v,[])
abbrev lg:=List (FuncId×List V×V)
def nq(own:List Nat)(GL:bR)(dc:gA)(ov:List (Nat×Bool))(sp:List (Nat×V))(base:Nat):Nat->List ab->St->Option (List (((V×Wr)×List Nat)×Option V)×List (Bool×Bool)×lg)
 |_,[],_=>some ([],[],[])
 |i,o::l,σ=>
  let cv:Option V:=match cK (aW GL σ.tm) o.op with
   |some (f,args)=>(match look sp i with|some v=>some v|none=>dc f args σ.hp)
   |none=>bif zU o.dst own then none else jN (aW GL σ.tm) o.op
  match iS GL σ.tm σ.hp (base+i) o cv with
   |none=>none
   |some r=>
    match nq own GL dc ov sp base (i+1) l (σ.iF o.dst (LK (look ov i) r.1).1 (bn σ.hp r.2))with
     |none=>none
     |some (rs,cs,calls)=>some (((((LK (look ov i) r.1).1,r.2),mC (aW GL σ.tm) o.op),cv)::rs,(LK (look ov i) r.1).2++cs,(match cK (aW GL σ.tm) o.op,look sp i with|some (f,args),some v=>[(f,args,v)]|_,_=>[])++calls)
def lh:List (Bool×Bool)->Prop|[]=>True|(a,b)::l=>a=b/\lh l
def nr(P:Program)(GL:bR):lg->Prop|[]=>True|(f,args,v)::l=>PC P GL f args v/\nr P GL l
theorem qm:∀{a b:List (Bool×Bool)},lh (a++b)->lh a/\lh b|[],_,h=>⟨trivial,h⟩|(x,y)::a,b,h=>⟨⟨h.1,(qm h.2).1⟩,(qm h.2).2⟩
section
variable {P:Program}{GL:bR}
variable {l:List ab}
theorem qn:∀{a b:lg},nr P GL (a++b)->nr P GL a/\nr P GL b|[],_,h=>⟨trivial,h⟩|(x,y,z)::a,b,h=>⟨⟨h.1,(qn h.2).1⟩,(qn h.2).2⟩
theorem LL{b:Option Bool}{v:V}(h:lh (LK b v).2):(LK b v).1=v:=by unfold LK at h⊢;grind[lh]
theorem x8{own:List Nat}{dc:gA}(hd:mK P GL dc){ov:List (Nat×Bool)}{sp:List (Nat×V)}{base:Nat}:∀{l:List ab}{i:Nat}{σ:St}{qs:List (((V×Wr)×List Nat)×Option V)}{cs:List (Bool×Bool)}{calls:lg},nq own GL dc ov sp base i l σ=some (qs,cs,calls)->lh cs->nr P GL calls->∀qc:Nat->Option CV,(∀j q,qs[j]? =some q->qc (i+j)=q.2.map .v)->rp GL base qc i l σ=some (qs.map (·.1))/\qs.length=l.length/\∀k o q,l[k]? =some o->qs[k]? =some q->∀f args,cK (aW GL (aP (fun j=>decide (j<i+k)) i l (qs.map (·.1)) σ).tm) o.op=some (f,args)->aB o.guard (aP (fun j=>decide (j<i+k)) i l (qs.map (·.1)) σ).tm=some true->∀ns,iU P GL f args (aP (fun j=>decide (j<i+k)) i l (qs.map (·.1)) σ).hp ns q.1.1
 |[],i,σ,qs,cs,calls,h,_,_,qc,hq=>by simp only[nq,aat,aay]at h;obtain⟨rfl,rfl,rfl⟩:=h;exact⟨rfl,rfl,by simp⟩
 |o::l,i,σ,qs,cs,calls,h,nI,tM,qc,hq=>by
  simp only[nq]at h;split at h
  ·cases h
  ·rename_i r hr;split at h
   ·cases h
   ·rename_i rs rU LM N8;simp at h;obtain⟨rfl,rfl,rfl⟩:=h;obtain⟨VR,HO⟩:=qm nI;obtain⟨N6,HU⟩:=qn tM;have hv:=LL VR;rw[hv]at N8 hq⊢;have h0:=hq 0 _ rfl;simp at h0;obtain⟨k1,k2,k3⟩:=x8 hd N8 HO HU qc (fun j q hj=>by have:=hq (j+1) q (by grind);grind);have ZX:(r.1,r.2)=r:=rfl;refine⟨?_,by simp[k2],fun k o' q tV Us f args cq hg=>?_ ⟩
    ·simp only[rp,h0,EF,hr,k1,aaG]
    ·cases k with
      |zero=>
       simp at tV Us;subst tV;subst Us;rw[iV (fun j hj=>aaL (by omega))]at cq hg⊢;simp only[cq]at hr N6;unfold iS at hr;rw[hg]at hr;simp only[cq]at hr;cases hs:look sp i with
        |some v=>rw[hs]at hr N6;simp at hr;rw[←hr];exact fun ns=>(N6.1).Be.O3 ns
        |none=>
         rw[hs]at hr;simp only at hr;cases hp:dc f args σ.hp with
          |none=>grind
          |some v=>rw[hp]at hr;simp at hr;rw[←hr];exact fun ns=>(hd _ _ _ _ hp).O3 ns
      |succ k=>
       simp at tV Us;have e:i+(k+1)=i+1+k:=by omega
       have A9:aP (fun j=>decide (j<i+(k+1))) i (o::l) (((r.1,r.2),mC (aW GL σ.tm) o.op)::rs.map (·.1)) σ=aP (fun j=>decide (j<i+1+k)) (i+1) l (rs.map (·.1)) (σ.iF o.dst r.1 (bn σ.hp r.2)):=by simp only[aP,e,show decide (i<i+1+k)=true by simp;omega,aaw]
       grind
theorem WO.mono{σ:St}{Q Q':St->Prop}(h:WO P GL l σ Q)(hq:∀s,Q s->Q' s):WO P GL l σ Q':=by intro ro ops k h1 g w a hr;exact cU (fun e a w hp=>dr.mono (fun e s Us=>by grind) e a w hp) _ _ _ (h ro ops k h1 g w a hr)
theorem DP.JP{own:List Nat}{dc:gA}(hd:mK P GL dc){ov:List (Nat×Bool)}{sp:List (Nat×V)}{mm:Nat}{k:Nat}(m:Nat){n:Nat}{tm:List (Nat×V)}{H:ao}{lp:List ab}{qs:List (((V×Wr)×List Nat)×Option V)}{cs:List (Bool×Bool)}{calls:lg}{Q:Ex->St->Prop}(Lu:(iw k l).take m=lp)(hmb:Nat.ble (k+m) l.length=true)(EL:oZ k m l=true)(h:nq own GL dc ov sp H.length 0 lp ⟨n,tm,H++List.replicate lp.length none⟩=some (qs,cs,calls))(hb:(fH lp (qs.map (·.1))&&jy n lp&&iu (H.length+lp.length) (qs.map (·.1)))=true)(nI:lh cs)(tM:nr P GL calls)(hq:DP P GL mm l (k+m) (aP (fun _=>true) 0 lp (qs.map (·.1)) ⟨n,tm,H++List.replicate lp.length none⟩) Q):DP P GL mm l k ⟨n,tm,H⟩ Q:=by simp at hb;obtain⟨k1,k2,k3⟩:=x8 hd h nI tM (fun i=>((qs[i]? ).bind (·.2)).map .v) (fun j q hj=>by simp[hj]);refine DP.part (σ:=⟨n,tm,H⟩) m Lu hmb EL k1 hb.1.1 hb.1.2 hb.2 (fun i o r ho hr f args cq hg=>?_ ) hq;simp only[aa9,aaB]at hr;obtain⟨q,hq1,rfl⟩:=hr;have:=k3 i o q ho hq1 f args (by rw[aaR];exact cq);simp at this;exact this hg _
theorem WC.E8{own:List Nat}{dc:gA}(hm:P.follows .mixedOrders=true)(hd:mK P GL dc){ov:List (Nat×Bool)}{sp:List (Nat×V)}{n:Nat}{tm:List (Nat×V)}{H:ao}{qs:List (((V×Wr)×List Nat)×Option V)}{cs:List (Bool×Bool)}{calls:lg}{Q:Ex->St->Prop}(h:nq own GL dc ov sp H.length 0 l ⟨n,tm,H++List.replicate l.length none⟩=some (qs,cs,calls))(hb:(fH l (qs.map (·.1))&&jy n l&&iu (H.length+l.length) (qs.map (·.1)))=true)(nI:lh cs)(tM:nr P GL calls)(hq:Q .normal (aP (fun _=>true) 0 l (qs.map (·.1)) ⟨n,tm,H++List.replicate l.length none⟩)):WC P GL (.draw l) ⟨n,tm,H⟩ Q:=WC.zY hm (DP.JP hd l.length (by rw[iW,abm]) (by simp_all) (by simp only[fH,aas]at hb;exact Bi hb.1.1.1) h hb nI tM (by rw[aaR];exact DP.done hq))
end
variable {H H':ao}{t:T}{tm:List (Nat×V)}{GL:bR}{n:Nat}{l:List ab}{aO:br}
noncomputable def wx(gd:Option (Nat×Bool))(t:T):Option Bool:=match gd with
 |none=>some true
 |some (d,nH)=>
  match eU t d with
   | .d (.bool b)=>some (b==nH)
   | .tuple []=>some false
   |_=>none
theorem Ab{gd:Option (Nat×Bool)}(hs:jY tm t):wx gd t=aB gd tm:=by
 unfold wx aB;cases gd with
  |none=>rfl
  |some p=>simp only[hs p.1];rfl
noncomputable def E9(GL:bR)(t:T)(H:ao)(ns:Nat)(o:ab)(cv:Option V):Option (V×Wr):=match wx o.guard t with
 |none=>none
 |some false=>some (.tuple [],none)
 |some true=>
  match cK (gB GL t) o.op with
   |some _=>cv.map fun v=>(v,none)
   |none=>
    match cv with
     |some _=>(jN (gB GL t) o.op).map fun v=>(v,none)
     |none=>Ib (gB GL t) H ns o.op
theorem E'(hs:jY tm t){ns:Nat}{o:ab}{cv:Option V}:E9 GL t H ns o cv=iS GL tm H ns o cv:=by unfold E9 iS;simp only[Ab hs,mM hs,Bp];rfl
noncomputable def JQ(dst:Option Nat)(v:V)(t:T):T:=match dst with
 |none=>t
 |some d=>CN t d v
noncomputable def x9(own:List Nat)(GL:bR)(dc:gA)(base:Nat):Nat->List ab->T->ao->Option (List (((V×Wr)×List Nat)×Option V)×T×ao)
 |_,[],t,H=>some ([],t,H)
 |i,o::l,t,H=>
  let cv:Option V:=match cK (gB GL t) o.op with
   |some (f,args)=>dc f args H
   |none=>bif zU o.dst own then none else jN (gB GL t) o.op
  match E9 GL t H (base+i) o cv with
   |none=>none
   |some r=>
    match x9 own GL dc base (i+1) l (JQ o.dst r.1 t) (bn H r.2)with
     |none=>none
     |some (rs,t',H')=>some (((r,mC (gB GL t) o.op),cv)::rs,t',H')
theorem x_{own:List Nat}{GL:bR}{dc:gA}{base n:Nat}(hn:n<=gz):∀{l:List ab}{i:Nat}{t:T}{H:ao}{tm:List (Nat×V)}{qs:List (((V×Wr)×List Nat)×Option V)}{t':T}{H':ao},jY tm t->jy n l=true->x9 own GL dc base i l t H=some (qs,t',H')->nq own GL dc [] [] base i l ⟨n,tm,H⟩=some (qs,[],[])/\∃aZ,jY aZ t'/\aP (fun _=>true) i l (qs.map (·.1)) ⟨n,tm,H⟩=⟨n,aZ,H'⟩
 |[],i,t,H,tm,qs,t',H',hs,hd,h=>by simp only[x9,aat,aay]at h;obtain⟨rfl,rfl,rfl⟩:=h;exact⟨rfl,tm,hs,rfl⟩
 |o::l,i,t,H,tm,qs,t',H',hs,hd,h=>by
  simp only[x9]at h;rw[E' hs,mM hs]at h;simp only[jy,aaM,aas]at hd;split at h
  ·cases h
  ·rename_i r hr;split at h
   ·cases h
   ·rename_i rs t2 H2 N8;simp at h;obtain⟨rfl,rfl,rfl⟩:=h;have aR:∃kI,jY kI (JQ o.dst r.1 t)/\St.iF ⟨n,tm,H⟩ o.dst r.1 (bn H r.2)=⟨n,kI,bn H r.2⟩:=by
     cases eQ:o.dst with
      |none=>exact⟨tm,hs,rfl⟩
      |some d=>
       have h1:=hd.1;rw[eQ]at h1;have cA:d<n:=by simp_all
       exact⟨_,hs.put (by omega),rfl⟩
    obtain⟨kI,Hq,N6⟩:=aR;obtain⟨k1,eT,Bt,k2⟩:=x_ hn (n:=n) Hq (by grind[jy]) N8;simp_all[nq,look,LK,aaG,aP,aaw]
noncomputable def Bu(own:List Nat)(GL:bR)(dc:gA)(n:Nat)(l:List ab)(t:T)(H:ao):Option (T×ao):=bif nL l&&jy n l then
 match x9 own GL dc H.length 0 l t (H++List.replicate l.length none)with
  |none=>none
  |some (qs,t',H')=>bif (tU (qs.map (·.1))||JK 0 [] (CE (qs.map (·.1))) (dO 0 [] l))&&iu (H.length+l.length) (qs.map (·.1))then some (t',H')else none else none
theorem ya{own:List Nat}{dc:gA}(hn:n<=gz){t':T}(hs:jY tm t)(h:Bu own GL dc n l t H=some (t',H')):∃aZ qs,jY aZ t'/\nq own GL dc [] [] H.length 0 l ⟨n,tm,H++List.replicate l.length none⟩=some (qs,[],[])/\(fH l (qs.map (·.1))&&jy n l&&iu (H.length+l.length) (qs.map (·.1)))=true/\aP (fun _=>true) 0 l (qs.map (·.1)) ⟨n,tm,H++List.replicate l.length none⟩=⟨n,aZ,H'⟩:=by
 unfold Bu at h;cases h1:(nL l&&jy n l)with
  |false=>grind
  |true=>
   rw[h1]at h;simp at h;simp at h1;split at h
   ·cases h
   ·rename_i qs t2 H2 hq;cases h2:((tU (qs.map (·.1))||JK 0 [] (CE (qs.map (·.1))) (dO 0 [] l))&&iu (H.length+l.length) (qs.map (·.1)))with
     |false=>grind
     |true=>rw[h2]at h;simp at h;obtain⟨rfl,rfl⟩:=h;simp at h2;obtain⟨k1,aZ,jg,k2⟩:=x_ hn hs h1.2 hq;simp_all[fH,aas]
def Bv(l:List ab):Nat->Nat->Option Nat|0,_=>none|f+1,m=>bif sk m l&&oZ 0 m l then some m else Bv l f (m+1)
theorem yc{l:List ab}:∀{f m r:Nat},Bv l f m=some r->(sk r l&&oZ 0 r l)=true/\r<m+f
 |0,m,r,h=>by cases h
 |f+1,m,r,h=>by
  simp only[Bv]at h;cases hb:(sk m l&&oZ 0 m l)with
   |true=>grind
   |false=>rw[hb]at h;have:=yc h;grind
noncomputable def E_(own:List Nat)(GL:bR)(call:a7)(aO:br)(n:Nat)(l:List ab)(t:T)(H:ao)(k:KN):Option XR:=match Bv l l.length 0 with
 |none=>none
 |some m=>
  match Bu own GL (mL aO call) n (l.take m) t H with
   |none=>none
   |some (t1,H1)=>pa own GL call n ((l.drop m).map Bg) t1 H1 k
theorem Fa{P:Program}{own:List Nat}{call:a7}(hm:P.follows .mixedOrders=true)(hc:cy P GL call)(hp:cd P GL aO)(hn:n<=gz){k:KN}{x:XR}(hs:jY tm t)(h:E_ own GL call aO n l t H k=some x):∃aZ t' H',jY aZ t'/\WC P GL (.draw l) ⟨n,tm,H⟩ (fun e s=>e=.normal/\s=⟨n,aZ,H'⟩)/\k t' H'=some x:=by
 unfold E_ at h;split at h
 ·cases h
 ·rename_i m hfm;obtain⟨DR,hml⟩:=yc hfm;rw[aas]at DR;split at h
  ·cases h
  ·rename_i t1 H1 hd;obtain⟨kI,qs,Hq,k1,hb,k2⟩:=ya hn hs hd;obtain⟨aZ,t',H',jg,hw,hk⟩:=jZ hc hn Hq h;refine⟨aZ,t',H',jg,WC.zY hm (DP.JP (nP hp hc) m (by rw[iW]) (by rw[abG];omega) DR.2 k1 hb trivial trivial ?_ ),hk⟩;rw[k2,aaR];have hbf:=DR.2;simp only[oZ,iW,aas]at hbf;exact DP.chain (by rw[abG];omega) hbf.1 DR.1 (hw.mono fun s hs=>⟨rfl,hs⟩)
noncomputable def qo(own:List Nat)(GL:bR)(call:a7)(aO:br)(n:Nat)(l:List ab)(t:T)(H:ao)(k:KN):Option XR:=match Bu own GL (mL aO call) n l t H with
 |some (t',H')=>k t' H'
 |none=>E_ own GL call aO n l t H k
theorem uS{own:List Nat}{P:Program}{call:a7}(hm:P.follows .mixedOrders=true)(hc:cy P GL call)(hp:cd P GL aO)(hn:n<=gz){k:KN}{x:XR}(hs:jY tm t)(h:qo own GL call aO n l t H k=some x):∃aZ t' H',jY aZ t'/\WC P GL (.draw l) ⟨n,tm,H⟩ (fun e s=>e=.normal/\s=⟨n,aZ,H'⟩)/\k t' H'=some x:=by
 unfold qo at h;split at h
 ·rename_i t' H' hd;obtain⟨aZ,qs,jg,k1,hb,k2⟩:=ya hn hs hd;exact⟨aZ,t',H',jg,WC.E8 hm (nP hp hc) k1 hb trivial trivial (by grind),h⟩
 ·exact Fa hm hc hp hn hs h
noncomputable def qU(body:T->ao->KN->(Nat->KN)->KN->Option XR)(m:Nat):T->ao->(Nat->KN)->KN->Option XR:=@Nat.rec (fun _=>T->ao->(Nat->KN)->KN->Option XR) (fun _ _ _ _=>none) (fun _ ih t H ke kr=>body t H (fun t' H'=>ih t' H' ke kr) ke kr) m
noncomputable def ar(v:V)(a b:Option XR):Option XR:=match v with
 | .d (.bool t)=>bif t then a else b
 |_=>none
noncomputable def yd(n:Nat)(t:T):List (Nat×V):=(List.range n).map fun i=>(i,eU t i)
theorem CR(t:T)(s:Nat):∀(n:Nat),get (yd n t) s=eU t s\/get (yd n t) s=.any:=by
 intro n;unfold yd;generalize List.range n=l;induction l with
  |nil=>exact .inr rfl
  |cons i l ih=>
   simp only[aaG,get];cases hb:Nat.beq i s with
    |true=>left;rw[aav hb];rfl
    |false=>exact ih
noncomputable def nQ(GL:bR)(call:a7)(n:Nat)(f:aX)(ps:List Nat)(ca cb:Code)(t:T)(H:ao)(kn:KN)(ke:Nat->KN)(kr:KN):Option XR:=match gB GL t f with
 | .func zP first cap=>
  match o6 call zP (first++[.gJ H.length]++cap) (aR H H.length (.loop n (yd n t) ps ca cb .ready))with
   |some (_,H')=>
    match aA H' H.length with
     |some (.loop n1 kI mz mA mB st)=>
      match st with
       | .ready=>kn t (aR H' H.length (.loop n1 kI mz mA mB .over))
       | .done none=>kr t (aR H' H.length (.loop n1 kI mz mA mB .over))
       | .done (some i)=>ke i t (aR H' H.length (.loop n1 kI mz mA mB .over))
       |_=>none
     |_=>none
   |none=>none
 |_=>none
noncomputable def eM(own:List Nat)(GL:bR)(call:a7)(aO:br)(m n:Nat)(c:IR):T->ao->KN->(Nat->KN)->KN->Option XR:=@IR.rec (fun _=>T->ao->KN->(Nat->KN)->KN->Option XR) (fun t H kn _ _=>kn t H) (fun l t H kn _ _=>pa own GL call n l t H kn) (fun l t H kn _ _=>qo own GL call aO n l t H kn) (fun _ _ ia ib t H kn ke kr=>ia t H (fun t' H'=>ib t' H' kn ke kr) ke kr) (fun c _ _ ia ib t H kn ke kr=>ar (gB GL t c) (ia t H kn ke kr) (ib t H kn ke kr)) (fun id _ ib t H kn ke kr=>ib t H kn (fun i t' H'=>bif Nat.beq i id then kn t' H' else ke i t' H') kr) (fun _ ib t H _ ke kr=>qU ib m t H ke kr) (fun id t H _ ke _=>ke id t H) (fun t H _ _ kr=>kr t H) (fun f ps ca cb t H kn ke kr=>nQ GL call n f ps ca cb t H kn ke kr) c
def LN(kn:KN)(ke:Nat->KN)(kr:KN)(e:Ex)(t:T)(H:ao):Option XR:=match e with
 | .normal=>kn t H
 | .exit i=>ke i t H
 | .ret=>kr t H
def sG(P:Program)(GL:bR)(b:IR)(e:Ex)(s':St):Nat->St->Prop
 |0,_=>False
 |k+1,s=>
  WC P GL b s (fun e1 s1=>
   match e1 with
    | .normal=>sG P GL b e s' k s1
    |e1=>e1=e/\s1=s')
theorem sG.wc{P:Program}{b:IR}{e:Ex}{s':St}{k:Nat}{s:St}(h:sG P GL b e s' k s):WC P GL (.loop b) s (fun e1 s1=>e1=e/\s1=s'):=by
 refine WC.loop (fun m s=>sG P GL b e s' m s) (fun m s hm=>?_ ) h;cases m with
  |zero=>exact hm.elim
  |succ m=>refine WC.mono hm ?_;grind
theorem fN{P:Program}{GL:bR}{own:List Nat}{call:a7}{aO:br}(hm:P.follows .mixedOrders=true)(hc:cy P GL call)(hp:cd P GL aO){m n:Nat}(hn:n<=gz):∀{c:IR}{t:T}{H:ao}{kn:KN}{ke:Nat->KN}{kr:KN}{x:XR}{tm:List (Nat×V)},jY tm t->eM own GL call aO m n c t H kn ke kr=some x->∃e aZ t' H',jY aZ t'/\WC P GL c ⟨n,tm,H⟩ (fun e' s=>e'=e/\s=⟨n,aZ,H'⟩)/\LN kn ke kr e t' H'=some x
 | .skip,t,H,kn,ke,kr,x,tm,hs,h=>⟨.normal,tm,t,H,hs,WC.skip ⟨rfl,rfl⟩,h⟩
 | .region l,t,H,kn,ke,kr,x,tm,hs,h=>by obtain⟨aZ,t',H',jg,hw,hk⟩:=jZ hc hn hs (show pa own GL call n l t H kn=some x from h);refine⟨.normal,aZ,t',H',jg,WC.region ?_,hk⟩;grind
 | .draw l,t,H,kn,ke,kr,x,tm,hs,h=>by obtain⟨aZ,t',H',jg,hw,hk⟩:=uS hm hc hp hn hs (show qo own GL call aO n l t H kn=some x from h);exact⟨.normal,aZ,t',H',jg,hw,hk⟩
 | .seq a b,t,H,kn,ke,kr,x,tm,hs,h=>by
  obtain⟨e,aZ,t',H',jg,hw,hk⟩:=fN hm hc hp hn hs (show eM own GL call aO m n a t H (fun t' H'=>eM own GL call aO m n b t' H' kn ke kr) ke kr=some x from h);cases e with
   |normal=>obtain⟨e2,eT,t2,H2,Bt,zm,pX⟩:=fN hm hc hp hn jg (show eM own GL call aO m n b t' H' kn ke kr=some x from hk);refine⟨e2,eT,t2,H2,Bt,WC.seq (hw.mono ?_ ),pX⟩;grind
   |exit i=>refine⟨.exit i,aZ,t',H',jg,WC.seq (hw.mono ?_ ),hk⟩;grind
   |ret=>refine⟨.ret,aZ,t',H',jg,WC.seq (hw.mono ?_ ),hk⟩;grind
 | .cond c a b,t,H,kn,ke,kr,x,tm,hs,h=>by
  have h:ar (gB GL t c) (eM own GL call aO m n a t H kn ke kr) (eM own GL call aO m n b t H kn ke kr)=some x:=h;rw[mM hs]at h;unfold ar at h;split at h
  ·rename_i tb hv;cases tb with
    |true=>obtain⟨e,aZ,t',H',jg,hw,hk⟩:=fN hm hc hp hn hs (show eM own GL call aO m n a t H kn ke kr=some x from h);exact⟨e,aZ,t',H',jg,WC.cond hv hw,hk⟩
    |false=>obtain⟨e,aZ,t',H',jg,hw,hk⟩:=fN hm hc hp hn hs (show eM own GL call aO m n b t H kn ke kr=some x from h);exact⟨e,aZ,t',H',jg,WC.cond hv hw,hk⟩
  ·cases h
 | .block id b,t,H,kn,ke,kr,x,tm,hs,h=>by
  obtain⟨e,aZ,t',H',jg,hw,hk⟩:=fN hm hc hp hn hs (show eM own GL call aO m n b t H kn (fun i t' H'=>bif Nat.beq i id then kn t' H' else ke i t' H') kr=some x from h);cases e with
   |normal=>refine⟨.normal,aZ,t',H',jg,WC.block (hw.mono ?_ ),hk⟩;grind
   |exit i=>
    have hk:(bif Nat.beq i id then kn t' H' else ke i t' H')=some x:=hk;by_cases hi:i=id
    ·subst hi;rw[aaS,aaw]at hk;refine⟨.normal,aZ,t',H',jg,WC.block (hw.mono ?_ ),hk⟩;grind
    ·rw[dv hi,aaK]at hk;refine⟨.exit i,aZ,t',H',jg,WC.block (hw.mono ?_ ),hk⟩;grind
   |ret=>refine⟨.ret,aZ,t',H',jg,WC.block (hw.mono ?_ ),hk⟩;grind
 | .loop b,t,H,kn,ke,kr,x,tm,hs,h=>by
  have h:qU (eM own GL call aO m n b) m t H ke kr=some x:=h;have key:∀(k:Nat)(t:T)(H:ao)(tm:List (Nat×V)),jY tm t->qU (eM own GL call aO m n b) k t H ke kr=some x->∃e aZ t' H',jY aZ t'/\sG P GL b e ⟨n,aZ,H'⟩ k ⟨n,tm,H⟩/\LN kn ke kr e t' H'=some x:=by
   intro k;induction k with
    |zero=>intro t H tm _ h0;cases h0
    |succ k ih=>
     intro t H tm hs h0;have h0:eM own GL call aO m n b t H (fun t' H'=>qU (eM own GL call aO m n b) k t' H' ke kr) ke kr=some x:=h0;obtain⟨e,aZ,t',H',jg,hw,hk⟩:=fN hm hc hp hn hs h0;cases e with
      |normal=>obtain⟨e2,eT,t2,H2,Bt,zm,pX⟩:=ih t' H' aZ jg hk;refine⟨e2,eT,t2,H2,Bt,WC.mono hw ?_,pX⟩;grind
      |exit i=>refine⟨.exit i,aZ,t',H',jg,WC.mono hw ?_,hk⟩;grind
      |ret=>refine⟨.ret,aZ,t',H',jg,WC.mono hw ?_,hk⟩;grind
  obtain⟨e,aZ,t',H',jg,hw,hk⟩:=key m t H tm hs h;exact⟨e,aZ,t',H',jg,hw.wc,hk⟩
 | .exit id,t,H,kn,ke,kr,x,tm,hs,h=>⟨.exit id,tm,t,H,hs,WC.exit ⟨rfl,rfl⟩,h⟩
 | .ret,t,H,kn,ke,kr,x,tm,hs,h=>⟨.ret,tm,t,H,hs,WC.ret ⟨rfl,rfl⟩,h⟩
 | .dC f ps ca cb,t,H,kn,ke,kr,x,tm,hs,h=>by
  have h:nQ GL call n f ps ca cb t H kn ke kr=some x:=h;unfold nQ at h;rw[mM hs]at h;split at h
  ·rename_i zP first cap hx
   split at h
   ·rename_i v H' cq;have hwf:=hc.g _ _ _ _ _ cq;split at h
    ·rename_i n1 kI mz mA mB st hb;have Pr:∀(ex:Ex),(match st with| .ready=>ex=.normal| .done none=>ex=.ret| .done (some i)=>ex=.exit i|_=>False)->WC P GL (.dC f ps ca cb) ⟨n,tm,H⟩ (fun e' s=>e'=ex/\s=⟨n,tm,aR H' H.length (.loop n1 kI mz mA mB .over)⟩):=by
      intro ex zl;refine WC.dC (σ:=⟨n,tm,H⟩) (yd n t) (fun s=>by rw[hs s];exact CR t s n) hx (hwf.mono ?_ );rintro r h' ⟨rfl,rfl⟩;refine⟨n1,kI,mz,mA,mB,st,hb,?_⟩;revert zl;cases st with
       |ready=>rintro rfl;exact⟨rfl,rfl⟩
       |busy=>exact fun h=>h.elim
       |over=>exact fun h=>h.elim
       |done e=>cases e<;>(rintro rfl;exact⟨rfl,rfl⟩)
     split at h
     ·exact⟨.normal,tm,t,_,hs,Pr _ rfl,h⟩
     ·exact⟨.ret,tm,t,_,hs,Pr _ rfl,h⟩
     ·exact⟨.exit _,tm,t,_,hs,Pr _ rfl,h⟩
     ·cases h
    ·cases h
   ·cases h
  ·cases h
inductive FT (α:Type) where
 |e
 |n (l:FT α) (k:Nat) (a:α) (r:FT α)
noncomputable def lX{α:Type}(t:FT α)(f:Nat):Option α:=@FT.rec α (fun _=>Option α) none (fun _ k a _ il ir=>@Bool.rec (fun _=>Option α) (@Bool.rec (fun _=>Option α) ir il (Nat.ble f k)) (some a) (Nat.beq f k)) t
def sH{α:Type}(p:Nat->α->Prop):FT α->Prop| .e=>True| .n l k a r=>sH p l/\p k a/\sH p r
theorem mN{α:Type}{p:Nat->α->Prop}:∀{t:FT α}{f:Nat}{a:α},sH p t->lX t f=some a->p f a
 | .e,f,a,_,h=>by cases h
 | .n l k b r,f,a,ht,h=>by
  have h:@Bool.rec (fun _=>Option α) (@Bool.rec (fun _=>Option α) (lX r f) (lX l f) (Nat.ble f k)) (some b) (Nat.beq f k)=some a:=h;cases h1:Nat.beq f k with
   |true=>rw[h1]at h;have:=aav h1;subst this;simp at h;subst h;exact ht.2.1
   |false=>
    rw[h1]at h;cases h2:Nat.ble f k with
     |true=>rw[h2]at h;exact mN ht.1 h
     |false=>rw[h2]at h;exact mN ht.2.2 h
noncomputable def rI(t:T)(H:ao):jH->Option V
 | .t n=>some (eU t n)
 | .cell n size agg=>
  match jq H size (eU t n)with
   |some cs=>AX agg cs
   |none=>none
noncomputable def pb(rs:List jH)(t:T)(H:ao):Option XR:=match bS (rI t H) rs with
 |some [v]=>some (v,H)
 |some vs=>some (.tuple vs,H)
 |none=>none
theorem Bw{rs:List jH}{x:XR}(hs:jY tm t)(h:pb rs t H=some x):ij rs ⟨n,tm,H⟩=some x.1/\x.2=H:=by
 have e:rI t H=gu ⟨n,tm,H⟩:=funext fun r=>by
  cases r with
   |t n=>simp only[rI,gu,hs _]
   |cell n size agg=>simp only[rI,gu,hs _];grind
 unfold pb at h;unfold ij;grind
noncomputable def uT:List (Nat×V)->T|[]=>.e|(s,u)::l=>CN (uT l) s u
def lY(tm:List (Nat×V)):Bool:=tm.all fun p=>Nat.blt p.1 gz
theorem jY.tree:∀{tm:List (Nat×V)},lY tm=true->jY tm (uT tm)
 |[],_=>jY.nil
 |(s,u)::l,h=>
  fun t=>by
   simp only[lY,aaM,aas]at h;have hs:s<gz:=by simp_all
   rw[bB,uT,qk _ _ _ _ hs,jY.tree (by grind[lY]) t];grind
noncomputable def ye(b:Nat)(e:Ex)(H:ao):Option XR:=match aA H b with
 |some (.loop n tm ps ca cb .busy)=>some (.d (.bool (lL e)),aR H b (.loop n tm ps ca cb (EC e)))
 |_=>none
noncomputable def nR(cc:Code->Option IR)(GL:bR)(call:a7)(aO:br)(m:Nat)(args:List V)(H:ao):Option XR:=match args with
 | .gJ b::as=>
  match aA H b with
   |some (.loop n tm ps ca cb .ready)=>
    match cc ca,cc cb with
     |some ia,some ib=>
      bif Nat.beq as.length ps.length&&ps.all (fun p=>Nat.blt p n)&&Nat.ble n gz&&dW ia&&dW ib&&lY (iq tm ps as)then
       eM [] GL call aO m n ia (uT (iq tm ps as)) H (fun t H1=>
        match aA H1 b with
         |some (.loop n1 kI mz mA mB .ready)=>eM [] GL call aO m n ib t (aR H1 b (.loop n1 kI mz mA mB .busy)) (fun _ H2=>ye b .normal H2) (fun i _ H2=>ye b (.exit i) H2) (fun _ H2=>ye b .ret H2)
         |_=>none) (fun _ _ _=>none) (fun _ _=>none)
      else none
     |_,_=>none
   |_=>none
 |_=>none
theorem Ie{b:Nat}{e:Ex}{v:V}(h:ye b e H=some (v,H')):oQ b e H (fun r h=>r=v/\h=H'):=by
 unfold ye at h;split at h
 ·rename_i n tm ps ca cb hb;simp only[aat,aay]at h;exact⟨n,tm,ps,ca,cb,hb,h.1,h.2⟩
 ·cases h
theorem CS{P:Program}{call:a7}(hm:P.follows .mixedOrders=true)(hc:cy P GL call)(hp:cd P GL aO){m:Nat}{args:List V}{v:V}(h:nR (aD P) GL call aO m args H=some (v,H')):∃b as,args=.gJ b::as/\(∃n tm ps ca cb st,aA H b=some (.loop n tm ps ca cb st))/\WY P GL b as H (fun r h=>r=v/\h=H'):=by
 unfold nR at h;split at h
 ·rename_i b as;split at h
  ·rename_i n tm ps ca cb hb;refine⟨b,as,rfl,⟨_,_,_,_,_,_,hb⟩,?_⟩;split at h
   ·rename_i ia ib LO hib;cases hg:(Nat.beq as.length ps.length&&ps.all (fun p=>Nat.blt p n)&&Nat.ble n gz&&dW ia&&dW ib&&lY (iq tm ps as))with
     |false=>rw[hg]at h;cases h
     |true=>
      rw[hg,aaw]at h;simp only[aas]at hg;obtain⟨⟨⟨⟨⟨g1,g2⟩,g3⟩,g4⟩,g5⟩,g6⟩:=hg;have hn:=aax g3;obtain⟨e,aZ,t',H1,jg,hw,hk⟩:=fN hm hc hp hn (jY.tree g6) h;refine WY.round hb (aav g1) g2 LO hib g4 g5 (hw.mono ?_ );rintro e' s ⟨rfl,rfl⟩;cases e' with
       |exit i=>cases(show(none:Option XR)=some (v,H')from hk)
       |ret=>cases(show(none:Option XR)=some (v,H')from hk)
       |normal=>
        simp only[LN]at hk;split at hk
        ·rename_i n1 kI mz mA mB zk;refine⟨n1,kI,mz,mA,mB,zk,?_⟩;obtain⟨e2,eT,t2,H2,Bt,zm,pX⟩:=fN hm hc hp hn jg hk;refine zm.mono ?_;rintro e3 s ⟨rfl,rfl⟩;cases e3<;>exact Ie pX
        ·cases hk
   ·cases h
  ·cases h
 ·cases h
noncomputable def sI(cc:Code->Option IR)(ew:FuncId->List Nat)(GL:bR)(qV:FT bL)(mk:a7->a7)(nS:a7->br)(m:Nat)(d:Nat):a7:=@Nat.rec (fun _=>a7) (fun _ _ _=>none) (fun _ ih f args H=>
 bif Nat.beq f jW then nR cc GL (mk ih) (nS ih) m args H else
  match lX qV f with
   |none=>none
   |some fn=>bif Nat.ble args.length fn.ntmps&&Nat.ble fn.ntmps gz then eM (ew f) GL (mk ih) (nS ih) m fn.ntmps fn.body (nl 0 args .e) H (fun t H=>pb fn.res t H) (fun _ _ _=>none) (fun t H=>pb fn.res t H)else none) d
theorem wy{P:Program}{GL:bR}{ew:FuncId->List Nat}{qV:FT bL}{mk:a7->a7}{nS:a7->br}(hm:P.follows .mixedOrders=true)(hf:sH (fun f fn=>au P f=some fn/\an P f=true) qV)(VS:∀iG,cy P GL iG->cy P GL (mk iG))(LP:∀iG,cy P GL iG->cd P GL (nS iG))(m:Nat):∀d,cy P GL (sI (aD P) ew GL qV mk nS m d)
 |0=>⟨fun f args H v H' _ h=>(by cases h),fun args H v H' h=>(by cases h)⟩
 |d+1=>by
  have ih:=wy (ew:=ew) hm hf VS LP m d;have step:∀f args H,sI (aD P) ew GL qV mk nS m (d+1) f args H=(bif Nat.beq f jW then nR (aD P) GL (mk (sI (aD P) ew GL qV mk nS m d)) (nS (sI (aD P) ew GL qV mk nS m d)) m args H else
   match lX qV f with
    |none=>none
    |some fn=>bif Nat.ble args.length fn.ntmps&&Nat.ble fn.ntmps gz then eM (ew f) GL (mk (sI (aD P) ew GL qV mk nS m d)) (nS (sI (aD P) ew GL qV mk nS m d)) m fn.ntmps fn.body (nl 0 args .e) H (fun t H=>pb fn.res t H) (fun _ _ _=>none) (fun t H=>pb fn.res t H)else none):=fun _ _ _=>rfl
  refine⟨fun f args H v H' hy h=>?_,fun args H v H' h=>?_ ⟩
  ·rw[step,hy,aaK]at h;split at h
   ·cases h
   ·rename_i fn HS;obtain⟨h1,h2⟩:=mN hf HS;cases hb:(Nat.ble args.length fn.ntmps&&Nat.ble fn.ntmps gz)with
     |false=>grind
     |true=>
      rw[hb]at h;simp at h;simp only[aas]at hb;have zk:=aax hb.1;have A6:=aax hb.2;obtain⟨e,aZ,t',H2,jg,hw,hk⟩:=fN hm (VS _ ih) (LP _ ih) A6 (jY.args args (by omega)) h;refine WF.body h1 h2 zk (hw.mono ?_ );rintro e' s' ⟨rfl,rfl⟩;cases e' with
       |normal=>obtain⟨k1,k2⟩:=Bw (n:=fn.ntmps) jg (show pb fn.res t' H2=some (v,H')from hk);grind
       |exit i=>cases(show(none:Option XR)=some (v,H')from hk)
       |ret=>obtain⟨k1,k2⟩:=Bw (n:=fn.ntmps) jg (show pb fn.res t' H2=some (v,H')from hk);grind
  ·rw[step,aaS,aaw]at h;exact CS hm (VS _ ih) (LP _ ih) h
abbrev Extra:=FT (List V->Option V)
noncomputable def yf(ex:Extra)(gy:br):br:=fun f args=>
 match lX ex f with
  |none=>gy f args
  |some s=>
   match s args with
    |some v=>some v
    |none=>gy f args
noncomputable def Ut(kt:FT Nat)(ex:Extra)(rf:FuncId->Bool)(mU:z6)(gy:br)(iG:a7):a7:=fun f args H=>
 bif Nat.beq f jW then iG f args H else
  match lX kt f with
   |none=>rG (fun _=>false) (fun _ _=>none) iG f args H
   |some _=>
    match yf ex (fun _ _=>none) f args with
     |some v=>some (v,H)
     |none=>z7 rf mU (yf ex gy) iG f args H
noncomputable def LR(kt:FT Nat)(ex:Extra)(rf:FuncId->Bool)(gy:br)(iG:a7):br:=fun f args=>
 match lX kt f with
  |none=>mF (fun _ _=>none) iG f args
  |some _=>bif rf f then none else mF (yf ex gy) iG f args
def sJ(P:Program)(GL:bR)(ex:Extra):Prop:=sH (fun f s=>∀args v,s args=some v->PC P GL f args v) ex
section
variable {P:Program}{GL:bR}
variable {ex:Extra}{gy:br}
theorem sK(he:sJ P GL ex)(hp:cd P GL gy):cd P GL (yf ex gy):=by
 intro f args v h;unfold yf at h;split at h
 ·exact hp _ _ _ h
 ·rename_i s hs;split at h
  ·rename_i u hu;simp at h;subst h;exact mN he hs _ _ hu
  ·exact hp _ _ _ h
theorem wz:cd P GL (fun _ _=>none):=by intro f a v h;cases h
theorem Fb{kt:FT Nat}{rf:FuncId->Bool}{mU:z6}(he:sJ P GL ex)(hh:wj P GL mU)(hp:cd P GL gy):∀iG,cy P GL iG->cy P GL (Ut kt ex rf mU gy iG):=by
 intro iG hr;refine⟨fun f args H v H' hf h=>?_,fun args H v H' h=>hr.yl _ _ _ _ h⟩;unfold Ut at h;rw[hf,aaK]at h;split at h
 ·exact(sw wz hr).fn _ _ _ _ _ hf h
 ·split at h
  ·rename_i u hu;simp at h;obtain⟨rfl,rfl⟩:=h;exact WF.ER (sK he wz _ _ _ hu) ⟨rfl,rfl⟩
  ·exact(CJ hh (sK he hp) hr).fn _ _ _ _ _ hf h
theorem If{kt:FT Nat}{rf:FuncId->Bool}(he:sJ P GL ex)(hp:cd P GL gy):∀iG,cy P GL iG->cd P GL (LR kt ex rf gy iG):=by
 intro iG hr f args v h;unfold LR at h;split at h
 ·exact kQ wz hr _ _ _ h
 ·cases hb:rf f with
   |true=>grind
   |false=>rw[hb]at h;exact kQ (sK he hp) hr _ _ _ h
end
end Fw
/-
  Pieces of code by the quicker run: from a state told by a few slots to another, or to a function's result.
-/
namespace Fw
open Go
def wA:List Nat->List V->List (Nat×V)|k::ks,v::vs=>(k,v)::wA ks vs|_,_=>[]
theorem sL{t:T}(s:Nat):∀(ks:List Nat),get (wA ks (ks.map (eU t))) s=eU t s\/get (wA ks (ks.map (eU t))) s=.any
 |[]=>.inr rfl
 |k::ks=>by
  simp only[aaG,wA,bB];by_cases e:k=s
  ·grind
  ·rw[aaH e];exact sL s ks
theorem R.eH{GL:bR}{g:G}{w:World}{a:Act}{n:Nat}{tm eT:List (Nat×V)}{H:ao}(hw:∀s,get eT s=get tm s\/get eT s=.any)(h:R GL g w a ⟨n,tm,H⟩):R GL g w a ⟨n,eT,H⟩:=⟨h.defers,h.size,fun t=>by
 show RV g w (get eT t) _;rcases hw t with e|e
 ·rw[e];exact h.tmps t
 grind[RV],h.heap,h.cB⟩
theorem ay.eH{m n:Nat}{tm eT:List (Nat×V)}{H:ao}(hw:∀s,get eT s=get tm s\/get eT s=.any):ay m ⟨n,tm,H⟩ ⟨n,eT,H⟩:=fun _ g _ _ hr=>⟨g,hr.eH hw,fun _ _ _ he=>he⟩
section
variable {P:Program}{GL:bR}
theorem WC.eH{c:IR}{n:Nat}{tm eT:List (Nat×V)}{H:ao}{Q:Ex->St->Prop}(hw:∀s,get eT s=get tm s\/get eT s=.any)(h:WC P GL c ⟨n,eT,H⟩ Q):WC P GL c ⟨n,tm,H⟩ Q:=WC.tidy (ay.eH hw) h
end
end Fw
/-
  The quicker run, made ready once for each text of code: what an operation does, as a small function of slots and boxes.
-/
namespace Fw
open Go
inductive Bx (α:Type) where|mk (a:α)
structure pc where
 GL:bR
 call:a7
 aO:br
abbrev VK:=V->ao->Option XR
noncomputable def CT(k:Nat):Nat->Bx (T->V):=@Nat.rec (fun _=>Nat->Bx (T->V)) (fun i=>.mk (fun t=>eU t i)) (fun _ ih i=>@Nat.rec (fun _=>Bx (T->V)) (.mk (fun t=>@T.rec (fun _=>V) .any (fun _ v _ _ _=>v) t)) (fun j _=>@Bx.rec (T->V) (fun _=>Bx (T->V)) (fun g=>@Nat.rec (fun _=>Bx (T->V)) (.mk (fun t=>@T.rec (fun _=>V) .any (fun l _ _ _ _=>g l) t)) (fun _ _=>.mk (fun t=>@T.rec (fun _=>V) .any (fun _ _ r _ _=>g r) t)) (Nat.land j 1)) (ih (Nat.shiftRight j 1))) i) k
theorem wB:∀(k i:Nat),∃g,CT k i=.mk g/\∀t,g t=eU t i
 |0,i=>⟨_,rfl,fun _=>rfl⟩
 |k+1,0=>⟨_,rfl,fun t=>by cases t<;>rfl⟩
 |k+1,j+1=>by
  have h1:Nat.shiftRight j 1=j / 2:=by simp_all[abE]
  have h2:Nat.land j 1=j%2:=abR j;obtain⟨g,hg,yg⟩:=wB k (Nat.shiftRight j 1);have h:CT (k+1) (j+1)=@Bx.rec (T->V) (fun _=>Bx (T->V)) (fun g=>@Nat.rec (fun _=>Bx (T->V)) (.mk (fun t=>@T.rec (fun _=>V) .any (fun l _ _ _ _=>g l) t)) (fun _ _=>.mk (fun t=>@T.rec (fun _=>V) .any (fun _ _ r _ _=>g r) t)) (Nat.land j 1)) (CT k (Nat.shiftRight j 1)):=rfl;rw[h,hg];rw[h1]at yg;rcases abw j with hj|hj
  ·rw[h2,hj];refine⟨_,rfl,fun t=>?_ ⟩;cases t with
    |e=>rfl
    |n l u r=>grind[jC]
  ·rw[h2,hj];refine⟨_,rfl,fun t=>?_ ⟩;cases t with
    |e=>rfl
    |n l u r=>grind[jC]
noncomputable def Ig(k:Nat):Nat->Bx (T->V->T):=@Nat.rec (fun _=>Nat->Bx (T->V->T)) (fun i=>.mk (fun t _=>t)) (fun _ ih i=>@Nat.rec (fun _=>Bx (T->V->T)) (.mk (fun t v=>@T.rec (fun _=>T) (.n .e v .e) (fun l _ r _ _=>.n l v r) t)) (fun j _=>@Bx.rec (T->V->T) (fun _=>Bx (T->V->T)) (fun g=>@Nat.rec (fun _=>Bx (T->V->T)) (.mk (fun t v=>@T.rec (fun _=>T) (.n (g .e v) .any .e) (fun l u r _ _=>.n (g l v) u r) t)) (fun _ _=>.mk (fun t v=>@T.rec (fun _=>T) (.n .e .any (g .e v)) (fun l u r _ _=>.n l u (g r v)) t)) (Nat.land j 1)) (ih (Nat.shiftRight j 1))) i) k
theorem By:∀(k i:Nat),∃g,Ig k i=.mk g/\∀t v,g t v=lW k t i v
 |0,i=>⟨_,rfl,fun _ _=>rfl⟩
 |k+1,0=>⟨_,rfl,fun t v=>by cases t<;>rfl⟩
 |k+1,j+1=>by
  have h1:Nat.shiftRight j 1=j / 2:=by simp_all[abE]
  have h2:Nat.land j 1=j%2:=abR j;obtain⟨g,hg,yg⟩:=By k (Nat.shiftRight j 1);have h:Ig (k+1) (j+1)=@Bx.rec (T->V->T) (fun _=>Bx (T->V->T)) (fun g=>@Nat.rec (fun _=>Bx (T->V->T)) (.mk (fun t v=>@T.rec (fun _=>T) (.n (g .e v) .any .e) (fun l u r _ _=>.n (g l v) u r) t)) (fun _ _=>.mk (fun t v=>@T.rec (fun _=>T) (.n .e .any (g .e v)) (fun l u r _ _=>.n l u (g r v)) t)) (Nat.land j 1)) (Ig k (Nat.shiftRight j 1)):=rfl;rw[h,hg];rw[h1]at yg;rcases abw j with hj|hj
  ·rw[h2,hj];refine⟨_,rfl,fun t v=>?_ ⟩;cases t<;>grind[wt,wu]
  ·rw[h2,hj];refine⟨_,rfl,fun t v=>?_ ⟩;cases t<;>grind[wt,wu]
noncomputable def wC(x:aX):Bx (pc->T->V):=@aX.rec (fun _=>Bx (pc->T->V)) (fun n=>@Bx.rec (T->V) (fun _=>Bx (pc->T->V)) (fun g=>.mk (fun _ t=>g t)) (CT 12 n)) (fun v=>.mk (fun _ _=>v)) (fun n=>.mk (fun E t=>gB E.GL t (.g n))) (fun f=>.mk (fun _ _=>.func f [] [])) x
theorem pd(x:aX):∃f,wC x=.mk f/\∀E t,f E t=gB E.GL t x:=by
 cases x with
  |t n=>obtain⟨g,hg,yg⟩:=wB 12 n;have h:wC (.t n)=@Bx.rec (T->V) (fun _=>Bx (pc->T->V)) (fun g=>.mk (fun _ t=>g t)) (CT 12 n):=rfl;rw[h,hg];exact⟨_,rfl,fun E t=>yg t⟩
  |c v=>exact⟨_,rfl,fun _ _=>rfl⟩
  |g n=>exact⟨_,rfl,fun _ _=>rfl⟩
  |f f=>exact⟨_,rfl,fun _ _=>rfl⟩
noncomputable def Bz(l:List aX):Bx (pc->T->List V):=@List.rec aX (fun _=>Bx (pc->T->List V)) (.mk (fun _ _=>[])) (fun x _ ih=>@Bx.rec (pc->T->V) (fun _=>Bx (pc->T->List V)) (fun f=>@Bx.rec (pc->T->List V) (fun _=>Bx (pc->T->List V)) (fun g=>.mk (fun E t=>f E t::g E t)) ih) (wC x)) l
theorem yh:∀(l:List aX),∃f,Bz l=.mk f/\∀E t,f E t=bQ (gB E.GL t) l
 |[]=>⟨_,rfl,fun _ _=>rfl⟩
 |x::l=>by obtain⟨f,hf,tZ⟩:=pd x;obtain⟨g,hg,yg⟩:=yh l;have h:Bz (x::l)=@Bx.rec (pc->T->V) (fun _=>Bx (pc->T->List V)) (fun f=>@Bx.rec (pc->T->List V) (fun _=>Bx (pc->T->List V)) (fun g=>.mk (fun E t=>f E t::g E t)) (Bz l)) (wC x):=rfl;simp_all[bQ]
abbrev OC:=pc->T->ao->VK->Option XR
def jm(r:Option (V×Wr))(H:ao)(k:VK):Option XR:=match r with
 |some (v,wr)=>k v (bn H wr)
 |none=>none
def Ps(r:Option XR)(k:VK):Option XR:=match r with
 |some (v,H')=>k v H'
 |none=>none
noncomputable def Ih(x:aX)(F:(pc->T->V)->OC):Bx OC:=@Bx.rec (pc->T->V) (fun _=>Bx OC) (fun f=>.mk (F f)) (wC x)
noncomputable def LS(x y:aX)(F:(pc->T->V)->(pc->T->V)->OC):Bx OC:=@Bx.rec (pc->T->V) (fun _=>Bx OC) (fun f=>@Bx.rec (pc->T->V) (fun _=>Bx OC) (fun g=>.mk (F f g)) (wC y)) (wC x)
theorem nT{x:aX}{F:(pc->T->V)->OC}:∃f,Ih x F=.mk (F f)/\∀E t,f E t=gB E.GL t x:=by obtain⟨f,hf,tZ⟩:=pd x;exact⟨f,by unfold Ih;rw[hf],tZ⟩
theorem sM{x y:aX}{F:(pc->T->V)->(pc->T->V)->OC}:∃f g,LS x y F=.mk (F f g)/\(∀E t,f E t=gB E.GL t x)/\∀E t,g E t=gB E.GL t y:=by obtain⟨f,hf,tZ⟩:=pd x;obtain⟨g,hg,yg⟩:=pd y;exact⟨f,g,by unfold LS;rw[hf,hg],tZ,yg⟩
noncomputable def DS(own:List Nat)(dst:Option Nat)(op:jG):Bx OC:=match op with
 | .mv x=>Ih x fun f E t H k=>k (f E t) H
 | .load n agg a=>Ih a fun f E t H k=>jm (Bo H n agg (f E t)) H k
 | .store n a x=>LS a x fun f g E t H k=>jm (wv H n (f E t) (g E t)) H k
 | .bin op x y=>LS x y fun f g E t H k=>jm (xY op (f E t) (g E t)) H k
 | .eq neg kk x y=>LS x y fun f g E t H k=>jm (Uq H neg kk (f E t) (g E t)) H k
 | .un op x=>Ih x fun f E t H k=>jm (Ur op (f E t)) H k
 | .kp x=>Ih x fun f E t H k=>jm (LJ (f E t)) H k
 | .N1 off n agg x=>Ih x fun f E t H k=>jm (H8 off n agg (f E t)) H k
 | .cJ off n x=>Ih x fun f E t H k=>jm (z_ off n (f E t)) H k
 | .a_ sz x i=>LS x i fun f g E t H k=>jm (Aa H sz (f E t) (g E t)) H k
 | .jh x i=>LS x i fun f g E t H k=>jm (E4 (f E t) (g E t)) H k
 | .ext x i=>Ih x fun f E t H k=>jm (H9 (f E t) i) H k
 | .call f args=>@Bx.rec (pc->T->List V) (fun _=>Bx OC) (fun a=>.mk fun E t H k=>Ps (o6 E.call f (a E t) H) k) (Bz args)
 |op=>.mk fun E t H k=>Pq own E.GL E.call dst op t H k
theorem LU(own:List Nat)(dst:Option Nat)(op:jG):∃f,DS own dst op=.mk f/\∀E t H k,f E t H k=Pq own E.GL E.call dst op t H k:=by
 cases op with
  |mv x=>obtain⟨f,h,hf⟩:=nT (x:=x) (F:=fun f E t H k=>k (f E t) H);exact⟨_,h,fun E t H k=>by simp only[hf];rfl⟩
  |load n agg a=>obtain⟨f,h,hf⟩:=nT (x:=a) (F:=fun f E t H k=>jm (Bo H n agg (f E t)) H k);exact⟨_,h,fun E t H k=>by simp only[hf];rfl⟩
  |store n a x=>obtain⟨f,g,h,hf,hg⟩:=sM (x:=a) (y:=x) (F:=fun f g E t H k=>jm (wv H n (f E t) (g E t)) H k);exact⟨_,h,fun E t H k=>by simp only[hf,hg];rfl⟩
  |bin op x y=>obtain⟨f,g,h,hf,hg⟩:=sM (x:=x) (y:=y) (F:=fun f g E t H k=>jm (xY op (f E t) (g E t)) H k);exact⟨_,h,fun E t H k=>by simp only[hf,hg];rfl⟩
  |eq neg kk x y=>obtain⟨f,g,h,hf,hg⟩:=sM (x:=x) (y:=y) (F:=fun f g E t H k=>jm (Uq H neg kk (f E t) (g E t)) H k);exact⟨_,h,fun E t H k=>by simp only[hf,hg];rfl⟩
  |un op x=>obtain⟨f,h,hf⟩:=nT (x:=x) (F:=fun f E t H k=>jm (Ur op (f E t)) H k);exact⟨_,h,fun E t H k=>by simp only[hf];rfl⟩
  |kp x=>obtain⟨f,h,hf⟩:=nT (x:=x) (F:=fun f E t H k=>jm (LJ (f E t)) H k);exact⟨_,h,fun E t H k=>by simp only[hf];rfl⟩
  |N1 off n agg x=>obtain⟨f,h,hf⟩:=nT (x:=x) (F:=fun f E t H k=>jm (H8 off n agg (f E t)) H k);exact⟨_,h,fun E t H k=>by simp only[hf];rfl⟩
  |cJ off n x=>obtain⟨f,h,hf⟩:=nT (x:=x) (F:=fun f E t H k=>jm (z_ off n (f E t)) H k);exact⟨_,h,fun E t H k=>by simp only[hf];rfl⟩
  |a_ sz x i=>obtain⟨f,g,h,hf,hg⟩:=sM (x:=x) (y:=i) (F:=fun f g E t H k=>jm (Aa H sz (f E t) (g E t)) H k);exact⟨_,h,fun E t H k=>by simp only[hf,hg];rfl⟩
  |jh x i=>obtain⟨f,g,h,hf,hg⟩:=sM (x:=x) (y:=i) (F:=fun f g E t H k=>jm (E4 (f E t) (g E t)) H k);exact⟨_,h,fun E t H k=>by simp only[hf,hg];rfl⟩
  |ext x i=>obtain⟨f,h,hf⟩:=nT (x:=x) (F:=fun f E t H k=>jm (H9 (f E t) i) H k);exact⟨_,h,fun E t H k=>by simp only[hf];rfl⟩
  |call f args=>
   obtain⟨a,ha,ha2⟩:=yh args;refine⟨fun E t H k=>Ps (o6 E.call f (a E t) H) k,?_,?_ ⟩
   ·simp_all[DS]
   ·intro E t H k;simp only[ha2];rfl
  |_=>exact⟨_,rfl,fun _ _ _ _=>rfl⟩
abbrev SC:=pc->T->ao->KN->Option XR
noncomputable def LV(n:Nat)(dst:Option Nat):Bx (V->T->ao->KN->Option XR):=match dst with
 |none=>.mk fun _ t H k=>k t H
 |some d=>@Bool.rec (fun _=>Bx (V->T->ao->KN->Option XR)) (.mk fun _ _ _ _=>none) (@Bx.rec (T->V->T) (fun _=>Bx (V->T->ao->KN->Option XR)) (fun s=>.mk fun v t H k=>k (s t v) H) (Ig 12 d)) (Nat.blt d n)
theorem Ii(n:Nat)(dst:Option Nat):∃f,LV n dst=.mk f/\∀v t H k,f v t H k=CQ n dst v t H k:=by
 cases dst with
  |none=>exact⟨_,rfl,fun _ _ _ _=>rfl⟩
  |some d=>
   simp only[LV,CQ];cases h:Nat.blt d n with
    |false=>grind
    |true=>obtain⟨s,hs,Bt⟩:=By 12 d;simp only[hs];exact⟨_,rfl,fun v t H k=>by simp only[Bt];rfl⟩
noncomputable def Ij(v:V)(Pt Pu:Option XR)(skip:Option XR):Option XR:=match v with
 | .d (.bool b)=>@Bool.rec (fun _=>Option XR) Pu Pt b
 | .tuple []=>skip
 |_=>none
noncomputable def BA(own:List Nat)(n:Nat)(o:ab):Bx SC:=match o with
 |⟨dst,op,gd,_⟩=>
  @Bx.rec OC (fun _=>Bx SC) (fun f=>
   @Bx.rec (V->T->ao->KN->Option XR) (fun _=>Bx SC) (fun p=>
    match gd with
     |none=>.mk fun E t H k=>f E t H (fun v H'=>p v t H' k)
     |some (d,nH)=>
      @Bx.rec (T->V) (fun _=>Bx SC) (fun g=>
       match nH with
        |true=>.mk fun E t H k=>Ij (g t) (f E t H (fun v H'=>p v t H' k)) (p (.tuple []) t H k) (p (.tuple []) t H k)
        |false=>.mk fun E t H k=>Ij (g t) (p (.tuple []) t H k) (f E t H (fun v H'=>p v t H' k)) (p (.tuple []) t H k)) (CT 12 d)) (LV n dst)) (DS own dst op)
theorem Fc(own:List Nat)(n:Nat)(o:ab):∃f,BA own n o=.mk f/\∀E t H k,f E t H k=o_ own E.GL E.call n o t H k:=by
 obtain⟨dst,op,gd,af⟩:=o;obtain⟨f,hf,tZ⟩:=LU own dst op;obtain⟨p,hp,HU⟩:=Ii n dst;simp only[BA,hf,hp];cases gd with
  |none=>simp_all[o_,ql]
  |some q=>
   obtain⟨d,nH⟩:=q;obtain⟨g,hg,yg⟩:=wB 12 d;simp only[hg];cases nH with
    |true=>
     refine⟨_,rfl,fun E t H k=>?_ ⟩;simp only[o_,ql,Ij,tZ,HU,yg];generalize eU t d=v;cases v with
      |d x=>
       cases x with
        |bool b=>cases b<;>rfl
        |_=>rfl
      |tuple vs=>grind
      |_=>rfl
    |false=>
     refine⟨_,rfl,fun E t H k=>?_ ⟩;simp only[o_,ql,Ij,tZ,HU,yg];generalize eU t d=v;cases v with
      |d x=>
       cases x with
        |bool b=>cases b<;>rfl
        |_=>rfl
      |tuple vs=>grind
      |_=>rfl
noncomputable def CU(own:List Nat)(n:Nat)(l:List ab):Bx SC:=@List.rec ab (fun _=>Bx SC) (.mk fun _ t H k=>k t H) (fun o _ ih=>@Bx.rec SC (fun _=>Bx SC) (fun f=>@Bx.rec SC (fun _=>Bx SC) (fun g=>.mk fun E t H k=>f E t H (fun t' H'=>g E t' H' k)) ih) (BA own n o)) l
theorem wD(own:List Nat)(n:Nat):∀(l:List ab),∃f,CU own n l=.mk f/\∀E t H k,f E t H k=pa own E.GL E.call n l t H k
 |[]=>⟨_,rfl,fun _ _ _ _=>rfl⟩
 |o::l=>by obtain⟨f,hf,tZ⟩:=Fc own n o;obtain⟨g,hg,yg⟩:=wD own n l;have h:CU own n (o::l)=@Bx.rec SC (fun _=>Bx SC) (fun f=>@Bx.rec SC (fun _=>Bx SC) (fun g=>.mk fun E t H k=>f E t H (fun t' H'=>g E t' H' k)) (CU own n l)) (BA own n o):=rfl;rw[h,hf,hg];exact⟨_,rfl,fun E t H k=>by simp only[tZ,yg];rfl⟩
abbrev CC:=pc->T->ao->KN->(Nat->KN)->KN->Option XR
noncomputable def CW(own:List Nat)(m n:Nat)(c:IR):Bx CC:=@IR.rec (fun _=>Bx CC) (.mk fun _ t H kn _ _=>kn t H) (fun l=>@Bx.rec SC (fun _=>Bx CC) (fun f=>.mk fun E t H kn _ _=>f E t H kn) (CU own n l)) (fun l=>.mk fun E t H kn _ _=>qo own E.GL E.call E.aO n l t H kn) (fun _ _ ia ib=>@Bx.rec CC (fun _=>Bx CC) (fun f=>@Bx.rec CC (fun _=>Bx CC) (fun g=>.mk fun E t H kn ke kr=>f E t H (fun t' H'=>g E t' H' kn ke kr) ke kr) ib) ia) (fun c _ _ ia ib=>@Bx.rec (pc->T->V) (fun _=>Bx CC) (fun x=>@Bx.rec CC (fun _=>Bx CC) (fun f=>@Bx.rec CC (fun _=>Bx CC) (fun g=>.mk fun E t H kn ke kr=>ar (x E t) (f E t H kn ke kr) (g E t H kn ke kr)) ib) ia) (wC c)) (fun id _ ib=>@Bx.rec CC (fun _=>Bx CC) (fun f=>.mk fun E t H kn ke kr=>f E t H kn (fun i t' H'=>bif Nat.beq i id then kn t' H' else ke i t' H') kr) ib) (fun _ ib=>@Bx.rec CC (fun _=>Bx CC) (fun f=>.mk fun E t H _ ke kr=>qU (f E) m t H ke kr) ib) (fun id=>.mk fun _ t H _ ke _=>ke id t H) (.mk fun _ t H _ _ kr=>kr t H) (fun f ps ca cb=>.mk fun E t H kn ke kr=>nQ E.GL E.call n f ps ca cb t H kn ke kr) c
theorem nU(own:List Nat)(m n:Nat):∀(c:IR),∃f,CW own m n c=.mk f/\∀E t H kn ke kr,f E t H kn ke kr=eM own E.GL E.call E.aO m n c t H kn ke kr
 | .skip=>⟨_,rfl,fun _ _ _ _ _ _=>rfl⟩
 | .region l=>by obtain⟨f,hf,tZ⟩:=wD own n l;have h:CW own m n (.region l)=@Bx.rec SC (fun _=>Bx CC) (fun f=>.mk fun E t H kn _ _=>f E t H kn) (CU own n l):=rfl;rw[h,hf];exact⟨_,rfl,fun E t H kn ke kr=>by simp only[tZ];rfl⟩
 | .draw l=>⟨_,rfl,fun _ _ _ _ _ _=>rfl⟩
 | .seq a b=>by obtain⟨f,hf,tZ⟩:=nU own m n a;obtain⟨g,hg,yg⟩:=nU own m n b;have h:CW own m n (.seq a b)=@Bx.rec CC (fun _=>Bx CC) (fun f=>@Bx.rec CC (fun _=>Bx CC) (fun g=>.mk fun E t H kn ke kr=>f E t H (fun t' H'=>g E t' H' kn ke kr) ke kr) (CW own m n b)) (CW own m n a):=rfl;rw[h,hf,hg];exact⟨_,rfl,fun E t H kn ke kr=>by simp only[tZ,yg];rfl⟩
 | .cond c a b=>by obtain⟨x,hx,ly⟩:=pd c;obtain⟨f,hf,tZ⟩:=nU own m n a;obtain⟨g,hg,yg⟩:=nU own m n b;have h:CW own m n (.cond c a b)=@Bx.rec (pc->T->V) (fun _=>Bx CC) (fun x=>@Bx.rec CC (fun _=>Bx CC) (fun f=>@Bx.rec CC (fun _=>Bx CC) (fun g=>.mk fun E t H kn ke kr=>ar (x E t) (f E t H kn ke kr) (g E t H kn ke kr)) (CW own m n b)) (CW own m n a)) (wC c):=rfl;rw[h,hx,hf,hg];exact⟨_,rfl,fun E t H kn ke kr=>by simp only[ly,tZ,yg];rfl⟩
 | .block id b=>by obtain⟨f,hf,tZ⟩:=nU own m n b;have h:CW own m n (.block id b)=@Bx.rec CC (fun _=>Bx CC) (fun f=>.mk fun E t H kn ke kr=>f E t H kn (fun i t' H'=>bif Nat.beq i id then kn t' H' else ke i t' H') kr) (CW own m n b):=rfl;rw[h,hf];exact⟨_,rfl,fun E t H kn ke kr=>by simp only[tZ];rfl⟩
 | .loop b=>by
  obtain⟨f,hf,tZ⟩:=nU own m n b;have h:CW own m n (.loop b)=@Bx.rec CC (fun _=>Bx CC) (fun f=>.mk fun E t H _ ke kr=>qU (f E) m t H ke kr) (CW own m n b):=rfl;rw[h,hf];refine⟨_,rfl,fun E t H kn ke kr=>?_ ⟩;have e:f E=eM own E.GL E.call E.aO m n b:=funext fun t=>funext fun H=>funext fun kn=>funext fun ke=>funext fun kr=>tZ E t H kn ke kr
  show qU (f E) m t H ke kr=qU (eM own E.GL E.call E.aO m n b) m t H ke kr;rw[e]
 | .exit id=>⟨_,rfl,fun _ _ _ _ _ _=>rfl⟩
 | .ret=>⟨_,rfl,fun _ _ _ _ _ _=>rfl⟩
 | .dC f ps ca cb=>⟨_,rfl,fun _ _ _ _ _ _=>rfl⟩
noncomputable def uU(own:List Nat)(GL:bR)(call:a7)(aO:br)(m n:Nat)(c:IR)(t:T)(H:ao)(kn:KN)(ke:Nat->KN)(kr:KN):Option XR:=@Bx.rec CC (fun _=>Option XR) (fun f=>f ⟨GL,call,aO⟩ t H kn ke kr) (CW own m n c)
theorem yi(own:List Nat)(GL:bR)(call:a7)(aO:br)(m n:Nat)(c:IR):uU own GL call aO m n c=eM own GL call aO m n c:=by obtain⟨f,hf,tZ⟩:=nU own m n c;funext t H kn ke kr;unfold uU;simp_all
noncomputable def wE(cc:Code->Option IR)(GL:bR)(call:a7)(aO:br)(m:Nat)(args:List V)(H:ao):Option XR:=match args with
 | .gJ b::as=>
  match aA H b with
   |some (.loop n tm ps ca cb .ready)=>
    match cc ca,cc cb with
     |some ia,some ib=>
      bif Nat.beq as.length ps.length&&ps.all (fun p=>Nat.blt p n)&&Nat.ble n gz&&dW ia&&dW ib&&lY (iq tm ps as)then
       uU [] GL call aO m n ia (uT (iq tm ps as)) H (fun t H1=>
        match aA H1 b with
         |some (.loop n1 kI mz mA mB .ready)=>uU [] GL call aO m n ib t (aR H1 b (.loop n1 kI mz mA mB .busy)) (fun _ H2=>ye b .normal H2) (fun i _ H2=>ye b (.exit i) H2) (fun _ H2=>ye b .ret H2)
         |_=>none) (fun _ _ _=>none) (fun _ _=>none)
      else none
     |_,_=>none
   |_=>none
 |_=>none
theorem CX(cc:Code->Option IR)(GL:bR)(call:a7)(aO:br)(m:Nat):wE cc GL call aO m=nR cc GL call aO m:=by funext args H;unfold wE nR;simp only[yi]<;>rfl
noncomputable def Ac(cc:Code->Option IR)(ew:FuncId->List Nat)(GL:bR)(qV:FT bL)(mk:a7->a7)(nS:a7->br)(m:Nat)(d:Nat):a7:=@Nat.rec (fun _=>a7) (fun _ _ _=>none) (fun _ ih f args H=>
 bif Nat.beq f jW then wE cc GL (mk ih) (nS ih) m args H else
  match lX qV f with
   |none=>none
   |some fn=>bif Nat.ble args.length fn.ntmps&&Nat.ble fn.ntmps gz then uU (ew f) GL (mk ih) (nS ih) m fn.ntmps fn.body (nl 0 args .e) H (fun t H=>pb fn.res t H) (fun _ _ _=>none) (fun t H=>pb fn.res t H)else none) d
theorem wF(cc:Code->Option IR)(ew:FuncId->List Nat)(GL:bR)(qV:FT bL)(mk:a7->a7)(nS:a7->br)(m:Nat):∀d,Ac cc ew GL qV mk nS m d=sI cc ew GL qV mk nS m d
 |0=>rfl
 |d+1=>by
  have ih:=wF cc ew GL qV mk nS m d;funext f args H;show(bif Nat.beq f jW then wE cc GL (mk (Ac cc ew GL qV mk nS m d)) (nS (Ac cc ew GL qV mk nS m d)) m args H else
   match lX qV f with
    |none=>none
    |some fn=>bif Nat.ble args.length fn.ntmps&&Nat.ble fn.ntmps gz then uU (ew f) GL (mk (Ac cc ew GL qV mk nS m d)) (nS (Ac cc ew GL qV mk nS m d)) m fn.ntmps fn.body (nl 0 args .e) H (fun t H=>pb fn.res t H) (fun _ _ _=>none) (fun t H=>pb fn.res t H)else none)=(bif Nat.beq f jW then nR cc GL (mk (sI cc ew GL qV mk nS m d)) (nS (sI cc ew GL qV mk nS m d)) m args H else
   match lX qV f with
    |none=>none
    |some fn=>bif Nat.ble args.length fn.ntmps&&Nat.ble fn.ntmps gz then eM (ew f) GL (mk (sI cc ew GL qV mk nS m d)) (nS (sI cc ew GL qV mk nS m d)) m fn.ntmps fn.body (nl 0 args .e) H (fun t H=>pb fn.res t H) (fun _ _ _=>none) (fun t H=>pb fn.res t H)else none)
  rw[ih,CX];simp only[yi]
end Fw
/-
  Operations by the quicker run, and the code behind them.
-/
namespace Fw
open Go
section
variable {P:Program}{GL:bR}
theorem WO.eH{l:List ab}{n:Nat}{tm eT:List (Nat×V)}{H:ao}{Q:St->Prop}(hw:∀s,get eT s=get tm s\/get eT s=.any)(h:WO P GL l ⟨n,eT,H⟩ Q):WO P GL l ⟨n,tm,H⟩ Q:=fun ro ops k h1 g w a hr=>h ro ops k h1 g w a (hr.eH hw)
noncomputable def uV(own:List Nat)(GL:bR)(call:a7)(aO:br)(n:Nat)(l:List ab)(t:T)(H:ao)(k:KN):Option XR:=@Bx.rec SC (fun _=>Option XR) (fun f=>f ⟨GL,call,aO⟩ t H k) (CU own n l)
theorem sO(own:List Nat)(GL:bR)(call:a7)(aO:br)(n:Nat)(l:List ab):uV own GL call aO n l=pa own GL call n l:=by obtain⟨f,hf,tZ⟩:=wD own n l;funext t H k;unfold uV;simp_all
end
end Fw
/-
  Walks with symbolic values: branches at a truth value, runs of pieces told by a few slots, results.
-/
namespace Fw
open Go
def nn(k:Nat)(H:ao):ao:=List.replicate k none++H
section
variable {P:Program}{GL:bR}
variable {Q:Ex->St->Prop}{σ:St}{id:Nat}{b:IR}
theorem WC.az{c:aX}{a d:IR}{b:Bool}(h:b=true)(ht:aW GL σ.tm c=.d (.bool b))(h1:WC P GL a σ Q):WC P GL (.cond c a d) σ Q:=by subst h;exact WC.cond ht h1
theorem WC.ar{c:aX}{a d:IR}{b:Bool}(h:b=false)(ht:aW GL σ.tm c=.d (.bool b))(h1:WC P GL d σ Q):WC P GL (.cond c a d) σ Q:=by subst h;exact WC.cond ht h1
def ez(id:Nat)(Q:Ex->St->Prop):Ex->St->Prop| .exit i,s=>if i=id then Q .normal s else Q (.exit i) s| .normal,s=>Q .normal s| .ret,s=>Q .ret s
theorem ez.exit{s:St}(h:Q .normal s):ez id Q (.exit id) s:=by grind[ez]
theorem ez.other{i:Nat}{s:St}(hn:i≠id)(h:Q (.exit i) s):ez id Q (.exit i) s:=by grind[ez]
theorem ez.normal{s:St}(h:Q .normal s):ez id Q .normal s:=h
theorem ez.ret{s:St}(h:Q .ret s):ez id Q .ret s:=h
theorem WC.LW(h:WC P GL b σ (ez id Q)):WC P GL (.block id b) σ Q:=WC.block (WC.mono h fun e s hq=>by cases e<;>exact hq)
def lj(P:Program)(GL:bR)(b:IR)(Q:Ex->St->Prop):Nat->St->Prop|0,_=>False|n+1,s=>WC P GL b s (fun e s'=>match e with| .normal=>lj P GL b Q n s'|e=>Q e s')
theorem lj.step{n:Nat}{s:St}(h:WC P GL b s (fun e s'=>match e with| .normal=>lj P GL b Q n s'|e=>Q e s')):lj P GL b Q (n+1) s:=h
theorem lj.wc{n:Nat}{s:St}(h:lj P GL b Q n s):WC P GL (.loop b) s Q:=WC.loop (fun m s=>lj P GL b Q m s) (fun m s hm=>by
 cases m with
  |zero=>grind[lj]
  |succ m=>
   refine WC.mono hm fun e s' hq=>?_
   grind) h
def pf(rs:List jH)(v:V):Ex->St->Prop| .exit _,_=>False|_,σ=>(ij rs σ).bind (gR σ.hp)=some v
theorem pf.ret{rs:List jH}{v v':V}(h:(ij rs σ).bind (gR σ.hp)=some v')(e:v'=v):pf rs v .ret σ:=by subst e;exact h
theorem PC.Pv{f:FuncId}{fn:bL}{args:List V}{v:V}(hf:au P f=some fn)(uE:an P f=true)(hc:(Nat.ble args.length fn.ntmps&&aE 0 args)=true)(h:WC P GL fn.body ⟨fn.ntmps,pZ 0 args,[]⟩ (pf fn.res v)):PC P GL f args v:=by
 rw[aas]at hc;refine PC.body hf uE (aax hc.1) hc.2 (WC.mono h fun e s hq=>?_ );cases e with
  |normal=>exact hq
  |exit i=>exact hq
  |ret=>exact hq
theorem ph:∀(tm:List (Nat×V)),wA (tm.map Prod.fst) (tm.map Prod.snd)=tm|[]=>rfl|(k,v)::l=>by simp[wA,ph l]
theorem qp{own:List Nat}{call:a7}(hc:cy P GL call){n:Nat}(hn:n<=gz){l2:List ab}{Q:St->Prop}:∀{l:List ab}{t:T}{H:ao}{k:KN}{x:XR}{tm:List (Nat×V)},jY tm t->pa own GL call n l t H k=some x->(∀aZ t' H',jY aZ t'->k t' H'=some x->WO P GL l2 ⟨n,aZ,H'⟩ Q)->WO P GL (l++l2) ⟨n,tm,H⟩ Q
 |[],t,H,k,x,tm,hs,h,hq=>hq tm t H hs h
 |o::l,t,H,k,x,tm,hs,h,hq=>by
  have h:o_ own GL call n o t H (fun t' H'=>pa own GL call n l t' H' k)=some x:=h;obtain⟨dst,op,gd,af⟩:=o;simp only[o_]at h;rcases uR hs h with⟨hg,h⟩|⟨hg,h⟩
  ·obtain⟨v,H',h1,h2⟩:=E7 (n:=n) (af:=af) hc hs hg h;obtain⟨aZ,t',jg,h3,h4⟩:=rH hn hs h1;exact h2 _ _ _ (h4 H) (qp hc hn jg h3 hq)
  ·obtain⟨aZ,t',jg,h3,h4⟩:=rH hn hs h;exact WO.skip hg (h4 H) (qp hc hn jg h3 hq)
theorem WO.head{o:ab}{l:List ab}{Q:St->Prop}(ho:l.head?=some o)(h:WO P GL (o::l.drop 1) σ Q):WO P GL l σ Q:=by cases l<;>grind
end
end Fw
/-
  Drawn regions whose calls may look into own rows of data.
-/
/-
  Drawn regions with values that hypotheses settle, and calls that summaries answer.
-/
namespace Fw
open Go
section
variable {P:Program}{GL:bR}
def yj(own:List Nat)(GL:bR)(dc:gA)(ov:List (Nat×Bool))(sp:List (Nat×V))(n:Nat)(l:List ab)(ks:List Nat)(tm:List (Nat×V))(H:ao):Option (List V×ao×List (Bool×Bool)×lg):=match nq own GL dc ov sp H.length 0 l ⟨n,tm,H++List.replicate l.length none⟩with
 |none=>none
 |some (qs,cs,calls)=>bif fH l (qs.map (·.1))&&jy n l&&iu (H.length+l.length) (qs.map (·.1))then(match aP (fun _=>true) 0 l (qs.map (·.1)) ⟨n,tm,H++List.replicate l.length none⟩with|⟨_,eT,H2⟩=>some (ks.map (get eT),H2,cs,calls))else none
theorem uW{tm:List (Nat×V)}(s:Nat):∀(ks:List Nat),get (wA ks (ks.map (get tm))) s=get tm s\/get (wA ks (ks.map (get tm))) s=.any
 |[]=>.inr rfl
 |k::ks=>by
  simp only[aaG,wA,bB];by_cases e:k=s
  ·grind
  ·rw[aaH e];exact uW s ks
theorem WC.Ff{own:List Nat}{dc:gA}(hm:P.follows .mixedOrders=true)(hp:mK P GL dc)(ov:List (Nat×Bool))(sp:List (Nat×V)){n:Nat}{l:List ab}{tm aZ:List (Nat×V)}{H H':ao}{cs:List (Bool×Bool)}{calls:lg}{Q:Ex->St->Prop}(h:yj own GL dc ov sp n l (aZ.map Prod.fst) tm H=some (aZ.map Prod.snd,H',cs,calls))(nI:lh cs)(tM:nr P GL calls)(hq:Q .normal ⟨n,aZ,H'⟩):WC P GL (.draw l) ⟨n,tm,H⟩ Q:=by
 unfold yj at h;split at h
 ·cases h
 ·rename_i qs rU LM OA;cases hb:(fH l (qs.map (·.1))&&jy n l&&iu (H.length+l.length) (qs.map (·.1)))with
   |false=>grind
   |true=>rw[hb,aaw]at h;simp only[aat,aay]at h;obtain⟨h1,rfl,rfl,rfl⟩:=h;have hw:WC P GL (.draw l) ⟨n,tm,H⟩ (fun e s=>e=.normal/\s=aP (fun _=>true) 0 l (qs.map (·.1)) ⟨n,tm,H++List.replicate l.length none⟩):=WC.E8 hm hp OA hb nI tM ⟨rfl,rfl⟩;have HS:(aP (fun _=>true) 0 l (qs.map (·.1)) ⟨n,tm,H++List.replicate l.length none⟩).n=n:=oW;generalize aP (fun _=>true) 0 l (qs.map (·.1)) ⟨n,tm,H++List.replicate l.length none⟩=σF at hw HS h1 hq;obtain⟨n2,eT,H2⟩:=σF;simp only at HS h1 hq;subst HS;refine WC.post (hw.mono ?_ );rintro e s ⟨rfl,rfl⟩;refine⟨_,ay.eH (eT:=aZ) (fun s=>?_ ),hq⟩;rw[←ph aZ,←h1];exact uW s _
end
end Fw
/-
  Runs step by step over code and what waits behind it: from one point of a function to another.
-/
namespace Fw
open Go
inductive Fr where
 |seq (b:IR)
 |block (id:Nat)
 |loop (n:Nat) (b:IR)
inductive lA where
 |code (c:IR)
 |ops (l:List ab)
 |out (e:Ex)
section
variable {P:Program}{GL:bR}
variable {K:List Fr}{n:Nat}{tm:List (Nat×V)}{H:ao}{Q:Ex->St->Prop}{v:V}
def KQ(P:Program)(GL:bR):List Fr->(Ex->St->Prop)->Ex->St->Prop
 |[],Q=>Q
 | .seq b::K,Q=>
  fun e s=>
   match e with
    | .normal=>WC P GL b s (KQ P GL K Q)
    |e=>KQ P GL K Q e s
 | .block id::K,Q=>ez id (KQ P GL K Q)
 | .loop n b::K,Q=>
  fun e s=>
   match e with
    | .normal=>lj P GL b (KQ P GL K Q) n s
    |e=>KQ P GL K Q e s
def CG(P:Program)(GL:bR)(cur:lA)(K:List Fr)(n:Nat)(tm:List (Nat×V))(H:ao)(Q:Ex->St->Prop):Prop:=match cur with
 | .code c=>WC P GL c ⟨n,tm,H⟩ (KQ P GL K Q)
 | .ops l=>WO P GL l ⟨n,tm,H⟩ (fun σ=>KQ P GL K Q .normal σ)
 | .out e=>KQ P GL K Q e ⟨n,tm,H⟩
def Pw(go:lA->List Fr->Option (lA×List Fr))(e:Ex)(K:List Fr):Option (lA×List Fr):=match K with
 |[]=>none
 | .seq b::K=>
  (match e with
   | .normal=>go (.code b) K
   |e=>go (.out e) K)
 | .block id::K=>
  (match e with
   | .exit i=>bif Nat.beq i id then go (.out .normal) K else go (.out (.exit i)) K
   |e=>go (.out e) K)
 | .loop j b::K=>
  (match e with
   | .normal=>
    (match j with
     |0=>none
     |j+1=>go (.code b) (.loop j b::K))
   |e=>go (.out e) K)
def iZ:Nat->List Bool->lA->List Fr->Option (lA×List Fr)
 |0,_,cur,K=>some (cur,K)
 |N+1,bs,cur,K=>
  match cur with
   | .code .skip=>iZ N bs (.out .normal) K
   | .code (.seq a b)=>iZ N bs (.code a) (.seq b::K)
   | .code (.region _)=>iZ N bs (.out .normal) K
   | .code (.draw _)=>iZ N bs (.out .normal) K
   | .code (.cond _ a b)=>
    (match bs with
     |true::bs=>iZ N bs (.code a) K
     |false::bs=>iZ N bs (.code b) K
     |[]=>none)
   | .code (.block id b)=>iZ N bs (.code b) (.block id::K)
   | .code (.loop b)=>iZ N bs (.code b) (.loop 40 b::K)
   | .code (.exit i)=>iZ N bs (.out (.exit i)) K
   | .code .ret=>none
   | .code (.dC _ _ _ _)=>none
   | .ops _=>iZ N bs (.out .normal) K
   | .out e=>Pw (iZ N bs) e K
noncomputable def JR(v:V)(bs:List Bool)(a b:List Bool->Option XR):Option XR:=match v with
 | .d (.bool t)=>
  (match bs with
   |true::bs=>bif t then a bs else none
   |false::bs=>bif t then none else b bs
   |[]=>none)
 |_=>none
noncomputable def Py(go:lA->List Fr->Option XR)(e:Ex)(K:List Fr):Option XR:=match K with
 |[]=>none
 | .seq b::K=>
  (match e with
   | .normal=>go (.code b) K
   |e=>go (.out e) K)
 | .block id::K=>
  (match e with
   | .exit i=>bif Nat.beq i id then go (.out .normal) K else go (.out (.exit i)) K
   |e=>go (.out e) K)
 | .loop j b::K=>
  (match e with
   | .normal=>
    (match j with
     |0=>none
     |j+1=>go (.code b) (.loop j b::K))
   |e=>go (.out e) K)
noncomputable def xg(own:List Nat)(GL:bR)(call:a7)(aO:br)(n:Nat)(k:lA->KN):Nat->List Bool->lA->List Fr->T->ao->Option XR
 |0,_,cur,_,t,H=>k cur t H
 |N+1,bs,cur,K,t,H=>
  match cur with
   | .code .skip=>xg own GL call aO n k N bs (.out .normal) K t H
   | .code (.seq a b)=>xg own GL call aO n k N bs (.code a) (.seq b::K) t H
   | .code (.region l)=>uV own GL call aO n l t H (fun t' H'=>xg own GL call aO n k N bs (.out .normal) K t' H')
   | .code (.draw l)=>qo own GL call aO n l t H (fun t' H'=>xg own GL call aO n k N bs (.out .normal) K t' H')
   | .code (.cond x a b)=>JR (gB GL t x) bs (fun bs=>xg own GL call aO n k N bs (.code a) K t H) (fun bs=>xg own GL call aO n k N bs (.code b) K t H)
   | .code (.block id b)=>xg own GL call aO n k N bs (.code b) (.block id::K) t H
   | .code (.loop b)=>xg own GL call aO n k N bs (.code b) (.loop 40 b::K) t H
   | .code (.exit i)=>xg own GL call aO n k N bs (.out (.exit i)) K t H
   | .code .ret=>none
   | .code (.dC _ _ _ _)=>none
   | .ops l=>uV own GL call aO n l t H (fun t' H'=>xg own GL call aO n k N bs (.out .normal) K t' H')
   | .out e=>Py (fun cur K=>xg own GL call aO n k N bs cur K t H) e K
theorem Fh{own:List Nat}{call:a7}{aO:br}(hm:P.follows .mixedOrders=true)(hc:cy P GL call)(hp:cd P GL aO){n:Nat}(hn:n<=gz){k:lA->KN}{x:XR}{zH:lA}{K':List Fr}{Q:Ex->St->Prop}(hk:∀aZ t' H',jY aZ t'->k zH t' H'=some x->CG P GL zH K' n aZ H' Q):∀{N:Nat}{bs:List Bool}{cur:lA}{K:List Fr}{t:T}{H:ao}{tm:List (Nat×V)},jY tm t->iZ N bs cur K=some (zH,K')->xg own GL call aO n k N bs cur K t H=some x->CG P GL cur K n tm H Q
 |0,bs,cur,K,t,H,tm,hs,h1,h2=>by simp only[iZ,aat,aay]at h1;obtain⟨rfl,rfl⟩:=h1;exact hk tm t H hs h2
 |N+1,bs,cur,K,t,H,tm,hs,h1,h2=>by
  have ih:=fun{bs cur K t H tm}=>@Fh own call aO hm hc hp n hn k x zH K' Q hk N bs cur K t H tm
  cases cur with
   |code c=>
    cases c with
     |skip=>exact WC.skip (ih hs h1 h2)
     |seq a b=>have:=ih hs (show iZ N bs (.code a) (.seq b::K)=_ from h1) h2;exact WC.seq (WC.mono this fun e s hq=>by cases e<;>exact hq)
     |region l=>simp only[xg]at h2;rw[sO]at h2;obtain⟨aZ,t',H',jg,hw,kg⟩:=jZ hc hn hs h2;refine WC.region (hw.mono ?_ );rintro s rfl;exact ih jg (show iZ N bs (.out .normal) K=_ from h1) kg
     |draw l=>simp only[xg]at h2;obtain⟨aZ,t',H',jg,hw,kg⟩:=uS hm hc hp hn hs h2;refine WC.mono hw ?_;rintro e s ⟨rfl,rfl⟩;exact ih jg (show iZ N bs (.out .normal) K=_ from h1) kg
     |cond c a b=>
      simp only[xg]at h2;simp only[iZ]at h1;rw[mM hs]at h2;unfold JR at h2;split at h2
      ·rename_i tb htb;cases bs with
        |nil=>cases h2
        |cons b0 bs=>
         cases b0 with
          |true=>
           cases tb with
            |true=>exact WC.cond (t:=true) htb (ih hs h1 h2)
            |false=>cases h2
          |false=>
           cases tb with
            |true=>cases h2
            |false=>exact WC.cond (t:=false) htb (ih hs h1 h2)
      ·cases h2
     |block id b=>exact WC.LW (ih hs (show iZ N bs (.code b) (.block id::K)=_ from h1) h2)
     |loop b=>have:=ih hs (show iZ N bs (.code b) (.loop 40 b::K)=_ from h1) h2;exact lj.wc (n:=41) (lj.step (WC.mono this fun e s hq=>by cases e<;>exact hq))
     |exit i=>exact WC.exit (ih hs (show iZ N bs (.out (.exit i)) K=_ from h1) h2)
     |ret=>cases h1
     |dC f ps ca cb=>cases h1
   |ops l=>simp only[xg]at h2;rw[sO]at h2;obtain⟨aZ,t',H',jg,hw,kg⟩:=jZ hc hn hs h2;refine hw.mono ?_;rintro s rfl;exact ih jg (show iZ N bs (.out .normal) K=_ from h1) kg
   |out e=>
    simp only[iZ]at h1;simp only[xg]at h2;unfold Pw at h1;unfold Py at h2;cases K with
     |nil=>cases h1
     |cons f K=>
      cases f with
       |seq b=>
        cases e with
         |normal=>exact ih (cur:=.code b) (K:=K) hs h1 h2
         |exit i=>exact ih (cur:=.out (.exit i)) (K:=K) hs h1 h2
         |ret=>exact ih (cur:=.out .ret) (K:=K) hs h1 h2
       |block id=>
        cases e with
         |normal=>exact ih (cur:=.out .normal) (K:=K) hs h1 h2
         |ret=>exact ih (cur:=.out .ret) (K:=K) hs h1 h2
         |exit i=>
          simp only at h1 h2;show ez id (KQ P GL K Q) (.exit i) _;cases hb:Nat.beq i id with
           |true=>rw[hb]at h1 h2;have:i=id:=aav hb;subst this;exact ez.exit (ih (cur:=.out .normal) (K:=K) hs h1 h2)
           |false=>
            rw[hb]at h1 h2;have fp:i≠id:=fun e=>by simp_all
            exact ez.other fp (ih (cur:=.out (.exit i)) (K:=K) hs h1 h2)
       |loop j b=>
        cases e with
         |normal=>
          cases j with
           |zero=>cases h1
           |succ j=>have:=ih (cur:=.code b) (K:=.loop j b::K) hs h1 h2;exact lj.step (WC.mono this fun e s hq=>by cases e<;>exact hq)
         |ret=>exact ih (cur:=.out .ret) (K:=K) hs h1 h2
         |exit i=>exact ih (cur:=.out (.exit i)) (K:=K) hs h1 h2
def uX:lA->List ab| .code (.region l)=>l| .ops l=>l|_=>[]
def Pz(j:Nat)(c:lA):lA:=match j with
 |0=>c
 |_=>.ops ((uX c).drop j)
def Fi:lA->Bool| .code (.region _)=>true| .ops _=>true|_=>false
def yk:lA->Bool| .out _=>true|_=>false
def eg(N j:Nat)(bs:List Bool)(cur:lA)(K:List Fr):Option (lA×List Fr):=match iZ N bs cur K with
 |some (c,K')=>bif (Nat.beq j 0&& !yk c)||(!Nat.beq j 0&&Fi c)then some (Pz j c,K')else none
 |none=>none
noncomputable def ym(own:List Nat)(GL:bR)(call:a7)(aO:br)(n:Nat)(N j:Nat)(bs:List Bool)(cur:lA)(K:List Fr)(ks:List Nat)(tm:List (Nat×V))(H:ao):Option XR:=bif Nat.ble n gz&&lY tm then
 xg own GL call aO n (fun c t H=>
  match j with
   |0=>some (.tuple (ks.map (eU t)),H)
   |j+1=>uV own GL call aO n ((uX c).take (j+1)) t H (fun t H=>some (.tuple (ks.map (eU t)),H))) N bs cur K (uT tm) H else none
theorem CG.eH{cur:lA}(hc:yk cur=false){eT:List (Nat×V)}(hw:∀s,get eT s=get tm s\/get eT s=.any)(h:CG P GL cur K n eT H Q):CG P GL cur K n tm H Q:=by
 cases cur with
  |code c=>exact WC.eH hw h
  |ops l=>exact WO.eH hw h
  |out e=>cases hc
theorem CG.st{own:List Nat}{call:a7}{aO:br}(hm:P.follows .mixedOrders=true)(hc:cy P GL call)(hp:cd P GL aO)(N j:Nat)(bs:List Bool){cur c':lA}{K':List Fr}{aZ:List (Nat×V)}{H':ao}(h1:eg N j bs cur K=some (c',K'))(h2:ym own GL call aO n N j bs cur K (aZ.map Prod.fst) tm H=some (.tuple (aZ.map Prod.snd),H'))(hq:CG P GL c' K' n aZ H' Q):CG P GL cur K n tm H Q:=by
 unfold eg at h1;split at h1
 ·rename_i c K2 VT;cases hb:(Nat.beq j 0&& !yk c)||(!Nat.beq j 0&&Fi c)with
   |false=>grind
   |true=>
    rw[hb]at h1;simp at h1;obtain⟨rfl,rfl⟩:=h1;unfold ym at h2;cases hk:(Nat.ble n gz&&lY tm)with
     |false=>grind
     |true=>
      rw[hk,aaw]at h2;rw[aas]at hk;have hn:=aax hk.1;refine Fh hm hc hp hn (zH:=c) (K':=K2) (fun eT t2 H2 hs pX=>?_ ) (jY.tree hk.2) VT h2;cases j with
       |zero=>simp only[aat,aay,V.tuple.injEq]at pX;obtain⟨e1,rfl⟩:=pX;simp at hb;refine CG.eH hb (fun s=>?_ ) hq;rw[hs s,←ph aZ,←e1];exact sL s _
       |succ j=>
        have hj:Nat.beq (j+1) 0=false:=rfl;rw[hj]at hb;simp at hb;have pX:uV own GL call aO n ((uX c).take (j+1)) t2 H2 (fun t H=>some (.tuple ((aZ.map Prod.fst).map (eU t)),H))=_:=pX;rw[sO]at pX;have hq:CG P GL (.ops ((uX c).drop (j+1))) K2 n aZ H' Q:=hq;have PA:WO P GL (uX c) ⟨n,eT,H2⟩ (fun σ=>KQ P GL K2 Q .normal σ):=by rw[←ach (j+1) (uX c)];refine qp hc hn hs pX (fun tm3 t3 H3 hs3 hk3=>?_ );simp only[aat,aay,V.tuple.injEq]at hk3;obtain⟨e1,rfl⟩:=hk3;refine WO.eH (eT:=aZ) (fun s=>?_ ) hq;rw[hs3 s,←ph aZ,←e1];exact sL s _
        cases c with
         |code c=>
          cases c with
           |region l=>exact WC.region PA
           |_=>grind[Fi]
         |ops l=>exact PA
         |out e=>cases hb
 ·cases h1
theorem CG.start{f:FuncId}{fn:bL}{args:List V}(hf:au P f=some fn)(uE:an P f=true)(hc:(Nat.ble args.length fn.ntmps&&aE 0 args)=true)(h:CG P GL (.code fn.body) [] fn.ntmps (pZ 0 args) [] (pf fn.res v)):PC P GL f args v:=PC.Pv hf uE hc h
theorem KQ.ret:∀{K:List Fr}{Q:Ex->St->Prop}{σ:St},Q .ret σ->KQ P GL K Q .ret σ|[],_,_,h=>h| .seq _::K,_,_,h=>KQ.ret (K:=K) h| .block _::K,_,_,h=>KQ.ret (K:=K) h| .loop _ _::K,_,_,h=>KQ.ret (K:=K) h
theorem CG.ret{rs:List jH}{v':V}(h:(ij rs ⟨n,tm,H⟩).bind (gR H)=some v')(e:v'=v):CG P GL (.code .ret) K n tm H (pf rs v):=WC.ret (KQ.ret (pf.ret h e))
theorem CG.rt{rs:List jH}(v':V)(e:v'=v)(h:(ij rs ⟨n,tm,H⟩).bind (gR H)=some v':=by kernel_rfl):CG P GL (.code .ret) K n tm H (pf rs v):=CG.ret h e
theorem CG.az{c:aX}{a d:IR}{b:Bool}(h:b=true)(ht:aW GL tm c=.d (.bool b))(h1:CG P GL (.code a) K n tm H Q):CG P GL (.code (.cond c a d)) K n tm H Q:=WC.az h ht h1
theorem CG.ar{c:aX}{a d:IR}{b:Bool}(h:b=false)(ht:aW GL tm c=.d (.bool b))(h1:CG P GL (.code d) K n tm H Q):CG P GL (.code (.cond c a d)) K n tm H Q:=WC.ar h ht h1
theorem CG.dA{l:List ab}(h:CG P GL (.ops l) K n tm H Q):CG P GL (.code (.region l)) K n tm H Q:=WC.region h
theorem CG.Ff{own:List Nat}{dc:gA}(hm:P.follows .mixedOrders=true)(hp:mK P GL dc)(ov:List (Nat×Bool))(sp:List (Nat×V)){l:List ab}{aZ:List (Nat×V)}{H':ao}{cs:List (Bool×Bool)}{calls:lg}(h:yj own GL dc ov sp n l (aZ.map Prod.fst) tm H=some (aZ.map Prod.snd,H',cs,calls))(nI:lh cs)(tM:nr P GL calls)(hq:CG P GL (.out .normal) K n aZ H' Q):CG P GL (.code (.draw l)) K n tm H Q:=WC.Ff hm hp ov sp h nI tM hq
end
end Fw
