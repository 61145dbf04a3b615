/-
  (nothing is left here: see Fw17)
-/
import Derived.Test.YtgfgckimecpmlaaGreatDoorFe
set_option linter.unusedSimpArgs false
set_option linter.unusedVariables false
/-
  A quicker run for what is known whole: slots in a tree, operations told apart in small steps, what comes next handed on.
-/
namespace Fw
open Go
inductive T where
 |e
 |n (l:T) (v:V) (r:T)
 deriving Inhabited
noncomputable def fE(t:T):Nat->V:=@T.rec (fun _=>Nat->V) (fun _=>V.any) (fun _ v _ gl gr i=>@Nat.rec (fun _=>V) v (fun j _=>@Nat.rec (fun _=>V) (gl (Nat.shiftRight j 1)) (fun _ _=>gr (Nat.shiftRight j 1)) (Nat.land j 1)) i) t
noncomputable def nu(k:Nat):T->Nat->V->T:=@Nat.rec (fun _=>T->Nat->V->T) (fun t _ _=>t) (fun _ ih t i v=>@T.rec (fun _=>T) (@Nat.rec (fun _=>T) (T.n T.e v T.e) (fun j _=>@Nat.rec (fun _=>T) (T.n (ih T.e (Nat.shiftRight j 1) v) V.any T.e) (fun _ _=>T.n T.e V.any (ih T.e (Nat.shiftRight j 1) v)) (Nat.land j 1)) i) (fun l u r _ _=>@Nat.rec (fun _=>T) (T.n l v r) (fun j _=>@Nat.rec (fun _=>T) (T.n (ih l (Nat.shiftRight j 1) v) u r) (fun _ _=>T.n l u (ih r (Nat.shiftRight j 1) v)) (Nat.land j 1)) i) t) k
theorem yx(i:Nat):fE .e i=.any:=rfl
theorem nZ(l r:T)(v:V):fE (.n l v r) 0=v:=rfl
theorem kg(l r:T)(v:V)(j:Nat):fE (.n l v r) (j+1)=if j%2=0 then fE l (j / 2)else fE r (j / 2):=by
 have h:fE (.n l v r) (j+1)=@Nat.rec (fun _=>V) (fE l (Nat.shiftRight j 1)) (fun _ _=>fE r (Nat.shiftRight j 1)) (Nat.land j 1):=rfl;have h1:Nat.shiftRight j 1=j / 2:=by simp_all[ab9]
 have h2:Nat.land j 1=j%2:=acC j;rw[h,h1,h2];rcases ab3 j with hj|hj<;>rw[hj]<;>rfl
theorem Kq(k:Nat)(v:V):nu (k+1) .e 0 v=.n .e v .e:=rfl
theorem yz(k j:Nat)(v:V):nu (k+1) .e (j+1) v=if j%2=0 then .n (nu k .e (j / 2) v) .any .e else .n .e .any (nu k .e (j / 2) v):=by
 have h:nu (k+1) .e (j+1) v=@Nat.rec (fun _=>T) (T.n (nu k T.e (Nat.shiftRight j 1) v) V.any T.e) (fun _ _=>T.n T.e V.any (nu k T.e (Nat.shiftRight j 1) v)) (Nat.land j 1):=rfl;have h1:Nat.shiftRight j 1=j / 2:=by simp_all[ab9]
 have h2:Nat.land j 1=j%2:=acC j;rw[h,h1,h2];rcases ab3 j with hj|hj<;>rw[hj]<;>rfl
theorem Kr(k:Nat)(l r:T)(u v:V):nu (k+1) (.n l u r) 0 v=.n l v r:=rfl
theorem yA(k j:Nat)(l r:T)(u v:V):nu (k+1) (.n l u r) (j+1) v=if j%2=0 then .n (nu k l (j / 2) v) u r else .n l u (nu k r (j / 2) v):=by
 have h:nu (k+1) (.n l u r) (j+1) v=@Nat.rec (fun _=>T) (T.n (nu k l (Nat.shiftRight j 1) v) u r) (fun _ _=>T.n l u (nu k r (Nat.shiftRight j 1) v)) (Nat.land j 1):=rfl;have h1:Nat.shiftRight j 1=j / 2:=by simp_all[ab9]
 have h2:Nat.land j 1=j%2:=acC j;rw[h,h1,h2];rcases ab3 j with hj|hj<;>rw[hj]<;>rfl
theorem xr:∀(k:Nat)(t:T)(i s:Nat)(v:V),i+1<2^k->fE (nu k t i v) s=if s=i then v else fE t s
 |0,t,i,s,v,h=>by simp at h
 |k+1,t,i,s,v,h=>by
  have ih:=xr k;cases t with
   |e=>
    cases i with
     |zero=>rw[Kq];cases s<;>grind[nZ,kg,yx]
     |succ j=>
      rw[yz];have hj:j / 2+1<2^k:=by grind
      by_cases h2:j%2=0
      ·rw[aaK h2];cases s<;>grind[nZ,yx,kg]
      ·rw[aaF h2];cases s<;>grind[nZ,yx,kg]
   |n l u r=>
    cases i with
     |zero=>rw[Kr];cases s<;>grind[nZ,kg]
     |succ j=>
      rw[yA];have hj:j / 2+1<2^k:=by grind
      by_cases h2:j%2=0
      ·rw[aaK h2];cases s<;>grind[nZ,kg]
      ·rw[aaF h2];cases s<;>grind[nZ,kg]
def iC:Nat:=4000
noncomputable def FC(t:T)(i:Nat)(v:V):T:=nu 12 t i v
theorem se(t:T)(i s:Nat)(v:V)(h:i<iC):fE (FC t i v) s=if s=i then v else fE t s:=xr 12 t i s v (by grind[iC])
def lr(tm:List (Nat×V))(t:T):Prop:=∀s,get tm s=fE t s
theorem lr.put{tm:List (Nat×V)}{t:T}(h:lr tm t){i:Nat}{v:V}(hi:i<iC):lr (put tm i v) (FC t i v):=fun s=>by rw[lA,se _ _ _ _ hi,h s]
theorem lr.nil:lr [] .e:=fun _=>rfl
noncomputable def ph:Nat->List V->T->T|_,[],t=>t|n,v::vs,t=>ph (n+1) vs (FC t n v)
theorem xt:∀(vs:List V)(n:Nat)(t:T)(s:Nat),n+vs.length<=iC->fE (ph n vs t) s=if n<=s/\s<n+vs.length then(vs[s - n]? ).getD .any else fE t s
 |[],n,t,s,_=>by grind[ph]
 |v::vs,n,t,s,h=>by simp only[aaR]at h;rw[ph,xt vs (n+1) _ s (by omega),se _ _ _ _ (by omega)];grind
theorem lr.args(vs:List V)(h:vs.length<=iC):lr (wP 0 vs) (ph 0 vs .e):=fun s=>by rw[zX,xt _ _ _ _ (by omega)];simp_all[Nat.not_lt_zero,abM,aby,true_and,aaY,acX,yx]
def ax:Int->Int->Bool| .ofNat a,.ofNat b=>Nat.blt a b| .ofNat _,.negSucc _=>false| .negSucc _,.ofNat _=>true| .negSucc a,.negSucc b=>Nat.blt b a
def aQ:Int->Int->Bool| .ofNat a,.ofNat b=>Nat.beq a b| .negSucc a,.negSucc b=>Nat.beq a b|_,_=>false
def aJ:Int->Int->Int| .ofNat a,.ofNat b=>.ofNat (Nat.add a b)|a,b=>a+b
def aq(k:IntKind)(n:Int):Int:=match k with
 | .i64=>
  match n with
   | .ofNat m=>bif Nat.blt m 9223372036854775808 then .ofNat m else IntKind.i64.wrap n
   | .negSucc m=>bif Nat.blt m 9223372036854775808 then .negSucc m else IntKind.i64.wrap n
 |k=>k.wrap n
theorem fF(a b:Int):ax a b=decide (a<b):=by cases a<;>cases b<;>simp only[ax,Kn]<;>(grind)
theorem nv(a b:Int):aQ a b=(a==b):=by cases a<;>cases b<;>simp only[aQ,Kl]<;>(grind)
theorem fw(a b:Int):aJ a b=a+b:=by cases a<;>cases b<;>simp[aJ]
theorem cw(k:IntKind)(n:Int):aq k n=k.wrap n:=by
 have aar:∀(b:Bool)(x y z:Int),(b=true->x=z)->y=z->(bif b then x else y)=z:=fun b x y z h1 h2=>by grind
 unfold aq;split
 ·split;all_goals grind[Kn,IntKind.wrap_i64,Int.ofNat_eq_natCast,Int.negSucc_eq]
 ·rfl
def HH(op:BinOp)(k:IntKind)(a b:Int):Option D:=match op with
 | .add=>some (.int k (aq k (aJ a b)))
 | .sub=>some (.int k (aq k (a - b)))
 | .eql=>some (.bool (aQ a b))
 | .neq=>some (.bool (!aQ a b))
 | .lss=>some (.bool (ax a b))
 | .leq=>some (.bool (!ax b a))
 | .gtr=>some (.bool (ax b a))
 | .geq=>some (.bool (!ax a b))
 |op=>ou op k a b
theorem HI(op:BinOp)(k:IntKind)(a b:Int):HH op k a b=ou op k a b:=by
 have hn:∀(x y:Int),(!decide (x<y))=decide (y<=x):=fun x y=>by grind
 cases op<;>simp only[HH,ou,cw,fw,nv,fF,hn,bne]<;>rfl
def QF:IntKind->Nat| .i8=>0| .i16=>1| .i32=>2| .i64=>3| .u8=>4| .u16=>5| .u32=>6| .u64=>7
def Ks(k k':IntKind):Bool:=Nat.beq (QF k) (QF k')
theorem vd{k k':IntKind}:Ks k k'=true↔k=k':=by cases k<;>cases k'<;>decide
def Aq(op:BinOp):V->V->Option (V×Wr)
 | .d (.int k a),.d (.int k' b)=>bif Ks k k' then(match HH op k a b with|some x=>some (.d x,none)|none=>none)else none
 | .d (.str a),.d (.str b)=>match GQ op a b with|some x=>some (.d x,none)|none=>none
 |_,_=>none
theorem HJ(op:BinOp)(x y:V):Aq op x y=(mJ op x y).map fun v=>(v,none):=by
 unfold Aq;split
 ·rename_i k a k' b;simp only[mJ,HI];cases h:Ks k k' with
   |true=>have:=vd.1 h;grind
   |false=>
    have:¬k=k':=fun e=>by rw[vd.2 e]at h;cases h
    grind
 all_goals grind[mJ]
def DY(H:ao)(n:Nat)(agg:Bool)(a:V):Option (V×Wr):=match jR H n a with
 |some cs=>match B_ agg cs with|some v=>some (v,none)|none=>none
 |none=>none
def yB(H:ao)(n:Nat)(a x:V):Option (V×Wr):=match gA H n a x with
 |some p=>some (.any,some p)
 |none=>none
def QG(c a b:V):Option (V×Wr):=match c with
 | .d (.bool t)=>some (bif t then a else b,none)
 |_=>none
def W2(ns n:Nat)(x:V):Option (V×Wr):=bif Nat.beq (cl x).length n&&(cl x).all eK then some (.ptr ns n 0,some (ns,.cells (cl x)))else none
def HK(ρ:a_->V)(z:List V)(ps:List (Nat×Nat×a_)):Option (V×Wr):=match iK ρ z ps with
 |some cs=>some (.agg cs,none)
 |none=>none
def NK(x:V):Option (V×Wr):=match x with
 | .ptr b h off=>some (.ptr b h off,none)
 | .bB cs=>some (.bB cs,none)
 | .func f a b=>some (.func f a b,none)
 |_=>none
def Vm(H:ao)(neg:Bool)(k:rM)(x y:V):Option (V×Wr):=match Dy H k x y with
 |some b=>some (.d (.bool (bif neg then !b else b)),none)
 |none=>none
def Kt(off n:Nat)(agg:Bool)(x:V):Option (V×Wr):=match x with
 | .agg cs=>bif Nat.ble (off+n) cs.length then(match B_ agg ((cs.drop off).take n)with|some v=>some (v,none)|none=>none)else none
 |_=>none
def CP(off n:Nat)(x:V):Option (V×Wr):=match x with
 | .ptr b h o=>some (.ptr b h (o+off),none)
 | .bB cs=>some (.bB ((cs.drop off).take n),none)
 |_=>none
def CQ(H:ao)(sz:Nat)(x i:V):Option (V×Wr):=match ct i with
 |none=>none
 |some j=>
  match x with
   | .d (.list es)=>
    (match es[j]? with
     |some e=>bif Nat.beq e.length sz then some (.bB e,none)else none
     |none=>none)
   | .sl b h off len w_=>bif Nat.beq sz w_&&Nat.blt j len&&ff H b h then some (.ptr b h (off+j*sz),none)else none
   |_=>none
def HL(x i:V):Option (V×Wr):=match ct i with
 |none=>none
 |some j=>
  match x with
   | .d (.str s)=>
    (match s[j]? with
     |some b=>some (.d (.int .u8 b.toNat),none)
     |none=>none)
   |_=>none
def Ku(x:V)(i:Nat):Option (V×Wr):=match x with
 | .tuple vs=>(match vs[i]? with|some v=>some (v,none)|none=>none)
 |_=>none
def Kv(H:ao)(k:lu)(x:V):Option (V×Wr):=match iw H k x with
 |some n=>some (.d (.int .i64 (Int.ofNat n)),none)
 |none=>none
def Kw(H:ao)(ns sz bytes:Nat)(x y:V):Option (V×Wr):=match bt H sz y with
 |some xs=>dr H ns sz bytes x xs
 |none=>none
def Vn(op:UnOp)(x:V):Option (V×Wr):=match U0 op x with|some v=>some (v,none)|none=>none
def Kx(ρ:a_->V)(H:ao)(ns:Nat):lv->Option (V×Wr)| .mv x=>some (ρ x,none)| .pick c a b=>QG (ρ c) (ρ a) (ρ b)| .alloc z=>some (.ptr ns z.length 0,some (ns,.cells z))| .box n x=>W2 ns n (ρ x)| .build z ps=>HK ρ z ps| .load n agg a=>DY H n agg (ρ a)| .store n a x=>yB H n (ρ a) (ρ x)| .eZ x=>NK (ρ x)| .bin op x y=>Aq op (ρ x) (ρ y)| .eq neg k x y=>Vm H neg k (ρ x) (ρ y)| .un op x=>Vn op (ρ x)| .rN f a b=>some (.func f (bu ρ a) (bu ρ b),none)| .Pn off n agg x=>Kt off n agg (ρ x)| .dI off n x=>CP off n (ρ x)| .cF sz x i=>CQ H sz (ρ x) (ρ i)| .gz x i=>HL (ρ x) (ρ i)| .ext x i=>Ku (ρ x) i| .len .slice x=>Kv H .slice (ρ x)| .len .str x=>Kv H .str (ρ x)| .append sz bytes x y=>Kw H ns sz bytes (ρ x) (ρ y)|op=>bE ρ H ns op
theorem DZ(ρ:a_->V)(H:ao)(ns:Nat)(op:lv):Kx ρ H ns op=bE ρ H ns op:=by
 unfold Kx;split
 ·rfl
 ·rfl
 ·rfl
 ·rfl
 ·grind[HK,bE]
 ·grind[DY,bE]
 ·grind[yB,bE]
 ·rfl
 ·grind[HJ,bE]
 ·grind[Vm,bE]
 ·grind[Vn,bE]
 ·rfl
 ·rename_i off n agg x;simp only[Kt,bE];grind
 ·rfl
 ·rfl
 ·rfl
 ·grind[Ku,bE]
 ·grind[Kv,bE]
 ·grind[Kv,bE]
 ·rfl
 ·rfl
end Fw
/-
  The quicker run: operations, drawn regions, code, calls; and that the model does the same.
-/
namespace Fw
open Go
abbrev XR:=V×ao
abbrev KN:=T->ao->Option XR
noncomputable def iV(GL:ch)(t:T)(x:a_):V:=match x with
 | .t n=>fE t n
 | .c v=>v
 | .g n=>(match GL.rd n with|some cs=>.bB cs|none=>.any)
 | .f f=>.func f [] []
theorem qL{GL:ch}{tm:List (Nat×V)}{t:T}(h:lr tm t):iV GL t=aZ GL tm:=funext fun x=>by
 cases x with
  |t n=>simp[iV,aZ,h _]
  |c v=>rfl
  |g n=>grind[iV,aZ]
  |f f=>rfl
noncomputable def FD(n:Nat)(dst:Option Nat)(v:V)(t:T)(H:ao)(k:KN):Option XR:=match dst with
 |none=>k t H
 |some d=>bif Nat.blt d n then k (FC t d v) H else none
noncomputable def sf(gd:Option (Nat×Bool))(t:T)(skip go:Option XR):Option XR:=match gd with
 |none=>go
 |some (d,qo)=>
  match fE t d with
   | .d (.bool b)=>bif b then(bif qo then go else skip)else(bif qo then skip else go)
   | .tuple []=>skip
   |_=>none
def Ar(v:V)(H:ao):Option (V×ao):=match v with
 | .iter b _=>
  match aF H b with
   |some (.iH m n seen)=>
    match aF H m with
     |some (.map es)=>
      match es,n,seen with
       |[],0,_=>some (.tuple [.d (.bool false)],H)
       |[(k,v)],1,[]=>some (.tuple [.d (.bool true),.d k,v],bJ H b (.iH m 1 [0]))
       |[_],1,[0]=>some (.tuple [.d (.bool false)],H)
       |_,_,_=>none
     |_=>none
   |_=>none
 |_=>none
noncomputable def QH(own:List Nat)(GL:ch)(call:bm)(dst:Option Nat)(op:lv)(t:T)(H:ao)(k:V->ao->Option XR):Option XR:=match op with
 | .call f args=>(match call f (bu (iV GL t) args) H with|some (v,H')=>k v H'|none=>none)
 | .gV x args=>
  (match iV GL t x with
   | .func f first cap=>(match call f (first++bu (iV GL t) args++cap) H with|some (v,H')=>k v H'|none=>none)
   |_=>none)
 | .mkSlice sz len z ps=>
  (match(bif Cb dst own then none else jo (iV GL t) (.mkSlice sz len z ps))with
   |some v=>k v H
   |none=>(match bE (iV GL t) H H.length (.mkSlice sz len z ps)with|some (v,wr)=>k v (br H wr)|none=>none))
 | .mZ x=>(match Ar (iV GL t x) H with|some (v,H')=>k v H'|none=>none)
 |op=>(match Kx (iV GL t) H H.length op with|some (v,wr)=>k v (br H wr)|none=>none)
noncomputable def qM(own:List Nat)(GL:ch)(call:bm)(n:Nat)(o:aj)(t:T)(H:ao)(k:KN):Option XR:=match o with|⟨dst,op,gd,_⟩=>sf gd t (FD n dst (.tuple []) t H k) (QH own GL call dst op t H (fun v H'=>FD n dst v t H' k))
noncomputable def qN(own:List Nat)(GL:ch)(call:bm)(n:Nat)(l:List aj):T->ao->KN->Option XR:=@List.rec aj (fun _=>T->ao->KN->Option XR) (fun t H k=>k t H) (fun o _ ih t H k=>qM own GL call n o t H (fun t' H'=>ih t' H' k)) l
section
variable {P:Program}{GL:ch}
variable {tm:List (Nat×V)}{n:Nat}{dst:Option Nat}{t:T}{H:ao}{gd:Option (Nat×Bool)}
theorem ui(hn:n<=iC){v:V}{k:KN}{x:XR}(hs:lr tm t)(h:FD n dst v t H k=some x):∃aW t',lr aW t'/\k t' H=some x/\∀H0,St.put ⟨n,tm,H0⟩ dst v H=some ⟨n,aW,H⟩:=by
 unfold FD at h;split at h
 ·exact⟨tm,t,hs,h,fun _=>rfl⟩
 ·rename_i d;cases hb:Nat.blt d n with
   |false=>grind
   |true=>
    rw[hb]at h;have hd:d<n:=by simp_all
    exact⟨_,_,hs.put (by omega),h,fun H0=>by simp[St.put,hb]⟩
theorem xu{skip go:Option XR}{x:XR}(hs:lr tm t)(h:sf gd t skip go=some x):(aA gd tm=some true/\go=some x)\/(aA gd tm=some false/\skip=some x):=by
 unfold sf at h;unfold aA;split at h
 ·grind
 ·rename_i d qo;simp only[hs d];grind
theorem WO.Ar{x:a_}{af:List Nat}{H':ao}{v:V}(hg:aA gd tm=some true)(h:Fw.Ar (aZ GL tm x) H=some (v,H')):∀l aY Q,St.put ⟨n,tm,H⟩ dst v H'=some aY->WO P GL l aY Q->WO P GL (⟨dst,.mZ x,gd,af⟩::l) ⟨n,tm,H⟩ Q:=by
 intro l aY Q hp hw;unfold Fw.Ar at h;split at h
 ·rename_i b m0 hx;split at h
  ·rename_i m n' seen hb;split at h
   ·rename_i es hm;split at h
    ·simp only[aaC,aaE]at h;obtain⟨rfl,rfl⟩:=h;exact WO.mZ rfl hg hx hb hm rfl (fun i k v hi _=>by simp at hi) (fun _=>⟨aY,hp,hw⟩)
    ·simp only[aaC,aaE]at h;obtain⟨rfl,rfl⟩:=h;refine WO.mZ rfl hg hx hb hm rfl (fun i k v hi _=>?_ ) (fun hs=>by grind);grind
    ·simp only[aaC,aaE]at h;obtain⟨rfl,rfl⟩:=h;refine WO.mZ rfl hg hx hb hm rfl (fun i k v hi hs=>?_ ) (fun _=>⟨aY,hp,hw⟩);grind
    ·cases h
   ·cases h
  ·cases h
 ·cases h
theorem HM{own:List Nat}{call:bm}(hc:b6 P GL call){op:lv}{af:List Nat}{k:V->ao->Option XR}{x:XR}(hs:lr tm t)(hg:aA gd tm=some true)(h:QH own GL call dst op t H k=some x):∃v H',k v H'=some x/\∀l aY Q,St.put ⟨n,tm,H⟩ dst v H'=some aY->WO P GL l aY Q->WO P GL (⟨dst,op,gd,af⟩::l) ⟨n,tm,H⟩ Q:=by
 unfold QH at h;rw[qL hs]at h;split at h
 ·rename_i f args;split at h
  ·rename_i v H' dz;refine⟨v,H',h,fun l aY Q hp hw=>WO.call rfl hg ((hc _ _ _ _ _ dz).mono ?_ )⟩;grind
  ·cases h
 ·rename_i y args;split at h
  ·rename_i f first cap hx
   split at h
   ·rename_i v H' dz;refine⟨v,H',h,fun l aY Q hp hw=>WO.gV rfl hx hg ((hc _ _ _ _ _ dz).mono ?_ )⟩;grind
   ·cases h
  ·cases h
 ·rename_i sz len z ps;split at h
  ·rename_i v hv;refine⟨v,H,h,fun l aY Q hp hw=>WO.jo hg ?_ hp hw⟩;grind
  ·split at h
   ·rename_i v wr he;exact⟨v,_,h,fun l aY Q hp hw=>WO.bE hg he hp hw⟩
   ·cases h
 ·split at h
  ·rename_i v H' hv;exact⟨v,H',h,WO.Ar hg hv⟩
  ·cases h
 ·split at h
  ·rename_i v wr he;rw[DZ]at he;exact⟨v,_,h,fun l aY Q hp hw=>WO.bE hg he hp hw⟩
  ·cases h
theorem kV{own:List Nat}{call:bm}(hc:b6 P GL call){n:Nat}(hn:n<=iC):∀{l:List aj}{t:T}{H:ao}{k:KN}{x:XR}{tm:List (Nat×V)},lr tm t->qN own GL call n l t H k=some x->∃aW t' H',lr aW t'/\WO P GL l ⟨n,tm,H⟩ (fun s=>s=⟨n,aW,H'⟩)/\k t' H'=some x
 |[],t,H,k,x,tm,hs,h=>⟨tm,t,H,hs,WO.nil rfl,h⟩
 |o::l,t,H,k,x,tm,hs,h=>by
  have h:qM own GL call n o t H (fun t' H'=>qN own GL call n l t' H' k)=some x:=h;obtain⟨dst,op,gd,af⟩:=o;simp only[qM]at h;rcases xu hs h with⟨hg,h⟩|⟨hg,h⟩
  ·obtain⟨v,H',h1,h2⟩:=HM (n:=n) (af:=af) hc hs hg h;obtain⟨aW,t',jg,h3,h4⟩:=ui hn hs h1;obtain⟨fG,t2,H2,Kz,hw,hk⟩:=kV hc hn jg h3;grind
  ·obtain⟨aW,t',jg,h3,h4⟩:=ui hn hs h;obtain⟨fG,t2,H2,Kz,hw,hk⟩:=kV hc hn jg h3;exact⟨fG,t2,H2,Kz,WO.skip hg (h4 H) hw,hk⟩
end
def look{α:Type}:List (Nat×α)->Nat->Option α|[],_=>none|(k,a)::l,i=>bif Nat.beq k i then some a else look l i
def NL(b':Option Bool)(v:V):V×List (Bool×Bool):=match b',v with
 |some b',.d (.bool b)=>(.d (.bool b'),[(b,b')])
 |_,v=>(v,[])
abbrev kE:=FuncId->List V->ao->Option V
def lW(P:Program)(GL:ch)(dc:kE):Prop:=∀f args H v,dc f args H=some v->g_ P GL f args H v
abbrev ny:=List (FuncId×List V×V)
def pj(own:List Nat)(GL:ch)(dc:kE)(ov:List (Nat×Bool))(sp:List (Nat×V))(base:Nat):Nat->List aj->St->Option (List (((V×Wr)×List Nat)×Option V)×List (Bool×Bool)×ny)
 |_,[],_=>some ([],[],[])
 |i,o::l,σ=>
  let cv:Option V:=match bX o.op with
   |some (f,args)=>(match look sp i with|some v=>some v|none=>dc f (bu (aZ GL σ.tm) args) σ.hp)
   |none=>bif Cb o.dst own then none else jo (aZ GL σ.tm) o.op
  match gn GL σ.tm σ.hp (base+i) o cv with
   |none=>none
   |some r=>
    match pj own GL dc ov sp base (i+1) l (σ.iS o.dst (NL (look ov i) r.1).1 (br σ.hp r.2))with
     |none=>none
     |some (rs,cs,calls)=>some (((((NL (look ov i) r.1).1,r.2),mV (aZ GL σ.tm) o.op),cv)::rs,(NL (look ov i) r.1).2++cs,(match bX o.op,look sp i with|some (f,args),some v=>[(f,bu (aZ GL σ.tm) args,v)]|_,_=>[])++calls)
def mB:List (Bool×Bool)->Prop|[]=>True|(a,b)::l=>a=b/\mB l
def pk(P:Program)(GL:ch):ny->Prop|[]=>True|(f,args,v)::l=>PC P GL f args v/\pk P GL l
theorem sg:∀{a b:List (Bool×Bool)},mB (a++b)->mB a/\mB b|[],_,h=>⟨trivial,h⟩|(x,y)::a,b,h=>⟨⟨h.1,(sg h.2).1⟩,(sg h.2).2⟩
section
variable {P:Program}{GL:ch}
variable {l:List aj}
theorem sh:∀{a b:ny},pk P GL (a++b)->pk P GL a/\pk P GL b|[],_,h=>⟨trivial,h⟩|(x,y,z)::a,b,h=>⟨⟨h.1,(sh h.2).1⟩,(sh h.2).2⟩
theorem NM{b:Option Bool}{v:V}(h:mB (NL b v).2):(NL b v).1=v:=by unfold NL at h⊢;grind[mB]
theorem As{own:List Nat}{dc:kE}(hd:lW P GL dc){ov:List (Nat×Bool)}{sp:List (Nat×V)}{base:Nat}:∀{l:List aj}{i:Nat}{σ:St}{qs:List (((V×Wr)×List Nat)×Option V)}{cs:List (Bool×Bool)}{calls:ny},pj own GL dc ov sp base i l σ=some (qs,cs,calls)->mB cs->pk P GL calls->∀qc:Nat->Option V,(∀j q,qs[j]? =some q->qc (i+j)=q.2)->pG GL base qc i l σ=some (qs.map (·.1))/\qs.length=l.length/\∀k o q,l[k]? =some o->qs[k]? =some q->∀f args,bX o.op=some (f,args)->aA o.guard (aK (fun j=>decide (j<i+k)) i l (qs.map (·.1)) σ).tm=some true->g_ P GL f (bu (aZ GL (aK (fun j=>decide (j<i+k)) i l (qs.map (·.1)) σ).tm) args) (aK (fun j=>decide (j<i+k)) i l (qs.map (·.1)) σ).hp q.1.1.1
 |[],i,σ,qs,cs,calls,h,_,_,qc,hq=>by simp only[pj,aaC,aaE]at h;obtain⟨rfl,rfl,rfl⟩:=h;exact⟨rfl,rfl,by simp⟩
 |o::l,i,σ,qs,cs,calls,h,qz,mz,qc,hq=>by
  simp only[pj]at h;split at h
  ·cases h
  ·rename_i r hr;split at h
   ·cases h
   ·rename_i rs uH NN Mj;simp only[aaC,aaE]at h;obtain⟨rfl,rfl,rfl⟩:=h;obtain⟨hc1,Pv⟩:=sg qz;obtain⟨Vo,PF⟩:=sh mz;have hv:=NM hc1;rw[hv]at Mj hq⊢;have h0:=hq 0 _ rfl;simp only[acj]at h0;obtain⟨k1,k2,k3⟩:=As hd Mj Pv PF qc (fun j q hj=>by have:=hq (j+1) q (by grind);grind);have Z9:(r.1,r.2)=r:=rfl;refine⟨?_,by simp[k2],fun k o' q pI Kk f args dz hg=>?_ ⟩
    ·grind[pG]
    ·cases k with
      |zero=>
       simp at pI Kk;subst pI;subst Kk;simp only[acj]at hg⊢;rw[jq (fun j hj=>aaS (by omega))]at hg⊢;simp only[dz]at hr Vo;unfold gn at hr;rw[hg]at hr;simp only[dz]at hr;cases hs:look sp i with
        |some v=>rw[hs]at hr Vo;simp only[aaU,aaC]at hr;rw[←hr];exact(Vo.1).uY
        |none=>
         rw[hs]at hr;simp only at hr;cases hp:dc f (bu (aZ GL σ.tm) args) σ.hp with
          |none=>grind
          |some v=>rw[hp]at hr;simp only[aaU,aaC]at hr;rw[←hr];exact hd _ _ _ _ hp
      |succ k=>
       simp at pI Kk;have e:i+(k+1)=i+1+k:=by omega
       have DF:aK (fun j=>decide (j<i+(k+1))) i (o::l) (((r.1,r.2),mV (aZ GL σ.tm) o.op)::rs.map (·.1)) σ=aK (fun j=>decide (j<i+1+k)) (i+1) l (rs.map (·.1)) (σ.iS o.dst r.1 (br σ.hp r.2)):=by simp only[aK,e,show decide (i<i+1+k)=true by simp;omega,aaJ]
       grind
theorem WO.mono{σ:St}{Q Q':St->Prop}(h:WO P GL l σ Q)(hq:∀s,Q s->Q' s):WO P GL l σ Q':=by intro ops k h1 g w a hr;exact dt (fun e a w hp=>di.mono (fun e s Kk=>by grind) e a w hp) _ _ _ (h ops k h1 g w a hr)
theorem DP.Mk{own:List Nat}{dc:kE}(hd:lW P GL dc){ov:List (Nat×Bool)}{sp:List (Nat×V)}{mm:Nat}{k:Nat}(m:Nat){n:Nat}{tm:List (Nat×V)}{H:ao}{lp:List aj}{qs:List (((V×Wr)×List Nat)×Option V)}{cs:List (Bool×Bool)}{calls:ny}{Q:Ex->St->Prop}(Pw:(iN k l).take m=lp)(KA:Nat.ble (k+m) l.length=true)(Hm:qG k m l=true)(h:pj own GL dc ov sp H.length 0 lp ⟨n,tm,H++List.replicate lp.length none⟩=some (qs,cs,calls))(hb:(dW lp (qs.map (·.1))&&gx n lp&&e8 (H.length+lp.length) (qs.map (·.1)))=true)(qz:mB cs)(mz:pk P GL calls)(hq:DP P GL mm l (k+m) (aK (fun _=>true) 0 lp (qs.map (·.1)) ⟨n,tm,H++List.replicate lp.length none⟩) Q):DP P GL mm l k ⟨n,tm,H⟩ Q:=by simp only[aaD]at hb;obtain⟨k1,k2,k3⟩:=As hd h qz mz (fun i=>(qs[i]? ).bind (·.2)) (fun j q hj=>by simp[hj]);refine DP.part (σ:=⟨n,tm,H⟩) m Pw KA Hm k1 hb.1.1 hb.1.2 hb.2 (fun i o r ho hr f args dz hg=>?_ ) hq;simp only[abz,aaG]at hr;obtain⟨q,Ah,rfl⟩:=hr;have:=k3 i o q ho Ah f args dz;simp only[aaY]at this;exact this hg
theorem WC.HN{own:List Nat}{dc:kE}(hm:P.follows .mixedOrders=true)(hd:lW P GL dc){ov:List (Nat×Bool)}{sp:List (Nat×V)}{n:Nat}{tm:List (Nat×V)}{H:ao}{qs:List (((V×Wr)×List Nat)×Option V)}{cs:List (Bool×Bool)}{calls:ny}{Q:Ex->St->Prop}(h:pj own GL dc ov sp H.length 0 l ⟨n,tm,H++List.replicate l.length none⟩=some (qs,cs,calls))(hb:(dW l (qs.map (·.1))&&gx n l&&e8 (H.length+l.length) (qs.map (·.1)))=true)(qz:mB cs)(mz:pk P GL calls)(hq:Q .normal (aK (fun _=>true) 0 l (qs.map (·.1)) ⟨n,tm,H++List.replicate l.length none⟩)):WC P GL (.draw l) ⟨n,tm,H⟩ Q:=WC.CF hm (DP.Mk hd l.length (by rw[js,abu]) (by simp_all) (by simp only[dW,aaD]at hb;exact DQ hb.1.1.1) h hb qz mz (by rw[aaY];exact DP.done hq))
end
variable {GL:ch}{t:T}{tm:List (Nat×V)}{H:ao}{aE:ba}{n:Nat}{l:List aj}
def Vp(aE:ba):kE:=fun f a _=>aE f a
theorem HO{P:Program}(hp:bH P GL aE):lW P GL (Vp aE):=fun _ _ _ _ h=>(hp _ _ _ h).uY
noncomputable def yC(gd:Option (Nat×Bool))(t:T):Option Bool:=match gd with
 |none=>some true
 |some (d,qo)=>
  match fE t d with
   | .d (.bool b)=>some (b==qo)
   | .tuple []=>some false
   |_=>none
theorem CR{gd:Option (Nat×Bool)}(hs:lr tm t):yC gd t=aA gd tm:=by
 unfold yC aA;cases gd with
  |none=>rfl
  |some p=>simp only[hs p.1];rfl
noncomputable def HP(GL:ch)(t:T)(H:ao)(ns:Nat)(o:aj)(cv:Option V):Option (V×Wr):=match yC o.guard t with
 |none=>none
 |some false=>some (.tuple [],none)
 |some true=>
  match bX o.op with
   |some _=>cv.map fun v=>(v,none)
   |none=>
    match cv with
     |some _=>(jo (iV GL t) o.op).map fun v=>(v,none)
     |none=>Kx (iV GL t) H ns o.op
theorem HQ(hs:lr tm t){ns:Nat}{o:aj}{cv:Option V}:HP GL t H ns o cv=gn GL tm H ns o cv:=by unfold HP gn;simp only[CR hs,qL hs,DZ];rfl
noncomputable def Ml(dst:Option Nat)(v:V)(t:T):T:=match dst with
 |none=>t
 |some d=>FC t d v
noncomputable def Au(own:List Nat)(GL:ch)(aE:ba)(base:Nat):Nat->List aj->T->ao->Option (List (((V×Wr)×List Nat)×Option V)×T×ao)
 |_,[],t,H=>some ([],t,H)
 |i,o::l,t,H=>
  let cv:Option V:=match bX o.op with
   |some (f,args)=>aE f (bu (iV GL t) args)
   |none=>bif Cb o.dst own then none else jo (iV GL t) o.op
  match HP GL t H (base+i) o cv with
   |none=>none
   |some r=>
    match Au own GL aE base (i+1) l (Ml o.dst r.1 t) (br H r.2)with
     |none=>none
     |some (rs,t',H')=>some (((r,mV (iV GL t) o.op),cv)::rs,t',H')
theorem Av{own:List Nat}{GL:ch}{aE:ba}{base n:Nat}(hn:n<=iC):∀{l:List aj}{i:Nat}{t:T}{H:ao}{tm:List (Nat×V)}{qs:List (((V×Wr)×List Nat)×Option V)}{t':T}{H':ao},lr tm t->gx n l=true->Au own GL aE base i l t H=some (qs,t',H')->pj own GL (Vp aE) [] [] base i l ⟨n,tm,H⟩=some (qs,[],[])/\∃aW,lr aW t'/\aK (fun _=>true) i l (qs.map (·.1)) ⟨n,tm,H⟩=⟨n,aW,H'⟩
 |[],i,t,H,tm,qs,t',H',hs,hd,h=>by simp only[Au,aaC,aaE]at h;obtain⟨rfl,rfl,rfl⟩:=h;exact⟨rfl,tm,hs,rfl⟩
 |o::l,i,t,H,tm,qs,t',H',hs,hd,h=>by
  simp only[Au]at h;rw[HQ hs,qL hs]at h;simp only[gx,aaX,aaD]at hd;split at h
  ·cases h
  ·rename_i r hr;split at h
   ·cases h
   ·rename_i rs t2 H2 Mj;simp only[aaC,aaE]at h;obtain⟨rfl,rfl,rfl⟩:=h;have bJ:∃Vq,lr Vq (Ml o.dst r.1 t)/\St.iS ⟨n,tm,H⟩ o.dst r.1 (br H r.2)=⟨n,Vq,br H r.2⟩:=by
     cases gG:o.dst with
      |none=>exact⟨tm,hs,rfl⟩
      |some d=>
       have h1:=hd.1;rw[gG]at h1;have b8:d<n:=by simp_all
       exact⟨_,hs.put (by omega),rfl⟩
    obtain⟨Vq,Vr,Vo⟩:=bJ;obtain⟨k1,fG,Kz,k2⟩:=Av hn (n:=n) Vr (by grind[gx]) Mj;simp_all[pj,look,Vp,NL,abx,aaV,aK,aaJ]
noncomputable def D0(own:List Nat)(GL:ch)(aE:ba)(n:Nat)(l:List aj)(t:T)(H:ao):Option (T×ao):=bif pH l&&gx n l then
 match Au own GL aE H.length 0 l t (H++List.replicate l.length none)with
  |none=>none
  |some (qs,t',H')=>bif (wR (qs.map (·.1))||Mi 0 [] (Ft (qs.map (·.1))) (de 0 [] l))&&e8 (H.length+l.length) (qs.map (·.1))then some (t',H')else none else none
theorem Aw{own:List Nat}(hn:n<=iC){t':T}{H':ao}(hs:lr tm t)(h:D0 own GL aE n l t H=some (t',H')):∃aW qs,lr aW t'/\pj own GL (Vp aE) [] [] H.length 0 l ⟨n,tm,H++List.replicate l.length none⟩=some (qs,[],[])/\(dW l (qs.map (·.1))&&gx n l&&e8 (H.length+l.length) (qs.map (·.1)))=true/\aK (fun _=>true) 0 l (qs.map (·.1)) ⟨n,tm,H++List.replicate l.length none⟩=⟨n,aW,H'⟩:=by
 unfold D0 at h;cases h1:(pH l&&gx n l)with
  |false=>grind
  |true=>
   rw[h1]at h;simp only[aaJ]at h;simp only[aaD]at h1;split at h
   ·cases h
   ·rename_i qs t2 H2 hq;cases h2:((wR (qs.map (·.1))||Mi 0 [] (Ft (qs.map (·.1))) (de 0 [] l))&&e8 (H.length+l.length) (qs.map (·.1)))with
     |false=>grind
     |true=>rw[h2]at h;simp only[aaJ,aaC,aaE]at h;obtain⟨rfl,rfl⟩:=h;simp only[aaD]at h2;obtain⟨k1,aW,jg,k2⟩:=Av hn hs h1.2 hq;simp_all[dW,aaD]
def D2(l:List aj):Nat->Nat->Option Nat|0,_=>none|f+1,m=>bif u3 m l&&qG 0 m l then some m else D2 l f (m+1)
theorem Ax{l:List aj}:∀{f m r:Nat},D2 l f m=some r->(u3 r l&&qG 0 r l)=true/\r<m+f
 |0,m,r,h=>by cases h
 |f+1,m,r,h=>by
  simp only[D2]at h;cases hb:(u3 m l&&qG 0 m l)with
   |true=>grind
   |false=>rw[hb]at h;have:=Ax h;grind
noncomputable def HR(own:List Nat)(GL:ch)(call:bm)(aE:ba)(n:Nat)(l:List aj)(t:T)(H:ao)(k:KN):Option XR:=match D2 l l.length 0 with
 |none=>none
 |some m=>
  match D0 own GL aE n (l.take m) t H with
   |none=>none
   |some (t1,H1)=>qN own GL call n ((l.drop m).map DM) t1 H1 k
theorem HS{P:Program}{own:List Nat}{call:bm}(hm:P.follows .mixedOrders=true)(hc:b6 P GL call)(hp:bH P GL aE)(hn:n<=iC){k:KN}{x:XR}(hs:lr tm t)(h:HR own GL call aE n l t H k=some x):∃aW t' H',lr aW t'/\WC P GL (.draw l) ⟨n,tm,H⟩ (fun e s=>e=.normal/\s=⟨n,aW,H'⟩)/\k t' H'=some x:=by
 unfold HR at h;split at h
 ·cases h
 ·rename_i m hfm;obtain⟨Md,PB⟩:=Ax hfm;rw[aaD]at Md;split at h
  ·cases h
  ·rename_i t1 H1 hd;obtain⟨Vq,qs,Vr,k1,hb,k2⟩:=Aw hn hs hd;obtain⟨aW,t',H',jg,hw,hk⟩:=kV hc hn Vr h;refine⟨aW,t',H',jg,WC.CF hm (DP.Mk (HO hp) m (by rw[js]) (by rw[adj];omega) Md.2 k1 hb trivial trivial ?_ ),hk⟩;rw[k2,aaY];have hbf:=Md.2;simp only[qG,js,aaD]at hbf;exact DP.chain (by rw[adj];omega) hbf.1 Md.1 (hw.mono fun s hs=>⟨rfl,hs⟩)
noncomputable def si(own:List Nat)(GL:ch)(call:bm)(aE:ba)(n:Nat)(l:List aj)(t:T)(H:ao)(k:KN):Option XR:=match D0 own GL aE n l t H with
 |some (t',H')=>k t' H'
 |none=>HR own GL call aE n l t H k
theorem xw{own:List Nat}{P:Program}{call:bm}(hm:P.follows .mixedOrders=true)(hc:b6 P GL call)(hp:bH P GL aE)(hn:n<=iC){k:KN}{x:XR}(hs:lr tm t)(h:si own GL call aE n l t H k=some x):∃aW t' H',lr aW t'/\WC P GL (.draw l) ⟨n,tm,H⟩ (fun e s=>e=.normal/\s=⟨n,aW,H'⟩)/\k t' H'=some x:=by
 unfold si at h;split at h
 ·rename_i t' H' hd;obtain⟨aW,qs,jg,k1,hb,k2⟩:=Aw hn hs hd;exact⟨aW,t',H',jg,WC.HN hm (HO hp) k1 hb trivial trivial (by grind),h⟩
 ·exact HS hm hc hp hn hs h
noncomputable def tA(body:T->ao->KN->(Nat->KN)->KN->Option XR)(m:Nat):T->ao->(Nat->KN)->KN->Option XR:=@Nat.rec (fun _=>T->ao->(Nat->KN)->KN->Option XR) (fun _ _ _ _=>none) (fun _ ih t H ke kr=>body t H (fun t' H'=>ih t' H' ke kr) ke kr) m
noncomputable def aN(v:V)(a b:Option XR):Option XR:=match v with
 | .d (.bool t)=>bif t then a else b
 |_=>none
noncomputable def fL(own:List Nat)(GL:ch)(call:bm)(aE:ba)(m n:Nat)(c:IR):T->ao->KN->(Nat->KN)->KN->Option XR:=@IR.rec (fun _=>T->ao->KN->(Nat->KN)->KN->Option XR) (fun t H kn _ _=>kn t H) (fun l t H kn _ _=>qN own GL call n l t H kn) (fun l t H kn _ _=>si own GL call aE n l t H kn) (fun _ _ ia ib t H kn ke kr=>ia t H (fun t' H'=>ib t' H' kn ke kr) ke kr) (fun c _ _ ia ib t H kn ke kr=>aN (iV GL t c) (ia t H kn ke kr) (ib t H kn ke kr)) (fun id _ ib t H kn ke kr=>ib t H kn (fun i t' H'=>bif Nat.beq i id then kn t' H' else ke i t' H') kr) (fun _ ib t H _ ke kr=>tA ib m t H ke kr) (fun id t H _ ke _=>ke id t H) (fun t H _ _ kr=>kr t H) c
def QI(kn:KN)(ke:Nat->KN)(kr:KN)(e:Ex)(t:T)(H:ao):Option XR:=match e with
 | .normal=>kn t H
 | .exit i=>ke i t H
 | .ret=>kr t H
def ve(P:Program)(GL:ch)(b:IR)(e:Ex)(s':St):Nat->St->Prop
 |0,_=>False
 |k+1,s=>
  WC P GL b s (fun e1 s1=>
   match e1 with
    | .normal=>ve P GL b e s' k s1
    |e1=>e1=e/\s1=s')
theorem ve.wc{P:Program}{b:IR}{e:Ex}{s':St}{k:Nat}{s:St}(h:ve P GL b e s' k s):WC P GL (.loop b) s (fun e1 s1=>e1=e/\s1=s'):=by
 refine WC.loop (fun m s=>ve P GL b e s' m s) (fun m s hm=>?_ ) h;cases m with
  |zero=>exact hm.elim
  |succ m=>refine WC.mono hm ?_;grind
theorem jt{P:Program}{GL:ch}{own:List Nat}{call:bm}{aE:ba}(hm:P.follows .mixedOrders=true)(hc:b6 P GL call)(hp:bH P GL aE){m n:Nat}(hn:n<=iC):∀{c:IR}{t:T}{H:ao}{kn:KN}{ke:Nat->KN}{kr:KN}{x:XR}{tm:List (Nat×V)},lr tm t->fL own GL call aE m n c t H kn ke kr=some x->∃e aW t' H',lr aW t'/\WC P GL c ⟨n,tm,H⟩ (fun e' s=>e'=e/\s=⟨n,aW,H'⟩)/\QI kn ke kr e t' H'=some x
 | .skip,t,H,kn,ke,kr,x,tm,hs,h=>⟨.normal,tm,t,H,hs,WC.skip ⟨rfl,rfl⟩,h⟩
 | .region l,t,H,kn,ke,kr,x,tm,hs,h=>by obtain⟨aW,t',H',jg,hw,hk⟩:=kV hc hn hs (show qN own GL call n l t H kn=some x from h);refine⟨.normal,aW,t',H',jg,WC.region ?_,hk⟩;grind
 | .draw l,t,H,kn,ke,kr,x,tm,hs,h=>by obtain⟨aW,t',H',jg,hw,hk⟩:=xw hm hc hp hn hs (show si own GL call aE n l t H kn=some x from h);exact⟨.normal,aW,t',H',jg,hw,hk⟩
 | .seq a b,t,H,kn,ke,kr,x,tm,hs,h=>by
  obtain⟨e,aW,t',H',jg,hw,hk⟩:=jt hm hc hp hn hs (show fL own GL call aE m n a t H (fun t' H'=>fL own GL call aE m n b t' H' kn ke kr) ke kr=some x from h);cases e with
   |normal=>obtain⟨e2,fG,t2,H2,Kz,WM,tP⟩:=jt hm hc hp hn jg (show fL own GL call aE m n b t' H' kn ke kr=some x from hk);refine⟨e2,fG,t2,H2,Kz,WC.seq (hw.mono ?_ ),tP⟩;grind
   |exit i=>refine⟨.exit i,aW,t',H',jg,WC.seq (hw.mono ?_ ),hk⟩;grind
   |ret=>refine⟨.ret,aW,t',H',jg,WC.seq (hw.mono ?_ ),hk⟩;grind
 | .cond c a b,t,H,kn,ke,kr,x,tm,hs,h=>by
  have h:aN (iV GL t c) (fL own GL call aE m n a t H kn ke kr) (fL own GL call aE m n b t H kn ke kr)=some x:=h;rw[qL hs]at h;unfold aN at h;split at h
  ·rename_i tb hv;cases tb with
    |true=>obtain⟨e,aW,t',H',jg,hw,hk⟩:=jt hm hc hp hn hs (show fL own GL call aE m n a t H kn ke kr=some x from h);exact⟨e,aW,t',H',jg,WC.cond hv hw,hk⟩
    |false=>obtain⟨e,aW,t',H',jg,hw,hk⟩:=jt hm hc hp hn hs (show fL own GL call aE m n b t H kn ke kr=some x from h);exact⟨e,aW,t',H',jg,WC.cond hv hw,hk⟩
  ·cases h
 | .block id b,t,H,kn,ke,kr,x,tm,hs,h=>by
  obtain⟨e,aW,t',H',jg,hw,hk⟩:=jt hm hc hp hn hs (show fL own GL call aE m n b t H kn (fun i t' H'=>bif Nat.beq i id then kn t' H' else ke i t' H') kr=some x from h);cases e with
   |normal=>refine⟨.normal,aW,t',H',jg,WC.block (hw.mono ?_ ),hk⟩;grind
   |exit i=>
    have hk:(bif Nat.beq i id then kn t' H' else ke i t' H')=some x:=hk;by_cases hi:i=id
    ·subst hi;rw[aa4,aaJ]at hk;refine⟨.normal,aW,t',H',jg,WC.block (hw.mono ?_ ),hk⟩;grind
    ·rw[cB hi,aaT]at hk;refine⟨.exit i,aW,t',H',jg,WC.block (hw.mono ?_ ),hk⟩;grind
   |ret=>refine⟨.ret,aW,t',H',jg,WC.block (hw.mono ?_ ),hk⟩;grind
 | .loop b,t,H,kn,ke,kr,x,tm,hs,h=>by
  have h:tA (fL own GL call aE m n b) m t H ke kr=some x:=h;have key:∀(k:Nat)(t:T)(H:ao)(tm:List (Nat×V)),lr tm t->tA (fL own GL call aE m n b) k t H ke kr=some x->∃e aW t' H',lr aW t'/\ve P GL b e ⟨n,aW,H'⟩ k ⟨n,tm,H⟩/\QI kn ke kr e t' H'=some x:=by
   intro k;induction k with
    |zero=>intro t H tm _ h0;cases h0
    |succ k ih=>
     intro t H tm hs h0;have h0:fL own GL call aE m n b t H (fun t' H'=>tA (fL own GL call aE m n b) k t' H' ke kr) ke kr=some x:=h0;obtain⟨e,aW,t',H',jg,hw,hk⟩:=jt hm hc hp hn hs h0;cases e with
      |normal=>obtain⟨e2,fG,t2,H2,Kz,WM,tP⟩:=ih t' H' aW jg hk;refine⟨e2,fG,t2,H2,Kz,WC.mono hw ?_,tP⟩;grind
      |exit i=>refine⟨.exit i,aW,t',H',jg,WC.mono hw ?_,hk⟩;grind
      |ret=>refine⟨.ret,aW,t',H',jg,WC.mono hw ?_,hk⟩;grind
  obtain⟨e,aW,t',H',jg,hw,hk⟩:=key m t H tm hs h;exact⟨e,aW,t',H',jg,hw.wc,hk⟩
 | .exit id,t,H,kn,ke,kr,x,tm,hs,h=>⟨.exit id,tm,t,H,hs,WC.exit ⟨rfl,rfl⟩,h⟩
 | .ret,t,H,kn,ke,kr,x,tm,hs,h=>⟨.ret,tm,t,H,hs,WC.ret ⟨rfl,rfl⟩,h⟩
inductive FT (α:Type) where
 |e
 |n (l:FT α) (k:Nat) (a:α) (r:FT α)
noncomputable def nz{α:Type}(t:FT α)(f:Nat):Option α:=@FT.rec α (fun _=>Option α) none (fun _ k a _ il ir=>@Bool.rec (fun _=>Option α) (@Bool.rec (fun _=>Option α) ir il (Nat.ble f k)) (some a) (Nat.beq f k)) t
def xx{α:Type}(p:Nat->α->Prop):FT α->Prop| .e=>True| .n l k a r=>xx p l/\p k a/\xx p r
theorem n9{α:Type}{p:Nat->α->Prop}:∀{t:FT α}{f:Nat}{a:α},xx p t->nz t f=some a->p f a
 | .e,f,a,_,h=>by cases h
 | .n l k b r,f,a,ht,h=>by
  have h:@Bool.rec (fun _=>Option α) (@Bool.rec (fun _=>Option α) (nz r f) (nz l f) (Nat.ble f k)) (some b) (Nat.beq f k)=some a:=h;cases h1:Nat.beq f k with
   |true=>rw[h1]at h;have:=aaM h1;subst this;simp only[aaC]at h;subst h;exact ht.2.1
   |false=>
    rw[h1]at h;cases h2:Nat.ble f k with
     |true=>rw[h2]at h;exact n9 ht.1 h
     |false=>rw[h2]at h;exact n9 ht.2.2 h
noncomputable def uj(t:T)(H:ao):iv->Option V
 | .t n=>some (fE t n)
 | .cell n size agg=>
  match jR H size (fE t n)with
   |some cs=>B_ agg cs
   |none=>none
noncomputable def qO(rs:List iv)(t:T)(H:ao):Option XR:=match bW (uj t H) rs with
 |some [v]=>some (v,H)
 |some vs=>some (.tuple vs,H)
 |none=>none
theorem D3{rs:List iv}{x:XR}(hs:lr tm t)(h:qO rs t H=some x):gH rs ⟨n,tm,H⟩=some x.1/\x.2=H:=by
 have e:uj t H=fB ⟨n,tm,H⟩:=funext fun r=>by
  cases r with
   |t n=>simp only[uj,fB,hs _]
   |cell n size agg=>simp only[uj,fB,hs _];grind
 unfold qO at h;unfold gH;grind
noncomputable def FE(gZ:FuncId->List Nat)(GL:ch)(yD:FT ca)(mk:bm->bm)(yE:bm->ba)(m:Nat)(d:Nat):bm:=@Nat.rec (fun _=>bm) (fun _ _ _=>none) (fun _ ih f args H=>
 match nz yD f with
  |none=>none
  |some fn=>bif Nat.ble args.length fn.ntmps&&Nat.ble fn.ntmps iC then fL (gZ f) GL (mk ih) (yE ih) m fn.ntmps fn.body (ph 0 args .e) H (fun t H=>qO fn.res t H) (fun _ _ _=>none) (fun t H=>qO fn.res t H)else none) d
theorem D4{P:Program}{GL:ch}{gZ:FuncId->List Nat}{yD:FT ca}{mk:bm->bm}{yE:bm->ba}(hm:P.follows .mixedOrders=true)(hf:xx (fun f fn=>aC P f=some fn/\ak P f=true) yD)(hmk:∀ka,b6 P GL ka->b6 P GL (mk ka))(QJ:∀ka,b6 P GL ka->bH P GL (yE ka))(m:Nat):∀d,b6 P GL (FE gZ GL yD mk yE m d)
 |0=>by intro f args H v H' h;cases h
 |d+1=>by
  intro f args H v H' h;have ih:=D4 (gZ:=gZ) hm hf hmk QJ m d;have h:(match nz yD f with
   |none=>none
   |some fn=>bif Nat.ble args.length fn.ntmps&&Nat.ble fn.ntmps iC then fL (gZ f) GL (mk (FE gZ GL yD mk yE m d)) (yE (FE gZ GL yD mk yE m d)) m fn.ntmps fn.body (ph 0 args .e) H (fun t H=>qO fn.res t H) (fun _ _ _=>none) (fun t H=>qO fn.res t H)else none)=some (v,H'):=h
  split at h
  ·cases h
  ·rename_i fn Hd;obtain⟨h1,h2⟩:=n9 hf Hd;cases hb:(Nat.ble args.length fn.ntmps&&Nat.ble fn.ntmps iC)with
    |false=>grind
    |true=>
     rw[hb]at h;simp only[aaJ]at h;simp only[aaD]at hb;have DC:=aaN hb.1;have J7:=aaN hb.2;obtain⟨e,aW,t',H2,jg,hw,hk⟩:=jt hm (hmk _ ih) (QJ _ ih) J7 (lr.args args (by omega)) h;refine WF.body h1 h2 DC (hw.mono ?_ );rintro e' s' ⟨rfl,rfl⟩;cases e' with
      |normal=>obtain⟨k1,k2⟩:=D3 (n:=fn.ntmps) jg (show qO fn.res t' H2=some (v,H')from hk);grind
      |exit i=>cases(show(none:Option XR)=some (v,H')from hk)
      |ret=>obtain⟨k1,k2⟩:=D3 (n:=fn.ntmps) jg (show qO fn.res t' H2=some (v,H')from hk);grind
abbrev Extra:=FT (List V->Option V)
noncomputable def Ay(ex:Extra)(gJ:ba):ba:=fun f args=>
 match nz ex f with
  |none=>gJ f args
  |some s=>
   match s args with
    |some v=>some v
    |none=>gJ f args
noncomputable def W3(kt:FT Nat)(ex:Extra)(rf:FuncId->Bool)(pL:CK)(gJ:ba)(ka:bm):bm:=fun f args H=>
 match nz kt f with
  |none=>uh (fun _=>false) (fun _ _=>none) ka f args H
  |some _=>
   match Ay ex (fun _ _=>none) f args with
    |some v=>some (v,H)
    |none=>CL rf pL (Ay ex gJ) ka f args H
noncomputable def NO(kt:FT Nat)(ex:Extra)(rf:FuncId->Bool)(gJ:ba)(ka:bm):ba:=fun f args=>
 match nz kt f with
  |none=>nX (fun _ _=>none) ka f args
  |some _=>bif rf f then none else nX (Ay ex gJ) ka f args
def yF(P:Program)(GL:ch)(ex:Extra):Prop:=xx (fun f s=>∀args v,s args=some v->PC P GL f args v) ex
section
variable {P:Program}{GL:ch}
variable {ex:Extra}{gJ:ba}
theorem vf(he:yF P GL ex)(hp:bH P GL gJ):bH P GL (Ay ex gJ):=by
 intro f args v h;unfold Ay at h;split at h
 ·exact hp _ _ _ h
 ·rename_i s hs;split at h
  ·rename_i u hu;simp only[aaC]at h;subst h;exact n9 he hs _ _ hu
  ·exact hp _ _ _ h
theorem yG:bH P GL (fun _ _=>none):=by intro f a v h;cases h
theorem NP{kt:FT Nat}{rf:FuncId->Bool}{pL:CK}(he:yF P GL ex)(hh:yv P GL pL)(hp:bH P GL gJ):∀ka,b6 P GL ka->b6 P GL (W3 kt ex rf pL gJ ka):=by
 intro ka hr f args H v H' h;unfold W3 at h;split at h
 ·exact u9 yG hr _ _ _ _ _ h
 ·split at h
  ·rename_i u hu;simp only[aaC,aaE]at h;obtain⟨rfl,rfl⟩:=h;exact WF.Fx (vf he yG _ _ _ hu) ⟨rfl,rfl⟩
  ·exact Fy hh (vf he hp) hr _ _ _ _ _ h
theorem KB{kt:FT Nat}{rf:FuncId->Bool}(he:yF P GL ex)(hp:bH P GL gJ):∀ka,b6 P GL ka->bH P GL (NO kt ex rf gJ ka):=by
 intro ka hr f args v h;unfold NO at h;split at h
 ·exact lV yG hr _ _ _ h
 ·cases hb:rf f with
   |true=>grind
   |false=>rw[hb]at h;exact lV (vf he hp) hr _ _ _ h
end
end Fw
/-
  Pieces of code by the quicker run: from a state told by a few slots to another, or to a function's result.
-/
namespace Fw
open Go
noncomputable def Az:List (Nat×V)->T|[]=>.e|(s,u)::l=>FC (Az l) s u
def sj(tm:List (Nat×V)):Bool:=tm.all fun p=>Nat.blt p.1 iC
theorem lr.tree:∀{tm:List (Nat×V)},sj tm=true->lr tm (Az tm)
 |[],_=>lr.nil
 |(s,u)::l,h=>
  fun t=>by
   simp only[sj,aaX,aaD]at h;have hs:s<iC:=by simp_all
   rw[aX,Az,se _ _ _ _ hs,lr.tree (by grind[sj]) t];grind
def yH:List Nat->List V->List (Nat×V)|k::ks,v::vs=>(k,v)::yH ks vs|_,_=>[]
theorem vg{t:T}(s:Nat):∀(ks:List Nat),get (yH ks (ks.map (fE t))) s=fE t s\/get (yH ks (ks.map (fE t))) s=.any
 |[]=>.inr rfl
 |k::ks=>by
  simp only[aaV,yH,aX];by_cases e:k=s
  ·grind
  ·rw[aaF e];exact vg s ks
theorem R.nA{GL:ch}{g:G}{w:World}{a:Act}{n:Nat}{tm fG:List (Nat×V)}{H:ao}(hw:∀s,get fG s=get tm s\/get fG s=.any)(h:R GL g w a ⟨n,tm,H⟩):R GL g w a ⟨n,fG,H⟩:=⟨h.defers,h.size,fun t=>by
 show RV g w (get fG t) _;rcases hw t with e|e
 ·rw[e];exact h.tmps t
 grind[RV],h.heap,h.dJ⟩
theorem an.nA{m n:Nat}{tm fG:List (Nat×V)}{H:ao}(hw:∀s,get fG s=get tm s\/get fG s=.any):an m ⟨n,tm,H⟩ ⟨n,fG,H⟩:=fun _ g _ _ hr=>⟨g,hr.nA hw,fun _ _ _ he=>he⟩
section
variable {P:Program}{GL:ch}
theorem WC.nA{c:IR}{n:Nat}{tm fG:List (Nat×V)}{H:ao}{Q:Ex->St->Prop}(hw:∀s,get fG s=get tm s\/get fG s=.any)(h:WC P GL c ⟨n,fG,H⟩ Q):WC P GL c ⟨n,tm,H⟩ Q:=WC.tidy (an.nA hw) h
end
end Fw
/-
  The quicker run, made ready once for each text of code: what an operation does, as a small function of slots and boxes.
-/
namespace Fw
open Go
inductive Bx (α:Type) where|mk (a:α)
structure qP where
 GL:ch
 call:bm
 aE:ba
abbrev VK:=V->ao->Option XR
noncomputable def FF(k:Nat):Nat->Bx (T->V):=@Nat.rec (fun _=>Nat->Bx (T->V)) (fun i=>.mk (fun t=>fE t i)) (fun _ ih i=>@Nat.rec (fun _=>Bx (T->V)) (.mk (fun t=>@T.rec (fun _=>V) .any (fun _ v _ _ _=>v) t)) (fun j _=>@Bx.rec (T->V) (fun _=>Bx (T->V)) (fun g=>@Nat.rec (fun _=>Bx (T->V)) (.mk (fun t=>@T.rec (fun _=>V) .any (fun l _ _ _ _=>g l) t)) (fun _ _=>.mk (fun t=>@T.rec (fun _=>V) .any (fun _ _ r _ _=>g r) t)) (Nat.land j 1)) (ih (Nat.shiftRight j 1))) i) k
theorem yI:∀(k i:Nat),∃g,FF k i=.mk g/\∀t,g t=fE t i
 |0,i=>⟨_,rfl,fun _=>rfl⟩
 |k+1,0=>⟨_,rfl,fun t=>by cases t<;>rfl⟩
 |k+1,j+1=>by
  have h1:Nat.shiftRight j 1=j / 2:=by simp_all[ab9]
  have h2:Nat.land j 1=j%2:=acC j;obtain⟨g,hg,AA⟩:=yI k (Nat.shiftRight j 1);have h:FF (k+1) (j+1)=@Bx.rec (T->V) (fun _=>Bx (T->V)) (fun g=>@Nat.rec (fun _=>Bx (T->V)) (.mk (fun t=>@T.rec (fun _=>V) .any (fun l _ _ _ _=>g l) t)) (fun _ _=>.mk (fun t=>@T.rec (fun _=>V) .any (fun _ _ r _ _=>g r) t)) (Nat.land j 1)) (FF k (Nat.shiftRight j 1)):=rfl;rw[h,hg];rw[h1]at AA;rcases ab3 j with hj|hj
  ·rw[h2,hj];refine⟨_,rfl,fun t=>?_ ⟩;cases t with
    |e=>rfl
    |n l u r=>grind[kg]
  ·rw[h2,hj];refine⟨_,rfl,fun t=>?_ ⟩;cases t with
    |e=>rfl
    |n l u r=>grind[kg]
noncomputable def KC(k:Nat):Nat->Bx (T->V->T):=@Nat.rec (fun _=>Nat->Bx (T->V->T)) (fun i=>.mk (fun t _=>t)) (fun _ ih i=>@Nat.rec (fun _=>Bx (T->V->T)) (.mk (fun t v=>@T.rec (fun _=>T) (.n .e v .e) (fun l _ r _ _=>.n l v r) t)) (fun j _=>@Bx.rec (T->V->T) (fun _=>Bx (T->V->T)) (fun g=>@Nat.rec (fun _=>Bx (T->V->T)) (.mk (fun t v=>@T.rec (fun _=>T) (.n (g .e v) .any .e) (fun l u r _ _=>.n (g l v) u r) t)) (fun _ _=>.mk (fun t v=>@T.rec (fun _=>T) (.n .e .any (g .e v)) (fun l u r _ _=>.n l u (g r v)) t)) (Nat.land j 1)) (ih (Nat.shiftRight j 1))) i) k
theorem D5:∀(k i:Nat),∃g,KC k i=.mk g/\∀t v,g t v=nu k t i v
 |0,i=>⟨_,rfl,fun _ _=>rfl⟩
 |k+1,0=>⟨_,rfl,fun t v=>by cases t<;>rfl⟩
 |k+1,j+1=>by
  have h1:Nat.shiftRight j 1=j / 2:=by simp_all[ab9]
  have h2:Nat.land j 1=j%2:=acC j;obtain⟨g,hg,AA⟩:=D5 k (Nat.shiftRight j 1);have h:KC (k+1) (j+1)=@Bx.rec (T->V->T) (fun _=>Bx (T->V->T)) (fun g=>@Nat.rec (fun _=>Bx (T->V->T)) (.mk (fun t v=>@T.rec (fun _=>T) (.n (g .e v) .any .e) (fun l u r _ _=>.n (g l v) u r) t)) (fun _ _=>.mk (fun t v=>@T.rec (fun _=>T) (.n .e .any (g .e v)) (fun l u r _ _=>.n l u (g r v)) t)) (Nat.land j 1)) (KC k (Nat.shiftRight j 1)):=rfl;rw[h,hg];rw[h1]at AA;rcases ab3 j with hj|hj
  ·rw[h2,hj];refine⟨_,rfl,fun t v=>?_ ⟩;cases t<;>grind[yz,yA]
  ·rw[h2,hj];refine⟨_,rfl,fun t v=>?_ ⟩;cases t<;>grind[yz,yA]
noncomputable def yJ(x:a_):Bx (qP->T->V):=@a_.rec (fun _=>Bx (qP->T->V)) (fun n=>@Bx.rec (T->V) (fun _=>Bx (qP->T->V)) (fun g=>.mk (fun _ t=>g t)) (FF 12 n)) (fun v=>.mk (fun _ _=>v)) (fun n=>.mk (fun E t=>iV E.GL t (.g n))) (fun f=>.mk (fun _ _=>.func f [] [])) x
theorem qQ(x:a_):∃f,yJ x=.mk f/\∀E t,f E t=iV E.GL t x:=by
 cases x with
  |t n=>obtain⟨g,hg,AA⟩:=yI 12 n;have h:yJ (.t n)=@Bx.rec (T->V) (fun _=>Bx (qP->T->V)) (fun g=>.mk (fun _ t=>g t)) (FF 12 n):=rfl;rw[h,hg];exact⟨_,rfl,fun E t=>AA t⟩
  |c v=>exact⟨_,rfl,fun _ _=>rfl⟩
  |g n=>exact⟨_,rfl,fun _ _=>rfl⟩
  |f f=>exact⟨_,rfl,fun _ _=>rfl⟩
noncomputable def D6(l:List a_):Bx (qP->T->List V):=@List.rec a_ (fun _=>Bx (qP->T->List V)) (.mk (fun _ _=>[])) (fun x _ ih=>@Bx.rec (qP->T->V) (fun _=>Bx (qP->T->List V)) (fun f=>@Bx.rec (qP->T->List V) (fun _=>Bx (qP->T->List V)) (fun g=>.mk (fun E t=>f E t::g E t)) ih) (yJ x)) l
theorem AB:∀(l:List a_),∃f,D6 l=.mk f/\∀E t,f E t=bu (iV E.GL t) l
 |[]=>⟨_,rfl,fun _ _=>rfl⟩
 |x::l=>by obtain⟨f,hf,wU⟩:=qQ x;obtain⟨g,hg,AA⟩:=AB l;have h:D6 (x::l)=@Bx.rec (qP->T->V) (fun _=>Bx (qP->T->List V)) (fun f=>@Bx.rec (qP->T->List V) (fun _=>Bx (qP->T->List V)) (fun g=>.mk (fun E t=>f E t::g E t)) (D6 l)) (yJ x):=rfl;simp_all[bu]
abbrev OC:=qP->T->ao->VK->Option XR
def jJ(r:Option (V×Wr))(H:ao)(k:VK):Option XR:=match r with
 |some (v,wr)=>k v (br H wr)
 |none=>none
def QK(r:Option XR)(k:VK):Option XR:=match r with
 |some (v,H')=>k v H'
 |none=>none
noncomputable def KD(x:a_)(F:(qP->T->V)->OC):Bx OC:=@Bx.rec (qP->T->V) (fun _=>Bx OC) (fun f=>.mk (F f)) (yJ x)
noncomputable def NQ(x y:a_)(F:(qP->T->V)->(qP->T->V)->OC):Bx OC:=@Bx.rec (qP->T->V) (fun _=>Bx OC) (fun f=>@Bx.rec (qP->T->V) (fun _=>Bx OC) (fun g=>.mk (F f g)) (yJ y)) (yJ x)
theorem pN{x:a_}{F:(qP->T->V)->OC}:∃f,KD x F=.mk (F f)/\∀E t,f E t=iV E.GL t x:=by obtain⟨f,hf,wU⟩:=qQ x;exact⟨f,by unfold KD;rw[hf],wU⟩
theorem vh{x y:a_}{F:(qP->T->V)->(qP->T->V)->OC}:∃f g,NQ x y F=.mk (F f g)/\(∀E t,f E t=iV E.GL t x)/\∀E t,g E t=iV E.GL t y:=by obtain⟨f,hf,wU⟩:=qQ x;obtain⟨g,hg,AA⟩:=qQ y;exact⟨f,g,by unfold NQ;rw[hf,hg],wU,AA⟩
noncomputable def W4(own:List Nat)(dst:Option Nat)(op:lv):Bx OC:=match op with
 | .mv x=>KD x fun f E t H k=>k (f E t) H
 | .load n agg a=>KD a fun f E t H k=>jJ (DY H n agg (f E t)) H k
 | .store n a x=>NQ a x fun f g E t H k=>jJ (yB H n (f E t) (g E t)) H k
 | .bin op x y=>NQ x y fun f g E t H k=>jJ (Aq op (f E t) (g E t)) H k
 | .eq neg kk x y=>NQ x y fun f g E t H k=>jJ (Vm H neg kk (f E t) (g E t)) H k
 | .un op x=>KD x fun f E t H k=>jJ (Vn op (f E t)) H k
 | .eZ x=>KD x fun f E t H k=>jJ (NK (f E t)) H k
 | .Pn off n agg x=>KD x fun f E t H k=>jJ (Kt off n agg (f E t)) H k
 | .dI off n x=>KD x fun f E t H k=>jJ (CP off n (f E t)) H k
 | .cF sz x i=>NQ x i fun f g E t H k=>jJ (CQ H sz (f E t) (g E t)) H k
 | .gz x i=>NQ x i fun f g E t H k=>jJ (HL (f E t) (g E t)) H k
 | .ext x i=>KD x fun f E t H k=>jJ (Ku (f E t) i) H k
 | .call f args=>@Bx.rec (qP->T->List V) (fun _=>Bx OC) (fun a=>.mk fun E t H k=>QK (E.call f (a E t) H) k) (D6 args)
 |op=>.mk fun E t H k=>QH own E.GL E.call dst op t H k
theorem NR(own:List Nat)(dst:Option Nat)(op:lv):∃f,W4 own dst op=.mk f/\∀E t H k,f E t H k=QH own E.GL E.call dst op t H k:=by
 cases op with
  |mv x=>obtain⟨f,h,hf⟩:=pN (x:=x) (F:=fun f E t H k=>k (f E t) H);exact⟨_,h,fun E t H k=>by simp only[hf];rfl⟩
  |load n agg a=>obtain⟨f,h,hf⟩:=pN (x:=a) (F:=fun f E t H k=>jJ (DY H n agg (f E t)) H k);exact⟨_,h,fun E t H k=>by simp only[hf];rfl⟩
  |store n a x=>obtain⟨f,g,h,hf,hg⟩:=vh (x:=a) (y:=x) (F:=fun f g E t H k=>jJ (yB H n (f E t) (g E t)) H k);exact⟨_,h,fun E t H k=>by simp only[hf,hg];rfl⟩
  |bin op x y=>obtain⟨f,g,h,hf,hg⟩:=vh (x:=x) (y:=y) (F:=fun f g E t H k=>jJ (Aq op (f E t) (g E t)) H k);exact⟨_,h,fun E t H k=>by simp only[hf,hg];rfl⟩
  |eq neg kk x y=>obtain⟨f,g,h,hf,hg⟩:=vh (x:=x) (y:=y) (F:=fun f g E t H k=>jJ (Vm H neg kk (f E t) (g E t)) H k);exact⟨_,h,fun E t H k=>by simp only[hf,hg];rfl⟩
  |un op x=>obtain⟨f,h,hf⟩:=pN (x:=x) (F:=fun f E t H k=>jJ (Vn op (f E t)) H k);exact⟨_,h,fun E t H k=>by simp only[hf];rfl⟩
  |eZ x=>obtain⟨f,h,hf⟩:=pN (x:=x) (F:=fun f E t H k=>jJ (NK (f E t)) H k);exact⟨_,h,fun E t H k=>by simp only[hf];rfl⟩
  |Pn off n agg x=>obtain⟨f,h,hf⟩:=pN (x:=x) (F:=fun f E t H k=>jJ (Kt off n agg (f E t)) H k);exact⟨_,h,fun E t H k=>by simp only[hf];rfl⟩
  |dI off n x=>obtain⟨f,h,hf⟩:=pN (x:=x) (F:=fun f E t H k=>jJ (CP off n (f E t)) H k);exact⟨_,h,fun E t H k=>by simp only[hf];rfl⟩
  |cF sz x i=>obtain⟨f,g,h,hf,hg⟩:=vh (x:=x) (y:=i) (F:=fun f g E t H k=>jJ (CQ H sz (f E t) (g E t)) H k);exact⟨_,h,fun E t H k=>by simp only[hf,hg];rfl⟩
  |gz x i=>obtain⟨f,g,h,hf,hg⟩:=vh (x:=x) (y:=i) (F:=fun f g E t H k=>jJ (HL (f E t) (g E t)) H k);exact⟨_,h,fun E t H k=>by simp only[hf,hg];rfl⟩
  |ext x i=>obtain⟨f,h,hf⟩:=pN (x:=x) (F:=fun f E t H k=>jJ (Ku (f E t) i) H k);exact⟨_,h,fun E t H k=>by simp only[hf];rfl⟩
  |call f args=>
   obtain⟨a,ha,ha2⟩:=AB args;refine⟨fun E t H k=>QK (E.call f (a E t) H) k,?_,?_ ⟩
   ·simp_all[W4]
   ·intro E t H k;simp only[ha2];rfl
  |_=>exact⟨_,rfl,fun _ _ _ _=>rfl⟩
abbrev SC:=qP->T->ao->KN->Option XR
noncomputable def NS(n:Nat)(dst:Option Nat):Bx (V->T->ao->KN->Option XR):=match dst with
 |none=>.mk fun _ t H k=>k t H
 |some d=>@Bool.rec (fun _=>Bx (V->T->ao->KN->Option XR)) (.mk fun _ _ _ _=>none) (@Bx.rec (T->V->T) (fun _=>Bx (V->T->ao->KN->Option XR)) (fun s=>.mk fun v t H k=>k (s t v) H) (KC 12 d)) (Nat.blt d n)
theorem KE(n:Nat)(dst:Option Nat):∃f,NS n dst=.mk f/\∀v t H k,f v t H k=FD n dst v t H k:=by
 cases dst with
  |none=>exact⟨_,rfl,fun _ _ _ _=>rfl⟩
  |some d=>
   simp only[NS,FD];cases h:Nat.blt d n with
    |false=>grind
    |true=>obtain⟨s,hs,Kz⟩:=D5 12 d;simp only[hs];exact⟨_,rfl,fun v t H k=>by simp only[Kz];rfl⟩
noncomputable def KF(v:V)(QL QM:Option XR)(skip:Option XR):Option XR:=match v with
 | .d (.bool b)=>@Bool.rec (fun _=>Option XR) QM QL b
 | .tuple []=>skip
 |_=>none
noncomputable def D7(own:List Nat)(n:Nat)(o:aj):Bx SC:=match o with
 |⟨dst,op,gd,_⟩=>
  @Bx.rec OC (fun _=>Bx SC) (fun f=>
   @Bx.rec (V->T->ao->KN->Option XR) (fun _=>Bx SC) (fun p=>
    match gd with
     |none=>.mk fun E t H k=>f E t H (fun v H'=>p v t H' k)
     |some (d,qo)=>
      @Bx.rec (T->V) (fun _=>Bx SC) (fun g=>
       match qo with
        |true=>.mk fun E t H k=>KF (g t) (f E t H (fun v H'=>p v t H' k)) (p (.tuple []) t H k) (p (.tuple []) t H k)
        |false=>.mk fun E t H k=>KF (g t) (p (.tuple []) t H k) (f E t H (fun v H'=>p v t H' k)) (p (.tuple []) t H k)) (FF 12 d)) (NS n dst)) (W4 own dst op)
theorem HT(own:List Nat)(n:Nat)(o:aj):∃f,D7 own n o=.mk f/\∀E t H k,f E t H k=qM own E.GL E.call n o t H k:=by
 obtain⟨dst,op,gd,af⟩:=o;obtain⟨f,hf,wU⟩:=NR own dst op;obtain⟨p,hp,PF⟩:=KE n dst;simp only[D7,hf,hp];cases gd with
  |none=>simp_all[qM,sf]
  |some q=>
   obtain⟨d,qo⟩:=q;obtain⟨g,hg,AA⟩:=yI 12 d;simp only[hg];cases qo with
    |true=>
     refine⟨_,rfl,fun E t H k=>?_ ⟩;simp only[qM,sf,KF,wU,PF,AA];generalize fE t d=v;cases v with
      |d x=>
       cases x with
        |bool b=>cases b<;>rfl
        |_=>rfl
      |tuple vs=>grind
      |_=>rfl
    |false=>
     refine⟨_,rfl,fun E t H k=>?_ ⟩;simp only[qM,sf,KF,wU,PF,AA];generalize fE t d=v;cases v with
      |d x=>
       cases x with
        |bool b=>cases b<;>rfl
        |_=>rfl
      |tuple vs=>grind
      |_=>rfl
noncomputable def FG(own:List Nat)(n:Nat)(l:List aj):Bx SC:=@List.rec aj (fun _=>Bx SC) (.mk fun _ t H k=>k t H) (fun o _ ih=>@Bx.rec SC (fun _=>Bx SC) (fun f=>@Bx.rec SC (fun _=>Bx SC) (fun g=>.mk fun E t H k=>f E t H (fun t' H'=>g E t' H' k)) ih) (D7 own n o)) l
theorem yK(own:List Nat)(n:Nat):∀(l:List aj),∃f,FG own n l=.mk f/\∀E t H k,f E t H k=qN own E.GL E.call n l t H k
 |[]=>⟨_,rfl,fun _ _ _ _=>rfl⟩
 |o::l=>by obtain⟨f,hf,wU⟩:=HT own n o;obtain⟨g,hg,AA⟩:=yK own n l;have h:FG own n (o::l)=@Bx.rec SC (fun _=>Bx SC) (fun f=>@Bx.rec SC (fun _=>Bx SC) (fun g=>.mk fun E t H k=>f E t H (fun t' H'=>g E t' H' k)) (FG own n l)) (D7 own n o):=rfl;rw[h,hf,hg];exact⟨_,rfl,fun E t H k=>by simp only[wU,AA];rfl⟩
abbrev CC:=qP->T->ao->KN->(Nat->KN)->KN->Option XR
noncomputable def FH(own:List Nat)(m n:Nat)(c:IR):Bx CC:=@IR.rec (fun _=>Bx CC) (.mk fun _ t H kn _ _=>kn t H) (fun l=>@Bx.rec SC (fun _=>Bx CC) (fun f=>.mk fun E t H kn _ _=>f E t H kn) (FG own n l)) (fun l=>.mk fun E t H kn _ _=>si own E.GL E.call E.aE n l t H kn) (fun _ _ ia ib=>@Bx.rec CC (fun _=>Bx CC) (fun f=>@Bx.rec CC (fun _=>Bx CC) (fun g=>.mk fun E t H kn ke kr=>f E t H (fun t' H'=>g E t' H' kn ke kr) ke kr) ib) ia) (fun c _ _ ia ib=>@Bx.rec (qP->T->V) (fun _=>Bx CC) (fun x=>@Bx.rec CC (fun _=>Bx CC) (fun f=>@Bx.rec CC (fun _=>Bx CC) (fun g=>.mk fun E t H kn ke kr=>aN (x E t) (f E t H kn ke kr) (g E t H kn ke kr)) ib) ia) (yJ c)) (fun id _ ib=>@Bx.rec CC (fun _=>Bx CC) (fun f=>.mk fun E t H kn ke kr=>f E t H kn (fun i t' H'=>bif Nat.beq i id then kn t' H' else ke i t' H') kr) ib) (fun _ ib=>@Bx.rec CC (fun _=>Bx CC) (fun f=>.mk fun E t H _ ke kr=>tA (f E) m t H ke kr) ib) (fun id=>.mk fun _ t H _ ke _=>ke id t H) (.mk fun _ t H _ _ kr=>kr t H) c
theorem pO(own:List Nat)(m n:Nat):∀(c:IR),∃f,FH own m n c=.mk f/\∀E t H kn ke kr,f E t H kn ke kr=fL own E.GL E.call E.aE m n c t H kn ke kr
 | .skip=>⟨_,rfl,fun _ _ _ _ _ _=>rfl⟩
 | .region l=>by obtain⟨f,hf,wU⟩:=yK own n l;have h:FH own m n (.region l)=@Bx.rec SC (fun _=>Bx CC) (fun f=>.mk fun E t H kn _ _=>f E t H kn) (FG own n l):=rfl;rw[h,hf];exact⟨_,rfl,fun E t H kn ke kr=>by simp only[wU];rfl⟩
 | .draw l=>⟨_,rfl,fun _ _ _ _ _ _=>rfl⟩
 | .seq a b=>by obtain⟨f,hf,wU⟩:=pO own m n a;obtain⟨g,hg,AA⟩:=pO own m n b;have h:FH own m n (.seq a b)=@Bx.rec CC (fun _=>Bx CC) (fun f=>@Bx.rec CC (fun _=>Bx CC) (fun g=>.mk fun E t H kn ke kr=>f E t H (fun t' H'=>g E t' H' kn ke kr) ke kr) (FH own m n b)) (FH own m n a):=rfl;rw[h,hf,hg];exact⟨_,rfl,fun E t H kn ke kr=>by simp only[wU,AA];rfl⟩
 | .cond c a b=>by obtain⟨x,hx,Ca⟩:=qQ c;obtain⟨f,hf,wU⟩:=pO own m n a;obtain⟨g,hg,AA⟩:=pO own m n b;have h:FH own m n (.cond c a b)=@Bx.rec (qP->T->V) (fun _=>Bx CC) (fun x=>@Bx.rec CC (fun _=>Bx CC) (fun f=>@Bx.rec CC (fun _=>Bx CC) (fun g=>.mk fun E t H kn ke kr=>aN (x E t) (f E t H kn ke kr) (g E t H kn ke kr)) (FH own m n b)) (FH own m n a)) (yJ c):=rfl;rw[h,hx,hf,hg];exact⟨_,rfl,fun E t H kn ke kr=>by simp only[Ca,wU,AA];rfl⟩
 | .block id b=>by obtain⟨f,hf,wU⟩:=pO own m n b;have h:FH own m n (.block id b)=@Bx.rec CC (fun _=>Bx CC) (fun f=>.mk fun E t H kn ke kr=>f E t H kn (fun i t' H'=>bif Nat.beq i id then kn t' H' else ke i t' H') kr) (FH own m n b):=rfl;rw[h,hf];exact⟨_,rfl,fun E t H kn ke kr=>by simp only[wU];rfl⟩
 | .loop b=>by
  obtain⟨f,hf,wU⟩:=pO own m n b;have h:FH own m n (.loop b)=@Bx.rec CC (fun _=>Bx CC) (fun f=>.mk fun E t H _ ke kr=>tA (f E) m t H ke kr) (FH own m n b):=rfl;rw[h,hf];refine⟨_,rfl,fun E t H kn ke kr=>?_ ⟩;have e:f E=fL own E.GL E.call E.aE m n b:=funext fun t=>funext fun H=>funext fun kn=>funext fun ke=>funext fun kr=>wU E t H kn ke kr
  show tA (f E) m t H ke kr=tA (fL own E.GL E.call E.aE m n b) m t H ke kr;rw[e]
 | .exit id=>⟨_,rfl,fun _ _ _ _ _ _=>rfl⟩
 | .ret=>⟨_,rfl,fun _ _ _ _ _ _=>rfl⟩
noncomputable def AC(own:List Nat)(GL:ch)(call:bm)(aE:ba)(m n:Nat)(c:IR)(t:T)(H:ao)(kn:KN)(ke:Nat->KN)(kr:KN):Option XR:=@Bx.rec CC (fun _=>Option XR) (fun f=>f ⟨GL,call,aE⟩ t H kn ke kr) (FH own m n c)
theorem HU(own:List Nat)(GL:ch)(call:bm)(aE:ba)(m n:Nat)(c:IR):AC own GL call aE m n c=fL own GL call aE m n c:=by obtain⟨f,hf,wU⟩:=pO own m n c;funext t H kn ke kr;unfold AC;simp_all
noncomputable def KG(gZ:FuncId->List Nat)(GL:ch)(yD:FT ca)(mk:bm->bm)(yE:bm->ba)(m:Nat)(d:Nat):bm:=@Nat.rec (fun _=>bm) (fun _ _ _=>none) (fun _ ih f args H=>
 match nz yD f with
  |none=>none
  |some fn=>bif Nat.ble args.length fn.ntmps&&Nat.ble fn.ntmps iC then AC (gZ f) GL (mk ih) (yE ih) m fn.ntmps fn.body (ph 0 args .e) H (fun t H=>qO fn.res t H) (fun _ _ _=>none) (fun t H=>qO fn.res t H)else none) d
theorem D8(gZ:FuncId->List Nat)(GL:ch)(yD:FT ca)(mk:bm->bm)(yE:bm->ba)(m:Nat):∀d,KG gZ GL yD mk yE m d=FE gZ GL yD mk yE m d
 |0=>rfl
 |d+1=>by
  have ih:=D8 gZ GL yD mk yE m d;funext f args H;show(match nz yD f with
   |none=>none
   |some fn=>bif Nat.ble args.length fn.ntmps&&Nat.ble fn.ntmps iC then AC (gZ f) GL (mk (KG gZ GL yD mk yE m d)) (yE (KG gZ GL yD mk yE m d)) m fn.ntmps fn.body (ph 0 args .e) H (fun t H=>qO fn.res t H) (fun _ _ _=>none) (fun t H=>qO fn.res t H)else none)=(match nz yD f with
   |none=>none
   |some fn=>bif Nat.ble args.length fn.ntmps&&Nat.ble fn.ntmps iC then fL (gZ f) GL (mk (FE gZ GL yD mk yE m d)) (yE (FE gZ GL yD mk yE m d)) m fn.ntmps fn.body (ph 0 args .e) H (fun t H=>qO fn.res t H) (fun _ _ _=>none) (fun t H=>qO fn.res t H)else none)
  simp_all[HU]
end Fw
/-
  Operations by the quicker run, and the code behind them.
-/
namespace Fw
open Go
section
variable {P:Program}{GL:ch}
theorem WO.nA{l:List aj}{n:Nat}{tm fG:List (Nat×V)}{H:ao}{Q:St->Prop}(hw:∀s,get fG s=get tm s\/get fG s=.any)(h:WO P GL l ⟨n,fG,H⟩ Q):WO P GL l ⟨n,tm,H⟩ Q:=fun ops k h1 g w a hr=>h ops k h1 g w a (hr.nA hw)
noncomputable def xy(own:List Nat)(GL:ch)(call:bm)(aE:ba)(n:Nat)(l:List aj)(t:T)(H:ao)(k:KN):Option XR:=@Bx.rec SC (fun _=>Option XR) (fun f=>f ⟨GL,call,aE⟩ t H k) (FG own n l)
theorem vi(own:List Nat)(GL:ch)(call:bm)(aE:ba)(n:Nat)(l:List aj):xy own GL call aE n l=qN own GL call n l:=by obtain⟨f,hf,wU⟩:=yK own n l;funext t H k;unfold xy;simp_all
end
end Fw
/-
  Walks with symbolic values: branches at a truth value, runs of pieces told by a few slots, results.
-/
namespace Fw
open Go
def nn(k:Nat)(H:ao):ao:=List.replicate k none++H
section
variable {P:Program}{GL:ch}
variable {Q:Ex->St->Prop}{σ s:St}{id:Nat}{b:IR}{v:V}
theorem WC.aM{c:a_}{a d:IR}{b:Bool}(h:b=true)(ht:aZ GL σ.tm c=.d (.bool b))(h1:WC P GL a σ Q):WC P GL (.cond c a d) σ Q:=by subst h;exact WC.cond ht h1
theorem WC.aN{c:a_}{a d:IR}{b:Bool}(h:b=false)(ht:aZ GL σ.tm c=.d (.bool b))(h1:WC P GL d σ Q):WC P GL (.cond c a d) σ Q:=by subst h;exact WC.cond ht h1
def e_(id:Nat)(Q:Ex->St->Prop):Ex->St->Prop| .exit i,s=>if i=id then Q .normal s else Q (.exit i) s| .normal,s=>Q .normal s| .ret,s=>Q .ret s
theorem e_.exit(h:Q .normal s):e_ id Q (.exit id) s:=by grind[e_]
theorem e_.other{i:Nat}(hn:i≠id)(h:Q (.exit i) s):e_ id Q (.exit i) s:=by grind[e_]
theorem e_.normal(h:Q .normal s):e_ id Q .normal s:=h
theorem e_.ret(h:Q .ret s):e_ id Q .ret s:=h
theorem WC.NT(h:WC P GL b σ (e_ id Q)):WC P GL (.block id b) σ Q:=WC.block (WC.mono h fun e s hq=>by cases e<;>exact hq)
def mC(P:Program)(GL:ch)(b:IR)(Q:Ex->St->Prop):Nat->St->Prop|0,_=>False|n+1,s=>WC P GL b s (fun e s'=>match e with| .normal=>mC P GL b Q n s'|e=>Q e s')
theorem mC.step{n:Nat}(h:WC P GL b s (fun e s'=>match e with| .normal=>mC P GL b Q n s'|e=>Q e s')):mC P GL b Q (n+1) s:=h
theorem mC.wc{n:Nat}(h:mC P GL b Q n s):WC P GL (.loop b) s Q:=WC.loop (fun m s=>mC P GL b Q m s) (fun m s hm=>by
 cases m with
  |zero=>grind[mC]
  |succ m=>
   refine WC.mono hm fun e s' hq=>?_
   grind) h
def mM(rs:List iv)(v:V):Ex->St->Prop| .exit _,_=>False|_,σ=>(gH rs σ).bind (fc σ.hp)=some v
theorem mM.ret{rs:List iv}{v':V}(h:(gH rs σ).bind (fc σ.hp)=some v')(e:v'=v):mM rs v .ret σ:=by subst e;exact h
theorem mM.normal{rs:List iv}{v':V}(h:(gH rs σ).bind (fc σ.hp)=some v')(e:v'=v):mM rs v .normal σ:=by subst e;exact h
theorem PC.QN{f:FuncId}{fn:ca}{args:List V}(hf:aC P f=some fn)(Cz:ak P f=true)(hc:(Nat.ble args.length fn.ntmps&&av 0 args)=true)(h:WC P GL fn.body ⟨fn.ntmps,wP 0 args,[]⟩ (mM fn.res v)):PC P GL f args v:=by
 rw[aaD]at hc;refine PC.body hf Cz (aaN hc.1) hc.2 (WC.mono h fun e s hq=>?_ );cases e with
  |normal=>exact hq
  |exit i=>exact hq
  |ret=>exact hq
theorem qR:∀(tm:List (Nat×V)),yH (tm.map Prod.fst) (tm.map Prod.snd)=tm|[]=>rfl|(k,v)::l=>by simp[yH,qR l]
noncomputable def W5(own:List Nat)(GL:ch)(call:bm)(aE:ba)(n:Nat)(c:IR)(ks:List Nat)(tm:List (Nat×V))(H:ao):Option XR:=bif Nat.ble n iC&&sj tm then AC own GL call aE 1000 n c (Az tm) H (fun t H=>some (.tuple (ks.map (fE t)),H)) (fun _ _ _=>none) (fun _ _=>none)else none
theorem sk{own:List Nat}{call:bm}(hc:b6 P GL call){n:Nat}(hn:n<=iC){l2:List aj}{Q:St->Prop}:∀{l:List aj}{t:T}{H:ao}{k:KN}{x:XR}{tm:List (Nat×V)},lr tm t->qN own GL call n l t H k=some x->(∀aW t' H',lr aW t'->k t' H'=some x->WO P GL l2 ⟨n,aW,H'⟩ Q)->WO P GL (l++l2) ⟨n,tm,H⟩ Q
 |[],t,H,k,x,tm,hs,h,hq=>hq tm t H hs h
 |o::l,t,H,k,x,tm,hs,h,hq=>by
  have h:qM own GL call n o t H (fun t' H'=>qN own GL call n l t' H' k)=some x:=h;obtain⟨dst,op,gd,af⟩:=o;simp only[qM]at h;rcases xu hs h with⟨hg,h⟩|⟨hg,h⟩
  ·obtain⟨v,H',h1,h2⟩:=HM (n:=n) (af:=af) hc hs hg h;obtain⟨aW,t',jg,h3,h4⟩:=ui hn hs h1;exact h2 _ _ _ (h4 H) (sk hc hn jg h3 hq)
  ·obtain⟨aW,t',jg,h3,h4⟩:=ui hn hs h;exact WO.skip hg (h4 H) (sk hc hn jg h3 hq)
theorem WO.head{o:aj}{l:List aj}{Q:St->Prop}(ho:l.head?=some o)(h:WO P GL (o::l.drop 1) σ Q):WO P GL l σ Q:=by cases l<;>grind
end
end Fw
/-
  A call that looks into a few own rows of data and leaves them, in a drawn region.
-/
namespace Fw
open Go
section
variable {P:Program}{GL:ch}
theorem g_.W6{f:FuncId}{nt:List V}{H0:ao}{v:V}(S:List Nat){H:ao}(h:WF P GL f nt H0 (fun r H'=>r=v/\H'=H0))(hn:S.Nodup)(hl:H0.length=S.length)(ha:av S.length nt=true)(Vj:aB 0 H0=true)(hv:au 0 v=true)(hb:∀i,i<S.length->∃y,aF H0 i=some y/\aF H (S.getD i 0)=some y)(z_:∀i,i<S.length->S.getD i 0∈(gg S nt).flatMap bK):g_ P GL f (gg S nt) H v:=by
 refine⟨h.1,fun H1 hH1 g w vs dU hh hg=>?_ ⟩;have DC:∀i,i<S.length->∃y,aF H0 i=some y/\aF H1 (S.getD i 0)=some y:=fun i hi=>by grind
 have Ap:=@r_ S;have WZ:=@qK S g;obtain⟨tS,Vk,hG⟩:=DX hn hl hh hg (fun i hi=>by obtain⟨y,k1,k2⟩:=DC i hi;exact⟨y,y,k1,k2,fun x hs h=>RB.agree (g:=g) (n:=0) ⟨fun b hb=>by omega,fun b hb=>by omega,fun k hk=>(hs.cZ k).2 hk⟩ (fC Vj k1) h⟩);have mL:=tS.cZ;refine(h.2 (ow S g) w vs ((aT.wF tS _ _ ha).1 dU) Vk hG).mono ?_;rintro e w' ⟨x,v',HF,H',rfl,⟨rfl,rfl⟩,hx,ti,he⟩;have W7:∀i x,(ow S g).γ i=some x->HF.γ i=some x:=by
  intro i x hx;obtain⟨hd,y,hy,hr⟩:=Vk.live i x hx;obtain⟨x',je⟩:=ti.back i y hy;obtain⟨_,y',uJ,jH⟩:=ti.live i x' je;rw[hy]at uJ;simp only[aaC]at uJ;subst uJ;have hs:=he.step i hd;rw[hx,je]at hs;rw[je];cases x with
   |cells b c u=>
    rcases hs with rfl|⟨b',c',u',rfl,hu⟩
    ·rfl
    ·exfalso;cases y<;>simp only[RB]at hr jH;omega
   |nil=>grind[RB]
   |obj b=>exact aba some hs
 have QO:∀k,cZ HF w' k->cZ g w' k:=by
  rintro k ⟨h1,h2,h3⟩;rw[he.fo]at h2;refine⟨h1,fun hf=>h2 (Or.inl hf),fun b x hx hk=>?_ ⟩;by_cases tz:b∈S
  ·grind
  ·exact h2 (Or.inr ⟨b,x,tz,hx,hk⟩)
 have QP:tu 0 HF g w':=⟨fun b hb=>by omega,fun b hb=>by omega,QO⟩;have hE:cg g w g w':=by refine⟨he.os,he.tape,he.output,he.size,fun k hk=>?_,fun b hb=>hb,fun b _=>GB.step.refl _,rfl,fun k hk=>he.fp k (Or.inl hk)⟩;obtain⟨k1,k2⟩:=he.keeps k ((mL k).2 hk);grind
 refine⟨x,rfl,RV.agree QP _ _ hv hx,hE,?_⟩;refine⟨hh.cV,fun b x hx=>?_,hh.back,hh.inj,fun k hk=>⟨abr (hh.fo k hk).1 he.size,(hh.fo k hk).2⟩⟩;obtain⟨hd,y,hy,hr⟩:=hh.live b x hx;refine⟨hd,y,hy,?_⟩;by_cases tz:b∈S
 ·obtain⟨i,hi,rfl⟩:=Ap b tz;obtain⟨_,y2,KH,Ff⟩:=ti.live i x (W7 i x (by grind));obtain⟨y0,k1,k2⟩:=DC i hi;rw[hy]at k2;simp only[aaC]at k2;subst k2;rw[KH]at k1;simp only[aaC]at k1;subst k1;exact RB.agree QP (fC Vj KH) Ff
 ·exact RB.ext hE (fun k hk=>he.fp k (Or.inr ⟨b,x,tz,hx,hk⟩)) hr
end
end Fw
/-
  Drawn regions whose calls may look into own rows of data.
-/
namespace Fw
open Go
mutual
def CS:D->D->Bool| .bool a,.bool b=>a==b| .int k a,.int k' b=>Ks k k'&&aQ a b| .str a,.str b=>ai a b| .list a,.list b=>FI a b|_,_=>false
def FI:List (List D)->List (List D)->Bool|[],[]=>true|a::x,b::y=>FJ a b&&FI x y|_,_=>false
def FJ:List D->List D->Bool|[],[]=>true|a::x,b::y=>CS a b&&FJ x y|_,_=>false
end
theorem pn:∀{x y:List UInt8},ai x y=true->x=y
 |[],[],_=>rfl
 |[],_::_,h=>by simp[ai]at h
 |_::_,[],h=>by simp[ai]at h
 |a::x,b::y,h=>by
  simp only[ai]at h;cases hb:Nat.beq a.toNat b.toNat with
   |false=>grind
   |true=>rw[hb]at h;rw[pn h,acy.1 (aaM hb)]
mutual
theorem yL:∀{x y:D},CS x y=true->x=y
 | .bool a,y,h=>by cases y<;>simp[CS]at h;rw[h]
 | .int k a,y,h=>by cases y<;>simp[CS]at h;rename_i k' b;rw[vd.1 h.1];grind[nv]
 | .str a,y,h=>by cases y<;>simp[CS]at h;rw[pn h]
 | .list a,y,h=>by cases y<;>simp[CS]at h;rw[D9 h]
theorem D9:∀{x y:List (List D)},FI x y=true->x=y
 |[],[],_=>rfl
 |[],_::_,h=>by simp[FI]at h
 |_::_,[],h=>by simp[FI]at h
 |a::x,b::y,h=>by simp only[FI,aaD]at h;rw[D_ h.1,D9 h.2]
theorem D_:∀{x y:List D},FJ x y=true->x=y
 |[],[],_=>rfl
 |[],_::_,h=>by simp[FJ]at h
 |_::_,[],h=>by simp[FJ]at h
 |a::x,b::y,h=>by simp only[FJ,aaD]at h;rw[yL h.1,D_ h.2]
end
def b9:List V->List V->Bool|[],[]=>true| .d a::x,.d b::y=>CS a b&&b9 x y| .ad::x,.ad::y=>b9 x y|_,_=>false
theorem ju:∀{x y:List V},b9 x y=true->x=y
 |[],[],_=>rfl
 |[],_::_,h=>by simp[b9]at h
 | .d a::x,.d b::y,h=>by simp only[b9,aaD]at h;rw[yL h.1,ju h.2]
 | .ad::x,.ad::y,h=>by simp only[b9]at h;rw[ju h]
 |a::x,[],h=>by grind[b9]
 | .any::_,_::_,h=>by simp[b9]at h
 | .full _::_,_::_,h=>by simp[b9]at h
 | .d _::_,b::_,h=>by cases b<;>simp[b9]at h;rw[yL h.1,ju h.2]
 | .ad::_,b::_,h=>by cases b<;>simp[b9]at h;rw[ju h]
 | .ptr _ _ _::_,_::_,h=>by simp[b9]at h
 | .mW::_,_::_,h=>by simp[b9]at h
 | .bB _::_,_::_,h=>by simp[b9]at h
 | .sl _ _ _ _ _::_,_::_,h=>by simp[b9]at h
 | .map _::_,_::_,h=>by simp[b9]at h
 | .mX::_,_::_,h=>by simp[b9]at h
 | .func _ _ _::_,_::_,h=>by simp[b9]at h
 | .rL::_,_::_,h=>by simp[b9]at h
 | .iface _ _::_,_::_,h=>by simp[b9]at h
 | .bN::_,_::_,h=>by simp[b9]at h
 | .gm::_,_::_,h=>by simp[b9]at h
 | .agg _::_,_::_,h=>by simp[b9]at h
 | .tuple _::_,_::_,h=>by simp[b9]at h
 | .iter _ _::_,_::_,h=>by simp[b9]at h
def gT:ao->ao->Bool|[],[]=>true|some (.cells a)::x,some (.cells b)::y=>b9 a b&&gT x y|some .nil::x,some .nil::y=>gT x y|_,_=>false
theorem pP:∀{x y:ao},gT x y=true->x=y
 |[],[],_=>rfl
 |[],_::_,h=>by simp[gT]at h
 |a::x,[],h=>by grind[gT]
 |a::x,b::y,h=>by
  rcases a with _|a
  ·simp[gT]at h
  ·rcases b with _|b
   ·grind[gT]
   ·cases a<;>cases b<;>simp[gT]at h
    ·rw[ju h.1,pP h.2]
    ·rw[pP h]
def AD:List V->Bool|[]=>true| .d _::l=>AD l| .ad::l=>AD l|_=>false
theorem AE(S:List Nat):∀{l:List V},AD l=true->gg S l=l|[],_=>rfl|v::l,h=>by cases v<;>simp[AD]at h<;>simp[gg,dX,AE S h]
theorem Ea(n:Nat):∀{l:List V},AD l=true->av n l=true|[],_=>rfl|v::l,h=>by cases v<;>simp[AD]at h<;>simp[av,au,Ea n h]
def KI(S:List Nat):V->Option V
 | .sl b h off len sz=>
  match S.idxOf? b with
   |some i=>some (.sl i h off len sz)
   |none=>none
 | .d x=>some (.d x)
 | .ad=>some .ad
 | .agg cs=>bif AD cs then some (.agg cs)else none
 |_=>none
theorem KJ{S:List Nat}{u u0:V}(h:KI S u=some u0):dX S u0=u/\au S.length u0=true:=by
 cases u<;>simp only[KI]at h<;>try cases h
 ·exact⟨rfl,rfl⟩
 ·exact⟨rfl,rfl⟩
 ·rename_i b hh off len sz;split at h
  ·rename_i i hi;simp only[aaC]at h;subst h;obtain⟨k1,k2⟩:=pM hi;grind[dX,au,Nat.blt_eq]
  ·cases h
 ·rename_i cs;cases hc:AD cs with
   |false=>grind
   |true=>rw[hc]at h;simp only[aaJ,aaC]at h;subst h;exact⟨by simp[dX,AE S hc],by simp[au,Ea _ hc]⟩
theorem AF{S:List Nat}:∀{l l0:List V},bW (KI S) l=some l0->gg S l0=l/\av S.length l0=true
 |[],l0,h=>by simp only[bW,aaC]at h;subst h;exact⟨rfl,rfl⟩
 |u::l,l0,h=>by
  simp only[bW]at h;split at h
  ·cases h
  ·rename_i u0 hu;split at h
   ·cases h
   ·rename_i l1 hl;simp only[aaC]at h;subst h;obtain⟨k1,k2⟩:=KJ hu;obtain⟨k3,k4⟩:=AF hl;grind[gg,av]
section
variable {P:Program}{GL:ch}
def yM(aE:ba)(call:bm):kE:=fun f args H=>
 match aE f args with
  |some v=>some v
  |none=>
   bif decide ((args.flatMap bK).Nodup)then
    match bW (KI (args.flatMap bK)) args,bW (aF H) (args.flatMap bK)with
     |some nt,some bs=>
      bif aB 0 (bs.map some)then
       match call f nt (bs.map some)with
        |some (v,H0)=>bif au 0 v&&gT H0 (bs.map some)then some v else none
        |none=>none else none
     |_,_=>none
   else none
theorem CT{aE:ba}{call:bm}(hp:bH P GL aE)(hc:b6 P GL call):lW P GL (yM aE call):=by
 intro f args H v h;unfold yM at h;split at h
 ·rename_i u hu;simp only[aaC]at h;subst h;exact(hp _ _ _ hu).uY
 ·cases hn:decide ((args.flatMap bK).Nodup)with
   |false=>grind
   |true=>
    rw[hn,aaJ]at h;split at h
    ·rename_i nt bs h1 h2;cases hl:aB 0 (bs.map some)with
      |false=>grind
      |true=>
       rw[hl,aaJ]at h;split at h
       ·rename_i u H0 dz;cases he:(au 0 u&&gT H0 (bs.map some))with
         |false=>grind
         |true=>
          rw[he,aaJ,aaC]at h;subst h;rw[aaD]at he;have hH:=pP he.2;obtain⟨k1,k2⟩:=AF h1;have hlen:=cA h2;have hw:=hc _ _ _ _ _ dz;rw[hH]at hw;have:=g_.W6 (v:=u) (args.flatMap bK) (H:=H) hw (by grind) (by grind) k2 hl he.1 (fun i hi=>by
           have qy:(args.flatMap bK)[i]? =some ((args.flatMap bK).getD i 0):=by grind
           obtain⟨y,h3,h4⟩:=jm i _ h2 qy;refine⟨y,?_,h4⟩;have:∀(l:List fJ)(i:Nat)(y:fJ),l[i]? =some y->aF (l.map some) i=some y:=by
            intro l;induction l with
             |nil=>grind
             |cons a l ih=>intro i y h;cases i<;>grind[aF]
           grind) (fun i hi=>by grind)
          grind
       ·cases h
    ·cases h
end
end Fw
/-
  Drawn regions with values that hypotheses settle, and calls that summaries answer.
-/
namespace Fw
open Go
section
variable {P:Program}{GL:ch}
def Eb(own:List Nat)(GL:ch)(dc:kE)(ov:List (Nat×Bool))(sp:List (Nat×V))(n:Nat)(l:List aj)(ks:List Nat)(tm:List (Nat×V))(H:ao):Option (List V×ao×List (Bool×Bool)×ny):=match pj own GL dc ov sp H.length 0 l ⟨n,tm,H++List.replicate l.length none⟩with
 |none=>none
 |some (qs,cs,calls)=>bif dW l (qs.map (·.1))&&gx n l&&e8 (H.length+l.length) (qs.map (·.1))then(match aK (fun _=>true) 0 l (qs.map (·.1)) ⟨n,tm,H++List.replicate l.length none⟩with|⟨_,fG,H2⟩=>some (ks.map (get fG),H2,cs,calls))else none
theorem xz{tm:List (Nat×V)}(s:Nat):∀(ks:List Nat),get (yH ks (ks.map (get tm))) s=get tm s\/get (yH ks (ks.map (get tm))) s=.any
 |[]=>.inr rfl
 |k::ks=>by
  simp only[aaV,yH,aX];by_cases e:k=s
  ·grind
  ·rw[aaF e];exact xz s ks
theorem WC.HV{own:List Nat}{dc:kE}(hm:P.follows .mixedOrders=true)(hp:lW P GL dc)(ov:List (Nat×Bool))(sp:List (Nat×V)){n:Nat}{l:List aj}{tm aW:List (Nat×V)}{H H':ao}{cs:List (Bool×Bool)}{calls:ny}{Q:Ex->St->Prop}(h:Eb own GL dc ov sp n l (aW.map Prod.fst) tm H=some (aW.map Prod.snd,H',cs,calls))(qz:mB cs)(mz:pk P GL calls)(hq:Q .normal ⟨n,aW,H'⟩):WC P GL (.draw l) ⟨n,tm,H⟩ Q:=by
 unfold Eb at h;split at h
 ·cases h
 ·rename_i qs uH NN J0;cases hb:(dW l (qs.map (·.1))&&gx n l&&e8 (H.length+l.length) (qs.map (·.1)))with
   |false=>grind
   |true=>rw[hb,aaJ]at h;simp only[aaC,aaE]at h;obtain⟨h1,rfl,rfl,rfl⟩:=h;have hw:WC P GL (.draw l) ⟨n,tm,H⟩ (fun e s=>e=.normal/\s=aK (fun _=>true) 0 l (qs.map (·.1)) ⟨n,tm,H++List.replicate l.length none⟩):=WC.HN hm hp J0 hb qz mz ⟨rfl,rfl⟩;have Hd:(aK (fun _=>true) 0 l (qs.map (·.1)) ⟨n,tm,H++List.replicate l.length none⟩).n=n:=j_;generalize aK (fun _=>true) 0 l (qs.map (·.1)) ⟨n,tm,H++List.replicate l.length none⟩=σF at hw Hd h1 hq;obtain⟨n2,fG,H2⟩:=σF;simp only at Hd h1 hq;subst Hd;refine WC.post (hw.mono ?_ );rintro e s ⟨rfl,rfl⟩;refine⟨_,an.nA (fG:=aW) (fun s=>?_ ),hq⟩;rw[←qR aW,←h1];exact xz s _
end
end Fw
/-
  Runs step by step over code and what waits behind it: from one point of a function to another.
-/
namespace Fw
open Go
inductive Fr where
 |seq (b:IR)
 |block (id:Nat)
 |loop (n:Nat) (b:IR)
inductive oJ where
 |code (c:IR)
 |ops (l:List aj)
 |out (e:Ex)
section
variable {P:Program}{GL:ch}
variable {K:List Fr}{n:Nat}{tm:List (Nat×V)}{H:ao}{Q:Ex->St->Prop}{v:V}
def KQ(P:Program)(GL:ch):List Fr->(Ex->St->Prop)->Ex->St->Prop
 |[],Q=>Q
 | .seq b::K,Q=>
  fun e s=>
   match e with
    | .normal=>WC P GL b s (KQ P GL K Q)
    |e=>KQ P GL K Q e s
 | .block id::K,Q=>e_ id (KQ P GL K Q)
 | .loop n b::K,Q=>
  fun e s=>
   match e with
    | .normal=>mC P GL b (KQ P GL K Q) n s
    |e=>KQ P GL K Q e s
def CG(P:Program)(GL:ch)(cur:oJ)(K:List Fr)(n:Nat)(tm:List (Nat×V))(H:ao)(Q:Ex->St->Prop):Prop:=match cur with
 | .code c=>WC P GL c ⟨n,tm,H⟩ (KQ P GL K Q)
 | .ops l=>WO P GL l ⟨n,tm,H⟩ (fun σ=>KQ P GL K Q .normal σ)
 | .out e=>KQ P GL K Q e ⟨n,tm,H⟩
def QQ(go:oJ->List Fr->Option (oJ×List Fr))(e:Ex)(K:List Fr):Option (oJ×List Fr):=match K with
 |[]=>none
 | .seq b::K=>
  (match e with
   | .normal=>go (.code b) K
   |e=>go (.out e) K)
 | .block id::K=>
  (match e with
   | .exit i=>bif Nat.beq i id then go (.out .normal) K else go (.out (.exit i)) K
   |e=>go (.out e) K)
 | .loop j b::K=>
  (match e with
   | .normal=>
    (match j with
     |0=>none
     |j+1=>go (.code b) (.loop j b::K))
   |e=>go (.out e) K)
def jv:Nat->List Bool->oJ->List Fr->Option (oJ×List Fr)
 |0,_,cur,K=>some (cur,K)
 |N+1,bs,cur,K=>
  match cur with
   | .code .skip=>jv N bs (.out .normal) K
   | .code (.seq a b)=>jv N bs (.code a) (.seq b::K)
   | .code (.region _)=>jv N bs (.out .normal) K
   | .code (.draw _)=>jv N bs (.out .normal) K
   | .code (.cond _ a b)=>
    (match bs with
     |true::bs=>jv N bs (.code a) K
     |false::bs=>jv N bs (.code b) K
     |[]=>none)
   | .code (.block id b)=>jv N bs (.code b) (.block id::K)
   | .code (.loop b)=>jv N bs (.code b) (.loop 40 b::K)
   | .code (.exit i)=>jv N bs (.out (.exit i)) K
   | .code .ret=>none
   | .ops _=>jv N bs (.out .normal) K
   | .out e=>QQ (jv N bs) e K
noncomputable def Mm(v:V)(bs:List Bool)(a b:List Bool->Option XR):Option XR:=match v with
 | .d (.bool t)=>
  (match bs with
   |true::bs=>bif t then a bs else none
   |false::bs=>bif t then none else b bs
   |[]=>none)
 |_=>none
noncomputable def QR(go:oJ->List Fr->Option XR)(e:Ex)(K:List Fr):Option XR:=match K with
 |[]=>none
 | .seq b::K=>
  (match e with
   | .normal=>go (.code b) K
   |e=>go (.out e) K)
 | .block id::K=>
  (match e with
   | .exit i=>bif Nat.beq i id then go (.out .normal) K else go (.out (.exit i)) K
   |e=>go (.out e) K)
 | .loop j b::K=>
  (match e with
   | .normal=>
    (match j with
     |0=>none
     |j+1=>go (.code b) (.loop j b::K))
   |e=>go (.out e) K)
noncomputable def zE(own:List Nat)(GL:ch)(call:bm)(aE:ba)(n:Nat)(k:oJ->KN):Nat->List Bool->oJ->List Fr->T->ao->Option XR
 |0,_,cur,_,t,H=>k cur t H
 |N+1,bs,cur,K,t,H=>
  match cur with
   | .code .skip=>zE own GL call aE n k N bs (.out .normal) K t H
   | .code (.seq a b)=>zE own GL call aE n k N bs (.code a) (.seq b::K) t H
   | .code (.region l)=>xy own GL call aE n l t H (fun t' H'=>zE own GL call aE n k N bs (.out .normal) K t' H')
   | .code (.draw l)=>si own GL call aE n l t H (fun t' H'=>zE own GL call aE n k N bs (.out .normal) K t' H')
   | .code (.cond x a b)=>Mm (iV GL t x) bs (fun bs=>zE own GL call aE n k N bs (.code a) K t H) (fun bs=>zE own GL call aE n k N bs (.code b) K t H)
   | .code (.block id b)=>zE own GL call aE n k N bs (.code b) (.block id::K) t H
   | .code (.loop b)=>zE own GL call aE n k N bs (.code b) (.loop 40 b::K) t H
   | .code (.exit i)=>zE own GL call aE n k N bs (.out (.exit i)) K t H
   | .code .ret=>none
   | .ops l=>xy own GL call aE n l t H (fun t' H'=>zE own GL call aE n k N bs (.out .normal) K t' H')
   | .out e=>QR (fun cur K=>zE own GL call aE n k N bs cur K t H) e K
theorem HW{own:List Nat}{call:bm}{aE:ba}(hm:P.follows .mixedOrders=true)(hc:b6 P GL call)(hp:bH P GL aE){n:Nat}(hn:n<=iC){k:oJ->KN}{x:XR}{Fi:oJ}{K':List Fr}{Q:Ex->St->Prop}(hk:∀aW t' H',lr aW t'->k Fi t' H'=some x->CG P GL Fi K' n aW H' Q):∀{N:Nat}{bs:List Bool}{cur:oJ}{K:List Fr}{t:T}{H:ao}{tm:List (Nat×V)},lr tm t->jv N bs cur K=some (Fi,K')->zE own GL call aE n k N bs cur K t H=some x->CG P GL cur K n tm H Q
 |0,bs,cur,K,t,H,tm,hs,h1,h2=>by simp only[jv,aaC,aaE]at h1;obtain⟨rfl,rfl⟩:=h1;exact hk tm t H hs h2
 |N+1,bs,cur,K,t,H,tm,hs,h1,h2=>by
  have ih:=fun{bs cur K t H tm}=>@HW own call aE hm hc hp n hn k x Fi K' Q hk N bs cur K t H tm
  cases cur with
   |code c=>
    cases c with
     |skip=>exact WC.skip (ih hs h1 h2)
     |seq a b=>have:=ih hs (show jv N bs (.code a) (.seq b::K)=_ from h1) h2;exact WC.seq (WC.mono this fun e s hq=>by cases e<;>exact hq)
     |region l=>simp only[zE]at h2;rw[vi]at h2;obtain⟨aW,t',H',jg,hw,lC⟩:=kV hc hn hs h2;refine WC.region (hw.mono ?_ );rintro s rfl;exact ih jg (show jv N bs (.out .normal) K=_ from h1) lC
     |draw l=>simp only[zE]at h2;obtain⟨aW,t',H',jg,hw,lC⟩:=xw hm hc hp hn hs h2;refine WC.mono hw ?_;rintro e s ⟨rfl,rfl⟩;exact ih jg (show jv N bs (.out .normal) K=_ from h1) lC
     |cond c a b=>
      simp only[zE]at h2;simp only[jv]at h1;rw[qL hs]at h2;unfold Mm at h2;split at h2
      ·rename_i tb htb;cases bs with
        |nil=>cases h2
        |cons b0 bs=>
         cases b0 with
          |true=>
           cases tb with
            |true=>exact WC.cond (t:=true) htb (ih hs h1 h2)
            |false=>cases h2
          |false=>
           cases tb with
            |true=>cases h2
            |false=>exact WC.cond (t:=false) htb (ih hs h1 h2)
      ·cases h2
     |block id b=>exact WC.NT (ih hs (show jv N bs (.code b) (.block id::K)=_ from h1) h2)
     |loop b=>have:=ih hs (show jv N bs (.code b) (.loop 40 b::K)=_ from h1) h2;exact mC.wc (n:=41) (mC.step (WC.mono this fun e s hq=>by cases e<;>exact hq))
     |exit i=>exact WC.exit (ih hs (show jv N bs (.out (.exit i)) K=_ from h1) h2)
     |ret=>cases h1
   |ops l=>simp only[zE]at h2;rw[vi]at h2;obtain⟨aW,t',H',jg,hw,lC⟩:=kV hc hn hs h2;refine hw.mono ?_;rintro s rfl;exact ih jg (show jv N bs (.out .normal) K=_ from h1) lC
   |out e=>
    simp only[jv]at h1;simp only[zE]at h2;unfold QQ at h1;unfold QR at h2;cases K with
     |nil=>cases h1
     |cons f K=>
      cases f with
       |seq b=>
        cases e with
         |normal=>exact ih (cur:=.code b) (K:=K) hs h1 h2
         |exit i=>exact ih (cur:=.out (.exit i)) (K:=K) hs h1 h2
         |ret=>exact ih (cur:=.out .ret) (K:=K) hs h1 h2
       |block id=>
        cases e with
         |normal=>exact ih (cur:=.out .normal) (K:=K) hs h1 h2
         |ret=>exact ih (cur:=.out .ret) (K:=K) hs h1 h2
         |exit i=>
          simp only at h1 h2;show e_ id (KQ P GL K Q) (.exit i) _;cases hb:Nat.beq i id with
           |true=>rw[hb]at h1 h2;have:i=id:=aaM hb;subst this;exact e_.exit (ih (cur:=.out .normal) (K:=K) hs h1 h2)
           |false=>
            rw[hb]at h1 h2;have fq:i≠id:=fun e=>by simp_all
            exact e_.other fq (ih (cur:=.out (.exit i)) (K:=K) hs h1 h2)
       |loop j b=>
        cases e with
         |normal=>
          cases j with
           |zero=>cases h1
           |succ j=>have:=ih (cur:=.code b) (K:=.loop j b::K) hs h1 h2;exact mC.step (WC.mono this fun e s hq=>by cases e<;>exact hq)
         |ret=>exact ih (cur:=.out .ret) (K:=K) hs h1 h2
         |exit i=>exact ih (cur:=.out (.exit i)) (K:=K) hs h1 h2
def xA:oJ->List aj| .code (.region l)=>l| .ops l=>l|_=>[]
def KK(j:Nat)(c:oJ):oJ:=match j with
 |0=>c
 |_=>.ops ((xA c).drop j)
def HX:oJ->Bool| .code (.region _)=>true| .ops _=>true|_=>false
def Ec:oJ->Bool| .out _=>true|_=>false
def eD(N j:Nat)(bs:List Bool)(cur:oJ)(K:List Fr):Option (oJ×List Fr):=match jv N bs cur K with
 |some (c,K')=>bif (Nat.beq j 0&& !Ec c)||(!Nat.beq j 0&&HX c)then some (KK j c,K')else none
 |none=>none
noncomputable def CU(own:List Nat)(GL:ch)(call:bm)(aE:ba)(n:Nat)(N j:Nat)(bs:List Bool)(cur:oJ)(K:List Fr)(ks:List Nat)(tm:List (Nat×V))(H:ao):Option XR:=bif Nat.ble n iC&&sj tm then
 zE own GL call aE n (fun c t H=>
  match j with
   |0=>some (.tuple (ks.map (fE t)),H)
   |j+1=>xy own GL call aE n ((xA c).take (j+1)) t H (fun t H=>some (.tuple (ks.map (fE t)),H))) N bs cur K (Az tm) H else none
theorem CG.nA{cur:oJ}(hc:Ec cur=false){fG:List (Nat×V)}(hw:∀s,get fG s=get tm s\/get fG s=.any)(h:CG P GL cur K n fG H Q):CG P GL cur K n tm H Q:=by
 cases cur with
  |code c=>exact WC.nA hw h
  |ops l=>exact WO.nA hw h
  |out e=>cases hc
theorem CG.st{own:List Nat}{call:bm}{aE:ba}(hm:P.follows .mixedOrders=true)(hc:b6 P GL call)(hp:bH P GL aE)(N j:Nat)(bs:List Bool){cur c':oJ}{K':List Fr}{aW:List (Nat×V)}{H':ao}(h1:eD N j bs cur K=some (c',K'))(h2:CU own GL call aE n N j bs cur K (aW.map Prod.fst) tm H=some (.tuple (aW.map Prod.snd),H'))(hq:CG P GL c' K' n aW H' Q):CG P GL cur K n tm H Q:=by
 unfold eD at h1;split at h1
 ·rename_i c K2 W8;cases hb:(Nat.beq j 0&& !Ec c)||(!Nat.beq j 0&&HX c)with
   |false=>grind
   |true=>
    rw[hb]at h1;simp only[aaJ,aaC,aaE]at h1;obtain⟨rfl,rfl⟩:=h1;unfold CU at h2;cases hk:(Nat.ble n iC&&sj tm)with
     |false=>grind
     |true=>
      rw[hk,aaJ]at h2;rw[aaD]at hk;have hn:=aaN hk.1;refine HW hm hc hp hn (Fi:=c) (K':=K2) (fun fG t2 H2 hs tP=>?_ ) (lr.tree hk.2) W8 h2;cases j with
       |zero=>simp only[aaC,aaE,V.tuple.injEq]at tP;obtain⟨e1,rfl⟩:=tP;simp only[aa4,abd,abF,abX,Bool.or_false,aa5]at hb;refine CG.nA hb (fun s=>?_ ) hq;rw[hs s,←qR aW,←e1];exact vg s _
       |succ j=>
        have hj:Nat.beq (j+1) 0=false:=rfl;rw[hj]at hb;simp only[abX,ab7,abd,acP]at hb;have tP:xy own GL call aE n ((xA c).take (j+1)) t2 H2 (fun t H=>some (.tuple ((aW.map Prod.fst).map (fE t)),H))=_:=tP;rw[vi]at tP;have hq:CG P GL (.ops ((xA c).drop (j+1))) K2 n aW H' Q:=hq;have QS:WO P GL (xA c) ⟨n,fG,H2⟩ (fun σ=>KQ P GL K2 Q .normal σ):=by rw[←acJ (j+1) (xA c)];refine sk hc hn hs tP (fun tm3 t3 H3 hs3 hk3=>?_ );simp only[aaC,aaE,V.tuple.injEq]at hk3;obtain⟨e1,rfl⟩:=hk3;refine WO.nA (fG:=aW) (fun s=>?_ ) hq;rw[hs3 s,←qR aW,←e1];exact vg s _
        cases c with
         |code c=>
          cases c with
           |region l=>exact WC.region QS
           |_=>grind[HX]
         |ops l=>exact QS
         |out e=>cases hb
 ·cases h1
theorem CG.start{f:FuncId}{fn:ca}{args:List V}(hf:aC P f=some fn)(Cz:ak P f=true)(hc:(Nat.ble args.length fn.ntmps&&av 0 args)=true)(h:CG P GL (.code fn.body) [] fn.ntmps (wP 0 args) [] (mM fn.res v)):PC P GL f args v:=PC.QN hf Cz hc h
theorem KQ.ret:∀{K:List Fr}{Q:Ex->St->Prop}{σ:St},Q .ret σ->KQ P GL K Q .ret σ|[],_,_,h=>h| .seq _::K,_,_,h=>KQ.ret (K:=K) h| .block _::K,_,_,h=>KQ.ret (K:=K) h| .loop _ _::K,_,_,h=>KQ.ret (K:=K) h
theorem CG.ret{rs:List iv}{v':V}(h:(gH rs ⟨n,tm,H⟩).bind (fc H)=some v')(e:v'=v):CG P GL (.code .ret) K n tm H (mM rs v):=WC.ret (KQ.ret (mM.ret h e))
theorem CG.rt{rs:List iv}(v':V)(e:v'=v)(h:(gH rs ⟨n,tm,H⟩).bind (fc H)=some v':=by kernel_rfl):CG P GL (.code .ret) K n tm H (mM rs v):=CG.ret h e
theorem CG.aM{c:a_}{a d:IR}{b:Bool}(h:b=true)(ht:aZ GL tm c=.d (.bool b))(h1:CG P GL (.code a) K n tm H Q):CG P GL (.code (.cond c a d)) K n tm H Q:=WC.aM h ht h1
theorem CG.aN{c:a_}{a d:IR}{b:Bool}(h:b=false)(ht:aZ GL tm c=.d (.bool b))(h1:CG P GL (.code d) K n tm H Q):CG P GL (.code (.cond c a d)) K n tm H Q:=WC.aN h ht h1
theorem CG.xq{l:List aj}(h:CG P GL (.ops l) K n tm H Q):CG P GL (.code (.region l)) K n tm H Q:=WC.region h
theorem CG.HV{own:List Nat}{dc:kE}(hm:P.follows .mixedOrders=true)(hp:lW P GL dc)(ov:List (Nat×Bool))(sp:List (Nat×V)){l:List aj}{aW:List (Nat×V)}{H':ao}{cs:List (Bool×Bool)}{calls:ny}(h:Eb own GL dc ov sp n l (aW.map Prod.fst) tm H=some (aW.map Prod.snd,H',cs,calls))(qz:mB cs)(mz:pk P GL calls)(hq:CG P GL (.out .normal) K n aW H' Q):CG P GL (.code (.draw l)) K n tm H Q:=WC.HV hm hp ov sp h qz mz hq
end
end Fw
