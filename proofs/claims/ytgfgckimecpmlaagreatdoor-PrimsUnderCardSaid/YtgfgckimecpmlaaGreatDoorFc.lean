/-
  Code of the abstract machine: what holds of every code that is compiled to it, in every world that fits the state.
-/
import Derived.Test.YtgfgckimecpmlaaGreatDoorFb
set_option linter.unusedSimpArgs false
set_option maxHeartbeats 1000000
set_option linter.unusedVariables false
namespace Fw
open Go
inductive Ex where
 |normal
 |exit (id:Nat)
 |ret
def cA(GL:cj)(g0:G)(w0:World)(Q:Ex→St→Prop)(e:Exit)(a:Act)(w:World):Prop:=∃g σ,R GL g w a σ∧cr g0 w0 g w∧match e with
 | .normal=>Q .normal σ
 | .exit id=>Q (.exit id) σ
 | .ret=>Q .ret σ
 |_=>False
def WC(P:Program)(GL:cj)(c:IR)(σ:St)(Q:Ex→St→Prop):Prop:=∀code,aJ P code=some c→∀g w a,R GL g w a σ→code.wp P (cA GL g w Q) a w
def ao(P:Program)(f:FuncId):Bool:=match P.funcs[f]? with
 |some fn=>fn.body.isSome&& !(fn.name== "runtime.NumGoroutine")
 |none=>false
def WF(P:Program)(GL:cj)(f:FuncId)(args:List V)(H:ai)(Q:V→ai→Prop):Prop:=ao P f=true∧∀g w (vs:Array Value),aV g w args vs.toList→az g w H→gn GL g w→Calls P f vs w fun e w'=>∃x v g' H',e=.returned x∧Q v H'∧RV g' w' v x∧az g' w' H'∧cr g w g' w'
def WO(P:Program)(GL:cj)(l:List ad)(σ:St)(Q:St→Prop):Prop:=∀(ops:Array Oper)(k:Nat),i_ P ops.toList false (ops.toList.drop k)=some l→∀g w a,R GL g w a σ→wpOps P ops (cA GL g w fun e aS=>match e with| .normal=>Q aS|_=>False) (List.range' k (ops.size - k)) a w
theorem cA.ext{GL:cj}{g g':G}{w w':World}{Q:Ex→St→Prop}(h:cr g w g' w')(e:Exit)(a:Act)(v:World)(hp:cA GL g' w' Q e a v):cA GL g w Q e a v:=by obtain⟨g2,σ,h1,h2,h3⟩:=hp;exact⟨g2,σ,h1,h.trans h2,h3⟩
theorem cA.mono{GL:cj}{g:G}{w:World}{Q Q':Ex→St→Prop}(h:∀e σ,Q e σ→Q' e σ)(e:Exit)(a:Act)(v:World)(hp:cA GL g w Q e a v):cA GL g w Q' e a v:=by obtain⟨g2,σ,h1,h2,h3⟩:=hp;refine⟨g2,σ,h1,h2,?_⟩;cases e<;>first|exact h _ _ h3|exact h3
section
variable {P:Program}{GL:cj}
theorem Bg{o:Oper}{a:Act}{K:Act→World→Prop}{Q Q':Exit→Act→World→Prop}(h:∀e a w,Q e a w→Q' e a w){r:Result Next}(hh:o.upon P a K Q r):o.upon P a K Q' r:=by
 cases r with
  |ok n w'=>
   cases n<;>simp only[Oper.upon]at hh⊢ <;>first
    |exact hh
    |exact Calls.mono hh (fun e VY he=>by
     cases e with
      |returned v=>exact he
      |panicked c=>exact h _ _ _ he
      |outgrown=>obtain⟨a0,w0,hq⟩:=he;exact⟨a0,w0,h _ _ _ hq⟩)
  |halt x w'=>cases x<;>simp only[Oper.upon]at hh⊢ <;>exact h _ _ _ hh
theorem cW{ops:Array Oper}{Q Q':Exit→Act→World→Prop}(h:∀e a w,Q e a w→Q' e a w):∀(l:List Nat)(a:Act)(w:World),wpOps P ops Q l a w→wpOps P ops Q' l a w
 |[],a,w,hh=>h _ _ _ hh
 |i::A',a,w,hh=>by
  simp only[wpOps]at hh⊢;split
  ·rename_i hn;simp only[hn]at hh;exact cW h A' a w hh
  ·rename_i o ho;simp only[ho]at hh;split
   ·rename_i hw;simp only[hw,abv]at hh;rcases hh with hh|⟨h1,a0,w0,h2⟩
    ·exact .inl (Oper.wp_mono (fun a w=>cW h A' a w) (Bg h hh))
    ·exact .inr ⟨h1,a0,w0,h _ _ _ h2⟩
   ·rename_i hw;simp only[hw]at hh;exact cW h A' _ w hh
theorem WC.mono{c:IR}{σ:St}{Q Q':Ex→St→Prop}(h:WC P GL c σ Q)(hq:∀e σ,Q e σ→Q' e σ):WC P GL c σ Q':=fun code hc g w a hr=>wp_mono (h code hc g w a hr) (fun e a' w' hp=>cA.mono hq e a' w' hp)
theorem WF.mono{f:FuncId}{args:List V}{H:ai}{Q Q':V→ai→Prop}(h:WF P GL f args H Q)(hq:∀v H',Q v H'→Q' v H'):WF P GL f args H Q':=⟨h.1,fun g w vs h1 h2 h3=>(h.2 g w vs h1 h2 h3).mono fun _ _ ⟨x,v,g',H',e1,e2,e3⟩=>⟨x,v,g',H',e1,hq _ _ e2,e3⟩⟩
theorem WC.skip{σ:St}{Q:Ex→St→Prop}(h:Q .normal σ):WC P GL .skip σ Q:=by
 intro code hc g w a hr;have:code=.skip:=by
  cases code<;>simp[aJ]at hc
  ·rfl
  ·split at hc<;>simp at hc;split at hc<;>simp at hc
  ·split at hc<;>simp at hc
  ·split at hc<;>simp at hc
 subst this;exact wp_skip ⟨g,σ,hr,cr.refl _ _,h⟩
theorem Hh{code:Code}{a b:IR}(hc:aJ P code=some (.seq a b)):∃x y,code=.seq x y∧aJ P x=some a∧aJ P y=some b:=by
 cases code with
  |seq x y=>
   simp only[aJ]at hc;split at hc
   ·rename_i a' b' h1 h2;simp only[aaC,IR.seq.injEq]at hc;obtain⟨rfl,rfl⟩:=hc;exact⟨x,y,rfl,h1,h2⟩
   ·cases hc
  |region=>simp only[aJ]at hc;split at hc<;>simp at hc;split at hc<;>simp at hc
  |cond=>simp only[aJ]at hc;split at hc<;>simp at hc
  |_=>simp[aJ]at hc
theorem WC.seq{a b:IR}{σ:St}{Q:Ex→St→Prop}(h:WC P GL a σ (fun e aS=>match e with| .normal=>WC P GL b aS Q|e=>Q e aS)):WC P GL (.seq a b) σ Q:=by
 intro code hc g w sB hr;obtain⟨x,y,rfl,hx,hy⟩:=Hh hc;refine wp_seq (wp_mono (h x hx g w sB hr) fun e a' w' hp=>?_ );obtain⟨g2,tj,h1,h2,h3⟩:=hp;cases e with
  |normal=>exact wp_mono (h3 y hy g2 w' a' h1) (cA.ext h2)
  |exit id=>exact⟨g2,tj,h1,h2,h3⟩
  |ret=>exact⟨g2,tj,h1,h2,h3⟩
  |goto l=>exact h3.elim
  |panic c=>exact h3.elim
  |outgrown=>exact h3.elim
theorem EA{code:Code}{c:ba}{a b:IR}(hc:aJ P code=some (.cond c a b)):∃o x y,code=.cond o x y∧av o=some c∧aJ P x=some a∧aJ P y=some b:=by
 cases code with
  |cond o x y=>
   simp only[aJ]at hc;split at hc
   ·rename_i c' a' b' h0 h1 h2;simp only[aaC,IR.cond.injEq]at hc;obtain⟨rfl,rfl,rfl⟩:=hc;exact⟨o,x,y,rfl,h0,h1,h2⟩
   ·cases hc
  |region=>simp only[aJ]at hc;split at hc<;>simp at hc;split at hc<;>simp at hc
  |seq=>simp only[aJ]at hc;split at hc<;>simp at hc
  |_=>simp[aJ]at hc
theorem WC.cond{c:ba}{a b:IR}{σ:St}{t:Bool}{Q:Ex→St→Prop}(ht:aX GL σ.tm c=.d (.bool t))(h:WC P GL (bif t then a else b) σ Q):WC P GL (.cond c a b) σ Q:=by
 intro code hc g w sB hr;obtain⟨o,x,y,rfl,ho,hx,hy⟩:=EA hc;have hv:=hr.ev _ _ ho;rw[ht]at hv;cases t with
  |true=>exact wp_cond (RV.bool hv) (h x hx g w sB hr)
  |false=>exact wp_cond (RV.bool hv) (h y hy g w sB hr)
theorem Bh{code:Code}{id:Nat}{b:IR}(hc:aJ P code=some (.block id b)):∃x,code=.block id x∧aJ P x=some b:=by
 cases code with
  |block i x=>simp only[aJ,aaE,IR.block.injEq]at hc;obtain⟨b',h,rfl,rfl⟩:=hc;exact⟨x,rfl,h⟩
  |region=>simp only[aJ]at hc;split at hc<;>simp at hc;split at hc<;>simp at hc
  |seq=>simp only[aJ]at hc;split at hc<;>simp at hc
  |cond=>simp only[aJ]at hc;split at hc<;>simp at hc
  |_=>simp[aJ]at hc
theorem WC.block{id:Nat}{b:IR}{σ:St}{Q:Ex→St→Prop}(h:WC P GL b σ (fun e aS=>match e with| .exit i=>if i=id then Q .normal aS else Q (.exit i) aS|e=>Q e aS)):WC P GL (.block id b) σ Q:=by
 intro code hc g w sB hr;obtain⟨x,rfl,hx⟩:=Bh hc;refine wp_block (wp_mono (h x hx g w sB hr) fun e a' w' hp=>?_ );obtain⟨g2,tj,h1,h2,h3⟩:=hp;cases e with
  |normal=>exact⟨g2,tj,h1,h2,h3⟩
  |exit i=>
   simp only[Exit.inBlock];by_cases hi:i=id
   ·simp only[hi,abv]at h3⊢;exact⟨g2,tj,h1,h2,h3⟩
   ·simp only[hi,abT]at h3⊢;exact⟨g2,tj,h1,h2,h3⟩
  |ret=>exact⟨g2,tj,h1,h2,h3⟩
  |goto l=>exact h3.elim
  |panic c=>exact h3.elim
  |outgrown=>exact h3.elim
theorem WC.exit{id:Nat}{σ:St}{Q:Ex→St→Prop}(h:Q (.exit id) σ):WC P GL (.exit id) σ Q:=by
 intro code hc g w sB hr;cases code with
  |exit i=>simp only[aJ,aaC,IR.exit.injEq]at hc;subst hc;exact wp_exit ⟨g,σ,hr,cr.refl _ _,h⟩
  |region=>simp only[aJ]at hc;split at hc<;>simp at hc;split at hc<;>simp at hc
  |seq=>simp only[aJ]at hc;split at hc<;>simp at hc
  |cond=>simp only[aJ]at hc;split at hc<;>simp at hc
  |_=>simp[aJ]at hc
theorem WC.ret{σ:St}{Q:Ex→St→Prop}(h:Q .ret σ):WC P GL .ret σ Q:=by
 intro code hc g w sB hr;cases code with
  |ret=>exact wp_ret ⟨g,σ,hr,cr.refl _ _,h⟩
  |region=>simp only[aJ]at hc;split at hc<;>simp at hc;split at hc<;>simp at hc
  |seq=>simp only[aJ]at hc;split at hc<;>simp at hc
  |cond=>simp only[aJ]at hc;split at hc<;>simp at hc
  |_=>simp[aJ]at hc
theorem EB{code:Code}{b:IR}(hc:aJ P code=some (.loop b)):∃x,code=.loop x∧aJ P x=some b:=by
 cases code with
  |loop x=>simp only[aJ,aaE,IR.loop.injEq]at hc;obtain⟨b',h,rfl⟩:=hc;exact⟨x,rfl,h⟩
  |region=>simp only[aJ]at hc;split at hc<;>simp at hc;split at hc<;>simp at hc
  |seq=>simp only[aJ]at hc;split at hc<;>simp at hc
  |cond=>simp only[aJ]at hc;split at hc<;>simp at hc
  |_=>simp[aJ]at hc
theorem vv{p:Nat→Prop}(h:∃n,p n):∃n,p n∧∀m,p m→n≤m:=by
 obtain⟨n,hn⟩:=h;induction n using Nat.strongRecOn with
  |_ n ih=>
   by_cases hm:∃m,m<n∧p m
   ·obtain⟨m,h1,h2⟩:=hm;exact ih m h1 h2
   ·exact⟨n,hn,fun m hp=>by
     rcases abm m n with hl|hl
     ·exact absurd ⟨m,hl,hp⟩ hm
     ·exact hl⟩
open Classical in
noncomputable def leastOf(p:Nat→Prop):Nat:=if h:∃n,p n then choose (vv h)else 0
theorem leastOf_spec{p:Nat→Prop}(h:∃n,p n):p (leastOf p)∧∀m,p m→leastOf p≤m:=by unfold leastOf;rw[dif_pos h];exact adk (vv h)
theorem WC.loop{b:IR}{Q:Ex→St→Prop}(I:Nat→St→Prop)(h:∀n σ,I n σ→WC P GL b σ (fun e aS=>match e with| .normal=>∃m,m<n∧I m aS|e=>Q e aS)){n:Nat}{σ:St}(h0:I n σ):WC P GL (.loop b) σ Q:=by
 intro code hc g w sB hr;obtain⟨x,rfl,hx⟩:=EB hc;let J:Act→World→Nat→Prop:=fun a' w' n=>∃g' aS,I n aS∧R GL g' w' a' aS∧cr g w g' w'
 refine wp_loop (fun a' w'=>∃n,J a' w' n) (fun a' w'=>leastOf (J a' w')) ⟨n,g,σ,h0,hr,cr.refl _ _⟩ ?_;intro a' w' hJ;obtain⟨⟨g1,vw,i1,r1,e1⟩,yS⟩:=leastOf_spec hJ;refine wp_mono (h _ vw i1 x hx g1 w' a' r1) fun e a2 w2 hp=>?_
 obtain⟨g2,tj,r2,e2,h3⟩:=hp;cases e with
  |normal=>obtain⟨m,hm,im⟩:=h3;have Wu:∃n,J a2 w2 n:=⟨m,g2,tj,im,r2,e1.trans e2⟩;exact⟨Wu,Nat.lt_of_le_of_lt ((leastOf_spec Wu).2 m ⟨g2,tj,im,r2,e1.trans e2⟩) hm⟩
  |exit i=>exact⟨g2,tj,r2,e1.trans e2,h3⟩
  |ret=>exact⟨g2,tj,r2,e1.trans e2,h3⟩
  |goto l=>exact h3.elim
  |panic c=>exact h3.elim
  |outgrown=>exact h3.elim
def St.put(σ:St)(dst:Option Nat)(v:V)(H:ai):Option St:=match dst with
 |none=>some ⟨σ.n,σ.tm,H⟩
 |some d=>bif Nat.blt d σ.n then some ⟨σ.n,Fw.put σ.tm d v,H⟩else none
def ar(gd:Option (Nat×Bool))(tm:List (Nat×V)):Option Bool:=match gd with
 |none=>some true
 |some (d,nL)=>
  match get tm d with
   | .d (.bool b)=>some (b==nL)
   | .tuple []=>some false
   |_=>none
theorem R.gv{g g':G}{w w':World}{a:Act}{σ aS:St}{H':ai}{dst:Option Nat}{v:V}{x:Value}(h:R GL g w a σ)(e:cr g w g' w')(hh:az g' w' H')(hp:σ.put dst v H'=some aS)(hv:RV g' w' v x):R GL g' w' (a.put dst x) aS:=by
 cases dst with
  |none=>simp only[St.put,aaC]at hp;subst hp;exact h.GU e hh x
  |some d=>
   simp only[St.put]at hp;cases hb:Nat.blt d σ.n with
    |false=>rw[hb]at hp;cases hp
    |true=>rw[hb]at hp;simp only[aaH,aaC]at hp;subst hp;exact h.put e hh d v x (by rwa[aaT]at hb) hv
theorem dk{ops:Array Oper}{o:Oper}{gd:Option (Nat×Bool)}{g:G}{w:World}{a:Act}{σ:St}{b:Bool}(h:R GL g w a σ)(hg:fR ops.toList o=some gd)(hb:ar gd σ.tm=some b):Region.wanted o (yielded ops a.tmps)=b:=by
 unfold fR at hg;unfold Region.wanted;cases ho:o.guard with
  |none=>simp only[ho,aaC]at hg;subst hg;simp only[ar,aaC]at hb;exact hb
  |some p=>
   obtain⟨j,nL⟩:=p;simp only[ho]at hg;split at hg
   ·rename_i d hd;simp only[aaC]at hg;subst hg;simp only[ar]at hb;split at hb
    ·rename_i t ht;simp only[aaC]at hb;have hv:=h.tmps d;rw[ht]at hv;have hv:=RV.bool hv;have:yielded ops a.tmps j=some t:=by
      unfold yielded;have e:ops[j]? =ops.toList[j]? :=by simp
      rw[e,hd];simp only[Option.bind_some];rw[aaJ]at hv;cases hq:a.tmps[d]? with
       |none=>rw[hq]at hv;simp[undef]at hv
       |some z=>rw[hq]at hv;simp at hv;subst hv;rfl
     simp only[this];rw[←hb];cases t<;>cases nL<;>rfl
    ·rename_i ht;simp only[aaC]at hb;have hv:=h.tmps d;rw[ht]at hv;simp only[RV]at hv;obtain⟨x,hx,Eh⟩:=hv;have:yielded ops a.tmps j=none:=by
      unfold yielded;have e:ops[j]? =ops.toList[j]? :=by simp
      rw[e,hd];simp only[Option.bind_some];rw[aaJ]at hx;cases hq:a.tmps[d]? with
       |none=>rfl
       |some z=>rw[hq]at hx;simp at hx;subst hx;rfl
     simp only[this];rw[←hb];rfl
    ·cases hb
   ·cases hg
theorem WO.nil{σ:St}{Q:St→Prop}(h:Q σ):WO P GL [] σ Q:=by
 intro ops k hc g w a hr;have hk:ops.size - k=0:=by have:=cV hc;simp at this;exact this
 rw[hk];exact⟨g,σ,hr,cr.refl _ _,h⟩
theorem WO.step{o:ad}{l:List ad}{σ:St}{Q:St→Prop}(h:∀(o':Oper)(ops:Array Oper),(bD P o'.op).getD .bad=o.op→fR ops.toList o'=some o.guard→o'.dst=o.dst→∀g w a,R GL g w a σ→∀(K:Act→World→Prop)(Q':Exit→Act→World→Prop),(∀g' w' a' aS,R GL g' w' a' aS→cr g w g' w'→WO P GL l aS Q→K a' w')→if Region.wanted o' (yielded ops a.tmps)then o'.wp P a w K Q' else K (a.put o'.dst undef) w):WO P GL (o::l) σ Q:=by
 intro ops k hc g w a hr;have hl:=cV hc;simp at hl;have hk:k<ops.size:=by omega
 have Re:ops.toList.drop k=ops[k]::ops.toList.drop (k+1):=by rw[abz (by simpa using hk)];simp
 rw[Re]at hc;simp only[i_,bK]at hc;split at hc
 ·cases hc
 ·rename_i io Ke;split at hc
  ·cases hc
  ·rename_i l' GG;simp only[aaC,acD]at hc;obtain⟨rfl,rfl⟩:=hc;simp only[fC]at Ke;split at Ke
   ·rename_i gd lz;have eH:(bD P ops[k].op).getD .bad=(bD P ops[k].op).getD .bad:=rfl;simp only[aaC]at Ke;subst Ke;rw[show ops.size - k=(ops.size - (k+1))+1 by omega,List.range'_succ,wpOps_cons];unfold wpOp;have eF:ops[k]? =some ops[k]:=Array.getElem?_eq_getElem hk;simp only[eF];have key:=h ops[k] ops eH lz rfl g w a hr (wpOps P ops (cA GL g w fun e aS=>match e with| .normal=>Q aS|_=>False) (List.range' (k+1) (ops.size - (k+1)))) (cA GL g w fun e aS=>match e with| .normal=>Q aS|_=>False) (by
     intro g' w' a' aS vz he KF;have:=KF ops (k+1) GG g' w' a' vz;have Rf:∀(l:List Nat)(a:Act)(v:World),wpOps P ops (cA GL g' w' fun e aS=>match e with| .normal=>Q aS|_=>False) l a v→wpOps P ops (cA GL g w fun e aS=>match e with| .normal=>Q aS|_=>False) l a v:=by intro l a v hw;exact cW (cA.ext he) l a v hw
     exact Rf _ _ _ this)
    split
    ·rename_i hw;simp only[hw,abv]at key;exact .inl key
    ·rename_i hw;simp only[hw]at key;exact key
   ·cases Ke
end
end Fw
/-
  Operations in a row: one that calls nothing, one that is passed over, calls; regions; a function from its body.
-/
namespace Fw
open Go
section
variable {P:Program}{GL:cj}
theorem WO.bw{o:ad}{l:List ad}{σ aS:St}{Q:St→Prop}{v:V}{wr:Wr}(hg:ar o.guard σ.tm=some true)(he:bw (aX GL σ.tm) σ.hp σ.hp.length o.op=some (v,wr))(hp:σ.put o.dst v (aZ σ.hp wr)=some aS)(h:WO P GL l aS Q):WO P GL (o::l) σ Q:=by
 refine WO.step fun o' ops eH lz dY g w a hr K Q' hK=>?_
 rw[dk hr lz hg,aaP rfl];obtain⟨g',w',nx,h1,h2,h3,h4,_⟩:=tg (P:=P) (a:=a) (o:=o') (eR eH (fun e=>by rw[e]at he;cases he)) he hr.ev hr.heap hr.heap.fresh;unfold Oper.wp;rw[h1];rcases h2 with⟨x,rfl,hx⟩|⟨rfl,rfl⟩
 ·simp only[Oper.upon];rw[dY];exact hK g' w' _ aS (hr.gv h4 h3 hp hx) h4 h
 ·simp only[Oper.upon];rw[dY];exact hK g' w' _ aS (hr.gv h4 h3 hp (by simp only[RV])) h4 h
theorem WO.skip{o:ad}{l:List ad}{σ aS:St}{Q:St→Prop}(hg:ar o.guard σ.tm=some false)(hp:σ.put o.dst (.tuple []) σ.hp=some aS)(h:WO P GL l aS Q):WO P GL (o::l) σ Q:=by
 refine WO.step fun o' ops eH lz dY g w a hr K Q' hK=>?_
 rw[dk hr lz hg,aaL (by simp),dY];exact hK g w _ aS (hr.gv (cr.refl _ _) hr.heap hp (by simp only[RV];exact⟨#[],rfl,by simp[aV]⟩)) (cr.refl _ _) h
theorem fg{f:FuncId}(h:ao P f=true)(args:Array Value)(w:World):(callFunc f args).run P w=.ok (.enter f args) w:=by
 unfold ao at h;split at h
 ·rename_i fn hf;simp only[aaD,abj]at h;have h2:¬fn.body=none:=by intro hb;rw[hb]at h;simp at h
  have h3:¬fn.name= "runtime.NumGoroutine":=by simpa using h.2
  simp[callFunc,hf,h2,h3]
 ·cases h
theorem fU{op:Op}{io:kI}(h:bD P op=some io)(Ke:(∃f l,io=.call f l)∨∃x l,io=.fm x l):∃c,op=.call c∧dR P c=some io:=by
 cases op with
  |call c=>exact⟨c,rfl,by simpa[bD]using h⟩
  |makeFunc fn a b=>exfalso;cases fn<;>(simp only[bD]at h;(repeat' split at h)<;>(rcases Ke with⟨f,l,rfl⟩|⟨x,l,rfl⟩<;>simp at h))
  |makeMap t r=>exfalso;cases r<;>(simp only[bD]at h;rcases Ke with⟨f,l,rfl⟩|⟨x,l,rfl⟩<;>simp at h)
  |slice t x lo hi mx=>exfalso;cases mx<;>(simp only[bD]at h;(repeat' split at h)<;>(rcases Ke with⟨f,l,rfl⟩|⟨x,l,rfl⟩<;>simp at h))
  |_=>exfalso;simp only[bD]at h;(repeat' split at h)<;>(rcases Ke with⟨f,l,rfl⟩|⟨x,l,rfl⟩<;>simp at h)
theorem WO.pq{o:ad}{l:List ad}{σ:St}{Q:St→Prop}{f:FuncId}{args:List V}(hg:ar o.guard σ.tm=some true)(eL:∀(o':Oper)(g:G)(w:World)(a:Act),(bD P o'.op).getD .bad=o.op→R GL g w a σ→ao P f=true→∃vs:Array Value,aV g w args vs.toList∧(execOp a.eval o').run P w=.ok (.enter f vs) w)(h:WF P GL f args σ.hp fun v H'=>∃aS,σ.put o.dst v H'=some aS∧WO P GL l aS Q):WO P GL (o::l) σ Q:=by
 refine WO.step fun o' ops eH lz dY g w a hr K Q' hK=>?_
 rw[dk hr lz hg,aaP rfl];obtain⟨vs,dX,u6⟩:=eL o' g w a eH hr h.1;unfold Oper.wp;rw[u6];simp only[Oper.upon];refine(h.2 g w vs dX hr.heap hr.eg).mono ?_;rintro e w' ⟨x,v,g',H',rfl,⟨aS,bn,KF⟩,hx,hh,he⟩;simp only;rw[dY];exact hK g' w' _ aS (hr.gv he hh bn hx) he KF
theorem WO.call{o:ad}{l:List ad}{σ:St}{Q:St→Prop}{f:FuncId}{args:List ba}(ho:o.op=.call f args)(hg:ar o.guard σ.tm=some true)(h:WF P GL f (bh (aX GL σ.tm) args) σ.hp fun v H'=>∃aS,σ.put o.dst v H'=some aS∧WO P GL l aS Q):WO P GL (o::l) σ Q:=by
 refine WO.pq hg (fun o' g w a eH hr w6=>?_ ) h;rw[ho]at eH;obtain⟨c,hc,kz⟩:=fU (eR eH (by simp)) (.inl ⟨f,args,rfl⟩);have fe:c.callee=.value (.func f)∧bK av c.args.toList=some args:=by
  unfold dR at kz;split at kz;case h_6 f' Hi=>
   split at kz
   ·simp only[aaE,kI.call.injEq]at kz;obtain⟨l,hl,rfl,rfl⟩:=kz;exact⟨Hi,hl⟩
   ·cases kz
  all_goals exfalso
  all_goals first|(simp at kz;done)|(repeat' split at kz)<;>simp at kz
 refine⟨c.args.map a.eval,by simpa using iw hr.ev fe.2,?_ ⟩;have:=fg w6 (c.args.map a.eval) w;simp[execOp,hc,resolve,fe.1,Act.eval,Deferred.ofValue,invoke,this]
theorem WO.fm{o:ad}{l:List ad}{σ:St}{Q:St→Prop}{f:FuncId}{x:ba}{first cap:List V}{args:List ba}(ho:o.op=.fm x args)(hx:aX GL σ.tm x=.func f first cap)(hg:ar o.guard σ.tm=some true)(h:WF P GL f (first++bh (aX GL σ.tm) args++cap) σ.hp fun v H'=>∃aS,σ.put o.dst v H'=some aS∧WO P GL l aS Q):WO P GL (o::l) σ Q:=by
 refine WO.pq hg (fun o' g w a eH hr w6=>?_ ) h;rw[ho]at eH;obtain⟨c,hc,kz⟩:=fU (eR eH (by simp)) (.inr ⟨x,args,rfl⟩);have fe:∃t,c.callee=.value (.tmp t)∧x=.t t∧bK av c.args.toList=some args:=by
  unfold dR at kz;split at kz;case h_7 t' Hi=>simp only[aaE,kI.fm.injEq]at kz;obtain⟨l,hl,rfl,rfl⟩:=kz;exact⟨t',Hi,rfl,hl⟩
  all_goals exfalso
  all_goals first|(simp at kz;done)|(repeat' split at kz)<;>simp at kz
 obtain⟨t,ht,rfl,gR⟩:=fe;have hv:=hr.ev (.tmp t) (.t t) rfl;rw[hx]at hv;simp only[RV]at hv;obtain⟨p,q,e1,e2,e3⟩:=hv;refine⟨p++c.args.map a.eval++q,?_,?_⟩
 ·simp only[ab4,acP];exact aV.append (aV.append e2 (iw hr.ev gR)) e3
 ·have:=fg w6 (p++c.args.map a.eval++q) w;simp only[Array.append_assoc]at this;simp[execOp,hc,resolve,ht,e1,Deferred.ofValue,invoke,this]
theorem WC.region{l:List ad}{σ:St}{Q:Ex→St→Prop}(h:WO P GL l σ fun aS=>Q .normal aS):WC P GL (.region l) σ Q:=by
 intro code hc g w sB hr;cases code with
  |region id ops draw=>
   simp only[aJ]at hc;split at hc
   ·rename_i l' GG;cases draw with
     |true=>simp at hc
     |false=>simp at hc;subst hc;refine wp_region ?_;have:=h ops 0 (by simpa using GG) g w sB hr;rw[List.range_eq_range'];simp only[ach]at this;exact cW (fun e a v hp=>by obtain⟨g2,tj,h1,h2,h3⟩:=hp;cases e<;>first|exact⟨g2,tj,h1,h2,h3⟩|exact h3.elim) _ _ _ this
   ·cases hc
  |seq=>simp only[aJ]at hc;split at hc<;>simp at hc
  |cond=>simp only[aJ]at hc;split at hc<;>simp at hc
  |_=>simp[aJ]at hc
def tk:Nat→List V→List (Nat×V)|_,[]=>[]|n,v::vs=>(n,v)::tk (n+1) vs
theorem yT(vs:List V)(n t:Nat):get (tk n vs) t=if t<n then .any else(vs[t - n]? ).getD .any:=by
 induction vs generalizing n with
  |nil=>simp[tk,get]
  |cons v vs ih=>
   simp only[tk,get];by_cases h:n=t
   ·subst h;simp
   ·rw[cG h,aaX,ih];by_cases h2:t<n
    ·simp[h2,show t<n+1 by omega]
    ·simp[h2,show¬t<n+1 by omega,show t - n=(t - (n+1))+1 by omega]
def eN(σ:St):iZ→Option V
 | .t n=>some (get σ.tm n)
 | .cell n size agg=>
  match df σ.hp size (get σ.tm n)with
   |some cs=>pj agg cs
   |none=>none
def fq(rs:List iZ)(σ:St):Option V:=match bK (eN σ) rs with
 |some [v]=>some v
 |some vs=>some (.tuple vs)
 |none=>none
def w7(a:Act):ResultVar→Sem Value| .tmp t=>pure (a.tmps.getD t undef)| .cell b t=>do loadVar t (←asAddr (a.tmps.getD b undef))
theorem EC{g:G}{w:World}{a:Act}{σ:St}{r:ResultVar}{r':iZ}{v:V}(h:R GL g w a σ)(hc:nq P r=some r')(hv:eN σ r'=some v):∃x,(w7 a r).run P w=.ok x w∧RV g w v x:=by
 cases r with
  |tmp t=>simp only[nq,aaC]at hc;subst hc;simp only[eN,aaC]at hv;subst hv;exact⟨_,rfl,h.tmps t⟩
  |cell b t=>
   simp only[nq]at hc;split at hc
   ·rename_i n ag hn nV;split at hc
    ·simp only[aaC]at hc;subst hc;simp only[eN]at hv;split at hv
     ·rename_i cs gZ;obtain⟨aT,off,vs,e1,e2,e3,e4⟩:=yH gZ (h.tmps b) h.heap;obtain⟨h3,h4⟩:=A5 hv e3;refine⟨_,?_,h3⟩;simp only[w7,Sem.run_bind,e1,asAddr,Sem.run_pure,Result.andThen_ok];exact mz hn nV e2 h4 e4
     ·cases hv
    ·cases hc
   ·cases hc
theorem tl{g:G}{w:World}{a:Act}{σ:St}{fn:Func}{rs:List iZ}{v:V}(h:R GL g w a σ)(hc:bK (nq P) fn.results.toList=some rs)(hv:fq rs σ=some v):∃x,(results fn a.tmps).run P w=.ok x w∧RV g w v x:=by
 have key:∀(l:List ResultVar)(rs:List iZ)(vs:List V),bK (nq P) l=some rs→bK (eN σ) rs=some vs→∃xs:List Value,(l.mapM (w7 a)).run P w=.ok xs w∧aV g w vs xs:=by
  intro l;induction l with
   |nil=>intro rs vs h1 h2;simp only[bK,aaC]at h1;subst h1;simp only[bK,aaC]at h2;subst h2;exact⟨[],by simp,by simp[aV]⟩
   |cons r l ih=>
    intro rs vs h1 h2;simp only[bK]at h1;split at h1
    ·cases h1
    ·rename_i r' vz;split at h1
     ·cases h1
     ·rename_i C8 Wv;simp only[aaC]at h1;subst h1;simp only[bK]at h2;split at h2
      ·cases h2
      ·rename_i v' fI;split at h2
       ·cases h2
       ·rename_i U9 NX;simp only[aaC]at h2;subst h2;obtain⟨x,k1,k2⟩:=EC h vz fI;obtain⟨xs,k3,k4⟩:=ih _ _ Wv NX;refine⟨x::xs,?_,by simp only[aV];exact⟨k2,k4⟩⟩;rw[List.mapM_cons];simp only[Sem.run_bind,k1,Result.andThen_ok,k3,Sem.run_pure]
 unfold fq at hv;cases hm:bK (eN σ) rs with
  |none=>simp[hm]at hv
  |some vs=>
   obtain⟨xs,k1,k2⟩:=key _ _ _ hc hm;have hl:=k2.length;have eL:(results fn a.tmps).run P w=.ok (if h:xs.toArray.size=1 then xs.toArray[0]else .tuple xs.toArray) w:=by
    have tn:results fn a.tmps=(do let vs←fn.results.mapM (w7 a);pure (if h:vs.size=1 then vs[0]else .tuple vs)):=by unfold results;congr 1
    rw[tn,Array.mapM_eq_mapM_toList];simp only[Sem.run_bind,Sem.run_map,k1,Result.andThen_ok,Sem.run_pure]
   refine⟨_,eL,?_⟩;rw[hm]at hv;cases vs with
    |nil=>
     simp only[aaC]at hv;subst hv;cases xs with
      |nil=>simp[RV];exact k2
      |cons=>simp at hl
    |cons v1 vs=>
     cases vs with
      |nil=>
       simp only[aaC]at hv;subst hv;cases xs with
        |nil=>simp at hl
        |cons x xs=>
         cases xs with
          |nil=>simp only[aV]at k2;simpa using k2.1
          |cons=>simp at hl
      |cons v2 vs=>
       simp only[aaC]at hv;subst hv;have:¬xs.toArray.size=1:=by simp at hl⊢;omega
       rw[dif_neg this];simp only[RV];exact⟨_,rfl,k2⟩
theorem WF.body{f:FuncId}{fn:cL}{args:List V}{H:ai}{Q:V→ai→Prop}(hf:aI P f=some fn)(w6:ao P f=true)(hn:args.length≤fn.ntmps)(h:WC P GL fn.body ⟨fn.ntmps,tk 0 args,H⟩ (fun e σ=>match e with| .exit _=>False|_=>∃v,fq fn.res σ=some v∧Q v σ.hp)):WF P GL f args H Q:=by
 refine⟨w6,fun g w vs dX hh hg=>?_ ⟩;unfold aI at hf;split at hf
 ·cases hf
 ·rename_i Rh Bi;split at hf
  ·cases hf
  ·rename_i c Ri;split at hf
   ·rename_i b r hb hr;simp only[aaC]at hf;subst hf;have hlen:=dX.length;simp at hlen hn;refine calls_of_wp Bi Ri (wp_mono (h c hb g w _ ?_ ) fun e a' w' hp=>?_ )
    ·refine⟨rfl,by simp;omega,fun t=>?_,hh,hg⟩;simp only[yT,Nat.not_lt_zero,abT,ach];by_cases ht:t<args.length
     ·have C9:args[t]? =some args[t]:=aaG ht;obtain⟨x,GI,u5⟩:=dX.get t C9;rw[C9,abe];have Hd:vs[t]? =some x:=by simpa using GI
      have yR:t<vs.size:=by omega
      have:(vs++Array.replicate (Rh.ntmps - vs.size) undef).getD t undef=x:=by rw[aaJ,acp yR,Hd];rfl
      rw[this];exact u5
     ·rw[acO (by omega)];simp only[Option.getD_none,RV]
    ·obtain⟨g2,tj,k1,k2,k3⟩:=hp;cases e with
      |normal=>obtain⟨v,hv,hq⟩:=k3;obtain⟨x,GI,u5⟩:=tl k1 hr hv;exact⟨k1.defers,x,GI,x,v,g2,tj.hp,rfl,hq,u5,k1.heap,k2⟩
      |ret=>obtain⟨v,hv,hq⟩:=k3;obtain⟨x,GI,u5⟩:=tl k1 hr hv;exact⟨k1.defers,x,GI,x,v,g2,tj.hp,rfl,hq,u5,k1.heap,k2⟩
      |exit i=>exact k3.elim
      |goto l=>exact k3.elim
      |panic c=>exact k3.elim
      |outgrown=>exact k3.elim
   ·cases hf
end
end Fw
/-
  A step of an iterator over a map: every entry that has not come yet may come next.
-/
namespace Fw
open Go
section
variable {P:Program}{GL:cj}
def dB(bO:Array MapEntry)(sa:Array Nat)(n:Nat):Array (Option MapEntry):=let left:=bO.filter fun e=> !sa.contains e.born;let yx:=left.filter (·.born<n);let new:=left.filter (·.born≥n);(if yx.isEmpty then #[none]else #[])++(yx++new).map some
theorem mD{bO:Array MapEntry}{sa:Array Nat}(h:∀(i:Nat)(x:MapEntry),bO[i]? =some x→x.born=i):(dB bO sa bO.size= #[none]∧∀i,i<bO.size→i∈sa.toList)∨(0<(dB bO sa bO.size).size∧∀(j:Nat)(c:Option MapEntry),(dB bO sa bO.size)[j]? =some c→∃i e,c=some e∧bO[i]? =some e∧e.born=i∧i∉sa.toList):=by
 have hb:∀e∈bO,e.born<bO.size∧bO[e.born]? =some e:=by intro e he;obtain⟨i,hi,rfl⟩:=Array.mem_iff_getElem.1 he;have:=h i _ (Array.getElem?_eq_getElem hi);exact⟨by rw[this];exact hi,by rw[this];exact Array.getElem?_eq_getElem hi⟩
 have yL:(bO.filter fun e=> !sa.contains e.born).filter (·.born<bO.size)=bO.filter fun e=> !sa.contains e.born:=by apply Array.filter_eq_self.2;intro e he;have:=(hb e (ac' he)).1;simpa using this
 have Bj:(bO.filter fun e=> !sa.contains e.born).filter (·.born≥bO.size)= #[]:=by apply Array.filter_eq_empty_iff.2;intro e he;have:=(hb e (ac' he)).1;simp;omega
 unfold dB;simp only[yL,Bj,Array.append_empty];cases hl:(bO.filter fun e=> !sa.contains e.born).isEmpty with
  |true=>left;have he:=Array.isEmpty_iff.1 hl;refine⟨by rw[he];simp,fun i hi=>?_ ⟩;have:=Array.filter_eq_empty_iff.1 he bO[i] (Array.getElem_mem hi);rw[h i _ (Array.getElem?_eq_getElem hi)]at this;simpa using this
  |false=>
   right;have et:(bO.filter fun e=> !sa.contains e.born)≠ #[]:=fun he=>by rw[he]at hl;simp at hl
   refine⟨?_,fun j c hc=>?_ ⟩
   ·simp only[abB,abT,Array.empty_append,Array.size_map];exact Array.size_pos_iff.2 et
   ·simp only[abB,abT,Array.empty_append,Array.getElem?_map,aaE]at hc;obtain⟨e,he,rfl⟩:=hc;have hm:=Array.mem_of_getElem? he;have h1:=hb e (ac' hm);have h2:=(Array.mem_filter.1 hm).2;refine⟨e.born,e,rfl,h1.2,rfl,by simpa using h2⟩
theorem ED{op:Op}{x:ba}(h:bD P op=some (.rA x)):∃it,op=.next it false∧av it=some x:=by
 cases op with
  |next it s=>
   simp only[bD]at h;split at h
   ·cases h
   ·rename_i hs;simp only[aaE,kI.rA.injEq]at h;obtain⟨y,hy,rfl⟩:=h;exact⟨it,by simp at hs;rw[hs],hy⟩
  |makeFunc fn a b=>exfalso;cases fn<;>(simp only[bD]at h;(repeat' split at h)<;>simp at h)
  |makeMap t r=>exfalso;cases r<;>(simp only[bD]at h;simp at h)
  |slice t x lo hi mx=>exfalso;cases mx<;>(simp only[bD]at h;(repeat' split at h)<;>simp at h)
  |call c=>exfalso;simp only[bD,dR]at h;(repeat' split at h)<;>simp at h
  |_=>exfalso;simp only[bD]at h;(repeat' split at h)<;>simp at h
theorem WO.rA{o:ad}{l:List ad}{σ:St}{Q:St→Prop}{x:ba}{b m n:Nat}{seen:List Nat}{es:List (D×V)}(ho:o.op=.rA x)(hg:ar o.guard σ.tm=some true){m':Nat}(hx:aX GL σ.tm x=.iter b m')(hb:aE σ.hp b=some (.dK m n seen))(hm:aE σ.hp m=some (.map es))(hn:es.length=n)(h1:∀i k v,es[i]? =some (k,v)→i∉seen→∃aS,σ.put o.dst (.tuple [.d (.bool true),.d k,v]) (bn σ.hp b (.dK m n (seen++[i])))=some aS∧WO P GL l aS Q)(h2:(∀i,i<n→i∈seen)→∃aS,σ.put o.dst (.tuple [.d (.bool false)]) σ.hp=some aS∧WO P GL l aS Q):WO P GL (o::l) σ Q:=by
 refine WO.step fun o' ops eH lz dY g w a hr K Q' hK=>?_
 rw[dk hr lz hg,aaP rfl];rw[ho]at eH;obtain⟨it,hc,hit⟩:=ED (eR eH (by simp));have hv:=hr.ev _ _ hit;rw[hx]at hv;simp only[RV]at hv;obtain⟨xb,oc⟩:=hr.heap.back b _ hb;obtain⟨_,y,hy,C'⟩:=hr.heap.live b xb oc;rw[hb]at hy;simp only[aaC]at hy;subst hy;obtain⟨aT,rfl,yG⟩:=hv.2 xb oc;simp only[RB]at C';obtain⟨mb,sa,k1,k2,k3,k4⟩:=C';obtain⟨xm,Q3⟩:=hr.heap.back m _ hm;obtain⟨_,y,hy,s_⟩:=hr.heap.live m xm Q3;rw[hm]at hy;simp only[aaC]at hy;subst hy;obtain rfl:=k4 xm Q3;simp only[RB]at s_;obtain⟨bO,clock,m1,m2,m3,m4,m5⟩:=s_;have w8:aT<w.heap.size:=(abG.1 k1).1;have Kf:n=bO.size:=by omega
 have Rj:(!sa.isEmpty&& !bO.isEmpty&&bO.all (·.born≥n))=false:=by
  cases he:bO.isEmpty with
   |true=>simp
   |false=>
    have nN:0<bO.size:=by
     cases hs:bO.size with
      |zero=>rw[Array.size_eq_zero_iff.1 hs]at he;simp at he
      |succ k=>omega
    have:bO.all (·.born≥n)=false:=by rw[Array.all_eq_false];refine⟨0,nN,?_⟩;have:=m4 0 _ (Array.getElem?_eq_getElem nN);simp[this];omega
    simp[this]
 have Rk:∀r,(∀q,q=Question.mapNext (dB bO sa n).size→(do
  match(dB bO sa n)[←choose q]? with
   |some (some e)=>setObj aT (.mapIter (some mb) n (sa.push e.born) clock);pure (.tuple #[.bool true,e.key,e.val])
   |some none=>pure (.tuple #[.bool false])
   |none=>stuck "Next: no such candidate":Sem Value).run P w=r)→(Instr.next (a.eval it) false o'.type).run P w=r:=by intro r h;rw[←h _ rfl];simp only[Instr.next,yG,Sem.run_bind,getObj,Sem.run,k1,m1,Result.andThen_ok,Rj,abB,abT,dB];rfl
 have eL:∃r,(Instr.next (a.eval it) false o'.type).run P w=r∧(
  (∃d i e,bO[i]? =some e∧e.born=i∧i∉sa.toList∧r=.ok (.tuple #[.bool true,e.key,e.val]) {w with drawn:=d,heap:=w.heap.setIfInBounds aT (.mapIter (some mb) n (sa.push i) n)})∨
  (∃d,(∀i,i<n→i∈sa.toList)∧r=.ok (.tuple #[.bool false]) {w with drawn:=d})):=by
  refine⟨_,Rk _ (fun q hq=>by subst hq;rfl),?_⟩;have key:∀(t d:Nat),t<(dB bO sa n).size→∀r,r=((match(dB bO sa n)[t]? with
   |some (some e)=>
    do
     setObj aT (.mapIter (some mb) n (sa.push e.born) clock)
     pure (.tuple #[.bool true,e.key,e.val])
   |some none=>pure (.tuple #[.bool false])
   |none=>stuck "Next: no such candidate":Sem Value).run P {w with drawn:=d})→(
   (∃d i e,bO[i]? =some e∧e.born=i∧i∉sa.toList∧r=.ok (.tuple #[.bool true,e.key,e.val]) {w with drawn:=d,heap:=w.heap.setIfInBounds aT (.mapIter (some mb) n (sa.push i) n)})∨
   (∃d,(∀i,i<n→i∈sa.toList)∧r=.ok (.tuple #[.bool false]) {w with drawn:=d})):=by
   intro t d ht r hr;rw[Kf]at ht hr⊢;rcases mD (sa:=sa) m4 with⟨e1,e2⟩|⟨e1,e2⟩
   ·right;refine⟨d,e2,?_⟩;rw[e1]at ht hr;obtain rfl:t=0:=by simp at ht;exact ht
    rw[hr];simp
   ·left;obtain⟨c,hc⟩:∃c,(dB bO sa bO.size)[t]? =some c:=⟨_,Array.getElem?_eq_getElem ht⟩;obtain⟨i,e,rfl,f1,f2,f3⟩:=e2 t c hc;refine⟨d,i,e,f1,f2,f3,?_⟩;rw[hr,hc];have k1':w.heap[aT]? =some (Obj.mapIter (some mb) bO.size sa bO.size):=by rw[k1,Kf]
    simp[setObj,Sem.run,f2,m5,k1',-Array.getElem?_eq_getElem]
  have nN:0<(dB bO sa n).size:=by
   rw[Kf];rcases mD (sa:=sa) m4 with⟨e1,_⟩|⟨e1,_⟩
   ·rw[e1];simp
   ·exact e1
  simp only[choose,Sem.run_bind,Sem.run,Result.andThen_ok];by_cases hf:(Question.mapNext (dB bO sa n).size).forced=true
  ·rw[aaP hf];exact key 0 w.drawn nN _ rfl
  ·rw[aaL hf];exact key _ _ (acQ _ nN) _ rfl
 obtain⟨r,ka,wZ⟩:=eL;have u6:∀v w',r=.ok v w'→(execOp a.eval o').run P w=.ok (.value v) w':=by intro v w' e;rw[e]at ka;simp[execOp,hc,ka]
 unfold Oper.wp;rcases wZ with⟨d,i,e,f1,f2,f3,rfl⟩|⟨d,f1,rfl⟩
 ·rw[u6 _ _ rfl];simp only[Oper.upon];rw[dY];obtain⟨hi,_⟩:=abG.1 f1;have NT:i<es.length:=by omega
  obtain⟨z,z1,z2,z3,z4⟩:=m3 i (es[i]).1 (es[i]).2 (aaG NT);rw[f1]at z1;simp only[aaC]at z1;subst z1;obtain⟨aS,hp,KF⟩:=h1 i (es[i]).1 (es[i]).2 (aaG NT) (by rw[←k2];exact f3);have he:cr g w g {w with drawn:=d,heap:=w.heap.setIfInBounds aT (.mapIter (some mb) n (sa.push i) n)}:=cr.write oc rfl (hr.heap.vp oc rfl) rfl rfl rfl (by simp) (fun j hj=>by simp only[aa6 (acM hj)]);have hh:az g {w with drawn:=d,heap:=w.heap.setIfInBounds aT (.mapIter (some mb) n (sa.push i) n)} (bn σ.hp b (.dK m n (seen++[i]))):=by refine az.write hr.heap _ oc rfl he (fun j hj=>by simp only[aa6 (acM hj)]) ?_;simp only[RB];exact⟨mb,sa.push i,by simp[w8],by simp[k2],k3,k4⟩
  refine hK g _ _ aS (hr.gv he hh hp ?_ ) he KF;simp only[RV];exact⟨_,rfl,by simp only[aV];exact⟨RV.Ee _,by simp only[RV];exact Rd.keeps he.keeps _ _ z3,RV.ext he _ _ z4,trivial⟩⟩
 ·rw[u6 _ _ rfl];simp only[Oper.upon];rw[dY];obtain⟨aS,hp,KF⟩:=h2 (by rw[←k2];exact f1);have he:cr g w g {w with drawn:=d}:=cr.drawn g w d;refine hK g _ _ aS (hr.gv he (hr.heap.ext he (fun _ _ _ _ _=>rfl)) hp ?_ ) he KF;simp only[RV];exact⟨_,rfl,by simp only[aV];exact⟨RV.Ee _,trivial⟩⟩
end
end Fw
/-
  Freezing a box, as a rule.
-/
namespace Fw
open Go
section
variable {P:Program}{GL:cj}
theorem WC.freeze{c:IR}{σ aS:St}{Q:Ex→St→Prop}{b:Nat}(hc:j_ b σ=some aS)(h:WC P GL c aS Q):WC P GL c σ Q:=by intro code tp g w a hr;exact wp_mono (h code tp _ w a (hr.oe hc)) (cA.ext (cr.oe _ _ (cr.refl _ _)))
theorem WO.freeze{l:List ad}{σ aS:St}{Q:St→Prop}{b:Nat}(hc:j_ b σ=some aS)(h:WO P GL l aS Q):WO P GL l σ Q:=by intro ops k tp g w a hr;exact cW (cA.ext (cr.oe _ _ (cr.refl _ _))) _ _ _ (h ops k tp _ w a (hr.oe hc))
theorem WO.f_{o:ad}{l:List ad}{σ aS:St}{Q:St→Prop}{v:V}(hg:ar o.guard σ.tm=some true)(he:f_ (aX GL σ.tm) o.op=some v)(hp:σ.put o.dst v σ.hp=some aS)(h:WO P GL l aS Q):WO P GL (o::l) σ Q:=by
 refine WO.step fun o' ops eH lz dY g w a hr K Q' hK=>?_
 rw[dk hr lz hg,aaP rfl];obtain⟨w',x,k1,k2,k3,k4⟩:=qu (P:=P) (a:=a) (o:=o') (eR eH (fun e=>by rw[e]at he;cases he)) he hr.ev hr.heap;unfold Oper.wp;rw[k1];simp only[Oper.upon];rw[dY];exact hK g w' _ aS (hr.gv k4 k3 hp k2) k4 h
end
end Fw
/-
  What an operation looks at, and that nothing else matters to it.
-/
namespace Fw
open Go
def mE:List (Nat×Nat×ba)→List ba|[]=>[]|(_,_,x)::ps=>x::mE ps
def looks:kI→List ba| .mv x| .box _ x| .load _ _ x| .gi x| .un _ x| .conv _ x| .same x| .jn x| .Ny _ _ _ x| .fQ _ _ x| .ext x _| .len _ x| .cap x| .range _ x| .QS x| .rA x| .entry x| .nl _ x=>[x]| .pick c a b=>[c,a,b]| .alloc _| .CZ| .bad=>[]| .build _ ps| .mkSlice _ _ _ ps=>mE ps| .store _ a x=>[a,x]| .bin _ x y| .eq _ _ x y| .GD _ _ x y| .append _ _ x y=>[x,y]| .lq _ a b=>a++b| .lr x lo hi| .fK _ x lo hi| .s6 _ _ x lo hi=>x::(lo.toList++hi.toList)| .de _ x i| .s7 _ _ x i| .gM x i| .Ko _ _ _ x i=>[x,i]| .yE _ _ _ l c=>[l,c]| .ls _ _ _ x n=>[x,n]| .lookup _ _ _ m k=>[m,k]| .gj _ m k x=>[m,k,x]| .qn _ xs=>xs| .call _ args=>args| .fm x args=>x::args
def bX:V→List Nat| .ptr b _ _=>[b]| .sl b _ _ _ _=>[b]| .map b=>[b]| .iter b m=>[b,m]|_=>[]
def lC(ρ:ba→V):kI→List Nat| .load _ _ a=>bX (ρ a)| .store _ a _=>bX (ρ a)| .fK _ x _ _=>bX (ρ x)| .s6 _ _ x _ _=>bX (ρ x)| .de _ x _=>bX (ρ x)| .len _ x=>bX (ρ x)| .append _ _ x y=>bX (ρ x)++bX (ρ y)| .lookup _ _ _ m _=>bX (ρ m)| .range _ x=>bX (ρ x)| .eq _ _ x y=>bX (ρ x)++bX (ρ y)| .entry x=>bX (ρ x)| .gj _ m _ _=>bX (ρ m)| .call _ args=>(bh ρ args).flatMap bX|_=>[]
section
variable {ρ EE:ba→V}{H H':ai}
theorem yU{n:Nat}{u:V}(h:∀b∈bX u,aE H' b=aE H b):df H' n u=df H n u:=by cases u<;>simp only[df];rename_i b _ _;rw[h b (by simp[bX])]
theorem w9{n:Nat}{u x:V}(h:∀b∈bX u,aE H' b=aE H b):er H' n u x=er H n u x:=by cases u<;>simp only[er];rename_i b _ _;rw[h b (by simp[bX])]
theorem kb{b k:Nat}(h:aE H' b=aE H b):ef H' b k=ef H b k:=by simp only[ef,h]
theorem Bk{k:ll}{u:V}(h:∀b∈bX u,aE H' b=aE H b):gm H' k u=gm H k u:=by
 cases u with
  |d x=>cases x<;>rfl
  |sl b hb off len sz=>simp only[gm,kb (h b (by simp[bX]))]
  |map b=>simp only[gm,h b (by simp[bX])]
  |_=>rfl
theorem w_{sz:Nat}{u:V}(h:∀b∈bX u,aE H' b=aE H b):cF H' sz u=cF H sz u:=by
 cases u with
  |d x=>cases x<;>rfl
  |sl b hb off len sz=>simp only[cF,h b (by simp[bX])]
  |_=>rfl
theorem u7{ns sz bytes:Nat}{u:V}{xs:List V}(h:∀b∈bX u,aE H' b=aE H b):cM H' ns sz bytes u xs=cM H ns sz bytes u xs:=by
 cases u with
  |sl b hb off len sz=>simp only[cM,h b (by simp[bX])]
  |_=>rfl
theorem yV{u:V}(h:∀b∈bX u,aE H' b=aE H b):lV H' u=lV H u:=by
 cases u with
  |map b=>simp only[lV,h b (by simp[bX])]
  |_=>rfl
theorem kf:∀{ps:List (Nat×Nat×ba)}{cs:List V},(∀x∈mE ps,EE x=ρ x)→d_ EE cs ps=d_ ρ cs ps|[],_,_=>rfl|(off,size,x)::ps,cs,h=>by simp only[d_];rw[h x (by simp[mE]),kf (fun y hy=>h y (by simp[mE,hy]))]
theorem ei:∀{l:List ba},(∀x∈l,EE x=ρ x)→bh EE l=bh ρ l|[],_=>rfl|x::l,h=>by simp only[bh];rw[h x (by simp),ei (fun y hy=>h y (by simp[hy]))]
theorem lD{len:Nat}{lo hi:Option ba}(h:∀x∈lo.toList++hi.toList,EE x=ρ x):bounds EE len lo hi=bounds ρ len lo hi:=by cases lo<;>cases hi<;>simp only[bounds]<;>simp at h<;>simp[h]
theorem EF{k:qm}{u v:V}(hn:∀b h,b∈bX u++bX v→wN H' b h=wN H b h):GS H' k u v=GS H k u v:=by
 have hd:∀(p:D)(v:V),GS H' k (.d p) v=GS H k (.d p) v:=by intro p v;rcases p with _|_|_|(_|⟨e,es⟩)<;>cases v<;>first|(cases k<;>rfl)|(rename_i q;rcases q with _|_|_|(_|⟨e',Qf⟩)<;>cases k<;>rfl)
 have yW:∀(p:D)(v:V),GS H' k v (.d p)=GS H k v (.d p):=by
  intro p v;cases v with
   |d q=>exact hd q _
   |_=>rcases p with _|_|_|(_|⟨e,es⟩)<;>cases k<;>rfl
 cases u with
  |d p=>exact hd p v
  |_=>
   cases v with
    |d p=>exact yW p _
    |_=>cases k<;>first|rfl|exact hn _ _ (by simp[bX])
theorem Bl{op:kI}(h1:∀x∈looks op,EE x=ρ x):f_ EE op=f_ ρ op:=by cases op<;>first|rfl|(simp only[looks]at h1;simp only[f_];rw[kf h1])
theorem EG{op:kI}{ns:Nat}(h1:∀x∈looks op,EE x=ρ x)(h2:∀b∈lC ρ op,aE H' b=aE H b):bw EE H' ns op=bw ρ H ns op:=by
 cases op<;>simp only[looks,aa',acu,or_false,forall_eq_or_imp,forall_eq,abc]at h1<;>simp only[lC]at h2<;>simp only[bw];case mv=>rw[h1]
 case pick=>rw[h1.1,h1.2.1,h1.2.2]
 case box=>rw[h1]
 case build=>rw[kf h1]
 case mkSlice=>rw[kf h1]
 case load=>rw[h1,yU h2]
 case store=>rw[h1.1,h1.2,w9 h2]
 case gi=>rw[h1]
 case bin=>rw[h1.1,h1.2]
 case eq neg k x y=>
  rw[h1.1,h1.2];have hn:∀b h,b∈bX (ρ x)++bX (ρ y)→wN H' b h=wN H b h:=fun b h hb=>by simp only[wN,h2 b hb]
  rw[EF hn]
 case GD=>rw[h1.1,h1.2]
 case un=>rw[h1]
 case conv=>rw[h1]
 case same=>rw[h1]
 case jn=>rw[h1]
 case yE=>rw[h1.1,h1.2]
 case ls=>rw[h1.1,h1.2]
 case cap=>rw[h1]
 case lq=>rw[ei (fun x hx=>h1 x (.inl hx)),ei (fun x hx=>h1 x (.inr hx))]
 case lr x lo hi=>
  rw[h1.1];have hb:∀len,bounds EE len lo hi=bounds ρ len lo hi:=fun len=>lD (fun x hx=>h1.2 x (abc.1 hx))
  simp only[hb]
 case fK sz x lo hi=>
  rw[h1.1];have hb:∀len,bounds EE len lo hi=bounds ρ len lo hi:=fun len=>lD (fun x hx=>h1.2 x (abc.1 hx))
  simp only[hb];split<;>first|rfl|(rename_i b _ _ _ _ e;rw[kb (h2 b (by rw[e];simp[bX]))])
 case s6 n sz x lo hi=>
  rw[h1.1];have hb:∀len,bounds EE len lo hi=bounds ρ len lo hi:=fun len=>lD (fun x hx=>h1.2 x (abc.1 hx))
  simp only[hb];split<;>first|rfl|(rename_i b _ _ e;rw[kb (h2 b (by rw[e];simp[bX]))])
 case Ny=>rw[h1]
 case fQ=>rw[h1]
 case de sz x i=>
  rw[h1.1,h1.2];split
  ·rfl
  ·split<;>first|rfl|(rename_i b _ _ _ _ e;rw[kb (h2 b (by rw[e];simp[bX]))])
 case s7=>rw[h1.1,h1.2]
 case gM=>rw[h1.1,h1.2]
 case Ko=>rw[h1.1,h1.2]
 case ext=>rw[h1]
 case len k x=>rw[h1];cases k<;>simp only[]<;>first|rfl|rw[Bk h2]
 case append sz bytes x y=>
  have ha:∀xs,cM H' ns sz bytes (ρ x) xs=cM H ns sz bytes (ρ x) xs:=fun xs=>u7 (fun b hb=>h2 b (by simp[hb]))
  rw[h1.1,h1.2,w_ (fun b hb=>h2 b (by simp[hb]))];simp only[ha]
 case lookup=>rw[h1.1,h1.2,yV h2]
 case gj kk m k x=>
  rw[h1.1,h1.2.1,h1.2.2];split
  ·rename_i b kd e _;rw[h2 b (by rw[e];simp[bX])]
  ·rfl
 case nl=>rw[h1]
 case entry x=>
  rw[h1];split
  ·rename_i b m e;rw[h2 b (by rw[e];simp[bX]),h2 m (by rw[e];simp[bX])]
  ·rfl
 case range m x=>
  rw[h1];cases m
  ·rfl
  ·simp only[aaH];split
   ·rename_i b e;rw[h2 b (by rw[e];simp[bX])]
   ·rfl
 case qn=>rw[ei h1]
end
end Fw
/-
  A region whose order is drawn: one run in the text's order, and a look that no two operations whose order is open meet.
-/
namespace Fw
open Go
def PC(P:Program)(GL:cj)(f:FuncId)(args:List V)(v:V):Prop:=ao P f=true∧∀g w (vs:Array Value),aV g w args vs.toList→(∀k,g.fo k→k<w.heap.size)→(∀b x k,g.γ b=some x→x.own=some k→k<w.heap.size)→gn GL g w→Calls P f vs w fun e w'=>∃x,e=.returned x∧RV g w' v x∧cr g w g w'∧∀b y k,g.γ b=some y→y.own=some k→w'.heap[k]? =w.heap[k]?
def bA:kI→Option (FuncId×List ba)| .call f args=>some (f,args)|_=>none
def eX(GL:cj)(tm:List (Nat×V))(H:ai)(ns:Nat)(o:ad)(cv:Option V):Option (V×Wr):=match ar o.guard tm with
 |none=>none
 |some false=>some (.tuple [],none)
 |some true=>
  match bA o.op with
   |some _=>cv.map fun v=>(v,none)
   |none=>
    match cv with
     |some _=>(f_ (aX GL tm) o.op).map fun v=>(v,none)
     |none=>bw (aX GL tm) H ns o.op
def St.fu(σ:St)(dst:Option Nat)(v:V)(H:ai):St:=match dst with
 |none=>⟨σ.n,σ.tm,H⟩
 |some d=>⟨σ.n,Fw.put σ.tm d v,H⟩
def mg(GL:cj)(base:Nat)(qc:Nat→Option V):Nat→List ad→St→Option (List ((V×Wr)×List Nat))
 |_,[],_=>some []
 |i,o::l,σ=>
  match eX GL σ.tm σ.hp (base+i) o (qc i)with
   |none=>none
   |some r=>
    match mg GL base qc (i+1) l (σ.fu o.dst r.1 (aZ σ.hp r.2))with
     |none=>none
     |some rs=>some ((r,lC (aX GL σ.tm) o.op)::rs)
def aB(K:Nat→Bool):Nat→List ad→List ((V×Wr)×List Nat)→St→St|i,o::l,r::rs,σ=>aB K (i+1) l rs (bif K i then σ.fu o.dst r.1.1 (aZ σ.hp r.1.2)else σ)|_,_,_,σ=>σ
def bq:Wr→Option Nat|some (b,_)=>some b|none=>none
def Rl:ba→Option Nat| .t n=>some n|_=>none
def dD(o:ad):List Nat:=(looks o.op).filterMap Rl++(match o.guard with|some (d,_)=>[d]|none=>[])
structure lW where
 dst:Option Nat
 lk:List Nat
 rd:List Nat
 ws:Option Nat
 after:List Nat
 deriving Inhabited
def gS:List ad→List ((V×Wr)×List Nat)→List lW|o::l,r::rs=>{dst:=o.dst,lk:=dD o,rd:=r.2,ws:=bq r.1.2,after:=o.after}::gS l rs|_,_=>[]
def nW(x:Option Nat)(l:List Nat):Bool:=match x with
 |some n=>l.any (Nat.beq n)
 |none=>false
def gT(x y:Option Nat):Bool:=match x,y with
 |some n,some m=>Nat.beq n m
 |_,_=>false
def hO(x y:lW):Bool:=nW x.dst y.lk||nW y.dst x.lk||gT x.dst y.dst||nW x.ws y.rd||nW y.ws x.rd||gT x.ws y.ws
def pt:Option Nat→Nat|none=>0|some t=>Nat.shiftLeft 1 t
def nX:List Nat→Nat|[]=>0|t::l=>Nat.lor (Nat.shiftLeft 1 t) (nX l)
def mF(e:Nat):List (Nat×Nat)→Nat|[]=>0|(i,m)::l=>bif Nat.beq i e then m else mF e l
def lE(acc:List (Nat×Nat)):List Nat→Nat|[]=>0|e::es=>Nat.lor (Nat.lor (Nat.shiftLeft 1 e) (mF e acc)) (lE acc es)
def cT:Nat→List (Nat×Nat)→List ad→List Nat|_,_,[]=>[]|j,acc,o::l=>lE acc o.after::cT (j+1) ((j,lE acc o.after)::acc) l
def kR:Nat→List ad→Bool|_,[]=>true|j,o::l=>o.after.all (Nat.blt · j)&&kR (j+1) l
def C_(W L R:Nat):List (Nat×Nat×Nat)→Bool|[]=>true|(i,w,k)::A'=>(Nat.beq (Nat.lor (Nat.land w (Nat.lor L W)) (Nat.land k W)) 0||Nat.beq (Nat.land (Nat.shiftRight R i) 1) 1)&&C_ W L R A'
def KG:Nat→List (Nat×Nat×Nat)→List (Nat×Nat)→List Nat→Bool|_,_,[],_=>true|_,_,_,[]=>true|j,pre,(W,L)::ms,R::rs=>C_ W L R pre&&KG (j+1) ((j,W,L)::pre) ms rs
def Da(l:List ad):List (Nat×Nat):=l.map fun o=>(pt o.dst,nX (dD o))
def Bm(rs:List ((V×Wr)×List Nat)):List (Nat×Nat):=rs.map fun r=>(pt (bq r.1.2),nX r.2)
def oh(l:List ad):Bool:=kR 0 l&&KG 0 [] (Da l) (cT 0 [] l)
def tq:List ((V×Wr)×List Nat)→Bool
 |[]=>true
 |r::rs=>
  match r.1.2 with
   |none=>tq rs
   |some _=>false
def c6(l:List ad)(rs:List ((V×Wr)×List Nat)):Bool:=oh l&&(tq rs||KG 0 [] (Bm rs) (cT 0 [] l))
section
variable {P:Program}{GL:cj}
theorem jb{x:Option Nat}{l:List Nat}:nW x l=true↔∃n,x=some n∧n∈l:=by
 cases x with
  |none=>simp[nW]
  |some n=>
   simp only[nW,acR,aaC,exists_eq_left'];constructor
   ·rintro⟨m,h1,h2⟩;have:=aaI h2;subst this;exact h1
   ·intro h;exact⟨n,h,aa0 n⟩
theorem dm{x y:Option Nat}:gT x y=true↔∃n,x=some n∧y=some n:=by cases x<;>cases y<;>simp[gT];exact eq_comm
theorem iF{σ:St}{dst:Option Nat}{v:V}{H:ai}{t:Nat}:get (σ.fu dst v H).tm t=if dst=some t then v else get σ.tm t:=by
 cases dst with
  |none=>simp[St.fu]
  |some d=>
   simp only[St.fu,np,aaC];by_cases h:t=d
   ·subst h;simp
   ·rw[aaL h,aaL (fun e=>h e.symm)]
theorem nu{H:ai}{wr:Wr}{b:Nat}:aE (aZ H wr) b=match wr with|some (s,y)=>if b=s then some y else aE H b|none=>aE H b:=by
 cases wr with
  |none=>rfl
  |some p=>obtain⟨s,y⟩:=p;simp only[aZ,eJ]
theorem kT{K K':Nat→Bool}{t:Nat}:∀{l:List ad}{rs:List ((V×Wr)×List Nat)}{i:Nat}{σ aS:St},get σ.tm t=get aS.tm t→(∀j o,l[j]? =some o→o.dst=some t→K (i+j)=K' (i+j))→get (aB K i l rs σ).tm t=get (aB K' i l rs aS).tm t
 |[],_,_,_,_,h,_=>by simpa[aB]using h
 |_::_,[],_,_,_,h,_=>by simpa[aB]using h
 |o::l,r::rs,i,σ,aS,h,hk=>by
  simp only[aB];refine kT ?_ (fun j o' h1 h2=>by have:=hk (j+1) o' (by simpa using h1) h2;rwa[show i+(j+1)=i+1+j by omega]at this);by_cases hd:o.dst=some t
  ·have:=hk 0 o rfl hd;simp at this;rw[this];cases K' i with
    |true=>simp only[aaH,iF,hd,abv]
    |false=>exact h
  ·have et:∀(b:Bool)(s:St),get (bif b then s.fu o.dst r.1.1 (aZ s.hp r.1.2)else s).tm t=get s.tm t:=by intro b s;cases b<;>simp[iF,hd]
   rw[et,et];exact h
theorem kU{K K':Nat→Bool}{b:Nat}:∀{l:List ad}{rs:List ((V×Wr)×List Nat)}{i:Nat}{σ aS:St},aE σ.hp b=aE aS.hp b→(∀j r,rs[j]? =some r→bq r.1.2=some b→K (i+j)=K' (i+j))→aE (aB K i l rs σ).hp b=aE (aB K' i l rs aS).hp b
 |[],_,_,_,_,h,_=>by simpa[aB]using h
 |_::_,[],_,_,_,h,_=>by simpa[aB]using h
 |o::l,r::rs,i,σ,aS,h,hk=>by
  simp only[aB];have Bn:∀s:St,(s.fu o.dst r.1.1 (aZ s.hp r.1.2)).hp=aZ s.hp r.1.2:=by intro s;cases o.dst<;>rfl
  refine kU ?_ (fun j r' h1 h2=>by have:=hk (j+1) r' (by simpa using h1) h2;rwa[show i+(j+1)=i+1+j by omega]at this);by_cases hd:bq r.1.2=some b
  ·have:=hk 0 r rfl hd;simp at this;rw[this];cases K' i with
    |true=>
     simp only[aaH,Bn,nu];cases hw:r.1.2 with
      |none=>rw[hw]at hd;simp[bq]at hd
      |some p=>obtain⟨s,y⟩:=p;rw[hw]at hd;simp only[bq,aaC]at hd;subst hd;simp
    |false=>exact h
  ·have et:∀(c:Bool)(s:St),aE (bif c then s.fu o.dst r.1.1 (aZ s.hp r.1.2)else s).hp b=aE s.hp b:=by
    intro c s;cases c with
     |false=>rfl
     |true=>
      simp only[aaH,Bn,nu];cases hw:r.1.2 with
       |none=>rfl
       |some p=>obtain⟨q,y⟩:=p;rw[hw]at hd;simp only[bq,aaC]at hd;simp[acM hd]
   rw[et,et];exact h
theorem eS{K:Nat→Bool}:∀{l:List ad}{rs:List ((V×Wr)×List Nat)}{i:Nat}{σ:St},(aB K i l rs σ).n=σ.n
 |[],_,_,_=>by simp[aB]
 |_::_,[],_,_=>by simp[aB]
 |o::l,r::rs,i,σ=>by simp only[aB];rw[eS];cases K i<;>simp[St.fu];cases o.dst<;>rfl
theorem eY{H:ai}{b:Nat}{y:eG}(h:b<H.length):(bn H b y).length=H.length:=by
 induction H generalizing b with
  |nil=>simp at h
  |cons z H ih=>cases b<;>simp[bn];exact ih (by simpa using h)
theorem mG{base:Nat}{qc:Nat→Option V}:∀{l:List ad}{i0:Nat}{σ:St}{rs:List ((V×Wr)×List Nat)},mg GL base qc i0 l σ=some rs→rs.length=l.length∧∀i o,l[i]? =some o→∃r,rs[i]? =some r∧eX GL (aB (fun j=>decide (j<i0+i)) i0 l rs σ).tm (aB (fun j=>decide (j<i0+i)) i0 l rs σ).hp (base+(i0+i)) o (qc (i0+i))=some r.1∧r.2=lC (aX GL (aB (fun j=>decide (j<i0+i)) i0 l rs σ).tm) o.op
 |[],i0,σ,rs,h=>by simp[mg]at h;subst h;simp
 |o::l,i0,σ,rs,h=>by
  simp only[mg]at h;split at h
  ·cases h
  ·rename_i r hr;split at h
   ·cases h
   ·rename_i C8 Kg;simp only[aaC]at h;subst h;obtain⟨h1,h2⟩:=mG Kg;refine⟨by simp[h1],fun i o' iV=>?_ ⟩;have iW:∀(l:List ad)(rs:List ((V×Wr)×List Nat))(k:Nat)(σ:St),(∀j,k≤j→(decide (j<i0))=false)→aB (fun j=>decide (j<i0)) k l rs σ=σ:=by
     intro l rs k σ hk;induction l generalizing rs k with
      |nil=>simp[aB]
      |cons o l ih=>
       cases rs with
        |nil=>simp[aB]
        |cons r rs=>simp only[aB,hk k (aaQ _),aaX];exact ih rs (k+1) (fun j hj=>hk j (by omega))
    cases i with
     |zero=>
      simp at iV;subst iV;refine⟨_,rfl,?_,?_⟩
      ·simp only[abN];rw[iW _ _ _ _ (fun j hj=>by simp;omega)];exact hr
      ·simp only[abN];rw[iW _ _ _ _ (fun j hj=>by simp;omega)]
     |succ i=>
      simp at iV;obtain⟨r',h3,h4,h5⟩:=h2 i o' iV;have e:i0+(i+1)=i0+1+i:=by omega
      refine⟨r',by simpa using h3,?_,?_ ⟩
      ·simp only[aB,e,show decide (i0<i0+1+i)=true by simp;omega,aaH];exact h4
      ·simp only[aB,e,show decide (i0<i0+1+i)=true by simp;omega,aaH];exact h5
end
end Fw
/-
  A region whose order is drawn: whatever the order, the end is that of the text's order.
-/
namespace Fw
open Go
section
variable {P:Program}{GL:cj}
theorem R.congr{g:G}{w:World}{a:Act}{σ aS:St}(h:R GL g w a σ)(hn:aS.n=σ.n)(ht:∀t,get aS.tm t=get σ.tm t)(hh:aS.hp=σ.hp):R GL g w a aS:=⟨h.defers,by rw[h.size,hn],fun t=>by rw[ht t];exact h.tmps t,by rw[hh];exact h.heap,h.eg⟩
theorem R.drawn{g:G}{w:World}{a:Act}{σ:St}(h:R GL g w a σ)(n:Nat):R GL g {w with drawn:=n} a σ:=⟨h.defers,h.size,fun t=>RV.ext (cr.drawn g w n) _ _ (h.tmps t),h.heap.ext (cr.drawn g w n) (fun _ _ _ _ _=>rfl),h.eg.ext (cr.drawn g w n)⟩
theorem yX(H:ai)(n b:Nat):aE (H++List.replicate n none) b=aE H b:=by
 induction H generalizing b with
  |nil=>
   simp only[abV];induction n generalizing b with
    |zero=>rfl
    |succ n ih=>cases b<;>simp[List.replicate_succ,aE];rw[ih];simp[aE]
  |cons y H ih=>cases b<;>simp[aE,ih]
theorem az.pad{g:G}{w:World}{H:ai}(h:az g w H)(n:Nat):az g w (H++List.replicate n none):=⟨fun b hb=>by have:=h.cR b hb;simp;omega,fun b x hx=>by obtain⟨h1,y,h2,h3⟩:=h.live b x hx;exact⟨h1,y,by rw[yX];exact h2,h3⟩,fun b y hy=>h.back b y (by rwa[yX]at hy),h.inj,h.fo⟩
theorem R.pad{g:G}{w:World}{a:Act}{σ:St}(h:R GL g w a σ)(n:Nat):R GL g w a ⟨σ.n,σ.tm,σ.hp++List.replicate n none⟩:=⟨h.defers,h.size,h.tmps,h.heap.pad n,h.eg⟩
theorem mH:∀{H H':ai},H.length=H'.length→(∀b,aE H b=aE H' b)→H=H'
 |[],[],_,_=>rfl
 |x::H,y::H',hl,h=>by have h0:x=y:=h 0;have ih:H=H':=mH (by simpa using hl) (fun b=>h (b+1));rw[h0,ih]
 |[],_::_,hl,_=>by simp at hl
 |_::_,[],hl,_=>by simp at hl
structure Bo (ds:List lW) (rl:Nat→Nat→Prop):Prop where
 before:∀(j:Nat)(d:lW),ds[j]? =some d→∀e∈d.after,e<j
 reach:∀(j i:Nat),rl j i→∃d,ds[j]? =some d∧∃e∈d.after,i=e∨rl e i
 meets:∀(i j:Nat)(x y:lW),i<j→ds[i]? =some x→ds[j]? =some y→hO x y=true→rl j i
theorem Bp(i j:Nat):Nat.testBit (Nat.shiftLeft 1 i) j=decide (i=j):=by
 show Nat.testBit (1<<<i) j=_;rw[Nat.testBit_shiftLeft];by_cases h:i=j
 ·subst h;simp
 ·by_cases h2:j≥i
  ·have:j - i≠0:=by omega
   have e:Nat.testBit 1 (j - i)=false:=Nat.testBit_lt_two_pow (Nat.one_lt_two_pow this);simp[h,h2,e]
  ·simp[h,h2]
theorem Hj(a b j:Nat):Nat.testBit (Nat.lor a b) j=(Nat.testBit a j||Nat.testBit b j):=Nat.testBit_or a b j
theorem Hk(a b j:Nat):Nat.testBit (Nat.land a b) j=(Nat.testBit a j&&Nat.testBit b j):=Nat.testBit_and a b j
theorem pv{t:Nat}:∀{l:List Nat},Nat.testBit (nX l) t=true↔t∈l
 |[]=>by simp[nX]
 |s::l=>by
  simp only[nX,Hj,Bp,abq,aaN,pv (l:=l),aa'];constructor
  ·rintro(h|h)
   ·exact .inl h.symm
   ·exact .inr h
  ·rintro(h|h)
   ·exact .inl h.symm
   ·exact .inr h
theorem mI{t:Nat}{x:Option Nat}:Nat.testBit (pt x) t=true↔x=some t:=by
 cases x with
  |none=>simp[pt]
  |some s=>rw[pt,Bp];simp
theorem dS:∀{l:List ad}{j:Nat}{acc:List (Nat×Nat)},(cT j acc l).length=l.length|[],_,_=>rfl|_::l,_,_=>by simp[cT,dS (l:=l)]
theorem tu{acc:List (Nat×Nat)}{i:Nat}:∀{es:List Nat},Nat.testBit (lE acc es) i=true→∃e∈es,i=e∨Nat.testBit (mF e acc) i=true
 |[],h=>by simp[lE]at h
 |e::es,h=>by
  simp only[lE,Hj,Bp,abq,aaN]at h;rcases h with(h|h)|h
  ·exact⟨e,ab',.inl h.symm⟩
  ·exact⟨e,ab',.inr h⟩
  ·obtain⟨e',h1,h2⟩:=tu h;exact⟨e',ab0 _ h1,h2⟩
theorem lF:∀{l:List ad}{j0:Nat}{acc:List (Nat×Nat)},kR j0 l=true→(∀e m,mF e acc=m→m≠0→e<j0)→∀k (o:ad),l[k]? =some o→∀i,Nat.testBit ((cT j0 acc l).getD k 0) i=true→∃e∈o.after,i=e∨(e<j0∧Nat.testBit (mF e acc) i=true)∨(j0≤e∧Nat.testBit ((cT j0 acc l).getD (e - j0) 0) i=true)
 |[],_,_,_,_,k,o,ho,_,_=>by simp at ho
 |o::l,j0,acc,hb,NY,0,o',ho,i,hi=>by
  simp at ho;subst ho;simp only[cT,List.getD_cons_zero]at hi;obtain⟨e,h1,h2⟩:=tu hi;refine⟨e,h1,?_⟩;rcases h2 with h2|h2
  ·exact .inl h2
  ·refine .inr (.inl ⟨NY e _ rfl (fun h0=>by rw[h0]at h2;simp at h2),h2⟩)
 |o::l,j0,acc,hb,NY,k+1,o',ho,i,hi=>by
  simp only[kR,aaD]at hb;simp at ho;simp only[cT,adp]at hi⊢;have Rm:∀e m,mF e ((j0,lE acc o.after)::acc)=m→m≠0→e<j0+1:=by
   intro e m hm et;simp only[mF]at hm;by_cases he:j0=e
   ·omega
   ·rw[cG he,aaX]at hm;have:=NY e m hm et;omega
  obtain⟨e,h1,h2⟩:=lF (l:=l) hb.2 Rm k o' ho i hi;refine⟨e,h1,?_⟩;rcases h2 with h2|⟨h2,h3⟩|⟨h2,h3⟩
  ·exact .inl h2
  ·simp only[mF]at h3;by_cases he:j0=e
   ·subst he;simp only[aa0,aaH]at h3;exact .inr (.inr ⟨aaQ _,by simpa using h3⟩)
   ·rw[cG he,aaX]at h3;exact .inr (.inl ⟨by omega,h3⟩)
  ·refine .inr (.inr ⟨by omega,?_ ⟩);rw[show e - j0=(e - (j0+1))+1 by omega,adp];exact h3
theorem jz:∀{l:List ad}{j0:Nat},kR j0 l=true→∀(k:Nat)(o:ad),l[k]? =some o→∀e∈o.after,e<j0+k
 |[],_,_,k,o,ho,_,_=>by simp at ho
 |o::l,j0,hb,0,o',ho,e,he=>by simp at ho;subst ho;simp only[kR,aaD,aaR]at hb;have:=hb.1 e he;rw[aaT]at this;omega
 |o::l,j0,hb,k+1,o',ho,e,he=>by simp at ho;simp only[kR,aaD]at hb;have:=jz hb.2 k o' ho e he;omega
def Hl(W L w k:Nat):Prop:=∃t,(Nat.testBit w t=true∧(Nat.testBit L t=true∨Nat.testBit W t=true))∨(Nat.testBit k t=true∧Nat.testBit W t=true)
theorem tv{W L R:Nat}:∀{pre:List (Nat×Nat×Nat)},C_ W L R pre=true→∀i w k,(i,w,k)∈pre→Hl W L w k→Nat.testBit R i=true
 |[],_,i,w,k,h,_=>by simp at h
 |(i0,w0,k0)::A',hr,i,w,k,h,hc=>by
  simp only[C_,aaD,abq]at hr;rcases aa'.1 h with h|h
  ·simp only[aaF]at h;obtain⟨rfl,rfl,rfl⟩:=h;rcases hr.1 with h1|h1
   ·exfalso;have h0:=aaI h1;obtain⟨t,ht⟩:=hc;have:Nat.testBit (Nat.lor (Nat.land w (Nat.lor L W)) (Nat.land k W)) t=true:=by simp only[Hj,Hk,abq,aaD];exact ht
    rw[h0]at this;simp at this
   ·have h0:=aaI h1;have e:Nat.testBit R i=decide (Nat.land (Nat.shiftRight R i) 1=1):=by show((1&&&(R>>>i))!=0)=decide ((R>>>i)&&&1=1);rw[Nat.and_comm,acj];rcases abR (R>>>i)with h|h<;>simp[h]
    rw[e,h0];simp
  ·exact tv hr.2 i w k h hc
theorem tw:∀{ms:List (Nat×Nat)}{rs:List Nat}{j0:Nat}{pre:List (Nat×Nat×Nat)},KG j0 pre ms rs=true→ms.length≤rs.length→∀(j:Nat)(W L:Nat),ms[j]? =some (W,L)→(∀i w k,(i,w,k)∈pre→Hl W L w k→Nat.testBit (rs.getD j 0) i=true)∧∀(i:Nat)(w k:Nat),i<j→ms[i]? =some (w,k)→Hl W L w k→Nat.testBit (rs.getD j 0) (j0+i)=true
 |[],_,_,_,_,_,j,W,L,h=>by simp at h
 |(W0,L0)::ms,[],_,_,_,hl,j,W,L,h=>by simp at hl
 |(W0,L0)::ms,R::rs,j0,pre,hg,hl,0,W,L,h=>by simp at h;obtain⟨rfl,rfl⟩:=h;simp only[KG,aaD]at hg;exact⟨fun i w k hm hc=>by simpa using tv hg.1 i w k hm hc,fun i w k hi=>by omega⟩
 |(W0,L0)::ms,R::rs,j0,pre,hg,hl,j+1,W,L,h=>by
  simp at h;simp only[KG,aaD]at hg;obtain⟨h1,h2⟩:=tw hg.2 (by simpa using hl) j W L h;refine⟨fun i w k hm hc=>by simpa using h1 i w k (ab0 _ hm) hc,fun i w k hi hm hc=>?_ ⟩;cases i with
   |zero=>simp at hm;obtain⟨rfl,rfl⟩:=hm;simpa using h1 j0 _ _ ab' hc
   |succ i=>simp at hm;have:=h2 i w k (by omega) hm hc;rw[show j0+(i+1)=j0+1+i by omega];simpa using this
theorem qv:∀{rs:List ((V×Wr)×List Nat)},tq rs=true→∀r∈rs,bq r.1.2=none
 |[],_,r,h=>by simp at h
 |x::rs,hn,r,h=>by
  simp only[tq]at hn;split at hn
  ·rename_i hx;rcases aa'.1 h with rfl|h
   ·rw[hx];rfl
   ·exact qv hn r h
  ·cases hn
theorem bz:∀{l:List ad}{rs:List ((V×Wr)×List Nat)}{i:Nat}{o:ad}{r:(V×Wr)×List Nat},l[i]? =some o→rs[i]? =some r→(gS l rs)[i]? =some {dst:=o.dst,lk:=dD o,rd:=r.2,ws:=bq r.1.2,after:=o.after}
 |[],_,_,_,_,h,_=>by simp at h
 |_::_,[],_,_,_,_,h=>by simp at h
 |o::l,r::rs,0,_,_,h1,h2=>by simp at h1 h2;subst h1;subst h2;simp[gS]
 |o::l,r::rs,i+1,_,_,h1,h2=>by simp at h1 h2;simp[gS];exact bz h1 h2
theorem jk:∀{l:List ad}{rs:List ((V×Wr)×List Nat)}{i:Nat}{d:lW},(gS l rs)[i]? =some d→∃o r,l[i]? =some o∧rs[i]? =some r∧d={dst:=o.dst,lk:=dD o,rd:=r.2,ws:=bq r.1.2,after:=o.after}
 |[],_,_,_,h=>by simp[gS]at h
 |_::_,[],_,_,h=>by simp[gS]at h
 |o::l,r::rs,0,d,h=>by simp[gS]at h;exact⟨o,r,rfl,rfl,h.symm⟩
 |o::l,r::rs,i+1,d,h=>by simp[gS]at h;simpa using jk h
theorem kg{l:List ad}{rs:List ((V×Wr)×List Nat)}(h:c6 l rs=true)(hlen:rs.length=l.length):Bo (gS l rs) (fun j i=>Nat.testBit ((cT 0 [] l).getD j 0) i=true):=by
 simp only[c6,oh,aaD,abq]at h;obtain⟨⟨h1,h2⟩,h3⟩:=h;refine⟨fun j d hd e he=>?_,fun j i hi=>?_,fun i j x y KC hx hy hm=>?_ ⟩
 ·obtain⟨o,r,ho,hr,rfl⟩:=jk hd;have:=jz h1 j o ho e he;omega
 ·have hj:j<l.length:=by
   rcases abm j l.length with h|h
   ·exact h
   ·rw[aa7,acO (by rw[dS];exact h)]at hi;simp at hi
  have ho:l[j]? =some l[j]:=aaG hj;have hr:rs[j]? =some (rs[j]'(by omega)):=aaG _;obtain⟨e,h4,h5⟩:=lF h1 (fun e m hm et=>by simp[mF]at hm;exact absurd hm.symm et) j _ ho i hi;refine⟨_,bz ho hr,e,h4,?_⟩;rcases h5 with h5|⟨h5,h6⟩|⟨h5,h6⟩
  ·exact .inl h5
  ·simp[mF]at h6
  ·exact .inr (by simpa using h6)
 ·obtain⟨o,r,ho,hr,rfl⟩:=jk hx;obtain⟨o',r',iV,vz,rfl⟩:=jk hy;have k1:=(tw h2 (by simp[Da,dS]) j (pt o'.dst) (nX (dD o')) (by simp[Da,iV])).2 i (pt o.dst) (nX (dD o)) KC (by simp[Da,ho]);simp only[aaU]at k1;simp only[hO,abq,jb,dm]at hm;have Ww:(∃b,(bq r.1.2=some b∧(b∈r'.2∨bq r'.1.2=some b))∨(b∈r.2∧bq r'.1.2=some b))→Nat.testBit ((cT 0 [] l).getD j 0) i=true:=by
   rintro⟨b,hb⟩;rcases h3 with h3|h3
   ·have e1:=qv h3 r (aaO hr);have e2:=qv h3 r' (aaO vz);rw[e1,e2]at hb;simp at hb
   ·have k2:=(tw h3 (by simp[Bm,dS,hlen]) j (pt (bq r'.1.2)) (nX r'.2) (by simp[Bm,vz])).2 i (pt (bq r.1.2)) (nX r.2) KC (by simp[Bm,hr]);simp only[aaU]at k2;refine k2 ⟨b,?_⟩;simp only[mI,pv];exact hb
  rcases hm with((((⟨t,e1,e2⟩|⟨t,e1,e2⟩)|⟨t,e1,e2⟩)|⟨t,e1,e2⟩)|⟨t,e1,e2⟩)|⟨t,e1,e2⟩
  ·exact k1 ⟨t,.inl ⟨mI.2 e1,.inl (pv.2 e2)⟩⟩
  ·exact k1 ⟨t,.inr ⟨pv.2 e2,mI.2 e1⟩⟩
  ·exact k1 ⟨t,.inl ⟨mI.2 e1,.inr (mI.2 e2)⟩⟩
  ·exact Ww ⟨t,.inl ⟨e1,.inl e2⟩⟩
  ·exact Ww ⟨t,.inr ⟨e2,e1⟩⟩
  ·exact Ww ⟨t,.inl ⟨e1,.inr e2⟩⟩
def hU(l:List ad)(K:Nat→Bool):Prop:=∀(j:Nat)(o:ad),l[j]? =some o→K j=true→∀e∈o.after,K e=true
theorem hU.reach{l:List ad}{rs:List ((V×Wr)×List Nat)}{rl:Nat→Nat→Prop}{K:Nat→Bool}(hl:Bo (gS l rs) rl)(hK:hU l K):∀(j i:Nat),rl j i→K j=true→K i=true:=by
 intro j;induction j using Nat.strongRecOn with
  |_ j ih=>
   intro i hr hj;obtain⟨d,hd,e,he,h⟩:=hl.reach j i hr;obtain⟨o,r,ho,_,rfl⟩:=jk hd;have Rn:=hK j o ho hj e he;rcases h with rfl|h
   ·exact Rn
   ·exact ih e (hl.before j _ hd e he) i h Rn
theorem agree{l:List ad}{rs:List ((V×Wr)×List Nat)}{rl:Nat→Nat→Prop}{K:Nat→Bool}(hl:Bo (gS l rs) rl)(hK:hU l K){i:Nat}{o:ad}(ho:l[i]? =some o)(hi:K i=false)(dI:∀e∈o.after,K e=true){j:Nat}{x y:lW}(hx:(gS l rs)[i]? =some x)(hy:(gS l rs)[j]? =some y)(hm:hO x y=true)(hm':hO y x=true):K j=decide (j<i):=by
 rcases adB j i with hj|hj|hj
 ·simp only[hj,decide_true];have hr:=hl.meets j i y x hj hy hx hm';obtain⟨d,hd,e,he,h⟩:=hl.reach i j hr;obtain⟨o',r,iV,_,rfl⟩:=jk hd;rw[ho]at iV;simp only[aaC]at iV;subst iV;rcases h with rfl|h
  ·exact dI _ he
  ·exact hU.reach hl hK e j h (dI e he)
 ·subst hj;simp[hi]
 ·have hr:=hl.meets i j x y hj hx hy hm;have:decide (j<i)=false:=by simp;omega
  rw[this];cases hk:K j with
   |false=>rfl
   |true=>rw[hU.reach hl hK j i hr hk]at hi;cases hi
theorem nv(x y:lW):hO x y=hO y x:=by
 have h1:gT x.dst y.dst=gT y.dst x.dst:=by rw[aa_,dm,dm];constructor<;>(rintro⟨n,h,k⟩;exact⟨n,k,h⟩)
 have h2:gT x.ws y.ws=gT y.ws x.ws:=by rw[aa_,dm,dm];constructor<;>(rintro⟨n,h,k⟩;exact⟨n,k,h⟩)
 unfold hO;rw[h1,h2];cases nW x.dst y.lk<;>cases nW y.dst x.lk<;>cases gT y.dst x.dst<;>cases nW x.ws y.rd<;>cases nW y.ws x.rd<;>cases gT y.ws x.ws<;>rfl
theorem gw{gd:Option (Nat×Bool)}{tm a7:List (Nat×V)}(h:∀d w,gd=some (d,w)→get a7 d=get tm d):ar gd a7=ar gd tm:=by
 cases gd with
  |none=>rfl
  |some p=>obtain⟨d,w⟩:=p;simp only[ar,h d w rfl]
theorem kV{tm a7:List (Nat×V)}{x:ba}(h:∀t,Rl x=some t→get a7 t=get tm t):aX GL a7 x=aX GL tm x:=by
 cases x with
  |t n=>exact h n rfl
  |_=>rfl
theorem lG{tm a7:List (Nat×V)}{H H':ai}{ns:Nat}{o:ad}{cv:Option V}(h1:∀t∈dD o,get a7 t=get tm t)(h2:∀b∈lC (aX GL tm) o.op,aE H' b=aE H b):eX GL a7 H' ns o cv=eX GL tm H ns o cv:=by
 have hg:ar o.guard a7=ar o.guard tm:=gw (fun d w hd=>h1 d (by simp[dD,hd]));have he:∀x∈looks o.op,aX GL a7 x=aX GL tm x:=fun x hx=>kV (fun t ht=>h1 t (by simp only[dD,abc,acE];exact .inl ⟨x,hx,ht⟩))
 unfold eX;rw[hg,EG he h2,Bl he]
theorem RV.eO{g:G}{w:World}{H:ai}(hh:az g w H):∀b x k,g.γ b=some x→x.own=some k→k<w.heap.size:=by intro b x k hx hk;obtain⟨_,y,_,h3⟩:=hh.live b x hx;exact h3.lt k hk
def gU(P:Program)(GL:cj)(f:FuncId)(args:List V)(H:ai)(v:V):Prop:=ao P f=true∧∀H',(∀b∈args.flatMap bX,aE H' b=aE H b)→∀g w (vs:Array Value),aV g w args vs.toList→az g w H'→gn GL g w→Calls P f vs w fun e w'=>∃x,e=.returned x∧RV g w' v x∧cr g w g w'∧az g w' H'
theorem PC.rF{f:FuncId}{args:List V}{H:ai}{v:V}(h:PC P GL f args v):gU P GL f args H v:=by refine⟨h.1,fun H' _ g w vs dX hh hg=>(h.2 g w vs dX (fun k hk=>(hh.fo k hk).1) (RV.eO hh) hg).mono ?_ ⟩;rintro e w' ⟨x,rfl,hx,he,jx⟩;exact⟨x,rfl,hx,he,hh.ext he jx⟩
theorem gU.congr{f:FuncId}{args:List V}{H H2:ai}{v:V}(h:gU P GL f args H v)(hh:∀b∈args.flatMap bX,aE H2 b=aE H b):gU P GL f args H2 v:=⟨h.1,fun H' h'=>h.2 H' (fun b hb=>(h' b hb).trans (hh b hb))⟩
theorem sD{o:ad}{o':Oper}{ops:Array Oper}{ns:Nat}{cv:Option V}{v:V}{wr:Wr}{g:G}{w:World}{a:Act}{σ:St}(eH:(bD P o'.op).getD .bad=o.op)(lz:fR ops.toList o'=some o.guard)(dY:o'.dst=o.dst)(h1:eX GL σ.tm σ.hp ns o cv=some (v,wr))(hq:∀f args,bA o.op=some (f,args)→ar o.guard σ.tm=some true→gU P GL f (bh (aX GL σ.tm) args) σ.hp v)(hr:R GL g w a σ)(jt:js g ns)(hd:∀d,o.dst=some d→d<σ.n)(K:Act→World→Prop)(Q':Exit→Act→World→Prop)(hK:∀g' w' a',R GL g' w' a' (σ.fu o.dst v (aZ σ.hp wr))→cr g w g' w'→MG g g' ns→K a' w'):if Region.wanted o' (yielded ops a.tmps)then o'.wp P a w K Q' else K (a.put o'.dst undef) w:=by
 have bn:∀v H',σ.put o.dst v H'=some (σ.fu o.dst v H'):=by
  intro v H';cases ho:o.dst with
   |none=>rfl
   |some d=>
    have:Nat.blt d σ.n=true:=by rw[aaT];exact hd d ho
    simp[St.put,St.fu,this]
 unfold eX at h1;split at h1
 ·cases h1
 ·rename_i hg;simp only[aaC,aaF]at h1;obtain⟨rfl,rfl⟩:=h1;rw[dk hr lz hg,aaL (by simp),dY];exact hK g w _ (hr.gv (cr.refl _ _) hr.heap (bn _ _) (by simp only[RV];exact⟨#[],rfl,by simp[aV]⟩)) (cr.refl _ _) (fun _ h=>.inl h)
 ·rename_i hg;rw[dk hr lz hg,aaP rfl];split at h1
  ·rename_i fa hc;obtain⟨f,args⟩:=fa;cases cv with
    |none=>simp at h1
    |some cv=>
     simp at h1;obtain⟨rfl,rfl⟩:=h1;have hpc:=hq f args hc hg;have cD:o.op=.call f args:=by cases ho:o.op<;>rw[ho]at hc<;>simp[bA]at hc;obtain⟨rfl,rfl⟩:=hc;rfl
     rw[cD]at eH;obtain⟨c,kz,dL⟩:=fU (eR eH (by simp)) (.inl ⟨f,args,rfl⟩);have fe:c.callee=.value (.func f)∧bK av c.args.toList=some args:=by
      unfold dR at dL;split at dL;case h_6 f' Hi=>
       split at dL
       ·simp only[aaE,kI.call.injEq]at dL;obtain⟨l,hl,rfl,rfl⟩:=dL;exact⟨Hi,hl⟩
       ·cases dL
      all_goals exfalso
      all_goals first|(simp at dL;done)|(repeat' split at dL)<;>simp at dL
     have eL:(execOp a.eval o').run P w=.ok (.enter f (c.args.map a.eval)) w:=by have:=fg hpc.1 (c.args.map a.eval) w;simp[execOp,kz,resolve,fe.1,Act.eval,Deferred.ofValue,invoke,this]
     unfold Oper.wp;rw[eL];simp only[Oper.upon];refine(hpc.2 σ.hp (fun _ _=>rfl) g w _ (by simpa using iw hr.ev fe.2) hr.heap hr.eg).mono ?_;rintro e w' ⟨x,rfl,hx,he,jx⟩;simp only;rw[dY];exact hK g w' _ (hr.gv he jx (bn _ _) hx) he (fun _ h=>.inl h)
  ·split at h1
   ·simp only[aaE,aaF]at h1;obtain⟨v',fI,rfl,rfl⟩:=h1;obtain⟨w',x,k1,k2,k3,k4⟩:=qu (P:=P) (a:=a) (o:=o') (eR eH (fun e=>by rw[e]at fI;cases fI)) fI hr.ev hr.heap;unfold Oper.wp;rw[k1];simp only[Oper.upon];rw[dY];exact hK g w' _ (hr.gv k4 k3 (bn _ _) k2) k4 (fun _ h=>.inl h)
   ·obtain⟨g',w',nx,k1,k2,k3,k4,k5⟩:=tg (P:=P) (a:=a) (o:=o') (eR eH (fun e=>by rw[e]at h1;cases h1)) h1 hr.ev hr.heap jt;unfold Oper.wp;rw[k1];rcases k2 with⟨x,rfl,hx⟩|⟨rfl,rfl⟩
    ·simp only[Oper.upon];rw[dY];exact hK g' w' _ (hr.gv k4 k3 (bn _ _) hx) k4 k5
    ·simp only[Oper.upon];rw[dY];exact hK g' w' _ (hr.gv k4 k3 (bn _ _) (by simp only[RV])) k4 k5
def dw(K:Nat→Bool)(i:Nat):Nat→Bool:=fun j=>K j||decide (j=i)
theorem jc{K:Nat→Bool}{i t:Nat}:∀{l:List ad}{rs:List ((V×Wr)×List Nat)}{i0 k:Nat}{σ:St}{o:ad}{r:(V×Wr)×List Nat},i=i0+k→l[k]? =some o→rs[k]? =some r→K i=false→l.length=rs.length→(∀(j:Nat)(o':ad),l[j]? =some o'→j≠k→o'.dst=some t→o.dst=some t→K (i0+j)=true→j<k)→get (aB (dw K i) i0 l rs σ).tm t=if o.dst=some t then r.1.1 else get (aB K i0 l rs σ).tm t:=by
 intro l rs i0 k σ o r A9 ho hr hi hlen pw;by_cases hd:o.dst=some t
 ·rw[aaP hd];induction l generalizing rs i0 k σ with
   |nil=>simp at ho
   |cons p l ih=>
    cases rs with
     |nil=>simp at hr
     |cons q rs=>
      simp only[aB];cases k with
       |zero=>
        simp at ho hr A9;subst ho;subst hr;subst A9;have Hm:dw K i i=true:=by simp[dw]
        rw[Hm,aaH];have vA:∀(l':List ad)(C8:List ((V×Wr)×List Nat))(m:Nat)(s:St),(∀(j:Nat)(o':ad),l'[j]? =some o'→o'.dst=some t→dw K i (m+j)=false)→get (aB (dw K i) m l' C8 s).tm t=get s.tm t:=by
         intro l';induction l' with
          |nil=>intro C8 m s _;simp[aB]
          |cons p' l' Wx=>
           intro C8 m s hn;cases C8 with
            |nil=>simp[aB]
            |cons q' C8=>
             simp only[aB];rw[Wx C8 (m+1) _ (fun j o' h e=>by have:=hn (j+1) o' (by simpa using h) e;rwa[show m+(j+1)=m+1+j by omega]at this)];by_cases hs:p'.dst=some t
             ·have:=hn 0 p' rfl hs;simp at this;rw[this,aaX]
             ·cases dw K i m<;>simp[iF,hs]
        rw[vA _ _ _ _ (fun j o' h e=>by
         have hl:=pw (j+1) o' (by simpa using h) (by omega) e hd;have et:i+1+j≠i:=by omega
         simp only[dw,et,adE,Bool.or_false];cases hk:K (i+1+j)with
          |false=>rfl
          |true=>have:=hl (by rw[show i+(j+1)=i+1+j by omega];exact hk);omega)]
        simp[iF,hd]
       |succ k=>simp at ho hr;exact ih (by omega) ho hr (by simpa using hlen) (fun j o' h1 h2 h3 h4 h5=>by have:=pw (j+1) o' (by simpa using h1) (by omega) h3 h4 (by rw[show i0+(j+1)=i0+1+j by omega];exact h5);omega)
 ·rw[aaL hd];refine kT rfl (fun j o' h1 h2=>?_ );have:i0+j≠i:=by
   rintro rfl;have:j=k:=by omega
   subst this;rw[ho]at h1;simp only[aaC]at h1;subst h1;exact hd h2
  simp[dw,this]
theorem jd{K:Nat→Bool}{i b:Nat}:∀{l:List ad}{rs:List ((V×Wr)×List Nat)}{i0 k:Nat}{σ:St}{r:(V×Wr)×List Nat},l.length=rs.length→i=i0+k→rs[k]? =some r→K i=false→(∀(j:Nat)(r':(V×Wr)×List Nat),rs[j]? =some r'→j≠k→bq r'.1.2=some b→bq r.1.2=some b→K (i0+j)=true→j<k)→aE (aB (dw K i) i0 l rs σ).hp b=aE (aZ (aB K i0 l rs σ).hp r.1.2) b:=by
 intro l rs i0 k σ r hlen A9 hr hi pw;have Bn:∀(s:St)(o:ad)(q:(V×Wr)×List Nat),(s.fu o.dst q.1.1 (aZ s.hp q.1.2)).hp=aZ s.hp q.1.2:=by intro s o q;cases o.dst<;>rfl
 by_cases hd:bq r.1.2=some b
 ·have oj:aE (aZ (aB K i0 l rs σ).hp r.1.2) b=aE (aZ [] r.1.2) b:=by
   cases hw:r.1.2 with
    |none=>rw[hw]at hd;simp[bq]at hd
    |some p=>obtain⟨s,y⟩:=p;rw[hw]at hd;simp only[bq,aaC]at hd;subst hd;simp[aZ,eJ]
  rw[oj];clear oj;induction rs generalizing l i0 k σ with
   |nil=>simp at hr
   |cons q rs ih=>
    cases l with
     |nil=>simp at hlen
     |cons p l=>
      simp only[aB];cases k with
       |zero=>
        simp at hr A9;subst hr;subst A9;have Hm:dw K i i=true:=by simp[dw]
        rw[Hm,aaH];have vA:∀(C8:List ((V×Wr)×List Nat))(l':List ad)(m:Nat)(s:St),(∀(j:Nat)(r':(V×Wr)×List Nat),C8[j]? =some r'→bq r'.1.2=some b→dw K i (m+j)=false)→aE (aB (dw K i) m l' C8 s).hp b=aE s.hp b:=by
         intro C8;induction C8 with
          |nil=>intro l' m s _;cases l'<;>simp[aB]
          |cons q' C8 Wx=>
           intro l' m s hn;cases l' with
            |nil=>simp[aB]
            |cons p' l'=>
             simp only[aB];rw[Wx l' (m+1) _ (fun j r' h e=>by have:=hn (j+1) r' (by simpa using h) e;rwa[show m+(j+1)=m+1+j by omega]at this)];by_cases hs:bq q'.1.2=some b
             ·have:=hn 0 q' rfl hs;simp at this;rw[this,aaX]
             ·cases dw K i m with
               |false=>rfl
               |true=>
                simp only[aaH,Bn,nu];cases hw:q'.1.2 with
                 |none=>rfl
                 |some p=>obtain⟨c,y⟩:=p;rw[hw]at hs;simp only[bq,aaC]at hs;simp[acM hs]
        rw[vA _ _ _ _ (fun j r' h e=>by
         have hl:=pw (j+1) r' (by simpa using h) (by omega) e hd;have et:i+1+j≠i:=by omega
         simp only[dw,et,adE,Bool.or_false];cases hk:K (i+1+j)with
          |false=>rfl
          |true=>have:=hl (by rw[show i+(j+1)=i+1+j by omega];exact hk);omega)]
        rw[Bn];cases hw:q.1.2 with
         |none=>rw[hw]at hd;simp[bq]at hd
         |some p=>obtain⟨c,y⟩:=p;rw[hw]at hd;simp only[bq,aaC]at hd;subst hd;simp[aZ,eJ]
       |succ k=>simp at hr;exact ih (by simpa using hlen) (by omega) hr (fun j r' h1 h2 h3 h4 h5=>by have:=pw (j+1) r' (by simpa using h1) (by omega) h3 h4 (by rw[show i0+(j+1)=i0+1+j by omega];exact h5);omega)
 ·have oj:aE (aZ (aB K i0 l rs σ).hp r.1.2) b=aE (aB K i0 l rs σ).hp b:=by
   rw[nu];cases hw:r.1.2 with
    |none=>rfl
    |some p=>obtain⟨c,y⟩:=p;rw[hw]at hd;simp only[bq,aaC]at hd;simp[acM hd]
  rw[oj];refine kU rfl (fun j r' h1 h2=>?_ );have:i0+j≠i:=by
   rintro rfl;have:j=k:=by omega
   subst this;rw[hr]at h1;simp only[aaC]at h1;subst h1;exact hd h2
  simp[dw,this]
end
end Fw
/-
  A region whose order is drawn: the rule.
-/
namespace Fw
open Go
section
variable {P:Program}{GL:cj}
theorem bY{K K':Nat→Bool}:∀{l:List ad}{rs:List ((V×Wr)×List Nat)}{i:Nat}{σ:St},(∀j,j<l.length→K (i+j)=K' (i+j))→aB K i l rs σ=aB K' i l rs σ
 |[],_,_,_,_=>by simp[aB]
 |_::_,[],_,_,_=>by simp[aB]
 |o::l,r::rs,i,σ,h=>by simp only[aB];have h0:=h 0 (by simp);simp at h0;rw[h0];exact bY (fun j hj=>by have:=h (j+1) (by simp;omega);rwa[show i+(j+1)=i+1+j by omega]at this)
theorem dn{K:Nat→Bool}{m:Nat}:∀{l:List ad}{rs:List ((V×Wr)×List Nat)}{i:Nat}{σ:St},σ.hp.length=m→(∀r∈rs,∀b,bq r.1.2=some b→b<m)→(aB K i l rs σ).hp.length=m
 |[],_,_,_,h,_=>by simpa[aB]using h
 |_::_,[],_,_,h,_=>by simpa[aB]using h
 |o::l,r::rs,i,σ,h,hs=>by
  simp only[aB];refine dn ?_ (fun r' vz=>hs r' (by simp[vz]));cases K i with
   |false=>exact h
   |true=>
    have Bn:(σ.fu o.dst r.1.1 (aZ σ.hp r.1.2)).hp=aZ σ.hp r.1.2:=by cases o.dst<;>rfl
    simp only[aaH,Bn];cases hw:r.1.2 with
     |none=>exact h
     |some p=>obtain⟨b,y⟩:=p;have hb:=hs r (by simp) b (by rw[hw];rfl);simp only[aZ];rw[eY (by omega)];exact h
theorem hY{ops:Array Oper}{l:List ad}(hc:i_ P ops.toList true ops.toList=some l):l.length=ops.size∧∀(i:Nat)(o':Oper),ops[i]? =some o'→∃o:ad,l[i]? =some o∧(bD P o'.op).getD .bad=o.op∧fR ops.toList o'=some o.guard∧o'.dst=o.dst∧o.after=cC o':=by
 refine⟨by have:=cV hc;simpa using this.symm,fun i o' iV=>?_ ⟩;obtain⟨o,h1,h2⟩:=ju i o' hc (by simpa using iV);refine⟨o,h1,?_⟩;unfold fC at h2;split at h2
 ·rename_i gd h4;simp only[aaC]at h2;subst h2;exact⟨rfl,h4,rfl,by simp⟩
 ·cases h2
def eZ(n:Nat)(l:List ad):Bool:=l.all fun o=>match o.dst with|some d=>Nat.blt d n|none=>true
def dT(m:Nat)(rs:List ((V×Wr)×List Nat)):Bool:=rs.all fun r=>match bq r.1.2 with|some b=>Nat.blt b m|none=>true
def dE(l:List ad)(rs:List ((V×Wr)×List Nat))(σ:St)(i:Nat):St:=aB (fun j=>decide (j<i)) 0 l rs σ
def ca(σ:St)(n:Nat):St:=⟨σ.n,σ.tm,σ.hp++List.replicate n none⟩
theorem WC.draw{l:List ad}{σ:St}{Q:Ex→St→Prop}{qc:Nat→Option V}{rs:List ((V×Wr)×List Nat)}(hm:P.follows .mixedOrders=true)(eL:mg GL σ.hp.length qc 0 l (ca σ l.length)=some rs)(eF:c6 l rs=true)(dY:eZ σ.n l=true)(px:dT (σ.hp.length+l.length) rs=true)(hq:∀(i:Nat)(o:ad)(r:(V×Wr)×List Nat),l[i]? =some o→rs[i]? =some r→∀f args,bA o.op=some (f,args)→ar o.guard (dE l rs (ca σ l.length) i).tm=some true→gU P GL f (bh (aX GL (dE l rs (ca σ l.length) i).tm) args) (dE l rs (ca σ l.length) i).hp r.1.1)(h:Q .normal (aB (fun _=>true) 0 l rs (ca σ l.length))):WC P GL (.draw l) σ Q:=by
 intro code hc g w sB hr;obtain⟨id,ops,rfl,hl⟩:∃id ops,code=.region id ops true∧i_ P ops.toList true ops.toList=some l:=by
  cases code with
   |region id ops draw=>
    simp only[aJ]at hc;split at hc
    ·rename_i l' GG;cases draw with
      |false=>simp at hc
      |true=>simp at hc;subst hc;exact⟨id,ops,rfl,GG⟩
    ·cases hc
   |seq=>simp only[aJ]at hc;split at hc<;>simp at hc
   |cond=>simp only[aJ]at hc;split at hc<;>simp at hc
   |_=>simp[aJ]at hc
 obtain⟨hlen,dL⟩:=hY hl;obtain⟨NZ,N0⟩:=mG eL;have yY:=kg eF NZ;have tx:∀(i:Nat)(o:ad),l[i]? =some o→∀d,o.dst=some d→d<σ.n:=by intro i o ho d hd;have:=(aaR.1 dY) o (aaO ho);rw[hd]at this;simpa[aaT]using this
 have dr:∀r∈rs,∀b,bq r.1.2=some b→b<σ.hp.length+l.length:=by intro r hr b hb;have:=(aaR.1 px) r hr;rw[hb]at this;simpa[aaT]using this
 generalize oo:ca σ l.length=dz at*;have nM:dz.hp.length=σ.hp.length+l.length:=by rw[←oo];simp[ca]
 have N1:dz.n=σ.n:=by rw[←oo];rfl
 refine wp_region_any hm ?_;have key:∀(dp:Nat)(listed:Array Bool)(g1:G)(w1:World)(a1:Act),listed.size=ops.size→((List.range ops.size).filter fun j=> !listed.getD j false).length=dp→hU l (fun j=>listed.getD j false)→R GL g1 w1 a1 (aB (fun j=>listed.getD j false) 0 l rs dz)→cr g w g1 w1→(∀b,g1.cR b→b<σ.hp.length∨∃j,listed.getD j false=true∧b=σ.hp.length+j)→wpAny P .any ops (cA GL g w Q) dp listed a1 w1:=by
  intro dp;induction dp with
   |zero=>
    intro listed g1 w1 a1 cB iG iE hR hE gY;have jA:∀j,j<ops.size→listed.getD j false=true:=by intro j hj;have:=abY iG;rw[abn]at this;have:=this j (by simpa using hj);simpa using this
    refine⟨?_,g1,_,hR.congr rfl (fun _=>rfl) rfl,hE,?_⟩
    ·unfold Region.ready;rw[abn];intro j hj;simp only[abb]at hj;have h1:=jA j hj;have h2:listed.getD j true=true:=by rw[aaJ]at h1⊢;rw[Array.getElem?_eq_getElem (by omega)]at h1⊢;exact h1
     simp[h2]
    ·rw[bY (K':=fun _=>true) (fun j hj=>by simp only[aaU];exact jA j (by omega))];exact h
   |succ dp ih=>
    intro listed g1 w1 a1 cB iG iE hR hE gY;constructor
    ·intro oq;exfalso;have u6:∃j,j<ops.size∧listed.getD j false=false:=by
      have et:((List.range ops.size).filter fun j=> !listed.getD j false)≠[]:=by intro e;rw[e]at iG;simp at iG
      obtain⟨j,hj⟩:=acr _ et;rw[aaZ]at hj;exact⟨j,by simpa using hj.1,by simpa using hj.2⟩
     obtain⟨j,⟨GK,sA⟩,yS⟩:=vv u6;have Hn:ops[j]? =some ops[j]:=Array.getElem?_eq_getElem GK;obtain⟨o,ho,_,_,_,iQ⟩:=dL j _ Hn;have Wy:j<rs.length:=by omega
     have sF:=bz ho (aaG Wy);have:j∈Region.ready .any ops listed:=by
      unfold Region.ready;rw[aaZ];refine⟨by simpa using GK,?_ ⟩;have h2:listed.getD j true=false:=by rw[aaJ]at sA⊢;rw[Array.getElem?_eq_getElem (by omega)]at sA⊢;exact sA
      simp only[h2,abD,aa2,Hn,aaV,abe,aa3];intro e he;cases hb:Region.binds .any e with
       |false=>rfl
       |true=>
        simp only[abp,abM];have GM:e.on∈o.after:=by rw[iQ];simp only[cC,aa8,aaZ];exact⟨e,⟨by simpa using he,hb⟩,rfl⟩
        have bS:=yY.before j _ sF e.on GM;cases Qj:listed.getD e.on false with
         |true=>rfl
         |false=>have:=yS e.on ⟨by omega,Qj⟩;omega
     rw[oq]at this;cases this
    ·intro i hi;unfold Region.ready at hi;rw[aaZ]at hi;have sF:i<ops.size:=by simpa using hi.1
     have tz:ops[i]? =some ops[i]:=Array.getElem?_eq_getElem sF;have lA:=hi.2;simp only[aaD,abj,tz,aaV,abe,aa3]at lA;obtain⟨o,ho,eH,lz,hd,iQ⟩:=dL i _ tz;have Ho:i<rs.length:=by omega
     have tA:rs[i]? =some rs[i]:=aaG Ho;obtain⟨r,ka,wZ,EH⟩:=N0 i o ho;rw[tA]at ka;simp only[aaC]at ka;simp only[aaU]at wZ EH;have rG:listed.getD i false=false:=by have:=lA.1;rw[aaJ]at this⊢;rw[Array.getElem?_eq_getElem (by omega)]at this⊢;exact this
     have dI:∀e∈o.after,listed.getD e false=true:=by intro e he;rw[iQ]at he;simp only[cC,aa8,aaZ]at he;obtain⟨ed,⟨vD,sy⟩,rfl⟩:=he;have:=lA.2 ed (by simpa using vD);simpa[sy]using this
     have Bq:=bz ho tA;have nV:∀{j:Nat}{y:lW},(gS l rs)[j]? =some y→hO {dst:=o.dst,lk:=dD o,rd:=rs[i].2,ws:=bq rs[i].1.2,after:=o.after} y=true→listed.getD j false=decide (j<i):=fun hy hm=>agree yY iE ho rG dI Bq hy hm (by rw[nv];exact hm)
     have Br:∀t∈dD o,get (aB (fun j=>listed.getD j false) 0 l rs dz).tm t=get (dE l rs dz i).tm t:=by
      intro t ht;refine kT rfl (fun j o' h1 h2=>?_ );simp only[aaU];have Bs:j<rs.length:=by have:=(aaK.1 h1).1;omega
      have fM:=bz h1 (aaG Bs);refine nV fM ?_;unfold hO;have:nW o'.dst (dD o)=true:=jb.2 ⟨t,h2,ht⟩;simp[this]
     have Hq:∀b∈lC (aX GL (dE l rs dz i).tm) o.op,aE (aB (fun j=>listed.getD j false) 0 l rs dz).hp b=aE (dE l rs dz i).hp b:=by
      intro b hb;refine kU rfl (fun j r' h1 h2=>?_ );simp only[aaU];have qk:j<l.length:=by have:=(aaK.1 h1).1;omega
      have fM:=bz (aaG qk) h1;refine nV fM ?_;unfold hO;have:nW (bq r'.1.2) rs[i].2=true:=jb.2 ⟨b,h2,by rw[ka,EH];exact hb⟩;simp[this]
     have qw:=lG (GL:=GL) (ns:=σ.hp.length+i) (cv:=qc i) Br Hq;have Bt:eX GL (dE l rs dz i).tm (dE l rs dz i).hp (σ.hp.length+i) o (qc i)=some r.1:=wZ;rw[Bt]at qw;have Bu:∀x∈looks o.op,aX GL (aB (fun j=>listed.getD j false) 0 l rs dz).tm x=aX GL (dE l rs dz i).tm x:=fun x hx=>kV (fun t ht=>Br t (by simp only[dD,abc,acE];exact .inl ⟨x,hx,ht⟩))
     have N2:ar o.guard (aB (fun j=>listed.getD j false) 0 l rs dz).tm=ar o.guard (dE l rs dz i).tm:=gw (fun d w hd=>Br d (by simp[dD,hd]));unfold wpOp;simp only[tz];have sG:=sD (P:=P) (GL:=GL) (ops:=ops) (v:=r.1.1) (wr:=r.1.2) eH lz hd qw (fun f args hc C9=>by
      rw[N2]at C9;have:=hq i o rs[i] ho tA f args hc C9;rw[ka]at this;have MM:bh (aX GL (aB (fun j=>listed.getD j false) 0 l rs dz).tm) args=bh (aX GL (dE l rs dz i).tm) args:=by refine ei (fun x hx=>Bu x ?_ );cases mJ:o.op<;>rw[mJ]at hc<;>simp[bA]at hc;obtain⟨rfl,rfl⟩:=hc;simpa[looks]using hx
      rw[MM];refine this.congr (fun b hb=>Hq b ?_ );cases mJ:o.op<;>rw[mJ]at hc<;>simp[bA]at hc;obtain⟨rfl,rfl⟩:=hc;simpa only[lC]using hb) hR (by
      intro yW;rcases gY _ yW with h1|⟨j,h1,h2⟩
      ·omega
      ·have:j=i:=by omega
       subst this;rw[rG]at h1;cases h1) (fun d yW=>by rw[eS,N1];exact tx i o ho d yW) (wpAny P .any ops (cA GL g w Q) dp (listed.setIfInBounds i true)) (cA GL g w Q) (by
      intro g2 w2 a2 KH KI N3;have sc:∀j,(listed.setIfInBounds i true).getD j false=dw (fun j=>listed.getD j false) i j:=by
       intro j;simp only[dw,aaJ];by_cases hj:j=i
       ·subst hj;rw[aba (by omega)];simp
       ·rw[aa6 (by omega)];simp[hj]
      have mK:aB (fun j=>(listed.setIfInBounds i true).getD j false) 0 l rs dz=aB (dw (fun j=>listed.getD j false) i) 0 l rs dz:=bY (fun j _=>sc _);refine ih _ g2 w2 a2 (by simpa using cB) ?_ ?_ ?_ (hE.trans KI) ?_
      ·have e1:(fun j=> !(listed.setIfInBounds i true).getD j false)=fun j=> !listed.getD j false&& !decide (j=i):=by funext j;rw[sc j];simp[dw]
       rw[e1];have ou:∀(m:Nat)(f:Nat→Bool),i<m→f i=true→((List.range m).filter f).length=((List.range m).filter fun j=>f j&& !decide (j=i)).length+1:=by
        intro m f;induction m with
         |zero=>intro h;omega
         |succ m KJ=>
          intro ti Hr;rw[acF,abC,abC,aa1,aa1];rcases abm i m with h1|h1
          ·rw[KJ h1 Hr];have:m≠i:=by omega
           simp[abE,this];split<;>simp<;>omega
          ·have:m=i:=by omega
           subst this;have tB:(List.range m).filter f=(List.range m).filter fun j=>f j&& !decide (j=m):=by
            refine acJ (fun j hj=>?_ );have:j≠m:=by have:=abb.1 hj;omega
            simp[this]
           rw[←tB];simp[abE,Hr]
       have:=ou ops.size (fun j=> !listed.getD j false) sF (by simp[rG]);rw[iG]at this;omega
      ·intro j o' iV hj e he;simp only[sc]at hj⊢;simp only[dw,abq,aaN]at hj⊢;rcases hj with hj|rfl
       ·exact .inl (iE j o' iV hj e he)
       ·rw[ho]at iV;simp only[aaC]at iV;subst iV;exact .inl (dI e he)
      ·rw[mK];refine KH.congr ?_ (fun t=>?_ ) ?_
       ·rw[eS];have:∀(s:St)(v:V)(H:ai),(s.fu o.dst v H).n=s.n:=by intro s v H;cases o.dst<;>rfl
        rw[this,eS]
       ·rw[jc (k:=i) (by omega) ho tA rG (by omega) (fun j o' h1 h2 h3 h4 h5=>by
         simp only[aaU]at h5;have Bs:j<rs.length:=by have:=(aaK.1 h1).1;omega
         have fM:=bz h1 (aaG Bs);have:=nV fM (by unfold hO;have:gT o.dst o'.dst=true:=dm.2 ⟨t,h4,h3⟩;simp[this]);rw[h5]at this;simpa using this.symm),iF,ka]
       ·have Bn:∀(s:St)(v:V)(H:ai),(s.fu o.dst v H).hp=H:=by intro s v H;cases o.dst<;>rfl
        rw[Bn];refine mH ?_ (fun b=>?_ )
        ·rw[dn nM (by rw[←nM]at dr⊢;simpa[nM]using dr)];cases hw:r.1.2 with
          |none=>simp only[aZ];rw[dn nM (by simpa using dr)]
          |some p=>obtain⟨c,y⟩:=p;have hc:c<σ.hp.length+l.length:=dr rs[i] (abK Ho) c (by rw[ka,hw];rfl);have Kq:=dn (K:=fun j=>listed.getD j false) (i:=0) (l:=l) (rs:=rs) nM (by simpa using dr);simp only[aZ];rw[eY (by omega),Kq]
        ·have:=jd (K:=fun j=>listed.getD j false) (b:=b) (σ:=dz) (i0:=0) (k:=i) (l:=l) (by omega) (by omega) tA rG (fun j r' h1 h2 h3 h4 h5=>by
          simp only[aaU]at h5;have qk:j<l.length:=by have:=(aaK.1 h1).1;omega
          have fM:=bz (aaG qk) h1;have:=nV fM (by unfold hO;have:gT (bq rs[i].1.2) (bq r'.1.2)=true:=dm.2 ⟨b,h4,h3⟩;simp[this]);rw[h5]at this;simpa using this.symm)
         rw[this,ka]
      ·intro b hb;rcases N3 b hb with h1|rfl
       ·rcases gY b h1 with h2|⟨j,h2,h3⟩
        ·exact .inl h2
        ·exact .inr ⟨j,by rw[sc];simp[dw,h2],h3⟩
       ·exact .inr ⟨i,by rw[sc];simp[dw],rfl⟩)
     split
     ·rename_i hw;simp only[hw,abv]at sG;exact .inl sG
     ·rename_i hw;simp only[hw]at sG;exact sG
 have ey:∀j,(Array.replicate ops.size false).getD j false=false:=by intro j;rw[aaJ,acv];split<;>rfl
 have iW:aB (fun j=>(Array.replicate ops.size false).getD j false) 0 l rs dz=dz:=by
  have:∀(l:List ad)(rs:List ((V×Wr)×List Nat))(i:Nat)(s:St),aB (fun _=>false) i l rs s=s:=by
   intro l;induction l with
    |nil=>intro rs i s;simp[aB]
    |cons o l ih=>
     intro rs i s;cases rs with
      |nil=>simp[aB]
      |cons r rs=>simp only[aB,aaX];exact ih _ _ _
  rw[bY (K':=fun _=>false) (fun j _=>ey _)];exact this _ _ _ _
 refine key ops.size (Array.replicate ops.size false) g _ sB (by simp) ?_ ?_ ?_ (cr.drawn g w _) ?_
 ·simp only[ey,abD];rw[ab5.2 (by simp)];simp
 ·intro j o _ hj;simp only[ey]at hj;cases hj
 ·rw[iW,←oo];exact(hr.pad l.length).drawn _
 ·intro b hb;exact .inl (hr.heap.cR b hb)
end
end Fw
/-
  A drawn region whose last operation is a call that comes after all others.
-/
namespace Fw
open Go
section
variable {P:Program}{GL:cj}
theorem WC.Hs{l:List ad}{ot:ad}{ft:FuncId}{yZ:List ba}{σ:St}{Q:Ex→St→Prop}{qc:Nat→Option V}{rs:List ((V×Wr)×List Nat)}(hm:P.follows .mixedOrders=true)(eL:mg GL σ.hp.length qc 0 l (ca σ l.length)=some rs)(eF:c6 l rs=true)(dY:eZ σ.n l=true)(px:dT (σ.hp.length+l.length) rs=true)(hq:∀(i:Nat)(o:ad)(r:(V×Wr)×List Nat),l[i]? =some o→rs[i]? =some r→∀f args,bA o.op=some (f,args)→ar o.guard (dE l rs (ca σ l.length) i).tm=some true→gU P GL f (bh (aX GL (dE l rs (ca σ l.length) i).tm) args) (dE l rs (ca σ l.length) i).hp r.1.1)(Ht:ot.op=.call ft yZ)(N4:ot.guard=none)(KK:∀e∈ot.after,e<l.length)(N5:∀j,j<l.length→∃e∈ot.after,j=e∨Nat.testBit ((cT 0 [] l).getD e 0) j=true)(h:WF P GL ft (bh (aX GL (aB (fun _=>true) 0 l rs (ca σ l.length)).tm) yZ) (aB (fun _=>true) 0 l rs (ca σ l.length)).hp (fun v H'=>∃aS,(aB (fun _=>true) 0 l rs (ca σ l.length)).put ot.dst v H'=some aS∧Q .normal aS)):WC P GL (.draw (l++[ot])) σ Q:=by
 intro code hc g w sB hr;obtain⟨id,ops,rfl,hl⟩:∃id ops,code=.region id ops true∧i_ P ops.toList true ops.toList=some (l++[ot]):=by
  cases code with
   |region id ops draw=>
    simp only[aJ]at hc;split at hc
    ·rename_i l' GG;cases draw with
      |false=>simp at hc
      |true=>simp at hc;subst hc;exact⟨id,ops,rfl,GG⟩
    ·cases hc
   |seq=>simp only[aJ]at hc;split at hc<;>simp at hc
   |cond=>simp only[aJ]at hc;split at hc<;>simp at hc
   |_=>simp[aJ]at hc
 obtain⟨Hu,dL⟩:=hY hl;have hlen:l.length+1=ops.size:=by simpa using Hu
 obtain⟨NZ,N0⟩:=mG eL;have yY:=kg eF NZ;have tx:∀(i:Nat)(o:ad),l[i]? =some o→∀d,o.dst=some d→d<σ.n:=by intro i o ho d hd;have:=(aaR.1 dY) o (aaO ho);rw[hd]at this;simpa[aaT]using this
 have dr:∀r∈rs,∀b,bq r.1.2=some b→b<σ.hp.length+l.length:=by intro r hr b hb;have:=(aaR.1 px) r hr;rw[hb]at this;simpa[aaT]using this
 generalize oo:ca σ l.length=dz at*;have nM:dz.hp.length=σ.hp.length+l.length:=by rw[←oo];simp[ca]
 have N1:dz.n=σ.n:=by rw[←oo];rfl
 refine wp_region_any hm ?_;have key:∀(dp:Nat)(listed:Array Bool)(g1:G)(w1:World)(a1:Act),listed.size=ops.size→((List.range ops.size).filter fun j=> !listed.getD j false).length=dp→hU l (fun j=>listed.getD j false)→listed.getD l.length false=false→R GL g1 w1 a1 (aB (fun j=>listed.getD j false) 0 l rs dz)→cr g w g1 w1→(∀b,g1.cR b→b<σ.hp.length∨∃j,listed.getD j false=true∧b=σ.hp.length+j)→wpAny P .any ops (cA GL g w Q) dp listed a1 w1:=by
  intro dp;induction dp with
   |zero=>intro listed g1 w1 a1 cB iG iE xa hR hE gY;exfalso;have:=abY iG;rw[abn]at this;have:=this l.length (by simp;omega);rw[xa]at this;simp at this
   |succ dp ih=>
    intro listed g1 w1 a1 cB iG iE xa hR hE gY;constructor
    ·intro oq;exfalso;have u6:∃j,j<ops.size∧listed.getD j false=false:=by
      have et:((List.range ops.size).filter fun j=> !listed.getD j false)≠[]:=by intro e;rw[e]at iG;simp at iG
      obtain⟨j,hj⟩:=acr _ et;rw[aaZ]at hj;exact⟨j,by simpa using hj.1,by simpa using hj.2⟩
     obtain⟨j,⟨GK,sA⟩,yS⟩:=vv u6;have Hn:ops[j]? =some ops[j]:=Array.getElem?_eq_getElem GK;obtain⟨o,ho,_,_,_,iQ⟩:=dL j _ Hn;have xd:∀e∈o.after,e<j:=by
      intro e he;rcases abm j l.length with qk|qk
      ·have Wz:l[j]? =some o:=by rwa[abt qk]at ho
       exact yY.before j _ (bz Wz (aaG (show j<rs.length by omega))) e he
      ·obtain rfl:j=l.length:=by omega
       rw[abo (aaQ _)]at ho;simp at ho;subst ho;exact KK e he
     have:j∈Region.ready .any ops listed:=by
      unfold Region.ready;rw[aaZ];refine⟨by simpa using GK,?_ ⟩;have h2:listed.getD j true=false:=by rw[aaJ]at sA⊢;rw[Array.getElem?_eq_getElem (by omega)]at sA⊢;exact sA
      simp only[h2,abD,aa2,Hn,aaV,abe,aa3];intro e he;cases hb:Region.binds .any e with
       |false=>rfl
       |true=>
        simp only[abp,abM];have GM:e.on∈o.after:=by rw[iQ];simp only[cC,aa8,aaZ];exact⟨e,⟨by simpa using he,hb⟩,rfl⟩
        have bS:=xd e.on GM;cases Qj:listed.getD e.on false with
         |true=>rfl
         |false=>have:=yS e.on ⟨by omega,Qj⟩;omega
     rw[oq]at this;cases this
    ·intro i hi;unfold Region.ready at hi;rw[aaZ]at hi;have sF:i<ops.size:=by simpa using hi.1
     have tz:ops[i]? =some ops[i]:=Array.getElem?_eq_getElem sF;have lA:=hi.2;simp only[aaD,abj,tz,aaV,abe,aa3]at lA;obtain⟨o,EI,eH,lz,hd,iQ⟩:=dL i _ tz;rcases abm i l.length with N6|Ro;case inr=>
      obtain rfl:i=l.length:=by omega
      rw[abo (aaQ _)]at EI;simp at EI;subst EI;have dI:∀e∈ot.after,listed.getD e false=true:=by intro e he;rw[iQ]at he;simp only[cC,aa8,aaZ]at he;obtain⟨ed,⟨vD,sy⟩,rfl⟩:=he;have:=lA.2 ed (by simpa using vD);simpa[sy]using this
      have tC:∀j,j<l.length→listed.getD j false=true:=by
       intro j hj;obtain⟨e,he,N7⟩:=N5 j hj;rcases N7 with rfl|N7
       ·exact dI _ he
       ·exact hU.reach yY iE e j N7 (dI e he)
      have mK:aB (fun j=>listed.getD j false) 0 l rs dz=aB (fun _=>true) 0 l rs dz:=bY (fun j hj=>by simp only[aaU];exact tC j hj);rw[mK]at hR;have MN:dp=0:=by
       have qw:((List.range ops.size).filter fun j=> !listed.getD j false)=[l.length]:=by
        rw[←hlen,acF,abC];have e1:(List.range l.length).filter (fun j=> !listed.getD j false)=[]:=by rw[abn];intro j hj;rw[tC j (abb.1 hj)];simp
        rw[e1];have WA:listed[l.length]?.getD false=false:=by rw[←aaJ];exact xa
        simp[abE,WA]
       rw[qw]at iG;simp at iG;omega
      subst MN;unfold wpOp;simp only[tz];have hw:Region.wanted ops[l.length] (yielded ops a1.tmps)=true:=dk hR lz (by rw[N4];rfl);rw[aaP hw];refine .inl ?_;obtain⟨c,kz,kA⟩:=fU (eR eH (by rw[Ht];simp)) (.inl ⟨ft,yZ,Ht⟩);rw[Ht]at kA;have fe:c.callee=.value (.func ft)∧bK av c.args.toList=some yZ:=by
       unfold dR at kA;split at kA;case h_6 f' Hi=>
        split at kA
        ·simp only[aaE,kI.call.injEq]at kA;obtain⟨l,hl,rfl,rfl⟩:=kA;exact⟨Hi,hl⟩
        ·cases kA
       all_goals exfalso
       all_goals first|(simp at kA;done)|(repeat' split at kA)<;>simp at kA
      have Rp:(execOp a1.eval ops[l.length]).run P w1=.ok (.enter ft (c.args.map a1.eval)) w1:=by have:=fg h.1 (c.args.map a1.eval) w1;simp[execOp,kz,resolve,fe.1,Act.eval,Deferred.ofValue,invoke,this]
      unfold Oper.wp;rw[Rp];simp only[Oper.upon];refine(h.2 g1 w1 _ (by simpa using iw hR.ev fe.2) hR.heap hR.eg).mono ?_;rintro e w2 ⟨x,v,g2,H',rfl,⟨aS,bn,hQ⟩,hx,KL,sy⟩;simp only;rw[hd];refine⟨?_,g2,aS,hR.gv sy KL bn hx,hE.trans sy,hQ⟩;unfold Region.ready;rw[abn];intro j hj;simp only[abb]at hj;have h2:(listed.setIfInBounds l.length true).getD j true=true:=by
       rw[aaJ];by_cases qk:j=l.length
       ·subst qk;rw[aba (by omega)];rfl
       ·rw[aa6 (by omega)];have h1:=tC j (by omega);rw[aaJ]at h1;rw[Array.getElem?_eq_getElem (by omega)]at h1⊢;exact h1
      simp[h2]
     have ho:l[i]? =some o:=by rwa[abt N6]at EI
     have Ho:i<rs.length:=by omega
     have tA:rs[i]? =some rs[i]:=aaG Ho;obtain⟨r,ka,wZ,EH⟩:=N0 i o ho;rw[tA]at ka;simp only[aaC]at ka;simp only[aaU]at wZ EH;have rG:listed.getD i false=false:=by have:=lA.1;rw[aaJ]at this⊢;rw[Array.getElem?_eq_getElem (by omega)]at this⊢;exact this
     have dI:∀e∈o.after,listed.getD e false=true:=by intro e he;rw[iQ]at he;simp only[cC,aa8,aaZ]at he;obtain⟨ed,⟨vD,sy⟩,rfl⟩:=he;have:=lA.2 ed (by simpa using vD);simpa[sy]using this
     have Bq:=bz ho tA;have nV:∀{j:Nat}{y:lW},(gS l rs)[j]? =some y→hO {dst:=o.dst,lk:=dD o,rd:=rs[i].2,ws:=bq rs[i].1.2,after:=o.after} y=true→listed.getD j false=decide (j<i):=fun hy hm=>agree yY iE ho rG dI Bq hy hm (by rw[nv];exact hm)
     have Br:∀t∈dD o,get (aB (fun j=>listed.getD j false) 0 l rs dz).tm t=get (dE l rs dz i).tm t:=by
      intro t ht;refine kT rfl (fun j o' h1 h2=>?_ );simp only[aaU];have Bs:j<rs.length:=by have:=(aaK.1 h1).1;omega
      have fM:=bz h1 (aaG Bs);refine nV fM ?_;unfold hO;have:nW o'.dst (dD o)=true:=jb.2 ⟨t,h2,ht⟩;simp[this]
     have Hq:∀b∈lC (aX GL (dE l rs dz i).tm) o.op,aE (aB (fun j=>listed.getD j false) 0 l rs dz).hp b=aE (dE l rs dz i).hp b:=by
      intro b hb;refine kU rfl (fun j r' h1 h2=>?_ );simp only[aaU];have qk:j<l.length:=by have:=(aaK.1 h1).1;omega
      have fM:=bz (aaG qk) h1;refine nV fM ?_;unfold hO;have:nW (bq r'.1.2) rs[i].2=true:=jb.2 ⟨b,h2,by rw[ka,EH];exact hb⟩;simp[this]
     have qw:=lG (GL:=GL) (ns:=σ.hp.length+i) (cv:=qc i) Br Hq;have Bt:eX GL (dE l rs dz i).tm (dE l rs dz i).hp (σ.hp.length+i) o (qc i)=some r.1:=wZ;rw[Bt]at qw;have Bu:∀x∈looks o.op,aX GL (aB (fun j=>listed.getD j false) 0 l rs dz).tm x=aX GL (dE l rs dz i).tm x:=fun x hx=>kV (fun t ht=>Br t (by simp only[dD,abc,acE];exact .inl ⟨x,hx,ht⟩))
     have N2:ar o.guard (aB (fun j=>listed.getD j false) 0 l rs dz).tm=ar o.guard (dE l rs dz i).tm:=gw (fun d w hd=>Br d (by simp[dD,hd]));unfold wpOp;simp only[tz];have sG:=sD (P:=P) (GL:=GL) (ops:=ops) (v:=r.1.1) (wr:=r.1.2) eH lz hd qw (fun f args hc C9=>by
      rw[N2]at C9;have:=hq i o rs[i] ho tA f args hc C9;rw[ka]at this;have MM:bh (aX GL (aB (fun j=>listed.getD j false) 0 l rs dz).tm) args=bh (aX GL (dE l rs dz i).tm) args:=by refine ei (fun x hx=>Bu x ?_ );cases mJ:o.op<;>rw[mJ]at hc<;>simp[bA]at hc;obtain⟨rfl,rfl⟩:=hc;simpa[looks]using hx
      rw[MM];refine this.congr (fun b hb=>Hq b ?_ );cases mJ:o.op<;>rw[mJ]at hc<;>simp[bA]at hc;obtain⟨rfl,rfl⟩:=hc;simpa only[lC]using hb) hR (by
      intro yW;rcases gY _ yW with h1|⟨j,h1,h2⟩
      ·omega
      ·have:j=i:=by omega
       subst this;rw[rG]at h1;cases h1) (fun d yW=>by rw[eS,N1];exact tx i o ho d yW) (wpAny P .any ops (cA GL g w Q) dp (listed.setIfInBounds i true)) (cA GL g w Q) (by
      intro g2 w2 a2 KH KI N3;have sc:∀j,(listed.setIfInBounds i true).getD j false=dw (fun j=>listed.getD j false) i j:=by
       intro j;simp only[dw,aaJ];by_cases hj:j=i
       ·subst hj;rw[aba (by omega)];simp
       ·rw[aa6 (by omega)];simp[hj]
      have mK:aB (fun j=>(listed.setIfInBounds i true).getD j false) 0 l rs dz=aB (dw (fun j=>listed.getD j false) i) 0 l rs dz:=bY (fun j _=>sc _);refine ih _ g2 w2 a2 (by simpa using cB) ?_ ?_ (by rw[sc];simp only[dw];rw[xa];simp;omega) ?_ (hE.trans KI) ?_
      ·have e1:(fun j=> !(listed.setIfInBounds i true).getD j false)=fun j=> !listed.getD j false&& !decide (j=i):=by funext j;rw[sc j];simp[dw]
       rw[e1];have ou:∀(m:Nat)(f:Nat→Bool),i<m→f i=true→((List.range m).filter f).length=((List.range m).filter fun j=>f j&& !decide (j=i)).length+1:=by
        intro m f;induction m with
         |zero=>intro h;omega
         |succ m KJ=>
          intro ti Hr;rw[acF,abC,abC,aa1,aa1];rcases abm i m with h1|h1
          ·rw[KJ h1 Hr];have:m≠i:=by omega
           simp[abE,this];split<;>simp<;>omega
          ·have:m=i:=by omega
           subst this;have tB:(List.range m).filter f=(List.range m).filter fun j=>f j&& !decide (j=m):=by
            refine acJ (fun j hj=>?_ );have:j≠m:=by have:=abb.1 hj;omega
            simp[this]
           rw[←tB];simp[abE,Hr]
       have:=ou ops.size (fun j=> !listed.getD j false) sF (by simp[rG]);rw[iG]at this;omega
      ·intro j o' iV hj e he;simp only[sc]at hj⊢;simp only[dw,abq,aaN]at hj⊢;rcases hj with hj|rfl
       ·exact .inl (iE j o' iV hj e he)
       ·rw[ho]at iV;simp only[aaC]at iV;subst iV;exact .inl (dI e he)
      ·rw[mK];refine KH.congr ?_ (fun t=>?_ ) ?_
       ·rw[eS];have:∀(s:St)(v:V)(H:ai),(s.fu o.dst v H).n=s.n:=by intro s v H;cases o.dst<;>rfl
        rw[this,eS]
       ·rw[jc (k:=i) (by omega) ho tA rG (by omega) (fun j o' h1 h2 h3 h4 h5=>by
         simp only[aaU]at h5;have Bs:j<rs.length:=by have:=(aaK.1 h1).1;omega
         have fM:=bz h1 (aaG Bs);have:=nV fM (by unfold hO;have:gT o.dst o'.dst=true:=dm.2 ⟨t,h4,h3⟩;simp[this]);rw[h5]at this;simpa using this.symm),iF,ka]
       ·have Bn:∀(s:St)(v:V)(H:ai),(s.fu o.dst v H).hp=H:=by intro s v H;cases o.dst<;>rfl
        rw[Bn];refine mH ?_ (fun b=>?_ )
        ·rw[dn nM (by rw[←nM]at dr⊢;simpa[nM]using dr)];cases hw:r.1.2 with
          |none=>simp only[aZ];rw[dn nM (by simpa using dr)]
          |some p=>obtain⟨c,y⟩:=p;have hc:c<σ.hp.length+l.length:=dr rs[i] (abK Ho) c (by rw[ka,hw];rfl);have Kq:=dn (K:=fun j=>listed.getD j false) (i:=0) (l:=l) (rs:=rs) nM (by simpa using dr);simp only[aZ];rw[eY (by omega),Kq]
        ·have:=jd (K:=fun j=>listed.getD j false) (b:=b) (σ:=dz) (i0:=0) (k:=i) (l:=l) (by omega) (by omega) tA rG (fun j r' h1 h2 h3 h4 h5=>by
          simp only[aaU]at h5;have qk:j<l.length:=by have:=(aaK.1 h1).1;omega
          have fM:=bz (aaG qk) h1;have:=nV fM (by unfold hO;have:gT (bq rs[i].1.2) (bq r'.1.2)=true:=dm.2 ⟨b,h4,h3⟩;simp[this]);rw[h5]at this;simpa using this.symm)
         rw[this,ka]
      ·intro b hb;rcases N3 b hb with h1|rfl
       ·rcases gY b h1 with h2|⟨j,h2,h3⟩
        ·exact .inl h2
        ·exact .inr ⟨j,by rw[sc];simp[dw,h2],h3⟩
       ·exact .inr ⟨i,by rw[sc];simp[dw],rfl⟩)
     split
     ·rename_i hw;simp only[hw,abv]at sG;exact .inl sG
     ·rename_i hw;simp only[hw]at sG;exact sG
 have ey:∀j,(Array.replicate ops.size false).getD j false=false:=by intro j;rw[aaJ,acv];split<;>rfl
 have iW:aB (fun j=>(Array.replicate ops.size false).getD j false) 0 l rs dz=dz:=by
  have:∀(l:List ad)(rs:List ((V×Wr)×List Nat))(i:Nat)(s:St),aB (fun _=>false) i l rs s=s:=by
   intro l;induction l with
    |nil=>intro rs i s;simp[aB]
    |cons o l ih=>
     intro rs i s;cases rs with
      |nil=>simp[aB]
      |cons r rs=>simp only[aB,aaX];exact ih _ _ _
  rw[bY (K':=fun _=>false) (fun j _=>ey _)];exact this _ _ _ _
 refine key ops.size (Array.replicate ops.size false) g _ sB (by simp) ?_ ?_ (ey _) ?_ (cr.drawn g w _) ?_
 ·simp only[ey,abD];rw[ab5.2 (by simp)];simp
 ·intro j o _ hj;simp only[ey]at hj;cases hj
 ·rw[iW,←oo];exact(hr.pad l.length).drawn _
 ·intro b hb;exact .inl (hr.heap.cR b hb)
end
end Fw
