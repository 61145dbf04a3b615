/-
  Code of the abstract machine: what holds of every code that is compiled to it, in every world that fits the state.
-/
import Derived.Test.YtgfgckimecpmlaaGreatDoorFb
set_option linter.unusedSimpArgs false
set_option maxHeartbeats 1000000
set_option linter.unusedVariables false
namespace Fw
open Go
inductive Ex where
 |normal
 |exit (id:Nat)
 |ret
def cr(GL:ca)(g0:G)(w0:World)(Q:Ex→St→Prop)(e:Exit)(a:Act)(w:World):Prop:=∃g σ,R GL g w a σ∧ch g0 w0 g w∧match e with
 | .normal=>Q .normal σ
 | .exit id=>Q (.exit id) σ
 | .ret=>Q .ret σ
 |_=>False
def WC(P:Program)(GL:ca)(c:IR)(σ:St)(Q:Ex→St→Prop):Prop:=∀code,aH P code=some c→∀g w a,R GL g w a σ→code.wp P (cr GL g w Q) a w
def aq(P:Program)(f:FuncId):Bool:=match P.funcs[f]? with
 |some fn=>fn.body.isSome&& !(fn.name== "runtime.NumGoroutine")
 |none=>false
def WF(P:Program)(GL:ca)(f:FuncId)(args:List V)(H:ah)(Q:V→ah→Prop):Prop:=aq P f=true∧∀g w (vs:Array Value),aP g w args vs.toList→av g w H→f_ GL g w→Calls P f vs w fun e w'=>∃x v g' H',e=.returned x∧Q v H'∧RV g' w' v x∧av g' w' H'∧ch g w g' w'
def WO(P:Program)(GL:ca)(l:List ad)(σ:St)(Q:St→Prop):Prop:=∀(ops:Array Oper)(k:Nat),iW P ops.toList false (ops.toList.drop k)=some l→∀g w a,R GL g w a σ→wpOps P ops (cr GL g w fun e aL=>match e with| .normal=>Q aL|_=>False) (List.range' k (ops.size - k)) a w
theorem cr.ext{GL:ca}{g g':G}{w w':World}{Q:Ex→St→Prop}(h:ch g w g' w')(e:Exit)(a:Act)(v:World)(hp:cr GL g' w' Q e a v):cr GL g w Q e a v:=by obtain⟨g2,σ,h1,h2,h3⟩:=hp;exact⟨g2,σ,h1,h.trans h2,h3⟩
theorem cr.mono{GL:ca}{g:G}{w:World}{Q Q':Ex→St→Prop}(h:∀e σ,Q e σ→Q' e σ)(e:Exit)(a:Act)(v:World)(hp:cr GL g w Q e a v):cr GL g w Q' e a v:=by obtain⟨g2,σ,h1,h2,h3⟩:=hp;refine⟨g2,σ,h1,h2,?_⟩;cases e<;>first|exact h _ _ h3|exact h3
section
variable {P:Program}{GL:ca}
theorem AS{o:Oper}{a:Act}{K:Act→World→Prop}{Q Q':Exit→Act→World→Prop}(h:∀e a w,Q e a w→Q' e a w){r:Result Next}(hh:o.upon P a K Q r):o.upon P a K Q' r:=by
 cases r with
  |ok n w'=>
   cases n<;>simp only[Oper.upon]at hh⊢ <;>first
    |exact hh
    |exact Calls.mono hh (fun e T6 he=>by
     cases e with
      |returned v=>exact he
      |panicked c=>exact h _ _ _ he
      |outgrown=>obtain⟨a0,w0,hq⟩:=he;exact⟨a0,w0,h _ _ _ hq⟩)
  |halt x w'=>cases x<;>simp only[Oper.upon]at hh⊢ <;>exact h _ _ _ hh
theorem cP{ops:Array Oper}{Q Q':Exit→Act→World→Prop}(h:∀e a w,Q e a w→Q' e a w):∀(l:List Nat)(a:Act)(w:World),wpOps P ops Q l a w→wpOps P ops Q' l a w
 |[],a,w,hh=>h _ _ _ hh
 |i::AN,a,w,hh=>by
  simp only[wpOps]at hh⊢;split
  ·rename_i hn;simp only[hn]at hh;exact cP h AN a w hh
  ·rename_i o ho;simp only[ho]at hh;split
   ·rename_i hw;simp only[hw,aa4]at hh;rcases hh with hh|⟨h1,a0,w0,h2⟩
    ·exact .inl (Oper.wp_mono (fun a w=>cP h AN a w) (AS h hh))
    ·exact .inr ⟨h1,a0,w0,h _ _ _ h2⟩
   ·rename_i hw;simp only[hw]at hh;exact cP h AN _ w hh
theorem WC.mono{c:IR}{σ:St}{Q Q':Ex→St→Prop}(h:WC P GL c σ Q)(hq:∀e σ,Q e σ→Q' e σ):WC P GL c σ Q':=fun code hc g w a hr=>wp_mono (h code hc g w a hr) (fun e a' w' hp=>cr.mono hq e a' w' hp)
theorem WF.mono{f:FuncId}{args:List V}{H:ah}{Q Q':V→ah→Prop}(h:WF P GL f args H Q)(hq:∀v H',Q v H'→Q' v H'):WF P GL f args H Q':=⟨h.1,fun g w vs h1 h2 h3=>(h.2 g w vs h1 h2 h3).mono fun _ _ ⟨x,v,g',H',e1,e2,e3⟩=>⟨x,v,g',H',e1,hq _ _ e2,e3⟩⟩
theorem WC.skip{σ:St}{Q:Ex→St→Prop}(h:Q .normal σ):WC P GL .skip σ Q:=by
 intro code hc g w a hr;have:code=.skip:=by
  cases code<;>simp[aH]at hc
  ·rfl
  ·split at hc<;>simp at hc;split at hc<;>simp at hc
  ·split at hc<;>simp at hc
  ·split at hc<;>simp at hc
 subst this;exact wp_skip ⟨g,σ,hr,ch.refl _ _,h⟩
theorem Gl{code:Code}{a b:IR}(hc:aH P code=some (.seq a b)):∃x y,code=.seq x y∧aH P x=some a∧aH P y=some b:=by
 cases code with
  |seq x y=>
   simp only[aH]at hc;split at hc
   ·rename_i a' b' h1 h2;simp only[aab,IR.seq.injEq]at hc;obtain⟨rfl,rfl⟩:=hc;exact⟨x,y,rfl,h1,h2⟩
   ·cases hc
  |region=>simp only[aH]at hc;split at hc<;>simp at hc;split at hc<;>simp at hc
  |cond=>simp only[aH]at hc;split at hc<;>simp at hc
  |_=>simp[aH]at hc
theorem WC.seq{a b:IR}{σ:St}{Q:Ex→St→Prop}(h:WC P GL a σ (fun e aL=>match e with| .normal=>WC P GL b aL Q|e=>Q e aL)):WC P GL (.seq a b) σ Q:=by
 intro code hc g w rX hr;obtain⟨x,y,rfl,hx,hy⟩:=Gl hc;refine wp_seq (wp_mono (h x hx g w rX hr) fun e a' w' hp=>?_ );obtain⟨g2,sO,h1,h2,h3⟩:=hp;cases e with
  |normal=>exact wp_mono (h3 y hy g2 w' a' h1) (cr.ext h2)
  |exit id=>exact⟨g2,sO,h1,h2,h3⟩
  |ret=>exact⟨g2,sO,h1,h2,h3⟩
  |goto l=>exact h3.elim
  |panic c=>exact h3.elim
  |outgrown=>exact h3.elim
theorem DG{code:Code}{c:a_}{a b:IR}(hc:aH P code=some (.cond c a b)):∃o x y,code=.cond o x y∧au o=some c∧aH P x=some a∧aH P y=some b:=by
 cases code with
  |cond o x y=>
   simp only[aH]at hc;split at hc
   ·rename_i c' a' b' h0 h1 h2;simp only[aab,IR.cond.injEq]at hc;obtain⟨rfl,rfl,rfl⟩:=hc;exact⟨o,x,y,rfl,h0,h1,h2⟩
   ·cases hc
  |region=>simp only[aH]at hc;split at hc<;>simp at hc;split at hc<;>simp at hc
  |seq=>simp only[aH]at hc;split at hc<;>simp at hc
  |_=>simp[aH]at hc
theorem WC.cond{c:a_}{a b:IR}{σ:St}{t:Bool}{Q:Ex→St→Prop}(ht:aU GL σ.tm c=.d (.bool t))(h:WC P GL (bif t then a else b) σ Q):WC P GL (.cond c a b) σ Q:=by
 intro code hc g w rX hr;obtain⟨o,x,y,rfl,ho,hx,hy⟩:=DG hc;have hv:=hr.ev _ _ ho;rw[ht]at hv;cases t with
  |true=>exact wp_cond (RV.bool hv) (h x hx g w rX hr)
  |false=>exact wp_cond (RV.bool hv) (h y hy g w rX hr)
theorem AT{code:Code}{id:Nat}{b:IR}(hc:aH P code=some (.block id b)):∃x,code=.block id x∧aH P x=some b:=by
 cases code with
  |block i x=>simp only[aH,aad,IR.block.injEq]at hc;obtain⟨b',h,rfl,rfl⟩:=hc;exact⟨x,rfl,h⟩
  |region=>simp only[aH]at hc;split at hc<;>simp at hc;split at hc<;>simp at hc
  |seq=>simp only[aH]at hc;split at hc<;>simp at hc
  |cond=>simp only[aH]at hc;split at hc<;>simp at hc
  |_=>simp[aH]at hc
theorem WC.block{id:Nat}{b:IR}{σ:St}{Q:Ex→St→Prop}(h:WC P GL b σ (fun e aL=>match e with| .exit i=>if i=id then Q .normal aL else Q (.exit i) aL|e=>Q e aL)):WC P GL (.block id b) σ Q:=by
 intro code hc g w rX hr;obtain⟨x,rfl,hx⟩:=AT hc;refine wp_block (wp_mono (h x hx g w rX hr) fun e a' w' hp=>?_ );obtain⟨g2,sO,h1,h2,h3⟩:=hp;cases e with
  |normal=>exact⟨g2,sO,h1,h2,h3⟩
  |exit i=>
   simp only[Exit.inBlock];by_cases hi:i=id
   ·simp only[hi,aa4]at h3⊢;exact⟨g2,sO,h1,h2,h3⟩
   ·simp only[hi,abt]at h3⊢;exact⟨g2,sO,h1,h2,h3⟩
  |ret=>exact⟨g2,sO,h1,h2,h3⟩
  |goto l=>exact h3.elim
  |panic c=>exact h3.elim
  |outgrown=>exact h3.elim
theorem WC.exit{id:Nat}{σ:St}{Q:Ex→St→Prop}(h:Q (.exit id) σ):WC P GL (.exit id) σ Q:=by
 intro code hc g w rX hr;cases code with
  |exit i=>simp only[aH,aab,IR.exit.injEq]at hc;subst hc;exact wp_exit ⟨g,σ,hr,ch.refl _ _,h⟩
  |region=>simp only[aH]at hc;split at hc<;>simp at hc;split at hc<;>simp at hc
  |seq=>simp only[aH]at hc;split at hc<;>simp at hc
  |cond=>simp only[aH]at hc;split at hc<;>simp at hc
  |_=>simp[aH]at hc
theorem WC.ret{σ:St}{Q:Ex→St→Prop}(h:Q .ret σ):WC P GL .ret σ Q:=by
 intro code hc g w rX hr;cases code with
  |ret=>exact wp_ret ⟨g,σ,hr,ch.refl _ _,h⟩
  |region=>simp only[aH]at hc;split at hc<;>simp at hc;split at hc<;>simp at hc
  |seq=>simp only[aH]at hc;split at hc<;>simp at hc
  |cond=>simp only[aH]at hc;split at hc<;>simp at hc
  |_=>simp[aH]at hc
theorem DH{code:Code}{b:IR}(hc:aH P code=some (.loop b)):∃x,code=.loop x∧aH P x=some b:=by
 cases code with
  |loop x=>simp only[aH,aad,IR.loop.injEq]at hc;obtain⟨b',h,rfl⟩:=hc;exact⟨x,rfl,h⟩
  |region=>simp only[aH]at hc;split at hc<;>simp at hc;split at hc<;>simp at hc
  |seq=>simp only[aH]at hc;split at hc<;>simp at hc
  |cond=>simp only[aH]at hc;split at hc<;>simp at hc
  |_=>simp[aH]at hc
theorem vb{p:Nat→Prop}(h:∃n,p n):∃n,p n∧∀m,p m→n≤m:=by
 obtain⟨n,hn⟩:=h;induction n using Nat.strongRecOn with
  |_ n ih=>
   by_cases hm:∃m,m<n∧p m
   ·obtain⟨m,h1,h2⟩:=hm;exact ih m h1 h2
   ·exact⟨n,hn,fun m hp=>by
     rcases aaW m n with hl|hl
     ·exact absurd ⟨m,hl,hp⟩ hm
     ·exact hl⟩
open Classical in
noncomputable def leastOf(p:Nat→Prop):Nat:=if h:∃n,p n then choose (vb h)else 0
theorem leastOf_spec{p:Nat→Prop}(h:∃n,p n):p (leastOf p)∧∀m,p m→leastOf p≤m:=by unfold leastOf;rw[dif_pos h];exact acQ (vb h)
theorem WC.loop{b:IR}{Q:Ex→St→Prop}(I:Nat→St→Prop)(h:∀n σ,I n σ→WC P GL b σ (fun e aL=>match e with| .normal=>∃m,m<n∧I m aL|e=>Q e aL)){n:Nat}{σ:St}(h0:I n σ):WC P GL (.loop b) σ Q:=by
 intro code hc g w rX hr;obtain⟨x,rfl,hx⟩:=DH hc;let J:Act→World→Nat→Prop:=fun a' w' n=>∃g' aL,I n aL∧R GL g' w' a' aL∧ch g w g' w'
 refine wp_loop (fun a' w'=>∃n,J a' w' n) (fun a' w'=>leastOf (J a' w')) ⟨n,g,σ,h0,hr,ch.refl _ _⟩ ?_;intro a' w' hJ;obtain⟨⟨g1,vc,i1,r1,e1⟩,yE⟩:=leastOf_spec hJ;refine wp_mono (h _ vc i1 x hx g1 w' a' r1) fun e a2 w2 hp=>?_
 obtain⟨g2,sO,r2,e2,h3⟩:=hp;cases e with
  |normal=>obtain⟨m,hm,im⟩:=h3;have Uz:∃n,J a2 w2 n:=⟨m,g2,sO,im,r2,e1.trans e2⟩;exact⟨Uz,Nat.lt_of_le_of_lt ((leastOf_spec Uz).2 m ⟨g2,sO,im,r2,e1.trans e2⟩) hm⟩
  |exit i=>exact⟨g2,sO,r2,e1.trans e2,h3⟩
  |ret=>exact⟨g2,sO,r2,e1.trans e2,h3⟩
  |goto l=>exact h3.elim
  |panic c=>exact h3.elim
  |outgrown=>exact h3.elim
def St.put(σ:St)(dst:Option Nat)(v:V)(H:ah):Option St:=match dst with
 |none=>some ⟨σ.n,σ.tm,H⟩
 |some d=>bif Nat.blt d σ.n then some ⟨σ.n,Fw.put σ.tm d v,H⟩else none
def ao(gd:Option (Nat×Bool))(tm:List (Nat×V)):Option Bool:=match gd with
 |none=>some true
 |some (d,nB)=>
  match get tm d with
   | .d (.bool b)=>some (b==nB)
   | .tuple []=>some false
   |_=>none
theorem R.gi{g g':G}{w w':World}{a:Act}{σ aL:St}{H':ah}{dst:Option Nat}{v:V}{x:Value}(h:R GL g w a σ)(e:ch g w g' w')(hh:av g' w' H')(hp:σ.put dst v H'=some aL)(hv:RV g' w' v x):R GL g' w' (a.put dst x) aL:=by
 cases dst with
  |none=>simp only[St.put,aab]at hp;subst hp;exact h.FX e hh x
  |some d=>
   simp only[St.put]at hp;cases hb:Nat.blt d σ.n with
    |false=>rw[hb]at hp;cases hp
    |true=>rw[hb]at hp;simp only[aag,aab]at hp;subst hp;exact h.put e hh d v x (by rwa[aas]at hb) hv
theorem c6{ops:Array Oper}{o:Oper}{gd:Option (Nat×Bool)}{g:G}{w:World}{a:Act}{σ:St}{b:Bool}(h:R GL g w a σ)(hg:fJ ops.toList o=some gd)(hb:ao gd σ.tm=some b):Region.wanted o (yielded ops a.tmps)=b:=by
 unfold fJ at hg;unfold Region.wanted;cases ho:o.guard with
  |none=>simp only[ho,aab]at hg;subst hg;simp only[ao,aab]at hb;exact hb
  |some p=>
   obtain⟨j,nB⟩:=p;simp only[ho]at hg;split at hg
   ·rename_i d hd;simp only[aab]at hg;subst hg;simp only[ao]at hb;split at hb
    ·rename_i t ht;simp only[aab]at hb;have hv:=h.tmps d;rw[ht]at hv;have hv:=RV.bool hv;have:yielded ops a.tmps j=some t:=by
      unfold yielded;have e:ops[j]? =ops.toList[j]? :=by simp
      rw[e,hd];simp only[Option.bind_some];rw[aaj]at hv;cases hq:a.tmps[d]? with
       |none=>rw[hq]at hv;simp[undef]at hv
       |some z=>rw[hq]at hv;simp at hv;subst hv;rfl
     simp only[this];rw[←hb];cases t<;>cases nB<;>rfl
    ·rename_i ht;simp only[aab]at hb;have hv:=h.tmps d;rw[ht]at hv;simp only[RV]at hv;obtain⟨x,hx,F6⟩:=hv;have:yielded ops a.tmps j=none:=by
      unfold yielded;have e:ops[j]? =ops.toList[j]? :=by simp
      rw[e,hd];simp only[Option.bind_some];rw[aaj]at hx;cases hq:a.tmps[d]? with
       |none=>rfl
       |some z=>rw[hq]at hx;simp at hx;subst hx;rfl
     simp only[this];rw[←hb];rfl
    ·cases hb
   ·cases hg
theorem WO.nil{σ:St}{Q:St→Prop}(h:Q σ):WO P GL [] σ Q:=by
 intro ops k hc g w a hr;have hk:ops.size - k=0:=by have:=cO hc;simp at this;exact this
 rw[hk];exact⟨g,σ,hr,ch.refl _ _,h⟩
theorem WO.step{o:ad}{l:List ad}{σ:St}{Q:St→Prop}(h:∀(o':Oper)(ops:Array Oper),(bD P o'.op).getD .bad=o.op→fJ ops.toList o'=some o.guard→o'.dst=o.dst→∀g w a,R GL g w a σ→∀(K:Act→World→Prop)(Q':Exit→Act→World→Prop),(∀g' w' a' aL,R GL g' w' a' aL→ch g w g' w'→WO P GL l aL Q→K a' w')→if Region.wanted o' (yielded ops a.tmps)then o'.wp P a w K Q' else K (a.put o'.dst undef) w):WO P GL (o::l) σ Q:=by
 intro ops k hc g w a hr;have hl:=cO hc;simp at hl;have hk:k<ops.size:=by omega
 have PO:ops.toList.drop k=ops[k]::ops.toList.drop (k+1):=by rw[aa6 (by simpa using hk)];simp
 rw[PO]at hc;simp only[iW,bJ]at hc;split at hc
 ·cases hc
 ·rename_i io I6;split at hc
  ·cases hc
  ·rename_i l' FL;simp only[aab,acz]at hc;obtain⟨rfl,rfl⟩:=hc;simp only[fj]at I6;split at I6
   ·rename_i gd lh;have ei:(bD P ops[k].op).getD .bad=(bD P ops[k].op).getD .bad:=rfl;simp only[aab]at I6;subst I6;rw[show ops.size - k=(ops.size - (k+1))+1 by omega,List.range'_succ,wpOps_cons];unfold wpOp;have eF:ops[k]? =some ops[k]:=Array.getElem?_eq_getElem hk;simp only[eF];have key:=h ops[k] ops ei lh rfl g w a hr (wpOps P ops (cr GL g w fun e aL=>match e with| .normal=>Q aL|_=>False) (List.range' (k+1) (ops.size - (k+1)))) (cr GL g w fun e aL=>match e with| .normal=>Q aL|_=>False) (by
     intro g' w' a' aL vd he Jx;have:=Jx ops (k+1) FL g' w' a' vd;have PP:∀(l:List Nat)(a:Act)(v:World),wpOps P ops (cr GL g' w' fun e aL=>match e with| .normal=>Q aL|_=>False) l a v→wpOps P ops (cr GL g w fun e aL=>match e with| .normal=>Q aL|_=>False) l a v:=by intro l a v hw;exact cP (cr.ext he) l a v hw
     exact PP _ _ _ this)
    split
    ·rename_i hw;simp only[hw,aa4]at key;exact .inl key
    ·rename_i hw;simp only[hw]at key;exact key
   ·cases I6
end
end Fw
/-
  Operations in a row: one that calls nothing, one that is passed over, calls; regions; a function from its body.
-/
namespace Fw
open Go
section
variable {P:Program}{GL:ca}
theorem WO.bu{o:ad}{l:List ad}{σ aL:St}{Q:St→Prop}{v:V}{wr:Wr}(hg:ao o.guard σ.tm=some true)(he:bu (aU GL σ.tm) σ.hp σ.hp.length o.op=some (v,wr))(hp:σ.put o.dst v (aX σ.hp wr)=some aL)(h:WO P GL l aL Q):WO P GL (o::l) σ Q:=by
 refine WO.step fun o' ops ei lh dN g w a hr K Q' hK=>?_
 rw[c6 hr lh hg,aan rfl];obtain⟨g',w',nx,h1,h2,h3,h4,_⟩:=sL (P:=P) (a:=a) (o:=o') (eE ei (fun e=>by rw[e]at he;cases he)) he hr.ev hr.heap hr.heap.fresh;unfold Oper.wp;rw[h1];rcases h2 with⟨x,rfl,hx⟩|⟨rfl,rfl⟩
 ·simp only[Oper.upon];rw[dN];exact hK g' w' _ aL (hr.gi h4 h3 hp hx) h4 h
 ·simp only[Oper.upon];rw[dN];exact hK g' w' _ aL (hr.gi h4 h3 hp (by simp only[RV])) h4 h
theorem WO.skip{o:ad}{l:List ad}{σ aL:St}{Q:St→Prop}(hg:ao o.guard σ.tm=some false)(hp:σ.put o.dst (.tuple []) σ.hp=some aL)(h:WO P GL l aL Q):WO P GL (o::l) σ Q:=by
 refine WO.step fun o' ops ei lh dN g w a hr K Q' hK=>?_
 rw[c6 hr lh hg,aal (by simp),dN];exact hK g w _ aL (hr.gi (ch.refl _ _) hr.heap hp (by simp only[RV];exact⟨#[],rfl,by simp[aP]⟩)) (ch.refl _ _) h
theorem eV{f:FuncId}(h:aq P f=true)(args:Array Value)(w:World):(callFunc f args).run P w=.ok (.enter f args) w:=by
 unfold aq at h;split at h
 ·rename_i fn hf;simp only[aac,aaU]at h;have h2:¬fn.body=none:=by intro hb;rw[hb]at h;simp at h
  have h3:¬fn.name= "runtime.NumGoroutine":=by simpa using h.2
  simp[callFunc,hf,h2,h3]
 ·cases h
theorem fM{op:Op}{io:ki}(h:bD P op=some io)(I6:(∃f l,io=.call f l)∨∃x l,io=.e_ x l):∃c,op=.call c∧dH P c=some io:=by
 cases op with
  |call c=>exact⟨c,rfl,by simpa[bD]using h⟩
  |makeFunc fn a b=>exfalso;cases fn<;>(simp only[bD]at h;(repeat' split at h)<;>(rcases I6 with⟨f,l,rfl⟩|⟨x,l,rfl⟩<;>simp at h))
  |makeMap t r=>exfalso;cases r<;>(simp only[bD]at h;rcases I6 with⟨f,l,rfl⟩|⟨x,l,rfl⟩<;>simp at h)
  |slice t x lo hi mx=>exfalso;cases mx<;>(simp only[bD]at h;(repeat' split at h)<;>(rcases I6 with⟨f,l,rfl⟩|⟨x,l,rfl⟩<;>simp at h))
  |_=>exfalso;simp only[bD]at h;(repeat' split at h)<;>(rcases I6 with⟨f,l,rfl⟩|⟨x,l,rfl⟩<;>simp at h)
theorem WO.o5{o:ad}{l:List ad}{σ:St}{Q:St→Prop}{f:FuncId}{args:List V}(hg:ao o.guard σ.tm=some true)(ey:∀(o':Oper)(g:G)(w:World)(a:Act),(bD P o'.op).getD .bad=o.op→R GL g w a σ→aq P f=true→∃vs:Array Value,aP g w args vs.toList∧(execOp a.eval o').run P w=.ok (.enter f vs) w)(h:WF P GL f args σ.hp fun v H'=>∃aL,σ.put o.dst v H'=some aL∧WO P GL l aL Q):WO P GL (o::l) σ Q:=by
 refine WO.step fun o' ops ei lh dN g w a hr K Q' hK=>?_
 rw[c6 hr lh hg,aan rfl];obtain⟨vs,dI,uJ⟩:=ey o' g w a ei hr h.1;unfold Oper.wp;rw[uJ];simp only[Oper.upon];refine(h.2 g w vs dI hr.heap hr.dQ).mono ?_;rintro e w' ⟨x,v,g',H',rfl,⟨aL,bj,Jx⟩,hx,hh,he⟩;simp only;rw[dN];exact hK g' w' _ aL (hr.gi he hh bj hx) he Jx
theorem WO.call{o:ad}{l:List ad}{σ:St}{Q:St→Prop}{f:FuncId}{args:List a_}(ho:o.op=.call f args)(hg:ao o.guard σ.tm=some true)(h:WF P GL f (bd (aU GL σ.tm) args) σ.hp fun v H'=>∃aL,σ.put o.dst v H'=some aL∧WO P GL l aL Q):WO P GL (o::l) σ Q:=by
 refine WO.o5 hg (fun o' g w a ei hr wO=>?_ ) h;rw[ho]at ei;obtain⟨c,hc,ka⟩:=fM (eE ei (by simp)) (.inl ⟨f,args,rfl⟩);have eT:c.callee=.value (.func f)∧bJ au c.args.toList=some args:=by
  unfold dH at ka;split at ka;case h_6 f' Gm=>
   split at ka
   ·simp only[aad,ki.call.injEq]at ka;obtain⟨l,hl,rfl,rfl⟩:=ka;exact⟨Gm,hl⟩
   ·cases ka
  all_goals exfalso
  all_goals first|(simp at ka;done)|(repeat' split at ka)<;>simp at ka
 refine⟨c.args.map a.eval,by simpa using hY hr.ev eT.2,?_ ⟩;have:=eV wO (c.args.map a.eval) w;simp[execOp,hc,resolve,eT.1,Act.eval,Deferred.ofValue,invoke,this]
theorem WO.e_{o:ad}{l:List ad}{σ:St}{Q:St→Prop}{f:FuncId}{x:a_}{first cap:List V}{args:List a_}(ho:o.op=.e_ x args)(hx:aU GL σ.tm x=.func f first cap)(hg:ao o.guard σ.tm=some true)(h:WF P GL f (first++bd (aU GL σ.tm) args++cap) σ.hp fun v H'=>∃aL,σ.put o.dst v H'=some aL∧WO P GL l aL Q):WO P GL (o::l) σ Q:=by
 refine WO.o5 hg (fun o' g w a ei hr wO=>?_ ) h;rw[ho]at ei;obtain⟨c,hc,ka⟩:=fM (eE ei (by simp)) (.inr ⟨x,args,rfl⟩);have eT:∃t,c.callee=.value (.tmp t)∧x=.t t∧bJ au c.args.toList=some args:=by
  unfold dH at ka;split at ka;case h_7 t' Gm=>simp only[aad,ki.e_.injEq]at ka;obtain⟨l,hl,rfl,rfl⟩:=ka;exact⟨t',Gm,rfl,hl⟩
  all_goals exfalso
  all_goals first|(simp at ka;done)|(repeat' split at ka)<;>simp at ka
 obtain⟨t,ht,rfl,gJ⟩:=eT;have hv:=hr.ev (.tmp t) (.t t) rfl;rw[hx]at hv;simp only[RV]at hv;obtain⟨p,q,e1,e2,e3⟩:=hv;refine⟨p++c.args.map a.eval++q,?_,?_⟩
 ·simp only[abD,acn];exact aP.append (aP.append e2 (hY hr.ev gJ)) e3
 ·have:=eV wO (p++c.args.map a.eval++q) w;simp only[Array.append_assoc]at this;simp[execOp,hc,resolve,ht,e1,Deferred.ofValue,invoke,this]
theorem WC.region{l:List ad}{σ:St}{Q:Ex→St→Prop}(h:WO P GL l σ fun aL=>Q .normal aL):WC P GL (.region l) σ Q:=by
 intro code hc g w rX hr;cases code with
  |region id ops draw=>
   simp only[aH]at hc;split at hc
   ·rename_i l' FL;cases draw with
     |true=>simp at hc
     |false=>simp at hc;subst hc;refine wp_region ?_;have:=h ops 0 (by simpa using FL) g w rX hr;rw[List.range_eq_range'];simp only[abS]at this;exact cP (fun e a v hp=>by obtain⟨g2,sO,h1,h2,h3⟩:=hp;cases e<;>first|exact⟨g2,sO,h1,h2,h3⟩|exact h3.elim) _ _ _ this
   ·cases hc
  |seq=>simp only[aH]at hc;split at hc<;>simp at hc
  |cond=>simp only[aH]at hc;split at hc<;>simp at hc
  |_=>simp[aH]at hc
def sP:Nat→List V→List (Nat×V)|_,[]=>[]|n,v::vs=>(n,v)::sP (n+1) vs
theorem yF(vs:List V)(n t:Nat):get (sP n vs) t=if t<n then .any else(vs[t - n]? ).getD .any:=by
 induction vs generalizing n with
  |nil=>simp[sP,get]
  |cons v vs ih=>
   simp only[sP,get];by_cases h:n=t
   ·subst h;simp
   ·rw[cw h,aaw,ih];by_cases h2:t<n
    ·simp[h2,show t<n+1 by omega]
    ·simp[h2,show¬t<n+1 by omega,show t - n=(t - (n+1))+1 by omega]
def eA(σ:St):iV→Option V
 | .t n=>some (get σ.tm n)
 | .cell n size agg=>
  match cY σ.hp size (get σ.tm n)with
   |some cs=>oW agg cs
   |none=>none
def fb(rs:List iV)(σ:St):Option V:=match bJ (eA σ) rs with
 |some [v]=>some v
 |some vs=>some (.tuple vs)
 |none=>none
def wP(a:Act):ResultVar→Sem Value| .tmp t=>pure (a.tmps.getD t undef)| .cell b t=>do loadVar t (←asAddr (a.tmps.getD b undef))
theorem DI{g:G}{w:World}{a:Act}{σ:St}{r:ResultVar}{r':iV}{v:V}(h:R GL g w a σ)(hc:nb P r=some r')(hv:eA σ r'=some v):∃x,(wP a r).run P w=.ok x w∧RV g w v x:=by
 cases r with
  |tmp t=>simp only[nb,aab]at hc;subst hc;simp only[eA,aab]at hv;subst hv;exact⟨_,rfl,h.tmps t⟩
  |cell b t=>
   simp only[nb]at hc;split at hc
   ·rename_i n ag hn nK;split at hc
    ·simp only[aab]at hc;subst hc;simp only[eA]at hv;split at hv
     ·rename_i cs gR;obtain⟨aO,off,vs,e1,e2,e3,e4⟩:=yr gR (h.tmps b) h.heap;obtain⟨h3,h4⟩:=AI hv e3;refine⟨_,?_,h3⟩;simp only[wP,Sem.run_bind,e1,asAddr,Sem.run_pure,Result.andThen_ok];exact mn hn nK e2 h4 e4
     ·cases hv
    ·cases hc
   ·cases hc
theorem sQ{g:G}{w:World}{a:Act}{σ:St}{fn:Func}{rs:List iV}{v:V}(h:R GL g w a σ)(hc:bJ (nb P) fn.results.toList=some rs)(hv:fb rs σ=some v):∃x,(results fn a.tmps).run P w=.ok x w∧RV g w v x:=by
 have key:∀(l:List ResultVar)(rs:List iV)(vs:List V),bJ (nb P) l=some rs→bJ (eA σ) rs=some vs→∃xs:List Value,(l.mapM (wP a)).run P w=.ok xs w∧aP g w vs xs:=by
  intro l;induction l with
   |nil=>intro rs vs h1 h2;simp only[bJ,aab]at h1;subst h1;simp only[bJ,aab]at h2;subst h2;exact⟨[],by simp,by simp[aP]⟩
   |cons r l ih=>
    intro rs vs h1 h2;simp only[bJ]at h1;split at h1
    ·cases h1
    ·rename_i r' vd;split at h1
     ·cases h1
     ·rename_i Cg UA;simp only[aab]at h1;subst h1;simp only[bJ]at h2;split at h2
      ·cases h2
      ·rename_i v' fv;split at h2
       ·cases h2
       ·rename_i To MG;simp only[aab]at h2;subst h2;obtain⟨x,k1,k2⟩:=DI h vd fv;obtain⟨xs,k3,k4⟩:=ih _ _ UA MG;refine⟨x::xs,?_,by simp only[aP];exact⟨k2,k4⟩⟩;rw[List.mapM_cons];simp only[Sem.run_bind,k1,Result.andThen_ok,k3,Sem.run_pure]
 unfold fb at hv;cases hm:bJ (eA σ) rs with
  |none=>simp[hm]at hv
  |some vs=>
   obtain⟨xs,k1,k2⟩:=key _ _ _ hc hm;have hl:=k2.length;have ey:(results fn a.tmps).run P w=.ok (if h:xs.toArray.size=1 then xs.toArray[0]else .tuple xs.toArray) w:=by
    have sR:results fn a.tmps=(do let vs←fn.results.mapM (wP a);pure (if h:vs.size=1 then vs[0]else .tuple vs)):=by unfold results;congr 1
    rw[sR,Array.mapM_eq_mapM_toList];simp only[Sem.run_bind,Sem.run_map,k1,Result.andThen_ok,Sem.run_pure]
   refine⟨_,ey,?_⟩;rw[hm]at hv;cases vs with
    |nil=>
     simp only[aab]at hv;subst hv;cases xs with
      |nil=>simp[RV];exact k2
      |cons=>simp at hl
    |cons v1 vs=>
     cases vs with
      |nil=>
       simp only[aab]at hv;subst hv;cases xs with
        |nil=>simp at hl
        |cons x xs=>
         cases xs with
          |nil=>simp only[aP]at k2;simpa using k2.1
          |cons=>simp at hl
      |cons v2 vs=>
       simp only[aab]at hv;subst hv;have:¬xs.toArray.size=1:=by simp at hl⊢;omega
       rw[dif_neg this];simp only[RV];exact⟨_,rfl,k2⟩
theorem WF.body{f:FuncId}{fn:cD}{args:List V}{H:ah}{Q:V→ah→Prop}(hf:aK P f=some fn)(wO:aq P f=true)(hn:args.length≤fn.ntmps)(h:WC P GL fn.body ⟨fn.ntmps,sP 0 args,H⟩ (fun e σ=>match e with| .exit _=>False|_=>∃v,fb fn.res σ=some v∧Q v σ.hp)):WF P GL f args H Q:=by
 refine⟨wO,fun g w vs dI hh hg=>?_ ⟩;unfold aK at hf;split at hf
 ·cases hf
 ·rename_i UB DJ;split at hf
  ·cases hf
  ·rename_i c PQ;split at hf
   ·rename_i b r hb hr;simp only[aab]at hf;subst hf;have hlen:=dI.length;simp at hlen hn;refine calls_of_wp DJ PQ (wp_mono (h c hb g w _ ?_ ) fun e a' w' hp=>?_ )
    ·refine⟨rfl,by simp;omega,fun t=>?_,hh,hg⟩;simp only[yF,Nat.not_lt_zero,abt,abS];by_cases ht:t<args.length
     ·have Ch:args[t]? =some args[t]:=aaf ht;obtain⟨x,Dw,wM⟩:=dI.get t Ch;rw[Ch,aaN];have MD:vs[t]? =some x:=by simpa using Dw
      have yD:t<vs.size:=by omega
      have:(vs++Array.replicate (UB.ntmps - vs.size) undef).getD t undef=x:=by rw[aaj,abY yD,MD];rfl
      rw[this];exact wM
     ·rw[acm (by omega)];simp only[Option.getD_none,RV]
    ·obtain⟨g2,sO,k1,k2,k3⟩:=hp;cases e with
      |normal=>obtain⟨v,hv,hq⟩:=k3;obtain⟨x,Dw,wM⟩:=sQ k1 hr hv;exact⟨k1.defers,x,Dw,x,v,g2,sO.hp,rfl,hq,wM,k1.heap,k2⟩
      |ret=>obtain⟨v,hv,hq⟩:=k3;obtain⟨x,Dw,wM⟩:=sQ k1 hr hv;exact⟨k1.defers,x,Dw,x,v,g2,sO.hp,rfl,hq,wM,k1.heap,k2⟩
      |exit i=>exact k3.elim
      |goto l=>exact k3.elim
      |panic c=>exact k3.elim
      |outgrown=>exact k3.elim
   ·cases hf
end
end Fw
/-
  A step of an iterator over a map: every entry that has not come yet may come next.
-/
namespace Fw
open Go
section
variable {P:Program}{GL:ca}
def dm(bN:Array MapEntry)(sa:Array Nat)(n:Nat):Array (Option MapEntry):=let left:=bN.filter fun e=> !sa.contains e.born;let yh:=left.filter (·.born<n);let new:=left.filter (·.born≥n);(if yh.isEmpty then #[none]else #[])++(yh++new).map some
theorem mu{bN:Array MapEntry}{sa:Array Nat}(h:∀(i:Nat)(x:MapEntry),bN[i]? =some x→x.born=i):(dm bN sa bN.size= #[none]∧∀i,i<bN.size→i∈sa.toList)∨(0<(dm bN sa bN.size).size∧∀(j:Nat)(c:Option MapEntry),(dm bN sa bN.size)[j]? =some c→∃i e,c=some e∧bN[i]? =some e∧e.born=i∧i∉sa.toList):=by
 have hb:∀e∈bN,e.born<bN.size∧bN[e.born]? =some e:=by intro e he;obtain⟨i,hi,rfl⟩:=Array.mem_iff_getElem.1 he;have:=h i _ (Array.getElem?_eq_getElem hi);exact⟨by rw[this];exact hi,by rw[this];exact Array.getElem?_eq_getElem hi⟩
 have yx:(bN.filter fun e=> !sa.contains e.born).filter (·.born<bN.size)=bN.filter fun e=> !sa.contains e.born:=by apply Array.filter_eq_self.2;intro e he;have:=(hb e (acF he)).1;simpa using this
 have AU:(bN.filter fun e=> !sa.contains e.born).filter (·.born≥bN.size)= #[]:=by apply Array.filter_eq_empty_iff.2;intro e he;have:=(hb e (acF he)).1;simp;omega
 unfold dm;simp only[yx,AU,Array.append_empty];cases hl:(bN.filter fun e=> !sa.contains e.born).isEmpty with
  |true=>left;have he:=Array.isEmpty_iff.1 hl;refine⟨by rw[he];simp,fun i hi=>?_ ⟩;have:=Array.filter_eq_empty_iff.1 he bN[i] (Array.getElem_mem hi);rw[h i _ (Array.getElem?_eq_getElem hi)]at this;simpa using this
  |false=>
   right;have ew:(bN.filter fun e=> !sa.contains e.born)≠ #[]:=fun he=>by rw[he]at hl;simp at hl
   refine⟨?_,fun j c hc=>?_ ⟩
   ·simp only[aa8,abt,Array.empty_append,Array.size_map];exact Array.size_pos_iff.2 ew
   ·simp only[aa8,abt,Array.empty_append,Array.getElem?_map,aad]at hc;obtain⟨e,he,rfl⟩:=hc;have hm:=Array.mem_of_getElem? he;have h1:=hb e (acF hm);have h2:=(Array.mem_filter.1 hm).2;refine⟨e.born,e,rfl,h1.2,rfl,by simpa using h2⟩
theorem DK{op:Op}{x:a_}(h:bD P op=some (.qS x)):∃it,op=.next it false∧au it=some x:=by
 cases op with
  |next it s=>
   simp only[bD]at h;split at h
   ·cases h
   ·rename_i hs;simp only[aad,ki.qS.injEq]at h;obtain⟨y,hy,rfl⟩:=h;exact⟨it,by simp at hs;rw[hs],hy⟩
  |makeFunc fn a b=>exfalso;cases fn<;>(simp only[bD]at h;(repeat' split at h)<;>simp at h)
  |makeMap t r=>exfalso;cases r<;>(simp only[bD]at h;simp at h)
  |slice t x lo hi mx=>exfalso;cases mx<;>(simp only[bD]at h;(repeat' split at h)<;>simp at h)
  |call c=>exfalso;simp only[bD,dH]at h;(repeat' split at h)<;>simp at h
  |_=>exfalso;simp only[bD]at h;(repeat' split at h)<;>simp at h
theorem WO.qS{o:ad}{l:List ad}{σ:St}{Q:St→Prop}{x:a_}{b m n:Nat}{seen:List Nat}{es:List (D×V)}(ho:o.op=.qS x)(hg:ao o.guard σ.tm=some true){m':Nat}(hx:aU GL σ.tm x=.iter b m')(hb:aA σ.hp b=some (.dC m n seen))(hm:aA σ.hp m=some (.map es))(hn:es.length=n)(h1:∀i k v,es[i]? =some (k,v)→i∉seen→∃aL,σ.put o.dst (.tuple [.d (.bool true),.d k,v]) (bj σ.hp b (.dC m n (seen++[i])))=some aL∧WO P GL l aL Q)(h2:(∀i,i<n→i∈seen)→∃aL,σ.put o.dst (.tuple [.d (.bool false)]) σ.hp=some aL∧WO P GL l aL Q):WO P GL (o::l) σ Q:=by
 refine WO.step fun o' ops ei lh dN g w a hr K Q' hK=>?_
 rw[c6 hr lh hg,aan rfl];rw[ho]at ei;obtain⟨it,hc,hit⟩:=DK (eE ei (by simp));have hv:=hr.ev _ _ hit;rw[hx]at hv;simp only[RV]at hv;obtain⟨xb,nZ⟩:=hr.heap.back b _ hb;obtain⟨_,y,hy,Ci⟩:=hr.heap.live b xb nZ;rw[hb]at hy;simp only[aab]at hy;subst hy;obtain⟨aO,rfl,AH⟩:=hv.2 xb nZ;simp only[RB]at Ci;obtain⟨mb,sa,k1,k2,k3,k4⟩:=Ci;obtain⟨xm,PB⟩:=hr.heap.back m _ hm;obtain⟨_,y,hy,sI⟩:=hr.heap.live m xm PB;rw[hm]at hy;simp only[aab]at hy;subst hy;obtain rfl:=k4 xm PB;simp only[RB]at sI;obtain⟨bN,clock,m1,m2,m3,m4,m5⟩:=sI;have wQ:aO<w.heap.size:=(abc.1 k1).1;have I7:n=bN.size:=by omega
 have PR:(!sa.isEmpty&& !bN.isEmpty&&bN.all (·.born≥n))=false:=by
  cases he:bN.isEmpty with
   |true=>simp
   |false=>
    have nD:0<bN.size:=by
     cases hs:bN.size with
      |zero=>rw[Array.size_eq_zero_iff.1 hs]at he;simp at he
      |succ k=>omega
    have:bN.all (·.born≥n)=false:=by rw[Array.all_eq_false];refine⟨0,nD,?_⟩;have:=m4 0 _ (Array.getElem?_eq_getElem nD);simp[this];omega
    simp[this]
 have PS:∀r,(∀q,q=Question.mapNext (dm bN sa n).size→(do
  match(dm bN sa n)[←choose q]? with
   |some (some e)=>setObj aO (.mapIter (some mb) n (sa.push e.born) clock);pure (.tuple #[.bool true,e.key,e.val])
   |some none=>pure (.tuple #[.bool false])
   |none=>stuck "Next: no such candidate":Sem Value).run P w=r)→(Instr.next (a.eval it) false o'.type).run P w=r:=by intro r h;rw[←h _ rfl];simp only[Instr.next,AH,Sem.run_bind,getObj,Sem.run,k1,m1,Result.andThen_ok,PR,aa8,abt,dm];rfl
 have ey:∃r,(Instr.next (a.eval it) false o'.type).run P w=r∧(
  (∃d i e,bN[i]? =some e∧e.born=i∧i∉sa.toList∧r=.ok (.tuple #[.bool true,e.key,e.val]) {w with drawn:=d,heap:=w.heap.setIfInBounds aO (.mapIter (some mb) n (sa.push i) n)})∨
  (∃d,(∀i,i<n→i∈sa.toList)∧r=.ok (.tuple #[.bool false]) {w with drawn:=d})):=by
  refine⟨_,PS _ (fun q hq=>by subst hq;rfl),?_⟩;have key:∀(t d:Nat),t<(dm bN sa n).size→∀r,r=((match(dm bN sa n)[t]? with
   |some (some e)=>
    do
     setObj aO (.mapIter (some mb) n (sa.push e.born) clock)
     pure (.tuple #[.bool true,e.key,e.val])
   |some none=>pure (.tuple #[.bool false])
   |none=>stuck "Next: no such candidate":Sem Value).run P {w with drawn:=d})→(
   (∃d i e,bN[i]? =some e∧e.born=i∧i∉sa.toList∧r=.ok (.tuple #[.bool true,e.key,e.val]) {w with drawn:=d,heap:=w.heap.setIfInBounds aO (.mapIter (some mb) n (sa.push i) n)})∨
   (∃d,(∀i,i<n→i∈sa.toList)∧r=.ok (.tuple #[.bool false]) {w with drawn:=d})):=by
   intro t d ht r hr;rw[I7]at ht hr⊢;rcases mu (sa:=sa) m4 with⟨e1,e2⟩|⟨e1,e2⟩
   ·right;refine⟨d,e2,?_⟩;rw[e1]at ht hr;obtain rfl:t=0:=by simp at ht;exact ht
    rw[hr];simp
   ·left;obtain⟨c,hc⟩:∃c,(dm bN sa bN.size)[t]? =some c:=⟨_,Array.getElem?_eq_getElem ht⟩;obtain⟨i,e,rfl,f1,f2,f3⟩:=e2 t c hc;refine⟨d,i,e,f1,f2,f3,?_⟩;rw[hr,hc];have Zo:w.heap[aO]? =some (Obj.mapIter (some mb) bN.size sa bN.size):=by rw[k1,I7]
    simp[setObj,Sem.run,f2,m5,Zo,-Array.getElem?_eq_getElem]
  have nD:0<(dm bN sa n).size:=by
   rw[I7];rcases mu (sa:=sa) m4 with⟨e1,_⟩|⟨e1,_⟩
   ·rw[e1];simp
   ·exact e1
  simp only[choose,Sem.run_bind,Sem.run,Result.andThen_ok];by_cases hf:(Question.mapNext (dm bN sa n).size).forced=true
  ·rw[aan hf];exact key 0 w.drawn nD _ rfl
  ·rw[aal hf];exact key _ _ (ab0 _ nD) _ rfl
 obtain⟨r,jW,wL⟩:=ey;have uJ:∀v w',r=.ok v w'→(execOp a.eval o').run P w=.ok (.value v) w':=by intro v w' e;rw[e]at jW;simp[execOp,hc,jW]
 unfold Oper.wp;rcases wL with⟨d,i,e,f1,f2,f3,rfl⟩|⟨d,f1,rfl⟩
 ·rw[uJ _ _ rfl];simp only[Oper.upon];rw[dN];obtain⟨hi,_⟩:=abc.1 f1;have MB:i<es.length:=by omega
  obtain⟨z,z1,z2,z3,z4⟩:=m3 i (es[i]).1 (es[i]).2 (aaf MB);rw[f1]at z1;simp only[aab]at z1;subst z1;obtain⟨aL,hp,Jx⟩:=h1 i (es[i]).1 (es[i]).2 (aaf MB) (by rw[←k2];exact f3);have he:ch g w g {w with drawn:=d,heap:=w.heap.setIfInBounds aO (.mapIter (some mb) n (sa.push i) n)}:=ch.write nZ rfl (hr.heap.u5 nZ rfl) rfl rfl rfl (by simp) (fun j hj=>by simp only[aaC (ack hj)]);have hh:av g {w with drawn:=d,heap:=w.heap.setIfInBounds aO (.mapIter (some mb) n (sa.push i) n)} (bj σ.hp b (.dC m n (seen++[i]))):=by refine av.write hr.heap _ nZ rfl he (fun j hj=>by simp only[aaC (ack hj)]) ?_;simp only[RB];exact⟨mb,sa.push i,by simp[wQ],by simp[k2],k3,k4⟩
  refine hK g _ _ aL (hr.gi he hh hp ?_ ) he Jx;simp only[RV];exact⟨_,rfl,by simp only[aP];exact⟨RV.Ds _,by simp only[RV];exact Rd.keeps he.keeps _ _ z3,RV.ext he _ _ z4,trivial⟩⟩
 ·rw[uJ _ _ rfl];simp only[Oper.upon];rw[dN];obtain⟨aL,hp,Jx⟩:=h2 (by rw[←k2];exact f1);have he:ch g w g {w with drawn:=d}:=ch.drawn g w d;refine hK g _ _ aL (hr.gi he (hr.heap.ext he (fun _ _ _ _ _=>rfl)) hp ?_ ) he Jx;simp only[RV];exact⟨_,rfl,by simp only[aP];exact⟨RV.Ds _,trivial⟩⟩
end
end Fw
/-
  Freezing a box, as a rule.
-/
namespace Fw
open Go
section
variable {P:Program}{GL:ca}
theorem WC.freeze{c:IR}{σ aL:St}{Q:Ex→St→Prop}{b:Nat}(hc:iQ b σ=some aL)(h:WC P GL c aL Q):WC P GL c σ Q:=by intro code sS g w a hr;exact wp_mono (h code sS _ w a (hr.nL hc)) (cr.ext (ch.nL _ _ (ch.refl _ _)))
theorem WO.freeze{l:List ad}{σ aL:St}{Q:St→Prop}{b:Nat}(hc:iQ b σ=some aL)(h:WO P GL l aL Q):WO P GL l σ Q:=by intro ops k sS g w a hr;exact cP (cr.ext (ch.nL _ _ (ch.refl _ _))) _ _ _ (h ops k sS _ w a (hr.nL hc))
theorem WO.fS{o:ad}{l:List ad}{σ aL:St}{Q:St→Prop}{v:V}(hg:ao o.guard σ.tm=some true)(he:fS (aU GL σ.tm) o.op=some v)(hp:σ.put o.dst v σ.hp=some aL)(h:WO P GL l aL Q):WO P GL (o::l) σ Q:=by
 refine WO.step fun o' ops ei lh dN g w a hr K Q' hK=>?_
 rw[c6 hr lh hg,aan rfl];obtain⟨w',x,k1,k2,k3,k4⟩:=p_ (P:=P) (a:=a) (o:=o') (eE ei (fun e=>by rw[e]at he;cases he)) he hr.ev hr.heap;unfold Oper.wp;rw[k1];simp only[Oper.upon];rw[dN];exact hK g w' _ aL (hr.gi k4 k3 hp k2) k4 h
end
end Fw
/-
  What an operation looks at, and that nothing else matters to it.
-/
namespace Fw
open Go
def mw:List (Nat×Nat×a_)→List a_|[]=>[]|(_,_,x)::ps=>x::mw ps
def looks:ki→List a_| .mv x| .box _ x| .load _ _ x| .fW x| .un _ x| .conv _ x| .same x| .jj x| .Mj _ _ _ x| .fI _ _ x| .ext x _| .len _ x| .cap x| .range _ x| .Ps x| .qS x| .entry x| .m_ _ x=>[x]| .pick c a b=>[c,a,b]| .alloc _| .B6| .bad=>[]| .build _ ps| .mkSlice _ _ _ ps=>mw ps| .store _ a x=>[a,x]| .bin _ x y| .eq _ _ x y| .FJ _ _ x y| .append _ _ x y=>[x,y]| .kX _ a b=>a++b| .kY x lo hi| .eu _ x lo hi| .sB _ _ x lo hi=>x::(lo.toList++hi.toList)| .db _ x i| .sD _ _ x i| .gF x i| .Jf _ _ _ x i=>[x,i]| .yp _ _ _ l c=>[l,c]| .kZ _ _ _ x n=>[x,n]| .lookup _ _ _ m k=>[m,k]| .fX _ m k x=>[m,k,x]| .pV _ xs=>xs| .call _ args=>args| .e_ x args=>x::args
def bQ:V→List Nat| .ptr b _ _=>[b]| .sl b _ _ _ _=>[b]| .map b=>[b]| .iter b m=>[b,m]|_=>[]
def lq(ρ:a_→V):ki→List Nat| .load _ _ a=>bQ (ρ a)| .store _ a _=>bQ (ρ a)| .eu _ x _ _=>bQ (ρ x)| .sB _ _ x _ _=>bQ (ρ x)| .db _ x _=>bQ (ρ x)| .len _ x=>bQ (ρ x)| .append _ _ x y=>bQ (ρ x)++bQ (ρ y)| .lookup _ _ _ m _=>bQ (ρ m)| .range _ x=>bQ (ρ x)| .eq _ _ x y=>bQ (ρ x)++bQ (ρ y)| .entry x=>bQ (ρ x)| .fX _ m _ _=>bQ (ρ m)| .call _ args=>(bd ρ args).flatMap bQ|_=>[]
section
variable {ρ DL:a_→V}{H H':ah}
theorem yG{n:Nat}{u:V}(h:∀b∈bQ u,aA H' b=aA H b):cY H' n u=cY H n u:=by cases u<;>simp only[cY];rename_i b _ _;rw[h b (by simp[bQ])]
theorem wR{n:Nat}{u x:V}(h:∀b∈bQ u,aA H' b=aA H b):dz H' n u x=dz H n u x:=by cases u<;>simp only[dz];rename_i b _ _;rw[h b (by simp[bQ])]
theorem jX{b k:Nat}(h:aA H' b=aA H b):dP H' b k=dP H b k:=by simp only[dP,h]
theorem AV{k:kW}{u:V}(h:∀b∈bQ u,aA H' b=aA H b):fZ H' k u=fZ H k u:=by
 cases u with
  |d x=>cases x<;>rfl
  |sl b hb off len sz=>simp only[fZ,jX (h b (by simp[bQ]))]
  |map b=>simp only[fZ,h b (by simp[bQ])]
  |_=>rfl
theorem wS{sz:Nat}{u:V}(h:∀b∈bQ u,aA H' b=aA H b):cC H' sz u=cC H sz u:=by
 cases u with
  |d x=>cases x<;>rfl
  |sl b hb off len sz=>simp only[cC,h b (by simp[bQ])]
  |_=>rfl
theorem uK{ns sz bytes:Nat}{u:V}{xs:List V}(h:∀b∈bQ u,aA H' b=aA H b):cF H' ns sz bytes u xs=cF H ns sz bytes u xs:=by
 cases u with
  |sl b hb off len sz=>simp only[cF,h b (by simp[bQ])]
  |_=>rfl
theorem yH{u:V}(h:∀b∈bQ u,aA H' b=aA H b):lS H' u=lS H u:=by
 cases u with
  |map b=>simp only[lS,h b (by simp[bQ])]
  |_=>rfl
theorem jY:∀{ps:List (Nat×Nat×a_)}{cs:List V},(∀x∈mw ps,DL x=ρ x)→dO DL cs ps=dO ρ cs ps|[],_,_=>rfl|(off,size,x)::ps,cs,h=>by simp only[dO];rw[h x (by simp[mw]),jY (fun y hy=>h y (by simp[mw,hy]))]
theorem dR:∀{l:List a_},(∀x∈l,DL x=ρ x)→bd DL l=bd ρ l|[],_=>rfl|x::l,h=>by simp only[bd];rw[h x (by simp),dR (fun y hy=>h y (by simp[hy]))]
theorem lr{len:Nat}{lo hi:Option a_}(h:∀x∈lo.toList++hi.toList,DL x=ρ x):bounds DL len lo hi=bounds ρ len lo hi:=by cases lo<;>cases hi<;>simp only[bounds]<;>simp at h<;>simp[h]
theorem DM{k:pU}{u v:V}(hn:∀b h,b∈bQ u++bQ v→wA H' b h=wA H b h):FW H' k u v=FW H k u v:=by
 have hd:∀(p:D)(v:V),FW H' k (.d p) v=FW H k (.d p) v:=by intro p v;rcases p with _|_|_|(_|⟨e,es⟩)<;>cases v<;>first|(cases k<;>rfl)|(rename_i q;rcases q with _|_|_|(_|⟨e',OI⟩)<;>cases k<;>rfl)
 have yI:∀(p:D)(v:V),FW H' k v (.d p)=FW H k v (.d p):=by
  intro p v;cases v with
   |d q=>exact hd q _
   |_=>rcases p with _|_|_|(_|⟨e,es⟩)<;>cases k<;>rfl
 cases u with
  |d p=>exact hd p v
  |_=>
   cases v with
    |d p=>exact yI p _
    |_=>cases k<;>first|rfl|exact hn _ _ (by simp[bQ])
theorem AX{op:ki}(h1:∀x∈looks op,DL x=ρ x):fS DL op=fS ρ op:=by cases op<;>first|rfl|(simp only[looks]at h1;simp only[fS];rw[jY h1])
theorem DN{op:ki}{ns:Nat}(h1:∀x∈looks op,DL x=ρ x)(h2:∀b∈lq ρ op,aA H' b=aA H b):bu DL H' ns op=bu ρ H ns op:=by
 cases op<;>simp only[looks,aaH,acN,or_false,forall_eq_or_imp,forall_eq,aaV]at h1<;>simp only[lq]at h2<;>simp only[bu];case mv=>rw[h1]
 case pick=>rw[h1.1,h1.2.1,h1.2.2]
 case box=>rw[h1]
 case build=>rw[jY h1]
 case mkSlice=>rw[jY h1]
 case load=>rw[h1,yG h2]
 case store=>rw[h1.1,h1.2,wR h2]
 case fW=>rw[h1]
 case bin=>rw[h1.1,h1.2]
 case eq neg k x y=>
  rw[h1.1,h1.2];have hn:∀b h,b∈bQ (ρ x)++bQ (ρ y)→wA H' b h=wA H b h:=fun b h hb=>by simp only[wA,h2 b hb]
  rw[DM hn]
 case FJ=>rw[h1.1,h1.2]
 case un=>rw[h1]
 case conv=>rw[h1]
 case same=>rw[h1]
 case jj=>rw[h1]
 case yp=>rw[h1.1,h1.2]
 case kZ=>rw[h1.1,h1.2]
 case cap=>rw[h1]
 case kX=>rw[dR (fun x hx=>h1 x (.inl hx)),dR (fun x hx=>h1 x (.inr hx))]
 case kY x lo hi=>
  rw[h1.1];have hb:∀len,bounds DL len lo hi=bounds ρ len lo hi:=fun len=>lr (fun x hx=>h1.2 x (aaV.1 hx))
  simp only[hb]
 case eu sz x lo hi=>
  rw[h1.1];have hb:∀len,bounds DL len lo hi=bounds ρ len lo hi:=fun len=>lr (fun x hx=>h1.2 x (aaV.1 hx))
  simp only[hb];split<;>first|rfl|(rename_i b _ _ _ _ e;rw[jX (h2 b (by rw[e];simp[bQ]))])
 case sB n sz x lo hi=>
  rw[h1.1];have hb:∀len,bounds DL len lo hi=bounds ρ len lo hi:=fun len=>lr (fun x hx=>h1.2 x (aaV.1 hx))
  simp only[hb];split<;>first|rfl|(rename_i b _ _ e;rw[jX (h2 b (by rw[e];simp[bQ]))])
 case Mj=>rw[h1]
 case fI=>rw[h1]
 case db sz x i=>
  rw[h1.1,h1.2];split
  ·rfl
  ·split<;>first|rfl|(rename_i b _ _ _ _ e;rw[jX (h2 b (by rw[e];simp[bQ]))])
 case sD=>rw[h1.1,h1.2]
 case gF=>rw[h1.1,h1.2]
 case Jf=>rw[h1.1,h1.2]
 case ext=>rw[h1]
 case len k x=>rw[h1];cases k<;>simp only[]<;>first|rfl|rw[AV h2]
 case append sz bytes x y=>
  have ha:∀xs,cF H' ns sz bytes (ρ x) xs=cF H ns sz bytes (ρ x) xs:=fun xs=>uK (fun b hb=>h2 b (by simp[hb]))
  rw[h1.1,h1.2,wS (fun b hb=>h2 b (by simp[hb]))];simp only[ha]
 case lookup=>rw[h1.1,h1.2,yH h2]
 case fX kk m k x=>
  rw[h1.1,h1.2.1,h1.2.2];split
  ·rename_i b kd e _;rw[h2 b (by rw[e];simp[bQ])]
  ·rfl
 case m_=>rw[h1]
 case entry x=>
  rw[h1];split
  ·rename_i b m e;rw[h2 b (by rw[e];simp[bQ]),h2 m (by rw[e];simp[bQ])]
  ·rfl
 case range m x=>
  rw[h1];cases m
  ·rfl
  ·simp only[aag];split
   ·rename_i b e;rw[h2 b (by rw[e];simp[bQ])]
   ·rfl
 case pV=>rw[dR h1]
end
end Fw
/-
  A region whose order is drawn: one run in the text's order, and a look that no two operations whose order is open meet.
-/
namespace Fw
open Go
def PC(P:Program)(GL:ca)(f:FuncId)(args:List V)(v:V):Prop:=aq P f=true∧∀g w (vs:Array Value),aP g w args vs.toList→(∀k,g.fo k→k<w.heap.size)→(∀b x k,g.γ b=some x→x.own=some k→k<w.heap.size)→f_ GL g w→Calls P f vs w fun e w'=>∃x,e=.returned x∧RV g w' v x∧ch g w g w'∧∀b y k,g.γ b=some y→y.own=some k→w'.heap[k]? =w.heap[k]?
def bw:ki→Option (FuncId×List a_)| .call f args=>some (f,args)|_=>none
def eI(GL:ca)(tm:List (Nat×V))(H:ah)(ns:Nat)(o:ad)(cv:Option V):Option (V×Wr):=match ao o.guard tm with
 |none=>none
 |some false=>some (.tuple [],none)
 |some true=>
  match bw o.op with
   |some _=>cv.map fun v=>(v,none)
   |none=>
    match cv with
     |some _=>(fS (aU GL tm) o.op).map fun v=>(v,none)
     |none=>bu (aU GL tm) H ns o.op
def St.fc(σ:St)(dst:Option Nat)(v:V)(H:ah):St:=match dst with
 |none=>⟨σ.n,σ.tm,H⟩
 |some d=>⟨σ.n,Fw.put σ.tm d v,H⟩
def l3(GL:ca)(base:Nat)(qc:Nat→Option V):Nat→List ad→St→Option (List ((V×Wr)×List Nat))
 |_,[],_=>some []
 |i,o::l,σ=>
  match eI GL σ.tm σ.hp (base+i) o (qc i)with
   |none=>none
   |some r=>
    match l3 GL base qc (i+1) l (σ.fc o.dst r.1 (aX σ.hp r.2))with
     |none=>none
     |some rs=>some ((r,lq (aU GL σ.tm) o.op)::rs)
def ax(K:Nat→Bool):Nat→List ad→List ((V×Wr)×List Nat)→St→St|i,o::l,r::rs,σ=>ax K (i+1) l rs (bif K i then σ.fc o.dst r.1.1 (aX σ.hp r.1.2)else σ)|_,_,_,σ=>σ
def bq:Wr→Option Nat|some (b,_)=>some b|none=>none
def PT:a_→Option Nat| .t n=>some n|_=>none
def dq(o:ad):List Nat:=(looks o.op).filterMap PT++(match o.guard with|some (d,_)=>[d]|none=>[])
structure lT where
 dst:Option Nat
 lk:List Nat
 rd:List Nat
 ws:Option Nat
 after:List Nat
 deriving Inhabited
def gK:List ad→List ((V×Wr)×List Nat)→List lT|o::l,r::rs=>{dst:=o.dst,lk:=dq o,rd:=r.2,ws:=bq r.1.2,after:=o.after}::gK l rs|_,_=>[]
def nM(x:Option Nat)(l:List Nat):Bool:=match x with
 |some n=>l.any (Nat.beq n)
 |none=>false
def gL(x y:Option Nat):Bool:=match x,y with
 |some n,some m=>Nat.beq n m
 |_,_=>false
def gT(x y:lT):Bool:=nM x.dst y.lk||nM y.dst x.lk||gL x.dst y.dst||nM x.ws y.rd||nM y.ws x.rd||gL x.ws y.ws
def o6:Option Nat→Nat|none=>0|some t=>Nat.shiftLeft 1 t
def nO:List Nat→Nat|[]=>0|t::l=>Nat.lor (Nat.shiftLeft 1 t) (nO l)
def my(e:Nat):List (Nat×Nat)→Nat|[]=>0|(i,m)::l=>bif Nat.beq i e then m else my e l
def ls(acc:List (Nat×Nat)):List Nat→Nat|[]=>0|e::es=>Nat.lor (Nat.lor (Nat.shiftLeft 1 e) (my e acc)) (ls acc es)
def cM:Nat→List (Nat×Nat)→List ad→List Nat|_,_,[]=>[]|j,acc,o::l=>ls acc o.after::cM (j+1) ((j,ls acc o.after)::acc) l
def kC:Nat→List ad→Bool|_,[]=>true|j,o::l=>o.after.all (Nat.blt · j)&&kC (j+1) l
def Cj(W L R:Nat):List (Nat×Nat×Nat)→Bool|[]=>true|(i,w,k)::AN=>(Nat.beq (Nat.lor (Nat.land w (Nat.lor L W)) (Nat.land k W)) 0||Nat.beq (Nat.land (Nat.shiftRight R i) 1) 1)&&Cj W L R AN
def Jy:Nat→List (Nat×Nat×Nat)→List (Nat×Nat)→List Nat→Bool|_,_,[],_=>true|_,_,_,[]=>true|j,pre,(W,L)::ms,R::rs=>Cj W L R pre&&Jy (j+1) ((j,W,L)::pre) ms rs
def Ck(l:List ad):List (Nat×Nat):=l.map fun o=>(o6 o.dst,nO (dq o))
def AY(rs:List ((V×Wr)×List Nat)):List (Nat×Nat):=rs.map fun r=>(o6 (bq r.1.2),nO r.2)
def n6(l:List ad):Bool:=kC 0 l&&Jy 0 [] (Ck l) (cM 0 [] l)
def sT:List ((V×Wr)×List Nat)→Bool
 |[]=>true
 |r::rs=>
  match r.1.2 with
   |none=>sT rs
   |some _=>false
def cT(l:List ad)(rs:List ((V×Wr)×List Nat)):Bool:=n6 l&&(sT rs||Jy 0 [] (AY rs) (cM 0 [] l))
section
variable {P:Program}{GL:ca}
theorem iY{x:Option Nat}{l:List Nat}:nM x l=true↔∃n,x=some n∧n∈l:=by
 cases x with
  |none=>simp[nM]
  |some n=>
   simp only[nM,acO,aab,exists_eq_left'];constructor
   ·rintro⟨m,h1,h2⟩;have:=aah h2;subst this;exact h1
   ·intro h;exact⟨n,h,aaz n⟩
theorem c7{x y:Option Nat}:gL x y=true↔∃n,x=some n∧y=some n:=by cases x<;>cases y<;>simp[gL];exact eq_comm
theorem iu{σ:St}{dst:Option Nat}{v:V}{H:ah}{t:Nat}:get (σ.fc dst v H).tm t=if dst=some t then v else get σ.tm t:=by
 cases dst with
  |none=>simp[St.fc]
  |some d=>
   simp only[St.fc,na,aab];by_cases h:t=d
   ·subst h;simp
   ·rw[aal h,aal (fun e=>h e.symm)]
theorem nf{H:ah}{wr:Wr}{b:Nat}:aA (aX H wr) b=match wr with|some (s,y)=>if b=s then some y else aA H b|none=>aA H b:=by
 cases wr with
  |none=>rfl
  |some p=>obtain⟨s,y⟩:=p;simp only[aX,er]
theorem kD{K K':Nat→Bool}{t:Nat}:∀{l:List ad}{rs:List ((V×Wr)×List Nat)}{i:Nat}{σ aL:St},get σ.tm t=get aL.tm t→(∀j o,l[j]? =some o→o.dst=some t→K (i+j)=K' (i+j))→get (ax K i l rs σ).tm t=get (ax K' i l rs aL).tm t
 |[],_,_,_,_,h,_=>by simpa[ax]using h
 |_::_,[],_,_,_,h,_=>by simpa[ax]using h
 |o::l,r::rs,i,σ,aL,h,hk=>by
  simp only[ax];refine kD ?_ (fun j o' h1 h2=>by have:=hk (j+1) o' (by simpa using h1) h2;rwa[show i+(j+1)=i+1+j by omega]at this);by_cases hd:o.dst=some t
  ·have:=hk 0 o rfl hd;simp at this;rw[this];cases K' i with
    |true=>simp only[aag,iu,hd,aa4]
    |false=>exact h
  ·have ew:∀(b:Bool)(s:St),get (bif b then s.fc o.dst r.1.1 (aX s.hp r.1.2)else s).tm t=get s.tm t:=by intro b s;cases b<;>simp[iu,hd]
   rw[ew,ew];exact h
theorem kE{K K':Nat→Bool}{b:Nat}:∀{l:List ad}{rs:List ((V×Wr)×List Nat)}{i:Nat}{σ aL:St},aA σ.hp b=aA aL.hp b→(∀j r,rs[j]? =some r→bq r.1.2=some b→K (i+j)=K' (i+j))→aA (ax K i l rs σ).hp b=aA (ax K' i l rs aL).hp b
 |[],_,_,_,_,h,_=>by simpa[ax]using h
 |_::_,[],_,_,_,h,_=>by simpa[ax]using h
 |o::l,r::rs,i,σ,aL,h,hk=>by
  simp only[ax];have AZ:∀s:St,(s.fc o.dst r.1.1 (aX s.hp r.1.2)).hp=aX s.hp r.1.2:=by intro s;cases o.dst<;>rfl
  refine kE ?_ (fun j r' h1 h2=>by have:=hk (j+1) r' (by simpa using h1) h2;rwa[show i+(j+1)=i+1+j by omega]at this);by_cases hd:bq r.1.2=some b
  ·have:=hk 0 r rfl hd;simp at this;rw[this];cases K' i with
    |true=>
     simp only[aag,AZ,nf];cases hw:r.1.2 with
      |none=>rw[hw]at hd;simp[bq]at hd
      |some p=>obtain⟨s,y⟩:=p;rw[hw]at hd;simp only[bq,aab]at hd;subst hd;simp
    |false=>exact h
  ·have ew:∀(c:Bool)(s:St),aA (bif c then s.fc o.dst r.1.1 (aX s.hp r.1.2)else s).hp b=aA s.hp b:=by
    intro c s;cases c with
     |false=>rfl
     |true=>
      simp only[aag,AZ,nf];cases hw:r.1.2 with
       |none=>rfl
       |some p=>obtain⟨q,y⟩:=p;rw[hw]at hd;simp only[bq,aab]at hd;simp[ack hd]
   rw[ew,ew];exact h
theorem eG{K:Nat→Bool}:∀{l:List ad}{rs:List ((V×Wr)×List Nat)}{i:Nat}{σ:St},(ax K i l rs σ).n=σ.n
 |[],_,_,_=>by simp[ax]
 |_::_,[],_,_=>by simp[ax]
 |o::l,r::rs,i,σ=>by simp only[ax];rw[eG];cases K i<;>simp[St.fc];cases o.dst<;>rfl
theorem eN{H:ah}{b:Nat}{y:dU}(h:b<H.length):(bj H b y).length=H.length:=by
 induction H generalizing b with
  |nil=>simp at h
  |cons z H ih=>cases b<;>simp[bj];exact ih (by simpa using h)
theorem mz{base:Nat}{qc:Nat→Option V}:∀{l:List ad}{i0:Nat}{σ:St}{rs:List ((V×Wr)×List Nat)},l3 GL base qc i0 l σ=some rs→rs.length=l.length∧∀i o,l[i]? =some o→∃r,rs[i]? =some r∧eI GL (ax (fun j=>decide (j<i0+i)) i0 l rs σ).tm (ax (fun j=>decide (j<i0+i)) i0 l rs σ).hp (base+(i0+i)) o (qc (i0+i))=some r.1∧r.2=lq (aU GL (ax (fun j=>decide (j<i0+i)) i0 l rs σ).tm) o.op
 |[],i0,σ,rs,h=>by simp[l3]at h;subst h;simp
 |o::l,i0,σ,rs,h=>by
  simp only[l3]at h;split at h
  ·cases h
  ·rename_i r hr;split at h
   ·cases h
   ·rename_i Cg Cl;simp only[aab]at h;subst h;obtain⟨h1,h2⟩:=mz Cl;refine⟨by simp[h1],fun i o' iR=>?_ ⟩;have iS:∀(l:List ad)(rs:List ((V×Wr)×List Nat))(k:Nat)(σ:St),(∀j,k≤j→(decide (j<i0))=false)→ax (fun j=>decide (j<i0)) k l rs σ=σ:=by
     intro l rs k σ hk;induction l generalizing rs k with
      |nil=>simp[ax]
      |cons o l ih=>
       cases rs with
        |nil=>simp[ax]
        |cons r rs=>simp only[ax,hk k (aao _),aaw];exact ih rs (k+1) (fun j hj=>hk j (by omega))
    cases i with
     |zero=>
      simp at iR;subst iR;refine⟨_,rfl,?_,?_⟩
      ·simp only[abk];rw[iS _ _ _ _ (fun j hj=>by simp;omega)];exact hr
      ·simp only[abk];rw[iS _ _ _ _ (fun j hj=>by simp;omega)]
     |succ i=>
      simp at iR;obtain⟨r',h3,h4,h5⟩:=h2 i o' iR;have e:i0+(i+1)=i0+1+i:=by omega
      refine⟨r',by simpa using h3,?_,?_ ⟩
      ·simp only[ax,e,show decide (i0<i0+1+i)=true by simp;omega,aag];exact h4
      ·simp only[ax,e,show decide (i0<i0+1+i)=true by simp;omega,aag];exact h5
end
end Fw
/-
  A region whose order is drawn: whatever the order, the end is that of the text's order.
-/
namespace Fw
open Go
section
variable {P:Program}{GL:ca}
theorem R.congr{g:G}{w:World}{a:Act}{σ aL:St}(h:R GL g w a σ)(hn:aL.n=σ.n)(ht:∀t,get aL.tm t=get σ.tm t)(hh:aL.hp=σ.hp):R GL g w a aL:=⟨h.defers,by rw[h.size,hn],fun t=>by rw[ht t];exact h.tmps t,by rw[hh];exact h.heap,h.dQ⟩
theorem R.drawn{g:G}{w:World}{a:Act}{σ:St}(h:R GL g w a σ)(n:Nat):R GL g {w with drawn:=n} a σ:=⟨h.defers,h.size,fun t=>RV.ext (ch.drawn g w n) _ _ (h.tmps t),h.heap.ext (ch.drawn g w n) (fun _ _ _ _ _=>rfl),h.dQ.ext (ch.drawn g w n)⟩
theorem yJ(H:ah)(n b:Nat):aA (H++List.replicate n none) b=aA H b:=by
 induction H generalizing b with
  |nil=>
   simp only[abv];induction n generalizing b with
    |zero=>rfl
    |succ n ih=>cases b<;>simp[List.replicate_succ,aA];rw[ih];simp[aA]
  |cons y H ih=>cases b<;>simp[aA,ih]
theorem av.pad{g:G}{w:World}{H:ah}(h:av g w H)(n:Nat):av g w (H++List.replicate n none):=⟨fun b hb=>by have:=h.cK b hb;simp;omega,fun b x hx=>by obtain⟨h1,y,h2,h3⟩:=h.live b x hx;exact⟨h1,y,by rw[yJ];exact h2,h3⟩,fun b y hy=>h.back b y (by rwa[yJ]at hy),h.inj,h.fo⟩
theorem R.pad{g:G}{w:World}{a:Act}{σ:St}(h:R GL g w a σ)(n:Nat):R GL g w a ⟨σ.n,σ.tm,σ.hp++List.replicate n none⟩:=⟨h.defers,h.size,h.tmps,h.heap.pad n,h.dQ⟩
theorem mA:∀{H H':ah},H.length=H'.length→(∀b,aA H b=aA H' b)→H=H'
 |[],[],_,_=>rfl
 |x::H,y::H',hl,h=>by have h0:x=y:=h 0;have ih:H=H':=mA (by simpa using hl) (fun b=>h (b+1));rw[h0,ih]
 |[],_::_,hl,_=>by simp at hl
 |_::_,[],hl,_=>by simp at hl
structure A0 (ds:List lT) (rl:Nat→Nat→Prop):Prop where
 before:∀(j:Nat)(d:lT),ds[j]? =some d→∀e∈d.after,e<j
 reach:∀(j i:Nat),rl j i→∃d,ds[j]? =some d∧∃e∈d.after,i=e∨rl e i
 meets:∀(i j:Nat)(x y:lT),i<j→ds[i]? =some x→ds[j]? =some y→gT x y=true→rl j i
theorem A1(i j:Nat):Nat.testBit (Nat.shiftLeft 1 i) j=decide (i=j):=by
 show Nat.testBit (1<<<i) j=_;rw[Nat.testBit_shiftLeft];by_cases h:i=j
 ·subst h;simp
 ·by_cases h2:j≥i
  ·have:j - i≠0:=by omega
   have e:Nat.testBit 1 (j - i)=false:=Nat.testBit_lt_two_pow (Nat.one_lt_two_pow this);simp[h,h2,e]
  ·simp[h,h2]
theorem Gn(a b j:Nat):Nat.testBit (Nat.lor a b) j=(Nat.testBit a j||Nat.testBit b j):=Nat.testBit_or a b j
theorem Gp(a b j:Nat):Nat.testBit (Nat.land a b) j=(Nat.testBit a j&&Nat.testBit b j):=Nat.testBit_and a b j
theorem o7{t:Nat}:∀{l:List Nat},Nat.testBit (nO l) t=true↔t∈l
 |[]=>by simp[nO]
 |s::l=>by
  simp only[nO,Gn,A1,aa1,aam,o7 (l:=l),aaH];constructor
  ·rintro(h|h)
   ·exact .inl h.symm
   ·exact .inr h
  ·rintro(h|h)
   ·exact .inl h.symm
   ·exact .inr h
theorem mB{t:Nat}{x:Option Nat}:Nat.testBit (o6 x) t=true↔x=some t:=by
 cases x with
  |none=>simp[o6]
  |some s=>rw[o6,A1];simp
theorem dJ:∀{l:List ad}{j:Nat}{acc:List (Nat×Nat)},(cM j acc l).length=l.length|[],_,_=>rfl|_::l,_,_=>by simp[cM,dJ (l:=l)]
theorem sU{acc:List (Nat×Nat)}{i:Nat}:∀{es:List Nat},Nat.testBit (ls acc es) i=true→∃e∈es,i=e∨Nat.testBit (my e acc) i=true
 |[],h=>by simp[ls]at h
 |e::es,h=>by
  simp only[ls,Gn,A1,aa1,aam]at h;rcases h with(h|h)|h
  ·exact⟨e,abU,.inl h.symm⟩
  ·exact⟨e,abU,.inr h⟩
  ·obtain⟨e',h1,h2⟩:=sU h;exact⟨e',abL _ h1,h2⟩
theorem lu:∀{l:List ad}{j0:Nat}{acc:List (Nat×Nat)},kC j0 l=true→(∀e m,my e acc=m→m≠0→e<j0)→∀k (o:ad),l[k]? =some o→∀i,Nat.testBit ((cM j0 acc l).getD k 0) i=true→∃e∈o.after,i=e∨(e<j0∧Nat.testBit (my e acc) i=true)∨(j0≤e∧Nat.testBit ((cM j0 acc l).getD (e - j0) 0) i=true)
 |[],_,_,_,_,k,o,ho,_,_=>by simp at ho
 |o::l,j0,acc,hb,MH,0,o',ho,i,hi=>by
  simp at ho;subst ho;simp only[cM,List.getD_cons_zero]at hi;obtain⟨e,h1,h2⟩:=sU hi;refine⟨e,h1,?_⟩;rcases h2 with h2|h2
  ·exact .inl h2
  ·refine .inr (.inl ⟨MH e _ rfl (fun h0=>by rw[h0]at h2;simp at h2),h2⟩)
 |o::l,j0,acc,hb,MH,k+1,o',ho,i,hi=>by
  simp only[kC,aac]at hb;simp at ho;simp only[cM,acV]at hi⊢;have PU:∀e m,my e ((j0,ls acc o.after)::acc)=m→m≠0→e<j0+1:=by
   intro e m hm ew;simp only[my]at hm;by_cases he:j0=e
   ·omega
   ·rw[cw he,aaw]at hm;have:=MH e m hm ew;omega
  obtain⟨e,h1,h2⟩:=lu (l:=l) hb.2 PU k o' ho i hi;refine⟨e,h1,?_⟩;rcases h2 with h2|⟨h2,h3⟩|⟨h2,h3⟩
  ·exact .inl h2
  ·simp only[my]at h3;by_cases he:j0=e
   ·subst he;simp only[aaz,aag]at h3;exact .inr (.inr ⟨aao _,by simpa using h3⟩)
   ·rw[cw he,aaw]at h3;exact .inr (.inl ⟨by omega,h3⟩)
  ·refine .inr (.inr ⟨by omega,?_ ⟩);rw[show e - j0=(e - (j0+1))+1 by omega,acV];exact h3
theorem jv:∀{l:List ad}{j0:Nat},kC j0 l=true→∀(k:Nat)(o:ad),l[k]? =some o→∀e∈o.after,e<j0+k
 |[],_,_,k,o,ho,_,_=>by simp at ho
 |o::l,j0,hb,0,o',ho,e,he=>by simp at ho;subst ho;simp only[kC,aac,aaq]at hb;have:=hb.1 e he;rw[aas]at this;omega
 |o::l,j0,hb,k+1,o',ho,e,he=>by simp at ho;simp only[kC,aac]at hb;have:=jv hb.2 k o' ho e he;omega
def Gq(W L w k:Nat):Prop:=∃t,(Nat.testBit w t=true∧(Nat.testBit L t=true∨Nat.testBit W t=true))∨(Nat.testBit k t=true∧Nat.testBit W t=true)
theorem sV{W L R:Nat}:∀{pre:List (Nat×Nat×Nat)},Cj W L R pre=true→∀i w k,(i,w,k)∈pre→Gq W L w k→Nat.testBit R i=true
 |[],_,i,w,k,h,_=>by simp at h
 |(i0,w0,k0)::AN,hr,i,w,k,h,hc=>by
  simp only[Cj,aac,aa1]at hr;rcases aaH.1 h with h|h
  ·simp only[aae]at h;obtain⟨rfl,rfl,rfl⟩:=h;rcases hr.1 with h1|h1
   ·exfalso;have h0:=aah h1;obtain⟨t,ht⟩:=hc;have:Nat.testBit (Nat.lor (Nat.land w (Nat.lor L W)) (Nat.land k W)) t=true:=by simp only[Gn,Gp,aa1,aac];exact ht
    rw[h0]at this;simp at this
   ·have h0:=aah h1;have e:Nat.testBit R i=decide (Nat.land (Nat.shiftRight R i) 1=1):=by show((1&&&(R>>>i))!=0)=decide ((R>>>i)&&&1=1);rw[Nat.and_comm,abV];rcases abq (R>>>i)with h|h<;>simp[h]
    rw[e,h0];simp
  ·exact sV hr.2 i w k h hc
theorem sW:∀{ms:List (Nat×Nat)}{rs:List Nat}{j0:Nat}{pre:List (Nat×Nat×Nat)},Jy j0 pre ms rs=true→ms.length≤rs.length→∀(j:Nat)(W L:Nat),ms[j]? =some (W,L)→(∀i w k,(i,w,k)∈pre→Gq W L w k→Nat.testBit (rs.getD j 0) i=true)∧∀(i:Nat)(w k:Nat),i<j→ms[i]? =some (w,k)→Gq W L w k→Nat.testBit (rs.getD j 0) (j0+i)=true
 |[],_,_,_,_,_,j,W,L,h=>by simp at h
 |(W0,L0)::ms,[],_,_,_,hl,j,W,L,h=>by simp at hl
 |(W0,L0)::ms,R::rs,j0,pre,hg,hl,0,W,L,h=>by simp at h;obtain⟨rfl,rfl⟩:=h;simp only[Jy,aac]at hg;exact⟨fun i w k hm hc=>by simpa using sV hg.1 i w k hm hc,fun i w k hi=>by omega⟩
 |(W0,L0)::ms,R::rs,j0,pre,hg,hl,j+1,W,L,h=>by
  simp at h;simp only[Jy,aac]at hg;obtain⟨h1,h2⟩:=sW hg.2 (by simpa using hl) j W L h;refine⟨fun i w k hm hc=>by simpa using h1 i w k (abL _ hm) hc,fun i w k hi hm hc=>?_ ⟩;cases i with
   |zero=>simp at hm;obtain⟨rfl,rfl⟩:=hm;simpa using h1 j0 _ _ abU hc
   |succ i=>simp at hm;have:=h2 i w k (by omega) hm hc;rw[show j0+(i+1)=j0+1+i by omega];simpa using this
theorem qa:∀{rs:List ((V×Wr)×List Nat)},sT rs=true→∀r∈rs,bq r.1.2=none
 |[],_,r,h=>by simp at h
 |x::rs,hn,r,h=>by
  simp only[sT]at hn;split at hn
  ·rename_i hx;rcases aaH.1 h with rfl|h
   ·rw[hx];rfl
   ·exact qa hn r h
  ·cases hn
theorem bA:∀{l:List ad}{rs:List ((V×Wr)×List Nat)}{i:Nat}{o:ad}{r:(V×Wr)×List Nat},l[i]? =some o→rs[i]? =some r→(gK l rs)[i]? =some {dst:=o.dst,lk:=dq o,rd:=r.2,ws:=bq r.1.2,after:=o.after}
 |[],_,_,_,_,h,_=>by simp at h
 |_::_,[],_,_,_,_,h=>by simp at h
 |o::l,r::rs,0,_,_,h1,h2=>by simp at h1 h2;subst h1;subst h2;simp[gK]
 |o::l,r::rs,i+1,_,_,h1,h2=>by simp at h1 h2;simp[gK];exact bA h1 h2
theorem je:∀{l:List ad}{rs:List ((V×Wr)×List Nat)}{i:Nat}{d:lT},(gK l rs)[i]? =some d→∃o r,l[i]? =some o∧rs[i]? =some r∧d={dst:=o.dst,lk:=dq o,rd:=r.2,ws:=bq r.1.2,after:=o.after}
 |[],_,_,_,h=>by simp[gK]at h
 |_::_,[],_,_,h=>by simp[gK]at h
 |o::l,r::rs,0,d,h=>by simp[gK]at h;exact⟨o,r,rfl,rfl,h.symm⟩
 |o::l,r::rs,i+1,d,h=>by simp[gK]at h;simpa using je h
theorem jZ{l:List ad}{rs:List ((V×Wr)×List Nat)}(h:cT l rs=true)(hlen:rs.length=l.length):A0 (gK l rs) (fun j i=>Nat.testBit ((cM 0 [] l).getD j 0) i=true):=by
 simp only[cT,n6,aac,aa1]at h;obtain⟨⟨h1,h2⟩,h3⟩:=h;refine⟨fun j d hd e he=>?_,fun j i hi=>?_,fun i j x y Ju hx hy hm=>?_ ⟩
 ·obtain⟨o,r,ho,hr,rfl⟩:=je hd;have:=jv h1 j o ho e he;omega
 ·have hj:j<l.length:=by
   rcases aaW j l.length with h|h
   ·exact h
   ·rw[aaD,acm (by rw[dJ];exact h)]at hi;simp at hi
  have ho:l[j]? =some l[j]:=aaf hj;have hr:rs[j]? =some (rs[j]'(by omega)):=aaf _;obtain⟨e,h4,h5⟩:=lu h1 (fun e m hm ew=>by simp[my]at hm;exact absurd hm.symm ew) j _ ho i hi;refine⟨_,bA ho hr,e,h4,?_⟩;rcases h5 with h5|⟨h5,h6⟩|⟨h5,h6⟩
  ·exact .inl h5
  ·simp[my]at h6
  ·exact .inr (by simpa using h6)
 ·obtain⟨o,r,ho,hr,rfl⟩:=je hx;obtain⟨o',r',iR,vd,rfl⟩:=je hy;have k1:=(sW h2 (by simp[Ck,dJ]) j (o6 o'.dst) (nO (dq o')) (by simp[Ck,iR])).2 i (o6 o.dst) (nO (dq o)) Ju (by simp[Ck,ho]);simp only[aau]at k1;simp only[gT,aa1,iY,c7]at hm;have UC:(∃b,(bq r.1.2=some b∧(b∈r'.2∨bq r'.1.2=some b))∨(b∈r.2∧bq r'.1.2=some b))→Nat.testBit ((cM 0 [] l).getD j 0) i=true:=by
   rintro⟨b,hb⟩;rcases h3 with h3|h3
   ·have e1:=qa h3 r (aap hr);have e2:=qa h3 r' (aap vd);rw[e1,e2]at hb;simp at hb
   ·have k2:=(sW h3 (by simp[AY,dJ,hlen]) j (o6 (bq r'.1.2)) (nO r'.2) (by simp[AY,vd])).2 i (o6 (bq r.1.2)) (nO r.2) Ju (by simp[AY,hr]);simp only[aau]at k2;refine k2 ⟨b,?_⟩;simp only[mB,o7];exact hb
  rcases hm with((((⟨t,e1,e2⟩|⟨t,e1,e2⟩)|⟨t,e1,e2⟩)|⟨t,e1,e2⟩)|⟨t,e1,e2⟩)|⟨t,e1,e2⟩
  ·exact k1 ⟨t,.inl ⟨mB.2 e1,.inl (o7.2 e2)⟩⟩
  ·exact k1 ⟨t,.inr ⟨o7.2 e2,mB.2 e1⟩⟩
  ·exact k1 ⟨t,.inl ⟨mB.2 e1,.inr (mB.2 e2)⟩⟩
  ·exact UC ⟨t,.inl ⟨e1,.inl e2⟩⟩
  ·exact UC ⟨t,.inr ⟨e2,e1⟩⟩
  ·exact UC ⟨t,.inl ⟨e1,.inr e2⟩⟩
def gU(l:List ad)(K:Nat→Bool):Prop:=∀(j:Nat)(o:ad),l[j]? =some o→K j=true→∀e∈o.after,K e=true
theorem gU.reach{l:List ad}{rs:List ((V×Wr)×List Nat)}{rl:Nat→Nat→Prop}{K:Nat→Bool}(hl:A0 (gK l rs) rl)(hK:gU l K):∀(j i:Nat),rl j i→K j=true→K i=true:=by
 intro j;induction j using Nat.strongRecOn with
  |_ j ih=>
   intro i hr hj;obtain⟨d,hd,e,he,h⟩:=hl.reach j i hr;obtain⟨o,r,ho,_,rfl⟩:=je hd;have PV:=hK j o ho hj e he;rcases h with rfl|h
   ·exact PV
   ·exact ih e (hl.before j _ hd e he) i h PV
theorem agree{l:List ad}{rs:List ((V×Wr)×List Nat)}{rl:Nat→Nat→Prop}{K:Nat→Bool}(hl:A0 (gK l rs) rl)(hK:gU l K){i:Nat}{o:ad}(ho:l[i]? =some o)(hi:K i=false)(dA:∀e∈o.after,K e=true){j:Nat}{x y:lT}(hx:(gK l rs)[i]? =some x)(hy:(gK l rs)[j]? =some y)(hm:gT x y=true)(Zp:gT y x=true):K j=decide (j<i):=by
 rcases ac6 j i with hj|hj|hj
 ·simp only[hj,decide_true];have hr:=hl.meets j i y x hj hy hx Zp;obtain⟨d,hd,e,he,h⟩:=hl.reach i j hr;obtain⟨o',r,iR,_,rfl⟩:=je hd;rw[ho]at iR;simp only[aab]at iR;subst iR;rcases h with rfl|h
  ·exact dA _ he
  ·exact gU.reach hl hK e j h (dA e he)
 ·subst hj;simp[hi]
 ·have hr:=hl.meets i j x y hj hx hy hm;have:decide (j<i)=false:=by simp;omega
  rw[this];cases hk:K j with
   |false=>rfl
   |true=>rw[gU.reach hl hK j i hr hk]at hi;cases hi
theorem ng(x y:lT):gT x y=gT y x:=by
 have h1:gL x.dst y.dst=gL y.dst x.dst:=by rw[aaT,c7,c7];constructor<;>(rintro⟨n,h,k⟩;exact⟨n,k,h⟩)
 have h2:gL x.ws y.ws=gL y.ws x.ws:=by rw[aaT,c7,c7];constructor<;>(rintro⟨n,h,k⟩;exact⟨n,k,h⟩)
 unfold gT;rw[h1,h2];cases nM x.dst y.lk<;>cases nM y.dst x.lk<;>cases gL y.dst x.dst<;>cases nM x.ws y.rd<;>cases nM y.ws x.rd<;>cases gL y.ws x.ws<;>rfl
theorem gj{gd:Option (Nat×Bool)}{tm aY:List (Nat×V)}(h:∀d w,gd=some (d,w)→get aY d=get tm d):ao gd aY=ao gd tm:=by
 cases gd with
  |none=>rfl
  |some p=>obtain⟨d,w⟩:=p;simp only[ao,h d w rfl]
theorem kF{tm aY:List (Nat×V)}{x:a_}(h:∀t,PT x=some t→get aY t=get tm t):aU GL aY x=aU GL tm x:=by
 cases x with
  |t n=>exact h n rfl
  |_=>rfl
theorem lx{tm aY:List (Nat×V)}{H H':ah}{ns:Nat}{o:ad}{cv:Option V}(h1:∀t∈dq o,get aY t=get tm t)(h2:∀b∈lq (aU GL tm) o.op,aA H' b=aA H b):eI GL aY H' ns o cv=eI GL tm H ns o cv:=by
 have hg:ao o.guard aY=ao o.guard tm:=gj (fun d w hd=>h1 d (by simp[dq,hd]));have he:∀x∈looks o.op,aU GL aY x=aU GL tm x:=fun x hx=>kF (fun t ht=>h1 t (by simp only[dq,aaV,ab_];exact .inl ⟨x,hx,ht⟩))
 unfold eI;rw[hg,DN he h2,AX he]
theorem RV.eB{g:G}{w:World}{H:ah}(hh:av g w H):∀b x k,g.γ b=some x→x.own=some k→k<w.heap.size:=by intro b x k hx hk;obtain⟨_,y,_,h3⟩:=hh.live b x hx;exact h3.lt k hk
def fl(P:Program)(GL:ca)(f:FuncId)(args:List V)(H:ah)(v:V):Prop:=aq P f=true∧∀H',(∀b∈args.flatMap bQ,aA H' b=aA H b)→∀g w (vs:Array Value),aP g w args vs.toList→av g w H'→f_ GL g w→Calls P f vs w fun e w'=>∃x,e=.returned x∧RV g w' v x∧ch g w g w'∧av g w' H'
theorem PC.qX{f:FuncId}{args:List V}{H:ah}{v:V}(h:PC P GL f args v):fl P GL f args H v:=by refine⟨h.1,fun H' _ g w vs dI hh hg=>(h.2 g w vs dI (fun k hk=>(hh.fo k hk).1) (RV.eB hh) hg).mono ?_ ⟩;rintro e w' ⟨x,rfl,hx,he,jt⟩;exact⟨x,rfl,hx,he,hh.ext he jt⟩
theorem fl.congr{f:FuncId}{args:List V}{H H2:ah}{v:V}(h:fl P GL f args H v)(hh:∀b∈args.flatMap bQ,aA H2 b=aA H b):fl P GL f args H2 v:=⟨h.1,fun H' h'=>h.2 H' (fun b hb=>(h' b hb).trans (hh b hb))⟩
theorem rY{o:ad}{o':Oper}{ops:Array Oper}{ns:Nat}{cv:Option V}{v:V}{wr:Wr}{g:G}{w:World}{a:Act}{σ:St}(ei:(bD P o'.op).getD .bad=o.op)(lh:fJ ops.toList o'=some o.guard)(dN:o'.dst=o.dst)(h1:eI GL σ.tm σ.hp ns o cv=some (v,wr))(hq:∀f args,bw o.op=some (f,args)→ao o.guard σ.tm=some true→fl P GL f (bd (aU GL σ.tm) args) σ.hp v)(hr:R GL g w a σ)(jo:jn g ns)(hd:∀d,o.dst=some d→d<σ.n)(K:Act→World→Prop)(Q':Exit→Act→World→Prop)(hK:∀g' w' a',R GL g' w' a' (σ.fc o.dst v (aX σ.hp wr))→ch g w g' w'→Lh g g' ns→K a' w'):if Region.wanted o' (yielded ops a.tmps)then o'.wp P a w K Q' else K (a.put o'.dst undef) w:=by
 have bj:∀v H',σ.put o.dst v H'=some (σ.fc o.dst v H'):=by
  intro v H';cases ho:o.dst with
   |none=>rfl
   |some d=>
    have:Nat.blt d σ.n=true:=by rw[aas];exact hd d ho
    simp[St.put,St.fc,this]
 unfold eI at h1;split at h1
 ·cases h1
 ·rename_i hg;simp only[aab,aae]at h1;obtain⟨rfl,rfl⟩:=h1;rw[c6 hr lh hg,aal (by simp),dN];exact hK g w _ (hr.gi (ch.refl _ _) hr.heap (bj _ _) (by simp only[RV];exact⟨#[],rfl,by simp[aP]⟩)) (ch.refl _ _) (fun _ h=>.inl h)
 ·rename_i hg;rw[c6 hr lh hg,aan rfl];split at h1
  ·rename_i fa hc;obtain⟨f,args⟩:=fa;cases cv with
    |none=>simp at h1
    |some cv=>
     simp at h1;obtain⟨rfl,rfl⟩:=h1;have X':=hq f args hc hg;have cl:o.op=.call f args:=by cases ho:o.op<;>rw[ho]at hc<;>simp[bw]at hc;obtain⟨rfl,rfl⟩:=hc;rfl
     rw[cl]at ei;obtain⟨c,ka,dD⟩:=fM (eE ei (by simp)) (.inl ⟨f,args,rfl⟩);have eT:c.callee=.value (.func f)∧bJ au c.args.toList=some args:=by
      unfold dH at dD;split at dD;case h_6 f' Gm=>
       split at dD
       ·simp only[aad,ki.call.injEq]at dD;obtain⟨l,hl,rfl,rfl⟩:=dD;exact⟨Gm,hl⟩
       ·cases dD
      all_goals exfalso
      all_goals first|(simp at dD;done)|(repeat' split at dD)<;>simp at dD
     have ey:(execOp a.eval o').run P w=.ok (.enter f (c.args.map a.eval)) w:=by have:=eV X'.1 (c.args.map a.eval) w;simp[execOp,ka,resolve,eT.1,Act.eval,Deferred.ofValue,invoke,this]
     unfold Oper.wp;rw[ey];simp only[Oper.upon];refine(X'.2 σ.hp (fun _ _=>rfl) g w _ (by simpa using hY hr.ev eT.2) hr.heap hr.dQ).mono ?_;rintro e w' ⟨x,rfl,hx,he,jt⟩;simp only;rw[dN];exact hK g w' _ (hr.gi he jt (bj _ _) hx) he (fun _ h=>.inl h)
  ·split at h1
   ·simp only[aad,aae]at h1;obtain⟨v',fv,rfl,rfl⟩:=h1;obtain⟨w',x,k1,k2,k3,k4⟩:=p_ (P:=P) (a:=a) (o:=o') (eE ei (fun e=>by rw[e]at fv;cases fv)) fv hr.ev hr.heap;unfold Oper.wp;rw[k1];simp only[Oper.upon];rw[dN];exact hK g w' _ (hr.gi k4 k3 (bj _ _) k2) k4 (fun _ h=>.inl h)
   ·obtain⟨g',w',nx,k1,k2,k3,k4,k5⟩:=sL (P:=P) (a:=a) (o:=o') (eE ei (fun e=>by rw[e]at h1;cases h1)) h1 hr.ev hr.heap jo;unfold Oper.wp;rw[k1];rcases k2 with⟨x,rfl,hx⟩|⟨rfl,rfl⟩
    ·simp only[Oper.upon];rw[dN];exact hK g' w' _ (hr.gi k4 k3 (bj _ _) hx) k4 k5
    ·simp only[Oper.upon];rw[dN];exact hK g' w' _ (hr.gi k4 k3 (bj _ _) (by simp only[RV])) k4 k5
def df(K:Nat→Bool)(i:Nat):Nat→Bool:=fun j=>K j||decide (j=i)
theorem iZ{K:Nat→Bool}{i t:Nat}:∀{l:List ad}{rs:List ((V×Wr)×List Nat)}{i0 k:Nat}{σ:St}{o:ad}{r:(V×Wr)×List Nat},i=i0+k→l[k]? =some o→rs[k]? =some r→K i=false→l.length=rs.length→(∀(j:Nat)(o':ad),l[j]? =some o'→j≠k→o'.dst=some t→o.dst=some t→K (i0+j)=true→j<k)→get (ax (df K i) i0 l rs σ).tm t=if o.dst=some t then r.1.1 else get (ax K i0 l rs σ).tm t:=by
 intro l rs i0 k σ o r AM ho hr hi hlen o8;by_cases hd:o.dst=some t
 ·rw[aan hd];induction l generalizing rs i0 k σ with
   |nil=>simp at ho
   |cons p l ih=>
    cases rs with
     |nil=>simp at hr
     |cons q rs=>
      simp only[ax];cases k with
       |zero=>
        simp at ho hr AM;subst ho;subst hr;subst AM;have Gr:df K i i=true:=by simp[df]
        rw[Gr,aag];have ve:∀(l':List ad)(Cg:List ((V×Wr)×List Nat))(m:Nat)(s:St),(∀(j:Nat)(o':ad),l'[j]? =some o'→o'.dst=some t→df K i (m+j)=false)→get (ax (df K i) m l' Cg s).tm t=get s.tm t:=by
         intro l';induction l' with
          |nil=>intro Cg m s _;simp[ax]
          |cons p' l' UD=>
           intro Cg m s hn;cases Cg with
            |nil=>simp[ax]
            |cons q' Cg=>
             simp only[ax];rw[UD Cg (m+1) _ (fun j o' h e=>by have:=hn (j+1) o' (by simpa using h) e;rwa[show m+(j+1)=m+1+j by omega]at this)];by_cases hs:p'.dst=some t
             ·have:=hn 0 p' rfl hs;simp at this;rw[this,aaw]
             ·cases df K i m<;>simp[iu,hs]
        rw[ve _ _ _ _ (fun j o' h e=>by
         have hl:=o8 (j+1) o' (by simpa using h) (by omega) e hd;have ew:i+1+j≠i:=by omega
         simp only[df,ew,ac9,Bool.or_false];cases hk:K (i+1+j)with
          |false=>rfl
          |true=>have:=hl (by rw[show i+(j+1)=i+1+j by omega];exact hk);omega)]
        simp[iu,hd]
       |succ k=>simp at ho hr;exact ih (by omega) ho hr (by simpa using hlen) (fun j o' h1 h2 h3 h4 h5=>by have:=o8 (j+1) o' (by simpa using h1) (by omega) h3 h4 (by rw[show i0+(j+1)=i0+1+j by omega];exact h5);omega)
 ·rw[aal hd];refine kD rfl (fun j o' h1 h2=>?_ );have:i0+j≠i:=by
   rintro rfl;have:j=k:=by omega
   subst this;rw[ho]at h1;simp only[aab]at h1;subst h1;exact hd h2
  simp[df,this]
theorem i_{K:Nat→Bool}{i b:Nat}:∀{l:List ad}{rs:List ((V×Wr)×List Nat)}{i0 k:Nat}{σ:St}{r:(V×Wr)×List Nat},l.length=rs.length→i=i0+k→rs[k]? =some r→K i=false→(∀(j:Nat)(r':(V×Wr)×List Nat),rs[j]? =some r'→j≠k→bq r'.1.2=some b→bq r.1.2=some b→K (i0+j)=true→j<k)→aA (ax (df K i) i0 l rs σ).hp b=aA (aX (ax K i0 l rs σ).hp r.1.2) b:=by
 intro l rs i0 k σ r hlen AM hr hi o8;have AZ:∀(s:St)(o:ad)(q:(V×Wr)×List Nat),(s.fc o.dst q.1.1 (aX s.hp q.1.2)).hp=aX s.hp q.1.2:=by intro s o q;cases o.dst<;>rfl
 by_cases hd:bq r.1.2=some b
 ·have qb:aA (aX (ax K i0 l rs σ).hp r.1.2) b=aA (aX [] r.1.2) b:=by
   cases hw:r.1.2 with
    |none=>rw[hw]at hd;simp[bq]at hd
    |some p=>obtain⟨s,y⟩:=p;rw[hw]at hd;simp only[bq,aab]at hd;subst hd;simp[aX,er]
  rw[qb];clear qb;induction rs generalizing l i0 k σ with
   |nil=>simp at hr
   |cons q rs ih=>
    cases l with
     |nil=>simp at hlen
     |cons p l=>
      simp only[ax];cases k with
       |zero=>
        simp at hr AM;subst hr;subst AM;have Gr:df K i i=true:=by simp[df]
        rw[Gr,aag];have ve:∀(Cg:List ((V×Wr)×List Nat))(l':List ad)(m:Nat)(s:St),(∀(j:Nat)(r':(V×Wr)×List Nat),Cg[j]? =some r'→bq r'.1.2=some b→df K i (m+j)=false)→aA (ax (df K i) m l' Cg s).hp b=aA s.hp b:=by
         intro Cg;induction Cg with
          |nil=>intro l' m s _;cases l'<;>simp[ax]
          |cons q' Cg UD=>
           intro l' m s hn;cases l' with
            |nil=>simp[ax]
            |cons p' l'=>
             simp only[ax];rw[UD l' (m+1) _ (fun j r' h e=>by have:=hn (j+1) r' (by simpa using h) e;rwa[show m+(j+1)=m+1+j by omega]at this)];by_cases hs:bq q'.1.2=some b
             ·have:=hn 0 q' rfl hs;simp at this;rw[this,aaw]
             ·cases df K i m with
               |false=>rfl
               |true=>
                simp only[aag,AZ,nf];cases hw:q'.1.2 with
                 |none=>rfl
                 |some p=>obtain⟨c,y⟩:=p;rw[hw]at hs;simp only[bq,aab]at hs;simp[ack hs]
        rw[ve _ _ _ _ (fun j r' h e=>by
         have hl:=o8 (j+1) r' (by simpa using h) (by omega) e hd;have ew:i+1+j≠i:=by omega
         simp only[df,ew,ac9,Bool.or_false];cases hk:K (i+1+j)with
          |false=>rfl
          |true=>have:=hl (by rw[show i+(j+1)=i+1+j by omega];exact hk);omega)]
        rw[AZ];cases hw:q.1.2 with
         |none=>rw[hw]at hd;simp[bq]at hd
         |some p=>obtain⟨c,y⟩:=p;rw[hw]at hd;simp only[bq,aab]at hd;subst hd;simp[aX,er]
       |succ k=>simp at hr;exact ih (by simpa using hlen) (by omega) hr (fun j r' h1 h2 h3 h4 h5=>by have:=o8 (j+1) r' (by simpa using h1) (by omega) h3 h4 (by rw[show i0+(j+1)=i0+1+j by omega];exact h5);omega)
 ·have qb:aA (aX (ax K i0 l rs σ).hp r.1.2) b=aA (ax K i0 l rs σ).hp b:=by
   rw[nf];cases hw:r.1.2 with
    |none=>rfl
    |some p=>obtain⟨c,y⟩:=p;rw[hw]at hd;simp only[bq,aab]at hd;simp[ack hd]
  rw[qb];refine kE rfl (fun j r' h1 h2=>?_ );have:i0+j≠i:=by
   rintro rfl;have:j=k:=by omega
   subst this;rw[hr]at h1;simp only[aab]at h1;subst h1;exact hd h2
  simp[df,this]
end
end Fw
/-
  A region whose order is drawn: the rule.
-/
namespace Fw
open Go
section
variable {P:Program}{GL:ca}
theorem bZ{K K':Nat→Bool}:∀{l:List ad}{rs:List ((V×Wr)×List Nat)}{i:Nat}{σ:St},(∀j,j<l.length→K (i+j)=K' (i+j))→ax K i l rs σ=ax K' i l rs σ
 |[],_,_,_,_=>by simp[ax]
 |_::_,[],_,_,_=>by simp[ax]
 |o::l,r::rs,i,σ,h=>by simp only[ax];have h0:=h 0 (by simp);simp at h0;rw[h0];exact bZ (fun j hj=>by have:=h (j+1) (by simp;omega);rwa[show i+(j+1)=i+1+j by omega]at this)
theorem c8{K:Nat→Bool}{m:Nat}:∀{l:List ad}{rs:List ((V×Wr)×List Nat)}{i:Nat}{σ:St},σ.hp.length=m→(∀r∈rs,∀b,bq r.1.2=some b→b<m)→(ax K i l rs σ).hp.length=m
 |[],_,_,_,h,_=>by simpa[ax]using h
 |_::_,[],_,_,h,_=>by simpa[ax]using h
 |o::l,r::rs,i,σ,h,hs=>by
  simp only[ax];refine c8 ?_ (fun r' vd=>hs r' (by simp[vd]));cases K i with
   |false=>exact h
   |true=>
    have AZ:(σ.fc o.dst r.1.1 (aX σ.hp r.1.2)).hp=aX σ.hp r.1.2:=by cases o.dst<;>rfl
    simp only[aag,AZ];cases hw:r.1.2 with
     |none=>exact h
     |some p=>obtain⟨b,y⟩:=p;have hb:=hs r (by simp) b (by rw[hw];rfl);simp only[aX];rw[eN (by omega)];exact h
theorem gV{ops:Array Oper}{l:List ad}(hc:iW P ops.toList true ops.toList=some l):l.length=ops.size∧∀(i:Nat)(o':Oper),ops[i]? =some o'→∃o:ad,l[i]? =some o∧(bD P o'.op).getD .bad=o.op∧fJ ops.toList o'=some o.guard∧o'.dst=o.dst∧o.after=ct o':=by
 refine⟨by have:=cO hc;simpa using this.symm,fun i o' iR=>?_ ⟩;obtain⟨o,h1,h2⟩:=jq i o' hc (by simpa using iR);refine⟨o,h1,?_⟩;unfold fj at h2;split at h2
 ·rename_i gd h4;simp only[aab]at h2;subst h2;exact⟨rfl,h4,rfl,by simp⟩
 ·cases h2
def eO(n:Nat)(l:List ad):Bool:=l.all fun o=>match o.dst with|some d=>Nat.blt d n|none=>true
def dK(m:Nat)(rs:List ((V×Wr)×List Nat)):Bool:=rs.all fun r=>match bq r.1.2 with|some b=>Nat.blt b m|none=>true
def dr(l:List ad)(rs:List ((V×Wr)×List Nat))(σ:St)(i:Nat):St:=ax (fun j=>decide (j<i)) 0 l rs σ
def b8(σ:St)(n:Nat):St:=⟨σ.n,σ.tm,σ.hp++List.replicate n none⟩
theorem WC.draw{l:List ad}{σ:St}{Q:Ex→St→Prop}{qc:Nat→Option V}{rs:List ((V×Wr)×List Nat)}(hm:P.follows .mixedOrders=true)(ey:l3 GL σ.hp.length qc 0 l (b8 σ l.length)=some rs)(eF:cT l rs=true)(dN:eO σ.n l=true)(o9:dK (σ.hp.length+l.length) rs=true)(hq:∀(i:Nat)(o:ad)(r:(V×Wr)×List Nat),l[i]? =some o→rs[i]? =some r→∀f args,bw o.op=some (f,args)→ao o.guard (dr l rs (b8 σ l.length) i).tm=some true→fl P GL f (bd (aU GL (dr l rs (b8 σ l.length) i).tm) args) (dr l rs (b8 σ l.length) i).hp r.1.1)(h:Q .normal (ax (fun _=>true) 0 l rs (b8 σ l.length))):WC P GL (.draw l) σ Q:=by
 intro code hc g w rX hr;obtain⟨id,ops,rfl,hl⟩:∃id ops,code=.region id ops true∧iW P ops.toList true ops.toList=some l:=by
  cases code with
   |region id ops draw=>
    simp only[aH]at hc;split at hc
    ·rename_i l' FL;cases draw with
      |false=>simp at hc
      |true=>simp at hc;subst hc;exact⟨id,ops,rfl,FL⟩
    ·cases hc
   |seq=>simp only[aH]at hc;split at hc<;>simp at hc
   |cond=>simp only[aH]at hc;split at hc<;>simp at hc
   |_=>simp[aH]at hc
 obtain⟨hlen,dD⟩:=gV hl;obtain⟨MI,MJ⟩:=mz ey;have yK:=jZ eF MI;have sX:∀(i:Nat)(o:ad),l[i]? =some o→∀d,o.dst=some d→d<σ.n:=by intro i o ho d hd;have:=(aaq.1 dN) o (aap ho);rw[hd]at this;simpa[aas]using this
 have dd:∀r∈rs,∀b,bq r.1.2=some b→b<σ.hp.length+l.length:=by intro r hr b hb;have:=(aaq.1 o9) r hr;rw[hb]at this;simpa[aas]using this
 generalize n7:b8 σ l.length=dj at*;have nC:dj.hp.length=σ.hp.length+l.length:=by rw[←n7];simp[b8]
 have MK:dj.n=σ.n:=by rw[←n7];rfl
 refine wp_region_any hm ?_;have key:∀(c_:Nat)(listed:Array Bool)(g1:G)(w1:World)(a1:Act),listed.size=ops.size→((List.range ops.size).filter fun j=> !listed.getD j false).length=c_→gU l (fun j=>listed.getD j false)→R GL g1 w1 a1 (ax (fun j=>listed.getD j false) 0 l rs dj)→ch g w g1 w1→(∀b,g1.cK b→b<σ.hp.length∨∃j,listed.getD j false=true∧b=σ.hp.length+j)→wpAny P .any ops (cr GL g w Q) c_ listed a1 w1:=by
  intro c_;induction c_ with
   |zero=>
    intro listed g1 w1 a1 cx iv iq hR hE gQ;have jw:∀j,j<ops.size→listed.getD j false=true:=by intro j hj;have:=aby iv;rw[aaX]at this;have:=this j (by simpa using hj);simpa using this
    refine⟨?_,g1,_,hR.congr rfl (fun _=>rfl) rfl,hE,?_⟩
    ·unfold Region.ready;rw[aaX];intro j hj;simp only[aaJ]at hj;have h1:=jw j hj;have h2:listed.getD j true=true:=by rw[aaj]at h1⊢;rw[Array.getElem?_eq_getElem (by omega)]at h1⊢;exact h1
     simp[h2]
    ·rw[bZ (K':=fun _=>true) (fun j hj=>by simp only[aau];exact jw j (by omega))];exact h
   |succ c_ ih=>
    intro listed g1 w1 a1 cx iv iq hR hE gQ;constructor
    ·intro n8;exfalso;have uJ:∃j,j<ops.size∧listed.getD j false=false:=by
      have ew:((List.range ops.size).filter fun j=> !listed.getD j false)≠[]:=by intro e;rw[e]at iv;simp at iv
      obtain⟨j,hj⟩:=ab1 _ ew;rw[aay]at hj;exact⟨j,by simpa using hj.1,by simpa using hj.2⟩
     obtain⟨j,⟨FN,rW⟩,yE⟩:=vb uJ;have Gs:ops[j]? =some ops[j]:=Array.getElem?_eq_getElem FN;obtain⟨o,ho,_,_,_,iI⟩:=dD j _ Gs;have UE:j<rs.length:=by omega
     have rZ:=bA ho (aaf UE);have:j∈Region.ready .any ops listed:=by
      unfold Region.ready;rw[aay];refine⟨by simpa using FN,?_ ⟩;have h2:listed.getD j true=false:=by rw[aaj]at rW⊢;rw[Array.getElem?_eq_getElem (by omega)]at rW⊢;exact rW
      simp only[h2,abd,aaE,Gs,aat,aaN,aaB];intro e he;cases hb:Region.binds .any e with
       |false=>rfl
       |true=>
        simp only[aa',abO];have FO:e.on∈o.after:=by rw[iI];simp only[ct,aaG,aay];exact⟨e,⟨by simpa using he,hb⟩,rfl⟩
        have bL:=yK.before j _ rZ e.on FO;cases OO:listed.getD e.on false with
         |true=>rfl
         |false=>have:=yE e.on ⟨by omega,OO⟩;omega
     rw[n8]at this;cases this
    ·intro i hi;unfold Region.ready at hi;rw[aay]at hi;have rZ:i<ops.size:=by simpa using hi.1
     have sY:ops[i]? =some ops[i]:=Array.getElem?_eq_getElem rZ;have lj:=hi.2;simp only[aac,aaU,sY,aat,aaN,aaB]at lj;obtain⟨o,ho,ei,lh,hd,iI⟩:=dD i _ sY;have Gu:i<rs.length:=by omega
     have sZ:rs[i]? =some rs[i]:=aaf Gu;obtain⟨r,jW,wL,DO⟩:=MJ i o ho;rw[sZ]at jW;simp only[aab]at jW;simp only[aau]at wL DO;have qY:listed.getD i false=false:=by have:=lj.1;rw[aaj]at this⊢;rw[Array.getElem?_eq_getElem (by omega)]at this⊢;exact this
     have dA:∀e∈o.after,listed.getD e false=true:=by intro e he;rw[iI]at he;simp only[ct,aaG,aay]at he;obtain⟨ed,⟨vf,rV⟩,rfl⟩:=he;have:=lj.2 ed (by simpa using vf);simpa[rV]using this
     have A2:=bA ho sZ;have nK:∀{j:Nat}{y:lT},(gK l rs)[j]? =some y→gT {dst:=o.dst,lk:=dq o,rd:=rs[i].2,ws:=bq rs[i].1.2,after:=o.after} y=true→listed.getD j false=decide (j<i):=fun hy hm=>agree yK iq ho qY dA A2 hy hm (by rw[ng];exact hm)
     have A3:∀t∈dq o,get (ax (fun j=>listed.getD j false) 0 l rs dj).tm t=get (dr l rs dj i).tm t:=by
      intro t ht;refine kD rfl (fun j o' h1 h2=>?_ );simp only[aau];have A4:j<rs.length:=by have:=(aai.1 h1).1;omega
      have fB:=bA h1 (aaf A4);refine nK fB ?_;unfold gT;have:nM o'.dst (dq o)=true:=iY.2 ⟨t,h2,ht⟩;simp[this]
     have Gv:∀b∈lq (aU GL (dr l rs dj i).tm) o.op,aA (ax (fun j=>listed.getD j false) 0 l rs dj).hp b=aA (dr l rs dj i).hp b:=by
      intro b hb;refine kE rfl (fun j r' h1 h2=>?_ );simp only[aau];have pQ:j<l.length:=by have:=(aai.1 h1).1;omega
      have fB:=bA (aaf pQ) h1;refine nK fB ?_;unfold gT;have:nM (bq r'.1.2) rs[i].2=true:=iY.2 ⟨b,h2,by rw[jW,DO];exact hb⟩;simp[this]
     have qd:=lx (GL:=GL) (ns:=σ.hp.length+i) (cv:=qc i) A3 Gv;have A5:eI GL (dr l rs dj i).tm (dr l rs dj i).hp (σ.hp.length+i) o (qc i)=some r.1:=wL;rw[A5]at qd;have A6:∀x∈looks o.op,aU GL (ax (fun j=>listed.getD j false) 0 l rs dj).tm x=aU GL (dr l rs dj i).tm x:=fun x hx=>kF (fun t ht=>A3 t (by simp only[dq,aaV,ab_];exact .inl ⟨x,hx,ht⟩))
     have ML:ao o.guard (ax (fun j=>listed.getD j false) 0 l rs dj).tm=ao o.guard (dr l rs dj i).tm:=gj (fun d w hd=>A3 d (by simp[dq,hd]));unfold wpOp;simp only[sY];have r_:=rY (P:=P) (GL:=GL) (ops:=ops) (v:=r.1.1) (wr:=r.1.2) ei lh hd qd (fun f args hc Ch=>by
      rw[ML]at Ch;have:=hq i o rs[i] ho sZ f args hc Ch;rw[jW]at this;have Ln:bd (aU GL (ax (fun j=>listed.getD j false) 0 l rs dj).tm) args=bd (aU GL (dr l rs dj i).tm) args:=by refine dR (fun x hx=>A6 x ?_ );cases mC:o.op<;>rw[mC]at hc<;>simp[bw]at hc;obtain⟨rfl,rfl⟩:=hc;simpa[looks]using hx
      rw[Ln];refine this.congr (fun b hb=>Gv b ?_ );cases mC:o.op<;>rw[mC]at hc<;>simp[bw]at hc;obtain⟨rfl,rfl⟩:=hc;simpa only[lq]using hb) hR (by
      intro yI;rcases gQ _ yI with h1|⟨j,h1,h2⟩
      ·omega
      ·have:j=i:=by omega
       subst this;rw[qY]at h1;cases h1) (fun d yI=>by rw[eG,MK];exact sX i o ho d yI) (wpAny P .any ops (cr GL g w Q) c_ (listed.setIfInBounds i true)) (cr GL g w Q) (by
      intro g2 w2 a2 Jz Cm MM;have rE:∀j,(listed.setIfInBounds i true).getD j false=df (fun j=>listed.getD j false) i j:=by
       intro j;simp only[df,aaj];by_cases hj:j=i
       ·subst hj;rw[aaI (by omega)];simp
       ·rw[aaC (by omega)];simp[hj]
      have mD:ax (fun j=>(listed.setIfInBounds i true).getD j false) 0 l rs dj=ax (df (fun j=>listed.getD j false) i) 0 l rs dj:=bZ (fun j _=>rE _);refine ih _ g2 w2 a2 (by simpa using cx) ?_ ?_ ?_ (hE.trans Cm) ?_
      ·have e1:(fun j=> !(listed.setIfInBounds i true).getD j false)=fun j=> !listed.getD j false&& !decide (j=i):=by funext j;rw[rE j];simp[df]
       rw[e1];have n9:∀(m:Nat)(f:Nat→Bool),i<m→f i=true→((List.range m).filter f).length=((List.range m).filter fun j=>f j&& !decide (j=i)).length+1:=by
        intro m f;induction m with
         |zero=>intro h;omega
         |succ m JA=>
          intro sN Gw;rw[aca,aa9,aa9,aaA,aaA];rcases aaW i m with h1|h1
          ·rw[JA h1 Gw];have:m≠i:=by omega
           simp[abi,this];split<;>simp<;>omega
          ·have:m=i:=by omega
           subst this;have s5:(List.range m).filter f=(List.range m).filter fun j=>f j&& !decide (j=m):=by
            refine acJ (fun j hj=>?_ );have:j≠m:=by have:=aaJ.1 hj;omega
            simp[this]
           rw[←s5];simp[abi,Gw]
       have:=n9 ops.size (fun j=> !listed.getD j false) rZ (by simp[qY]);rw[iv]at this;omega
      ·intro j o' iR hj e he;simp only[rE]at hj⊢;simp only[df,aa1,aam]at hj⊢;rcases hj with hj|rfl
       ·exact .inl (iq j o' iR hj e he)
       ·rw[ho]at iR;simp only[aab]at iR;subst iR;exact .inl (dA e he)
      ·rw[mD];refine Jz.congr ?_ (fun t=>?_ ) ?_
       ·rw[eG];have:∀(s:St)(v:V)(H:ah),(s.fc o.dst v H).n=s.n:=by intro s v H;cases o.dst<;>rfl
        rw[this,eG]
       ·rw[iZ (k:=i) (by omega) ho sZ qY (by omega) (fun j o' h1 h2 h3 h4 h5=>by
         simp only[aau]at h5;have A4:j<rs.length:=by have:=(aai.1 h1).1;omega
         have fB:=bA h1 (aaf A4);have:=nK fB (by unfold gT;have:gL o.dst o'.dst=true:=c7.2 ⟨t,h4,h3⟩;simp[this]);rw[h5]at this;simpa using this.symm),iu,jW]
       ·have AZ:∀(s:St)(v:V)(H:ah),(s.fc o.dst v H).hp=H:=by intro s v H;cases o.dst<;>rfl
        rw[AZ];refine mA ?_ (fun b=>?_ )
        ·rw[c8 nC (by rw[←nC]at dd⊢;simpa[nC]using dd)];cases hw:r.1.2 with
          |none=>simp only[aX];rw[c8 nC (by simpa using dd)]
          |some p=>obtain⟨c,y⟩:=p;have hc:c<σ.hp.length+l.length:=dd rs[i] (abg Gu) c (by rw[jW,hw];rfl);have Ji:=c8 (K:=fun j=>listed.getD j false) (i:=0) (l:=l) (rs:=rs) nC (by simpa using dd);simp only[aX];rw[eN (by omega),Ji]
        ·have:=i_ (K:=fun j=>listed.getD j false) (b:=b) (σ:=dj) (i0:=0) (k:=i) (l:=l) (by omega) (by omega) sZ qY (fun j r' h1 h2 h3 h4 h5=>by
          simp only[aau]at h5;have pQ:j<l.length:=by have:=(aai.1 h1).1;omega
          have fB:=bA (aaf pQ) h1;have:=nK fB (by unfold gT;have:gL (bq rs[i].1.2) (bq r'.1.2)=true:=c7.2 ⟨b,h4,h3⟩;simp[this]);rw[h5]at this;simpa using this.symm)
         rw[this,jW]
      ·intro b hb;rcases MM b hb with h1|rfl
       ·rcases gQ b h1 with h2|⟨j,h2,h3⟩
        ·exact .inl h2
        ·exact .inr ⟨j,by rw[rE];simp[df,h2],h3⟩
       ·exact .inr ⟨i,by rw[rE];simp[df],rfl⟩)
     split
     ·rename_i hw;simp only[hw,aa4]at r_;exact .inl r_
     ·rename_i hw;simp only[hw]at r_;exact r_
 have dY:∀j,(Array.replicate ops.size false).getD j false=false:=by intro j;rw[aaj,ab2];split<;>rfl
 have iS:ax (fun j=>(Array.replicate ops.size false).getD j false) 0 l rs dj=dj:=by
  have:∀(l:List ad)(rs:List ((V×Wr)×List Nat))(i:Nat)(s:St),ax (fun _=>false) i l rs s=s:=by
   intro l;induction l with
    |nil=>intro rs i s;simp[ax]
    |cons o l ih=>
     intro rs i s;cases rs with
      |nil=>simp[ax]
      |cons r rs=>simp only[ax,aaw];exact ih _ _ _
  rw[bZ (K':=fun _=>false) (fun j _=>dY _)];exact this _ _ _ _
 refine key ops.size (Array.replicate ops.size false) g _ rX (by simp) ?_ ?_ ?_ (ch.drawn g w _) ?_
 ·simp only[dY,abd];rw[abP.2 (by simp)];simp
 ·intro j o _ hj;simp only[dY]at hj;cases hj
 ·rw[iS,←n7];exact(hr.pad l.length).drawn _
 ·intro b hb;exact .inl (hr.heap.cK b hb)
end
end Fw
/-
  A drawn region whose last operation is a call that comes after all others.
-/
namespace Fw
open Go
section
variable {P:Program}{GL:ca}
theorem WC.Gx{l:List ad}{ot:ad}{ft:FuncId}{yL:List a_}{σ:St}{Q:Ex→St→Prop}{qc:Nat→Option V}{rs:List ((V×Wr)×List Nat)}(hm:P.follows .mixedOrders=true)(ey:l3 GL σ.hp.length qc 0 l (b8 σ l.length)=some rs)(eF:cT l rs=true)(dN:eO σ.n l=true)(o9:dK (σ.hp.length+l.length) rs=true)(hq:∀(i:Nat)(o:ad)(r:(V×Wr)×List Nat),l[i]? =some o→rs[i]? =some r→∀f args,bw o.op=some (f,args)→ao o.guard (dr l rs (b8 σ l.length) i).tm=some true→fl P GL f (bd (aU GL (dr l rs (b8 σ l.length) i).tm) args) (dr l rs (b8 σ l.length) i).hp r.1.1)(Gy:ot.op=.call ft yL)(MN:ot.guard=none)(JB:∀e∈ot.after,e<l.length)(MO:∀j,j<l.length→∃e∈ot.after,j=e∨Nat.testBit ((cM 0 [] l).getD e 0) j=true)(h:WF P GL ft (bd (aU GL (ax (fun _=>true) 0 l rs (b8 σ l.length)).tm) yL) (ax (fun _=>true) 0 l rs (b8 σ l.length)).hp (fun v H'=>∃aL,(ax (fun _=>true) 0 l rs (b8 σ l.length)).put ot.dst v H'=some aL∧Q .normal aL)):WC P GL (.draw (l++[ot])) σ Q:=by
 intro code hc g w rX hr;obtain⟨id,ops,rfl,hl⟩:∃id ops,code=.region id ops true∧iW P ops.toList true ops.toList=some (l++[ot]):=by
  cases code with
   |region id ops draw=>
    simp only[aH]at hc;split at hc
    ·rename_i l' FL;cases draw with
      |false=>simp at hc
      |true=>simp at hc;subst hc;exact⟨id,ops,rfl,FL⟩
    ·cases hc
   |seq=>simp only[aH]at hc;split at hc<;>simp at hc
   |cond=>simp only[aH]at hc;split at hc<;>simp at hc
   |_=>simp[aH]at hc
 obtain⟨Gz,dD⟩:=gV hl;have hlen:l.length+1=ops.size:=by simpa using Gz
 obtain⟨MI,MJ⟩:=mz ey;have yK:=jZ eF MI;have sX:∀(i:Nat)(o:ad),l[i]? =some o→∀d,o.dst=some d→d<σ.n:=by intro i o ho d hd;have:=(aaq.1 dN) o (aap ho);rw[hd]at this;simpa[aas]using this
 have dd:∀r∈rs,∀b,bq r.1.2=some b→b<σ.hp.length+l.length:=by intro r hr b hb;have:=(aaq.1 o9) r hr;rw[hb]at this;simpa[aas]using this
 generalize n7:b8 σ l.length=dj at*;have nC:dj.hp.length=σ.hp.length+l.length:=by rw[←n7];simp[b8]
 have MK:dj.n=σ.n:=by rw[←n7];rfl
 refine wp_region_any hm ?_;have key:∀(c_:Nat)(listed:Array Bool)(g1:G)(w1:World)(a1:Act),listed.size=ops.size→((List.range ops.size).filter fun j=> !listed.getD j false).length=c_→gU l (fun j=>listed.getD j false)→listed.getD l.length false=false→R GL g1 w1 a1 (ax (fun j=>listed.getD j false) 0 l rs dj)→ch g w g1 w1→(∀b,g1.cK b→b<σ.hp.length∨∃j,listed.getD j false=true∧b=σ.hp.length+j)→wpAny P .any ops (cr GL g w Q) c_ listed a1 w1:=by
  intro c_;induction c_ with
   |zero=>intro listed g1 w1 a1 cx iv iq wT hR hE gQ;exfalso;have:=aby iv;rw[aaX]at this;have:=this l.length (by simp;omega);rw[wT]at this;simp at this
   |succ c_ ih=>
    intro listed g1 w1 a1 cx iv iq wT hR hE gQ;constructor
    ·intro n8;exfalso;have uJ:∃j,j<ops.size∧listed.getD j false=false:=by
      have ew:((List.range ops.size).filter fun j=> !listed.getD j false)≠[]:=by intro e;rw[e]at iv;simp at iv
      obtain⟨j,hj⟩:=ab1 _ ew;rw[aay]at hj;exact⟨j,by simpa using hj.1,by simpa using hj.2⟩
     obtain⟨j,⟨FN,rW⟩,yE⟩:=vb uJ;have Gs:ops[j]? =some ops[j]:=Array.getElem?_eq_getElem FN;obtain⟨o,ho,_,_,_,iI⟩:=dD j _ Gs;have wU:∀e∈o.after,e<j:=by
      intro e he;rcases aaW j l.length with pQ|pQ
      ·have UF:l[j]? =some o:=by rwa[aa2 pQ]at ho
       exact yK.before j _ (bA UF (aaf (show j<rs.length by omega))) e he
      ·obtain rfl:j=l.length:=by omega
       rw[aaS (aao _)]at ho;simp at ho;subst ho;exact JB e he
     have:j∈Region.ready .any ops listed:=by
      unfold Region.ready;rw[aay];refine⟨by simpa using FN,?_ ⟩;have h2:listed.getD j true=false:=by rw[aaj]at rW⊢;rw[Array.getElem?_eq_getElem (by omega)]at rW⊢;exact rW
      simp only[h2,abd,aaE,Gs,aat,aaN,aaB];intro e he;cases hb:Region.binds .any e with
       |false=>rfl
       |true=>
        simp only[aa',abO];have FO:e.on∈o.after:=by rw[iI];simp only[ct,aaG,aay];exact⟨e,⟨by simpa using he,hb⟩,rfl⟩
        have bL:=wU e.on FO;cases OO:listed.getD e.on false with
         |true=>rfl
         |false=>have:=yE e.on ⟨by omega,OO⟩;omega
     rw[n8]at this;cases this
    ·intro i hi;unfold Region.ready at hi;rw[aay]at hi;have rZ:i<ops.size:=by simpa using hi.1
     have sY:ops[i]? =some ops[i]:=Array.getElem?_eq_getElem rZ;have lj:=hi.2;simp only[aac,aaU,sY,aat,aaN,aaB]at lj;obtain⟨o,DQ,ei,lh,hd,iI⟩:=dD i _ sY;rcases aaW i l.length with MP|PW;case inr=>
      obtain rfl:i=l.length:=by omega
      rw[aaS (aao _)]at DQ;simp at DQ;subst DQ;have dA:∀e∈ot.after,listed.getD e false=true:=by intro e he;rw[iI]at he;simp only[ct,aaG,aay]at he;obtain⟨ed,⟨vf,rV⟩,rfl⟩:=he;have:=lj.2 ed (by simpa using vf);simpa[rV]using this
      have s6:∀j,j<l.length→listed.getD j false=true:=by
       intro j hj;obtain⟨e,he,MQ⟩:=MO j hj;rcases MQ with rfl|MQ
       ·exact dA _ he
       ·exact gU.reach yK iq e j MQ (dA e he)
      have mD:ax (fun j=>listed.getD j false) 0 l rs dj=ax (fun _=>true) 0 l rs dj:=bZ (fun j hj=>by simp only[aau];exact s6 j hj);rw[mD]at hR;have Lo:c_=0:=by
       have qd:((List.range ops.size).filter fun j=> !listed.getD j false)=[l.length]:=by
        rw[←hlen,aca,aa9];have e1:(List.range l.length).filter (fun j=> !listed.getD j false)=[]:=by rw[aaX];intro j hj;rw[s6 j (aaJ.1 hj)];simp
        rw[e1];have UG:listed[l.length]?.getD false=false:=by rw[←aaj];exact wT
        simp[abi,UG]
       rw[qd]at iv;simp at iv;omega
      subst Lo;unfold wpOp;simp only[sY];have hw:Region.wanted ops[l.length] (yielded ops a1.tmps)=true:=c6 hR lh (by rw[MN];rfl);rw[aan hw];refine .inl ?_;obtain⟨c,ka,kb⟩:=fM (eE ei (by rw[Gy];simp)) (.inl ⟨ft,yL,Gy⟩);rw[Gy]at kb;have eT:c.callee=.value (.func ft)∧bJ au c.args.toList=some yL:=by
       unfold dH at kb;split at kb;case h_6 f' Gm=>
        split at kb
        ·simp only[aad,ki.call.injEq]at kb;obtain⟨l,hl,rfl,rfl⟩:=kb;exact⟨Gm,hl⟩
        ·cases kb
       all_goals exfalso
       all_goals first|(simp at kb;done)|(repeat' split at kb)<;>simp at kb
      have PX:(execOp a1.eval ops[l.length]).run P w1=.ok (.enter ft (c.args.map a1.eval)) w1:=by have:=eV h.1 (c.args.map a1.eval) w1;simp[execOp,ka,resolve,eT.1,Act.eval,Deferred.ofValue,invoke,this]
      unfold Oper.wp;rw[PX];simp only[Oper.upon];refine(h.2 g1 w1 _ (by simpa using hY hR.ev eT.2) hR.heap hR.dQ).mono ?_;rintro e w2 ⟨x,v,g2,H',rfl,⟨aL,bj,hQ⟩,hx,JC,rV⟩;simp only;rw[hd];refine⟨?_,g2,aL,hR.gi rV JC bj hx,hE.trans rV,hQ⟩;unfold Region.ready;rw[aaX];intro j hj;simp only[aaJ]at hj;have h2:(listed.setIfInBounds l.length true).getD j true=true:=by
       rw[aaj];by_cases pQ:j=l.length
       ·subst pQ;rw[aaI (by omega)];rfl
       ·rw[aaC (by omega)];have h1:=s6 j (by omega);rw[aaj]at h1;rw[Array.getElem?_eq_getElem (by omega)]at h1⊢;exact h1
      simp[h2]
     have ho:l[i]? =some o:=by rwa[aa2 MP]at DQ
     have Gu:i<rs.length:=by omega
     have sZ:rs[i]? =some rs[i]:=aaf Gu;obtain⟨r,jW,wL,DO⟩:=MJ i o ho;rw[sZ]at jW;simp only[aab]at jW;simp only[aau]at wL DO;have qY:listed.getD i false=false:=by have:=lj.1;rw[aaj]at this⊢;rw[Array.getElem?_eq_getElem (by omega)]at this⊢;exact this
     have dA:∀e∈o.after,listed.getD e false=true:=by intro e he;rw[iI]at he;simp only[ct,aaG,aay]at he;obtain⟨ed,⟨vf,rV⟩,rfl⟩:=he;have:=lj.2 ed (by simpa using vf);simpa[rV]using this
     have A2:=bA ho sZ;have nK:∀{j:Nat}{y:lT},(gK l rs)[j]? =some y→gT {dst:=o.dst,lk:=dq o,rd:=rs[i].2,ws:=bq rs[i].1.2,after:=o.after} y=true→listed.getD j false=decide (j<i):=fun hy hm=>agree yK iq ho qY dA A2 hy hm (by rw[ng];exact hm)
     have A3:∀t∈dq o,get (ax (fun j=>listed.getD j false) 0 l rs dj).tm t=get (dr l rs dj i).tm t:=by
      intro t ht;refine kD rfl (fun j o' h1 h2=>?_ );simp only[aau];have A4:j<rs.length:=by have:=(aai.1 h1).1;omega
      have fB:=bA h1 (aaf A4);refine nK fB ?_;unfold gT;have:nM o'.dst (dq o)=true:=iY.2 ⟨t,h2,ht⟩;simp[this]
     have Gv:∀b∈lq (aU GL (dr l rs dj i).tm) o.op,aA (ax (fun j=>listed.getD j false) 0 l rs dj).hp b=aA (dr l rs dj i).hp b:=by
      intro b hb;refine kE rfl (fun j r' h1 h2=>?_ );simp only[aau];have pQ:j<l.length:=by have:=(aai.1 h1).1;omega
      have fB:=bA (aaf pQ) h1;refine nK fB ?_;unfold gT;have:nM (bq r'.1.2) rs[i].2=true:=iY.2 ⟨b,h2,by rw[jW,DO];exact hb⟩;simp[this]
     have qd:=lx (GL:=GL) (ns:=σ.hp.length+i) (cv:=qc i) A3 Gv;have A5:eI GL (dr l rs dj i).tm (dr l rs dj i).hp (σ.hp.length+i) o (qc i)=some r.1:=wL;rw[A5]at qd;have A6:∀x∈looks o.op,aU GL (ax (fun j=>listed.getD j false) 0 l rs dj).tm x=aU GL (dr l rs dj i).tm x:=fun x hx=>kF (fun t ht=>A3 t (by simp only[dq,aaV,ab_];exact .inl ⟨x,hx,ht⟩))
     have ML:ao o.guard (ax (fun j=>listed.getD j false) 0 l rs dj).tm=ao o.guard (dr l rs dj i).tm:=gj (fun d w hd=>A3 d (by simp[dq,hd]));unfold wpOp;simp only[sY];have r_:=rY (P:=P) (GL:=GL) (ops:=ops) (v:=r.1.1) (wr:=r.1.2) ei lh hd qd (fun f args hc Ch=>by
      rw[ML]at Ch;have:=hq i o rs[i] ho sZ f args hc Ch;rw[jW]at this;have Ln:bd (aU GL (ax (fun j=>listed.getD j false) 0 l rs dj).tm) args=bd (aU GL (dr l rs dj i).tm) args:=by refine dR (fun x hx=>A6 x ?_ );cases mC:o.op<;>rw[mC]at hc<;>simp[bw]at hc;obtain⟨rfl,rfl⟩:=hc;simpa[looks]using hx
      rw[Ln];refine this.congr (fun b hb=>Gv b ?_ );cases mC:o.op<;>rw[mC]at hc<;>simp[bw]at hc;obtain⟨rfl,rfl⟩:=hc;simpa only[lq]using hb) hR (by
      intro yI;rcases gQ _ yI with h1|⟨j,h1,h2⟩
      ·omega
      ·have:j=i:=by omega
       subst this;rw[qY]at h1;cases h1) (fun d yI=>by rw[eG,MK];exact sX i o ho d yI) (wpAny P .any ops (cr GL g w Q) c_ (listed.setIfInBounds i true)) (cr GL g w Q) (by
      intro g2 w2 a2 Jz Cm MM;have rE:∀j,(listed.setIfInBounds i true).getD j false=df (fun j=>listed.getD j false) i j:=by
       intro j;simp only[df,aaj];by_cases hj:j=i
       ·subst hj;rw[aaI (by omega)];simp
       ·rw[aaC (by omega)];simp[hj]
      have mD:ax (fun j=>(listed.setIfInBounds i true).getD j false) 0 l rs dj=ax (df (fun j=>listed.getD j false) i) 0 l rs dj:=bZ (fun j _=>rE _);refine ih _ g2 w2 a2 (by simpa using cx) ?_ ?_ (by rw[rE];simp only[df];rw[wT];simp;omega) ?_ (hE.trans Cm) ?_
      ·have e1:(fun j=> !(listed.setIfInBounds i true).getD j false)=fun j=> !listed.getD j false&& !decide (j=i):=by funext j;rw[rE j];simp[df]
       rw[e1];have n9:∀(m:Nat)(f:Nat→Bool),i<m→f i=true→((List.range m).filter f).length=((List.range m).filter fun j=>f j&& !decide (j=i)).length+1:=by
        intro m f;induction m with
         |zero=>intro h;omega
         |succ m JA=>
          intro sN Gw;rw[aca,aa9,aa9,aaA,aaA];rcases aaW i m with h1|h1
          ·rw[JA h1 Gw];have:m≠i:=by omega
           simp[abi,this];split<;>simp<;>omega
          ·have:m=i:=by omega
           subst this;have s5:(List.range m).filter f=(List.range m).filter fun j=>f j&& !decide (j=m):=by
            refine acJ (fun j hj=>?_ );have:j≠m:=by have:=aaJ.1 hj;omega
            simp[this]
           rw[←s5];simp[abi,Gw]
       have:=n9 ops.size (fun j=> !listed.getD j false) rZ (by simp[qY]);rw[iv]at this;omega
      ·intro j o' iR hj e he;simp only[rE]at hj⊢;simp only[df,aa1,aam]at hj⊢;rcases hj with hj|rfl
       ·exact .inl (iq j o' iR hj e he)
       ·rw[ho]at iR;simp only[aab]at iR;subst iR;exact .inl (dA e he)
      ·rw[mD];refine Jz.congr ?_ (fun t=>?_ ) ?_
       ·rw[eG];have:∀(s:St)(v:V)(H:ah),(s.fc o.dst v H).n=s.n:=by intro s v H;cases o.dst<;>rfl
        rw[this,eG]
       ·rw[iZ (k:=i) (by omega) ho sZ qY (by omega) (fun j o' h1 h2 h3 h4 h5=>by
         simp only[aau]at h5;have A4:j<rs.length:=by have:=(aai.1 h1).1;omega
         have fB:=bA h1 (aaf A4);have:=nK fB (by unfold gT;have:gL o.dst o'.dst=true:=c7.2 ⟨t,h4,h3⟩;simp[this]);rw[h5]at this;simpa using this.symm),iu,jW]
       ·have AZ:∀(s:St)(v:V)(H:ah),(s.fc o.dst v H).hp=H:=by intro s v H;cases o.dst<;>rfl
        rw[AZ];refine mA ?_ (fun b=>?_ )
        ·rw[c8 nC (by rw[←nC]at dd⊢;simpa[nC]using dd)];cases hw:r.1.2 with
          |none=>simp only[aX];rw[c8 nC (by simpa using dd)]
          |some p=>obtain⟨c,y⟩:=p;have hc:c<σ.hp.length+l.length:=dd rs[i] (abg Gu) c (by rw[jW,hw];rfl);have Ji:=c8 (K:=fun j=>listed.getD j false) (i:=0) (l:=l) (rs:=rs) nC (by simpa using dd);simp only[aX];rw[eN (by omega),Ji]
        ·have:=i_ (K:=fun j=>listed.getD j false) (b:=b) (σ:=dj) (i0:=0) (k:=i) (l:=l) (by omega) (by omega) sZ qY (fun j r' h1 h2 h3 h4 h5=>by
          simp only[aau]at h5;have pQ:j<l.length:=by have:=(aai.1 h1).1;omega
          have fB:=bA (aaf pQ) h1;have:=nK fB (by unfold gT;have:gL (bq rs[i].1.2) (bq r'.1.2)=true:=c7.2 ⟨b,h4,h3⟩;simp[this]);rw[h5]at this;simpa using this.symm)
         rw[this,jW]
      ·intro b hb;rcases MM b hb with h1|rfl
       ·rcases gQ b h1 with h2|⟨j,h2,h3⟩
        ·exact .inl h2
        ·exact .inr ⟨j,by rw[rE];simp[df,h2],h3⟩
       ·exact .inr ⟨i,by rw[rE];simp[df],rfl⟩)
     split
     ·rename_i hw;simp only[hw,aa4]at r_;exact .inl r_
     ·rename_i hw;simp only[hw]at r_;exact r_
 have dY:∀j,(Array.replicate ops.size false).getD j false=false:=by intro j;rw[aaj,ab2];split<;>rfl
 have iS:ax (fun j=>(Array.replicate ops.size false).getD j false) 0 l rs dj=dj:=by
  have:∀(l:List ad)(rs:List ((V×Wr)×List Nat))(i:Nat)(s:St),ax (fun _=>false) i l rs s=s:=by
   intro l;induction l with
    |nil=>intro rs i s;simp[ax]
    |cons o l ih=>
     intro rs i s;cases rs with
      |nil=>simp[ax]
      |cons r rs=>simp only[ax,aaw];exact ih _ _ _
  rw[bZ (K':=fun _=>false) (fun j _=>dY _)];exact this _ _ _ _
 refine key ops.size (Array.replicate ops.size false) g _ rX (by simp) ?_ ?_ (dY _) ?_ (ch.drawn g w _) ?_
 ·simp only[dY,abd];rw[abP.2 (by simp)];simp
 ·intro j o _ hj;simp only[dY]at hj;cases hj
 ·rw[iS,←n7];exact(hr.pad l.length).drawn _
 ·intro b hb;exact .inl (hr.heap.cK b hb)
end
end Fw
