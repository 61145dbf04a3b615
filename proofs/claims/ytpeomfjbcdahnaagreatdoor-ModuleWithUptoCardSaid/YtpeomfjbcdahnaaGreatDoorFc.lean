/-
  Code of the abstract machine: what holds of every code that is compiled to it, in every world that fits the state.
-/
import Derived.Test.YtpeomfjbcdahnaaGreatDoorFb
import Derived.Test.YtpeomfjbcdahnaaGreatDoorFa
import Derived.RangeFuncLeaves
import Derived.OrdersIn
import Derived.RangeFuncRecord
set_option linter.unusedSimpArgs false
set_option linter.unusedVariables false
set_option maxHeartbeats 1000000
namespace Fw
open Go
inductive Ex where
 |normal
 |exit (id:Nat)
 |ret
variable {w:World}
def dr(GL:bR)(g0:G)(w0:World)(Q:Ex->St->Prop)(e:Exit)(a:Act)(w:World):Prop:=∃g σ,R GL g w a σ/\bA g0 w0 g w/\match e with
 | .normal=>Q .normal σ
 | .exit id=>Q (.exit id) σ
 | .ret=>Q .ret σ
 |_=>False
def FR:Option Nat->Fence|none=>Fence.wide|some l=>Fence.wide.inRound l
theorem Eu(ro:Option Nat):(FR ro).round=ro:=by cases ro<;>rfl
theorem Ey(ro:Option Nat)(f:FuncId):(FR ro).fn f:=by cases ro<;>exact trivial
theorem sb{ro:Option Nat}{n:Nat}{P:Program}{f:FuncId}{args:Array Value}{R:Ending->World->Prop}(h:Calls P f args w R):CallsIn (FR ro) n P f args w R:=by
 cases ro
 ·exact callsIn_wide.2 h
 ·exact(callsIn_wide (n:=n)).2 h
theorem oK{ro:Option Nat}{p:Prop}(h:(FR ro).depth.isSome=true):p:=by cases ro<;>cases h
def dW:IR->Bool| .seq a b=>dW a&&dW b| .cond _ a b=>dW a&&dW b| .block _ b=>dW b| .loop b=>dW b| .dC _ _ _ _=>false|_=>true
def WC(P:Program)(GL:bR)(c:IR)(σ:St)(Q:Ex->St->Prop):Prop:=∀code,aD P code=some c->∀ro,dW c=true\/ro=none->∀g w a,R GL g w a σ->code.wpIn (FR ro) 0 P (dr GL g w Q) a w
def an(P:Program)(f:FuncId):Bool:=match P.funcs[f]? with
 |some fn=>fn.body.isSome&& !(fn.name== "runtime.NumGoroutine")
 |none=>false
def WF(P:Program)(GL:bR)(f:FuncId)(args:List V)(H:ao)(Q:V->ao->Prop):Prop:=an P f=true/\∀g w (vs:Array Value),aM g w args vs.toList->ax g w H->dY GL g w->Calls P f vs w fun e w'=>∃x v g' H',e=.returned x/\Q v H'/\RV g' w' v x/\ax g' w' H'/\bA g w g' w'
def WO(P:Program)(GL:bR)(l:List ab)(σ:St)(Q:St->Prop):Prop:=∀(ro:Option Nat)(ops:Array Oper)(k:Nat),fE P ops.toList false (ops.toList.drop k)=some l->∀g w a,R GL g w a σ->wpOpsIn (FR ro) 0 P ops (dr GL g w fun e bg=>match e with| .normal=>Q bg|_=>False) (List.range' k (ops.size - k)) a w
theorem dr.ext{GL:bR}{g g':G}{w':World}{Q:Ex->St->Prop}(h:bA g w g' w')(e:Exit)(a:Act)(v:World)(hp:dr GL g' w' Q e a v):dr GL g w Q e a v:=by obtain⟨g2,σ,h1,h2,h3⟩:=hp;exact⟨g2,σ,h1,h.trans h2,h3⟩
theorem dr.mono{GL:bR}{g:G}{Q Q':Ex->St->Prop}(h:∀e σ,Q e σ->Q' e σ)(e:Exit)(a:Act)(v:World)(hp:dr GL g w Q e a v):dr GL g w Q' e a v:=by obtain⟨g2,σ,h1,h2,h3⟩:=hp;refine⟨g2,σ,h1,h2,?_⟩;grind
abbrev OW(ro:Option Nat)(P:Program)(o:Oper)(a:Act)(w:World)(K:Act->World->Prop)(Q:Exit->Act->World->Prop):Prop:=o.wpIn (FR ro) 0 P a w K Q
section
variable {P:Program}{GL:bR}{ro:Option Nat}
variable {σ:St}{b c:IR}{Q:Ex->St->Prop}{a:Act}{code:Code}{o:Oper}{w:World}
theorem bJ{op:Op}{io:jG}(h:aU P op=some io):∀c,op≠ .defer c:=by rintro c rfl;simp[aU]at h
theorem OW.of{w':World}{K:Act->World->Prop}{Q:Exit->Act->World->Prop}{nx:Next}(hd:∀c,o.op≠ .defer c)(h:(execOp a.eval o).run P w=.ok nx w')(hk:o.uponIn (FR ro) 0 P a K Q (.ok nx w')):OW ro P o a w K Q:=by refine⟨fun f _=>Ey ro f,?_ ⟩;rw[Eu,Oper.semAt_eq ro _ o hd,h];exact hk
theorem vO{F:Fence}{n:Nat}{K:Act->World->Prop}{Q Q':Exit->Act->World->Prop}(h:∀e a w,Q e a w->Q' e a w){r:Result Next}(hh:o.uponIn F n P a K Q r):o.uponIn F n P a K Q' r:=by
 cases r with
  |ok nx w'=>
   cases nx<;>simp only[Oper.uponIn]at hh⊢ <;>first
    |exact hh
    |exact⟨hh.1,CallsIn.mono hh.2 (fun e T_ he=>by
     cases e with
      |returned v=>exact he
      |panicked c=>exact h _ _ _ he
      |outgrown=>obtain⟨a0,w0,hq⟩:=he;exact⟨a0,w0,h _ _ _ hq⟩)⟩
    |exact⟨hh.1,RoundIn.mono hh.2 (fun e T_ he=>by
     cases e with
      |returned v=>exact he
      |panicked c=>exact h _ _ _ he
      |outgrown=>obtain⟨a0,w0,hq⟩:=he;exact⟨a0,w0,h _ _ _ hq⟩)⟩
  |halt x w'=>cases x<;>simp only[Oper.uponIn]at hh⊢ <;>exact h _ _ _ hh
theorem cU{ops:Array Oper}{Q Q':Exit->Act->World->Prop}(h:∀e a w,Q e a w->Q' e a w):∀(l:List Nat)(a:Act)(w:World),wpOpsIn (FR ro) 0 P ops Q l a w->wpOpsIn (FR ro) 0 P ops Q' l a w
 |[],a,w,hh=>h _ _ _ hh
 |i::zB,a,w,hh=>by
  simp only[wpOpsIn]at hh⊢;split
  ·rename_i hn;simp only[hn]at hh;exact cU h zB a w hh
  ·rename_i o ho;simp only[ho]at hh;split
   ·rename_i hw;simp only[hw,abJ]at hh;exact Oper.wpIn_mono (fun a w=>cU h zB a w) ⟨hh.1,vO h hh.2⟩
   ·rename_i hw;simp only[hw]at hh;exact⟨hh.1,cU h zB _ w hh.2⟩
theorem WC.mono{Q':Ex->St->Prop}(h:WC P GL c σ Q)(hq:∀e σ,Q e σ->Q' e σ):WC P GL c σ Q':=fun code hc ro n_ g w a hr=>wpIn_mono (h code hc ro n_ g w a hr) (fun e a' w' hp=>dr.mono hq e a' w' hp)
theorem WF.mono{f:FuncId}{args:List V}{H:ao}{Q Q':V->ao->Prop}(h:WF P GL f args H Q)(hq:∀v H',Q v H'->Q' v H'):WF P GL f args H Q':=⟨h.1,fun g w vs h1 h2 h3=>(h.2 g w vs h1 h2 h3).mono fun _ _ ⟨x,v,g',H',e1,e2,e3⟩=>⟨x,v,g',H',e1,hq _ _ e2,e3⟩⟩
theorem oO{x y:Code}(jO:lE (.seq x y)=true):aD P (.seq x y)=match aD P x,aD P y with
 |some a',some b'=>some (.seq a' b')
 |_,_=>none:=by cases x<;>first|rfl|cases jO
theorem eG{x y:Code}(jO:lE (.seq x y)=true)(hn:∀a b,c≠ .seq a b):aD P (.seq x y)≠some c:=by rw[oO jO];intro h;split at h<;>simp at h;exact hn _ _ h.symm
theorem vQ{g:G}{w0:World}:Ow (dr GL g w0 Q):=by rintro l a w ⟨g',σ,h1,h2,h3⟩;exact h3
theorem WC.jP(h:∀code,lE code=true->aD P code=some c->∀ro,dW c=true\/ro=none->∀g w a,R GL g w a σ->code.wpIn (FR ro) 0 P (dr GL g w Q) a w):WC P GL c σ Q:=by
 intro code;induction code with
  |scope b ih=>exact fun hc ro n_ g w a hr=>zt (wpIn_mono (ih hc ro n_ g w a hr) (Cc vQ))
  |seq x y _ ih=>
   cases x with
    |label l=>exact fun hc ro n_ g w a hr=>wpIn_seq (wpIn_label (ih hc ro n_ g w a hr))
    |_=>exact h _ rfl
  |_=>exact h _ rfl
theorem WC.skip{σ:St}{Q:Ex->St->Prop}(h:Q .normal σ):WC P GL .skip σ Q:=by
 refine WC.jP fun code jO hc ro n_ g w a hr=>?_
 have:code=.skip:=by
  cases code with
   |seq=>exact absurd hc (eG jO nofun)
   |scope=>cases jO
   |region=>grind [aD]
   |cond=>grind [aD]
   |skip=>rfl
   |_=>simp[aD]at hc
 subst this;exact wpIn_skip ⟨g,σ,hr,bA.refl _ _,h⟩
theorem Ez{a:IR}(jO:lE code=true)(hc:aD P code=some (.seq a b)):∃x y,code=.seq x y/\aD P x=some a/\aD P y=some b:=by
 cases code with
  |seq x y=>rw[oO jO]at hc;grind [Option.some.injEq,IR.seq.injEq]
  |scope=>cases jO
  |region=>grind[aD]
  |cond=>grind[aD]
  |_=>simp[aD]at hc
theorem WC.seq{a:IR}(h:WC P GL a σ (fun e bg=>match e with| .normal=>WC P GL b bg Q|e=>Q e bg)):WC P GL (.seq a b) σ Q:=by
 refine WC.jP fun code jO hc ro n_ g w xc hr=>?_
 obtain⟨x,y,rfl,hx,hy⟩:=Ez jO hc;have hra:dW a=true\/ro=none:=n_.imp (fun h=>by simp only[dW,aas]at h;exact h.1) id;have HQ:dW b=true\/ro=none:=n_.imp (fun h=>by simp only[dW,aas]at h;exact h.2) id;refine wpIn_seq (wpIn_mono (h x hx ro hra g w xc hr) fun e a' w' hp=>?_ );obtain⟨g2,sc,h1,h2,h3⟩:=hp;cases e with
  |normal=>exact wpIn_mono (h3 y hy ro HQ g2 w' a' h1) (dr.ext h2)
  |exit id=>exact⟨g2,sc,h1,h2,h3⟩
  |ret=>exact⟨g2,sc,h1,h2,h3⟩
  |goto l=>grind
  |panic c=>grind
  |outgrown=>grind
theorem Cp{c:aX}{a:IR}(jO:lE code=true)(hc:aD P code=some (.cond c a b)):∃o x y,code=.cond o x y/\aw o=some c/\aD P x=some a/\aD P y=some b:=by
 cases code with
  |cond o x y=>grind[aD,Option.some.injEq,IR.cond.injEq]
  |region=>grind[aD]
  |seq=>exact absurd hc (eG jO nofun)
  |scope=>cases jO
  |_=>simp[aD]at hc
theorem WC.cond{c:aX}{a:IR}{t:Bool}(ht:aW GL σ.tm c=.d (.bool t))(h:WC P GL (bif t then a else b) σ Q):WC P GL (.cond c a b) σ Q:=by
 refine WC.jP fun code jO hc ro n_ g w xc hr=>?_
 obtain⟨o,x,y,rfl,ho,hx,hy⟩:=Cp jO hc;have hv:=hr.ev _ _ ho;rw[ht]at hv;cases t with
  |true=>exact wpIn_cond (RV.bool hv) (h x hx ro (n_.imp (fun h=>by simp only[dW,aas]at h;exact h.1) id) g w xc hr)
  |false=>exact wpIn_cond (RV.bool hv) (h y hy ro (n_.imp (fun h=>by simp only[dW,aas]at h;exact h.2) id) g w xc hr)
theorem zK{id:Nat}(jO:lE code=true)(hc:aD P code=some (.block id b)):∃x,code=.block id x/\aD P x=some b:=by
 cases code with
  |seq=>exact absurd hc (eG jO nofun)
  |scope=>cases jO
  |_=>grind [aD,Option.map_eq_some_iff,IR.block.injEq]
theorem WC.block{id:Nat}(h:WC P GL b σ (fun e bg=>match e with| .exit i=>if i=id then Q .normal bg else Q (.exit i) bg|e=>Q e bg)):WC P GL (.block id b) σ Q:=by
 refine WC.jP fun code jO hc ro n_ g w xc hr=>?_
 obtain⟨x,rfl,hx⟩:=zK jO hc;refine wpIn_block (wpIn_mono (h x hx ro n_ g w xc hr) fun e a' w' hp=>?_ );obtain⟨g2,sc,h1,h2,h3⟩:=hp;cases e with
  |normal=>exact⟨g2,sc,h1,h2,h3⟩
  |exit i=>
   simp only[Exit.inBlock];by_cases hi:i=id
   ·simp only[hi,abJ]at h3⊢;exact⟨g2,sc,h1,h2,h3⟩
   ·simp only[hi,abN]at h3⊢;exact⟨g2,sc,h1,h2,h3⟩
  |ret=>exact⟨g2,sc,h1,h2,h3⟩
  |goto l=>grind
  |panic c=>grind
  |outgrown=>grind
theorem WC.exit{id:Nat}{σ:St}{Q:Ex->St->Prop}(h:Q (.exit id) σ):WC P GL (.exit id) σ Q:=by
 refine WC.jP fun code jO hc ro n_ g w xc hr=>?_
 cases code with
  |exit i=>simp only[aD,aat,IR.exit.injEq]at hc;subst hc;exact wpIn_exit ⟨g,σ,hr,bA.refl _ _,h⟩
  |region=>grind[aD]
  |seq=>exact absurd hc (eG jO nofun)
  |scope=>cases jO
  |cond=>grind[aD]
  |_=>simp[aD]at hc
theorem WC.ret{σ:St}{Q:Ex->St->Prop}(h:Q .ret σ):WC P GL .ret σ Q:=by
 refine WC.jP fun code jO hc ro n_ g w xc hr=>?_
 cases code with
  |ret=>exact wpIn_ret ⟨g,σ,hr,bA.refl _ _,h⟩
  |region=>grind[aD]
  |seq=>exact absurd hc (eG jO nofun)
  |scope=>cases jO
  |cond=>grind[aD]
  |_=>simp[aD]at hc
theorem Cq(jO:lE code=true)(hc:aD P code=some (.loop b)):∃x,code=.loop x/\aD P x=some b:=by
 cases code with
  |seq=>exact absurd hc (eG jO nofun)
  |scope=>cases jO
  |_=>grind [aD,Option.map_eq_some_iff,IR.loop.injEq]
theorem JG{p:Nat->Prop}(h:∃n,p n):∃n,p n/\∀m,p m->n<=m:=by obtain⟨n,hn⟩:=h;induction n using Nat.strongRecOn<;>grind
open Classical in
noncomputable def leastOf(p:Nat->Prop):Nat:=if h:∃n,p n then choose (JG h)else 0
theorem leastOf_spec{p:Nat->Prop}(h:∃n,p n):p (leastOf p)/\∀m,p m->leastOf p<=m:=by unfold leastOf;grind
theorem WC.loop(I:Nat->St->Prop)(h:∀n σ,I n σ->WC P GL b σ (fun e bg=>match e with| .normal=>∃m,m<n/\I m bg|e=>Q e bg)){n:Nat}(h0:I n σ):WC P GL (.loop b) σ Q:=by
 refine WC.jP fun code jO hc ro n_ g w xc hr=>?_
 obtain⟨x,rfl,hx⟩:=Cq jO hc;let J:Act->World->Nat->Prop:=fun a' w' n=>∃g' bg,I n bg/\R GL g' w' a' bg/\bA g w g' w'
 refine wpIn_loop (fun a' w'=>∃n,J a' w' n) (fun a' w'=>leastOf (J a' w')) ⟨n,g,σ,h0,hr,bA.refl _ _⟩ ?_;intro a' w' hJ;obtain⟨⟨g1,vR,i1,r1,e1⟩,OR⟩:=leastOf_spec hJ;refine wpIn_mono (h _ vR i1 x hx ro n_ g1 w' a' r1) fun e a2 w2 hp=>?_
 obtain⟨g2,sc,r2,e2,h3⟩:=hp;cases e with
  |normal=>obtain⟨m,hm,im⟩:=h3;have Z5:∃n,J a2 w2 n:=⟨m,g2,sc,im,r2,e1.trans e2⟩;exact⟨Z5,Nat.lt_of_le_of_lt ((leastOf_spec Z5).2 m ⟨g2,sc,im,r2,e1.trans e2⟩) hm⟩
  |exit i=>exact⟨g2,sc,r2,e1.trans e2,h3⟩
  |ret=>exact⟨g2,sc,r2,e1.trans e2,h3⟩
  |goto l=>grind
  |panic c=>grind
  |outgrown=>grind
def St.put(σ:St)(dst:Option Nat)(v:V)(H:ao):Option St:=match dst with
 |none=>some ⟨σ.n,σ.tm,H⟩
 |some d=>bif Nat.blt d σ.n then some ⟨σ.n,Fw.put σ.tm d v,H⟩else none
def aB(gd:Option (Nat×Bool))(tm:List (Nat×V)):Option Bool:=match gd with
 |none=>some true
 |some (d,nH)=>
  match get tm d with
   | .d (.bool b)=>some (b==nH)
   | .tuple []=>some false
   |_=>none
theorem R.fv{g g':G}{w':World}{bg:St}{H':ao}{dst:Option Nat}{v:V}{x:Value}(h:R GL g w a σ)(e:bA g w g' w')(hh:ax g' w' H')(hp:σ.put dst v H'=some bg)(hv:RV g' w' v x):R GL g' w' (a.put dst x) bg:=by
 cases dst with
  |none=>simp only[St.put,aat]at hp;subst hp;exact h.D0 e hh x
  |some d=>
   simp only[St.put]at hp;cases hb:Nat.blt d σ.n with
    |false=>grind
    |true=>rw[hb]at hp;simp at hp;subst hp;exact h.put e hh d v x (by simp_all) hv
theorem dj{ops:Array Oper}{gd:Option (Nat×Bool)}{g:G}{b:Bool}(h:R GL g w a σ)(hg:eE ops.toList o=some gd)(hb:aB gd σ.tm=some b):Region.wanted o (yielded ops a.tmps)=b:=by
 unfold eE at hg;unfold Region.wanted;cases ho:o.guard with
  |none=>grind[Option.some.injEq,aB]
  |some p=>
   obtain⟨j,nH⟩:=p;simp only[ho]at hg;split at hg
   ·rename_i d hd;simp at hg;subst hg;simp only[aB]at hb;split at hb
    ·rename_i t ht;simp at hb;have hv:=h.tmps d;rw[ht]at hv;have hv:=RV.bool hv;have:yielded ops a.tmps j=some t:=by
      unfold yielded;have e:ops[j]? =ops.toList[j]? :=by simp
      rw[e,hd];simp;rw[aaP]at hv;grind[undef]
     simp_all
    ·rename_i ht;simp at hb;have hv:=h.tmps d;rw[ht]at hv;simp only[RV]at hv;obtain⟨x,hx,D8⟩:=hv;have:yielded ops a.tmps j=none:=by
      unfold yielded;have e:ops[j]? =ops.toList[j]? :=by simp
      rw[e,hd];simp;rw[aaP]at hx;grind
     grind
    ·cases hb
   ·cases hg
theorem WO.nil{Q:St->Prop}(h:Q σ):WO P GL [] σ Q:=by
 intro ro ops k hc g w a hr;have hk:ops.size - k=0:=by have:=bU hc;grind
 rw[hk];exact⟨g,σ,hr,bA.refl _ _,h⟩
theorem WO.step{o:ab}{l:List ab}{Q:St->Prop}(h:∀{ro:Option Nat}(o':Oper)(ops:Array Oper),(aU P o'.op).getD .bad=o.op->eE ops.toList o'=some o.guard->o'.dst=o.dst->∀g w a,R GL g w a σ->∀(K:Act->World->Prop)(Q':Exit->Act->World->Prop),(∀g' w' a' bg,R GL g' w' a' bg->bA g w g' w'->WO P GL l bg Q->K a' w')->if Region.wanted o' (yielded ops a.tmps)then OW ro P o' a w K Q' else K (a.put o'.dst undef) w):WO P GL (o::l) σ Q:=by
 intro ro ops k hc g w a hr;have hl:=bU hc;simp at hl;have hk:k<ops.size:=by omega
 have xD:ops.toList.drop k=ops[k]::ops.toList.drop (k+1):=by rw[abk (by grind)];simp
 rw[xD]at hc;simp only[fE,bS]at hc;split at hc
 ·cases hc
 ·rename_i io xd;split at hc
  ·cases hc
  ·rename_i l' JA;simp at hc;obtain⟨rfl,rfl⟩:=hc;simp only[dU]at xd;split at xd
   ·rename_i gd lx;have fX:(aU P ops[k].op).getD .bad=(aU P ops[k].op).getD .bad:=rfl;simp at xd;subst xd;rw[show ops.size - k=(ops.size - (k+1))+1 by omega,acb,wpOpsIn_cons];unfold wpOpIn;have kz:ops[k]? =some ops[k]:=Array.getElem?_eq_getElem hk;simp only[kz];have key:=h (ro:=ro) ops[k] ops fX lx rfl g w a hr (wpOpsIn (FR ro) 0 P ops (dr GL g w fun e bg=>match e with| .normal=>Q bg|_=>False) (List.range' (k+1) (ops.size - (k+1)))) (dr GL g w fun e bg=>match e with| .normal=>Q bg|_=>False) (by
     intro g' w' a' bg ur he HR;have:=HR ro ops (k+1) JA g' w' a' ur;have OS:∀(l:List Nat)(a:Act)(v:World),wpOpsIn (FR ro) 0 P ops (dr GL g' w' fun e bg=>match e with| .normal=>Q bg|_=>False) l a v->wpOpsIn (FR ro) 0 P ops (dr GL g w fun e bg=>match e with| .normal=>Q bg|_=>False) l a v:=by intro l a v hw;exact cU (dr.ext he) l a v hw
     exact OS _ _ _ this)
    split at key
    ·rename_i hw;rw[aaD hw];exact key
    ·rename_i hw;rw[aaH hw];exact⟨fun f _=>Ey ro f,key⟩
   grind
end
end Fw
/-
  Operations in a row: one that calls nothing, one that is passed over, calls; regions; a function from its body.
-/
namespace Fw
open Go
section
variable {P:Program}{GL:bR}
variable {σ:St}{o:ab}{l:List ab}{Q:St->Prop}{f:FuncId}{w:World}
theorem WO.bw{o:ab}{l:List ab}{σ bg:St}{Q:St->Prop}{v:V}{wr:Wr}(hg:aB o.guard σ.tm=some true)(he:bw (aW GL σ.tm) σ.hp σ.hp.length o.op=some (v,wr))(hp:σ.put o.dst v (bn σ.hp wr)=some bg)(h:WO P GL l bg Q):WO P GL (o::l) σ Q:=by
 refine WO.step fun o' ops fX lx eQ g w a hr K Q' hK=>?_
 rw[dj hr lx hg,aaD rfl];obtain⟨g',w',nx,h1,h2,h3,h4,_⟩:=rZ (P:=P) (a:=a) (o:=o') (cE fX (fun e=>by rw[e]at he;cases he)) he hr.ev hr.heap hr.heap.fresh;have oa:=bJ (cE fX (fun e=>by rw[e]at he;cases he));rcases h2 with⟨x,rfl,hx⟩|⟨rfl,rfl⟩
 ·refine OW.of oa h1 ?_;simp only[Oper.uponIn];rw[eQ];exact hK g' w' _ bg (hr.fv h4 h3 hp hx) h4 h
 ·refine OW.of oa h1 ?_;simp only[Oper.uponIn];rw[eQ];exact hK g' w' _ bg (hr.fv h4 h3 hp (by simp only[RV])) h4 h
theorem WO.skip{bg:St}(hg:aB o.guard σ.tm=some false)(hp:σ.put o.dst (.tuple []) σ.hp=some bg)(h:WO P GL l bg Q):WO P GL (o::l) σ Q:=by
 refine WO.step fun o' ops fX lx eQ g w a hr K Q' hK=>?_
 rw[dj hr lx hg,aaH (by simp),eQ];exact hK g w _ bg (hr.fv (bA.refl _ _) hr.heap hp (by simp only[RV];exact⟨#[],rfl,by simp[aM]⟩)) (bA.refl _ _) h
theorem fG(h:an P f=true)(args:Array Value)(w:World):(callFunc f args).run P w=.ok (.enter f args) w:=by
 unfold an at h;split at h
 ·rename_i fn hf;simp at h;have h2:¬fn.body=none:=by grind
  simp_all[callFunc]
 ·cases h
theorem gX{op:Op}{io:jG}(h:aU P op=some io)(xd:(∃f l,io=.call f l)\/∃x l,io=.b_ x l):∃c,op=.call c/\dq P c=some io:=by
 cases op with
  |call c=>grind[aU]
  |makeFunc fn a b=>exfalso;cases fn<;>(grind[aU])
  |makeMap t r=>exfalso;cases r<;>(grind[aU])
  |slice t x lo hi mx=>exfalso;cases mx<;>cases lo<;>cases hi<;>(simp only[aU]at h;(repeat' split at h)<;>(rcases xd with⟨f,l,rfl⟩|⟨x,l,rfl⟩<;>simp at h))
  |_=>exfalso;simp only[aU]at h;(repeat' split at h)<;>(rcases xd with⟨f,l,rfl⟩|⟨x,l,rfl⟩<;>simp at h)
theorem WO.Ba{args:List V}(ho:o.op≠ .bad)(hg:aB o.guard σ.tm=some true)(ep:∀(o':Oper)(g:G)(w:World)(a:Act),(aU P o'.op).getD .bad=o.op->R GL g w a σ->an P f=true->∃vs:Array Value,aM g w args vs.toList/\(execOp a.eval o').run P w=.ok (.enter f vs) w)(h:WF P GL f args σ.hp fun v H'=>∃bg,σ.put o.dst v H'=some bg/\WO P GL l bg Q):WO P GL (o::l) σ Q:=by
 refine WO.step fun o' ops fX lx eQ g w a hr K Q' hK=>?_
 rw[dj hr lx hg,aaD rfl];obtain⟨vs,cX,zl⟩:=ep o' g w a fX hr h.1;have oa:=bJ (cE fX ho);refine OW.of oa zl ?_;simp only[Oper.uponIn];refine⟨fun h=>oK h,sb ((h.2 g w vs cX hr.heap hr.cB).mono ?_ )⟩;rintro e w' ⟨x,v,g',H',rfl,⟨bg,aR,HR⟩,hx,hh,he⟩;simp only;rw[eQ];exact hK g' w' _ bg (hr.fv he hh aR hx) he HR
theorem WO.call{args:List aX}(ho:o.op=.call f args)(hg:aB o.guard σ.tm=some true)(h:WF P GL f (bQ (aW GL σ.tm) args) σ.hp fun v H'=>∃bg,σ.put o.dst v H'=some bg/\WO P GL l bg Q):WO P GL (o::l) σ Q:=by
 refine WO.Ba (by rw[ho];simp) hg (fun o' g w a fX hr uE=>?_ ) h;rw[ho]at fX;obtain⟨c,hc,Ei⟩:=gX (cE fX (by simp)) (.inl ⟨f,args,rfl⟩);have e_:c.callee=.value (.func f)/\bS aw c.args.toList=some args:=by unfold dq at Ei;grind[Option.map_eq_some_iff,jG.call.injEq]
 refine⟨c.args.map a.eval,by simpa using iA hr.ev e_.2,?_ ⟩;have:=fG uE (c.args.map a.eval) w;simp_all[execOp,resolve,Act.eval,Deferred.ofValue,invoke]
theorem WO.b_{x:aX}{first cap:List V}{args:List aX}(ho:o.op=.b_ x args)(hx:aW GL σ.tm x=.func f first cap)(hg:aB o.guard σ.tm=some true)(h:WF P GL f (first++bQ (aW GL σ.tm) args++cap) σ.hp fun v H'=>∃bg,σ.put o.dst v H'=some bg/\WO P GL l bg Q):WO P GL (o::l) σ Q:=by
 refine WO.Ba (by rw[ho];simp) hg (fun o' g w a fX hr uE=>?_ ) h;rw[ho]at fX;obtain⟨c,hc,Ei⟩:=gX (cE fX (by simp)) (.inr ⟨x,args,rfl⟩);have e_:∃t,c.callee=.value (.tmp t)/\x=.t t/\bS aw c.args.toList=some args:=by unfold dq at Ei;grind[Option.map_eq_some_iff,jG.b_.injEq]
 obtain⟨t,ht,rfl,gW⟩:=e_;have hv:=hr.ev (.tmp t) (.t t) rfl;rw[hx]at hv;simp only[RV]at hv;obtain⟨p,q,e1,e2,e3⟩:=hv;refine⟨p++c.args.map a.eval++q,?_,?_⟩
 ·simp only[acr,Array.toList_map];exact aM.append (aM.append e2 (iA hr.ev gW)) e3
 ·have:=fG uE (p++c.args.map a.eval++q) w;grind[Array.append_assoc,execOp,resolve,Deferred.ofValue,invoke]
theorem WC.region{l:List ab}{σ:St}{Q:Ex->St->Prop}(h:WO P GL l σ fun bg=>Q .normal bg):WC P GL (.region l) σ Q:=by
 refine WC.jP fun code jO hc ro n_ g w xc hr=>?_
 cases code with
  |region id ops draw=>
   simp only[aD]at hc;split at hc
   ·rename_i l' JA;cases draw with
     |true=>simp at hc
     |false=>simp at hc;subst hc;refine wpIn_region ?_;have:=h ro ops 0 (by grind) g w xc hr;rw[List.range_eq_range'];simp at this;exact cU (fun e a v hp=>by obtain⟨g2,sc,h1,h2,h3⟩:=hp;cases e<;>first|exact⟨g2,sc,h1,h2,h3⟩|grind) _ _ _ this
   ·cases hc
  |seq=>exact absurd hc (eG jO nofun)
  |scope=>cases jO
  |cond=>grind[aD]
  |_=>simp[aD]at hc
def pZ:Nat->List V->List (Nat×V)|_,[]=>[]|n,v::vs=>(n,v)::pZ (n+1) vs
theorem xE(vs:List V)(n t:Nat):get (pZ n vs) t=if t<n then .any else(vs[t - n]? ).getD .any:=by
 induction vs generalizing n with
  |nil=>simp[pZ,get]
  |cons v vs ih=>
   simp only[pZ,get];by_cases h:n=t
   ·subst h;simp
   ·rw[dv h,aaK,ih];grind
def gu(σ:St):jH->Option V
 | .t n=>some (get σ.tm n)
 | .cell n size agg=>
  match jq σ.hp size (get σ.tm n)with
   |some cs=>AX agg cs
   |none=>none
def ij(rs:List jH)(σ:St):Option V:=match bS (gu σ) rs with
 |some [v]=>some v
 |some vs=>some (.tuple vs)
 |none=>none
def vU(a:Act):ResultVar->Sem Value| .tmp t=>pure (a.tmps.getD t undef)| .cell b t=>do loadVar t (←asAddr (a.tmps.getD b undef))
theorem Cr{g:G}{a:Act}{r:ResultVar}{r':jH}{v:V}(h:R GL g w a σ)(hc:mw P r=some r')(hv:gu σ r'=some v):∃x,(vU a r).run P w=.ok x w/\RV g w v x:=by
 cases r with
  |tmp t=>simp only[mw,aat]at hc;subst hc;simp only[gu,aat]at hv;subst hv;exact⟨_,rfl,h.tmps t⟩
  |cell b t=>
   simp only[mw]at hc;split at hc
   ·rename_i n ag hn DQ;split at hc
    ·simp at hc;subst hc;simp only[gu]at hv;split at hv
     ·rename_i cs nI;obtain⟨aK,off,vs,e1,e2,e3,e4⟩:=xr nI (h.tmps b) h.heap;obtain⟨h3,h4⟩:=zu hv e3;refine⟨_,?_,h3⟩;simp only[vU,Sem.run_bind,e1,asAddr,Sem.run_pure,Result.andThen_ok];exact lG hn DQ e2 h4 e4
     ·cases hv
    ·cases hc
   ·cases hc
theorem zL{g:G}{a:Act}{fn:Func}{rs:List jH}{v:V}(h:R GL g w a σ)(hc:bS (mw P) fn.results.toList=some rs)(hv:ij rs σ=some v):∃x,(results fn a.tmps).run P w=.ok x w/\RV g w v x:=by
 have key:∀(l:List ResultVar)(rs:List jH)(vs:List V),bS (mw P) l=some rs->bS (gu σ) rs=some vs->∃xs:List Value,(l.mapM (vU a)).run P w=.ok xs w/\aM g w vs xs:=by
  intro l;induction l with
   |nil=>simp_all[bS,aat,aM]
   |cons r l ih=>
    intro rs vs h1 h2;simp only[bS]at h1;split at h1
    ·cases h1
    ·rename_i r' ur;split at h1
     ·cases h1
     ·rename_i Cs Vq;simp at h1;subst h1;simp only[bS]at h2;split at h2
      ·cases h2
      ·rename_i v' fY;split at h2
       ·cases h2
       ·rename_i UT zM;simp at h2;subst h2;obtain⟨x,k1,k2⟩:=Cr h ur fY;obtain⟨xs,k3,k4⟩:=ih _ _ Vq zM;simp_all[aM,List.mapM_cons,Sem.run_bind,Result.andThen_ok]
 unfold ij at hv;cases hm:bS (gu σ) rs with
  |none=>grind
  |some vs=>
   obtain⟨xs,k1,k2⟩:=key _ _ _ hc hm;have hl:=k2.length;have ep:(results fn a.tmps).run P w=.ok (if h:xs.toArray.size=1 then xs.toArray[0]else .tuple xs.toArray) w:=by
    have Lk:results fn a.tmps=(do let vs←fn.results.mapM (vU a);pure (if h:vs.size=1 then vs[0]else .tuple vs)):=by unfold results;congr 1
    grind[Array.mapM_eq_mapM_toList,Sem.run_bind,Sem.run_map,Result.andThen_ok,Sem.run_pure]
   refine⟨_,ep,?_⟩;rw[hm]at hv;cases vs with
    |nil=>grind[Option.some.injEq,RV]
    |cons v1 vs=>
     cases vs with
      |nil=>simp at hv;subst hv;cases xs<;>grind[aM]
      |cons v2 vs=>grind[Option.some.injEq,RV]
theorem Cx{D:Nat}{x:Option (List Deferred)}(h:w.heap[D]? =some (.deferred x))(a:Addr):(w.putObj D (.deferred none)).cell? a=w.cell? a:=by
 unfold World.cell?;by_cases e:a.block=D
 ·rw[e,World.putObj_heap_same (aa6.1 h).1,h]
 ·rw[World.putObj_heap_other e]
mutual
theorem Rd.cells{w w':World}{im:Nat->Prop}(h:∀a,w'.cell? a=w.cell? a):∀(d:D)(v:Value),Rd w im d v->Rd w' im d v
 | .bool _,_,hd=>by grind[Rd]
 | .int _ _,_,hd=>by grind[Rd]
 | .str _,_,hd=>by grind[Rd]
 | .sN _,_,hd=>by grind[Rd]
 | .list es,v,hd=>by
  simp only[Rd]at hd⊢;rcases hd with hd|⟨aK,off,cap,sz,h1,h2,h3,h4⟩
  ·exact .inl hd
  ·exact .inr ⟨aK,off,cap,sz,h1,h2,h3,eD.cells h _ _ _ _ h4⟩
theorem eD.cells{w w':World}{im:Nat->Prop}(h:∀a,w'.cell? a=w.cell? a):∀(aK off sz:Nat)(es:List (List D)),eD w im aK off sz es->eD w' im aK off sz es
 |_,_,_,[],_=>by simp only[eD]
 |aK,off,sz,e::es,hd=>by simp only[eD]at hd⊢;exact⟨hd.1,cV.cells h _ _ _ hd.2.1,eD.cells h _ _ _ _ hd.2.2⟩
theorem cV.cells{w w':World}{im:Nat->Prop}(h:∀a,w'.cell? a=w.cell? a):∀(aK off:Nat)(ds:List D),cV w im aK off ds->cV w' im aK off ds
 |_,_,[],_=>by simp only[cV]
 |aK,off,d::ds,hd=>by simp only[cV]at hd⊢;obtain⟨⟨v,h1,h2⟩,h3⟩:=hd;exact⟨⟨v,by rw[h];exact h1,Rd.cells h _ _ h2⟩,cV.cells h _ _ _ h3⟩
end
mutual
theorem RV.cells{g:G}{w w':World}(hs:w'.heap.size=w.heap.size)(h:∀a,w'.cell? a=w.cell? a):∀(u:V)(v:Value),RV g w u v->RV g w' u v
 | .any,_,_=>by simp only[RV]
 | .d x,v,hv=>by
  have e:cw g w'=cw g w:=by funext k;simp only[cw,hs]
  simp only[RV,e]at hv⊢;exact Rd.cells h _ _ hv
 | .full es,v,hv=>by
  have e:cw g w'=cw g w:=by funext k;simp only[cw,hs]
  simp only[RV,e]at hv⊢;exact⟨Rd.cells h _ _ hv.1,hv.2⟩
 | .aj,_,hv=>by simpa only[RV]using hv
 | .ptr _ _ _,_,hv=>by simpa only[RV]using hv
 | .lu,_,hv=>by simpa only[RV]using hv
 | .aL cs,v,hv=>by
  have e:cw g w'=cw g w:=by funext k;simp only[cw,hs]
  simp only[RV,e]at hv⊢;obtain⟨aK,off,h1,h2,h3⟩:=hv;exact⟨aK,off,h1,h2,cV.cells h _ _ _ h3⟩
 | .sl _ _ _ _ _,_,hv=>by simpa only[RV]using hv
 | .map _,_,hv=>by simpa only[RV]using hv
 | .kj,_,hv=>by simpa only[RV]using hv
 | .func f a c,v,hv=>by simp only[RV]at hv⊢;obtain⟨x,y,h1,h2,h3⟩:=hv;exact⟨x,y,h1,aM.cells hs h _ _ h2,aM.cells hs h _ _ h3⟩
 | .ob,_,hv=>by simpa only[RV]using hv
 | .iface t u,v,hv=>by simp only[RV]at hv⊢;obtain⟨x,h1,h2⟩:=hv;exact⟨x,h1,RV.cells hs h _ _ h2⟩
 | .bD,_,hv=>by simpa only[RV]using hv
 | .fA,_,hv=>by simpa only[RV]using hv
 | .agg cs,v,hv=>by simp only[RV]at hv⊢;obtain⟨x,h1,h2⟩:=hv;exact⟨x,h1,aM.cells hs h _ _ h2⟩
 | .tuple vs,v,hv=>by simp only[RV]at hv⊢;obtain⟨x,h1,h2⟩:=hv;exact⟨x,h1,aM.cells hs h _ _ h2⟩
 | .iter _ _,_,hv=>by simpa only[RV]using hv
 | .gJ _,_,hv=>by simpa only[RV]using hv
theorem aM.cells{g:G}{w w':World}(hs:w'.heap.size=w.heap.size)(h:∀a,w'.cell? a=w.cell? a):∀(us:List V)(vs:List Value),aM g w us vs->aM g w' us vs
 |[],[],_=>by simp only[aM]
 |u::us,v::vs,hv=>by simp only[aM]at hv⊢;exact⟨RV.cells hs h _ _ hv.1,aM.cells hs h _ _ hv.2⟩
 |[],_::_,hv=>by simp only[aM]at hv
 |_::_,[],hv=>by simp only[aM]at hv
end
theorem RB.cells{g:G}{w w':World}(hs:w'.heap.size=w.heap.size)(h:∀a,w'.cell? a=w.cell? a){x:GB}{y:bW}(ho:∀k,x.own=some k->w'.heap[k]? =w.heap[k]? )(hr:RB g w x y):RB g w' x y:=by
 have e:cw g w'=cw g w:=by funext k;simp only[cw,hs]
 cases x with
  |cells aK cp cur=>
   cases y with
    |cells cs=>simp only[RB]at hr⊢;obtain⟨h1,h2,h3,c,e,h4,h5,h6⟩:=hr;exact⟨h1,h2,h3,c,e,by rw[ho aK rfl];exact h4,h5,aM.cells hs h _ _ h6⟩
    |_=>simp only[RB]at hr
  |nil=>cases y<;>simp only[RB]at hr⊢
  |obj aK=>
   cases y with
    |map es=>simp only[RB,e]at hr⊢;obtain⟨bG,clock,h1,h2,h3,h4⟩:=hr;refine⟨bG,clock,by rw[ho aK rfl];exact h1,h2,fun i k v hi=>?_,h4⟩;obtain⟨z,KT,Hx,Hy,Ou⟩:=h3 i k v hi;exact⟨z,KT,Hx,Rd.cells h _ _ Hy,RV.cells hs h _ _ Ou⟩
    |uo s pos=>simp only[RB]at hr⊢;rw[ho aK rfl];exact hr
    |loop n tm ps ca cb st=>simp only[RB]at hr⊢;obtain⟨r,h1,h2,h3,h4⟩:=hr;exact⟨r,by rw[ho aK rfl];exact h1,h2,fun t=>RV.cells hs h _ _ (h3 t),h4⟩
    |bM m n seen=>simp only[RB]at hr⊢;rw[ho aK rfl];exact hr
    |_=>simp only[RB]at hr
theorem R.shut{g:G}{w:World}{a:Act}{σ:St}{d:Deferred}{ds:List Deferred}(h:R GL g w a σ)(hd:a.defers=d::ds)(hb:GL.w0.heap.size<=g.base):∃D w',d.target=.collected D/\(Instr.takeDeferred D).run P w=.ok [] w'/\R GL g w' {a with defers:=ds} σ/\∀g0 w0,bA g0 w0 g w->w0.heap.size<=g.base->bA g0 w0 g w':=by
 have N5:=h.defers;rw[hd]at N5;obtain⟨hbs,oa,jj⟩:=N5;obtain⟨D,rfl,hD1,OT,Z6⟩:=jj d (by simp);have cA:D<w.heap.size:=OT.1;have EA:∀k,k≠D->(w.putObj D (.deferred none)).heap[k]? =w.heap[k]? :=fun k hk=>World.putObj_heap_other hk
 have xC:=Cx Z6;have cG:(w.putObj D (.deferred none)).heap.size=w.heap.size:=World.putObj_size;have e:cw g (w.putObj D (.deferred none))=cw g w:=by funext k;simp only[cw,cG]
 refine⟨D,w.putObj D (.deferred none),rfl,run_takeDeferred Z6,⟨⟨by rw[cG];exact hbs,(ab7.1 oa).2,fun d' Z7=>?_ ⟩,h.size,fun t=>RV.cells cG xC _ _ (h.tmps t),?_,?_ ⟩,fun g0 w0 he hw=>?_ ⟩
 ·obtain⟨D',rfl,k1,k2,k3⟩:=jj d' (aaZ _ Z7);refine⟨D',rfl,k1,by rw[e];exact k2,?_ ⟩;rw[EA D' ?_];exact k3;rintro rfl;exact(ab7.1 oa).1 Z7
 ·have hh:=h.heap;refine⟨hh.cr,fun b x hx=>?_,hh.back,hh.inj,fun k hk=>⟨by rw[cG];exact(hh.fo k hk).1,(hh.fo k hk).2⟩⟩;obtain⟨h1,y,h2,h3⟩:=hh.live b x hx;exact⟨h1,y,h2,RB.cells cG xC (fun k hk=>EA k (by rintro rfl;exact OT.2.2 b x hx hk)) h3⟩
 ·refine⟨fun n cs hn=>?_,fun k hk=>?_ ⟩
  ·rw[e];exact⟨(h.cB.rd n cs hn).1,cV.cells xC _ _ _ (h.cB.rd n cs hn).2⟩
  ·rw[e];exact⟨(h.cB.w0 k hk).1,by rw[EA k (by omega)];exact(h.cB.w0 k hk).2⟩
 ·have hh:=h.heap;refine⟨he.os,he.tape,he.output,by rw[cG];exact he.size,fun k hk=>?_,he.cr,he.step,he.fo,he.base,fun k hk=>?_ ⟩
  ·rw[e,EA k (by have:=hk.1;omega)];exact he.keeps k hk
  ·rw[EA k ?_];exact he.dB k hk;rintro rfl;exact OT.2.1 (by rw[he.fo];exact hk)
theorem uF{fn:Func}{g0 g:G}{w0:World}{tmps:Array Value}{σ:St}{Rp:Ending->World->Prop}(hb:GL.w0.heap.size<=g.base)(hw:w0.heap.size<=g.base)(Lk:∀w,R GL g w {tmps:=tmps,defers:=[]} σ->bA g0 w0 g w->∃v,(results fn tmps).run P w=.ok v w/\Rp (.returned v) w):∀(ds:List Deferred)(w:World),R GL g w {tmps:=tmps,defers:=ds} σ->bA g0 w0 g w->LeavesInM Fence.wide 0 P fn tmps Rp ds .returning w|[],w,hr,he=>Lk w hr he|d::ds,w,hr,he=>by obtain⟨D,w',h1,h2,h3,h4⟩:=R.shut (P:=P) hr rfl hb;exact⟨by simp,.inl ⟨D,w',h1,h2,uF hb hw Lk ds w' h3 (h4 _ _ he hw)⟩⟩
theorem WF.body{f:FuncId}{fn:bL}{args:List V}{H:ao}{Q:V->ao->Prop}(hf:au P f=some fn)(uE:an P f=true)(hn:args.length<=fn.ntmps)(h:WC P GL fn.body ⟨fn.ntmps,pZ 0 args,H⟩ (fun e σ=>match e with| .exit _=>False|_=>∃v,ij fn.res σ=some v/\Q v σ.hp)):WF P GL f args H Q:=by
 refine⟨uE,fun g w vs cX hh hg=>?_ ⟩;unfold au at hf;split at hf
 ·cases hf
 ·rename_i Vr HS;split at hf
  ·cases hf
  ·rename_i c EB;split at hf
   ·rename_i b r hb hr;simp at hf;subst hf;have hlen:=cX.length;simp at hlen hn;have hw0:GL.w0.heap.size<=w.heap.size:=by
     rcases acz GL.w0.heap.size with h0|h0
     ·omega
     ·have:=(hg.w0 (GL.w0.heap.size - 1) (by omega)).1.1;omega
    refine callsIn_wide.1 (callsIn_of_wp_marks (F:=Fence.wide) (n:=0) HS EB trivial (wpIn_mono (h c hb none (.inr rfl) (g.bt w.heap.size) w _ ?_ ) fun e a' w' hp=>?_ ))
    ·refine⟨DN.nil (aaE _),by simp;omega,fun t=>?_,hh.bt _,hg.bt _⟩;refine RV.jJ (rm.bt g w _) _ _ ?_;simp only[xE,acm,abN,acn];by_cases ht:t<args.length
     ·have OU:args[t]? =some args[t]:=aaz ht;obtain⟨x,Uk,ly⟩:=cX.get t OU;rw[OU,abx];have Vl:vs[t]? =some x:=by grind
      have Hn:t<vs.size:=by omega
      have:(vs++Array.replicate (Vr.ntmps - vs.size) undef).getD t undef=x:=by rw[aaP,ab1 Hn,Vl];rfl
      grind
     grind[RV]
    ·obtain⟨g2,sc,k1,k2,k3⟩:=hp;have A6:g2.base=w.heap.size:=k2.base;have fin:(∃v,ij r sc=some v/\Q v sc.hp)->LeavesInM Fence.wide 0 P Vr a'.tmps (fun e w'=>∃x v g' H',e=.returned x/\Q v H'/\RV g' w' v x/\ax g' w' H'/\bA g w g' w') a'.defers .returning w':=by rintro⟨v,hv,hq⟩;refine uF (GL:=GL) (g0:=g.bt w.heap.size) (w0:=w) (g:=g2) (σ:=sc) (by omega) (by omega) (fun w3 HT JH=>?_ ) a'.defers w' k1 k2;obtain⟨x,Uk,ly⟩:=zL (P:=P) (fn:=Vr) (a:={tmps:=a'.tmps,defers:=[]}) HT hr hv;exact⟨x,Uk,x,v,g2.bt g.base,sc.hp,rfl,hq,RV.jJ (rm.bt g2 w3 _) _ _ ly,HT.heap.bt _,JH.bt g.base⟩
     cases e with
      |normal=>exact fin k3
      |ret=>exact fin k3
      |exit i=>grind
      |goto l=>grind
      |panic c=>grind
      |outgrown=>grind
   ·cases hf
end
end Fw
/-
  A step of an iterator over a map: every entry that has not come yet may come next.
-/
namespace Fw
open Go
section
variable {P:Program}{GL:bR}
def dm(bG:Array MapEntry)(sa:Array Nat)(n:Nat):Array (Option MapEntry):=let left:=bG.filter fun e=> !sa.contains e.born;let xe:=left.filter (·.born<n);let new:=left.filter (·.born>=n);(if xe.isEmpty then #[none]else #[])++(xe++new).map some
theorem lK{bG:Array MapEntry}{sa:Array Nat}(h:∀(i:Nat)(x:MapEntry),bG[i]? =some x->x.born=i):(dm bG sa bG.size= #[none]/\∀i,i<bG.size->i∈sa.toList)\/(0<(dm bG sa bG.size).size/\∀(j:Nat)(c:Option MapEntry),(dm bG sa bG.size)[j]? =some c->∃i e,c=some e/\bG[i]? =some e/\e.born=i/\i∉sa.toList):=by
 have hb:∀e∈bG,e.born<bG.size/\bG[e.born]? =some e:=by intro e he;obtain⟨i,hi,rfl⟩:=Array.mem_iff_getElem.1 he;have:=h i _ (Array.getElem?_eq_getElem hi);grind
 have xw:(bG.filter fun e=> !sa.contains e.born).filter (·.born<bG.size)=bG.filter fun e=> !sa.contains e.born:=by apply Array.filter_eq_self.2;grind
 have zN:(bG.filter fun e=> !sa.contains e.born).filter (·.born>=bG.size)= #[]:=by apply Array.filter_eq_empty_iff.2;grind
 unfold dm;simp only[xw,zN,Array.append_empty];cases hl:(bG.filter fun e=> !sa.contains e.born).isEmpty with
  |true=>left;have he:=Array.isEmpty_iff.1 hl;refine⟨by grind,fun i hi=>?_ ⟩;have:=Array.filter_eq_empty_iff.1 he bG[i] (Array.getElem_mem hi);rw[h i _ (Array.getElem?_eq_getElem hi)]at this;grind
  |false=>
   right;have fp:(bG.filter fun e=> !sa.contains e.born)≠ #[]:=fun he=>by grind
   refine⟨?_,fun j c hc=>?_ ⟩
   ·grind
   ·simp at hc;obtain⟨e,he,rfl⟩:=hc;have hm:=Array.mem_of_getElem? he;grind
theorem Cy{op:Op}{x:aX}(h:aU P op=some (.f_ x)):∃it,op=.next it false/\aw it=some x:=by
 cases op with
  |next it s=>grind[aU,Option.map_eq_some_iff,jG.f_.injEq]
  |makeFunc fn a b=>exfalso;cases fn<;>(grind[aU])
  |makeMap t r=>exfalso;cases r<;>(grind[aU])
  |slice t x lo hi mx=>exfalso;cases mx<;>cases lo<;>cases hi<;>(simp only[aU]at h;(repeat' split at h)<;>simp at h)
  |call c=>exfalso;simp only[aU,dq]at h;(repeat' split at h)<;>simp at h
  |_=>exfalso;simp only[aU]at h;(repeat' split at h)<;>simp at h
theorem WO.f_{o:ab}{l:List ab}{σ:St}{Q:St->Prop}{x:aX}{b m n:Nat}{seen:List Nat}{es:List (D×V)}(ho:o.op=.f_ x)(hg:aB o.guard σ.tm=some true){m':Nat}(hx:aW GL σ.tm x=.iter b m')(hb:aA σ.hp b=some (.bM m n seen))(hm:aA σ.hp m=some (.map es))(hn:es.length=n)(h1:∀i k v,es[i]? =some (k,v)->i∉seen->∃bg,σ.put o.dst (.tuple [.d (.bool true),.d k,v]) (aR σ.hp b (.bM m n (seen++[i])))=some bg/\WO P GL l bg Q)(h2:(∀i,i<n->i∈seen)->∃bg,σ.put o.dst (.tuple [.d (.bool false)]) σ.hp=some bg/\WO P GL l bg Q):WO P GL (o::l) σ Q:=by
 refine WO.step fun o' ops fX lx eQ g w a hr K Q' hK=>?_
 rw[dj hr lx hg,aaD rfl];rw[ho]at fX;obtain⟨it,hc,hit⟩:=Cy (cE fX (by simp));have hv:=hr.ev _ _ hit;rw[hx]at hv;simp only[RV]at hv;obtain⟨xb,oq⟩:=hr.heap.back b _ hb;obtain⟨_,y,hy,HQ⟩:=hr.heap.live b xb oq;rw[hb]at hy;simp at hy;subst hy;obtain⟨aK,rfl,xq⟩:=hv.2 xb oq;simp only[RB]at HQ;obtain⟨mb,sa,k1,k2,k3,k4⟩:=HQ;obtain⟨xm,OG⟩:=hr.heap.back m _ hm;obtain⟨_,y,hy,Ef⟩:=hr.heap.live m xm OG;rw[hm]at hy;simp at hy;subst hy;obtain rfl:=k4 xm OG;simp only[RB]at Ef;obtain⟨bG,clock,m1,m2,m3,m4,m5⟩:=Ef;have Cz:aK<w.heap.size:=(aa6.1 k1).1;have Z8:n=bG.size:=by omega
 have OV:(!sa.isEmpty&& !bG.isEmpty&&bG.all (·.born>=n))=false:=by
  cases he:bG.isEmpty with
   |true=>simp
   |false=>
    have kC:0<bG.size:=by grind
    have:bG.all (·.born>=n)=false:=by rw[Array.all_eq_false];refine⟨0,kC,?_⟩;have:=m4 0 _ (Array.getElem?_eq_getElem kC);grind
    simp[this]
 have OX:∀r,(∀q,q=Question.mapNext (dm bG sa n).size->(do
  match(dm bG sa n)[←choose q]? with
   |some (some e)=>setObj aK (.mapIter (some mb) n (sa.push e.born) clock);pure (.tuple #[.bool true,e.key,e.val])
   |some none=>pure (.tuple #[.bool false])
   |none=>stuck "Next: no such candidate":Sem Value).run P w=r)->(Instr.next (a.eval it) false o'.type).run P w=r:=by intro r h;rw[←h _ rfl];simp only[Instr.next,xq,Sem.run_bind,getObj,Sem.run,k1,m1,Result.andThen_ok,OV,abA,abN,dm];rfl
 have ep:∃r,(Instr.next (a.eval it) false o'.type).run P w=r/\(
  (∃d i e,bG[i]? =some e/\e.born=i/\i∉sa.toList/\r=.ok (.tuple #[.bool true,e.key,e.val]) {w with drawn:=d,heap:=w.heap.setIfInBounds aK (.mapIter (some mb) n (sa.push i) n)})\/
  (∃d,(∀i,i<n->i∈sa.toList)/\r=.ok (.tuple #[.bool false]) {w with drawn:=d})):=by
  refine⟨_,OX _ (fun q hq=>by subst hq;rfl),?_⟩;have key:∀(t d:Nat),t<(dm bG sa n).size->∀r,r=((match(dm bG sa n)[t]? with
   |some (some e)=>
    do
     setObj aK (.mapIter (some mb) n (sa.push e.born) clock)
     pure (.tuple #[.bool true,e.key,e.val])
   |some none=>pure (.tuple #[.bool false])
   |none=>stuck "Next: no such candidate":Sem Value).run P {w with drawn:=d})->(
   (∃d i e,bG[i]? =some e/\e.born=i/\i∉sa.toList/\r=.ok (.tuple #[.bool true,e.key,e.val]) {w with drawn:=d,heap:=w.heap.setIfInBounds aK (.mapIter (some mb) n (sa.push i) n)})\/
   (∃d,(∀i,i<n->i∈sa.toList)/\r=.ok (.tuple #[.bool false]) {w with drawn:=d})):=by
   intro t d ht r hr;rw[Z8]at ht hr⊢;rcases lK (sa:=sa) m4 with⟨e1,e2⟩|⟨e1,e2⟩
   ·right;refine⟨d,e2,?_⟩;rw[e1]at ht hr;obtain rfl:t=0:=by grind
    rw[hr];simp
   ·left;obtain⟨c,hc⟩:∃c,(dm bG sa bG.size)[t]? =some c:=⟨_,Array.getElem?_eq_getElem ht⟩;obtain⟨i,e,rfl,f1,f2,f3⟩:=e2 t c hc;refine⟨d,i,e,f1,f2,f3,?_⟩;rw[hr,hc];have k1':w.heap[aK]? =some (Obj.mapIter (some mb) bG.size sa bG.size):=by grind
    simp[setObj,Sem.run,f2,m5,k1',-Array.getElem?_eq_getElem]
  have kC:0<(dm bG sa n).size:=by rw[Z8];rcases lK (sa:=sa) m4 with⟨e1,_⟩|⟨e1,_⟩;all_goals grind
  simp only[choose,Sem.run_bind,Sem.run];by_cases hf:(Question.mapNext (dm bG sa n).size).forced=true
  ·rw[aaD hf];exact key 0 w.drawn kC _ rfl
  ·rw[aaH hf];exact key _ _ (abY _ kC) _ rfl
 obtain⟨r,CA,Ep⟩:=ep;have zl:∀v w',r=.ok v w'->(execOp a.eval o').run P w=.ok (.value v) w':=by intro v w' e;rw[e]at CA;simp[execOp,hc,CA]
 have oa:∀c,o'.op≠ .defer c:=by rw[hc];simp
 rcases Ep with⟨d,i,e,f1,f2,f3,rfl⟩|⟨d,f1,rfl⟩
 ·refine OW.of oa (zl _ _ rfl) ?_;simp only[Oper.uponIn];rw[eQ];obtain⟨hi,_⟩:=aa6.1 f1;have zA:i<es.length:=by omega
  obtain⟨z,z1,z2,z3,z4⟩:=m3 i (es[i]).1 (es[i]).2 (aaz zA);rw[f1]at z1;simp at z1;subst z1;obtain⟨bg,hp,HR⟩:=h1 i (es[i]).1 (es[i]).2 (aaz zA) (by grind);have he:bA g w g {w with drawn:=d,heap:=w.heap.setIfInBounds aK (.mapIter (some mb) n (sa.push i) n)}:=bA.write oq rfl (hr.heap.qL oq rfl) rfl rfl rfl (by simp) (fun j hj=>by grind);have hh:ax g {w with drawn:=d,heap:=w.heap.setIfInBounds aK (.mapIter (some mb) n (sa.push i) n)} (aR σ.hp b (.bM m n (seen++[i]))):=by refine ax.write hr.heap _ oq rfl he (fun j hj=>by grind) ?_;grind[RB]
  refine hK g _ _ bg (hr.fv he hh hp ?_ ) he HR;simp only[RV];exact⟨_,rfl,by simp;exact⟨RV.A1 _,by simp only[RV];exact Rd.keeps he.keeps _ _ z3,RV.ext he _ _ z4,trivial⟩⟩
 ·refine OW.of oa (zl _ _ rfl) ?_;simp only[Oper.uponIn];rw[eQ];obtain⟨bg,hp,HR⟩:=h2 (by grind);have he:bA g w g {w with drawn:=d}:=bA.drawn g w d;refine hK g _ _ bg (hr.fv he (hr.heap.ext he (fun _ _ _ _ _=>rfl)) hp ?_ ) he HR;simp only[RV];exact⟨_,rfl,by simp;exact⟨RV.A1 _,trivial⟩⟩
end
end Fw
/-
  Freezing a box, as a rule.
-/
namespace Fw
open Go
section
variable {P:Program}{GL:bR}
theorem WO.jN{o:ab}{l:List ab}{σ bg:St}{Q:St->Prop}{v:V}(hg:aB o.guard σ.tm=some true)(he:jN (aW GL σ.tm) o.op=some v)(hp:σ.put o.dst v σ.hp=some bg)(h:WO P GL l bg Q):WO P GL (o::l) σ Q:=by
 refine WO.step fun o' ops fX lx eQ g w a hr K Q' hK=>?_
 rw[dj hr lx hg,aaD rfl];obtain⟨w',x,k1,k2,k3,k4⟩:=uD (P:=P) (a:=a) (o:=o') (cE fX (fun e=>by rw[e]at he;cases he)) he hr.ev hr.heap;refine OW.of (bJ (cE fX (fun e=>by rw[e]at he;cases he))) k1 ?_;simp only[Oper.uponIn];rw[eQ];exact hK g w' _ bg (hr.fv k4 k3 hp k2) k4 h
end
end Fw
/-
  Loops over functions: a call of yield runs a round on the slots that the loop began with; the loop itself calls the function that it goes over.
-/
namespace Fw
open Go
def iq:List (Nat×V)->List Nat->List V->List (Nat×V)|tm,p::ps,v::vs=>iq (put tm p v) ps vs|tm,_,_=>tm
def WY(P:Program)(GL:bR)(b:Nat)(args:List V)(H:ao)(Q:V->ao->Prop):Prop:=∀g w (vs:Array Value) (l:Nat),aM g w args vs.toList->ax g w H->dY GL g w->g.γ b=some (.obj l)->∃fn tmps assign body,(Instr.yield l vs).run P w=.ok (.round l fn tmps assign body) w/\RoundIn Fence.wide 0 P l fn tmps assign body w fun e w'=>∃x v g' H',e=.returned x/\Q v H'/\RV g' w' v x/\ax g' w' H'/\bA g w g' w'
section
variable {P:Program}{GL:bR}
variable {b n:Nat}{ps:List Nat}{ca cb:Code}{H:ao}{w:World}{tm:List (Nat×V)}
theorem WY.mono{args:List V}{Q Q':V->ao->Prop}(h:WY P GL b args H Q)(hq:∀v H',Q v H'->Q' v H'):WY P GL b args H Q':=by intro g w vs l h1 h2 h3 h4;obtain⟨fn,tmps,assign,body,k1,k2⟩:=h g w vs l h1 h2 h3 h4;exact⟨fn,tmps,assign,body,k1,k2.mono fun _ _ ⟨x,v,g',H',e1,e2,e3⟩=>⟨x,v,g',H',e1,hq _ _ e2,e3⟩⟩
theorem oP{g:G}(hh:ax g w H){st:ku}(hb:aA H b=some (.loop n tm ps ca cb st)):∃l r,g.γ b=some (.obj l)/\w.heap[l]? =some (.loop r)/\r.tmps.size=n/\(∀t,RV g w (get tm t) (r.tmps.getD t undef))/\r.params.toList=ps/\r.assign=ca/\r.body=cb/\st.Hw r:=by
 obtain⟨x,hx⟩:=hh.back b _ hb;obtain⟨_,y,hy,hr⟩:=hh.live b x hx;rw[hb]at hy;simp only[aat]at hy;subst hy;cases x with
  |cells=>simp only[RB]at hr
  |nil=>simp only[RB]at hr
  |obj l=>simp only[RB]at hr;obtain⟨r,h1⟩:=hr;exact⟨l,r,hx,h1⟩
theorem sd{g:G}(hh:ax g w H){l:Nat}{r r':Loop}{st:ku}(hx:g.γ b=some (.obj l))(hl:w.heap[l]? =some (.loop r))(h1:r'.tmps.size=n)(h2:∀t,RV g w (get tm t) (r'.tmps.getD t undef))(h3:r'.params.toList=ps)(h4:r'.assign=ca)(h5:r'.body=cb)(h6:st.Hw r'):bA g w g (w.putObj l (.loop r'))/\ax g (w.putObj l (.loop r')) (aR H b (.loop n tm ps ca cb st)):=by have cA:=(aa6.1 hl).1;have he:bA g w g (w.putObj l (.loop r')):=bA.write hx rfl (hh.qL hx rfl) rfl rfl rfl World.putObj_size (fun j hj=>World.putObj_heap_other hj);refine⟨he,ax.write hh _ hx rfl he (fun j hj=>World.putObj_heap_other hj) ?_⟩;simp only[RB];exact⟨r',World.putObj_heap_same cA,h1,fun t=>RV.ext he _ _ (h2 t),h3,h4,h5,h6⟩
theorem uG{g:G}{w:World}:∀{ps:List Nat}{vs:List V}{xs:List Value}{tm:List (Nat×V)}{tmps:Array Value},(∀p∈ps,p<tmps.size)->aM g w vs xs->vs.length=ps.length->(∀t,RV g w (get tm t) (tmps.getD t undef))->∀t,RV g w (get (iq tm ps vs) t) (((ps.zip xs).foldl (fun(a:Array Value)(q:Nat×Value)=>a.setIfInBounds q.1 q.2) tmps).getD t undef)
 |[],[],xs,tm,tmps,_,_,_,h=>by simpa[iq]using h
 |p::ps,v::vs,[],tm,tmps,_,hv,_,_=>by simp only[aM]at hv
 |p::ps,v::vs,x::xs,tm,tmps,hp,hv,hl,h=>by
  simp only[aM]at hv;simp only[iq,List.zip_cons_cons,abp];refine uG (fun q hq=>by rw[Array.size_setIfInBounds];exact hp q (aaZ _ hq)) hv.2 (by simpa using hl) (fun t=>?_ );rw[eY];by_cases e:t=p
  ·subst e;have:=hp t (by simp);rw[aaD rfl,aaP,ab2 this];exact hv.1
  ·rw[aaH e,aaP,abF (fun h=>e h.symm),←aaP];exact h t
 |[],_::_,_,_,_,_,_,hl,_=>by simp at hl
 |_::_,[],_,_,_,_,_,hl,_=>by simp at hl
theorem fold_size(l:List (Nat×Value))(tmps:Array Value):(l.foldl (fun(a:Array Value)(q:Nat×Value)=>a.setIfInBounds q.1 q.2) tmps).size=tmps.size:=by
 induction l generalizing tmps with
  |nil=>rfl
  |cons q l ih=>rw[abp,ih,Array.size_setIfInBounds]
def EC:Ex->ku| .normal=>.ready| .exit id=>.done (some id)| .ret=>.done none
def lL:Ex->Bool| .normal=>true|_=>false
def oQ(b:Nat)(e:Ex)(H:ao)(Q:V->ao->Prop):Prop:=∃n tm ps ca cb,aA H b=some (.loop n tm ps ca cb .busy)/\Q (.d (.bool (lL e))) (aR H b (.loop n tm ps ca cb (EC e)))
theorem WY.round{args:List V}{Q:V->ao->Prop}{ia ib:IR}(hb:aA H b=some (.loop n tm ps ca cb .ready))(hl:args.length=ps.length)(hp:ps.all (fun p=>Nat.blt p n)=true)(ha:aD P ca=some ia)(hc:aD P cb=some ib)(fa:dW ia=true)(fb:dW ib=true)(h:WC P GL ia ⟨n,iq tm ps args,H⟩ (fun e s=>
 match e with
  | .normal=>∃n1 kI mz mA mB,aA s.hp b=some (.loop n1 kI mz mA mB .ready)/\WC P GL ib ⟨s.n,s.tm,aR s.hp b (.loop n1 kI mz mA mB .busy)⟩ (fun e s=>oQ b e s.hp Q)
  |_=>False)):WY P GL b args H Q:=by
 intro g w vs l cX hh hg uC;obtain⟨l',r,Ll,hr,h1,h2,h3,h4,h5,h6⟩:=oP hh hb;rw[uC]at Ll;simp only[aat,GB.obj.injEq]at Ll;subst Ll;have hlen:=cX.length;have hps:vs.size=r.params.size:=by
  have:r.params.toList.length=ps.length:=by rw[h3]
  simp at this hlen;omega
 refine⟨r.fn,_,r.assign,r.body,run_yield hr hps,roundIn_of_wpIn (F:=Fence.wide) trivial ?_⟩;rw[h4,h5];have Bb:(r.params.zip vs).foldl (fun tmps (x:Tmp×Value)=>tmps.setIfInBounds x.1 x.2) r.tmps=(ps.zip vs.toList).foldl (fun(a:Array Value)(q:Nat×Value)=>a.setIfInBounds q.1 q.2) r.tmps:=by rw[←Array.foldl_toList,Array.toList_zip,h3]
 have hR:R GL (g.bt 0) w {tmps:=(r.params.zip vs).foldl (fun tmps (x:Tmp×Value)=>tmps.setIfInBounds x.1 x.2) r.tmps,defers:=[]} ⟨n,iq tm ps args,H⟩:=by
  refine⟨DN.nil (aaO _),?_,fun t=>?_,hh.bt _,hg.bt _⟩
  ·simp only;rw[Bb,fold_size];exact h1
  ·simp only;rw[Bb];refine RV.jJ (rm.bt g w 0) _ _ (uG (fun p Ul=>?_ ) cX hl h2 t);have:=aaJ.1 hp p Ul;rw[h1];simpa[aaU]using this
 refine wpIn_mono (h ca ha (some l) (.inl fa) (g.bt 0) w _ hR) fun e a1 w1 N6=>?_
 obtain⟨g1,vR,r1,e1,q1⟩:=N6;cases e with
  |normal=>
   obtain⟨n1,kI,mz,mA,mB,zk,EB⟩:=q1;obtain⟨l1,r',OY,CA,k1,k2,k3,k4,k5,k6⟩:=oP r1.heap zk;have qK:∀{g2:G}{w2:World},bA (g.bt 0) w g2 w2->∀{x:GB},g2.γ b=some x->x=.obj l:=by intro g2 w2 he x hx;have hd:=(hh.live b _ uC).1;have:=he.step b hd;rw[show(g.bt 0).γ b=some (.obj l)from uC,hx]at this;exact this
   have U0:l1=l:=by have:=qK e1 OY;simpa using this
   subst U0;simp only[Exit.then];refine⟨_,run_beginRound CA k6.1,?_⟩;obtain⟨xB,xF⟩:=sd (st:=.busy) (r':={r' with state:=.busy}) r1.heap OY CA k1 k2 k3 k4 k5 trivial;have Vs:R GL g1 (w1.putObj l1 (.loop {r' with state:=.busy})) a1 ⟨vR.n,vR.tm,aR vR.hp b (.loop n1 kI mz mA mB .busy)⟩:=⟨r1.defers.ext xB,r1.size,fun t=>RV.ext xB _ _ (r1.tmps t),xF,r1.cB.ext xB⟩;refine wpIn_mono (EB cb hc (some l1) (.inl fb) g1 _ a1 Vs) fun e a2 w2 HU=>?_
   obtain⟨g2,sc,r2,e2,q2⟩:=HU;have JH:bA (g.bt 0) w g2 w2:=(e1.trans xB).trans e2;have fin:∀(ex:Ex)(xG:Option Code),xG.isNone=lL ex->(∀r:Loop,(EC ex).Hw {r with state:=if xG.isNone=true then .ready else .done,pending:=xG})->oQ b ex sc.hp Q->∃v w',(Instr.endRound l1 xG).run P w2=.ok v w'/\∃x v' g' H',Ending.returned v=.returned x/\Q v' H'/\RV g' w' v' x/\ax g' w' H'/\bA g w g' w':=by
    rintro ex xG hj Vt ⟨n2,eT,ps2,ca2,cb2,A6,hq⟩;obtain⟨l2,r2',ED,Ep,m1,m2,m3,m4,m5,m6⟩:=oP r2.heap A6;have Vu:l2=l1:=by have:=qK JH ED;simpa using this
    subst Vu;obtain⟨p1,p2⟩:=sd (st:=EC ex) (r':={r2' with state:=if xG.isNone=true then .ready else .done,pending:=xG}) r2.heap ED Ep m1 m2 m3 m4 m5 (Vt _);refine⟨_,_,run_endRound xG Ep,_,.d (.bool (lL ex)),g2.bt g.base,_,rfl,hq,?_,p2.bt _,(JH.trans p1).bt g.base⟩;rw[hj];exact RV.A1 _
   cases e with
    |normal=>exact fin .normal none rfl (fun _=>⟨rfl,rfl⟩) q2
    |exit id=>exact fin (.exit id) (some (.exit id)) rfl (fun _=>⟨rfl,rfl⟩) q2
    |ret=>exact fin .ret (some .ret) rfl (fun _=>⟨rfl,rfl⟩) q2
    |goto l=>exact q2.elim
    |panic c=>exact q2.elim
    |outgrown=>exact q2.elim
  |exit id=>exact q1.elim
  |ret=>exact q1.elim
  |goto l=>exact q1.elim
  |panic c=>exact q1.elim
  |outgrown=>exact q1.elim
theorem zO{ro:Option Nat}{l:Nat}{f:FuncId}{tmps:Array Value}{assign body:Code}{R:Ending->World->Prop}(h:RoundIn Fence.wide n P l f tmps assign body w R):RoundIn (FR ro) n P l f tmps assign body w R:=by cases ro<;>exact h
theorem WO.JI{o:ab}{l:List ab}{σ:St}{Q:St->Prop}{x:aX}{args:List aX}(ho:o.op=.b_ x args)(hx:aW GL σ.tm x=.gJ b)(hb:∃n tm ps ca cb st,aA σ.hp b=some (.loop n tm ps ca cb st))(hg:aB o.guard σ.tm=some true)(h:WY P GL b (bQ (aW GL σ.tm) args) σ.hp fun v H'=>∃bg,σ.put o.dst v H'=some bg/\WO P GL l bg Q):WO P GL (o::l) σ Q:=by
 refine WO.step fun{ro} o' ops fX lx eQ g w a hr K Q' hK=>?_
 rw[dj hr lx hg,aaD rfl];rw[ho]at fX;have ld:=cE fX (by simp);obtain⟨c,hc,Ei⟩:=gX ld (.inr ⟨x,args,rfl⟩);have e_:∃t,c.callee=.value (.tmp t)/\x=.t t/\bS aw c.args.toList=some args:=by unfold dq at Ei;grind[Option.map_eq_some_iff,jG.b_.injEq]
 obtain⟨t,ht,rfl,gW⟩:=e_;have hv:=hr.ev (.tmp t) (.t t) rfl;rw[hx]at hv;simp only[RV]at hv;obtain⟨n,tm,ps,ca,cb,st,hb⟩:=hb;obtain⟨lb,r,uC,_⟩:=oP hr.heap hb;obtain⟨aK,e1,e2⟩:=hv.2 _ uC;simp only[GB.obj.injEq]at e1;subst e1;obtain⟨fn,tmps,assign,body,k1,k2⟩:=h g w (c.args.map a.eval) lb (by simpa using iA hr.ev gW) hr.heap hr.cB uC;have zl:(execOp a.eval o').run P w=.ok (.round lb fn tmps assign body) w:=by have e3:a.eval (.tmp t)=.func (.yield lb) #[] #[]:=e2;simp[execOp,hc,resolve,ht,e3,Deferred.ofValue,invoke,Sem.run_bind,Result.andThen,k1]
 refine OW.of (bJ ld) zl ?_;simp only[Oper.uponIn];refine⟨fun h=>oK h,(zO k2).mono ?_ ⟩;rintro e w' ⟨x,v,g',H',rfl,⟨bg,aR,HR⟩,hx,hh,he⟩;simp only;rw[eQ];exact hK g' w' _ bg (hr.fv he hh aR hx) he HR
theorem xH{code:Code}{f:aX}(jO:lE code=true)(hc:aD P code=some (.dC f ps ca cb)):∃x p,code=.rangeFunc x p ca cb/\aw x=some f/\p.toList=ps:=by
 cases code with
  |rangeFunc x p a b=>simp only[aD,aaB,IR.dC.injEq]at hc;obtain⟨f',h1,rfl,rfl,rfl,rfl⟩:=hc;exact⟨x,p,rfl,h1,rfl⟩
  |region=>grind[aD]
  |seq=>exact absurd hc (eG jO nofun)
  |scope=>cases jO
  |cond=>grind[aD]
  |_=>simp[aD]at hc
def eu(b n:Nat)(tm:List (Nat×V))(H:ao)(Q:Ex->St->Prop):Prop:=∃n1 kI mz mA mB st,aA H b=some (.loop n1 kI mz mA mB st)/\match st with
 | .ready=>Q .normal ⟨n,tm,aR H b (.loop n1 kI mz mA mB .over)⟩
 | .done none=>Q .ret ⟨n,tm,aR H b (.loop n1 kI mz mA mB .over)⟩
 | .done (some id)=>Q (.exit id) ⟨n,tm,aR H b (.loop n1 kI mz mA mB .over)⟩
 |_=>False
theorem WC.dC{f:aX}{σ:St}{Q:Ex->St->Prop}{zP:FuncId}{first cap:List V}(uH:List (Nat×V))(hw:∀s,get uH s=get σ.tm s\/get uH s=.any)(hf:aW GL σ.tm f=.func zP first cap)(h:WF P GL zP (first++[.gJ σ.hp.length]++cap) (aR σ.hp σ.hp.length (.loop σ.n uH ps ca cb .ready)) (fun _ H'=>eu σ.hp.length σ.n σ.tm H' Q)):WC P GL (.dC f ps ca cb) σ Q:=by
 refine WC.jP fun code jO hc ro n_ g w a hr=>?_
 obtain⟨x,p,rfl,hx,hp⟩:=xH jO hc;obtain rfl:ro=none:=n_.resolve_left (by simp[dW]);have hv:=hr.ev _ _ hx;rw[hf]at hv;simp only[RV]at hv;obtain⟨va,vc,e1,e2,e3⟩:=hv;obtain⟨zQ,JJ,OZ⟩:=bA.zI hr.heap (.deferred (some []));refine wpIn_rangeFunc fun fn _=>?_
 obtain⟨rc,Lm⟩:∃rc:Loop,rc={state:=.ready,pending:=none,fn,tmps:=a.tmps,params:=p,assign:=ca,body:=cb,defers:=w.heap.size}:=⟨_,rfl⟩;obtain⟨W1,Um⟩:∃W1,w.alloc (.deferred (some []))=W1:=⟨_,rfl⟩;rw[Um]at zQ JJ OZ;have Hq:W1.heap.size=w.heap.size+1:=by rw[←Um];simp
 have EE:gg g σ.hp.length:=JJ.fresh;have xB:bA g W1 (g.add σ.hp.length (.obj W1.heap.size)) (W1.alloc (.loop rc)):=bA.new JJ EE _ _ rfl;have iC:=zQ.trans xB;have xF:ax (g.add σ.hp.length (.obj W1.heap.size)) (W1.alloc (.loop rc)) (aR σ.hp σ.hp.length (.loop σ.n uH ps ca cb .ready)):=by
  refine ax.new JJ EE _ _ _ rfl ?_;simp only[RB];refine⟨rc,bf _ _,by rw[Lm];exact hr.size,fun t=>?_,by rw[Lm];exact hp,by rw[Lm],by rw[Lm],by rw[Lm];exact⟨rfl,rfl⟩⟩;rcases hw t with e|e
  ·rw[e,show rc.tmps=a.tmps by rw[Lm]];exact RV.ext iC _ _ (hr.tmps t)
  ·rw[e];simp only[RV]
 have ED:(g.add σ.hp.length (.obj W1.heap.size)).γ σ.hp.length=some (.obj W1.heap.size):=by simp[G.add]
 have gW:aM (g.add σ.hp.length (.obj W1.heap.size)) (W1.alloc (.loop rc)) (first++[.gJ σ.hp.length]++cap) (va++ #[Value.func (.yield W1.heap.size) #[] #[]]++vc).toList:=by simp only[acr];refine aM.append (aM.append (aM.ext iC _ _ e2) ?_ ) (aM.ext iC _ _ e3);simp only[aM,RV,ab9];refine⟨⟨rfl,.inr rfl⟩,fun x hx=>?_ ⟩;rw[ED]at hx;simp only[aat]at hx;subst hx;exact⟨_,rfl,rfl⟩
 refine⟨w.heap.size+1,[{target:=.collected w.heap.size,args:= #[]}],W1.alloc (.loop rc),{target:=.fn (.func zP) vc,args:=va++ #[.func (.yield W1.heap.size) #[] #[]]},W1.alloc (.loop rc),zP,va++ #[Value.func (.yield W1.heap.size) #[] #[]]++vc,W1.alloc (.loop rc),?_,?_,fun _ _=>trivial,?_,(fun h=>by cases h),?_ ⟩
 ·rw[←Um,Lm];exact run_enterLoop_outer _ _ _ _ _
 ·simp only[resolve,e1];rw[Hq];simp[Deferred.ofValue];rfl
 ·simp only[invoke];exact fG h.1 _ _
 ·refine callsIn_wide.2 ((h.2 _ _ _ gW xF (hr.cB.ext iC)).mono ?_ );rintro e w3 ⟨x3,v3,g3,H3,rfl,⟨n1,kI,mz,mA,mB,st,hb3,hq⟩,-,Z9,JH⟩;have he:=iC.trans JH;obtain⟨l3,r3,Lo,HT,m1,m2,m3,m4,m5,m6⟩:=oP Z9 hb3;have hl3:l3=w.heap.size+1:=by have:=JH.step σ.hp.length (.inr rfl);rw[ED,Lo]at this;simp only[GB.step,GB.obj.injEq]at this;omega
  rw[hl3]at Lo HT;have O0:r3.state≠ .busy:=by
   cases st with
    |ready=>rw[m6.1];simp
    |done e=>rw[m6.1];simp
    |busy=>exact hq.elim
    |over=>exact hq.elim
  obtain⟨N7,hh4⟩:=sd (st:=.over) (r':={r3 with state:=.exhausted}) Z9 Lo HT m1 m2 m3 m4 m5 trivial;have hD:DN g3 (w3.putObj (w.heap.size+1) (.loop {r3 with state:=.exhausted})) ([{target:=.collected w.heap.size,args:= #[]}]++a.defers):=by
   refine DN.ext (JH.trans N7) (DN.ext xB ?_ );have hd:=hr.defers.ext zQ;refine⟨hd.1,ab7.2 ⟨fun hm=>?_,hd.2.1⟩,fun d Lp=>?_ ⟩
   ·obtain⟨D,k1,k2,k3,k4⟩:=hr.defers.2.2 _ hm;simp only[Deferred.mk.injEq,Target.collected.injEq]at k1;have:=k3.1;omega
   ·rcases aaX.1 Lp with rfl|Lp
    ·exact⟨_,rfl,hr.defers.1,OZ,by rw[←Um];exact bf _ _⟩
    ·exact hd.2.2 d Lp
  have Vv:R GL g3 (w3.putObj (w.heap.size+1) (.loop {r3 with state:=.exhausted})) {a with defers:=[{target:=.collected w.heap.size,args:= #[]}]++a.defers} ⟨σ.n,σ.tm,aR H3 σ.hp.length (.loop n1 kI mz mA mB .over)⟩:=⟨hD,hr.size,fun t=>RV.ext (he.trans N7) _ _ (hr.tmps t),hh4,hr.cB.ext (he.trans N7)⟩;refine⟨r3.pending,_,run_endLoop HT O0,?_⟩;cases st with
   |ready=>
    split
    ·exact⟨g3,_,Vv,he.trans N7,hq⟩
    ·rename_i c hc;rw[m6.2]at hc;cases hc
   |busy=>exact hq.elim
   |over=>exact hq.elim
   |done e=>
    have HU:=m6.2;split
    ·rename_i hc;rw[HU]at hc;cases hc
    ·rename_i c hc;rw[HU]at hc;simp only[aat]at hc;subst hc;cases e with
      |none=>exact wpIn_ret ⟨g3,_,Vv,he.trans N7,hq⟩
      |some id=>exact wpIn_exit ⟨g3,_,Vv,he.trans N7,hq⟩
end
end Fw
/-
  What an operation looks at, and that nothing else matters to it.
-/
namespace Fw
open Go
def lM:List (Nat×Nat×aX)->List aX|[]=>[]|(_,_,x)::ps=>x::lM ps
def looks:jG->List aX| .mv x| .box _ x| .load _ _ x| .kp x| .un _ x| .conv _ x| .same x| .kq x| .N1 _ _ _ x| .cJ _ _ x| .ext x _| .len _ x| .cap x| .range _ x| .od x| .f_ x| .entry x| .rE _ x=>[x]| .pick c a b=>[c,a,b]| .alloc _| .AV| .bad=>[]| .build _ ps| .mkSlice _ _ _ ps=>lM ps| .store _ a x=>[a,x]| .bin _ x y| .eq _ _ x y| .Ca _ _ x y| .append _ _ x y=>[x,y]| .h_ _ a b=>a++b| .ic x lo hi| .nD _ x lo hi| .lD _ _ x lo hi=>x::(lo.toList++hi.toList)| .a_ _ x i| .rN _ _ x i| .jh x i| .Hv _ _ _ x i=>[x,i]| .nb _ _ _ l c=>[l,c]| .oc _ _ _ x n=>[x,n]| .clip _ x hi mx=>[x,hi,mx]| .lookup _ _ _ m k=>[m,k]| .iO _ m k x=>[m,k,x]| .nF _ xs=>xs| .call _ args=>args| .b_ x args=>x::args
def bu:V->List Nat| .ptr b _ _=>[b]| .sl b _ _ _ _=>[b]| .map b=>[b]| .iter b m=>[b,m]| .gJ b=>[b]|_=>[]
def cK(ρ:aX->V):jG->Option (FuncId×List V)
 | .call f args=>some (f,bQ ρ args)
 | .b_ x args=>
  match ρ x with
   | .func f first cap=>some (f,first++bQ ρ args++cap)
   |_=>none
 |_=>none
def mC(ρ:aX->V):jG->List Nat
 | .load _ _ a=>bu (ρ a)
 | .store _ a _=>bu (ρ a)
 | .nD _ x _ _=>bu (ρ x)
 | .lD _ _ x _ _=>bu (ρ x)
 | .a_ _ x _=>bu (ρ x)
 | .len _ x=>bu (ρ x)
 | .same x=>bu (ρ x)
 | .append _ _ x y=>bu (ρ x)++bu (ρ y)
 | .lookup _ _ _ m _=>bu (ρ m)
 | .range _ x=>bu (ρ x)
 | .eq _ _ x y=>bu (ρ x)++bu (ρ y)
 | .entry x=>bu (ρ x)
 | .iO _ m _ _=>bu (ρ m)
 | .call _ args=>(bQ ρ args).flatMap bu
 | .b_ x args=>
  match ρ x with
   | .func _ first cap=>(first++bQ ρ args++cap).flatMap bu
   |_=>[]
 |_=>[]
section
variable {ρ vV:aX->V}{H H':ao}
variable {u:V}
theorem xI{n:Nat}(h:∀b∈bu u,aA H' b=aA H b):jq H' n u=jq H n u:=by cases u<;>simp only[jq];rename_i b _ _;rw[h b (by simp[bu])]
theorem vW{n:Nat}{x:V}(h:∀b∈bu u,aA H' b=aA H b):dL H' n u x=dL H n u x:=by cases u<;>simp only[dL];rename_i b _ _;rw[h b (by simp[bu])]
theorem jv{b k:Nat}(h:aA H' b=aA H b):eL H' b k=eL H b k:=by grind[eL]
theorem zR{k:km}(h:∀b∈bu u,aA H' b=aA H b):jI H' k u=jI H k u:=by
 cases u with
  |d x=>cases x<;>rfl
  |sl b hb off len sz=>simp only[jI,jv (h b (by simp[bu]))]
  |map b=>simp only[jI,h b (by simp[bu])]
  |_=>rfl
theorem oS{sz:Nat}(h:∀b∈bu u,aA H' b=aA H b):bE H' sz u=bE H sz u:=by
 cases u with
  |d x=>cases x<;>rfl
  |sl b hb off len sz=>simp only[bE,h b (by simp[bu])]
  |_=>rfl
theorem tT{ns sz bytes:Nat}{xs:List V}(h:∀b∈bu u,aA H' b=aA H b):dM H' ns sz bytes u xs=dM H ns sz bytes u xs:=by
 cases u with
  |sl b hb off len sz=>simp only[dM,h b (by simp[bu])]
  |_=>rfl
theorem xJ(h:∀b∈bu u,aA H' b=aA H b):qJ H' u=qJ H u:=by
 cases u with
  |map b=>simp only[qJ,h b (by simp[bu])]
  |_=>rfl
theorem jw:∀{ps:List (Nat×Nat×aX)}{cs:List V},(∀x∈lM ps,vV x=ρ x)->eR vV cs ps=eR ρ cs ps|[],_,_=>rfl|(off,size,x)::ps,cs,h=>by simp only[eR];rw[h x (by simp[lM]),jw (fun y hy=>h y (by simp[lM,hy]))]
theorem jx:∀{l:List aX},(∀x∈l,vV x=ρ x)->bQ vV l=bQ ρ l|[],_=>rfl|x::l,h=>by simp only[bQ];rw[h x (by simp),jx (fun y hy=>h y (by simp[hy]))]
theorem kJ{len:Nat}{lo hi:Option aX}(h:∀x∈lo.toList++hi.toList,vV x=ρ x):bounds vV len lo hi=bounds ρ len lo hi:=by cases lo<;>cases hi<;>simp only[bounds]<;>simp at h<;>simp[h]
theorem CB{k:pS}{v:V}(hn:∀b h,b∈bu u++bu v->vC H' b h=vC H b h):Hj H' k u v=Hj H k u v:=by
 have hd:∀(p:D)(v:V),Hj H' k (.d p) v=Hj H k (.d p) v:=by intro p v;rcases p with _|_|_|(_|⟨e,es⟩)<;>cases v<;>first|(cases k<;>rfl)|(rename_i q;rcases q with _|_|_|(_|⟨e',OH⟩)<;>cases k<;>rfl)
 have Hm:∀(p:D)(v:V),Hj H' k v (.d p)=Hj H k v (.d p):=by
  intro p v;cases v with
   |d q=>grind
   |_=>rcases p with _|_|_|(_|⟨e,es⟩)<;>cases k<;>rfl
 cases u with
  |d p=>grind
  |_=>
   cases v with
    |d p=>grind
    |_=>cases k<;>first|rfl|exact hn _ _ (by simp[bu])
theorem zS{op:jG}(h1:∀x∈looks op,vV x=ρ x):jN vV op=jN ρ op:=by cases op<;>first|rfl|(simp only[looks]at h1;simp only[jN];rw[jw h1])|simp_all[looks,aaX,aby,acd,forall_eq_or_imp,forall_eq,jN]
theorem CD{op:jG}{ns:Nat}(h1:∀x∈looks op,vV x=ρ x)(h2:∀b∈mC ρ op,aA H' b=aA H b):bw vV H' ns op=bw ρ H ns op:=by
 cases op<;>simp only[looks,aaX,aby,acd,forall_eq_or_imp,forall_eq,aa8]at h1<;>simp only[mC]at h2<;>simp only[bw];case mv=>rw[h1]
 case pick=>grind
 case box=>rw[h1]
 case build=>rw[jw h1]
 case mkSlice=>rw[jw h1]
 case load=>rw[h1,xI h2]
 case store=>rw[h1.1,h1.2,vW h2]
 case kp=>rw[h1]
 case bin=>grind
 case eq neg k x y=>
  rw[h1.1,h1.2];have hn:∀b h,b∈bu (ρ x)++bu (ρ y)->vC H' b h=vC H b h:=fun b h hb=>by grind[vC]
  rw[CB hn]
 case Ca=>grind
 case un=>rw[h1]
 case conv=>rw[h1]
 case same x=>rw[h1];split<;>first|rfl|(rename_i e;rw[oS (by rw[←e];exact h2)])
 case kq=>rw[h1]
 case nb=>grind
 case oc=>grind
 case clip=>grind
 case cap=>rw[h1]
 case h_=>rw[jx (fun x hx=>h1 x (.inl hx)),jx (fun x hx=>h1 x (.inr hx))]
 case ic x lo hi=>
  rw[h1.1];have hb:∀len,bounds vV len lo hi=bounds ρ len lo hi:=fun len=>kJ (fun x hx=>h1.2 x (aa8.1 hx))
  grind
 case nD sz x lo hi=>
  rw[h1.1];have hb:∀len,bounds vV len lo hi=bounds ρ len lo hi:=fun len=>kJ (fun x hx=>h1.2 x (aa8.1 hx))
  simp only[hb];split<;>first|rfl|(rename_i b _ _ _ _ e;rw[jv (h2 b (by grind[bu]))])
 case lD n sz x lo hi=>
  rw[h1.1];have hb:∀len,bounds vV len lo hi=bounds ρ len lo hi:=fun len=>kJ (fun x hx=>h1.2 x (aa8.1 hx))
  simp only[hb];split<;>first|rfl|(rename_i b _ _ e;rw[jv (h2 b (by grind[bu]))])
 case N1=>rw[h1]
 case cJ=>rw[h1]
 case a_ sz x i=>
  rw[h1.1,h1.2];split
  ·rfl
  ·split<;>first|rfl|(rename_i b _ _ _ _ e;rw[jv (h2 b (by grind[bu]))])
 case rN=>grind
 case jh=>grind
 case Hv=>grind
 case ext=>rw[h1]
 case len k x=>rw[h1];cases k<;>simp only[]<;>first|rfl|rw[zR h2]
 case append sz bytes x y=>
  have ha:∀xs,dM H' ns sz bytes (ρ x) xs=dM H ns sz bytes (ρ x) xs:=fun xs=>tT (fun b hb=>h2 b (by simp[hb]))
  rw[h1.1,h1.2,oS (fun b hb=>h2 b (by simp[hb]))];grind
 case lookup=>rw[h1.1,h1.2,xJ h2]
 case iO kk m k x=>
  rw[h1.1,h1.2.1,h1.2.2];split
  ·rename_i b kd e _;rw[h2 b (by grind[bu])]
  ·rfl
 case rE=>rw[h1]
 case entry x=>
  rw[h1];split
  ·rename_i b m e;rw[h2 b (by grind[bu]),h2 m (by grind[bu])]
  ·rfl
 case range m x=>
  rw[h1];cases m
  ·rfl
  ·simp;split
   ·rename_i b e;rw[h2 b (by grind[bu])]
   ·rfl
 case nF=>rw[jx h1]
end
end Fw
/-
  A region whose order is drawn: one run in the text's order, and a look that no two operations whose order is open meet.
-/
namespace Fw
open Go
def PC(P:Program)(GL:bR)(f:FuncId)(args:List V)(v:V):Prop:=an P f=true/\∀g w (vs:Array Value),aM g w args vs.toList->(∀k,g.fo k->k<w.heap.size)->(∀b x k,g.γ b=some x->x.own=some k->k<w.heap.size)->dY GL g w->Calls P f vs w fun e w'=>∃x,e=.returned x/\RV g w' v x/\bA g w g w'/\∀b y k,g.γ b=some y->y.own=some k->w'.heap[k]? =w.heap[k]?
def zT:jG->Option (FuncId×List aX)| .call f args=>some (f,args)|_=>none
def iS(GL:bR)(tm:List (Nat×V))(H:ao)(ns:Nat)(o:ab)(cv:Option V):Option (V×Wr):=match aB o.guard tm with
 |none=>none
 |some false=>some (.tuple [],none)
 |some true=>
  match cK (aW GL tm) o.op with
   |some _=>cv.map fun v=>(v,none)
   |none=>
    match cv with
     |some _=>(jN (aW GL tm) o.op).map fun v=>(v,none)
     |none=>bw (aW GL tm) H ns o.op
inductive CV where
 |v (x:V)
 |own (cs:List V) (n sz:Nat)
def nK(GL:bR)(tm:List (Nat×V))(H:ao)(ns:Nat)(o:ab):Option CV->Option (V×Wr)
 |none=>iS GL tm H ns o none
 |some (.v x)=>iS GL tm H ns o (some x)
 |some (.own cs n sz)=>
  match aB o.guard tm,cK (aW GL tm) o.op with
   |some true,some _=>some (.sl ns cs.length 0 n sz,some (ns,.cells cs))
   |_,_=>none
theorem EF{GL:bR}{tm:List (Nat×V)}{H:ao}{ns:Nat}{o:ab}(c:Option V):nK GL tm H ns o (c.map .v)=iS GL tm H ns o c:=by cases c<;>rfl
def St.iF(σ:St)(dst:Option Nat)(v:V)(H:ao):St:=match dst with
 |none=>⟨σ.n,σ.tm,H⟩
 |some d=>⟨σ.n,Fw.put σ.tm d v,H⟩
def rp(GL:bR)(base:Nat)(qc:Nat->Option CV):Nat->List ab->St->Option (List ((V×Wr)×List Nat))
 |_,[],_=>some []
 |i,o::l,σ=>
  match nK GL σ.tm σ.hp (base+i) o (qc i)with
   |none=>none
   |some r=>
    match rp GL base qc (i+1) l (σ.iF o.dst r.1 (bn σ.hp r.2))with
     |none=>none
     |some rs=>some ((r,mC (aW GL σ.tm) o.op)::rs)
def aP(K:Nat->Bool):Nat->List ab->List ((V×Wr)×List Nat)->St->St|i,o::l,r::rs,σ=>aP K (i+1) l rs (bif K i then σ.iF o.dst r.1.1 (bn σ.hp r.1.2)else σ)|_,_,_,σ=>σ
def cg:Wr->Option Nat|some (b,_)=>some b|none=>none
def O1:aX->Option Nat| .t n=>some n|_=>none
def gY(o:ab):List Nat:=(looks o.op).filterMap O1++(match o.guard with|some (d,_)=>[d]|none=>[])
structure oU where
 dst:Option Nat
 lk:List Nat
 rd:List Nat
 ws:Option Nat
 after:List Nat
 deriving Inhabited
def iT:List ab->List ((V×Wr)×List Nat)->List oU|o::l,r::rs=>{dst:=o.dst,lk:=gY o,rd:=r.2,ws:=cg r.1.2,after:=o.after}::iT l rs|_,_=>[]
def zU(x:Option Nat)(l:List Nat):Bool:=match x with
 |some n=>l.any (Nat.beq n)
 |none=>false
def ng(x y:Option Nat):Bool:=match x,y with
 |some n,some m=>Nat.beq n m
 |_,_=>false
def rq(x y:oU):Bool:=zU x.dst y.lk||zU y.dst x.lk||ng x.dst y.dst||zU x.ws y.rd||zU y.ws x.rd||ng x.ws y.ws
def qQ:Option Nat->Nat|none=>0|some t=>Nat.shiftLeft 1 t
def nh:List Nat->Nat|[]=>0|t::l=>Nat.lor (Nat.shiftLeft 1 t) (nh l)
def ni(e:Nat):List (Nat×Nat)->Nat|[]=>0|(i,m)::l=>bif Nat.beq i e then m else ni e l
def kK(acc:List (Nat×Nat)):List Nat->Nat|[]=>0|e::es=>Nat.lor (Nat.lor (Nat.shiftLeft 1 e) (ni e acc)) (kK acc es)
def dO:Nat->List (Nat×Nat)->List ab->List Nat|_,_,[]=>[]|j,acc,o::l=>kK acc o.after::dO (j+1) ((j,kK acc o.after)::acc) l
def nj:Nat->List ab->Bool|_,[]=>true|j,o::l=>o.after.all (Nat.blt · j)&&nj (j+1) l
def Bc(W L R:Nat):List (Nat×Nat×Nat)->Bool|[]=>true|(i,w,k)::zB=>(Nat.beq (Nat.lor (Nat.land w (Nat.lor L W)) (Nat.land k W)) 0||Nat.beq (Nat.land (Nat.shiftRight R i) 1) 1)&&Bc W L R zB
def JK:Nat->List (Nat×Nat×Nat)->List (Nat×Nat)->List Nat->Bool|_,_,[],_=>true|_,_,_,[]=>true|j,pre,(W,L)::ms,R::rs=>Bc W L R pre&&JK (j+1) ((j,W,L)::pre) ms rs
def Bd(l:List ab):List (Nat×Nat):=l.map fun o=>(qQ o.dst,nh (gY o))
def CE(rs:List ((V×Wr)×List Nat)):List (Nat×Nat):=rs.map fun r=>(qQ (cg r.1.2),nh r.2)
def nL(l:List ab):Bool:=nj 0 l&&JK 0 [] (Bd l) (dO 0 [] l)
def tU:List ((V×Wr)×List Nat)->Bool
 |[]=>true
 |r::rs=>
  match r.1.2 with
   |none=>tU rs
   |some _=>false
def fH(l:List ab)(rs:List ((V×Wr)×List Nat)):Bool:=nL l&&(tU rs||JK 0 [] (CE rs) (dO 0 [] l))
section
variable {P:Program}{GL:bR}
variable {H:ao}
theorem vX{x:Option Nat}{l:List Nat}:zU x l=true↔∃n,x=some n/\n∈l:=by
 cases x with
  |none=>simp[zU]
  |some n=>simp_all[zU,List.any_eq_true,aat,exists_eq_left']
theorem gw{x y:Option Nat}:ng x y=true↔∃n,x=some n/\y=some n:=by cases x<;>cases y<;>simp[ng];grind
theorem lN{σ:St}{dst:Option Nat}{v:V}{t:Nat}:get (σ.iF dst v H).tm t=if dst=some t then v else get σ.tm t:=by cases dst<;>grind[St.iF,eY,Option.some.injEq]
theorem mD{wr:Wr}{b:Nat}:aA (bn H wr) b=match wr with|some (s,y)=>if b=s then some y else aA H b|none=>aA H b:=by grind[bn,fm]
theorem se{K K':Nat->Bool}{t:Nat}:∀{l:List ab}{rs:List ((V×Wr)×List Nat)}{i:Nat}{σ bg:St},get σ.tm t=get bg.tm t->(∀j o,l[j]? =some o->o.dst=some t->K (i+j)=K' (i+j))->get (aP K i l rs σ).tm t=get (aP K' i l rs bg).tm t
 |[],_,_,_,_,h,_=>by grind[aP]
 |_::_,[],_,_,_,h,_=>by grind[aP]
 |o::l,r::rs,i,σ,bg,h,hk=>by
  simp only[aP];refine se ?_ (fun j o' h1 h2=>by have:=hk (j+1) o' (by grind) h2;grind);by_cases hd:o.dst=some t
  ·have:=hk 0 o rfl hd;simp at this;rw[this];cases K' i with
    |true=>simp_all[aaw,lN]
    |false=>exact h
  grind[lN]
theorem sf{K K':Nat->Bool}{b:Nat}:∀{l:List ab}{rs:List ((V×Wr)×List Nat)}{i:Nat}{σ bg:St},aA σ.hp b=aA bg.hp b->(∀j r,rs[j]? =some r->cg r.1.2=some b->K (i+j)=K' (i+j))->aA (aP K i l rs σ).hp b=aA (aP K' i l rs bg).hp b
 |[],_,_,_,_,h,_=>by grind[aP]
 |_::_,[],_,_,_,h,_=>by grind[aP]
 |o::l,r::rs,i,σ,bg,h,hk=>by
  simp only[aP];have JL:∀s:St,(s.iF o.dst r.1.1 (bn s.hp r.1.2)).hp=bn s.hp r.1.2:=by intro s;cases o.dst<;>rfl
  refine sf ?_ (fun j r' h1 h2=>by have:=hk (j+1) r' (by grind) h2;grind);by_cases hd:cg r.1.2=some b
  ·have:=hk 0 r rfl hd;simp at this;rw[this];cases K' i with
    |true=>simp_all[aaw,mD,cg]
    |false=>exact h
  ·have fp:∀(c:Bool)(s:St),aA (bif c then s.iF o.dst r.1.1 (bn s.hp r.1.2)else s).hp b=aA s.hp b:=by
    intro c s;cases c with
     |false=>rfl
     |true=>simp only[aaw,JL,mD];grind[cg,Option.some.injEq]
   rw[fp,fp];exact h
theorem oW{K:Nat->Bool}:∀{l:List ab}{rs:List ((V×Wr)×List Nat)}{i:Nat}{σ:St},(aP K i l rs σ).n=σ.n
 |[],_,_,_=>by simp[aP]
 |_::_,[],_,_=>by simp[aP]
 |o::l,r::rs,i,σ=>by simp only[aP];rw[oW];cases K i<;>simp[St.iF];cases o.dst<;>rfl
theorem lO{b:Nat}{y:bW}(h:b<H.length):(aR H b y).length=H.length:=by
 induction H generalizing b with
  |nil=>simp at h
  |cons z H ih=>cases b<;>simp[aR];grind
theorem xK{base:Nat}{qc:Nat->Option CV}:∀{l:List ab}{i0:Nat}{σ:St}{rs:List ((V×Wr)×List Nat)},rp GL base qc i0 l σ=some rs->rs.length=l.length/\∀i o,l[i]? =some o->∃r,rs[i]? =some r/\nK GL (aP (fun j=>decide (j<i0+i)) i0 l rs σ).tm (aP (fun j=>decide (j<i0+i)) i0 l rs σ).hp (base+(i0+i)) o (qc (i0+i))=some r.1/\r.2=mC (aW GL (aP (fun j=>decide (j<i0+i)) i0 l rs σ).tm) o.op
 |[],i0,σ,rs,h=>by grind[rp]
 |o::l,i0,σ,rs,h=>by
  simp only[rp]at h;split at h
  ·cases h
  ·rename_i r hr;split at h
   ·cases h
   ·rename_i Cs N8;simp at h;subst h;obtain⟨h1,h2⟩:=xK N8;refine⟨by simp[h1],fun i o' tV=>?_ ⟩;have JM:∀(l:List ab)(rs:List ((V×Wr)×List Nat))(k:Nat)(σ:St),(∀j,k<=j->(decide (j<i0))=false)->aP (fun j=>decide (j<i0)) k l rs σ=σ:=by
     intro l rs k σ hk;induction l generalizing rs k with
      |nil=>simp[aP]
      |cons o l ih=>
       cases rs with
        |nil=>simp[aP]
        |cons r rs=>simp only[aP,hk k (aaE _),aaK];grind
    cases i with
     |zero=>simp_all
     |succ i=>
      simp at tV;obtain⟨r',h3,h4,h5⟩:=h2 i o' tV;have e:i0+(i+1)=i0+1+i:=by omega
      refine⟨r',by grind,?_,?_ ⟩
      ·simp only[aP,e,show decide (i0<i0+1+i)=true by simp;omega,aaw];exact h4
      ·simp only[aP,e,show decide (i0<i0+1+i)=true by simp;omega,aaw];exact h5
end
end Fw
/-
  A region whose order is drawn: whatever the order, the end is that of the text's order.
-/
namespace Fw
open Go
section
variable {P:Program}{GL:bR}
variable {H:ao}{w:World}{ns i:Nat}{a:Act}{σ:St}{o:ab}{f:FuncId}{K:Nat->Bool}{tm aZ:List (Nat×V)}{op:jG}{v:V}{l:List ab}{rs:List ((V×Wr)×List Nat)}{ρ:aX->V}{o':Oper}
theorem R.congr{g:G}{bg:St}(h:R GL g w a σ)(hn:bg.n=σ.n)(ht:∀t,get bg.tm t=get σ.tm t)(hh:bg.hp=σ.hp):R GL g w a bg:=⟨h.defers,by rw[h.size,hn],fun t=>by rw[ht t];exact h.tmps t,by rw[hh];exact h.heap,h.cB⟩
theorem R.drawn{g:G}{w:World}{a:Act}{σ:St}(h:R GL g w a σ)(n:Nat):R GL g {w with drawn:=n} a σ:=⟨h.defers.ext (bA.drawn g w n),h.size,fun t=>RV.ext (bA.drawn g w n) _ _ (h.tmps t),h.heap.ext (bA.drawn g w n) (fun _ _ _ _ _=>rfl),h.cB.ext (bA.drawn g w n)⟩
theorem xL(H:ao)(n b:Nat):aA (H++List.replicate n none) b=aA H b:=by
 induction H generalizing b with
  |nil=>
   simp;induction n generalizing b with
    |zero=>rfl
    |succ n ih=>cases b<;>simp[abP,aA];grind[aA]
  |cons y H ih=>cases b<;>simp[aA,ih]
theorem ax.pad{g:G}(h:ax g w H)(n:Nat):ax g w (H++List.replicate n none):=⟨fun b hb=>by have:=h.cr b hb;simp;omega,fun b x hx=>by obtain⟨h1,y,h2,h3⟩:=h.live b x hx;grind[xL],fun b y hy=>h.back b y (by rwa[xL]at hy),h.inj,h.fo⟩
theorem R.pad{g:G}(h:R GL g w a σ)(n:Nat):R GL g w a ⟨σ.n,σ.tm,σ.hp++List.replicate n none⟩:=⟨h.defers,h.size,h.tmps,h.heap.pad n,h.cB⟩
theorem xM:∀{H H':ao},H.length=H'.length->(∀b,aA H b=aA H' b)->H=H'
 |[],[],_,_=>rfl
 |x::H,y::H',hl,h=>by have h0:x=y:=h 0;have ih:H=H':=xM (by grind) (fun b=>h (b+1));rw[h0,ih]
 |[],_::_,hl,_=>by simp at hl
 |_::_,[],hl,_=>by simp at hl
structure zV (ds:List oU) (rl:Nat->Nat->Prop):Prop where
 before:∀(j:Nat)(d:oU),ds[j]? =some d->∀e∈d.after,e<j
 reach:∀(j i:Nat),rl j i->∃d,ds[j]? =some d/\∃e∈d.after,i=e\/rl e i
 meets:∀(i j:Nat)(x y:oU),i<j->ds[i]? =some x->ds[j]? =some y->rq x y=true->rl j i
theorem zW(i j:Nat):Nat.testBit (Nat.shiftLeft 1 i) j=decide (i=j):=by
 show Nat.testBit (1<<<i) j=_;rw[Nat.testBit_shiftLeft];by_cases h:i=j
 ·grind
 ·by_cases h2:j>=i
  ·have:j - i≠0:=by omega
   have e:Nat.testBit 1 (j - i)=false:=Nat.testBit_lt_two_pow (Nat.one_lt_two_pow this);grind
  grind
theorem JN(a b j:Nat):Nat.testBit (Nat.lor a b) j=(Nat.testBit a j||Nat.testBit b j):=Nat.testBit_or a b j
theorem Lq(a b j:Nat):Nat.testBit (Nat.land a b) j=(Nat.testBit a j&&Nat.testBit b j):=Nat.testBit_and a b j
theorem oY{t:Nat}:∀{l:List Nat},Nat.testBit (nh l) t=true↔t∈l
 |[]=>by simp[nh]
 |s::l=>by simp only[nh,JN,zW,abq,aaF,oY (l:=l),aaX];grind
theorem lP{t:Nat}{x:Option Nat}:Nat.testBit (qQ x) t=true↔x=some t:=by cases x<;>grind[qQ,zW]
theorem cY:∀{l:List ab}{j:Nat}{acc:List (Nat×Nat)},(dO j acc l).length=l.length|[],_,_=>rfl|_::l,_,_=>by simp[dO,cY (l:=l)]
theorem sg{acc:List (Nat×Nat)}{i:Nat}:∀{es:List Nat},Nat.testBit (kK acc es) i=true->∃e∈es,i=e\/Nat.testBit (ni e acc) i=true
 |[],h=>by simp[kK]at h
 |e::es,h=>by
  simp only[kK,JN,zW,abq,aaF]at h;rcases h with(h|h)|h
  ·grind
  ·grind
  ·obtain⟨e',h1,h2⟩:=sg h;grind
theorem kL:∀{l:List ab}{j0:Nat}{acc:List (Nat×Nat)},nj j0 l=true->(∀e m,ni e acc=m->m≠0->e<j0)->∀k (o:ab),l[k]? =some o->∀i,Nat.testBit ((dO j0 acc l).getD k 0) i=true->∃e∈o.after,i=e\/(e<j0/\Nat.testBit (ni e acc) i=true)\/(j0<=e/\Nat.testBit ((dO j0 acc l).getD (e - j0) 0) i=true)
 |[],_,_,_,_,k,o,ho,_,_=>by simp at ho
 |o::l,j0,acc,hb,Vw,0,o',ho,i,hi=>by simp at ho;subst ho;simp at hi;obtain⟨e,h1,h2⟩:=sg hi;grind
 |o::l,j0,acc,hb,Vw,k+1,o',ho,i,hi=>by
  simp only[nj,aas]at hb;simp at ho;simp only[dO,acs]at hi⊢;have O2:∀e m,ni e ((j0,kK acc o.after)::acc)=m->m≠0->e<j0+1:=by
   intro e m hm fp;simp only[ni]at hm;by_cases he:j0=e
   ·omega
   ·rw[dv he,aaK]at hm;grind
  obtain⟨e,h1,h2⟩:=kL (l:=l) hb.2 O2 k o' ho i hi;refine⟨e,h1,?_⟩;rcases h2 with h2|⟨h2,h3⟩|⟨h2,h3⟩
  ·grind
  ·simp only[ni]at h3;by_cases he:j0=e
   ·grind
   ·rw[dv he,aaK]at h3;grind
  grind
theorem kM:∀{l:List ab}{j0:Nat},nj j0 l=true->∀(k:Nat)(o:ab),l[k]? =some o->∀e∈o.after,e<j0+k
 |[],_,_,k,o,ho,_,_=>by simp at ho
 |o::l,j0,hb,0,o',ho,e,he=>by simp_all[nj,aas,aaJ,aaU]
 |o::l,j0,hb,k+1,o',ho,e,he=>by simp at ho;simp only[nj,aas]at hb;have:=kM hb.2 k o' ho e he;omega
def EG(W L w k:Nat):Prop:=∃t,(Nat.testBit w t=true/\(Nat.testBit L t=true\/Nat.testBit W t=true))\/(Nat.testBit k t=true/\Nat.testBit W t=true)
theorem sh{W L R:Nat}:∀{pre:List (Nat×Nat×Nat)},Bc W L R pre=true->∀i w k,(i,w,k)∈pre->EG W L w k->Nat.testBit R i=true
 |[],_,i,w,k,h,_=>by simp at h
 |(i0,w0,k0)::zB,hr,i,w,k,h,hc=>by
  simp only[Bc,aas,abq]at hr;rcases aaX.1 h with h|h
  ·simp at h;obtain⟨rfl,rfl,rfl⟩:=h;rcases hr.1 with h1|h1
   ·exfalso;have h0:=aav h1;obtain⟨t,ht⟩:=hc;have:Nat.testBit (Nat.lor (Nat.land w (Nat.lor L W)) (Nat.land k W)) t=true:=by simp;exact ht
    grind
   ·have h0:=aav h1;have e:Nat.testBit R i=decide (Nat.land (Nat.shiftRight R i) 1=1):=by show((1&&&(R>>>i))!=0)=decide ((R>>>i)&&&1=1);grind
    grind
  ·exact sh hr.2 i w k h hc
theorem si:∀{ms:List (Nat×Nat)}{rs:List Nat}{j0:Nat}{pre:List (Nat×Nat×Nat)},JK j0 pre ms rs=true->ms.length<=rs.length->∀(j:Nat)(W L:Nat),ms[j]? =some (W,L)->(∀i w k,(i,w,k)∈pre->EG W L w k->Nat.testBit (rs.getD j 0) i=true)/\∀(i:Nat)(w k:Nat),i<j->ms[i]? =some (w,k)->EG W L w k->Nat.testBit (rs.getD j 0) (j0+i)=true
 |[],_,_,_,_,_,j,W,L,h=>by simp at h
 |(W0,L0)::ms,[],_,_,_,hl,j,W,L,h=>by simp at hl
 |(W0,L0)::ms,R::rs,j0,pre,hg,hl,0,W,L,h=>by simp at h;obtain⟨rfl,rfl⟩:=h;simp only[JK,aas]at hg;exact⟨fun i w k hm hc=>by simpa using sh hg.1 i w k hm hc,fun i w k hi=>by omega⟩
 |(W0,L0)::ms,R::rs,j0,pre,hg,hl,j+1,W,L,h=>by simp at h;simp only[JK,aas]at hg;obtain⟨h1,h2⟩:=si hg.2 (by grind) j W L h;refine⟨fun i w k hm hc=>by grind,fun i w k hi hm hc=>?_ ⟩;cases i<;>grind
theorem p3:∀{rs:List ((V×Wr)×List Nat)},tU rs=true->∀r∈rs,cg r.1.2=none
 |[],_,r,h=>by simp at h
 |x::rs,hn,r,h=>by
  simp only[tU]at hn;split at hn
  ·rename_i hx;rcases aaX.1 h with rfl|h
   ·rw[hx];rfl
   ·exact p3 hn r h
  ·cases hn
theorem fw:∀{l:List ab}{rs:List ((V×Wr)×List Nat)}{i:Nat}{o:ab}{r:(V×Wr)×List Nat},l[i]? =some o->rs[i]? =some r->(iT l rs)[i]? =some {dst:=o.dst,lk:=gY o,rd:=r.2,ws:=cg r.1.2,after:=o.after}
 |[],_,_,_,_,h,_=>by simp at h
 |_::_,[],_,_,_,_,h=>by simp at h
 |o::l,r::rs,0,_,_,h1,h2=>by grind[iT]
 |o::l,r::rs,i+1,_,_,h1,h2=>by simp at h1 h2;simp[iT];exact fw h1 h2
theorem iL:∀{l:List ab}{rs:List ((V×Wr)×List Nat)}{i:Nat}{d:oU},(iT l rs)[i]? =some d->∃o r,l[i]? =some o/\rs[i]? =some r/\d={dst:=o.dst,lk:=gY o,rd:=r.2,ws:=cg r.1.2,after:=o.after}
 |[],_,_,_,h=>by simp[iT]at h
 |_::_,[],_,_,h=>by simp[iT]at h
 |o::l,r::rs,0,d,h=>by grind[iT]
 |o::l,r::rs,i+1,d,h=>by simp[iT]at h;simpa using iL h
theorem xN(h:fH l rs=true)(hlen:rs.length=l.length):zV (iT l rs) (fun j i=>Nat.testBit ((dO 0 [] l).getD j 0) i=true):=by
 simp only[fH,nL,aas,abq]at h;obtain⟨⟨h1,h2⟩,h3⟩:=h;refine⟨fun j d hd e he=>?_,fun j i hi=>?_,fun i j x y Hl hx hy hm=>?_ ⟩
 ·obtain⟨o,r,ho,hr,rfl⟩:=iL hd;have:=kM h1 j o ho e he;omega
 ·have hj:j<l.length:=by
   rcases abu j l.length with h|h
   ·exact h
   ·rw[abh,List.getElem?_eq_none (by grind[cY])]at hi;simp at hi
  have ho:l[j]? =some l[j]:=aaz hj;have hr:rs[j]? =some (rs[j]'(by omega)):=aaz _;obtain⟨e,h4,h5⟩:=kL h1 (fun e m hm fp=>by grind[ni]) j _ ho i hi;refine⟨_,fw ho hr,e,h4,?_⟩;grind
 ·obtain⟨o,r,ho,hr,rfl⟩:=iL hx;obtain⟨o',r',tV,ur,rfl⟩:=iL hy;have k1:=(si h2 (by simp[Bd,cY]) j (qQ o'.dst) (nh (gY o')) (by simp[Bd,tV])).2 i (qQ o.dst) (nh (gY o)) Hl (by simp[Bd,ho]);simp at k1;simp only[rq,abq,vX,gw]at hm;have dyn:(∃b,(cg r.1.2=some b/\(b∈r'.2\/cg r'.1.2=some b))\/(b∈r.2/\cg r'.1.2=some b))->Nat.testBit ((dO 0 [] l).getD j 0) i=true:=by
   rintro⟨b,hb⟩;rcases h3 with h3|h3
   ·have e1:=p3 h3 r (aau hr);have e2:=p3 h3 r' (aau ur);grind
   ·have k2:=(si h3 (by grind[CE,cY]) j (qQ (cg r'.1.2)) (nh r'.2) (by simp[CE,ur])).2 i (qQ (cg r.1.2)) (nh r.2) Hl (by simp[CE,hr]);simp at k2;refine k2 ⟨b,?_⟩;grind[lP,oY]
  rcases hm with((((⟨t,e1,e2⟩|⟨t,e1,e2⟩)|⟨t,e1,e2⟩)|⟨t,e1,e2⟩)|⟨t,e1,e2⟩)|⟨t,e1,e2⟩
  ·exact k1 ⟨t,.inl ⟨lP.2 e1,.inl (oY.2 e2)⟩⟩
  ·exact k1 ⟨t,.inr ⟨oY.2 e2,lP.2 e1⟩⟩
  ·exact k1 ⟨t,.inl ⟨lP.2 e1,.inr (lP.2 e2)⟩⟩
  all_goals grind
def lQ(l:List ab)(K:Nat->Bool):Prop:=∀(j:Nat)(o:ab),l[j]? =some o->K j=true->∀e∈o.after,K e=true
theorem lQ.reach{rl:Nat->Nat->Prop}(hl:zV (iT l rs) rl)(hK:lQ l K):∀(j i:Nat),rl j i->K j=true->K i=true:=by
 intro j;induction j using Nat.strongRecOn with
  |_ j ih=>
   intro i hr hj;obtain⟨d,hd,e,he,h⟩:=hl.reach j i hr;obtain⟨o,r,ho,_,rfl⟩:=iL hd;have Vx:=hK j o ho hj e he;rcases h with rfl|h
   ·exact Vx
   ·exact ih e (hl.before j _ hd e he) i h Vx
theorem agree{rl:Nat->Nat->Prop}(hl:zV (iT l rs) rl)(hK:lQ l K)(ho:l[i]? =some o)(hi:K i=false)(vY:∀e∈o.after,K e=true){j:Nat}{x y:oU}(hx:(iT l rs)[i]? =some x)(hy:(iT l rs)[j]? =some y)(hm:rq x y=true)(Vo:rq y x=true):K j=decide (j<i):=by
 rcases Nat.lt_trichotomy j i with hj|hj|hj
 ·simp only[hj,decide_true];have hr:=hl.meets j i y x hj hy hx Vo;obtain⟨d,hd,e,he,h⟩:=hl.reach i j hr;obtain⟨o',r,tV,_,rfl⟩:=iL hd;rw[ho]at tV;simp at tV;subst tV;rcases h with rfl|h
  ·grind
  ·exact lQ.reach hl hK e j h (vY e he)
 ·grind
 ·have hr:=hl.meets i j x y hj hx hy hm;have:decide (j<i)=false:=by simp;omega
  rw[this];cases hk:K j with
   |false=>rfl
   |true=>rw[lQ.reach hl hK j i hr hk]at hi;cases hi
theorem CF(x y:oU):rq x y=rq y x:=by
 have h1:ng x.dst y.dst=ng y.dst x.dst:=by rw[aa_,gw,gw];grind
 have h2:ng x.ws y.ws=ng y.ws x.ws:=by rw[aa_,gw,gw];grind
 unfold rq;grind
theorem kN{gd:Option (Nat×Bool)}(h:∀d w,gd=some (d,w)->get aZ d=get tm d):aB gd aZ=aB gd tm:=by cases gd<;>grind[aB]
theorem p_{x:aX}(h:∀t,O1 x=some t->get aZ t=get tm t):aW GL aZ x=aW GL tm x:=by
 cases x with
  |t n=>exact h n rfl
  |_=>rfl
theorem kO{ρ vV:aX->V}:∀{l:List aX},(∀x∈l,vV x=ρ x)->bQ vV l=bQ ρ l|[],_=>rfl|x::l,h=>by simp only[bQ];rw[h x (by simp),kO fun y hy=>h y (aaZ _ hy)]
theorem lR{vV:aX->V}(h:∀x∈looks op,vV x=ρ x):cK vV op=cK ρ op:=by
 cases op<;>first
  |rfl
  |(rename_i f as;simp only[cK];rw[kO (l:=as) (fun x hx=>h x (by simpa[looks]using hx))];done)
  |(rename_i x as;simp only[cK];rw[h x (by simp[looks]),kO (l:=as) (fun y hy=>h y (by simp[looks,hy]))])
theorem sj{H':ao}{cv:Option V}(h1:∀t∈gY o,get aZ t=get tm t)(h2:∀b∈mC (aW GL tm) o.op,aA H' b=aA H b):iS GL aZ H' ns o cv=iS GL tm H ns o cv:=by
 have hg:aB o.guard aZ=aB o.guard tm:=kN (fun d w hd=>h1 d (by simp[gY,hd]));have he:∀x∈looks o.op,aW GL aZ x=aW GL tm x:=fun x hx=>p_ (fun t ht=>h1 t (by grind[gY]))
 unfold iS;rw[hg,CD he h2,zS he,lR he]
theorem zX{H':ao}{cv:Option CV}(h1:∀t∈gY o,get aZ t=get tm t)(h2:∀b∈mC (aW GL tm) o.op,aA H' b=aA H b):nK GL aZ H' ns o cv=nK GL tm H ns o cv:=by
 have hg:aB o.guard aZ=aB o.guard tm:=kN (fun d w hd=>h1 d (by simp[gY,hd]));have he:∀x∈looks o.op,aW GL aZ x=aW GL tm x:=fun x hx=>p_ (fun t ht=>h1 t (by grind[gY]))
 match cv with
  |none=>exact sj (ns:=ns) (cv:=none) h1 h2
  |some (.v x)=>exact sj (ns:=ns) (cv:=some x) h1 h2
  |some (.own cs n sz)=>simp only[nK];rw[hg,lR he]
theorem EH{args:List V}(h:cK ρ op=some (f,args)){b:Nat}(hb:b∈args.flatMap bu):b∈mC ρ op:=by
 cases op<;>simp only[cK,aat,aay]at h<;>try cases h
 ·rename_i h;simp only[mC];rw[h];exact hb
 ·split at h
  ·rename_i he;simp only[aat,aay]at h;obtain⟨rfl,rfl⟩:=h;simp only[mC,he];exact hb
  ·cases h
theorem gx{r:V×Wr}(h:bw ρ H ns op=some r):cK ρ op=none:=by cases op<;>first|rfl|(simp only[bw]at h;cases h)
theorem uI{args:List V}{g:G}(fX:(aU P o'.op).getD .bad=op)(hc:cK (aW GL σ.tm) op=some (f,args))(hr:R GL g w a σ)(uE:an P f=true):(∀c,o'.op≠ .defer c)/\∃vs:Array Value,aM g w args vs.toList/\(execOp a.eval o').run P w=.ok (.enter f vs) w:=by
 have fp:op≠ .bad:=by rintro rfl;cases hc
 have ld:=cE fX fp;refine⟨bJ ld,?_⟩;cases op<;>simp only[cK,aat,aay]at hc<;>try cases hc
 ·rename_i f' as h1 h2;subst h1;subst h2;obtain⟨c,Ei,OE⟩:=gX ld (.inl ⟨f',as,rfl⟩);have e_:c.callee=.value (.func f')/\bS aw c.args.toList=some as:=by unfold dq at OE;grind[Option.map_eq_some_iff,jG.call.injEq]
  refine⟨c.args.map a.eval,by simpa using iA hr.ev e_.2,?_ ⟩;have:=fG uE (c.args.map a.eval) w;simp_all[execOp,resolve,Act.eval,Deferred.ofValue,invoke]
 ·rename_i x as;split at hc
  ·rename_i f' first cap hx
   simp only[aat,aay]at hc;obtain⟨rfl,rfl⟩:=hc;obtain⟨c,Ei,OE⟩:=gX ld (.inr ⟨x,as,rfl⟩);have e_:∃t,c.callee=.value (.tmp t)/\x=.t t/\bS aw c.args.toList=some as:=by unfold dq at OE;grind[Option.map_eq_some_iff,jG.b_.injEq]
   obtain⟨t,ht,rfl,gW⟩:=e_;have hv:=hr.ev (.tmp t) (.t t) rfl;rw[hx]at hv;simp only[RV]at hv;obtain⟨p,q,e1,e2,e3⟩:=hv;refine⟨p++c.args.map a.eval++q,?_,?_⟩
   ·simp only[acr,Array.toList_map];exact aM.append (aM.append e2 (iA hr.ev gW)) e3
   ·have:=fG uE (p++c.args.map a.eval++q) w;grind[Array.append_assoc,execOp,resolve,Deferred.ofValue,invoke]
  ·cases hc
theorem RV.ew{g:G}(hh:ax g w H):∀b x k,g.γ b=some x->x.own=some k->k<w.heap.size:=by intro b x k hx hk;obtain⟨_,y,_,h3⟩:=hh.live b x hx;exact h3.lt k hk
def lS(P:Program)(GL:bR)(f:FuncId)(args:List V)(H:ao)(v:V):Prop:=an P f=true/\∀H',(∀b∈args.flatMap bu,aA H' b=aA H b)->∀g w (vs:Array Value),aM g w args vs.toList->ax g w H'->dY GL g w->Calls P f vs w fun e w'=>∃x,e=.returned x/\RV g w' v x/\bA g w g w'/\ax g w' H'
theorem PC.Be{args:List V}(h:PC P GL f args v):lS P GL f args H v:=by refine⟨h.1,fun H' _ g w vs cX hh hg=>(h.2 g w vs cX (fun k hk=>(hh.fo k hk).1) (RV.ew hh) hg).mono ?_ ⟩;rintro e w' ⟨x,rfl,hx,he,gq⟩;exact⟨x,rfl,hx,he,hh.ext he gq⟩
def iU(P:Program)(GL:bR)(f:FuncId)(args:List V)(H:ao)(ns:Nat)(r:V×Wr):Prop:=an P f=true/\∀H',(∀b∈args.flatMap bu,aA H' b=aA H b)->∀g w (vs:Array Value),aM g w args vs.toList->ax g w H'->dY GL g w->gg g ns->Calls P f vs w fun e w'=>∃x g',e=.returned x/\RV g' w' r.1 x/\bA g w g' w'/\ax g' w' (bn H' r.2)/\A0 g g' ns
theorem lS.O3{args:List V}(h:lS P GL f args H v)(ns:Nat):iU P GL f args H ns (v,none):=⟨h.1,fun H' hH g w vs cX hh hg _=>(h.2 H' hH g w vs cX hh hg).mono fun _ _ ⟨x,h1,h2,h3,h4⟩=>⟨x,g,h1,h2,h3,h4,fun _ h=>.inl h⟩⟩
theorem iU.congr{args:List V}{H2:ao}{r:V×Wr}(h:iU P GL f args H ns r)(hh:∀b∈args.flatMap bu,aA H2 b=aA H b):iU P GL f args H2 ns r:=⟨h.1,fun H' h'=>h.2 H' (fun b hb=>(h' b hb).trans (hh b hb))⟩
theorem Bf{ro:Option Nat}{ops:Array Oper}{cv:Option V}{wr:Wr}{g:G}(fX:(aU P o'.op).getD .bad=o.op)(lx:eE ops.toList o'=some o.guard)(eQ:o'.dst=o.dst)(h1:iS GL σ.tm σ.hp ns o cv=some (v,wr))(hq:∀f args,cK (aW GL σ.tm) o.op=some (f,args)->aB o.guard σ.tm=some true->iU P GL f args σ.hp ns (v,wr))(hr:R GL g w a σ)(fC:gg g ns)(hd:∀d,o.dst=some d->d<σ.n)(K:Act->World->Prop)(Q':Exit->Act->World->Prop)(hK:∀g' w' a',R GL g' w' a' (σ.iF o.dst v (bn σ.hp wr))->bA g w g' w'->A0 g g' ns->K a' w'):if Region.wanted o' (yielded ops a.tmps)then OW ro P o' a w K Q' else K (a.put o'.dst undef) w:=by
 have aR:∀v H',σ.put o.dst v H'=some (σ.iF o.dst v H'):=by intro v H';cases ho:o.dst<;>grind[Nat.blt_eq,St.put,St.iF]
 unfold iS at h1;split at h1
 ·cases h1
 ·rename_i hg;simp at h1;obtain⟨rfl,rfl⟩:=h1;rw[dj hr lx hg,aaH (by simp),eQ];exact hK g w _ (hr.fv (bA.refl _ _) hr.heap (aR _ _) (by simp only[RV];exact⟨#[],rfl,by simp[aM]⟩)) (bA.refl _ _) (fun _ h=>.inl h)
 ·rename_i hg;rw[dj hr lx hg,aaD rfl];split at h1
  ·rename_i fa hc;obtain⟨f,args⟩:=fa;cases cv with
    |none=>simp at h1
    |some cv=>simp at h1;obtain⟨rfl,rfl⟩:=h1;have Lr:=hq f args hc hg;obtain⟨oa,vs,cX,ep⟩:=uI fX hc hr Lr.1;refine OW.of oa ep ?_;simp only[Oper.uponIn];refine⟨fun h=>oK h,sb ((Lr.2 σ.hp (fun _ _=>rfl) g w _ cX hr.heap hr.cB fC).mono ?_ )⟩;rintro e w' ⟨x,g',rfl,hx,he,gq,O4⟩;simp only;rw[eQ];exact hK g' w' _ (hr.fv he gq (aR _ _) hx) he O4
  ·split at h1
   ·simp at h1;obtain⟨v',fY,rfl,rfl⟩:=h1;obtain⟨w',x,k1,k2,k3,k4⟩:=uD (P:=P) (a:=a) (o:=o') (cE fX (fun e=>by rw[e]at fY;cases fY)) fY hr.ev hr.heap;refine OW.of (bJ (cE fX (fun e=>by rw[e]at fY;cases fY))) k1 ?_;simp only[Oper.uponIn];rw[eQ];exact hK g w' _ (hr.fv k4 k3 (aR _ _) k2) k4 (fun _ h=>.inl h)
   ·obtain⟨g',w',nx,k1,k2,k3,k4,k5⟩:=rZ (P:=P) (a:=a) (o:=o') (cE fX (fun e=>by rw[e]at h1;cases h1)) h1 hr.ev hr.heap fC;have oa:=bJ (cE fX (fun e=>by rw[e]at h1;cases h1));rcases k2 with⟨x,rfl,hx⟩|⟨rfl,rfl⟩
    ·refine OW.of oa k1 ?_;simp only[Oper.uponIn];rw[eQ];exact hK g' w' _ (hr.fv k4 k3 (aR _ _) hx) k4 k5
    ·refine OW.of oa k1 ?_;simp only[Oper.uponIn];rw[eQ];exact hK g' w' _ (hr.fv k4 k3 (aR _ _) (by simp only[RV])) k4 k5
theorem HV{ro:Option Nat}{ops:Array Oper}{cv:Option CV}{wr:Wr}{g:G}(fX:(aU P o'.op).getD .bad=o.op)(lx:eE ops.toList o'=some o.guard)(eQ:o'.dst=o.dst)(h1:nK GL σ.tm σ.hp ns o cv=some (v,wr))(hq:∀f args,cK (aW GL σ.tm) o.op=some (f,args)->aB o.guard σ.tm=some true->iU P GL f args σ.hp ns (v,wr))(hr:R GL g w a σ)(fC:gg g ns)(hd:∀d,o.dst=some d->d<σ.n)(K:Act->World->Prop)(Q':Exit->Act->World->Prop)(hK:∀g' w' a',R GL g' w' a' (σ.iF o.dst v (bn σ.hp wr))->bA g w g' w'->A0 g g' ns->K a' w'):if Region.wanted o' (yielded ops a.tmps)then OW ro P o' a w K Q' else K (a.put o'.dst undef) w:=by
 match cv,h1 with
  |none,h1=>exact Bf fX lx eQ h1 hq hr fC hd K Q' hK
  |some (.v x),h1=>exact Bf fX lx eQ h1 hq hr fC hd K Q' hK
  |some (.own cs n sz),h1=>
   have aR:∀v H',σ.put o.dst v H'=some (σ.iF o.dst v H'):=by intro v H';cases ho:o.dst<;>grind[Nat.blt_eq,St.put,St.iF]
   simp only[nK]at h1;split at h1
   ·rename_i fa hg hc;obtain⟨f,args⟩:=fa;rw[dj hr lx hg,aaD rfl];have Lr:=hq f args hc hg;obtain⟨oa,vs,cX,ep⟩:=uI fX hc hr Lr.1;refine OW.of oa ep ?_;simp only[Oper.uponIn];refine⟨fun h=>oK h,sb ((Lr.2 σ.hp (fun _ _=>rfl) g w _ cX hr.heap hr.cB fC).mono ?_ )⟩;rintro e w' ⟨x,g',rfl,hx,he,gq,O4⟩;simp only;rw[eQ];exact hK g' w' _ (hr.fv he gq (aR _ _) hx) he O4
   ·cases h1
def jk(K:Nat->Bool)(i:Nat):Nat->Bool:=fun j=>K j||decide (j=i)
theorem vZ{t:Nat}:∀{l:List ab}{rs:List ((V×Wr)×List Nat)}{i0 k:Nat}{σ:St}{o:ab}{r:(V×Wr)×List Nat},i=i0+k->l[k]? =some o->rs[k]? =some r->K i=false->l.length=rs.length->(∀(j:Nat)(o':ab),l[j]? =some o'->j≠k->o'.dst=some t->o.dst=some t->K (i0+j)=true->j<k)->get (aP (jk K i) i0 l rs σ).tm t=if o.dst=some t then r.1.1 else get (aP K i0 l rs σ).tm t:=by
 intro l rs i0 k σ o r Ej ho hr hi hlen EI;by_cases hd:o.dst=some t
 ·rw[aaD hd];induction l generalizing rs i0 k σ with
   |nil=>simp at ho
   |cons p l ih=>
    cases rs with
     |nil=>simp at hr
     |cons q rs=>
      simp only[aP];cases k with
       |zero=>
        simp at ho hr Ej;subst ho;subst hr;subst Ej;have EJ:jk K i i=true:=by simp[jk]
        rw[EJ,aaw];have xf:∀(l':List ab)(Cs:List ((V×Wr)×List Nat))(m:Nat)(s:St),(∀(j:Nat)(o':ab),l'[j]? =some o'->o'.dst=some t->jk K i (m+j)=false)->get (aP (jk K i) m l' Cs s).tm t=get s.tm t:=by
         intro l';induction l' with
          |nil=>grind[aP]
          |cons p' l' Vy=>
           intro Cs m s hn;cases Cs with
            |nil=>simp[aP]
            |cons q' Cs=>
             simp only[aP];rw[Vy Cs (m+1) _ (fun j o' h e=>by have:=hn (j+1) o' (by grind) e;grind)];by_cases hs:p'.dst=some t
             ·have:=hn 0 p' rfl hs;grind
             grind[lN]
        rw[xf _ _ _ _ (fun j o' h e=>by
         have hl:=EI (j+1) o' (by grind) (by omega) e hd;have fp:i+1+j≠i:=by omega
         simp only[jk,fp,decide_false,Bool.or_false];grind)]
        simp[lN,hd]
       |succ k=>grind
 ·rw[aaH hd];refine se rfl (fun j o' h1 h2=>?_ );grind[Option.some.injEq,jk]
theorem v8{b:Nat}:∀{l:List ab}{rs:List ((V×Wr)×List Nat)}{i0 k:Nat}{σ:St}{r:(V×Wr)×List Nat},l.length=rs.length->i=i0+k->rs[k]? =some r->K i=false->(∀(j:Nat)(r':(V×Wr)×List Nat),rs[j]? =some r'->j≠k->cg r'.1.2=some b->cg r.1.2=some b->K (i0+j)=true->j<k)->aA (aP (jk K i) i0 l rs σ).hp b=aA (bn (aP K i0 l rs σ).hp r.1.2) b:=by
 intro l rs i0 k σ r hlen Ej hr hi EI;have JL:∀(s:St)(o:ab)(q:(V×Wr)×List Nat),(s.iF o.dst q.1.1 (bn s.hp q.1.2)).hp=bn s.hp q.1.2:=by intro s o q;cases o.dst<;>rfl
 by_cases hd:cg r.1.2=some b
 ·have qa:aA (bn (aP K i0 l rs σ).hp r.1.2) b=aA (bn [] r.1.2) b:=by cases hw:r.1.2<;>grind[cg,Option.some.injEq,bn,fm]
  rw[qa];clear qa;induction rs generalizing l i0 k σ with
   |nil=>simp at hr
   |cons q rs ih=>
    cases l with
     |nil=>grind
     |cons p l=>
      simp only[aP];cases k with
       |zero=>
        simp at hr Ej;subst hr;subst Ej;have EJ:jk K i i=true:=by simp[jk]
        rw[EJ,aaw];have xf:∀(Cs:List ((V×Wr)×List Nat))(l':List ab)(m:Nat)(s:St),(∀(j:Nat)(r':(V×Wr)×List Nat),Cs[j]? =some r'->cg r'.1.2=some b->jk K i (m+j)=false)->aA (aP (jk K i) m l' Cs s).hp b=aA s.hp b:=by
         intro Cs;induction Cs with
          |nil=>grind[aP]
          |cons q' Cs Vy=>
           intro l' m s hn;cases l' with
            |nil=>simp[aP]
            |cons p' l'=>
             simp only[aP];rw[Vy l' (m+1) _ (fun j r' h e=>by have:=hn (j+1) r' (by grind) e;grind)];by_cases hs:cg q'.1.2=some b
             ·have:=hn 0 q' rfl hs;grind
             ·cases jk K i m with
               |false=>rfl
               |true=>simp only[aaw,JL,mD];grind[cg,Option.some.injEq]
        rw[xf _ _ _ _ (fun j r' h e=>by
         have hl:=EI (j+1) r' (by grind) (by omega) e hd;have fp:i+1+j≠i:=by omega
         simp only[jk,fp,decide_false,Bool.or_false];grind)]
        rw[JL];cases hw:q.1.2<;>grind[cg,Option.some.injEq,bn,fm]
       |succ k=>grind
 ·have qa:aA (bn (aP K i0 l rs σ).hp r.1.2) b=aA (aP K i0 l rs σ).hp b:=by grind[mD,cg,Option.some.injEq]
  rw[qa];refine sf rfl (fun j r' h1 h2=>?_ );grind[Option.some.injEq,jk]
end
end Fw
/-
  A region whose order is drawn: the rule.
-/
namespace Fw
open Go
def Bg(o:ab):ab:={o with after:=[]}
def sk(k:Nat)(l:List ab):Bool:=(List.range l.length).all fun j=>Nat.ble j k||((l[j]? ).map fun o=>o.after.contains (j - 1)).getD false
section
variable {P:Program}{GL:bR}
variable {l:List ab}{k mm:Nat}{σ:St}{Q:Ex->St->Prop}{o:ab}
theorem lT{K K':Nat->Bool}:∀{l:List ab}{rs:List ((V×Wr)×List Nat)}{i:Nat}{σ:St},(∀j,j<l.length->K (i+j)=K' (i+j))->aP K i l rs σ=aP K' i l rs σ
 |[],_,_,_,_=>by simp[aP]
 |_::_,[],_,_,_=>by simp[aP]
 |o::l,r::rs,i,σ,h=>by simp only[aP];have h0:=h 0 (by simp);simp at h0;rw[h0];exact lT (fun j hj=>by have:=h (j+1) (by simp;omega);grind)
theorem iV:∀{l:List ab}{rs:List ((V×Wr)×List Nat)}{k:Nat}{K:Nat->Bool}{σ:St},(∀j,k<=j->K j=false)->aP K k l rs σ=σ
 |[],_,_,_,_,_=>by simp[aP]
 |_::_,[],_,_,_,_=>by simp[aP]
 |o::l,r::rs,k,K,σ,h=>by simp only[aP,h k (aaE _),aaK];exact iV fun j hj=>h j (by omega)
theorem mE{K:Nat->Bool}{m:Nat}:∀{l:List ab}{rs:List ((V×Wr)×List Nat)}{i:Nat}{σ:St},σ.hp.length=m->(∀r∈rs,∀b,cg r.1.2=some b->b<m)->(aP K i l rs σ).hp.length=m
 |[],_,_,_,h,_=>by grind[aP]
 |_::_,[],_,_,h,_=>by grind[aP]
 |o::l,r::rs,i,σ,h,hs=>by
  simp only[aP];refine mE ?_ (fun r' ur=>hs r' (by simp[ur]));cases K i with
   |false=>exact h
   |true=>
    have JL:(σ.iF o.dst r.1.1 (bn σ.hp r.1.2)).hp=bn σ.hp r.1.2:=by cases o.dst<;>rfl
    simp only[aaw,JL];cases hw:r.1.2 with
     |none=>exact h
     |some p=>obtain⟨b,y⟩:=p;have hb:=hs r (by simp) b (by rw[hw];rfl);simp only[bn];rw[lO (by omega)];exact h
theorem qb{ops:Array Oper}(hc:fE P ops.toList true ops.toList=some l):l.length=ops.size/\∀(i:Nat)(o':Oper),ops[i]? =some o'->∃o:ab,l[i]? =some o/\(aU P o'.op).getD .bad=o.op/\eE ops.toList o'=some o.guard/\o'.dst=o.dst/\o.after=iK o':=by refine⟨by have:=bU hc;grind,fun i o' tV=>?_ ⟩;obtain⟨o,h1,h2⟩:=gV i o' hc (by grind);refine⟨o,h1,?_⟩;unfold dU at h2;grind
def jy(n:Nat)(l:List ab):Bool:=l.all fun o=>match o.dst with|some d=>Nat.blt d n|none=>true
def iu(m:Nat)(rs:List ((V×Wr)×List Nat)):Bool:=rs.all fun r=>match cg r.1.2 with|some b=>Nat.blt b m|none=>true
def qd(l:List ab)(rs:List ((V×Wr)×List Nat))(σ:St)(i:Nat):St:=aP (fun j=>decide (j<i)) 0 l rs σ
def lf(σ:St)(n:Nat):St:=⟨σ.n,σ.tm,σ.hp++List.replicate n none⟩
def jQ(k:Nat)(o:ab):ab:={o with after:=(o.after.filter fun e=>Nat.ble k e).map (· - k)}
def iw(k:Nat)(l:List ab):List ab:=(l.drop k).map (jQ k)
def EK(m:Nat):List Nat->Bool|[]=>true|r::rs=>Nat.beq (Nat.land r (2^m - 1)) (2^m - 1)&&EK m rs
def oZ(k m:Nat)(l:List ab):Bool:=nj 0 (iw k l)&&EK m ((dO 0 [] (iw k l)).drop m)
def DP(P:Program)(GL:bR)(mm:Nat)(l:List ab)(k:Nat)(σ:St)(Q:Ex->St->Prop):Prop:=∀(ro:Option Nat)(ops:Array Oper),fE P ops.toList true ops.toList=some l->∀(listed:Array Bool) g w a g0 w0,listed.size=ops.size->(∀j,listed.getD j false=decide (j<k))->R GL g w a σ->(∀b,g0.cr b->b<mm)->bA g0 w0 g w->wpAnyIn (FR ro) 0 P .any ops (dr GL g0 w0 Q) (ops.size - k) listed a w
theorem xO{m:Nat}:∀{rs:List Nat}{i:Nat},EK m rs=true->i<rs.length->∀j,j<m->Nat.testBit (rs.getD i 0) j=true
 |[],i,_,h,_,_=>by simp at h
 |r::rs,0,h,_,j,hj=>by
  simp only[EK,aas]at h;have e:=aav h.1;have h1:Nat.testBit (Nat.land r (2^m - 1)) j=true:=by grind
  rw[Lq,aas]at h1;grind
 |r::rs,i+1,h,hi,j,hj=>by simp only[EK,aas]at h;rw[acs];exact xO h.2 (by grind) j hj
theorem v_{K:Nat->Bool}(hb:nj 0 l=true)(hK:lQ l K):∀j i,Nat.testBit ((dO 0 [] l).getD j 0) i=true->K j=true->K i=true:=by
 intro j;induction j using Nat.strongRecOn with
  |_ j ih=>
   intro i hi hj;have Ls:j<l.length:=by
    rcases abu j l.length with h|h
    ·exact h
    ·rw[abh,List.getElem?_eq_none (by grind[cY])]at hi;simp at hi
   have ho:l[j]? =some l[j]:=aaz Ls;obtain⟨e,h4,h5⟩:=kL hb (fun e m hm fp=>by grind[ni]) j _ ho i hi;have Vx:=hK j _ ho hj e h4;have cA:=kM hb j _ ho e h4;grind
theorem CH{i:Nat}(h:l[k+i]? =some o):(iw k l)[i]? =some (jQ k o):=by grind[iw]
theorem CI{i:Nat}(h:(iw k l)[i]? =some o):∃o',l[k+i]? =some o'/\o=jQ k o':=by grind[iw,Option.map_eq_some_iff]
theorem qe{e:Nat}:e∈(jQ k o).after↔k+e∈o.after:=by simp only[jQ,abg,abK,abG];grind
theorem WC.zY(hm:P.follows .mixedOrders=true)(h:DP P GL σ.hp.length l 0 σ Q):WC P GL (.draw l) σ Q:=by
 refine WC.jP fun code jO hc ro n_ g w xc hr=>?_
 obtain⟨id,ops,rfl,hl⟩:∃id ops,code=.region id ops true/\fE P ops.toList true ops.toList=some l:=by
  cases code with
   |region id ops draw=>grind[aD]
   |seq=>exact absurd hc (eG jO nofun)
   |scope=>cases jO
   |cond=>grind[aD]
   |_=>simp[aD]at hc
 refine wpIn_region_any hm ?_;have we:∀j,(Array.replicate ops.size false).getD j false=false:=by intro j;rw[aaP,Array.getElem?_replicate];grind
 exact h ro ops hl (Array.replicate ops.size false) g _ xc g w (by simp) (fun j=>by grind) (hr.drawn _) (fun b hb=>hr.heap.cr b hb) (bA.drawn g w _)
theorem DP.done(h:Q .normal σ):DP P GL mm l l.length σ Q:=by intro ro ops hl listed g w a g0 w0 cG hK hR hm hE;obtain⟨hlen,_⟩:=qb hl;rw[hlen,acF];refine⟨?_,g,σ,hR,hE,h⟩;unfold Region.ready;grind[List.filter_eq_nil_iff,Array.getD_eq_getD_getElem?]
theorem DP.part(m:Nat){qc:Nat->Option CV}{rs:List ((V×Wr)×List Nat)}{lp:List ab}(Lu:(iw k l).take m=lp)(hm:Nat.ble (k+m) l.length=true)(EL:oZ k m l=true)(ep:rp GL σ.hp.length qc 0 lp (lf σ lp.length)=some rs)(kz:fH lp rs=true)(eQ:jy σ.n lp=true)(EM:iu (σ.hp.length+lp.length) rs=true)(hq:∀(i:Nat)(o:ab)(r:(V×Wr)×List Nat),lp[i]? =some o->rs[i]? =some r->∀f args,cK (aW GL (qd lp rs (lf σ lp.length) i).tm) o.op=some (f,args)->aB o.guard (qd lp rs (lf σ lp.length) i).tm=some true->iU P GL f args (qd lp rs (lf σ lp.length) i).hp (σ.hp.length+i) r.1)(h:DP P GL mm l (k+m) (aP (fun _=>true) 0 lp rs (lf σ lp.length)) Q):DP P GL mm l k σ Q:=by
 intro ro ops hl wg g w xc g0 w0 Vz Lv hr Lp hE0;have hm:=aax hm;simp only[oZ,aas]at EL;obtain⟨hlen,ld⟩:=qb hl;have aaf:lp.length=m:=by rw[←Lu];simp[iw];omega
 have O5:∀i,i<m->∀o,l[k+i]? =some o->lp[i]? =some (jQ k o):=fun i hi o ho=>by rw[←Lu,aa4,aaD hi];exact CH ho
 have Z':∀i o,lp[i]? =some o->(iw k l)[i]? =some o:=fun i o ho=>by
  rw[←Lu,aa4]at ho;split at ho
  ·exact ho
  ·cases ho
 obtain⟨hrl,hrg⟩:=xK ep;have Lw:=xN kz hrl;have O6:∀(i:Nat)(o:ab),lp[i]? =some o->∀d,o.dst=some d->d<σ.n:=by intro i o ho d hd;have:=(aaJ.1 eQ) o (aau ho);rw[hd]at this;simpa[aaU]using this
 have sq:∀r∈rs,∀b,cg r.1.2=some b->b<σ.hp.length+lp.length:=by intro r hr b hb;have:=(aaJ.1 EM) r hr;rw[hb]at this;simpa[aaU]using this
 (generalize Ly:lf σ lp.length=wh at*);have Ce:wh.hp.length=σ.hp.length+lp.length:=by rw[←Ly];simp[lf]
 have N9:wh.n=σ.n:=by rw[←Ly];rfl
 have key:∀(qf:Nat)(listed:Array Bool)(g1:G)(w1:World)(a1:Act),listed.size=ops.size->(∀j,j<k->listed.getD j false=true)->(∀j,k+m<=j->listed.getD j false=false)->((List.range m).filter fun j=> !listed.getD (k+j) false).length=qf->lQ lp (fun j=>listed.getD (k+j) false)->R GL g1 w1 a1 (aP (fun j=>listed.getD (k+j) false) 0 lp rs wh)->bA g w g1 w1->(∀b,g1.cr b->b<σ.hp.length\/∃j,listed.getD (k+j) false=true/\b=σ.hp.length+j)->wpAnyIn (FR ro) 0 P .any ops (dr GL g0 w0 Q) (qf+(ops.size - (k+m))) listed a1 w1:=by
  intro qf;induction qf with
   |zero=>
    intro listed g1 w1 a1 cG kh ji EN tM hR hE xx;have jj:∀j,j<m->listed.getD (k+j) false=true:=by intro j hj;have:=abT EN;rw[List.filter_eq_nil_iff]at this;have:=this j (by simpa using hj);simpa using this
    rw[aaR];refine h ro ops hl listed g1 w1 a1 g0 w0 cG (fun j=>?_ ) ?_ Lp (hE0.trans hE)
    ·rcases abu j k with h1|h1
     ·rw[kh j h1,aaQ (by omega)]
     ·rcases abu j (k+m)with h2|h2
      ·have:=jj (j - k) (by omega);rw[show k+(j - k)=j by omega]at this;rw[this,aaQ h2]
      ·rw[ji j h2,aaL (by omega)]
    ·rw[lT (K':=fun j=>listed.getD (k+j) false) (fun j hj=>by simp only[aaR];exact(jj j (by omega)).symm)];exact hR
   |succ qf ih=>
    intro listed g1 w1 a1 cG kh ji EN tM hR hE xx;have zl:∃j,j<m/\listed.getD (k+j) false=false:=by
     have fp:((List.range m).filter fun j=> !listed.getD (k+j) false)≠[]:=by intro e;rw[e]at EN;simp at EN
     obtain⟨j,hj⟩:=List.exists_mem_of_ne_nil _ fp;rw[abK]at hj;exact⟨j,by simpa using hj.1,by simpa using hj.2⟩
    rw[show qf+1+(ops.size - (k+m))=(qf+(ops.size - (k+m)))+1 by omega];constructor
    ·intro Lz;exfalso;obtain⟨j,⟨VA,Eo⟩,OR⟩:=JG zl;have Z_:ops[k+j]? =some ops[k+j]:=Array.getElem?_eq_getElem (by omega);obtain⟨o,ho,_,_,_,EO⟩:=ld (k+j) _ Z_;have hrj:j<rs.length:=by omega
     have JO:=fw (O5 j VA o ho) (aaz hrj);have:k+j∈Region.ready .any ops listed:=by
      unfold Region.ready;rw[abK];refine⟨by rw[abn];omega,?_ ⟩;have h2:listed.getD (k+j) true=false:=by rw[aaP]at Eo⊢;rw[Array.getElem?_eq_getElem (by omega)]at Eo⊢;exact Eo
      simp only[h2,Bool.not_false,aaV,Z_,aaI,abx,abO];intro e he;cases hb:Region.binds .any e with
       |false=>rfl
       |true=>
        simp only[ab0,Bool.false_or];have hea:e.on∈o.after:=by rw[EO];simp only[iK,abg,abK];exact⟨e,⟨by simpa using he,hb⟩,rfl⟩
        rcases abu e.on k with h1|h1
        ·exact kh _ h1
        ·have cA:=Lw.before j _ JO (e.on - k) (qe.2 (by rwa[show k+(e.on - k)=e.on by omega]));cases hq2:listed.getD e.on false with
          |true=>rfl
          |false=>have:=OR (e.on - k) ⟨by omega,by rwa[show k+(e.on - k)=e.on by omega]⟩;omega
     rw[Lz]at this;cases this
    ·intro i0 hi;unfold Region.ready at hi;rw[abK]at hi;have JO:i0<ops.size:=by simpa using hi.1
     have O7:ops[i0]? =some ops[i0]:=Array.getElem?_eq_getElem JO;have tN:=hi.2;simp only[aas,abW,O7,aaI,abx,abO]at tN;obtain⟨o0,ho0,fX,lx,hd,EO⟩:=ld i0 _ O7;have Lv:listed.getD i0 false=false:=by have:=tN.1;rw[aaP]at this⊢;rw[Array.getElem?_eq_getElem (by omega)]at this⊢;exact this
     have Bh:∀e∈o0.after,listed.getD e false=true:=by intro e he;rw[EO]at he;simp only[iK,abg,abK]at he;obtain⟨ed,⟨zQ,xB⟩,rfl⟩:=he;have:=tN.2 ed (by simpa using zQ);simpa[xB]using this
     have Em:k<=i0:=by
      rcases abu i0 k with h1|h1
      ·rw[kh i0 h1]at Lv;cases Lv
      ·exact h1
     obtain⟨i,rfl⟩:∃i,i0=k+i:=⟨i0 - k,by omega⟩;have nJ:i<m:=by
      rcases abu i m with h1|h1
      ·exact h1
      ·exfalso;obtain⟨j,VA,Eo⟩:=zl;have VB:(iw k l).length=l.length - k:=by simp[iw]
       have VC:Nat.testBit ((dO 0 [] (iw k l)).getD i 0) j=true:=by have:=xO (m:=m) (i:=i - m) EL.2 (by rw[ace,cY,VB];omega) j VA;rw[abh,acy,show m+(i - m)=i by omega,←abh]at this;exact this
       have hC:lQ (iw k l) (fun j=>listed.getD (k+j) false||decide (j=i)):=by
        intro j' o' tV HW e he;simp only[abq,aaF]at HW⊢;rcases HW with HW|rfl
        ·have Ub:j'<m:=by
          rcases abu j' m with h2|h2
          ·exact h2
          ·rw[ji (k+j') (by omega)]at HW;cases HW
         left;refine tM j' o' ?_ HW e he;rw[←Lu,aa4,aaD Ub];exact tV
        ·obtain⟨o2,k1,rfl⟩:=CI tV;rw[ho0]at k1;simp at k1;subst k1;exact .inl (Bh _ (qe.1 he))
       have:=v_ EL.1 hC i j VC (by simp);simp only[abq,aaF]at this;rcases this with h2|h2
       ·rw[Eo]at h2;cases h2
       ·omega
     obtain⟨o,ho,fX,lx,hd,vY⟩:∃o,lp[i]? =some o/\(aU P (ops[k+i]).op).getD .bad=o.op/\eE ops.toList ops[k+i]=some o.guard/\(ops[k+i]).dst=o.dst/\∀e∈o.after,listed.getD (k+e) false=true:=⟨jQ k o0,O5 i nJ o0 ho0,fX,lx,hd,fun e he=>Bh _ (qe.1 he)⟩;have hir:i<rs.length:=by omega
     have O8:rs[i]? =some rs[i]:=aaz hir;obtain⟨r,CA,Ep,HT⟩:=hrg i _ ho;rw[O8]at CA;simp at CA;simp at Ep HT;have O9:listed.getD (k+i) false=false:=Lv;have VD:=fw ho O8;have DQ:∀{j:Nat}{y:oU},(iT lp rs)[j]? =some y->rq {dst:=o.dst,lk:=gY o,rd:=rs[i].2,ws:=cg rs[i].1.2,after:=o.after} y=true->listed.getD (k+j) false=decide (j<i):=fun hy hm=>agree Lw tM ho O9 vY VD hy hm (by rw[CF];exact hm)
     have VE:∀t∈gY o,get (aP (fun j=>listed.getD (k+j) false) 0 lp rs wh).tm t=get (qd lp rs wh i).tm t:=by
      intro t ht;refine se rfl (fun j o' h1 h2=>?_ );simp only[aaR];have VF:j<rs.length:=by have:=(aaA.1 h1).1;omega
      have zZ:=fw h1 (aaz VF);refine DQ zZ ?_;unfold rq;have:zU o'.dst (gY o)=true:=vX.2 ⟨t,h2,ht⟩;simp[this]
     have hhp:∀b∈mC (aW GL (qd lp rs wh i).tm) o.op,aA (aP (fun j=>listed.getD (k+j) false) 0 lp rs wh).hp b=aA (qd lp rs wh i).hp b:=by
      intro b hb;refine sf rfl (fun j r' h1 h2=>?_ );simp only[aaR];have Ls:j<lp.length:=by have:=(aaA.1 h1).1;omega
      have zZ:=fw (aaz Ls) h1;refine DQ zZ ?_;unfold rq;have:zU (cg r'.1.2) rs[i].2=true:=vX.2 ⟨b,h2,by rw[CA,HT];exact hb⟩;simp[this]
     have O':=zX (GL:=GL) (ns:=σ.hp.length+i) (cv:=qc i) VE hhp;have VG:nK GL (qd lp rs wh i).tm (qd lp rs wh i).hp (σ.hp.length+i) o (qc i)=some r.1:=Ep;rw[VG]at O';have VH:∀x∈looks o.op,aW GL (aP (fun j=>listed.getD (k+j) false) 0 lp rs wh).tm x=aW GL (qd lp rs wh i).tm x:=fun x hx=>p_ (fun t ht=>VE t (by simp only[gY,aa8,List.mem_filterMap];exact .inl ⟨x,hx,ht⟩))
     have hgu:aB o.guard (aP (fun j=>listed.getD (k+j) false) 0 lp rs wh).tm=aB o.guard (qd lp rs wh i).tm:=kN (fun d w hd=>VE d (by simp[gY,hd]));unfold wpOpIn;simp only[O7];have Un:=HV (ro:=ro) (P:=P) (GL:=GL) (ops:=ops) (v:=r.1.1) (wr:=r.1.2) fX lx hd O' (fun f args hc OU=>by rw[hgu]at OU;rw[lR VH]at hc;have:=hq i o rs[i] ho O8 f args hc OU;rw[CA]at this;exact this.congr (fun b hb=>hhp b (EH hc hb))) hR (by
      intro Hm;rcases xx _ Hm with h1|⟨j,h1,h2⟩
      ·omega
      ·have:j=i:=by omega
       subst this;rw[O9]at h1;cases h1) (fun d Hm=>by rw[oW,N9];exact O6 i o ho d Hm) (wpAnyIn (FR ro) 0 P .any ops (dr GL g0 w0 Q) (qf+(ops.size - (k+m))) (listed.setIfInBounds (k+i) true)) (dr GL g0 w0 Q) (by
      intro g2 w2 a2 Vs hE2 OT;have O_:∀j,(listed.setIfInBounds (k+i) true).getD (k+j) false=jk (fun j=>listed.getD (k+j) false) i j:=by
       intro j;simp only[jk,aaP];by_cases hj:j=i
       ·subst hj;rw[ab2 (by omega)];simp
       ·rw[abF (by omega)];simp[hj]
      have hKo:∀j,j≠k+i->(listed.setIfInBounds (k+i) true).getD j false=listed.getD j false:=by intro j hj;simp;rw[abF (fun e=>hj e.symm)]
      have Bb:aP (fun j=>(listed.setIfInBounds (k+i) true).getD (k+j) false) 0 lp rs wh=aP (jk (fun j=>listed.getD (k+j) false) i) 0 lp rs wh:=lT (fun j _=>O_ _);refine ih _ g2 w2 a2 (by simpa using cG) (fun j hj=>by rw[hKo j (by omega)];exact kh j hj) (fun j hj=>by rw[hKo j (by omega)];exact ji j hj) ?_ ?_ ?_ (hE.trans hE2) ?_
      ·have e1:(fun j=> !(listed.setIfInBounds (k+i) true).getD (k+j) false)=fun j=> !listed.getD (k+j) false&& !decide (j=i):=by funext j;rw[O_ j];simp[jk]
       rw[e1];have LA:∀(m:Nat)(f:Nat->Bool),i<m->f i=true->((List.range m).filter f).length=((List.range m).filter fun j=>f j&& !decide (j=i)).length+1:=by
        intro m f;induction m with
         |zero=>intro h;omega
         |succ m ihm=>
          intro nJ hfi;rw[List.range_succ,List.filter_append,List.filter_append,aap,aap];rcases abu i m with h1|h1
          ·rw[ihm h1 hfi];have:m≠i:=by omega
           simp[List.filter_cons,this];split<;>simp<;>omega
          ·have:m=i:=by omega
           subst this;have Pa:(List.range m).filter f=(List.range m).filter fun j=>f j&& !decide (j=m):=by
            refine List.filter_congr (fun j hj=>?_ );have:j≠m:=by have:=abn.1 hj;omega
            simp[this]
           rw[←Pa];simp[hfi]
       have:=LA m (fun j=> !listed.getD (k+j) false) nJ (by simp[O9]);rw[EN]at this;omega
      ·intro j o' tV hj e he;simp only[O_]at hj⊢;simp only[jk,abq,aaF]at hj⊢;rcases hj with hj|rfl
       ·exact .inl (tM j o' tV hj e he)
       ·rw[ho]at tV;simp at tV;subst tV;exact .inl (vY e he)
      ·rw[Bb];refine Vs.congr ?_ (fun t=>?_ ) ?_
       ·rw[oW];have:∀(s:St)(v:V)(H:ao),(s.iF o.dst v H).n=s.n:=by intro s v H;cases o.dst<;>rfl
        rw[this,oW]
       ·rw[vZ (k:=i) (by omega) ho O8 O9 (by omega) (fun j o' h1 h2 h3 h4 h5=>by
         simp only[aaR]at h5;have VF:j<rs.length:=by have:=(aaA.1 h1).1;omega
         have zZ:=fw h1 (aaz VF);have:=DQ zZ (by unfold rq;have:ng o.dst o'.dst=true:=gw.2 ⟨t,h4,h3⟩;simp[this]);rw[h5]at this;simpa using this.symm),lN,CA]
       ·have JL:∀(s:St)(v:V)(H:ao),(s.iF o.dst v H).hp=H:=by intro s v H;cases o.dst<;>rfl
        rw[JL];refine xM ?_ (fun b=>?_ )
        ·rw[mE Ce (by rw[←Ce]at sq⊢;simpa[Ce]using sq)];cases hw:r.1.2 with
          |none=>simp only[bn];rw[mE Ce (by simpa using sq)]
          |some p=>obtain⟨c,y⟩:=p;have hc:c<σ.hp.length+lp.length:=sq rs[i] (List.getElem_mem hir) c (by rw[CA,hw];rfl);have N3:=mE (K:=fun j=>listed.getD (k+j) false) (i:=0) (l:=lp) (rs:=rs) Ce (by simpa using sq);simp only[bn];rw[lO (by omega),N3]
        ·have:=v8 (K:=fun j=>listed.getD (k+j) false) (b:=b) (σ:=wh) (i0:=0) (k:=i) (l:=lp) (by omega) (by omega) O8 O9 (fun j r' h1 h2 h3 h4 h5=>by
          simp only[aaR]at h5;have Ls:j<lp.length:=by have:=(aaA.1 h1).1;omega
          have zZ:=fw (aaz Ls) h1;have:=DQ zZ (by unfold rq;have:ng (cg rs[i].1.2) (cg r'.1.2)=true:=gw.2 ⟨b,h4,h3⟩;simp[this]);rw[h5]at this;simpa using this.symm)
         rw[this,CA]
      ·intro b hb;rcases OT b hb with h1|rfl
       ·rcases xx b h1 with h2|⟨j,h2,h3⟩
        ·exact .inl h2
        ·exact .inr ⟨j,by rw[O_];simp[jk,h2],h3⟩
       ·exact .inr ⟨i,by rw[O_];simp[jk],rfl⟩)
     split
     ·rename_i hw;rw[aaD hw]at Un;exact Un
     ·rename_i hw;rw[aaH hw]at Un;exact⟨fun f _=>Ey ro f,Un⟩
 rw[show ops.size - k=m+(ops.size - (k+m)) by omega];have we:∀j,wg.getD (k+j) false=false:=fun j=>by rw[Lv];simp
 have JM:aP (fun j=>wg.getD (k+j) false) 0 lp rs wh=wh:=iV fun j _=>we j
 refine key m wg g _ xc Vz (fun j hj=>by rw[Lv,aaQ hj]) (fun j hj=>by rw[Lv,aaL (by omega)]) ?_ ?_ ?_ (bA.refl _ _) ?_
 ·simp only[we,Bool.not_false];rw[List.filter_eq_self.2 (by simp)];simp
 ·intro j o _ hj;simp only[we]at hj;cases hj
 ·rw[JM,←Ly];exact hr.pad lp.length
 ·intro b hb;exact .inl (hr.heap.cr b hb)
theorem tW{ops:List Oper}{o:Oper}{o':ab}(h:dU P ops true o=some o'):dU P ops false o=some (Bg o'):=by
 unfold dU at h⊢;split at h
 ·simp at h;subst h;rfl
 ·cases h
theorem uJ{ops:List Oper}:∀{L:List Oper}{l:List ab},bS (dU P ops true) L=some l->bS (dU P ops false) L=some (l.map Bg)
 |[],l,h=>by grind[bS,Option.some.injEq]
 |x::L,l,h=>by
  simp only[bS]at h;cases h1:dU P ops true x with
   |none=>grind
   |some y=>
    rw[h1]at h;cases h2:bS (dU P ops true) L with
     |none=>grind
     |some ys=>rw[h2]at h;simp at h;subst h;simp only[bS,tW h1,uJ h2,aaG]
theorem uK{α β:Type}{f:α->Option β}:∀{L:List α}{l:List β}(k:Nat),bS f L=some l->bS f (L.drop k)=some (l.drop k)
 |L,l,0,h=>by grind
 |[],l,k+1,h=>by grind[bS,Option.some.injEq]
 |x::L,l,k+1,h=>by
  simp only[bS]at h;cases h1:f x with
   |none=>grind
   |some y=>
    rw[h1]at h;cases h2:bS f L with
     |none=>grind
     |some ys=>rw[h2]at h;simp at h;subst h;simpa using uK k h2
theorem uL{ro:Option Nat}{ops:Array Oper}{Q:Exit->Act->World->Prop}(hb:∀(i:Nat)(hi:i<ops.size) (e),e∈ops[i].after->Region.binds .any e=true->e.on<i):∀(m k:Nat)(listed:Array Bool)(a:Act)(w:World),listed.size=ops.size->(∀j,listed.getD j false=decide (j<k))->k+m=ops.size->(∀(j:Nat)(hj:j<ops.size),k<j->∃e,e∈ops[j].after/\Region.binds .any e=true/\e.on=j - 1)->wpOpsIn (FR ro) 0 P ops Q (List.range' k m) a w->wpAnyIn (FR ro) 0 P .any ops Q m listed a w
 |0,k,listed,a,w,cG,hK,hm,hc,h=>by refine⟨?_,by grind[wpOpsIn]⟩;unfold Region.ready;grind[List.filter_eq_nil_iff,Array.getD_eq_getD_getElem?]
 |m+1,k,listed,a,w,cG,hK,hm,hc,h=>by
  have Cn:k<ops.size:=by omega
  have kz:ops[k]? =some ops[k]:=Array.getElem?_eq_getElem Cn;rw[acb,wpOpsIn_cons]at h;have aA:∀j,j<ops.size->listed.getD j true=decide (j<k):=fun j hj=>by grind
  constructor
  ·intro Lz;exfalso;have:k∈Region.ready .any ops listed:=by unfold Region.ready;grind
   grind
  ·intro i hi;unfold Region.ready at hi;rw[abK]at hi;have JO:i<ops.size:=by grind
   have O7:ops[i]? =some ops[i]:=Array.getElem?_eq_getElem JO;have tN:=hi.2;simp only[aas,abW,O7,aaI,abx,abO]at tN;have OJ:k<=i:=by grind
   have Ej:i=k:=by grind
   subst Ej;refine wpOpIn_mono (fun a' w' hq=>?_ ) h;refine uL hb m (i+1) _ a' w' (by simp[cG]) (fun j=>?_ ) (by omega) (fun j hj cA=>hc j hj (by omega)) hq;by_cases hji:j=i
   ·simp_all
   ·have h3:=hK j;rw[aaP]at h3⊢;grind
theorem DP.chain(hk:Nat.ble k l.length=true)(VI:nj 0 l=true)(Uj:sk k l=true)(h:WO P GL ((l.drop k).map Bg) σ (fun s=>Q .normal s)):DP P GL mm l k σ Q:=by
 intro ro ops hl listed g w a g0 w0 cG hK hR hm hE;have hk:=aax hk;obtain⟨hlen,ld⟩:=qb hl;have hw:=h ro ops k (by have:=uK k (uJ hl);rw[List.map_drop];exact this) g w a hR;have zm:=cU (Q':=dr GL g0 w0 Q) (fun e a v hp=>by have:=dr.ext hE e a v hp;cases e<;>first|exact this|(obtain⟨_,_,_,_,h⟩:=this;grind)) _ _ _ hw;refine uL (fun i hi e he hbe=>?_ ) _ k listed a w cG hK (by omega) (fun j hj cA=>?_ ) zm
 ·obtain⟨o,ho,_,_,_,EO⟩:=ld i _ (Array.getElem?_eq_getElem hi);have hea:e.on∈o.after:=by grind[iK]
  have:=kM VI i o ho e.on hea;omega
 ·obtain⟨o,ho,_,_,_,EO⟩:=ld j _ (Array.getElem?_eq_getElem hj);unfold sk at Uj;have h1:=aaJ.1 Uj j (by grind);have h2:Nat.ble j k=false:=by
   cases hb:Nat.ble j k with
    |false=>rfl
    |true=>have:=aax hb;omega
  rw[h2,Bool.false_or,ho]at h1;grind[List.contains_iff_mem,iK]
theorem iW(l:List ab):iw 0 l=l:=by
 have h:∀o,jQ 0 o=o:=fun o=>by
  have:(o.after.filter fun e=>Nat.ble 0 e)=o.after:=List.filter_eq_self.2 fun a _=>by simp_all
  simp[jQ,this]
 unfold iw;rw[abi,show jQ 0=id from funext h,List.map_id]
theorem Bi(h:nL l=true):oZ 0 l.length l=true:=by simp only[nL,aas]at h;rw[oZ,iW,h.1,List.drop_of_length_le (by grind[cY])];rfl
theorem WC.draw{qc:Nat->Option CV}{rs:List ((V×Wr)×List Nat)}(hm:P.follows .mixedOrders=true)(ep:rp GL σ.hp.length qc 0 l (lf σ l.length)=some rs)(kz:fH l rs=true)(eQ:jy σ.n l=true)(EM:iu (σ.hp.length+l.length) rs=true)(hq:∀(i:Nat)(o:ab)(r:(V×Wr)×List Nat),l[i]? =some o->rs[i]? =some r->∀f args,cK (aW GL (qd l rs (lf σ l.length) i).tm) o.op=some (f,args)->aB o.guard (qd l rs (lf σ l.length) i).tm=some true->iU P GL f args (qd l rs (lf σ l.length) i).hp (σ.hp.length+i) r.1)(h:Q .normal (aP (fun _=>true) 0 l rs (lf σ l.length))):WC P GL (.draw l) σ Q:=by exact WC.zY hm (DP.part l.length (by rw[iW,abm]) (by rw[abG];omega) (Bi (by simp only[fH,aas]at kz;exact kz.1)) ep kz eQ EM hq (by rw[aaR];exact DP.done h))
end
end Fw
/-
  A drawn region whose last operation is a call that comes after all others.
-/
namespace Fw
open Go
section
variable {P:Program}{GL:bR}
end
end Fw
