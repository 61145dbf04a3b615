/-
  Code of the abstract machine: what holds of every code that is compiled to it, in every world that fits the state.
-/
import Derived.Test.YtgfgckimecpmlaaGreatDoorFb
set_option linter.unusedSimpArgs false
set_option maxHeartbeats 1000000
set_option linter.unusedVariables false
namespace Fw
open Go
inductive Ex where
 |normal
 |exit (id:Nat)
 |ret
def di(GL:ch)(g0:G)(w0:World)(Q:Ex->St->Prop)(e:Exit)(a:Act)(w:World):Prop:=∃g σ,R GL g w a σ/\cg g0 w0 g w/\match e with
 | .normal=>Q .normal σ
 | .exit id=>Q (.exit id) σ
 | .ret=>Q .ret σ
 |_=>False
def WC(P:Program)(GL:ch)(c:IR)(σ:St)(Q:Ex->St->Prop):Prop:=∀code,aR P code=some c->∀g w a,R GL g w a σ->code.wp P (di GL g w Q) a w
def ak(P:Program)(f:FuncId):Bool:=match P.funcs[f]? with
 |some fn=>fn.body.isSome&& !(fn.name== "runtime.NumGoroutine")
 |none=>false
def WF(P:Program)(GL:ch)(f:FuncId)(args:List V)(H:ao)(Q:V->ao->Prop):Prop:=ak P f=true/\∀g w (vs:Array Value),aT g w args vs.toList->az g w H->gW GL g w->Calls P f vs w fun e w'=>∃x v g' H',e=.returned x/\Q v H'/\RV g' w' v x/\az g' w' H'/\cg g w g' w'
def WO(P:Program)(GL:ch)(l:List aj)(σ:St)(Q:St->Prop):Prop:=∀(ops:Array Oper)(k:Nat),lF P ops.toList false (ops.toList.drop k)=some l->∀g w a,R GL g w a σ->wpOps P ops (di GL g w fun e aY=>match e with| .normal=>Q aY|_=>False) (List.range' k (ops.size - k)) a w
theorem di.ext{GL:ch}{g g':G}{w w':World}{Q:Ex->St->Prop}(h:cg g w g' w')(e:Exit)(a:Act)(v:World)(hp:di GL g' w' Q e a v):di GL g w Q e a v:=by obtain⟨g2,σ,h1,h2,h3⟩:=hp;exact⟨g2,σ,h1,h.trans h2,h3⟩
theorem di.mono{GL:ch}{g:G}{w:World}{Q Q':Ex->St->Prop}(h:∀e σ,Q e σ->Q' e σ)(e:Exit)(a:Act)(v:World)(hp:di GL g w Q e a v):di GL g w Q' e a v:=by obtain⟨g2,σ,h1,h2,h3⟩:=hp;refine⟨g2,σ,h1,h2,?_⟩;grind
section
variable {P:Program}{GL:ch}
variable {σ:St}{b a:IR}{Q:Ex->St->Prop}{code:Code}
theorem Cx{o:Oper}{a:Act}{K:Act->World->Prop}{Q Q':Exit->Act->World->Prop}(h:∀e a w,Q e a w->Q' e a w){r:Result Next}(hh:o.upon P a K Q r):o.upon P a K Q' r:=by
 cases r with
  |ok n w'=>
   cases n<;>simp only[Oper.upon]at hh⊢ <;>first
    |exact hh
    |exact Calls.mono hh (fun e V0 he=>by
     cases e with
      |returned v=>exact he
      |panicked c=>grind
      |outgrown=>obtain⟨a0,w0,hq⟩:=he;exact⟨a0,w0,h _ _ _ hq⟩)
  |halt x w'=>cases x<;>simp only[Oper.upon]at hh⊢ <;>exact h _ _ _ hh
theorem dt{ops:Array Oper}{Q Q':Exit->Act->World->Prop}(h:∀e a w,Q e a w->Q' e a w):∀(l:List Nat)(a:Act)(w:World),wpOps P ops Q l a w->wpOps P ops Q' l a w
 |[],a,w,hh=>h _ _ _ hh
 |i::Cq,a,w,hh=>by
  simp only[wpOps]at hh⊢;split
  ·rename_i hn;simp only[hn]at hh;exact dt h Cq a w hh
  ·rename_i o ho;simp only[ho]at hh;split
   ·rename_i hw;simp only[hw,abL]at hh;rcases hh with hh|⟨h1,a0,w0,h2⟩
    ·exact .inl (Oper.wp_mono (fun a w=>dt h Cq a w) (Cx h hh))
    ·exact .inr ⟨h1,a0,w0,h _ _ _ h2⟩
   ·rename_i hw;simp only[hw]at hh;exact dt h Cq _ w hh
theorem WC.mono{c:IR}{Q':Ex->St->Prop}(h:WC P GL c σ Q)(hq:∀e σ,Q e σ->Q' e σ):WC P GL c σ Q':=fun code hc g w a hr=>wp_mono (h code hc g w a hr) (fun e a' w' hp=>di.mono hq e a' w' hp)
theorem WF.mono{f:FuncId}{args:List V}{H:ao}{Q Q':V->ao->Prop}(h:WF P GL f args H Q)(hq:∀v H',Q v H'->Q' v H'):WF P GL f args H Q':=⟨h.1,fun g w vs h1 h2 h3=>(h.2 g w vs h1 h2 h3).mono fun _ _ ⟨x,v,g',H',e1,e2,e3⟩=>⟨x,v,g',H',e1,hq _ _ e2,e3⟩⟩
theorem WC.skip(h:Q .normal σ):WC P GL .skip σ Q:=by
 intro code hc g w a hr;have:code=.skip:=by cases code<;>simp[aR]at hc;all_goals grind
 subst this;exact wp_skip ⟨g,σ,hr,cg.refl _ _,h⟩
theorem Hb(hc:aR P code=some (.seq a b)):∃x y,code=.seq x y/\aR P x=some a/\aR P y=some b:=by
 cases code with
  |seq x y=>grind[aR,Option.some.injEq,IR.seq.injEq]
  |region=>grind[aR]
  |cond=>grind[aR]
  |_=>simp[aR]at hc
theorem WC.seq(h:WC P GL a σ (fun e aY=>match e with| .normal=>WC P GL b aY Q|e=>Q e aY)):WC P GL (.seq a b) σ Q:=by
 intro code hc g w xh hr;obtain⟨x,y,rfl,hx,hy⟩:=Hb hc;refine wp_seq (wp_mono (h x hx g w xh hr) fun e a' w' hp=>?_ );obtain⟨g2,wE,h1,h2,h3⟩:=hp;cases e with
  |normal=>exact wp_mono (h3 y hy g2 w' a' h1) (di.ext h2)
  |exit id=>exact⟨g2,wE,h1,h2,h3⟩
  |ret=>exact⟨g2,wE,h1,h2,h3⟩
  |goto l=>grind
  |panic c=>grind
  |outgrown=>grind
theorem Fj{c:a_}(hc:aR P code=some (.cond c a b)):∃o x y,code=.cond o x y/\ar o=some c/\aR P x=some a/\aR P y=some b:=by
 cases code with
  |cond o x y=>grind[aR,Option.some.injEq,IR.cond.injEq]
  |region=>grind[aR]
  |seq=>grind[aR]
  |_=>simp[aR]at hc
theorem WC.cond{c:a_}{t:Bool}(ht:aZ GL σ.tm c=.d (.bool t))(h:WC P GL (bif t then a else b) σ Q):WC P GL (.cond c a b) σ Q:=by
 intro code hc g w xh hr;obtain⟨o,x,y,rfl,ho,hx,hy⟩:=Fj hc;have hv:=hr.ev _ _ ho;rw[ht]at hv;cases t with
  |true=>exact wp_cond (RV.bool hv) (h x hx g w xh hr)
  |false=>exact wp_cond (RV.bool hv) (h y hy g w xh hr)
theorem Cy{id:Nat}(hc:aR P code=some (.block id b)):∃x,code=.block id x/\aR P x=some b:=by cases code<;>grind[aR,Option.map_eq_some_iff,IR.block.injEq]
theorem WC.block{id:Nat}(h:WC P GL b σ (fun e aY=>match e with| .exit i=>if i=id then Q .normal aY else Q (.exit i) aY|e=>Q e aY)):WC P GL (.block id b) σ Q:=by
 intro code hc g w xh hr;obtain⟨x,rfl,hx⟩:=Cy hc;refine wp_block (wp_mono (h x hx g w xh hr) fun e a' w' hp=>?_ );obtain⟨g2,wE,h1,h2,h3⟩:=hp;cases e with
  |normal=>exact⟨g2,wE,h1,h2,h3⟩
  |exit i=>
   simp only[Exit.inBlock];by_cases hi:i=id
   ·simp only[hi,abL]at h3⊢;exact⟨g2,wE,h1,h2,h3⟩
   ·simp only[hi,abM]at h3⊢;exact⟨g2,wE,h1,h2,h3⟩
  |ret=>exact⟨g2,wE,h1,h2,h3⟩
  |goto l=>grind
  |panic c=>grind
  |outgrown=>grind
theorem WC.exit{id:Nat}{σ:St}{Q:Ex->St->Prop}(h:Q (.exit id) σ):WC P GL (.exit id) σ Q:=by
 intro code hc g w xh hr;cases code with
  |exit i=>simp only[aR,aaC,IR.exit.injEq]at hc;subst hc;exact wp_exit ⟨g,σ,hr,cg.refl _ _,h⟩
  |region=>grind[aR]
  |seq=>grind[aR]
  |cond=>grind[aR]
  |_=>simp[aR]at hc
theorem WC.ret{σ:St}{Q:Ex->St->Prop}(h:Q .ret σ):WC P GL .ret σ Q:=by
 intro code hc g w xh hr;cases code with
  |ret=>exact wp_ret ⟨g,σ,hr,cg.refl _ _,h⟩
  |region=>grind[aR]
  |seq=>grind[aR]
  |cond=>grind[aR]
  |_=>simp[aR]at hc
theorem Fk(hc:aR P code=some (.loop b)):∃x,code=.loop x/\aR P x=some b:=by cases code<;>grind[aR,Option.map_eq_some_iff,IR.loop.injEq]
theorem Hc{p:Nat->Prop}(h:∃n,p n):∃n,p n/\∀m,p m->n<=m:=by obtain⟨n,hn⟩:=h;induction n using Nat.strongRecOn<;>grind
open Classical in
noncomputable def leastOf(p:Nat->Prop):Nat:=if h:∃n,p n then choose (Hc h)else 0
theorem leastOf_spec{p:Nat->Prop}(h:∃n,p n):p (leastOf p)/\∀m,p m->leastOf p<=m:=by unfold leastOf;grind
theorem WC.loop(I:Nat->St->Prop)(h:∀n σ,I n σ->WC P GL b σ (fun e aY=>match e with| .normal=>∃m,m<n/\I m aY|e=>Q e aY)){n:Nat}(h0:I n σ):WC P GL (.loop b) σ Q:=by
 intro code hc g w xh hr;obtain⟨x,rfl,hx⟩:=Fk hc;let J:Act->World->Nat->Prop:=fun a' w' n=>∃g' aY,I n aY/\R GL g' w' a' aY/\cg g w g' w'
 refine wp_loop (fun a' w'=>∃n,J a' w' n) (fun a' w'=>leastOf (J a' w')) ⟨n,g,σ,h0,hr,cg.refl _ _⟩ ?_;intro a' w' hJ;obtain⟨⟨g1,xi,i1,r1,e1⟩,Ke⟩:=leastOf_spec hJ;refine wp_mono (h _ xi i1 x hx g1 w' a' r1) fun e a2 w2 hp=>?_
 obtain⟨g2,wE,r2,e2,h3⟩:=hp;cases e with
  |normal=>obtain⟨m,hm,im⟩:=h3;have hJ2:∃n,J a2 w2 n:=⟨m,g2,wE,im,r2,e1.trans e2⟩;exact⟨hJ2,ab6 ((leastOf_spec hJ2).2 m ⟨g2,wE,im,r2,e1.trans e2⟩) hm⟩
  |exit i=>exact⟨g2,wE,r2,e1.trans e2,h3⟩
  |ret=>exact⟨g2,wE,r2,e1.trans e2,h3⟩
  |goto l=>grind
  |panic c=>grind
  |outgrown=>grind
def St.put(σ:St)(dst:Option Nat)(v:V)(H:ao):Option St:=match dst with
 |none=>some ⟨σ.n,σ.tm,H⟩
 |some d=>bif Nat.blt d σ.n then some ⟨σ.n,Fw.put σ.tm d v,H⟩else none
def aA(gd:Option (Nat×Bool))(tm:List (Nat×V)):Option Bool:=match gd with
 |none=>some true
 |some (d,qo)=>
  match get tm d with
   | .d (.bool b)=>some (b==qo)
   | .tuple []=>some false
   |_=>none
theorem R.j6{g g':G}{w w':World}{a:Act}{aY:St}{H':ao}{dst:Option Nat}{v:V}{x:Value}(h:R GL g w a σ)(e:cg g w g' w')(hh:az g' w' H')(hp:σ.put dst v H'=some aY)(hv:RV g' w' v x):R GL g' w' (a.put dst x) aY:=by
 cases dst with
  |none=>simp only[St.put,aaC]at hp;subst hp;exact h.GR e hh x
  |some d=>
   simp only[St.put]at hp;cases hb:Nat.blt d σ.n with
    |false=>grind
    |true=>rw[hb]at hp;simp only[aaJ,aaC]at hp;subst hp;exact h.put e hh d v x (by simp_all) hv
theorem eP{ops:Array Oper}{o:Oper}{gd:Option (Nat×Bool)}{g:G}{w:World}{a:Act}{b:Bool}(h:R GL g w a σ)(hg:gC ops.toList o=some gd)(hb:aA gd σ.tm=some b):Region.wanted o (yielded ops a.tmps)=b:=by
 unfold gC at hg;unfold Region.wanted;cases ho:o.guard with
  |none=>grind[Option.some.injEq,aA]
  |some p=>
   obtain⟨j,qo⟩:=p;simp only[ho]at hg;split at hg
   ·rename_i d hd;simp only[aaC]at hg;subst hg;simp only[aA]at hb;split at hb
    ·rename_i t ht;simp only[aaC]at hb;have hv:=h.tmps d;rw[ht]at hv;have hv:=RV.bool hv;have:yielded ops a.tmps j=some t:=by
      unfold yielded;have e:ops[j]? =ops.toList[j]? :=by simp
      rw[e,hd];simp only[Option.bind_some];rw[aaW]at hv;grind[undef]
     simp_all
    ·rename_i ht;simp only[aaC]at hb;have hv:=h.tmps d;rw[ht]at hv;simp only[RV]at hv;obtain⟨x,hx,E9⟩:=hv;have:yielded ops a.tmps j=none:=by
      unfold yielded;have e:ops[j]? =ops.toList[j]? :=by simp
      rw[e,hd];simp only[Option.bind_some];rw[aaW]at hx;grind
     grind
    ·cases hb
   ·cases hg
theorem WO.nil{Q:St->Prop}(h:Q σ):WO P GL [] σ Q:=by
 intro ops k hc g w a hr;have hk:ops.size - k=0:=by have:=cA hc;grind
 rw[hk];exact⟨g,σ,hr,cg.refl _ _,h⟩
theorem WO.step{o:aj}{l:List aj}{Q:St->Prop}(h:∀(o':Oper)(ops:Array Oper),(bq P o'.op).getD .bad=o.op->gC ops.toList o'=some o.guard->o'.dst=o.dst->∀g w a,R GL g w a σ->∀(K:Act->World->Prop)(Q':Exit->Act->World->Prop),(∀g' w' a' aY,R GL g' w' a' aY->cg g w g' w'->WO P GL l aY Q->K a' w')->if Region.wanted o' (yielded ops a.tmps)then o'.wp P a w K Q' else K (a.put o'.dst undef) w):WO P GL (o::l) σ Q:=by
 intro ops k hc g w a hr;have hl:=cA hc;simp at hl;have hk:k<ops.size:=by omega
 have Qj:ops.toList.drop k=ops[k]::ops.toList.drop (k+1):=by rw[ab8 (by grind)];simp
 rw[Qj]at hc;simp only[lF,bW]at hc;split at hc
 ·cases hc
 ·rename_i io Ns;split at hc
  ·cases hc
  ·rename_i l' P9;simp only[aaC,ac7]at hc;obtain⟨rfl,rfl⟩:=hc;simp only[fg]at Ns;split at Ns
   ·rename_i gd tR;have kx:(bq P ops[k].op).getD .bad=(bq P ops[k].op).getD .bad:=rfl;simp only[aaC]at Ns;subst Ns;rw[show ops.size - k=(ops.size - (k+1))+1 by omega,List.range'_succ,wpOps_cons];unfold wpOp;have iL:ops[k]? =some ops[k]:=Array.getElem?_eq_getElem hk;simp only[iL];have key:=h ops[k] ops kx tR rfl g w a hr (wpOps P ops (di GL g w fun e aY=>match e with| .normal=>Q aY|_=>False) (List.range' (k+1) (ops.size - (k+1)))) (di GL g w fun e aY=>match e with| .normal=>Q aY|_=>False) (by
     intro g' w' a' aY jH he Nt;have:=Nt ops (k+1) P9 g' w' a' jH;have aab:∀(l:List Nat)(a:Act)(v:World),wpOps P ops (di GL g' w' fun e aY=>match e with| .normal=>Q aY|_=>False) l a v->wpOps P ops (di GL g w fun e aY=>match e with| .normal=>Q aY|_=>False) l a v:=by intro l a v hw;exact dt (di.ext he) l a v hw
     grind)
    grind
   grind
end
end Fw
/-
  Operations in a row: one that calls nothing, one that is passed over, calls; regions; a function from its body.
-/
namespace Fw
open Go
section
variable {P:Program}{GL:ch}
variable {σ:St}{f:FuncId}{o:aj}{l:List aj}{Q:St->Prop}
theorem WO.bE{o:aj}{l:List aj}{σ aY:St}{Q:St->Prop}{v:V}{wr:Wr}(hg:aA o.guard σ.tm=some true)(he:bE (aZ GL σ.tm) σ.hp σ.hp.length o.op=some (v,wr))(hp:σ.put o.dst v (br σ.hp wr)=some aY)(h:WO P GL l aY Q):WO P GL (o::l) σ Q:=by
 refine WO.step fun o' ops kx tR gG g w a hr K Q' hK=>?_
 rw[eP hr tR hg,aaK rfl];obtain⟨g',w',nx,h1,h2,h3,h4,_⟩:=zV (P:=P) (a:=a) (o:=o') (gP kx (fun e=>by rw[e]at he;cases he)) he hr.ev hr.heap hr.heap.fresh;unfold Oper.wp;rw[h1];rcases h2 with⟨x,rfl,hx⟩|⟨rfl,rfl⟩
 ·simp only[Oper.upon];rw[gG];exact hK g' w' _ aY (hr.j6 h4 h3 hp hx) h4 h
 ·simp only[Oper.upon];rw[gG];exact hK g' w' _ aY (hr.j6 h4 h3 hp (by simp only[RV])) h4 h
theorem WO.skip{aY:St}(hg:aA o.guard σ.tm=some false)(hp:σ.put o.dst (.tuple []) σ.hp=some aY)(h:WO P GL l aY Q):WO P GL (o::l) σ Q:=by
 refine WO.step fun o' ops kx tR gG g w a hr K Q' hK=>?_
 rw[eP hr tR hg,aaF (by simp),gG];exact hK g w _ aY (hr.j6 (cg.refl _ _) hr.heap hp (by simp only[RV];exact⟨#[],rfl,by simp[aT]⟩)) (cg.refl _ _) h
theorem iR(h:ak P f=true)(args:Array Value)(w:World):(callFunc f args).run P w=.ok (.enter f args) w:=by
 unfold ak at h;split at h
 ·rename_i fn hf;simp only[aaD,aa5]at h;have h2:¬fn.body=none:=by grind
  simp_all[callFunc]
 ·cases h
theorem j7{op:Op}{io:lv}(h:bq P op=some io)(Ns:(∃f l,io=.call f l)\/∃x l,io=.gV x l):∃c,op=.call c/\dQ P c=some io:=by
 cases op with
  |call c=>grind[bq]
  |makeFunc fn a b=>exfalso;cases fn<;>(grind[bq])
  |makeMap t r=>exfalso;cases r<;>(grind[bq])
  |slice t x lo hi mx=>exfalso;cases mx<;>cases lo<;>cases hi<;>(simp only[bq]at h;(repeat' split at h)<;>(rcases Ns with⟨f,l,rfl⟩|⟨x,l,rfl⟩<;>simp at h))
  |_=>exfalso;simp only[bq]at h;(repeat' split at h)<;>(rcases Ns with⟨f,l,rfl⟩|⟨x,l,rfl⟩<;>simp at h)
theorem WO.DI{args:List V}(hg:aA o.guard σ.tm=some true)(fA:∀(o':Oper)(g:G)(w:World)(a:Act),(bq P o'.op).getD .bad=o.op->R GL g w a σ->ak P f=true->∃vs:Array Value,aT g w args vs.toList/\(execOp a.eval o').run P w=.ok (.enter f vs) w)(h:WF P GL f args σ.hp fun v H'=>∃aY,σ.put o.dst v H'=some aY/\WO P GL l aY Q):WO P GL (o::l) σ Q:=by
 refine WO.step fun o' ops kx tR gG g w a hr K Q' hK=>?_
 rw[eP hr tR hg,aaK rfl];obtain⟨vs,dU,GG⟩:=fA o' g w a kx hr h.1;unfold Oper.wp;rw[GG];simp only[Oper.upon];refine(h.2 g w vs dU hr.heap hr.dJ).mono ?_;rintro e w' ⟨x,v,g',H',rfl,⟨aY,bJ,Nt⟩,hx,hh,he⟩;simp only;rw[gG];exact hK g' w' _ aY (hr.j6 he hh bJ hx) he Nt
theorem WO.call{args:List a_}(ho:o.op=.call f args)(hg:aA o.guard σ.tm=some true)(h:WF P GL f (bu (aZ GL σ.tm) args) σ.hp fun v H'=>∃aY,σ.put o.dst v H'=some aY/\WO P GL l aY Q):WO P GL (o::l) σ Q:=by
 refine WO.DI hg (fun o' g w a kx hr Cz=>?_ ) h;rw[ho]at kx;obtain⟨c,hc,Mb⟩:=j7 (gP kx (by simp)) (.inl ⟨f,args,rfl⟩);have fT:c.callee=.value (.func f)/\bW ar c.args.toList=some args:=by unfold dQ at Mb;grind[Option.map_eq_some_iff,lv.call.injEq]
 refine⟨c.args.map a.eval,by simpa using jX hr.ev fT.2,?_ ⟩;have:=iR Cz (c.args.map a.eval) w;simp_all[execOp,resolve,Act.eval,Deferred.ofValue,invoke]
theorem WO.gV{x:a_}{first cap:List V}{args:List a_}(ho:o.op=.gV x args)(hx:aZ GL σ.tm x=.func f first cap)(hg:aA o.guard σ.tm=some true)(h:WF P GL f (first++bu (aZ GL σ.tm) args++cap) σ.hp fun v H'=>∃aY,σ.put o.dst v H'=some aY/\WO P GL l aY Q):WO P GL (o::l) σ Q:=by
 refine WO.DI hg (fun o' g w a kx hr Cz=>?_ ) h;rw[ho]at kx;obtain⟨c,hc,Mb⟩:=j7 (gP kx (by simp)) (.inr ⟨x,args,rfl⟩);have fT:∃t,c.callee=.value (.tmp t)/\x=.t t/\bW ar c.args.toList=some args:=by unfold dQ at Mb;grind[Option.map_eq_some_iff,lv.gV.injEq]
 obtain⟨t,ht,rfl,nf⟩:=fT;have hv:=hr.ev (.tmp t) (.t t) rfl;rw[hx]at hv;simp only[RV]at hv;obtain⟨p,q,e1,e2,e3⟩:=hv;refine⟨p++c.args.map a.eval++q,?_,?_⟩
 ·simp only[Array.toList_append,Array.toList_map];exact aT.append (aT.append e2 (jX hr.ev nf)) e3
 ·have:=iR Cz (p++c.args.map a.eval++q) w;grind[Array.append_assoc,execOp,resolve,Deferred.ofValue,invoke]
theorem WC.region{l:List aj}{σ:St}{Q:Ex->St->Prop}(h:WO P GL l σ fun aY=>Q .normal aY):WC P GL (.region l) σ Q:=by
 intro code hc g w xh hr;cases code with
  |region id ops draw=>
   simp only[aR]at hc;split at hc
   ·rename_i l' P9;cases draw with
     |true=>simp at hc
     |false=>simp at hc;subst hc;refine wp_region ?_;have:=h ops 0 (by grind) g w xh hr;rw[List.range_eq_range'];simp only[acX]at this;exact dt (fun e a v hp=>by obtain⟨g2,wE,h1,h2,h3⟩:=hp;cases e<;>first|exact⟨g2,wE,h1,h2,h3⟩|grind) _ _ _ this
   ·cases hc
  |seq=>grind[aR]
  |cond=>grind[aR]
  |_=>simp[aR]at hc
def wP:Nat->List V->List (Nat×V)|_,[]=>[]|n,v::vs=>(n,v)::wP (n+1) vs
theorem zX(vs:List V)(n t:Nat):get (wP n vs) t=if t<n then .any else(vs[t - n]? ).getD .any:=by
 induction vs generalizing n with
  |nil=>simp[wP,get]
  |cons v vs ih=>
   simp only[wP,get];by_cases h:n=t
   ·subst h;simp
   ·rw[cB h,aaT,ih];grind
def fB(σ:St):iv->Option V
 | .t n=>some (get σ.tm n)
 | .cell n size agg=>
  match jR σ.hp size (get σ.tm n)with
   |some cs=>B_ agg cs
   |none=>none
def gH(rs:List iv)(σ:St):Option V:=match bW (fB σ) rs with
 |some [v]=>some v
 |some vs=>some (.tuple vs)
 |none=>none
def yk(a:Act):ResultVar->Sem Value| .tmp t=>pure (a.tmps.getD t undef)| .cell b t=>do loadVar t (←asAddr (a.tmps.getD b undef))
theorem Fl{g:G}{w:World}{a:Act}{r:ResultVar}{r':iv}{v:V}(h:R GL g w a σ)(hc:nR P r=some r')(hv:fB σ r'=some v):∃x,(yk a r).run P w=.ok x w/\RV g w v x:=by
 cases r with
  |tmp t=>simp only[nR,aaC]at hc;subst hc;simp only[fB,aaC]at hv;subst hv;exact⟨_,rfl,h.tmps t⟩
  |cell b t=>
   simp only[nR]at hc;split at hc
   ·rename_i n ag hn Cs;split at hc
    ·simp only[aaC]at hc;subst hc;simp only[fB]at hv;split at hv
     ·rename_i cs qz;obtain⟨aU,off,vs,e1,e2,e3,e4⟩:=zM qz (h.tmps b) h.heap;obtain⟨h3,h4⟩:=Cm hv e3;refine⟨_,?_,h3⟩;simp only[yk,Sem.run_bind,e1,asAddr,Sem.run_pure,Result.andThen_ok];exact na hn Cs e2 h4 e4
     ·cases hv
    ·cases hc
   ·cases hc
theorem uP{g:G}{w:World}{a:Act}{fn:Func}{rs:List iv}{v:V}(h:R GL g w a σ)(hc:bW (nR P) fn.results.toList=some rs)(hv:gH rs σ=some v):∃x,(results fn a.tmps).run P w=.ok x w/\RV g w v x:=by
 have key:∀(l:List ResultVar)(rs:List iv)(vs:List V),bW (nR P) l=some rs->bW (fB σ) rs=some vs->∃xs:List Value,(l.mapM (yk a)).run P w=.ok xs w/\aT g w vs xs:=by
  intro l;induction l with
   |nil=>simp_all[bW,aaC,aT]
   |cons r l ih=>
    intro rs vs h1 h2;simp only[bW]at h1;split at h1
    ·cases h1
    ·rename_i r' jH;split at h1
     ·cases h1
     ·rename_i Fm Wv;simp only[aaC]at h1;subst h1;simp only[bW]at h2;split at h2
      ·cases h2
      ·rename_i v' jF;split at h2
       ·cases h2
       ·rename_i V1 Nv;simp only[aaC]at h2;subst h2;obtain⟨x,k1,k2⟩:=Fl h jH jF;obtain⟨xs,k3,k4⟩:=ih _ _ Wv Nv;simp_all[aT,List.mapM_cons,Sem.run_bind,Result.andThen_ok,Sem.run_pure]
 unfold gH at hv;cases hm:bW (fB σ) rs with
  |none=>grind
  |some vs=>
   obtain⟨xs,k1,k2⟩:=key _ _ _ hc hm;have hl:=k2.length;have fA:(results fn a.tmps).run P w=.ok (if h:xs.toArray.size=1 then xs.toArray[0]else .tuple xs.toArray) w:=by
    have aal:results fn a.tmps=(do let vs←fn.results.mapM (yk a);pure (if h:vs.size=1 then vs[0]else .tuple vs)):=by unfold results;congr 1
    grind[Array.mapM_eq_mapM_toList,Sem.run_bind,Sem.run_map,Result.andThen_ok,Sem.run_pure]
   refine⟨_,fA,?_⟩;rw[hm]at hv;cases vs with
    |nil=>grind[Option.some.injEq,RV]
    |cons v1 vs=>
     cases vs with
      |nil=>simp only[aaC]at hv;subst hv;cases xs<;>grind[aT]
      |cons v2 vs=>grind[Option.some.injEq,RV]
theorem WF.body{fn:ca}{args:List V}{H:ao}{Q:V->ao->Prop}(hf:aC P f=some fn)(Cz:ak P f=true)(hn:args.length<=fn.ntmps)(h:WC P GL fn.body ⟨fn.ntmps,wP 0 args,H⟩ (fun e σ=>match e with| .exit _=>False|_=>∃v,gH fn.res σ=some v/\Q v σ.hp)):WF P GL f args H Q:=by
 refine⟨Cz,fun g w vs dU hh hg=>?_ ⟩;unfold aC at hf;split at hf
 ·cases hf
 ·rename_i Ww Hd;split at hf
  ·cases hf
  ·rename_i c Qk;split at hf
   ·rename_i b r hb hr;simp only[aaC]at hf;subst hf;have hlen:=dU.length;simp at hlen hn;refine calls_of_wp Hd Qk (wp_mono (h c hb g w _ ?_ ) fun e a' w' hp=>?_ )
    ·refine⟨rfl,by simp;omega,fun t=>?_,hh,hg⟩;simp only[zX,Nat.not_lt_zero,abM,acX];by_cases ht:t<args.length
     ·have Mf:args[t]? =some args[t]:=aaI ht;obtain⟨x,Mg,Ca⟩:=dU.get t Mf;rw[Mf,abE];have Ws:vs[t]? =some x:=by grind
      have zD:t<vs.size:=by omega
      have:(vs++Array.replicate (Ww.ntmps - vs.size) undef).getD t undef=x:=by rw[aaW,Array.getElem?_append_left zD,Ws];rfl
      grind
     grind[RV]
    ·obtain⟨g2,wE,k1,k2,k3⟩:=hp;cases e with
      |normal=>obtain⟨v,hv,hq⟩:=k3;obtain⟨x,Mg,Ca⟩:=uP k1 hr hv;exact⟨k1.defers,x,Mg,x,v,g2,wE.hp,rfl,hq,Ca,k1.heap,k2⟩
      |ret=>obtain⟨v,hv,hq⟩:=k3;obtain⟨x,Mg,Ca⟩:=uP k1 hr hv;exact⟨k1.defers,x,Mg,x,v,g2,wE.hp,rfl,hq,Ca,k1.heap,k2⟩
      |exit i=>grind
      |goto l=>grind
      |panic c=>grind
      |outgrown=>grind
   ·cases hf
end
end Fw
/-
  A step of an iterator over a map: every entry that has not come yet may come next.
-/
namespace Fw
open Go
section
variable {P:Program}{GL:ch}
def dn(bO:Array MapEntry)(sa:Array Nat)(n:Nat):Array (Option MapEntry):=let left:=bO.filter fun e=> !sa.contains e.born;let ue:=left.filter (·.born<n);let new:=left.filter (·.born>=n);(if ue.isEmpty then #[none]else #[])++(ue++new).map some
theorem ng{bO:Array MapEntry}{sa:Array Nat}(h:∀(i:Nat)(x:MapEntry),bO[i]? =some x->x.born=i):(dn bO sa bO.size= #[none]/\∀i,i<bO.size->i∈sa.toList)\/(0<(dn bO sa bO.size).size/\∀(j:Nat)(c:Option MapEntry),(dn bO sa bO.size)[j]? =some c->∃i e,c=some e/\bO[i]? =some e/\e.born=i/\i∉sa.toList):=by
 have hb:∀e∈bO,e.born<bO.size/\bO[e.born]? =some e:=by intro e he;obtain⟨i,hi,rfl⟩:=Array.mem_iff_getElem.1 he;have:=h i _ (Array.getElem?_eq_getElem hi);grind
 have zQ:(bO.filter fun e=> !sa.contains e.born).filter (·.born<bO.size)=bO.filter fun e=> !sa.contains e.born:=by apply Array.filter_eq_self.2;grind
 have He:(bO.filter fun e=> !sa.contains e.born).filter (·.born>=bO.size)= #[]:=by apply Array.filter_eq_empty_iff.2;grind
 unfold dn;simp only[zQ,He,Array.append_empty];cases hl:(bO.filter fun e=> !sa.contains e.born).isEmpty with
  |true=>left;have he:=Array.isEmpty_iff.1 hl;refine⟨by grind,fun i hi=>?_ ⟩;have:=Array.filter_eq_empty_iff.1 he bO[i] (Array.getElem_mem hi);rw[h i _ (Array.getElem?_eq_getElem hi)]at this;grind
  |false=>
   right;have fq:(bO.filter fun e=> !sa.contains e.born)≠ #[]:=fun he=>by grind
   refine⟨?_,fun j c hc=>?_ ⟩
   ·grind
   ·simp only[abn,abM,Array.empty_append,Array.getElem?_map,aaG]at hc;obtain⟨e,he,rfl⟩:=hc;have hm:=Array.mem_of_getElem? he;grind
theorem Fo{op:Op}{x:a_}(h:bq P op=some (.mZ x)):∃it,op=.next it false/\ar it=some x:=by
 cases op with
  |next it s=>grind[bq,Option.map_eq_some_iff,lv.mZ.injEq]
  |makeFunc fn a b=>exfalso;cases fn<;>(grind[bq])
  |makeMap t r=>exfalso;cases r<;>(grind[bq])
  |slice t x lo hi mx=>exfalso;cases mx<;>cases lo<;>cases hi<;>(simp only[bq]at h;(repeat' split at h)<;>simp at h)
  |call c=>exfalso;simp only[bq,dQ]at h;(repeat' split at h)<;>simp at h
  |_=>exfalso;simp only[bq]at h;(repeat' split at h)<;>simp at h
theorem WO.mZ{o:aj}{l:List aj}{σ:St}{Q:St->Prop}{x:a_}{b m n:Nat}{seen:List Nat}{es:List (D×V)}(ho:o.op=.mZ x)(hg:aA o.guard σ.tm=some true){m':Nat}(hx:aZ GL σ.tm x=.iter b m')(hb:aF σ.hp b=some (.iH m n seen))(hm:aF σ.hp m=some (.map es))(hn:es.length=n)(h1:∀i k v,es[i]? =some (k,v)->i∉seen->∃aY,σ.put o.dst (.tuple [.d (.bool true),.d k,v]) (bJ σ.hp b (.iH m n (seen++[i])))=some aY/\WO P GL l aY Q)(h2:(∀i,i<n->i∈seen)->∃aY,σ.put o.dst (.tuple [.d (.bool false)]) σ.hp=some aY/\WO P GL l aY Q):WO P GL (o::l) σ Q:=by
 refine WO.step fun o' ops kx tR gG g w a hr K Q' hK=>?_
 rw[eP hr tR hg,aaK rfl];rw[ho]at kx;obtain⟨it,hc,hit⟩:=Fo (gP kx (by simp));have hv:=hr.ev _ _ hit;rw[hx]at hv;simp only[RV]at hv;obtain⟨xb,qq⟩:=hr.heap.back b _ hb;obtain⟨_,y,hy,Hf⟩:=hr.heap.live b xb qq;rw[hb]at hy;simp only[aaC]at hy;subst hy;obtain⟨aU,rfl,L9⟩:=hv.2 xb qq;simp only[RB]at Hf;obtain⟨mb,sa,k1,k2,k3,k4⟩:=Hf;obtain⟨xm,J_⟩:=hr.heap.back m _ hm;obtain⟨_,y,hy,Cn⟩:=hr.heap.live m xm J_;rw[hm]at hy;simp only[aaC]at hy;subst hy;obtain rfl:=k4 xm J_;simp only[RB]at Cn;obtain⟨bO,clock,m1,m2,m3,m4,m5⟩:=Cn;have Kf:aU<w.heap.size:=(abP.1 k1).1;have hn2:n=bO.size:=by omega
 have Ql:(!sa.isEmpty&& !bO.isEmpty&&bO.all (·.born>=n))=false:=by
  cases he:bO.isEmpty with
   |true=>simp
   |false=>
    have pD:0<bO.size:=by grind
    have:bO.all (·.born>=n)=false:=by rw[Array.all_eq_false];refine⟨0,pD,?_⟩;have:=m4 0 _ (Array.getElem?_eq_getElem pD);grind
    simp[this]
 have Qm:∀r,(∀q,q=Question.mapNext (dn bO sa n).size->(do
  match(dn bO sa n)[←choose q]? with
   |some (some e)=>setObj aU (.mapIter (some mb) n (sa.push e.born) clock);pure (.tuple #[.bool true,e.key,e.val])
   |some none=>pure (.tuple #[.bool false])
   |none=>stuck "Next: no such candidate":Sem Value).run P w=r)->(Instr.next (a.eval it) false o'.type).run P w=r:=by intro r h;rw[←h _ rfl];simp only[Instr.next,L9,Sem.run_bind,getObj,Sem.run,k1,m1,Result.andThen_ok,Ql,abn,abM,dn];rfl
 have fA:∃r,(Instr.next (a.eval it) false o'.type).run P w=r/\(
  (∃d i e,bO[i]? =some e/\e.born=i/\i∉sa.toList/\r=.ok (.tuple #[.bool true,e.key,e.val]) {w with drawn:=d,heap:=w.heap.setIfInBounds aU (.mapIter (some mb) n (sa.push i) n)})\/
  (∃d,(∀i,i<n->i∈sa.toList)/\r=.ok (.tuple #[.bool false]) {w with drawn:=d})):=by
  refine⟨_,Qm _ (fun q hq=>by subst hq;rfl),?_⟩;have key:∀(t d:Nat),t<(dn bO sa n).size->∀r,r=((match(dn bO sa n)[t]? with
   |some (some e)=>
    do
     setObj aU (.mapIter (some mb) n (sa.push e.born) clock)
     pure (.tuple #[.bool true,e.key,e.val])
   |some none=>pure (.tuple #[.bool false])
   |none=>stuck "Next: no such candidate":Sem Value).run P {w with drawn:=d})->(
   (∃d i e,bO[i]? =some e/\e.born=i/\i∉sa.toList/\r=.ok (.tuple #[.bool true,e.key,e.val]) {w with drawn:=d,heap:=w.heap.setIfInBounds aU (.mapIter (some mb) n (sa.push i) n)})\/
   (∃d,(∀i,i<n->i∈sa.toList)/\r=.ok (.tuple #[.bool false]) {w with drawn:=d})):=by
   intro t d ht r hr;rw[hn2]at ht hr⊢;rcases ng (sa:=sa) m4 with⟨e1,e2⟩|⟨e1,e2⟩
   ·right;refine⟨d,e2,?_⟩;rw[e1]at ht hr;obtain rfl:t=0:=by grind
    rw[hr];simp
   ·left;obtain⟨c,hc⟩:∃c,(dn bO sa bO.size)[t]? =some c:=⟨_,Array.getElem?_eq_getElem ht⟩;obtain⟨i,e,rfl,f1,f2,f3⟩:=e2 t c hc;refine⟨d,i,e,f1,f2,f3,?_⟩;rw[hr,hc];have k1':w.heap[aU]? =some (Obj.mapIter (some mb) bO.size sa bO.size):=by grind
    simp[setObj,Sem.run,f2,m5,k1',-Array.getElem?_eq_getElem]
  have pD:0<(dn bO sa n).size:=by rw[hn2];rcases ng (sa:=sa) m4 with⟨e1,_⟩|⟨e1,_⟩;all_goals grind
  simp only[choose,Sem.run_bind,Sem.run];by_cases hf:(Question.mapNext (dn bO sa n).size).forced=true
  ·rw[aaK hf];exact key 0 w.drawn pD _ rfl
  ·rw[aaF hf];exact key _ _ (abN _ pD) _ rfl
 obtain⟨r,yl,Ff⟩:=fA;have GG:∀v w',r=.ok v w'->(execOp a.eval o').run P w=.ok (.value v) w':=by intro v w' e;rw[e]at yl;simp[execOp,hc,yl]
 unfold Oper.wp;rcases Ff with⟨d,i,e,f1,f2,f3,rfl⟩|⟨d,f1,rfl⟩
 ·rw[GG _ _ rfl];simp only[Oper.upon];rw[gG];obtain⟨hi,_⟩:=abP.1 f1;have Qf:i<es.length:=by omega
  obtain⟨z,z1,z2,z3,z4⟩:=m3 i (es[i]).1 (es[i]).2 (aaI Qf);rw[f1]at z1;simp only[aaC]at z1;subst z1;obtain⟨aY,hp,Nt⟩:=h1 i (es[i]).1 (es[i]).2 (aaI Qf) (by grind);have he:cg g w g {w with drawn:=d,heap:=w.heap.setIfInBounds aU (.mapIter (some mb) n (sa.push i) n)}:=cg.write qq rfl (hr.heap.zJ qq rfl) rfl rfl rfl (by simp) (fun j hj=>by grind);have hh:az g {w with drawn:=d,heap:=w.heap.setIfInBounds aU (.mapIter (some mb) n (sa.push i) n)} (bJ σ.hp b (.iH m n (seen++[i]))):=by refine az.write hr.heap _ qq rfl he (fun j hj=>by grind) ?_;grind[RB]
  refine hK g _ _ aY (hr.j6 he hh hp ?_ ) he Nt;simp only[RV];exact⟨_,rfl,by simp only[aT];exact⟨RV.E6 _,by simp only[RV];exact Rd.keeps he.keeps _ _ z3,RV.ext he _ _ z4,trivial⟩⟩
 ·rw[GG _ _ rfl];simp only[Oper.upon];rw[gG];obtain⟨aY,hp,Nt⟩:=h2 (by grind);have he:cg g w g {w with drawn:=d}:=cg.drawn g w d;refine hK g _ _ aY (hr.j6 he (hr.heap.ext he (fun _ _ _ _ _=>rfl)) hp ?_ ) he Nt;simp only[RV];exact⟨_,rfl,by simp only[aT];exact⟨RV.E6 _,trivial⟩⟩
end
end Fw
/-
  Freezing a box, as a rule.
-/
namespace Fw
open Go
section
variable {P:Program}{GL:ch}
theorem WC.freeze{c:IR}{σ aY:St}{Q:Ex->St->Prop}{b:Nat}(hc:kS b σ=some aY)(h:WC P GL c aY Q):WC P GL c σ Q:=by intro code uQ g w a hr;exact wp_mono (h code uQ _ w a (hr.qh hc)) (di.ext (cg.qh _ _ (cg.refl _ _)))
theorem WO.freeze{l:List aj}{σ aY:St}{Q:St->Prop}{b:Nat}(hc:kS b σ=some aY)(h:WO P GL l aY Q):WO P GL l σ Q:=by intro ops k uQ g w a hr;exact dt (di.ext (cg.qh _ _ (cg.refl _ _))) _ _ _ (h ops k uQ _ w a (hr.qh hc))
theorem WO.jo{o:aj}{l:List aj}{σ aY:St}{Q:St->Prop}{v:V}(hg:aA o.guard σ.tm=some true)(he:jo (aZ GL σ.tm) o.op=some v)(hp:σ.put o.dst v σ.hp=some aY)(h:WO P GL l aY Q):WO P GL (o::l) σ Q:=by
 refine WO.step fun o' ops kx tR gG g w a hr K Q' hK=>?_
 rw[eP hr tR hg,aaK rfl];obtain⟨w',x,k1,k2,k3,k4⟩:=xg (P:=P) (a:=a) (o:=o') (gP kx (fun e=>by rw[e]at he;cases he)) he hr.ev hr.heap;unfold Oper.wp;rw[k1];simp only[Oper.upon];rw[gG];exact hK g w' _ aY (hr.j6 k4 k3 hp k2) k4 h
end
end Fw
/-
  What an operation looks at, and that nothing else matters to it.
-/
namespace Fw
open Go
def nh:List (Nat×Nat×a_)->List a_|[]=>[]|(_,_,x)::ps=>x::nh ps
def looks:lv->List a_| .mv x| .box _ x| .load _ _ x| .eZ x| .un _ x| .conv _ x| .same x| .lx x| .Pn _ _ _ x| .dI _ _ x| .ext x _| .len _ x| .cap x| .range _ x| .P4 x| .mZ x| .entry x| .nQ _ x=>[x]| .pick c a b=>[c,a,b]| .alloc _| .GP| .bad=>[]| .build _ ps| .mkSlice _ _ _ ps=>nh ps| .store _ a x=>[a,x]| .bin _ x y| .eq _ _ x y| .Dx _ _ x y| .append _ _ x y=>[x,y]| .rN _ a b=>a++b| .ku x lo hi| .fY _ x lo hi| .x_ _ _ x lo hi=>x::(lo.toList++hi.toList)| .cF _ x i| .pB _ _ x i| .gz x i| .JX _ _ _ x i=>[x,i]| .oY _ _ _ l c=>[l,c]| .ly _ _ _ x n=>[x,n]| .clip _ x hi mx=>[x,hi,mx]| .lookup _ _ _ m k=>[m,k]| .mY _ m k x=>[m,k,x]| .lz _ xs=>xs| .call _ args=>args| .gV x args=>x::args
def bK:V->List Nat| .ptr b _ _=>[b]| .sl b _ _ _ _=>[b]| .map b=>[b]| .iter b m=>[b,m]|_=>[]
def mV(ρ:a_->V):lv->List Nat| .load _ _ a=>bK (ρ a)| .store _ a _=>bK (ρ a)| .fY _ x _ _=>bK (ρ x)| .x_ _ _ x _ _=>bK (ρ x)| .cF _ x _=>bK (ρ x)| .len _ x=>bK (ρ x)| .append _ _ x y=>bK (ρ x)++bK (ρ y)| .lookup _ _ _ m _=>bK (ρ m)| .range _ x=>bK (ρ x)| .eq _ _ x y=>bK (ρ x)++bK (ρ y)| .entry x=>bK (ρ x)| .mY _ m _ _=>bK (ρ m)| .call _ args=>(bu ρ args).flatMap bK|_=>[]
section
variable {ρ Fp:a_->V}{H H':ao}
variable {u:V}
theorem zY{n:Nat}(h:∀b∈bK u,aF H' b=aF H b):jR H' n u=jR H n u:=by cases u<;>simp only[jR];rename_i b _ _;rw[h b (by simp[bK])]
theorem ym{n:Nat}{x:V}(h:∀b∈bK u,aF H' b=aF H b):gA H' n u x=gA H n u x:=by cases u<;>simp only[gA];rename_i b _ _;rw[h b (by simp[bK])]
theorem j8{b k:Nat}(h:aF H' b=aF H b):ff H' b k=ff H b k:=by grind[ff]
theorem CA{k:lu}(h:∀b∈bK u,aF H' b=aF H b):iw H' k u=iw H k u:=by
 cases u with
  |d x=>cases x<;>rfl
  |sl b hb off len sz=>simp only[iw,j8 (h b (by simp[bK]))]
  |map b=>simp only[iw,h b (by simp[bK])]
  |_=>rfl
theorem yn{sz:Nat}(h:∀b∈bK u,aF H' b=aF H b):bt H' sz u=bt H sz u:=by
 cases u with
  |d x=>cases x<;>rfl
  |sl b hb off len sz=>simp only[bt,h b (by simp[bK])]
  |_=>rfl
theorem wQ{ns sz bytes:Nat}{xs:List V}(h:∀b∈bK u,aF H' b=aF H b):dr H' ns sz bytes u xs=dr H ns sz bytes u xs:=by
 cases u with
  |sl b hb off len sz=>simp only[dr,h b (by simp[bK])]
  |_=>rfl
theorem zZ(h:∀b∈bK u,aF H' b=aF H b):uF H' u=uF H u:=by
 cases u with
  |map b=>simp only[uF,h b (by simp[bK])]
  |_=>rfl
theorem j9:∀{ps:List (Nat×Nat×a_)}{cs:List V},(∀x∈nh ps,Fp x=ρ x)->iK Fp cs ps=iK ρ cs ps|[],_,_=>rfl|(off,size,x)::ps,cs,h=>by simp only[iK];rw[h x (by simp[nh]),j9 (fun y hy=>h y (by simp[nh,hy]))]
theorem fK:∀{l:List a_},(∀x∈l,Fp x=ρ x)->bu Fp l=bu ρ l|[],_=>rfl|x::l,h=>by simp only[bu];rw[h x (by simp),fK (fun y hy=>h y (by simp[hy]))]
theorem lO{len:Nat}{lo hi:Option a_}(h:∀x∈lo.toList++hi.toList,Fp x=ρ x):bounds Fp len lo hi=bounds ρ len lo hi:=by cases lo<;>cases hi<;>simp only[bounds]<;>simp at h<;>simp[h]
theorem Fq{k:rM}{v:V}(hn:∀b h,b∈bK u++bK v->ya H' b h=ya H b h):Dy H' k u v=Dy H k u v:=by
 have hd:∀(p:D)(v:V),Dy H' k (.d p) v=Dy H k (.d p) v:=by intro p v;rcases p with _|_|_|(_|⟨e,es⟩)<;>cases v<;>first|(cases k<;>rfl)|(rename_i q;rcases q with _|_|_|(_|⟨e',uK⟩)<;>cases k<;>rfl)
 have Mh:∀(p:D)(v:V),Dy H' k v (.d p)=Dy H k v (.d p):=by
  intro p v;cases v with
   |d q=>grind
   |_=>rcases p with _|_|_|(_|⟨e,es⟩)<;>cases k<;>rfl
 cases u with
  |d p=>grind
  |_=>
   cases v with
    |d p=>grind
    |_=>cases k<;>first|rfl|exact hn _ _ (by simp[bK])
theorem CB{op:lv}(h1:∀x∈looks op,Fp x=ρ x):jo Fp op=jo ρ op:=by cases op<;>first|rfl|(simp only[looks]at h1;simp only[jo];rw[j9 h1])|simp_all[looks,aa7,acL,or_false,forall_eq_or_imp,forall_eq,jo]
theorem Fs{op:lv}{ns:Nat}(h1:∀x∈looks op,Fp x=ρ x)(h2:∀b∈mV ρ op,aF H' b=aF H b):bE Fp H' ns op=bE ρ H ns op:=by
 cases op<;>simp only[looks,aa7,acL,or_false,forall_eq_or_imp,forall_eq,aa2]at h1<;>simp only[mV]at h2<;>simp only[bE];case mv=>rw[h1]
 case pick=>grind
 case box=>rw[h1]
 case build=>rw[j9 h1]
 case mkSlice=>rw[j9 h1]
 case load=>rw[h1,zY h2]
 case store=>rw[h1.1,h1.2,ym h2]
 case eZ=>rw[h1]
 case bin=>grind
 case eq neg k x y=>
  rw[h1.1,h1.2];have hn:∀b h,b∈bK (ρ x)++bK (ρ y)->ya H' b h=ya H b h:=fun b h hb=>by grind[ya]
  rw[Fq hn]
 case Dx=>grind
 case un=>rw[h1]
 case conv=>rw[h1]
 case same=>rw[h1]
 case lx=>rw[h1]
 case oY=>grind
 case ly=>grind
 case clip=>grind
 case cap=>rw[h1]
 case rN=>rw[fK (fun x hx=>h1 x (.inl hx)),fK (fun x hx=>h1 x (.inr hx))]
 case ku x lo hi=>
  rw[h1.1];have hb:∀len,bounds Fp len lo hi=bounds ρ len lo hi:=fun len=>lO (fun x hx=>h1.2 x (aa2.1 hx))
  grind
 case fY sz x lo hi=>
  rw[h1.1];have hb:∀len,bounds Fp len lo hi=bounds ρ len lo hi:=fun len=>lO (fun x hx=>h1.2 x (aa2.1 hx))
  simp only[hb];split<;>first|rfl|(rename_i b _ _ _ _ e;rw[j8 (h2 b (by grind[bK]))])
 case x_ n sz x lo hi=>
  rw[h1.1];have hb:∀len,bounds Fp len lo hi=bounds ρ len lo hi:=fun len=>lO (fun x hx=>h1.2 x (aa2.1 hx))
  simp only[hb];split<;>first|rfl|(rename_i b _ _ e;rw[j8 (h2 b (by grind[bK]))])
 case Pn=>rw[h1]
 case dI=>rw[h1]
 case cF sz x i=>
  rw[h1.1,h1.2];split
  ·rfl
  ·split<;>first|rfl|(rename_i b _ _ _ _ e;rw[j8 (h2 b (by grind[bK]))])
 case pB=>grind
 case gz=>grind
 case JX=>grind
 case ext=>rw[h1]
 case len k x=>rw[h1];cases k<;>simp only[]<;>first|rfl|rw[CA h2]
 case append sz bytes x y=>
  have ha:∀xs,dr H' ns sz bytes (ρ x) xs=dr H ns sz bytes (ρ x) xs:=fun xs=>wQ (fun b hb=>h2 b (by simp[hb]))
  rw[h1.1,h1.2,yn (fun b hb=>h2 b (by simp[hb]))];grind
 case lookup=>rw[h1.1,h1.2,zZ h2]
 case mY kk m k x=>
  rw[h1.1,h1.2.1,h1.2.2];split
  ·rename_i b kd e _;rw[h2 b (by grind[bK])]
  ·rfl
 case nQ=>rw[h1]
 case entry x=>
  rw[h1];split
  ·rename_i b m e;rw[h2 b (by grind[bK]),h2 m (by grind[bK])]
  ·rfl
 case range m x=>
  rw[h1];cases m
  ·rfl
  ·simp only[aaJ];split
   ·rename_i b e;rw[h2 b (by grind[bK])]
   ·rfl
 case lz=>rw[fK h1]
end
end Fw
/-
  A region whose order is drawn: one run in the text's order, and a look that no two operations whose order is open meet.
-/
namespace Fw
open Go
def PC(P:Program)(GL:ch)(f:FuncId)(args:List V)(v:V):Prop:=ak P f=true/\∀g w (vs:Array Value),aT g w args vs.toList->(∀k,g.fo k->k<w.heap.size)->(∀b x k,g.γ b=some x->x.own=some k->k<w.heap.size)->gW GL g w->Calls P f vs w fun e w'=>∃x,e=.returned x/\RV g w' v x/\cg g w g w'/\∀b y k,g.γ b=some y->y.own=some k->w'.heap[k]? =w.heap[k]?
def bX:lv->Option (FuncId×List a_)| .call f args=>some (f,args)|_=>none
def gn(GL:ch)(tm:List (Nat×V))(H:ao)(ns:Nat)(o:aj)(cv:Option V):Option (V×Wr):=match aA o.guard tm with
 |none=>none
 |some false=>some (.tuple [],none)
 |some true=>
  match bX o.op with
   |some _=>cv.map fun v=>(v,none)
   |none=>
    match cv with
     |some _=>(jo (aZ GL tm) o.op).map fun v=>(v,none)
     |none=>bE (aZ GL tm) H ns o.op
def St.iS(σ:St)(dst:Option Nat)(v:V)(H:ao):St:=match dst with
 |none=>⟨σ.n,σ.tm,H⟩
 |some d=>⟨σ.n,Fw.put σ.tm d v,H⟩
def pG(GL:ch)(base:Nat)(qc:Nat->Option V):Nat->List aj->St->Option (List ((V×Wr)×List Nat))
 |_,[],_=>some []
 |i,o::l,σ=>
  match gn GL σ.tm σ.hp (base+i) o (qc i)with
   |none=>none
   |some r=>
    match pG GL base qc (i+1) l (σ.iS o.dst r.1 (br σ.hp r.2))with
     |none=>none
     |some rs=>some ((r,mV (aZ GL σ.tm) o.op)::rs)
def aK(K:Nat->Bool):Nat->List aj->List ((V×Wr)×List Nat)->St->St|i,o::l,r::rs,σ=>aK K (i+1) l rs (bif K i then σ.iS o.dst r.1.1 (br σ.hp r.1.2)else σ)|_,_,_,σ=>σ
def bU:Wr->Option Nat|some (b,_)=>some b|none=>none
def Qn:a_->Option Nat| .t n=>some n|_=>none
def gf(o:aj):List Nat:=(looks o.op).filterMap Qn++(match o.guard with|some (d,_)=>[d]|none=>[])
structure o_ where
 dst:Option Nat
 lk:List Nat
 rd:List Nat
 ws:Option Nat
 after:List Nat
 deriving Inhabited
def iM:List aj->List ((V×Wr)×List Nat)->List o_|o::l,r::rs=>{dst:=o.dst,lk:=gf o,rd:=r.2,ws:=bU r.1.2,after:=o.after}::iM l rs|_,_=>[]
def Cb(x:Option Nat)(l:List Nat):Bool:=match x with
 |some n=>l.any (Nat.beq n)
 |none=>false
def mA(x y:Option Nat):Bool:=match x,y with
 |some n,some m=>Nat.beq n m
 |_,_=>false
def ni(x y:o_):Bool:=Cb x.dst y.lk||Cb y.dst x.lk||mA x.dst y.dst||Cb x.ws y.rd||Cb y.ws x.rd||mA x.ws y.ws
def tn:Option Nat->Nat|none=>0|some t=>Nat.shiftLeft 1 t
def pa:List Nat->Nat|[]=>0|t::l=>Nat.lor (Nat.shiftLeft 1 t) (pa l)
def pb(e:Nat):List (Nat×Nat)->Nat|[]=>0|(i,m)::l=>bif Nat.beq i e then m else pb e l
def lP(acc:List (Nat×Nat)):List Nat->Nat|[]=>0|e::es=>Nat.lor (Nat.lor (Nat.shiftLeft 1 e) (pb e acc)) (lP acc es)
def de:Nat->List (Nat×Nat)->List aj->List Nat|_,_,[]=>[]|j,acc,o::l=>lP acc o.after::de (j+1) ((j,lP acc o.after)::acc) l
def pc:Nat->List aj->Bool|_,[]=>true|j,o::l=>o.after.all (Nat.blt · j)&&pc (j+1) l
def DJ(W L R:Nat):List (Nat×Nat×Nat)->Bool|[]=>true|(i,w,k)::Cq=>(Nat.beq (Nat.lor (Nat.land w (Nat.lor L W)) (Nat.land k W)) 0||Nat.beq (Nat.land (Nat.shiftRight R i) 1) 1)&&DJ W L R Cq
def Mi:Nat->List (Nat×Nat×Nat)->List (Nat×Nat)->List Nat->Bool|_,_,[],_=>true|_,_,_,[]=>true|j,pre,(W,L)::ms,R::rs=>DJ W L R pre&&Mi (j+1) ((j,W,L)::pre) ms rs
def DK(l:List aj):List (Nat×Nat):=l.map fun o=>(tn o.dst,pa (gf o))
def Ft(rs:List ((V×Wr)×List Nat)):List (Nat×Nat):=rs.map fun r=>(tn (bU r.1.2),pa r.2)
def pH(l:List aj):Bool:=pc 0 l&&Mi 0 [] (DK l) (de 0 [] l)
def wR:List ((V×Wr)×List Nat)->Bool
 |[]=>true
 |r::rs=>
  match r.1.2 with
   |none=>wR rs
   |some _=>false
def dW(l:List aj)(rs:List ((V×Wr)×List Nat)):Bool:=pH l&&(wR rs||Mi 0 [] (Ft rs) (de 0 [] l))
section
variable {P:Program}{GL:ch}
variable {H:ao}
theorem qA{x:Option Nat}{l:List Nat}:Cb x l=true↔∃n,x=some n/\n∈l:=by
 cases x with
  |none=>simp[Cb]
  |some n=>simp_all[Cb,List.any_eq_true,aaC,exists_eq_left']
theorem eQ{x y:Option Nat}:mA x y=true↔∃n,x=some n/\y=some n:=by cases x<;>cases y<;>simp[mA];grind
theorem kT{σ:St}{dst:Option Nat}{v:V}{t:Nat}:get (σ.iS dst v H).tm t=if dst=some t then v else get σ.tm t:=by cases dst<;>grind[St.iS,lA,Option.some.injEq]
theorem nU{wr:Wr}{b:Nat}:aF (br H wr) b=match wr with|some (s,y)=>if b=s then some y else aF H b|none=>aF H b:=by grind[br,dT]
theorem qB{K K':Nat->Bool}{t:Nat}:∀{l:List aj}{rs:List ((V×Wr)×List Nat)}{i:Nat}{σ aY:St},get σ.tm t=get aY.tm t->(∀j o,l[j]? =some o->o.dst=some t->K (i+j)=K' (i+j))->get (aK K i l rs σ).tm t=get (aK K' i l rs aY).tm t
 |[],_,_,_,_,h,_=>by grind[aK]
 |_::_,[],_,_,_,h,_=>by grind[aK]
 |o::l,r::rs,i,σ,aY,h,hk=>by
  simp only[aK];refine qB ?_ (fun j o' h1 h2=>by have:=hk (j+1) o' (by grind) h2;grind);by_cases hd:o.dst=some t
  ·have:=hk 0 o rfl hd;simp at this;rw[this];cases K' i with
    |true=>simp_all[aaJ,kT,abL]
    |false=>exact h
  grind[kT]
theorem qC{K K':Nat->Bool}{b:Nat}:∀{l:List aj}{rs:List ((V×Wr)×List Nat)}{i:Nat}{σ aY:St},aF σ.hp b=aF aY.hp b->(∀j r,rs[j]? =some r->bU r.1.2=some b->K (i+j)=K' (i+j))->aF (aK K i l rs σ).hp b=aF (aK K' i l rs aY).hp b
 |[],_,_,_,_,h,_=>by grind[aK]
 |_::_,[],_,_,_,h,_=>by grind[aK]
 |o::l,r::rs,i,σ,aY,h,hk=>by
  simp only[aK];have JM:∀s:St,(s.iS o.dst r.1.1 (br s.hp r.1.2)).hp=br s.hp r.1.2:=by intro s;cases o.dst<;>rfl
  refine qC ?_ (fun j r' h1 h2=>by have:=hk (j+1) r' (by grind) h2;grind);by_cases hd:bU r.1.2=some b
  ·have:=hk 0 r rfl hd;simp at this;rw[this];cases K' i with
    |true=>simp_all[aaJ,nU,bU,aaC]
    |false=>exact h
  ·have fq:∀(c:Bool)(s:St),aF (bif c then s.iS o.dst r.1.1 (br s.hp r.1.2)else s).hp b=aF s.hp b:=by
    intro c s;cases c with
     |false=>rfl
     |true=>simp only[aaJ,JM,nU];grind[bU,Option.some.injEq]
   rw[fq,fq];exact h
theorem j_{K:Nat->Bool}:∀{l:List aj}{rs:List ((V×Wr)×List Nat)}{i:Nat}{σ:St},(aK K i l rs σ).n=σ.n
 |[],_,_,_=>by simp[aK]
 |_::_,[],_,_=>by simp[aK]
 |o::l,r::rs,i,σ=>by simp only[aK];rw[j_];cases K i<;>simp[St.iS];cases o.dst<;>rfl
theorem gY{b:Nat}{y:fJ}(h:b<H.length):(bJ H b y).length=H.length:=by
 induction H generalizing b with
  |nil=>simp at h
  |cons z H ih=>cases b<;>simp[bJ];grind
theorem uR{base:Nat}{qc:Nat->Option V}:∀{l:List aj}{i0:Nat}{σ:St}{rs:List ((V×Wr)×List Nat)},pG GL base qc i0 l σ=some rs->rs.length=l.length/\∀i o,l[i]? =some o->∃r,rs[i]? =some r/\gn GL (aK (fun j=>decide (j<i0+i)) i0 l rs σ).tm (aK (fun j=>decide (j<i0+i)) i0 l rs σ).hp (base+(i0+i)) o (qc (i0+i))=some r.1/\r.2=mV (aZ GL (aK (fun j=>decide (j<i0+i)) i0 l rs σ).tm) o.op
 |[],i0,σ,rs,h=>by grind[pG]
 |o::l,i0,σ,rs,h=>by
  simp only[pG]at h;split at h
  ·cases h
  ·rename_i r hr;split at h
   ·cases h
   ·rename_i Fm Mj;simp only[aaC]at h;subst h;obtain⟨h1,h2⟩:=uR Mj;refine⟨by simp[h1],fun i o' pI=>?_ ⟩;have uS:∀(l:List aj)(rs:List ((V×Wr)×List Nat))(k:Nat)(σ:St),(∀j,k<=j->(decide (j<i0))=false)->aK (fun j=>decide (j<i0)) k l rs σ=σ:=by
     intro l rs k σ hk;induction l generalizing rs k with
      |nil=>simp[aK]
      |cons o l ih=>
       cases rs with
        |nil=>simp[aK]
        |cons r rs=>simp only[aK,hk k (aaP _),aaT];grind
    cases i with
     |zero=>simp_all
     |succ i=>
      simp at pI;obtain⟨r',h3,h4,h5⟩:=h2 i o' pI;have e:i0+(i+1)=i0+1+i:=by omega
      refine⟨r',by grind,?_,?_ ⟩
      ·simp only[aK,e,show decide (i0<i0+1+i)=true by simp;omega,aaJ];exact h4
      ·simp only[aK,e,show decide (i0<i0+1+i)=true by simp;omega,aaJ];exact h5
end
end Fw
/-
  A region whose order is drawn: whatever the order, the end is that of the text's order.
-/
namespace Fw
open Go
section
variable {P:Program}{GL:ch}
variable {g:G}{w:World}{H:ao}{K:Nat->Bool}{a:Act}{σ:St}{l:List aj}{rs:List ((V×Wr)×List Nat)}{i:Nat}{o:aj}{tm aW:List (Nat×V)}{v:V}
theorem R.congr{aY:St}(h:R GL g w a σ)(hn:aY.n=σ.n)(ht:∀t,get aY.tm t=get σ.tm t)(hh:aY.hp=σ.hp):R GL g w a aY:=⟨h.defers,by rw[h.size,hn],fun t=>by rw[ht t];exact h.tmps t,by rw[hh];exact h.heap,h.dJ⟩
theorem R.drawn{g:G}{w:World}{a:Act}{σ:St}(h:R GL g w a σ)(n:Nat):R GL g {w with drawn:=n} a σ:=⟨h.defers,h.size,fun t=>RV.ext (cg.drawn g w n) _ _ (h.tmps t),h.heap.ext (cg.drawn g w n) (fun _ _ _ _ _=>rfl),h.dJ.ext (cg.drawn g w n)⟩
theorem z6(H:ao)(n b:Nat):aF (H++List.replicate n none) b=aF H b:=by
 induction H generalizing b with
  |nil=>
   simp only[abx];induction n generalizing b with
    |zero=>rfl
    |succ n ih=>cases b<;>simp[ac',aF];grind[aF]
  |cons y H ih=>cases b<;>simp[aF,ih]
theorem az.pad(h:az g w H)(n:Nat):az g w (H++List.replicate n none):=⟨fun b hb=>by have:=h.cV b hb;simp;omega,fun b x hx=>by obtain⟨h1,y,h2,h3⟩:=h.live b x hx;grind[z6],fun b y hy=>h.back b y (by rwa[z6]at hy),h.inj,h.fo⟩
theorem R.pad(h:R GL g w a σ)(n:Nat):R GL g w a ⟨σ.n,σ.tm,σ.hp++List.replicate n none⟩:=⟨h.defers,h.size,h.tmps,h.heap.pad n,h.dJ⟩
theorem uT:∀{H H':ao},H.length=H'.length->(∀b,aF H b=aF H' b)->H=H'
 |[],[],_,_=>rfl
 |x::H,y::H',hl,h=>by have h0:x=y:=h 0;have ih:H=H':=uT (by grind) (fun b=>h (b+1));rw[h0,ih]
 |[],_::_,hl,_=>by simp at hl
 |_::_,[],hl,_=>by simp at hl
structure CD (ds:List o_) (rl:Nat->Nat->Prop):Prop where
 before:∀(j:Nat)(d:o_),ds[j]? =some d->∀e∈d.after,e<j
 reach:∀(j i:Nat),rl j i->∃d,ds[j]? =some d/\∃e∈d.after,i=e\/rl e i
 meets:∀(i j:Nat)(x y:o_),i<j->ds[i]? =some x->ds[j]? =some y->ni x y=true->rl j i
theorem CE(i j:Nat):Nat.testBit (Nat.shiftLeft 1 i) j=decide (i=j):=by
 show Nat.testBit (1<<<i) j=_;rw[Nat.testBit_shiftLeft];by_cases h:i=j
 ·grind
 ·by_cases h2:j>=i
  ·have:j - i≠0:=by omega
   have e:Nat.testBit 1 (j - i)=false:=Nat.testBit_lt_two_pow (Nat.one_lt_two_pow this);grind
  grind
theorem Hg(a b j:Nat):Nat.testBit (Nat.lor a b) j=(Nat.testBit a j||Nat.testBit b j):=Nat.testBit_or a b j
theorem Hh(a b j:Nat):Nat.testBit (Nat.land a b) j=(Nat.testBit a j&&Nat.testBit b j):=Nat.testBit_and a b j
theorem qD{t:Nat}:∀{l:List Nat},Nat.testBit (pa l) t=true↔t∈l
 |[]=>by simp[pa]
 |s::l=>by simp only[pa,Hg,CE,aa8,aaL,qD (l:=l),aa7];grind
theorem nj{t:Nat}{x:Option Nat}:Nat.testBit (tn x) t=true↔x=some t:=by cases x<;>grind[tn,CE]
theorem c8:∀{l:List aj}{j:Nat}{acc:List (Nat×Nat)},(de j acc l).length=l.length|[],_,_=>rfl|_::l,_,_=>by simp[de,c8 (l:=l)]
theorem uU{acc:List (Nat×Nat)}{i:Nat}:∀{es:List Nat},Nat.testBit (lP acc es) i=true->∃e∈es,i=e\/Nat.testBit (pb e acc) i=true
 |[],h=>by simp[lP]at h
 |e::es,h=>by
  simp only[lP,Hg,CE,aa8,aaL]at h;rcases h with(h|h)|h
  ·grind
  ·grind
  ·obtain⟨e',h1,h2⟩:=uU h;grind
theorem lQ:∀{l:List aj}{j0:Nat}{acc:List (Nat×Nat)},pc j0 l=true->(∀e m,pb e acc=m->m≠0->e<j0)->∀k (o:aj),l[k]? =some o->∀i,Nat.testBit ((de j0 acc l).getD k 0) i=true->∃e∈o.after,i=e\/(e<j0/\Nat.testBit (pb e acc) i=true)\/(j0<=e/\Nat.testBit ((de j0 acc l).getD (e - j0) 0) i=true)
 |[],_,_,_,_,k,o,ho,_,_=>by simp at ho
 |o::l,j0,acc,hb,Wx,0,o',ho,i,hi=>by simp at ho;subst ho;simp only[de,List.getD_cons_zero]at hi;obtain⟨e,h1,h2⟩:=uU hi;grind
 |o::l,j0,acc,hb,Wx,k+1,o',ho,i,hi=>by
  simp only[pc,aaD]at hb;simp at ho;simp only[de,List.getD_cons_succ]at hi⊢;have Qo:∀e m,pb e ((j0,lP acc o.after)::acc)=m->m≠0->e<j0+1:=by
   intro e m hm fq;simp only[pb]at hm;by_cases he:j0=e
   ·omega
   ·rw[cB he,aaT]at hm;grind
  obtain⟨e,h1,h2⟩:=lQ (l:=l) hb.2 Qo k o' ho i hi;refine⟨e,h1,?_⟩;rcases h2 with h2|⟨h2,h3⟩|⟨h2,h3⟩
  ·grind
  ·simp only[pb]at h3;by_cases he:j0=e
   ·grind
   ·rw[cB he,aaT]at h3;grind
  grind
theorem lR:∀{l:List aj}{j0:Nat},pc j0 l=true->∀(k:Nat)(o:aj),l[k]? =some o->∀e∈o.after,e<j0+k
 |[],_,_,k,o,ho,_,_=>by simp at ho
 |o::l,j0,hb,0,o',ho,e,he=>by simp_all[pc,aaD,aa3,abb]
 |o::l,j0,hb,k+1,o',ho,e,he=>by simp at ho;simp only[pc,aaD]at hb;have:=lR hb.2 k o' ho e he;omega
def Hi(W L w k:Nat):Prop:=∃t,(Nat.testBit w t=true/\(Nat.testBit L t=true\/Nat.testBit W t=true))\/(Nat.testBit k t=true/\Nat.testBit W t=true)
theorem uV{W L R:Nat}:∀{pre:List (Nat×Nat×Nat)},DJ W L R pre=true->∀i w k,(i,w,k)∈pre->Hi W L w k->Nat.testBit R i=true
 |[],_,i,w,k,h,_=>by simp at h
 |(i0,w0,k0)::Cq,hr,i,w,k,h,hc=>by
  simp only[DJ,aaD,aa8]at hr;rcases aa7.1 h with h|h
  ·simp only[aaE]at h;obtain⟨rfl,rfl,rfl⟩:=h;rcases hr.1 with h1|h1
   ·exfalso;have h0:=aaM h1;obtain⟨t,ht⟩:=hc;have:Nat.testBit (Nat.lor (Nat.land w (Nat.lor L W)) (Nat.land k W)) t=true:=by simp only[Hg,Hh,aa8,aaD];exact ht
    grind
   ·have h0:=aaM h1;have e:Nat.testBit R i=decide (Nat.land (Nat.shiftRight R i) 1=1):=by show((1&&&(R>>>i))!=0)=decide ((R>>>i)&&&1=1);grind
    grind
  ·exact uV hr.2 i w k h hc
theorem uW:∀{ms:List (Nat×Nat)}{rs:List Nat}{j0:Nat}{pre:List (Nat×Nat×Nat)},Mi j0 pre ms rs=true->ms.length<=rs.length->∀(j:Nat)(W L:Nat),ms[j]? =some (W,L)->(∀i w k,(i,w,k)∈pre->Hi W L w k->Nat.testBit (rs.getD j 0) i=true)/\∀(i:Nat)(w k:Nat),i<j->ms[i]? =some (w,k)->Hi W L w k->Nat.testBit (rs.getD j 0) (j0+i)=true
 |[],_,_,_,_,_,j,W,L,h=>by simp at h
 |(W0,L0)::ms,[],_,_,_,hl,j,W,L,h=>by simp at hl
 |(W0,L0)::ms,R::rs,j0,pre,hg,hl,0,W,L,h=>by simp at h;obtain⟨rfl,rfl⟩:=h;simp only[Mi,aaD]at hg;exact⟨fun i w k hm hc=>by simpa using uV hg.1 i w k hm hc,fun i w k hi=>by omega⟩
 |(W0,L0)::ms,R::rs,j0,pre,hg,hl,j+1,W,L,h=>by simp at h;simp only[Mi,aaD]at hg;obtain⟨h1,h2⟩:=uW hg.2 (by grind) j W L h;refine⟨fun i w k hm hc=>by grind,fun i w k hi hm hc=>?_ ⟩;cases i<;>grind
theorem rV:∀{rs:List ((V×Wr)×List Nat)},wR rs=true->∀r∈rs,bU r.1.2=none
 |[],_,r,h=>by simp at h
 |x::rs,hn,r,h=>by
  simp only[wR]at hn;split at hn
  ·rename_i hx;rcases aa7.1 h with rfl|h
   ·rw[hx];rfl
   ·exact rV hn r h
  ·cases hn
theorem cN:∀{l:List aj}{rs:List ((V×Wr)×List Nat)}{i:Nat}{o:aj}{r:(V×Wr)×List Nat},l[i]? =some o->rs[i]? =some r->(iM l rs)[i]? =some {dst:=o.dst,lk:=gf o,rd:=r.2,ws:=bU r.1.2,after:=o.after}
 |[],_,_,_,_,h,_=>by simp at h
 |_::_,[],_,_,_,_,h=>by simp at h
 |o::l,r::rs,0,_,_,h1,h2=>by grind[iM]
 |o::l,r::rs,i+1,_,_,h1,h2=>by simp at h1 h2;simp[iM];exact cN h1 h2
theorem jf:∀{l:List aj}{rs:List ((V×Wr)×List Nat)}{i:Nat}{d:o_},(iM l rs)[i]? =some d->∃o r,l[i]? =some o/\rs[i]? =some r/\d={dst:=o.dst,lk:=gf o,rd:=r.2,ws:=bU r.1.2,after:=o.after}
 |[],_,_,_,h=>by simp[iM]at h
 |_::_,[],_,_,h=>by simp[iM]at h
 |o::l,r::rs,0,d,h=>by grind[iM]
 |o::l,r::rs,i+1,d,h=>by simp[iM]at h;simpa using jf h
theorem tp(h:dW l rs=true)(hlen:rs.length=l.length):CD (iM l rs) (fun j i=>Nat.testBit ((de 0 [] l).getD j 0) i=true):=by
 simp only[dW,pH,aaD,aa8]at h;obtain⟨⟨h1,h2⟩,h3⟩:=h;refine⟨fun j d hd e he=>?_,fun j i hi=>?_,fun i j x y Pt hx hy hm=>?_ ⟩
 ·obtain⟨o,r,ho,hr,rfl⟩:=jf hd;have:=lR h1 j o ho e he;omega
 ·have hj:j<l.length:=by
   rcases abG j l.length with h|h
   ·exact h
   ·rw[abR,ac5 (by grind[c8])]at hi;simp at hi
  have ho:l[j]? =some l[j]:=aaI hj;have hr:rs[j]? =some (rs[j]'(by omega)):=aaI _;obtain⟨e,h4,h5⟩:=lQ h1 (fun e m hm fq=>by grind[pb]) j _ ho i hi;refine⟨_,cN ho hr,e,h4,?_⟩;grind
 ·obtain⟨o,r,ho,hr,rfl⟩:=jf hx;obtain⟨o',r',pI,jH,rfl⟩:=jf hy;have k1:=(uW h2 (by simp[DK,c8]) j (tn o'.dst) (pa (gf o')) (by simp[DK,pI])).2 i (tn o.dst) (pa (gf o)) Pt (by simp[DK,ho]);simp only[aaY]at k1;simp only[ni,aa8,qA,eQ]at hm;have dyn:(∃b,(bU r.1.2=some b/\(b∈r'.2\/bU r'.1.2=some b))\/(b∈r.2/\bU r'.1.2=some b))->Nat.testBit ((de 0 [] l).getD j 0) i=true:=by
   rintro⟨b,hb⟩;rcases h3 with h3|h3
   ·have e1:=rV h3 r (aaH hr);have e2:=rV h3 r' (aaH jH);grind
   ·have k2:=(uW h3 (by grind[Ft,c8]) j (tn (bU r'.1.2)) (pa r'.2) (by simp[Ft,jH])).2 i (tn (bU r.1.2)) (pa r.2) Pt (by simp[Ft,hr]);simp only[aaY]at k2;refine k2 ⟨b,?_⟩;grind[nj,qD]
  rcases hm with((((⟨t,e1,e2⟩|⟨t,e1,e2⟩)|⟨t,e1,e2⟩)|⟨t,e1,e2⟩)|⟨t,e1,e2⟩)|⟨t,e1,e2⟩
  ·exact k1 ⟨t,.inl ⟨nj.2 e1,.inl (qD.2 e2)⟩⟩
  ·exact k1 ⟨t,.inr ⟨qD.2 e2,nj.2 e1⟩⟩
  ·exact k1 ⟨t,.inl ⟨nj.2 e1,.inr (nj.2 e2)⟩⟩
  all_goals grind
def kz(l:List aj)(K:Nat->Bool):Prop:=∀(j:Nat)(o:aj),l[j]? =some o->K j=true->∀e∈o.after,K e=true
theorem kz.reach{rl:Nat->Nat->Prop}(hl:CD (iM l rs) rl)(hK:kz l K):∀(j i:Nat),rl j i->K j=true->K i=true:=by
 intro j;induction j using Nat.strongRecOn with
  |_ j ih=>
   intro i hr hj;obtain⟨d,hd,e,he,h⟩:=hl.reach j i hr;obtain⟨o,r,ho,_,rfl⟩:=jf hd;have Wy:=hK j o ho hj e he;rcases h with rfl|h
   ·exact Wy
   ·exact ih e (hl.before j _ hd e he) i h Wy
theorem agree{rl:Nat->Nat->Prop}(hl:CD (iM l rs) rl)(hK:kz l K)(ho:l[i]? =some o)(hi:K i=false)(kA:∀e∈o.after,K e=true){j:Nat}{x y:o_}(hx:(iM l rs)[i]? =some x)(hy:(iM l rs)[j]? =some y)(hm:ni x y=true)(Wu:ni y x=true):K j=decide (j<i):=by
 rcases Nat.lt_trichotomy j i with hj|hj|hj
 ·simp only[hj,decide_true];have hr:=hl.meets j i y x hj hy hx Wu;obtain⟨d,hd,e,he,h⟩:=hl.reach i j hr;obtain⟨o',r,pI,_,rfl⟩:=jf hd;rw[ho]at pI;simp only[aaC]at pI;subst pI;rcases h with rfl|h
  ·grind
  ·exact kz.reach hl hK e j h (kA e he)
 ·grind
 ·have hr:=hl.meets i j x y hj hx hy hm;have:decide (j<i)=false:=by simp;omega
  rw[this];cases hk:K j with
   |false=>rfl
   |true=>rw[kz.reach hl hK j i hr hk]at hi;cases hi
theorem xj(x y:o_):ni x y=ni y x:=by
 have h1:mA x.dst y.dst=mA y.dst x.dst:=by rw[abh,eQ,eQ];grind
 have h2:mA x.ws y.ws=mA y.ws x.ws:=by rw[abh,eQ,eQ];grind
 unfold ni;grind
theorem lS{gd:Option (Nat×Bool)}(h:∀d w,gd=some (d,w)->get aW d=get tm d):aA gd aW=aA gd tm:=by cases gd<;>grind[aA]
theorem rW{x:a_}(h:∀t,Qn x=some t->get aW t=get tm t):aZ GL aW x=aZ GL tm x:=by
 cases x with
  |t n=>exact h n rfl
  |_=>rfl
theorem uX{H':ao}{ns:Nat}{cv:Option V}(h1:∀t∈gf o,get aW t=get tm t)(h2:∀b∈mV (aZ GL tm) o.op,aF H' b=aF H b):gn GL aW H' ns o cv=gn GL tm H ns o cv:=by
 have hg:aA o.guard aW=aA o.guard tm:=lS (fun d w hd=>h1 d (by simp[gf,hd]));have he:∀x∈looks o.op,aZ GL aW x=aZ GL tm x:=fun x hx=>rW (fun t ht=>h1 t (by grind[gf]))
 unfold gn;rw[hg,Fs he h2,CB he]
theorem RV.gZ(hh:az g w H):∀b x k,g.γ b=some x->x.own=some k->k<w.heap.size:=by intro b x k hx hk;obtain⟨_,y,_,h3⟩:=hh.live b x hx;exact h3.lt k hk
def g_(P:Program)(GL:ch)(f:FuncId)(args:List V)(H:ao)(v:V):Prop:=ak P f=true/\∀H',(∀b∈args.flatMap bK,aF H' b=aF H b)->∀g w (vs:Array Value),aT g w args vs.toList->az g w H'->gW GL g w->Calls P f vs w fun e w'=>∃x,e=.returned x/\RV g w' v x/\cg g w g w'/\az g w' H'
theorem PC.uY{f:FuncId}{args:List V}(h:PC P GL f args v):g_ P GL f args H v:=by refine⟨h.1,fun H' _ g w vs dU hh hg=>(h.2 g w vs dU (fun k hk=>(hh.fo k hk).1) (RV.gZ hh) hg).mono ?_ ⟩;rintro e w' ⟨x,rfl,hx,he,pE⟩;exact⟨x,rfl,hx,he,hh.ext he pE⟩
theorem g_.congr{f:FuncId}{args:List V}{H2:ao}(h:g_ P GL f args H v)(hh:∀b∈args.flatMap bK,aF H2 b=aF H b):g_ P GL f args H2 v:=⟨h.1,fun H' h'=>h.2 H' (fun b hb=>(h' b hb).trans (hh b hb))⟩
theorem DL{o':Oper}{ops:Array Oper}{ns:Nat}{cv:Option V}{wr:Wr}(kx:(bq P o'.op).getD .bad=o.op)(tR:gC ops.toList o'=some o.guard)(gG:o'.dst=o.dst)(h1:gn GL σ.tm σ.hp ns o cv=some (v,wr))(hq:∀f args,bX o.op=some (f,args)->aA o.guard σ.tm=some true->g_ P GL f (bu (aZ GL σ.tm) args) σ.hp v)(hr:R GL g w a σ)(jT:jl g ns)(hd:∀d,o.dst=some d->d<σ.n)(K:Act->World->Prop)(Q':Exit->Act->World->Prop)(hK:∀g' w' a',R GL g' w' a' (σ.iS o.dst v (br σ.hp wr))->cg g w g' w'->L8 g g' ns->K a' w'):if Region.wanted o' (yielded ops a.tmps)then o'.wp P a w K Q' else K (a.put o'.dst undef) w:=by
 have bJ:∀v H',σ.put o.dst v H'=some (σ.iS o.dst v H'):=by intro v H';cases ho:o.dst<;>grind[Nat.blt_eq,St.put,St.iS]
 unfold gn at h1;split at h1
 ·cases h1
 ·rename_i hg;simp only[aaC,aaE]at h1;obtain⟨rfl,rfl⟩:=h1;rw[eP hr tR hg,aaF (by simp),gG];exact hK g w _ (hr.j6 (cg.refl _ _) hr.heap (bJ _ _) (by simp only[RV];exact⟨#[],rfl,by simp[aT]⟩)) (cg.refl _ _) (fun _ h=>.inl h)
 ·rename_i hg;rw[eP hr tR hg,aaK rfl];split at h1
  ·rename_i fa hc;obtain⟨f,args⟩:=fa;cases cv with
    |none=>simp at h1
    |some cv=>
     simp at h1;obtain⟨rfl,rfl⟩:=h1;have hpc:=hq f args hc hg;have dz:o.op=.call f args:=by cases ho:o.op<;>rw[ho]at hc<;>simp[bX]at hc;grind
     rw[dz]at kx;obtain⟨c,Mb,pd⟩:=j7 (gP kx (by simp)) (.inl ⟨f,args,rfl⟩);have fT:c.callee=.value (.func f)/\bW ar c.args.toList=some args:=by unfold dQ at pd;grind[Option.map_eq_some_iff,lv.call.injEq]
     have fA:(execOp a.eval o').run P w=.ok (.enter f (c.args.map a.eval)) w:=by have:=iR hpc.1 (c.args.map a.eval) w;simp_all[execOp,resolve,Act.eval,Deferred.ofValue,invoke]
     unfold Oper.wp;rw[fA];simp only[Oper.upon];refine(hpc.2 σ.hp (fun _ _=>rfl) g w _ (by simpa using jX hr.ev fT.2) hr.heap hr.dJ).mono ?_;rintro e w' ⟨x,rfl,hx,he,pE⟩;simp only;rw[gG];exact hK g w' _ (hr.j6 he pE (bJ _ _) hx) he (fun _ h=>.inl h)
  ·split at h1
   ·simp only[aaG,aaE]at h1;obtain⟨v',jF,rfl,rfl⟩:=h1;obtain⟨w',x,k1,k2,k3,k4⟩:=xg (P:=P) (a:=a) (o:=o') (gP kx (fun e=>by rw[e]at jF;cases jF)) jF hr.ev hr.heap;unfold Oper.wp;rw[k1];simp only[Oper.upon];rw[gG];exact hK g w' _ (hr.j6 k4 k3 (bJ _ _) k2) k4 (fun _ h=>.inl h)
   ·obtain⟨g',w',nx,k1,k2,k3,k4,k5⟩:=zV (P:=P) (a:=a) (o:=o') (gP kx (fun e=>by rw[e]at h1;cases h1)) h1 hr.ev hr.heap jT;unfold Oper.wp;rw[k1];rcases k2 with⟨x,rfl,hx⟩|⟨rfl,rfl⟩
    ·simp only[Oper.upon];rw[gG];exact hK g' w' _ (hr.j6 k4 k3 (bJ _ _) hx) k4 k5
    ·simp only[Oper.upon];rw[gG];exact hK g' w' _ (hr.j6 k4 k3 (bJ _ _) (by simp only[RV])) k4 k5
def fU(K:Nat->Bool)(i:Nat):Nat->Bool:=fun j=>K j||decide (j=i)
theorem qE{t:Nat}:∀{l:List aj}{rs:List ((V×Wr)×List Nat)}{i0 k:Nat}{σ:St}{o:aj}{r:(V×Wr)×List Nat},i=i0+k->l[k]? =some o->rs[k]? =some r->K i=false->l.length=rs.length->(∀(j:Nat)(o':aj),l[j]? =some o'->j≠k->o'.dst=some t->o.dst=some t->K (i0+j)=true->j<k)->get (aK (fU K i) i0 l rs σ).tm t=if o.dst=some t then r.1.1 else get (aK K i0 l rs σ).tm t:=by
 intro l rs i0 k σ o r G7 ho hr hi hlen tq;by_cases hd:o.dst=some t
 ·rw[aaK hd];induction l generalizing rs i0 k σ with
   |nil=>simp at ho
   |cons p l ih=>
    cases rs with
     |nil=>simp at hr
     |cons q rs=>
      simp only[aK];cases k with
       |zero=>
        simp at ho hr G7;subst ho;subst hr;subst G7;have Hj:fU K i i=true:=by simp[fU]
        rw[Hj,aaJ];have Hk:∀(l':List aj)(Fm:List ((V×Wr)×List Nat))(m:Nat)(s:St),(∀(j:Nat)(o':aj),l'[j]? =some o'->o'.dst=some t->fU K i (m+j)=false)->get (aK (fU K i) m l' Fm s).tm t=get s.tm t:=by
         intro l';induction l' with
          |nil=>grind[aK]
          |cons p' l' Wz=>
           intro Fm m s hn;cases Fm with
            |nil=>simp[aK]
            |cons q' Fm=>
             simp only[aK];rw[Wz Fm (m+1) _ (fun j o' h e=>by have:=hn (j+1) o' (by grind) e;grind)];by_cases hs:p'.dst=some t
             ·have:=hn 0 p' rfl hs;grind
             grind[kT]
        rw[Hk _ _ _ _ (fun j o' h e=>by
         have hl:=tq (j+1) o' (by grind) (by omega) e hd;have fq:i+1+j≠i:=by omega
         simp only[fU,fq,decide_false,Bool.or_false];grind)]
        simp[kT,hd]
       |succ k=>grind
 ·rw[aaF hd];refine qB rfl (fun j o' h1 h2=>?_ );grind[Option.some.injEq,fU]
theorem qF{b:Nat}:∀{l:List aj}{rs:List ((V×Wr)×List Nat)}{i0 k:Nat}{σ:St}{r:(V×Wr)×List Nat},l.length=rs.length->i=i0+k->rs[k]? =some r->K i=false->(∀(j:Nat)(r':(V×Wr)×List Nat),rs[j]? =some r'->j≠k->bU r'.1.2=some b->bU r.1.2=some b->K (i0+j)=true->j<k)->aF (aK (fU K i) i0 l rs σ).hp b=aF (br (aK K i0 l rs σ).hp r.1.2) b:=by
 intro l rs i0 k σ r hlen G7 hr hi tq;have JM:∀(s:St)(o:aj)(q:(V×Wr)×List Nat),(s.iS o.dst q.1.1 (br s.hp q.1.2)).hp=br s.hp q.1.2:=by intro s o q;cases o.dst<;>rfl
 by_cases hd:bU r.1.2=some b
 ·have uZ:aF (br (aK K i0 l rs σ).hp r.1.2) b=aF (br [] r.1.2) b:=by cases hw:r.1.2<;>grind[bU,Option.some.injEq,br,dT]
  rw[uZ];clear uZ;induction rs generalizing l i0 k σ with
   |nil=>simp at hr
   |cons q rs ih=>
    cases l with
     |nil=>grind
     |cons p l=>
      simp only[aK];cases k with
       |zero=>
        simp at hr G7;subst hr;subst G7;have Hj:fU K i i=true:=by simp[fU]
        rw[Hj,aaJ];have Hk:∀(Fm:List ((V×Wr)×List Nat))(l':List aj)(m:Nat)(s:St),(∀(j:Nat)(r':(V×Wr)×List Nat),Fm[j]? =some r'->bU r'.1.2=some b->fU K i (m+j)=false)->aF (aK (fU K i) m l' Fm s).hp b=aF s.hp b:=by
         intro Fm;induction Fm with
          |nil=>grind[aK]
          |cons q' Fm Wz=>
           intro l' m s hn;cases l' with
            |nil=>simp[aK]
            |cons p' l'=>
             simp only[aK];rw[Wz l' (m+1) _ (fun j r' h e=>by have:=hn (j+1) r' (by grind) e;grind)];by_cases hs:bU q'.1.2=some b
             ·have:=hn 0 q' rfl hs;grind
             ·cases fU K i m with
               |false=>rfl
               |true=>simp only[aaJ,JM,nU];grind[bU,Option.some.injEq]
        rw[Hk _ _ _ _ (fun j r' h e=>by
         have hl:=tq (j+1) r' (by grind) (by omega) e hd;have fq:i+1+j≠i:=by omega
         simp only[fU,fq,decide_false,Bool.or_false];grind)]
        rw[JM];cases hw:q.1.2<;>grind[bU,Option.some.injEq,br,dT]
       |succ k=>grind
 ·have uZ:aF (br (aK K i0 l rs σ).hp r.1.2) b=aF (aK K i0 l rs σ).hp b:=by grind[nU,bU,Option.some.injEq]
  rw[uZ];refine qC rfl (fun j r' h1 h2=>?_ );grind[Option.some.injEq,fU]
end
end Fw
/-
  A region whose order is drawn: the rule.
-/
namespace Fw
open Go
def DM(o:aj):aj:={o with after:=[]}
def u3(k:Nat)(l:List aj):Bool:=(List.range l.length).all fun j=>Nat.ble j k||((l[j]? ).map fun o=>o.after.contains (j - 1)).getD false
section
variable {P:Program}{GL:ch}
variable {l:List aj}{k mm:Nat}{σ:St}{Q:Ex->St->Prop}{o:aj}
theorem eB{K K':Nat->Bool}:∀{l:List aj}{rs:List ((V×Wr)×List Nat)}{i:Nat}{σ:St},(∀j,j<l.length->K (i+j)=K' (i+j))->aK K i l rs σ=aK K' i l rs σ
 |[],_,_,_,_=>by simp[aK]
 |_::_,[],_,_,_=>by simp[aK]
 |o::l,r::rs,i,σ,h=>by simp only[aK];have h0:=h 0 (by simp);simp at h0;rw[h0];exact eB (fun j hj=>by have:=h (j+1) (by simp;omega);grind)
theorem jq:∀{l:List aj}{rs:List ((V×Wr)×List Nat)}{k:Nat}{K:Nat->Bool}{σ:St},(∀j,k<=j->K j=false)->aK K k l rs σ=σ
 |[],_,_,_,_,_=>by simp[aK]
 |_::_,[],_,_,_,_=>by simp[aK]
 |o::l,r::rs,k,K,σ,h=>by simp only[aK,h k (aaP _),aaT];exact jq fun j hj=>h j (by omega)
theorem gI{K:Nat->Bool}{m:Nat}:∀{l:List aj}{rs:List ((V×Wr)×List Nat)}{i:Nat}{σ:St},σ.hp.length=m->(∀r∈rs,∀b,bU r.1.2=some b->b<m)->(aK K i l rs σ).hp.length=m
 |[],_,_,_,h,_=>by grind[aK]
 |_::_,[],_,_,h,_=>by grind[aK]
 |o::l,r::rs,i,σ,h,hs=>by
  simp only[aK];refine gI ?_ (fun r' jH=>hs r' (by simp[jH]));cases K i with
   |false=>exact h
   |true=>
    have JM:(σ.iS o.dst r.1.1 (br σ.hp r.1.2)).hp=br σ.hp r.1.2:=by cases o.dst<;>rfl
    simp only[aaJ,JM];cases hw:r.1.2 with
     |none=>exact h
     |some p=>obtain⟨b,y⟩:=p;have hb:=hs r (by simp) b (by rw[hw];rfl);simp only[br];rw[gY (by omega)];exact h
theorem nV{ops:Array Oper}(hc:lF P ops.toList true ops.toList=some l):l.length=ops.size/\∀(i:Nat)(o':Oper),ops[i]? =some o'->∃o:aj,l[i]? =some o/\(bq P o'.op).getD .bad=o.op/\gC ops.toList o'=some o.guard/\o'.dst=o.dst/\o.after=eM o':=by refine⟨by have:=cA hc;grind,fun i o' pI=>?_ ⟩;obtain⟨o,h1,h2⟩:=jm i o' hc (by grind);refine⟨o,h1,?_⟩;unfold fg at h2;grind
def gx(n:Nat)(l:List aj):Bool:=l.all fun o=>match o.dst with|some d=>Nat.blt d n|none=>true
def e8(m:Nat)(rs:List ((V×Wr)×List Nat)):Bool:=rs.all fun r=>match bU r.1.2 with|some b=>Nat.blt b m|none=>true
def iB(l:List aj)(rs:List ((V×Wr)×List Nat))(σ:St)(i:Nat):St:=aK (fun j=>decide (j<i)) 0 l rs σ
def eC(σ:St)(n:Nat):St:=⟨σ.n,σ.tm,σ.hp++List.replicate n none⟩
def kB(k:Nat)(o:aj):aj:={o with after:=(o.after.filter fun e=>Nat.ble k e).map (· - k)}
def iN(k:Nat)(l:List aj):List aj:=(l.drop k).map (kB k)
def Hl(m:Nat):List Nat->Bool|[]=>true|r::rs=>Nat.beq (Nat.land r (2^m - 1)) (2^m - 1)&&Hl m rs
def qG(k m:Nat)(l:List aj):Bool:=pc 0 (iN k l)&&Hl m ((de 0 [] (iN k l)).drop m)
def DP(P:Program)(GL:ch)(mm:Nat)(l:List aj)(k:Nat)(σ:St)(Q:Ex->St->Prop):Prop:=∀(ops:Array Oper),lF P ops.toList true ops.toList=some l->∀(listed:Array Bool) g w a g0 w0,listed.size=ops.size->(∀j,listed.getD j false=decide (j<k))->R GL g w a σ->(∀b,g0.cV b->b<mm)->cg g0 w0 g w->wpAny P .any ops (di GL g0 w0 Q) (ops.size - k) listed a w
theorem z7{m:Nat}:∀{rs:List Nat}{i:Nat},Hl m rs=true->i<rs.length->∀j,j<m->Nat.testBit (rs.getD i 0) j=true
 |[],i,_,h,_,_=>by simp at h
 |r::rs,0,h,_,j,hj=>by
  simp only[Hl,aaD]at h;have e:=aaM h.1;have h1:Nat.testBit (Nat.land r (2^m - 1)) j=true:=by grind
  rw[Hh,aaD]at h1;grind
 |r::rs,i+1,h,hi,j,hj=>by simp only[Hl,aaD]at h;rw[List.getD_cons_succ];exact z7 h.2 (by grind) j hj
theorem yo{K:Nat->Bool}(hb:pc 0 l=true)(hK:kz l K):∀j i,Nat.testBit ((de 0 [] l).getD j 0) i=true->K j=true->K i=true:=by
 intro j;induction j using Nat.strongRecOn with
  |_ j ih=>
   intro i hi hj;have DN:j<l.length:=by
    rcases abG j l.length with h|h
    ·exact h
    ·rw[abR,ac5 (by grind[c8])]at hi;simp at hi
   have ho:l[j]? =some l[j]:=aaI DN;obtain⟨e,h4,h5⟩:=lQ hb (fun e m hm fq=>by grind[pb]) j _ ho i hi;have Wy:=hK j _ ho hj e h4;have b8:=lR hb j _ ho e h4;grind
theorem Fu{i:Nat}(h:l[k+i]? =some o):(iN k l)[i]? =some (kB k o):=by grind[iN]
theorem Fv{i:Nat}(h:(iN k l)[i]? =some o):∃o',l[k+i]? =some o'/\o=kB k o':=by grind[iN,Option.map_eq_some_iff]
theorem rX{e:Nat}:e∈(kB k o).after↔k+e∈o.after:=by simp only[kB,aa_,abi,adj];grind
theorem WC.CF(hm:P.follows .mixedOrders=true)(h:DP P GL σ.hp.length l 0 σ Q):WC P GL (.draw l) σ Q:=by
 intro code hc g w xh hr;obtain⟨id,ops,rfl,hl⟩:∃id ops,code=.region id ops true/\lF P ops.toList true ops.toList=some l:=by
  cases code with
   |region id ops draw=>grind[aR]
   |seq=>grind[aR]
   |cond=>grind[aR]
   |_=>simp[aR]at hc
 refine wp_region_any hm ?_;have lT:∀j,(Array.replicate ops.size false).getD j false=false:=by intro j;rw[aaW,Array.getElem?_replicate];grind
 exact h ops hl (Array.replicate ops.size false) g _ xh g w (by simp) (fun j=>by grind) (hr.drawn _) (fun b hb=>hr.heap.cV b hb) (cg.drawn g w _)
theorem DP.done(h:Q .normal σ):DP P GL mm l l.length σ Q:=by intro ops hl listed g w a g0 w0 cK hK hR hm hE;obtain⟨hlen,_⟩:=nV hl;rw[hlen,adk];refine⟨?_,g,σ,hR,hE,h⟩;unfold Region.ready;grind[List.filter_eq_nil_iff,Array.getD_eq_getD_getElem?]
theorem DP.part(m:Nat){qc:Nat->Option V}{rs:List ((V×Wr)×List Nat)}{lp:List aj}(Pw:(iN k l).take m=lp)(hm:Nat.ble (k+m) l.length=true)(Hm:qG k m l=true)(fA:pG GL σ.hp.length qc 0 lp (eC σ lp.length)=some rs)(iL:dW lp rs=true)(gG:gx σ.n lp=true)(z8:e8 (σ.hp.length+lp.length) rs=true)(hq:∀(i:Nat)(o:aj)(r:(V×Wr)×List Nat),lp[i]? =some o->rs[i]? =some r->∀f args,bX o.op=some (f,args)->aA o.guard (iB lp rs (eC σ lp.length) i).tm=some true->g_ P GL f (bu (aZ GL (iB lp rs (eC σ lp.length) i).tm) args) (iB lp rs (eC σ lp.length) i).hp r.1.1)(h:DP P GL mm l (k+m) (aK (fun _=>true) 0 lp rs (eC σ lp.length)) Q):DP P GL mm l k σ Q:=by
 intro ops hl yp g w xh g0 w0 WA Nw hr hdm hE0;have hm:=aaN hm;simp only[qG,aaD]at Hm;obtain⟨hlen,pd⟩:=nV hl;have aam:lp.length=m:=by rw[←Pw];simp[iN];omega
 have Qp:∀i,i<m->∀o,l[k+i]? =some o->lp[i]? =some (kB k o):=fun i hi o ho=>by rw[←Pw,abI,aaK hi];exact Fu ho
 have aac:∀i o,lp[i]? =some o->(iN k l)[i]? =some o:=fun i o ho=>by
  rw[←Pw,abI]at ho;split at ho
  ·exact ho
  ·cases ho
 obtain⟨Vd,WB⟩:=uR fA;have Px:=tp iL Vd;have Hn:∀(i:Nat)(o:aj),lp[i]? =some o->∀d,o.dst=some d->d<σ.n:=by intro i o ho d hd;have:=(aa3.1 gG) o (aaH ho);rw[hd]at this;simpa[abb]using this
 have jr:∀r∈rs,∀b,bU r.1.2=some b->b<σ.hp.length+lp.length:=by intro r hr b hb;have:=(aa3.1 z8) r hr;rw[hb]at this;simpa[abb]using this
 generalize CH:eC σ lp.length=jI at*;have tO:jI.hp.length=σ.hp.length+lp.length:=by rw[←CH];simp[eC]
 have Py:jI.n=σ.n:=by rw[←CH];rfl
 have key:∀(kC:Nat)(listed:Array Bool)(g1:G)(w1:World)(a1:Act),listed.size=ops.size->(∀j,j<k->listed.getD j false=true)->(∀j,k+m<=j->listed.getD j false=false)->((List.range m).filter fun j=> !listed.getD (k+j) false).length=kC->kz lp (fun j=>listed.getD (k+j) false)->R GL g1 w1 a1 (aK (fun j=>listed.getD (k+j) false) 0 lp rs jI)->cg g w g1 w1->(∀b,g1.cV b->b<σ.hp.length\/∃j,listed.getD (k+j) false=true/\b=σ.hp.length+j)->wpAny P .any ops (di GL g0 w0 Q) (kC+(ops.size - (k+m))) listed a1 w1:=by
  intro kC;induction kC with
   |zero=>
    intro listed g1 w1 a1 cK kQ jD rY mz hR hE lI;have lN:∀j,j<m->listed.getD (k+j) false=true:=by intro j hj;have:=List.eq_nil_of_length_eq_zero rY;rw[acF]at this;have:=this j (by simpa using hj);simpa using this
    rw[aaY];refine h ops hl listed g1 w1 a1 g0 w0 cK (fun j=>?_ ) ?_ hdm (hE0.trans hE)
    ·rcases abG j k with h1|h1
     ·rw[kQ j h1,aa0 (by omega)]
     ·rcases abG j (k+m)with h2|h2
      ·have:=lN (j - k) (by omega);rw[show k+(j - k)=j by omega]at this;rw[this,aa0 h2]
      ·rw[jD j h2,aaS (by omega)]
    ·rw[eB (K':=fun j=>listed.getD (k+j) false) (fun j hj=>by simp only[aaY];exact(lN j (by omega)).symm)];exact hR
   |succ kC ih=>
    intro listed g1 w1 a1 cK kQ jD rY mz hR hE lI;have GG:∃j,j<m/\listed.getD (k+j) false=false:=by
     have fq:((List.range m).filter fun j=> !listed.getD (k+j) false)≠[]:=by intro e;rw[e]at rY;simp at rY
     obtain⟨j,hj⟩:=List.exists_mem_of_ne_nil _ fq;rw[abi]at hj;exact⟨j,by simpa using hj.1,by simpa using hj.2⟩
    rw[show kC+1+(ops.size - (k+m))=(kC+(ops.size - (k+m)))+1 by omega];constructor
    ·intro Ho;exfalso;obtain⟨j,⟨Pz,Cu⟩,Ke⟩:=Hc GG;have Qq:ops[k+j]? =some ops[k+j]:=Array.getElem?_eq_getElem (by omega);obtain⟨o,ho,_,_,_,wS⟩:=pd (k+j) _ Qq;have hrj:j<rs.length:=by omega
     have z_:=cN (Qp j Pz o ho) (aaI hrj);have:k+j∈Region.ready .any ops listed:=by
      unfold Region.ready;rw[abi];refine⟨by rw[ab5];omega,?_ ⟩;have h2:listed.getD (k+j) true=false:=by rw[aaW]at Cu⊢;rw[Array.getElem?_eq_getElem (by omega)]at Cu⊢;exact Cu
      simp only[h2,ab7,abd,Qq,aaU,abE,abO];intro e he;cases hb:Region.binds .any e with
       |false=>rfl
       |true=>
        simp only[abF,acP];have JN:e.on∈o.after:=by rw[wS];simp only[eM,aa_,abi];exact⟨e,⟨by simpa using he,hb⟩,rfl⟩
        rcases abG e.on k with h1|h1
        ·exact kQ _ h1
        ·have b8:=Px.before j _ z_ (e.on - k) (rX.2 (by rwa[show k+(e.on - k)=e.on by omega]));cases mK:listed.getD e.on false with
          |true=>rfl
          |false=>have:=Ke (e.on - k) ⟨by omega,by rwa[show k+(e.on - k)=e.on by omega]⟩;omega
     rw[Ho]at this;cases this
    ·intro i0 hi;unfold Region.ready at hi;rw[abi]at hi;have z_:i0<ops.size:=by simpa using hi.1
     have JO:ops[i0]? =some ops[i0]:=Array.getElem?_eq_getElem z_;have qy:=hi.2;simp only[aaD,aa5,JO,aaU,abE,abO]at qy;obtain⟨o0,Nx,kx,tR,hd,wS⟩:=pd i0 _ JO;have Nw:listed.getD i0 false=false:=by have:=qy.1;rw[aaW]at this⊢;rw[Array.getElem?_eq_getElem (by omega)]at this⊢;exact this
     have DO:∀e∈o0.after,listed.getD e false=true:=by intro e he;rw[wS]at he;simp only[eM,aa_,abi]at he;obtain⟨ed,⟨Kg,DG⟩,rfl⟩:=he;have:=qy.2 ed (by simpa using Kg);simpa[DG]using this
     have uM:k<=i0:=by
      rcases abG i0 k with h1|h1
      ·rw[kQ i0 h1]at Nw;cases Nw
      ·exact h1
     obtain⟨i,rfl⟩:∃i,i0=k+i:=⟨i0 - k,by omega⟩;have wO:i<m:=by
      rcases abG i m with h1|h1
      ·exact h1
      ·exfalso;obtain⟨j,Pz,Cu⟩:=GG;have WD:(iN k l).length=l.length - k:=by simp[iN]
       have WE:Nat.testBit ((de 0 [] (iN k l)).getD i 0) j=true:=by have:=z7 (m:=m) (i:=i - m) Hm.2 (by rw[abm,c8,WD];omega) j Pz;rw[abR,acx,show m+(i - m)=i by omega,←abR]at this;exact this
       have hC:kz (iN k l) (fun j=>listed.getD (k+j) false||decide (j=i)):=by
        intro j' o' pI PA e he;simp only[aa8,aaL]at PA⊢;rcases PA with PA|rfl
        ·have U2:j'<m:=by
          rcases abG j' m with h2|h2
          ·exact h2
          ·rw[jD (k+j') (by omega)]at PA;cases PA
         left;refine mz j' o' ?_ PA e he;rw[←Pw,abI,aaK U2];exact pI
        ·obtain⟨o2,k1,rfl⟩:=Fv pI;rw[Nx]at k1;simp only[aaC]at k1;subst k1;exact .inl (DO _ (rX.1 he))
       have:=yo Hm.1 hC i j WE (by simp);simp only[aa8,aaL]at this;rcases this with h2|h2
       ·rw[Cu]at h2;cases h2
       ·omega
     obtain⟨o,ho,kx,tR,hd,kA⟩:∃o,lp[i]? =some o/\(bq P (ops[k+i]).op).getD .bad=o.op/\gC ops.toList ops[k+i]=some o.guard/\(ops[k+i]).dst=o.dst/\∀e∈o.after,listed.getD (k+e) false=true:=⟨kB k o0,Qp i wO o0 Nx,kx,tR,hd,fun e he=>DO _ (rX.1 he)⟩;have Qr:i<rs.length:=by omega
     have GH:rs[i]? =some rs[i]:=aaI Qr;obtain⟨r,yl,Ff,Qs⟩:=WB i _ ho;rw[GH]at yl;simp only[aaC]at yl;simp only[aaY]at Ff Qs;have Hq:listed.getD (k+i) false=false:=Nw;have Ny:=cN ho GH;have Cs:∀{j:Nat}{y:o_},(iM lp rs)[j]? =some y->ni {dst:=o.dst,lk:=gf o,rd:=rs[i].2,ws:=bU rs[i].1.2,after:=o.after} y=true->listed.getD (k+j) false=decide (j<i):=fun hy hm=>agree Px mz ho Hq kA Ny hy hm (by rw[xj];exact hm)
     have uf:∀t∈gf o,get (aK (fun j=>listed.getD (k+j) false) 0 lp rs jI).tm t=get (iB lp rs jI i).tm t:=by
      intro t ht;refine qB rfl (fun j o' h1 h2=>?_ );simp only[aaY];have NA:j<rs.length:=by have:=(aaO.1 h1).1;omega
      have pJ:=cN h1 (aaI NA);refine Cs pJ ?_;unfold ni;have:Cb o'.dst (gf o)=true:=qA.2 ⟨t,h2,ht⟩;simp[this]
     have Qt:∀b∈mV (aZ GL (iB lp rs jI i).tm) o.op,aF (aK (fun j=>listed.getD (k+j) false) 0 lp rs jI).hp b=aF (iB lp rs jI i).hp b:=by
      intro b hb;refine qC rfl (fun j r' h1 h2=>?_ );simp only[aaY];have DN:j<lp.length:=by have:=(aaO.1 h1).1;omega
      have pJ:=cN (aaI DN) h1;refine Cs pJ ?_;unfold ni;have:Cb (bU r'.1.2) rs[i].2=true:=qA.2 ⟨b,h2,by rw[yl,Qs];exact hb⟩;simp[this]
     have yq:=uX (GL:=GL) (ns:=σ.hp.length+i) (cv:=qc i) uf Qt;have NB:gn GL (iB lp rs jI i).tm (iB lp rs jI i).hp (σ.hp.length+i) o (qc i)=some r.1:=Ff;rw[NB]at yq;have NC:∀x∈looks o.op,aZ GL (aK (fun j=>listed.getD (k+j) false) 0 lp rs jI).tm x=aZ GL (iB lp rs jI i).tm x:=fun x hx=>rW (fun t ht=>uf t (by simp only[gf,aa2,List.mem_filterMap];exact .inl ⟨x,hx,ht⟩))
     have WG:aA o.guard (aK (fun j=>listed.getD (k+j) false) 0 lp rs jI).tm=aA o.guard (iB lp rs jI i).tm:=lS (fun d w hd=>uf d (by simp[gf,hd]));unfold wpOp;simp only[JO];have Kh:=DL (P:=P) (GL:=GL) (ops:=ops) (v:=r.1.1) (wr:=r.1.2) kx tR hd yq (fun f args hc Mf=>by
      rw[WG]at Mf;have:=hq i o rs[i] ho GH f args hc Mf;rw[yl]at this;have PB:bu (aZ GL (aK (fun j=>listed.getD (k+j) false) 0 lp rs jI).tm) args=bu (aZ GL (iB lp rs jI i).tm) args:=by refine fK (fun x hx=>NC x ?_ );cases Aa:o.op<;>rw[Aa]at hc<;>simp[bX]at hc;obtain⟨rfl,rfl⟩:=hc;simpa[looks]using hx
      rw[PB];refine this.congr (fun b hb=>Qt b ?_ );cases Aa:o.op<;>rw[Aa]at hc<;>simp[bX]at hc;obtain⟨rfl,rfl⟩:=hc;simpa only[mV]using hb) hR (by
      intro Mh;rcases lI _ Mh with h1|⟨j,h1,h2⟩
      ·omega
      ·have:j=i:=by omega
       subst this;rw[Hq]at h1;cases h1) (fun d Mh=>by rw[j_,Py];exact Hn i o ho d Mh) (wpAny P .any ops (di GL g0 w0 Q) (kC+(ops.size - (k+m))) (listed.setIfInBounds (k+i) true)) (di GL g0 w0 Q) (by
      intro g2 w2 a2 WH WI WJ;have GI:∀j,(listed.setIfInBounds (k+i) true).getD (k+j) false=fU (fun j=>listed.getD (k+j) false) i j:=by
       intro j;simp only[fU,aaW];by_cases hj:j=i
       ·subst hj;rw[acb (by omega)];simp
       ·rw[abS (by omega)];simp[hj]
      have hKo:∀j,j≠k+i->(listed.setIfInBounds (k+i) true).getD j false=listed.getD j false:=by intro j hj;simp only[aaW];rw[abS (fun e=>hj e.symm)]
      have Ab:aK (fun j=>(listed.setIfInBounds (k+i) true).getD (k+j) false) 0 lp rs jI=aK (fU (fun j=>listed.getD (k+j) false) i) 0 lp rs jI:=eB (fun j _=>GI _);refine ih _ g2 w2 a2 (by simpa using cK) (fun j hj=>by rw[hKo j (by omega)];exact kQ j hj) (fun j hj=>by rw[hKo j (by omega)];exact jD j hj) ?_ ?_ ?_ (hE.trans WI) ?_
      ·have e1:(fun j=> !(listed.setIfInBounds (k+i) true).getD (k+j) false)=fun j=> !listed.getD (k+j) false&& !decide (j=i):=by funext j;rw[GI j];simp[fU]
       rw[e1];have CI:∀(m:Nat)(f:Nat->Bool),i<m->f i=true->((List.range m).filter f).length=((List.range m).filter fun j=>f j&& !decide (j=i)).length+1:=by
        intro m f;induction m with
         |zero=>intro h;omega
         |succ m WK=>
          intro wO Qu;rw[List.range_succ,acA,acA,aaZ,aaZ];rcases abG i m with h1|h1
          ·rw[WK h1 Qu];have:m≠i:=by omega
           simp[ab4,this];split<;>simp<;>omega
          ·have:m=i:=by omega
           subst this;have Hr:(List.range m).filter f=(List.range m).filter fun j=>f j&& !decide (j=m):=by
            refine List.filter_congr (fun j hj=>?_ );have:j≠m:=by have:=ab5.1 hj;omega
            simp[this]
           rw[←Hr];simp[ab4,Qu]
       have:=CI m (fun j=> !listed.getD (k+j) false) wO (by simp[Hq]);rw[rY]at this;omega
      ·intro j o' pI hj e he;simp only[GI]at hj⊢;simp only[fU,aa8,aaL]at hj⊢;rcases hj with hj|rfl
       ·exact .inl (mz j o' pI hj e he)
       ·rw[ho]at pI;simp only[aaC]at pI;subst pI;exact .inl (kA e he)
      ·rw[Ab];refine WH.congr ?_ (fun t=>?_ ) ?_
       ·rw[j_];have:∀(s:St)(v:V)(H:ao),(s.iS o.dst v H).n=s.n:=by intro s v H;cases o.dst<;>rfl
        rw[this,j_]
       ·rw[qE (k:=i) (by omega) ho GH Hq (by omega) (fun j o' h1 h2 h3 h4 h5=>by
         simp only[aaY]at h5;have NA:j<rs.length:=by have:=(aaO.1 h1).1;omega
         have pJ:=cN h1 (aaI NA);have:=Cs pJ (by unfold ni;have:mA o.dst o'.dst=true:=eQ.2 ⟨t,h4,h3⟩;simp[this]);rw[h5]at this;simpa using this.symm),kT,yl]
       ·have JM:∀(s:St)(v:V)(H:ao),(s.iS o.dst v H).hp=H:=by intro s v H;cases o.dst<;>rfl
        rw[JM];refine uT ?_ (fun b=>?_ )
        ·rw[gI tO (by rw[←tO]at jr⊢;simpa[tO]using jr)];cases hw:r.1.2 with
          |none=>simp only[br];rw[gI tO (by simpa using jr)]
          |some p=>obtain⟨c,y⟩:=p;have hc:c<σ.hp.length+lp.length:=jr rs[i] (List.getElem_mem Qr) c (by rw[yl,hw];rfl);have M6:=gI (K:=fun j=>listed.getD (k+j) false) (i:=0) (l:=lp) (rs:=rs) tO (by simpa using jr);simp only[br];rw[gY (by omega),M6]
        ·have:=qF (K:=fun j=>listed.getD (k+j) false) (b:=b) (σ:=jI) (i0:=0) (k:=i) (l:=lp) (by omega) (by omega) GH Hq (fun j r' h1 h2 h3 h4 h5=>by
          simp only[aaY]at h5;have DN:j<lp.length:=by have:=(aaO.1 h1).1;omega
          have pJ:=cN (aaI DN) h1;have:=Cs pJ (by unfold ni;have:mA (bU rs[i].1.2) (bU r'.1.2)=true:=eQ.2 ⟨b,h4,h3⟩;simp[this]);rw[h5]at this;simpa using this.symm)
         rw[this,yl]
      ·intro b hb;rcases WJ b hb with h1|rfl
       ·rcases lI b h1 with h2|⟨j,h2,h3⟩
        ·exact .inl h2
        ·exact .inr ⟨j,by rw[GI];simp[fU,h2],h3⟩
       ·exact .inr ⟨i,by rw[GI];simp[fU],rfl⟩)
     split
     ·rename_i hw;simp only[hw,abL]at Kh;exact .inl Kh
     ·rename_i hw;simp only[hw]at Kh;exact Kh
 rw[show ops.size - k=m+(ops.size - (k+m)) by omega];have lT:∀j,yp.getD (k+j) false=false:=fun j=>by rw[Nw];simp
 have uS:aK (fun j=>yp.getD (k+j) false) 0 lp rs jI=jI:=jq fun j _=>lT j
 refine key m yp g _ xh WA (fun j hj=>by rw[Nw,aa0 hj]) (fun j hj=>by rw[Nw,aaS (by omega)]) ?_ ?_ ?_ (cg.refl _ _) ?_
 ·simp only[lT,ab7];rw[acv.2 (by simp)];simp
 ·intro j o _ hj;simp only[lT]at hj;cases hj
 ·rw[uS,←CH];exact hr.pad lp.length
 ·intro b hb;exact .inl (hr.heap.cV b hb)
theorem wT{ops:List Oper}{o:Oper}{o':aj}(h:fg P ops true o=some o'):fg P ops false o=some (DM o'):=by
 unfold fg at h⊢;split at h
 ·simp only[aaC]at h;subst h;rfl
 ·cases h
theorem xk{ops:List Oper}:∀{L:List Oper}{l:List aj},bW (fg P ops true) L=some l->bW (fg P ops false) L=some (l.map DM)
 |[],l,h=>by grind[bW,Option.some.injEq]
 |x::L,l,h=>by
  simp only[bW]at h;cases h1:fg P ops true x with
   |none=>grind
   |some y=>
    rw[h1]at h;cases h2:bW (fg P ops true) L with
     |none=>grind
     |some ys=>rw[h2]at h;simp only[aaC]at h;subst h;simp only[bW,wT h1,xk h2,aaV]
theorem xl{α β:Type}{f:α->Option β}:∀{L:List α}{l:List β}(k:Nat),bW f L=some l->bW f (L.drop k)=some (l.drop k)
 |L,l,0,h=>by grind
 |[],l,k+1,h=>by grind[bW,Option.some.injEq]
 |x::L,l,k+1,h=>by
  simp only[bW]at h;cases h1:f x with
   |none=>grind
   |some y=>
    rw[h1]at h;cases h2:bW f L with
     |none=>grind
     |some ys=>rw[h2]at h;simp only[aaC]at h;subst h;simpa using xl k h2
theorem xn{ops:Array Oper}{Q:Exit->Act->World->Prop}(hb:∀(i:Nat)(hi:i<ops.size) (e),e∈ops[i].after->Region.binds .any e=true->e.on<i):∀(m k:Nat)(listed:Array Bool)(a:Act)(w:World),listed.size=ops.size->(∀j,listed.getD j false=decide (j<k))->k+m=ops.size->(∀(j:Nat)(hj:j<ops.size),k<j->∃e,e∈ops[j].after/\Region.binds .any e=true/\e.on=j - 1)->wpOps P ops Q (List.range' k m) a w->wpAny P .any ops Q m listed a w
 |0,k,listed,a,w,cK,hK,hm,hc,h=>by refine⟨?_,by grind[wpOps]⟩;unfold Region.ready;grind[List.filter_eq_nil_iff,Array.getD_eq_getD_getElem?]
 |m+1,k,listed,a,w,cK,hK,hm,hc,h=>by
  have Np:k<ops.size:=by omega
  have iL:ops[k]? =some ops[k]:=Array.getElem?_eq_getElem Np;rw[List.range'_succ,wpOps_cons]at h;have aF:∀j,j<ops.size->listed.getD j true=decide (j<k):=fun j hj=>by grind
  constructor
  ·intro Ho;exfalso;have:k∈Region.ready .any ops listed:=by unfold Region.ready;grind
   grind
  ·intro i hi;unfold Region.ready at hi;rw[abi]at hi;have z_:i<ops.size:=by grind
   have JO:ops[i]? =some ops[i]:=Array.getElem?_eq_getElem z_;have qy:=hi.2;simp only[aaD,aa5,JO,aaU,abE,abO]at qy;have Qb:k<=i:=by grind
   have G7:i=k:=by grind
   subst G7;refine wpOp_mono (fun a' w' hq=>?_ ) h;refine xn hb m (i+1) _ a' w' (by simp[cK]) (fun j=>?_ ) (by omega) (fun j hj b8=>hc j hj (by omega)) hq;by_cases hji:j=i
   ·simp_all
   ·have h3:=hK j;rw[aaW]at h3⊢;grind
theorem DP.chain(hk:Nat.ble k l.length=true)(WL:pc 0 l=true)(U_:u3 k l=true)(h:WO P GL ((l.drop k).map DM) σ (fun s=>Q .normal s)):DP P GL mm l k σ Q:=by
 intro ops hl listed g w a g0 w0 cK hK hR hm hE;have hk:=aaN hk;obtain⟨hlen,pd⟩:=nV hl;have hw:=h ops k (by have:=xl k (xk hl);rw[ac2];exact this) g w a hR;have WM:=dt (Q':=di GL g0 w0 Q) (fun e a v hp=>by have:=di.ext hE e a v hp;cases e<;>first|exact this|(obtain⟨_,_,_,_,h⟩:=this;grind)) _ _ _ hw;refine xn (fun i hi e he Vi=>?_ ) _ k listed a w cK hK (by omega) (fun j hj b8=>?_ ) WM
 ·obtain⟨o,ho,_,_,_,wS⟩:=pd i _ (Array.getElem?_eq_getElem hi);have JN:e.on∈o.after:=by grind[eM]
  have:=lR WL i o ho e.on JN;omega
 ·obtain⟨o,ho,_,_,_,wS⟩:=pd j _ (Array.getElem?_eq_getElem hj);unfold u3 at U_;have h1:=aa3.1 U_ j (by grind);have h2:Nat.ble j k=false:=by
   cases hb:Nat.ble j k with
    |false=>rfl
    |true=>have:=aaN hb;omega
  rw[h2,acP,ho]at h1;grind[List.contains_iff_mem,eM]
theorem js(l:List aj):iN 0 l=l:=by
 have h:∀o,kB 0 o=o:=fun o=>by
  have:(o.after.filter fun e=>Nat.ble 0 e)=o.after:=acv.2 fun a _=>by simp_all
  simp[kB,this]
 unfold iN;rw[abA,show kB 0=id from funext h,List.map_id]
theorem DQ(h:pH l=true):qG 0 l.length l=true:=by simp only[pH,aaD]at h;rw[qG,js,h.1,acG (by grind[c8])];rfl
theorem WC.draw{qc:Nat->Option V}{rs:List ((V×Wr)×List Nat)}(hm:P.follows .mixedOrders=true)(fA:pG GL σ.hp.length qc 0 l (eC σ l.length)=some rs)(iL:dW l rs=true)(gG:gx σ.n l=true)(z8:e8 (σ.hp.length+l.length) rs=true)(hq:∀(i:Nat)(o:aj)(r:(V×Wr)×List Nat),l[i]? =some o->rs[i]? =some r->∀f args,bX o.op=some (f,args)->aA o.guard (iB l rs (eC σ l.length) i).tm=some true->g_ P GL f (bu (aZ GL (iB l rs (eC σ l.length) i).tm) args) (iB l rs (eC σ l.length) i).hp r.1.1)(h:Q .normal (aK (fun _=>true) 0 l rs (eC σ l.length))):WC P GL (.draw l) σ Q:=by exact WC.CF hm (DP.part l.length (by rw[js,abu]) (by rw[adj];omega) (DQ (by simp only[dW,aaD]at iL;exact iL.1)) fA iL gG z8 hq (by rw[aaY];exact DP.done h))
end
end Fw
/-
  A drawn region whose last operation is a call that comes after all others.
-/
namespace Fw
open Go
section
variable {P:Program}{GL:ch}
theorem WC.Hs{l:List aj}{ot:aj}{ft:FuncId}{Ac:List a_}{σ:St}{Q:Ex->St->Prop}{qc:Nat->Option V}{rs:List ((V×Wr)×List Nat)}(hm:P.follows .mixedOrders=true)(fA:pG GL σ.hp.length qc 0 l (eC σ l.length)=some rs)(iL:dW l rs=true)(gG:gx σ.n l=true)(z8:e8 (σ.hp.length+l.length) rs=true)(hq:∀(i:Nat)(o:aj)(r:(V×Wr)×List Nat),l[i]? =some o->rs[i]? =some r->∀f args,bX o.op=some (f,args)->aA o.guard (iB l rs (eC σ l.length) i).tm=some true->g_ P GL f (bu (aZ GL (iB l rs (eC σ l.length) i).tm) args) (iB l rs (eC σ l.length) i).hp r.1.1)(Qv:ot.op=.call ft Ac)(ND:ot.guard=none)(WN:∀e∈ot.after,e<l.length)(WQ:∀j,j<l.length->∃e∈ot.after,j=e\/Nat.testBit ((de 0 [] l).getD e 0) j=true)(h:WF P GL ft (bu (aZ GL (aK (fun _=>true) 0 l rs (eC σ l.length)).tm) Ac) (aK (fun _=>true) 0 l rs (eC σ l.length)).hp (fun v H'=>∃aY,(aK (fun _=>true) 0 l rs (eC σ l.length)).put ot.dst v H'=some aY/\Q .normal aY)):WC P GL (.draw (l++[ot])) σ Q:=by
 intro code hc g w xh hr;obtain⟨id,ops,rfl,hl⟩:∃id ops,code=.region id ops true/\lF P ops.toList true ops.toList=some (l++[ot]):=by
  cases code with
   |region id ops draw=>
    simp only[aR]at hc;split at hc
    ·rename_i l' P9;cases draw with
      |false=>simp at hc
      |true=>simp at hc;subst hc;exact⟨id,ops,rfl,P9⟩
    ·cases hc
   |seq=>simp only[aR]at hc;split at hc<;>simp at hc
   |cond=>simp only[aR]at hc;split at hc<;>simp at hc
   |_=>simp[aR]at hc
 obtain⟨Qw,pd⟩:=nV hl;have hlen:l.length+1=ops.size:=by simpa using Qw
 obtain⟨Vd,WB⟩:=uR fA;have Px:=tp iL Vd;have Hn:∀(i:Nat)(o:aj),l[i]? =some o->∀d,o.dst=some d->d<σ.n:=by intro i o ho d hd;have:=(aa3.1 gG) o (aaH ho);rw[hd]at this;simpa[abb]using this
 have jr:∀r∈rs,∀b,bU r.1.2=some b->b<σ.hp.length+l.length:=by intro r hr b hb;have:=(aa3.1 z8) r hr;rw[hb]at this;simpa[abb]using this
 generalize CH:eC σ l.length=jI at*;have tO:jI.hp.length=σ.hp.length+l.length:=by rw[←CH];simp[eC]
 have Py:jI.n=σ.n:=by rw[←CH];rfl
 refine wp_region_any hm ?_;have key:∀(kC:Nat)(listed:Array Bool)(g1:G)(w1:World)(a1:Act),listed.size=ops.size->((List.range ops.size).filter fun j=> !listed.getD j false).length=kC->kz l (fun j=>listed.getD j false)->listed.getD l.length false=false->R GL g1 w1 a1 (aK (fun j=>listed.getD j false) 0 l rs jI)->cg g w g1 w1->(∀b,g1.cV b->b<σ.hp.length\/∃j,listed.getD j false=true/\b=σ.hp.length+j)->wpAny P .any ops (di GL g w Q) kC listed a1 w1:=by
  intro kC;induction kC with
   |zero=>intro listed g1 w1 a1 cK rY mz Qx hR hE lI;exfalso;have:=List.eq_nil_of_length_eq_zero rY;rw[acF]at this;have:=this l.length (by simp;omega);rw[Qx]at this;simp at this
   |succ kC ih=>
    intro listed g1 w1 a1 cK rY mz Qx hR hE lI;constructor
    ·intro Ho;exfalso;have GG:∃j,j<ops.size/\listed.getD j false=false:=by
      have fq:((List.range ops.size).filter fun j=> !listed.getD j false)≠[]:=by intro e;rw[e]at rY;simp at rY
      obtain⟨j,hj⟩:=List.exists_mem_of_ne_nil _ fq;rw[abi]at hj;exact⟨j,by simpa using hj.1,by simpa using hj.2⟩
     obtain⟨j,⟨Pz,Cu⟩,Ke⟩:=Hc GG;have Qq:ops[j]? =some ops[j]:=Array.getElem?_eq_getElem Pz;obtain⟨o,ho,_,_,_,wS⟩:=pd j _ Qq;have Ki:∀e∈o.after,e<j:=by
      intro e he;rcases abG j l.length with DN|DN
      ·have ho2:l[j]? =some o:=by rwa[abU DN]at ho
       exact Px.before j _ (cN ho2 (aaI (show j<rs.length by omega))) e he
      ·obtain rfl:j=l.length:=by omega
       rw[abQ (aaP _)]at ho;simp at ho;subst ho;exact WN e he
     have:j∈Region.ready .any ops listed:=by
      unfold Region.ready;rw[abi];refine⟨by simpa using Pz,?_ ⟩;have h2:listed.getD j true=false:=by rw[aaW]at Cu⊢;rw[Array.getElem?_eq_getElem (by omega)]at Cu⊢;exact Cu
      simp only[h2,ab7,abd,Qq,aaU,abE,abO];intro e he;cases hb:Region.binds .any e with
       |false=>rfl
       |true=>
        simp only[abF,acP];have JN:e.on∈o.after:=by rw[wS];simp only[eM,aa_,abi];exact⟨e,⟨by simpa using he,hb⟩,rfl⟩
        have b8:=Ki e.on JN;cases mK:listed.getD e.on false with
         |true=>rfl
         |false=>have:=Ke e.on ⟨by omega,mK⟩;omega
     rw[Ho]at this;cases this
    ·intro i hi;unfold Region.ready at hi;rw[abi]at hi;have z_:i<ops.size:=by simpa using hi.1
     have JO:ops[i]? =some ops[i]:=Array.getElem?_eq_getElem z_;have qy:=hi.2;simp only[aaD,aa5,JO,aaU,abE,abO]at qy;obtain⟨o,Nx,kx,tR,hd,wS⟩:=pd i _ JO;rcases abG i l.length with WR|aan;case inr=>
      obtain rfl:i=l.length:=by omega
      rw[abQ (aaP _)]at Nx;simp at Nx;subst Nx;have kA:∀e∈ot.after,listed.getD e false=true:=by intro e he;rw[wS]at he;simp only[eM,aa_,abi]at he;obtain⟨ed,⟨Kg,DG⟩,rfl⟩:=he;have:=qy.2 ed (by simpa using Kg);simpa[DG]using this
      have Ht:∀j,j<l.length->listed.getD j false=true:=by
       intro j hj;obtain⟨e,he,WS⟩:=WQ j hj;rcases WS with rfl|WS
       ·exact kA _ he
       ·exact kz.reach Px mz e j WS (kA e he)
      have Ab:aK (fun j=>listed.getD j false) 0 l rs jI=aK (fun _=>true) 0 l rs jI:=eB (fun j hj=>by simp only[aaY];exact Ht j hj);rw[Ab]at hR;have Qy:kC=0:=by
       have yq:((List.range ops.size).filter fun j=> !listed.getD j false)=[l.length]:=by
        rw[←hlen,List.range_succ,acA];have e1:(List.range l.length).filter (fun j=> !listed.getD j false)=[]:=by rw[acF];intro j hj;rw[Ht j (ab5.1 hj)];simp
        rw[e1];have WT:listed[l.length]?.getD false=false:=by rw[←aaW];exact Qx
        simp[ab4,WT]
       rw[yq]at rY;simp at rY;omega
      subst Qy;unfold wpOp;simp only[JO];have hw:Region.wanted ops[l.length] (yielded ops a1.tmps)=true:=eP hR tR (by rw[ND];rfl);rw[aaK hw];refine .inl ?_;obtain⟨c,Mb,kD⟩:=j7 (gP kx (by rw[Qv];simp)) (.inl ⟨ft,Ac,Qv⟩);rw[Qv]at kD;have fT:c.callee=.value (.func ft)/\bW ar c.args.toList=some Ac:=by
       unfold dQ at kD;split at kD;case h_6 f' hf'=>
        split at kD
        ·simp only[aaG,lv.call.injEq]at kD;obtain⟨l,hl,rfl,rfl⟩:=kD;exact⟨hf',hl⟩
        ·cases kD
       all_goals exfalso
       all_goals first|(simp at kD;done)|(repeat' split at kD)<;>simp at kD
      have Qz:(execOp a1.eval ops[l.length]).run P w1=.ok (.enter ft (c.args.map a1.eval)) w1:=by have:=iR h.1 (c.args.map a1.eval) w1;simp[execOp,Mb,resolve,fT.1,Act.eval,Deferred.ofValue,invoke,this]
      unfold Oper.wp;rw[Qz];simp only[Oper.upon];refine(h.2 g1 w1 _ (by simpa using jX hR.ev fT.2) hR.heap hR.dJ).mono ?_;rintro e w2 ⟨x,v,g2,H',rfl,⟨aY,bJ,hQ⟩,hx,NF,DG⟩;simp only;rw[hd];refine⟨?_,g2,aY,hR.j6 DG NF bJ hx,hE.trans DG,hQ⟩;unfold Region.ready;rw[acF];intro j hj;simp only[ab5]at hj;have h2:(listed.setIfInBounds l.length true).getD j true=true:=by
       rw[aaW];by_cases DN:j=l.length
       ·subst DN;rw[acb (by omega)];rfl
       ·rw[abS (by omega)];have h1:=Ht j (by omega);rw[aaW]at h1;rw[Array.getElem?_eq_getElem (by omega)]at h1⊢;exact h1
      simp[h2]
     have ho:l[i]? =some o:=by rwa[abU WR]at Nx
     have Qr:i<rs.length:=by omega
     have GH:rs[i]? =some rs[i]:=aaI Qr;obtain⟨r,yl,Ff,Qs⟩:=WB i o ho;rw[GH]at yl;simp only[aaC]at yl;simp only[aaY]at Ff Qs;have Hq:listed.getD i false=false:=by have:=qy.1;rw[aaW]at this⊢;rw[Array.getElem?_eq_getElem (by omega)]at this⊢;exact this
     have kA:∀e∈o.after,listed.getD e false=true:=by intro e he;rw[wS]at he;simp only[eM,aa_,abi]at he;obtain⟨ed,⟨Kg,DG⟩,rfl⟩:=he;have:=qy.2 ed (by simpa using Kg);simpa[DG]using this
     have Ny:=cN ho GH;have Cs:∀{j:Nat}{y:o_},(iM l rs)[j]? =some y->ni {dst:=o.dst,lk:=gf o,rd:=rs[i].2,ws:=bU rs[i].1.2,after:=o.after} y=true->listed.getD j false=decide (j<i):=fun hy hm=>agree Px mz ho Hq kA Ny hy hm (by rw[xj];exact hm)
     have uf:∀t∈gf o,get (aK (fun j=>listed.getD j false) 0 l rs jI).tm t=get (iB l rs jI i).tm t:=by
      intro t ht;refine qB rfl (fun j o' h1 h2=>?_ );simp only[aaY];have NA:j<rs.length:=by have:=(aaO.1 h1).1;omega
      have pJ:=cN h1 (aaI NA);refine Cs pJ ?_;unfold ni;have:Cb o'.dst (gf o)=true:=qA.2 ⟨t,h2,ht⟩;simp[this]
     have Qt:∀b∈mV (aZ GL (iB l rs jI i).tm) o.op,aF (aK (fun j=>listed.getD j false) 0 l rs jI).hp b=aF (iB l rs jI i).hp b:=by
      intro b hb;refine qC rfl (fun j r' h1 h2=>?_ );simp only[aaY];have DN:j<l.length:=by have:=(aaO.1 h1).1;omega
      have pJ:=cN (aaI DN) h1;refine Cs pJ ?_;unfold ni;have:Cb (bU r'.1.2) rs[i].2=true:=qA.2 ⟨b,h2,by rw[yl,Qs];exact hb⟩;simp[this]
     have yq:=uX (GL:=GL) (ns:=σ.hp.length+i) (cv:=qc i) uf Qt;have NB:gn GL (iB l rs jI i).tm (iB l rs jI i).hp (σ.hp.length+i) o (qc i)=some r.1:=Ff;rw[NB]at yq;have NC:∀x∈looks o.op,aZ GL (aK (fun j=>listed.getD j false) 0 l rs jI).tm x=aZ GL (iB l rs jI i).tm x:=fun x hx=>rW (fun t ht=>uf t (by simp only[gf,aa2,List.mem_filterMap];exact .inl ⟨x,hx,ht⟩))
     have WG:aA o.guard (aK (fun j=>listed.getD j false) 0 l rs jI).tm=aA o.guard (iB l rs jI i).tm:=lS (fun d w hd=>uf d (by simp[gf,hd]));unfold wpOp;simp only[JO];have Kh:=DL (P:=P) (GL:=GL) (ops:=ops) (v:=r.1.1) (wr:=r.1.2) kx tR hd yq (fun f args hc Mf=>by
      rw[WG]at Mf;have:=hq i o rs[i] ho GH f args hc Mf;rw[yl]at this;have PB:bu (aZ GL (aK (fun j=>listed.getD j false) 0 l rs jI).tm) args=bu (aZ GL (iB l rs jI i).tm) args:=by refine fK (fun x hx=>NC x ?_ );cases Aa:o.op<;>rw[Aa]at hc<;>simp[bX]at hc;obtain⟨rfl,rfl⟩:=hc;simpa[looks]using hx
      rw[PB];refine this.congr (fun b hb=>Qt b ?_ );cases Aa:o.op<;>rw[Aa]at hc<;>simp[bX]at hc;obtain⟨rfl,rfl⟩:=hc;simpa only[mV]using hb) hR (by
      intro Mh;rcases lI _ Mh with h1|⟨j,h1,h2⟩
      ·omega
      ·have:j=i:=by omega
       subst this;rw[Hq]at h1;cases h1) (fun d Mh=>by rw[j_,Py];exact Hn i o ho d Mh) (wpAny P .any ops (di GL g w Q) kC (listed.setIfInBounds i true)) (di GL g w Q) (by
      intro g2 w2 a2 WH WI WJ;have GI:∀j,(listed.setIfInBounds i true).getD j false=fU (fun j=>listed.getD j false) i j:=by
       intro j;simp only[fU,aaW];by_cases hj:j=i
       ·subst hj;rw[acb (by omega)];simp
       ·rw[abS (by omega)];simp[hj]
      have Ab:aK (fun j=>(listed.setIfInBounds i true).getD j false) 0 l rs jI=aK (fU (fun j=>listed.getD j false) i) 0 l rs jI:=eB (fun j _=>GI _);refine ih _ g2 w2 a2 (by simpa using cK) ?_ ?_ (by rw[GI];simp only[fU];rw[Qx];simp;omega) ?_ (hE.trans WI) ?_
      ·have e1:(fun j=> !(listed.setIfInBounds i true).getD j false)=fun j=> !listed.getD j false&& !decide (j=i):=by funext j;rw[GI j];simp[fU]
       rw[e1];have CI:∀(m:Nat)(f:Nat->Bool),i<m->f i=true->((List.range m).filter f).length=((List.range m).filter fun j=>f j&& !decide (j=i)).length+1:=by
        intro m f;induction m with
         |zero=>intro h;omega
         |succ m WK=>
          intro wO Qu;rw[List.range_succ,acA,acA,aaZ,aaZ];rcases abG i m with h1|h1
          ·rw[WK h1 Qu];have:m≠i:=by omega
           simp[ab4,this];split<;>simp<;>omega
          ·have:m=i:=by omega
           subst this;have Hr:(List.range m).filter f=(List.range m).filter fun j=>f j&& !decide (j=m):=by
            refine List.filter_congr (fun j hj=>?_ );have:j≠m:=by have:=ab5.1 hj;omega
            simp[this]
           rw[←Hr];simp[ab4,Qu]
       have:=CI ops.size (fun j=> !listed.getD j false) z_ (by simp[Hq]);rw[rY]at this;omega
      ·intro j o' pI hj e he;simp only[GI]at hj⊢;simp only[fU,aa8,aaL]at hj⊢;rcases hj with hj|rfl
       ·exact .inl (mz j o' pI hj e he)
       ·rw[ho]at pI;simp only[aaC]at pI;subst pI;exact .inl (kA e he)
      ·rw[Ab];refine WH.congr ?_ (fun t=>?_ ) ?_
       ·rw[j_];have:∀(s:St)(v:V)(H:ao),(s.iS o.dst v H).n=s.n:=by intro s v H;cases o.dst<;>rfl
        rw[this,j_]
       ·rw[qE (k:=i) (by omega) ho GH Hq (by omega) (fun j o' h1 h2 h3 h4 h5=>by
         simp only[aaY]at h5;have NA:j<rs.length:=by have:=(aaO.1 h1).1;omega
         have pJ:=cN h1 (aaI NA);have:=Cs pJ (by unfold ni;have:mA o.dst o'.dst=true:=eQ.2 ⟨t,h4,h3⟩;simp[this]);rw[h5]at this;simpa using this.symm),kT,yl]
       ·have JM:∀(s:St)(v:V)(H:ao),(s.iS o.dst v H).hp=H:=by intro s v H;cases o.dst<;>rfl
        rw[JM];refine uT ?_ (fun b=>?_ )
        ·rw[gI tO (by rw[←tO]at jr⊢;simpa[tO]using jr)];cases hw:r.1.2 with
          |none=>simp only[br];rw[gI tO (by simpa using jr)]
          |some p=>obtain⟨c,y⟩:=p;have hc:c<σ.hp.length+l.length:=jr rs[i] (List.getElem_mem Qr) c (by rw[yl,hw];rfl);have M6:=gI (K:=fun j=>listed.getD j false) (i:=0) (l:=l) (rs:=rs) tO (by simpa using jr);simp only[br];rw[gY (by omega),M6]
        ·have:=qF (K:=fun j=>listed.getD j false) (b:=b) (σ:=jI) (i0:=0) (k:=i) (l:=l) (by omega) (by omega) GH Hq (fun j r' h1 h2 h3 h4 h5=>by
          simp only[aaY]at h5;have DN:j<l.length:=by have:=(aaO.1 h1).1;omega
          have pJ:=cN (aaI DN) h1;have:=Cs pJ (by unfold ni;have:mA (bU rs[i].1.2) (bU r'.1.2)=true:=eQ.2 ⟨b,h4,h3⟩;simp[this]);rw[h5]at this;simpa using this.symm)
         rw[this,yl]
      ·intro b hb;rcases WJ b hb with h1|rfl
       ·rcases lI b h1 with h2|⟨j,h2,h3⟩
        ·exact .inl h2
        ·exact .inr ⟨j,by rw[GI];simp[fU,h2],h3⟩
       ·exact .inr ⟨i,by rw[GI];simp[fU],rfl⟩)
     split
     ·rename_i hw;simp only[hw,abL]at Kh;exact .inl Kh
     ·rename_i hw;simp only[hw]at Kh;exact Kh
 have lT:∀j,(Array.replicate ops.size false).getD j false=false:=by intro j;rw[aaW,Array.getElem?_replicate];split<;>rfl
 have uS:aK (fun j=>(Array.replicate ops.size false).getD j false) 0 l rs jI=jI:=by
  have:∀(l:List aj)(rs:List ((V×Wr)×List Nat))(i:Nat)(s:St),aK (fun _=>false) i l rs s=s:=by
   intro l;induction l with
    |nil=>intro rs i s;simp[aK]
    |cons o l ih=>
     intro rs i s;cases rs with
      |nil=>simp[aK]
      |cons r rs=>simp only[aK,aaT];exact ih _ _ _
  rw[eB (K':=fun _=>false) (fun j _=>lT _)];exact this _ _ _ _
 refine key ops.size (Array.replicate ops.size false) g _ xh (by simp) ?_ ?_ (lT _) ?_ (cg.drawn g w _) ?_
 ·simp only[lT,ab7];rw[acv.2 (by simp)];simp
 ·intro j o _ hj;simp only[lT]at hj;cases hj
 ·rw[uS,←CH];exact(hr.pad l.length).drawn _
 ·intro b hb;exact .inl (hr.heap.cV b hb)
end
end Fw
