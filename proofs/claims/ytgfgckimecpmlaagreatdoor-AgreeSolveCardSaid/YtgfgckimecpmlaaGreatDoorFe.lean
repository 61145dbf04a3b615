/-
  The machine's steps, told for simp.
-/
import Derived.Test.YtgfgckimecpmlaaGreatDoorFd
import Derived.Below
import Derived.Sort.Grow
import Derived.Deep.Draws
import Derived.Sort.Row
set_option linter.unusedSimpArgs false
set_option maxHeartbeats 1000000
set_option linter.unusedVariables false
namespace Fw
open Go
theorem aX(s t:Nat)(u:V)(l:List (Nat×V)):get ((s,u)::l) t=if s=t then u else get l t:=by
 simp only[get];by_cases h:s=t
 ·subst h;simp
 ·rw[aaF h];have:Nat.beq s t=false:=by
   cases hb:Nat.beq s t with
    |false=>rfl
    |true=>exact absurd (aaM hb) h
  rw[this];rfl
theorem cu(s t:Nat)(u v:V)(l:List (Nat×V)):put ((s,u)::l) t v=if s=t then(t,v)::l else if t<=s then(t,v)::(s,u)::l else(s,u)::put l t v:=by
 simp only[put];by_cases h:s=t
 ·subst h;simp
 ·rw[aaF h];have:Nat.beq s t=false:=by
   cases hb:Nat.beq s t with
    |false=>rfl
    |true=>exact absurd (aaM hb) h
  rw[this];by_cases h2:t<=s
  ·rw[aaK h2,abp h2];rfl
  ·rw[aaF h2];have:Nat.ble t s=false:=by
    cases hb:Nat.ble t s with
     |false=>rfl
     |true=>exact absurd (aaN hb) h2
   rw[this];rfl
theorem cY(t:Nat)(v:V):put [] t v=[(t,v)]:=rfl
theorem bc(n:Nat)(tm:List (Nat×V))(H0 H:ao)(d:Nat)(v:V):St.put ⟨n,tm,H0⟩ (some d) v H=if d<n then some ⟨n,put tm d v,H⟩else none:=by
 simp only[St.put];by_cases h:d<n
 ·rw[aaK h];have:Nat.blt d n=true:=by simpa[abb]using h
  rw[this];rfl
 ·rw[aaF h];have:Nat.blt d n=false:=by
   cases hb:Nat.blt d n with
    |false=>rfl
    |true=>exact absurd (by simpa[abb]using hb) h
  rw[this];rfl
theorem CO(n:Nat)(tm:List (Nat×V))(H0 H:ao)(v:V):St.put ⟨n,tm,H0⟩ none v H=some ⟨n,tm,H⟩:=rfl
theorem Kl(a b:Nat):Nat.beq a b=decide (a=b):=by
 cases hb:Nat.beq a b with
  |true=>simp[aaM hb]
  |false=>
   have:a≠b:=by rintro rfl;simp at hb
   simp[this]
theorem Km(a b:Nat):Nat.ble a b=decide (a<=b):=by
 cases hb:Nat.ble a b with
  |true=>simp[aaN hb]
  |false=>
   have:¬a<=b:=fun h=>by rw[abp h]at hb;cases hb
   simp[this]
theorem Kn(a b:Nat):Nat.blt a b=decide (a<b):=by show Nat.ble (a+1) b=_;rw[Km];rfl
section
variable {GL:ch}{call:bm}
end
end Fw
/-
  From the shelf's contracts to calls that touch nothing.
-/
namespace Fw
open Go Go.RowKit
section
variable {P:Program}{GL:ch}
variable {w:World}{g:G}{u:V}
theorem PC.fv{f:FuncId}{args:List V}{v:V}(Cz:ak P f=true)(h:∀g w (vs:Array Value),aT g w args vs.toList->gW GL g w->Calls P f vs w fun e w'=>∃x,e=.returned x/\Below w.heap.size w w'/\((∀k,cZ g w k->cZ g w' k)->(∀k,w.heap.size<=k->k<w'.heap.size->cZ g w' k)->RV g w' v x)):PC P GL f args v:=by
 refine⟨Cz,fun g w vs dU JK pE hg=>(h g w vs dU hg).mono ?_ ⟩;rintro e w' ⟨x,rfl,hb,hx⟩;have zQ:∀k,cZ g w k->cZ g w' k:=fun k hk=>⟨abr hk.1 hb.size,hk.2⟩
 have He:∀k,w.heap.size<=k->k<w'.heap.size->cZ g w' k:=fun k h1 h2=>⟨h2,fun hf=>by have:=JK k hf;omega,fun b y hy hk=>by have:=pE b y k hy hk;omega⟩
 exact⟨x,rfl,hx zQ He,⟨hb.os,hb.tape,hb.output,hb.size,fun k hk=>⟨zQ k hk,hb.block k hk.1⟩,fun _ h=>h,fun _ _=>GB.step.refl _,rfl,fun k hk=>hb.block k (JK k hk)⟩,fun b y k hy hk=>hb.block k (pE b y k hy hk)⟩
theorem Below.DS(w:World)(n:Nat):Below w.heap.size w (w.drewN n):=⟨rfl,rfl,rfl,aaP _,fun _ _=>rfl⟩
theorem Below.NI{a:World}(h:Below w.heap.size w a)(os:Array Obj):Below w.heap.size w (Go.Sort.grow a os):=h.trans ⟨rfl,rfl,rfl,by simp[Go.Sort.grow],fun k hk=>by have:=h.size;simp only[Go.Sort.grow];rw[Array.getElem?_append_left (by omega)]⟩
theorem aT.DT{l:List Value}(h:aT g w [] l):l=[]:=by
 cases l with
  |nil=>rfl
  |cons=>simp only[aT]at h
theorem aT.cons_inv{us:List V}{l:List Value}(h:aT g w (u::us) l):∃v vs,l=v::vs/\RV g w u v/\aT g w us vs:=by
 cases l with
  |nil=>simp only[aT]at h
  |cons v vs=>simp only[aT]at h;exact⟨v,vs,rfl,h.1,h.2⟩
theorem aT.DU{vs:Array Value}(h:aT g w [u] vs.toList):∃x,vs= #[x]/\RV g w u x:=by obtain⟨x,l,e,h1,h2⟩:=h.cons_inv;rw[h2.DT]at e;exact⟨x,abt.1 (by simpa using e),h1⟩
theorem aT.gR{u':V}{vs:Array Value}(h:aT g w [u,u'] vs.toList):∃x y,vs= #[x,y]/\RV g w u x/\RV g w u' y:=by obtain⟨x,l,e,h1,h2⟩:=h.cons_inv;obtain⟨y,l',e',h3,h4⟩:=h2.cons_inv;rw[h4.DT]at e';rw[e']at e;exact⟨x,y,abt.1 (by simpa using e),h1,h3⟩
theorem RV.df{s:List UInt8}{x:Value}(h:RV g w (.d (.str s)) x):∃b:ByteArray,x=.string b/\b.data.toList=s:=by simpa only[RV,Rd]using h
theorem RV.DV{k:IntKind}{n:Int}{x:Value}(h:RV g w (.d (.int k n)) x):x=.int k n:=by simpa only[RV,Rd]using h
theorem RV.np(l:List UInt8):RV g w (.d (.str l)) (.string ⟨l.toArray⟩):=by simp only[RV,Rd];exact⟨_,rfl,by simp⟩
def qJ(l:List (List UInt8)):D:=.list (l.map fun s=>[.str s])
theorem iu.strs{w:World}{im:Nat->Prop}{aU sz:Nat}:∀{l:List (List UInt8)}{off:Nat},iu w im aU off sz (l.map fun s=>[.str s])->l≠[]->sz=1/\∃xs:List ByteArray,xs.map (fun b=>b.data.toList)=l/\∀(j:Nat) b,xs[j]? =some b->w.cell? ⟨aU,off+j,none⟩=some (.string b)
 |[],_,_,h=>absurd rfl h
 |s::l,off,h,_=>by
  simp only[aaV,iu,aaR,aa',dC]at h;obtain⟨h1,⟨⟨v,h2,h3⟩,-⟩,h4⟩:=h;simp only[Rd]at h3;obtain⟨b,rfl,hb⟩:=h3;obtain rfl:sz=1:=by omega
  refine⟨rfl,?_⟩;by_cases hl:l=[]
  ·subst hl;refine⟨[b],by simp[hb],fun j x hx=>?_ ⟩;cases j with
    |zero=>simp at hx;subst hx;simpa using h2
    |succ j=>simp at hx
  ·obtain⟨-,xs,k1,k2⟩:=iu.strs h4 hl;refine⟨b::xs,by simp[hb,k1],fun j x hx=>?_ ⟩;cases j with
    |zero=>simp at hx;subst hx;simpa using h2
    |succ j=>simp at hx;have:=k2 j x hx;rwa[show off+1+j=off+(j+1) by omega]at this
theorem RV.HA{l:List (List UInt8)}{x:Value}(h:RV g w (.d (qJ l)) x):(l=[]/\∃a c,x=.slice a 0 c)\/∃aU off cap,∃xs:List ByteArray,l≠[]/\x=.slice (some ⟨aU,off,none⟩) xs.length cap/\xs.length<=cap/\aU<w.heap.size/\xs.map (fun b=>b.data.toList)=l/\∀(j:Nat) b,xs[j]? =some b->w.cell? ⟨aU,off+j,none⟩=some (.string b):=by
 simp only[RV,qJ,Rd,List.map_eq_nil_iff,aaQ]at h;rcases h with⟨h1,h2|⟨_,_,h2⟩⟩|⟨aU,off,cap,sz,h1,h2,h3,h4⟩
 ·exact .inl ⟨h1,_,_,h2⟩
 ·exact .inl ⟨h1,_,_,h2⟩
 ·by_cases hl:l=[]
  ·subst hl;exact .inl ⟨rfl,_,_,h1⟩
  ·obtain⟨rfl,xs,k1,k2⟩:=iu.strs h4 hl;have hlen:xs.length=l.length:=by rw[←k1];simp
   exact .inr ⟨aU,off,cap,xs,hl,by rw[hlen];exact h1,by omega,(h3 (by simpa using hl)).1,k1,k2⟩
theorem iu.DW{w:World}{im:Nat->Prop}{aU:Nat}:∀{xs:List ByteArray}{off:Nat},(∀(j:Nat) b,xs[j]? =some b->w.cell? ⟨aU,off+j,none⟩=some (.string b))->iu w im aU off 1 (xs.map fun b=>[.str b.data.toList])
 |[],_,_=>by simp only[List.map_nil,iu]
 |b::xs,off,h=>by simp only[aaV,iu,aaR,aa',dC,Rd];refine⟨trivial,⟨⟨_,by simpa using h 0 b rfl,b,rfl,rfl⟩,trivial⟩,iu.DW fun j x hx=>?_ ⟩;have:=h (j+1) x (by simpa using hx);rwa[show off+1+j=off+(j+1) by omega]
theorem RV.HB(xs:List ByteArray)(t:TypeId)(fz:Nat×Nat)(n:Nat)(hn:n=xs.length)(wO:cZ g (w.alloc (.cells (xs.map Value.string).toArray t fz)) w.heap.size):RV g (w.alloc (.cells (xs.map Value.string).toArray t fz)) (.d (qJ (xs.map fun b=>b.data.toList))) (.slice (some ⟨w.heap.size,0,none⟩) n n):=by
 subst hn;simp only[RV,qJ,Rd,adl,aaQ];refine .inr ⟨w.heap.size,0,xs.length,1,rfl,aaP _,fun _=>wO,?_ ⟩;refine iu.DW (xs:=xs) fun j b hb=>?_
 simp only[World.cell?,bA];simp[hb]
end
end Fw
/-
  Operations up to a call; a sort of an own row of strings.
-/
namespace Fw
open Go Go.RowKit
section
variable {P:Program}{GL:ch}
variable {l:List aj}{σ aY:St}
theorem WO.pre{own:List Nat}{call:bm}(hc:b6 P GL call):∀{l l2:List aj}{σ aY:St}{Q:St->Prop},e9 own GL call l σ=some aY->WO P GL l2 aY Q->WO P GL (l++l2) σ Q
 |[],l2,σ,aY,Q,h,hq=>by grind[e9,Option.some.injEq]
 |o::l,l2,σ,aY,Q,h,hq=>by
  rw[abD];simp only[e9]at h;split at h
  ·cases h
  ·rename_i hg;split at h
   ·rename_i xi h1;exact WO.skip hg h1 (WO.pre hc h hq)
   ·cases h
  ·rename_i hg;split at h
   ·rename_i f args ho;split at h
    ·rename_i v H' dz;split at h
     ·rename_i xi h1;refine WO.call ho hg ((hc _ _ _ _ _ dz).mono ?_ );rintro r hp ⟨rfl,rfl⟩;exact⟨xi,h1,WO.pre hc h hq⟩
     ·cases h
    ·cases h
   ·rename_i x args ho;split at h
    ·rename_i f first cap hx
     split at h
     ·rename_i v H' dz;split at h
      ·rename_i xi h1;refine WO.gV ho hx hg ((hc _ _ _ _ _ dz).mono ?_ );rintro r hp ⟨rfl,rfl⟩;exact⟨xi,h1,WO.pre hc h hq⟩
      ·cases h
     ·cases h
    ·cases h
   ·split at h
    ·rename_i v he;split at h
     ·rename_i xi h1;refine WO.jo hg ?_ h1 (WO.pre hc h hq);unfold dv at he;grind
     ·cases h
    ·split at h
     ·rename_i v wr he;split at h
      ·rename_i xi h1;exact WO.bE hg he h1 (WO.pre hc h hq)
      ·cases h
     ·cases h
theorem WO.WU(k:Nat){own:List Nat}{call:bm}(hc:b6 P GL call){Q:St->Prop}(h:e9 own GL call (l.take k) σ=some aY)(h2:WO P GL (l.drop k) aY Q):WO P GL l σ Q:=by have:=WO.pre hc h h2;simp_all
def WV(_:FuncId)(_:List V)(_:ao):Option (V×ao):=none
theorem HC:b6 P GL WV:=by intro f a H v H' h;cases h
theorem WC.xq{own:List Nat}{Q:Ex->St->Prop}(h:e9 own GL WV l σ=some aY)(hq:Q .normal aY):WC P GL (.region l) σ Q:=WC.region (lU HC h hq)
theorem WC.WW(k:Nat){own:List Nat}{Q:Ex->St->Prop}(h:e9 own GL WV (l.take k) σ=some aY)(hq:WO P GL (l.drop k) aY fun σ=>Q .normal σ):WC P GL (.region l) σ Q:=WC.region (WO.WU k HC h hq)
theorem WO.NJ{o:aj}{Q:St->Prop}{f:FuncId}{args:List a_}{v:V}(ho:o.op=.call f args)(hg:aA o.guard σ.tm=some true)(h:PC P GL f (bu (aZ GL σ.tm) args) v)(hp:σ.put o.dst v σ.hp=some aY)(hq:WO P GL l aY Q):WO P GL (o::l) σ Q:=WO.call ho hg (WF.Fx h ⟨aY,hp,hq⟩)
theorem HD(H:ao)(l:ao)(b:Nat):aF (H++l) b=if b<H.length then aF H b else aF l (b - H.length):=by
 induction H generalizing b with
  |nil=>simp
  |cons x H ih=>
   cases b with
    |zero=>simp[aF]
    |succ b=>simp_all[abD,aF,aaR,Nat.add_lt_add_iff_right,Nat.add_sub_add_right]
end
end Fw
/-
  A call that is handed some of the caller's boxes: proved over these boxes alone, it holds whatever other boxes there are.
-/
namespace Fw
open Go
mutual
def dX(S:List Nat):V->V| .ptr c h off=>.ptr (S.getD c 0) h off| .sl c h off len sz=>.sl (S.getD c 0) h off len sz| .map c=>.map (S.getD c 0)| .iter c m=>.iter (S.getD c 0) (S.getD m 0)| .func f a c=>.func f (gg S a) (gg S c)| .iface t v=>.iface t (dX S v)| .agg cs=>.agg (gg S cs)| .tuple vs=>.tuple (gg S vs)|v=>v
def gg(S:List Nat):List V->List V|[]=>[]|v::vs=>dX S v::gg S vs
end
def dY(S:List Nat):fJ->fJ
 | .cells cs=>.cells (gg S cs)
 | .map es=>.map (es.map fun p=>(p.1,dX S p.2))
 | .iH m n seen=>.iH (S.getD m 0) n seen
 |x=>x
theorem tw(S:List Nat):∀(l:List V),(gg S l).length=l.length|[]=>rfl|_::l=>by simp[gg,tw S l]
theorem HE(S:List Nat)(u:V):eK (dX S u)=eK u:=by cases u<;>rfl
theorem Ao(S:List Nat):∀(l:List V),(gg S l).all eK=l.all eK|[]=>rfl|v::l=>by simp[gg,HE,Ao S l]
structure Sub (S:List Nat) (g0 g:G) (w:World):Prop where
 cV:∀i,i<S.length->(g0.cV i↔g.cV (S.getD i 0))
 γ:∀i,i<S.length->g0.γ i=g.γ (S.getD i 0)
 cZ:∀k,cZ g0 w k↔cZ g w k
mutual
theorem RV.wF{S:List Nat}{g0 g:G}{w:World}(h:Sub S g0 g w):∀(u:V)(v:Value),au S.length u=true->(RV g w (dX S u) v↔RV g0 w u v)
 | .any,_,_=>by grind[dX,RV]
 | .d x,v,_=>by simp only[dX,RV];exact⟨Rd.keeps (fun k hk=>⟨(h.cZ k).2 hk,rfl⟩) _ _,Rd.keeps (fun k hk=>⟨(h.cZ k).1 hk,rfl⟩) _ _⟩
 | .full es,v,_=>by simp only[dX,RV];exact⟨fun⟨h1,h2⟩=>⟨Rd.keeps (fun k hk=>⟨(h.cZ k).2 hk,rfl⟩) _ _ h1,h2⟩,fun⟨h1,h2⟩=>⟨Rd.keeps (fun k hk=>⟨(h.cZ k).1 hk,rfl⟩) _ _ h1,h2⟩⟩
 | .ad,_,_=>by grind[dX,RV]
 | .ptr b hh off,v,hn=>by simp only[au,abb]at hn;simp only[dX,RV,h.cV b hn,h.γ b hn]
 | .mW,_,_=>by grind[dX,RV]
 | .bB cs,v,_=>by
  simp only[dX,RV];constructor
  ·rintro⟨aU,off,h1,h2,h3⟩;refine⟨aU,off,h1,fun hn=>(h.cZ _).2 (h2 hn),?_ ⟩;cases cs with
    |nil=>simp only[dC]
    |cons c cs=>exact dC.keeps (im:=cZ g w) (xd:=cZ g0 w) (fun k hk=>⟨(h.cZ k).2 hk,rfl⟩) (h2 (by simp)) _ _ h3
  ·rintro⟨aU,off,h1,h2,h3⟩;refine⟨aU,off,h1,fun hn=>(h.cZ _).1 (h2 hn),?_ ⟩;cases cs with
    |nil=>simp only[dC]
    |cons c cs=>exact dC.keeps (im:=cZ g0 w) (xd:=cZ g w) (fun k hk=>⟨(h.cZ k).1 hk,rfl⟩) (h2 (by simp)) _ _ h3
 | .sl b hh off len sz,v,hn=>by simp only[au,abb]at hn;simp only[dX,RV,h.cV b hn,h.γ b hn]
 | .map b,v,hn=>by simp only[au,abb]at hn;simp only[dX,RV,h.cV b hn,h.γ b hn]
 | .mX,_,_=>by grind[dX,RV]
 | .func f a c,v,hn=>by
  simp only[au,aaD]at hn;simp only[dX,RV];constructor
  ·rintro⟨x,y,h1,h2,h3⟩;exact⟨x,y,h1,(aT.wF h _ _ hn.1).1 h2,(aT.wF h _ _ hn.2).1 h3⟩
  ·rintro⟨x,y,h1,h2,h3⟩;exact⟨x,y,h1,(aT.wF h _ _ hn.1).2 h2,(aT.wF h _ _ hn.2).2 h3⟩
 | .rL,_,_=>by grind[dX,RV]
 | .iface t u,v,hn=>by
  simp only[au]at hn;simp only[dX,RV];constructor
  ·rintro⟨x,h1,h2⟩;exact⟨x,h1,(RV.wF h _ _ hn).1 h2⟩
  ·rintro⟨x,h1,h2⟩;exact⟨x,h1,(RV.wF h _ _ hn).2 h2⟩
 | .bN,_,_=>by grind[dX,RV]
 | .gm,_,_=>by grind[dX,RV]
 | .agg cs,v,hn=>by
  simp only[au]at hn;simp only[dX,RV];constructor
  ·rintro⟨x,h1,h2⟩;exact⟨x,h1,(aT.wF h _ _ hn).1 h2⟩
  ·rintro⟨x,h1,h2⟩;exact⟨x,h1,(aT.wF h _ _ hn).2 h2⟩
 | .tuple vs,v,hn=>by
  simp only[au]at hn;simp only[dX,RV];constructor
  ·rintro⟨x,h1,h2⟩;exact⟨x,h1,(aT.wF h _ _ hn).1 h2⟩
  ·rintro⟨x,h1,h2⟩;exact⟨x,h1,(aT.wF h _ _ hn).2 h2⟩
 | .iter b m,v,hn=>by simp only[au,aaD,abb]at hn;simp only[dX,RV,h.cV b hn.1,h.γ b hn.1]
theorem aT.wF{S:List Nat}{g0 g:G}{w:World}(h:Sub S g0 g w):∀(us:List V)(vs:List Value),av S.length us=true->(aT g w (gg S us) vs↔aT g0 w us vs)
 |[],[],_=>by grind[gg,aT]
 |u::us,v::vs,hn=>by simp only[av,aaD]at hn;simp only[gg,aT,RV.wF h _ _ hn.1,aT.wF h _ _ hn.2]
 |[],_::_,_=>by grind[gg,aT]
 |_::_,[],_=>by grind[gg,aT]
end
theorem RB.wF{S:List Nat}{g0 g:G}{w:World}(h:Sub S g0 g w){x:GB}{y:fJ}(hy:ef S.length y=true):RB g w x (dY S y)↔RB g0 w x y:=by
 cases x with
  |cells aU cp cur=>
   cases y with
    |cells cs=>simp only[ef]at hy;simp only[dY,RB,tw,Ao,aT.wF h _ _ hy]
    |_=>grind[dY,RB]
  |nil=>cases y<;>simp only[dY,RB]
  |obj aU=>
   cases y with
    |map es=>
     simp only[ef,aa3]at hy;simp only[dY,RB,aaQ];constructor
     ·rintro⟨bO,clock,h1,h2,h3,h4⟩;refine⟨bO,clock,h1,h2,fun i k v hi=>?_,h4⟩;obtain⟨z,z1,z2,z3,z4⟩:=h3 i k (dX S v) (by simp[hi]);exact⟨z,z1,z2,Rd.keeps (fun k hk=>⟨(h.cZ k).2 hk,rfl⟩) _ _ z3,(RV.wF h _ _ (hy _ (aaH hi))).1 z4⟩
     ·rintro⟨bO,clock,h1,h2,h3,h4⟩;refine⟨bO,clock,h1,h2,fun i k v hi=>?_,h4⟩;simp only[abz,aaG,aaE]at hi;obtain⟨⟨k',v'⟩,lE,rfl,rfl⟩:=hi;obtain⟨z,z1,z2,z3,z4⟩:=h3 i k' v' lE;exact⟨z,z1,z2,Rd.keeps (fun k hk=>⟨(h.cZ k).1 hk,rfl⟩) _ _ z3,(RV.wF h _ _ (hy _ (aaH lE))).2 z4⟩
    |iH m n seen=>simp only[ef,abb]at hy;simp only[dY,RB,h.cV m hy,h.γ m hy]
    |_=>grind[dY,RB]
theorem vc{S:List Nat}(hn:S.Nodup){i j:Nat}(hi:i<S.length)(hj:j<S.length)(h:S.getD i 0=S.getD j 0):i=j:=by rw[abR,abR,aaI hi,aaI hj]at h;simp only[abE]at h;have hp:=List.pairwise_iff_getElem.1 hn;grind
def gS(S:List Nat)(H':ao)(i:Nat):List Nat->ao->ao|[],H=>H|b::bs,H=>gS S H' (i+1) bs (match aF H' i with|some y=>bJ H b (dY S y)|none=>H.set b none)
theorem pf(H:ao)(b c:Nat):aF (H.set b none) c=if c=b then none else aF H c:=by
 induction H generalizing b c with
  |nil=>simp[aF]
  |cons z H ih=>
   cases b with
    |zero=>cases c<;>simp[aF]
    |succ b=>cases c<;>simp[aF,ih]
theorem iU(S:List Nat)(H':ao):∀(bs:List Nat)(i:Nat)(H:ao)(c:Nat),bs.Nodup->aF (gS S H' i bs H) c=match bs.idxOf? c with|some j=>(aF H' (i+j)).map (dY S)|none=>aF H c
 |[],i,H,c,_=>by simp[gS]
 |b::bs,i,H,c,hn=>by
  simp only[gS];rw[iU S H' bs (i+1) _ c (acB.1 hn).2];by_cases hc:b=c
  ·subst hc;have:bs.idxOf? b=none:=List.idxOf?_eq_none_iff.2 (acB.1 hn).1;simp only[this,List.idxOf?_cons,beq_self_eq_true,abL,acj];grind[dT,pf]
  ·have e:(b==c)=false:=by grind
   simp only[List.idxOf?_cons,e,abn,abM];grind[dT,pf]
theorem nq(S:List Nat)(H':ao):∀(bs:List Nat)(i:Nat)(H:ao),H.length<=(gS S H' i bs H).length
 |[],_,_=>aaP _
 |b::bs,i,H=>by
  simp only[gS];refine abl ?_ (nq S H' bs (i+1) _);split
  ·exact(jU H b _).1
  ·simp
section
variable {P:Program}{GL:ch}
theorem pM{S:List Nat}{c j:Nat}(h:S.idxOf? c=some j):j<S.length/\S.getD j 0=c:=by
 have h1:S[j]? =some c:=by induction S generalizing j<;>grind[Option.some.injEq,Option.map_eq_some_iff]
 grind
def ow(S:List Nat)(g:G):G:=⟨fun i=>i<S.length/\g.cV (S.getD i 0),fun i=>if i<S.length then g.γ (S.getD i 0)else none,fun k=>g.fo k\/∃b x,b∉S/\g.γ b=some x/\x.own=some k⟩
theorem Fz{S:List Nat}(i:Nat)(hi:i<S.length):S.getD i 0∈S:=by grind
theorem r_{S:List Nat}(b:Nat)(hb:b∈S):∃i,i<S.length/\S.getD i 0=b:=by obtain⟨i,hi,rfl⟩:=List.getElem_of_mem hb;exact⟨i,hi,by grind⟩
theorem qK{S:List Nat}{g:G}(i:Nat)(hi:i<S.length):(ow S g).γ i=g.γ (S.getD i 0):=aaK hi
theorem DX{S:List Nat}{g:G}{w:World}{H H0:ao}(hn:S.Nodup)(hl:H0.length=S.length)(hh:az g w H)(hg:gW GL g w)(hb:∀i,i<S.length->∃y z,aF H0 i=some y/\aF H (S.getD i 0)=some z/\∀x,Sub S (ow S g) g w->RB g w x z->RB (ow S g) w x y):Sub S (ow S g) g w/\az (ow S g) w H0/\gW GL (ow S g) w:=by
 have mL:∀k,cZ (ow S g) w k↔cZ g w k:=by
  intro k;constructor
  ·rintro⟨h1,h2,h3⟩;refine⟨h1,fun hf=>h2 (Or.inl hf),fun b x hx hk=>?_ ⟩;by_cases tz:b∈S
   ·obtain⟨i,hi,rfl⟩:=r_ b tz;exact h3 i x (by rw[qK i hi];exact hx) hk
   ·exact h2 (Or.inr ⟨b,x,tz,hx,hk⟩)
  ·rintro⟨h1,h2,h3⟩;refine⟨h1,?_,fun i x hx hk=>?_ ⟩;all_goals grind[ow]
 have tS:Sub S (ow S g) g w:=⟨fun i hi=>⟨fun h=>h.2,fun h=>⟨hi,h⟩⟩,qK,mL⟩;refine⟨tS,⟨fun i hi=>by rw[hl];exact hi.1,fun i x hx=>?_,fun i y hy=>?_,fun i i' x x' k hx je hk lC=>?_,fun k hk=>⟨?_,fun i x hx lC=>?_ ⟩⟩,fun n cs hn=>⟨(mL n).2 (hg.rd n cs hn).1,dC.keeps (im:=cZ g w) (xd:=cZ (ow S g) w) (fun k hk=>⟨(mL k).2 hk,rfl⟩) (hg.rd n cs hn).1 _ _ (hg.rd n cs hn).2⟩,fun k hk=>⟨(mL k).2 (hg.w0 k hk).1,(hg.w0 k hk).2⟩⟩
 ·simp only[ow]at hx;split at hx
  ·rename_i hi;obtain⟨h1,y,h2,h3⟩:=hh.live _ x hx;obtain⟨y0,z,k1,k2,k3⟩:=hb i hi;rw[h2]at k2;simp only[aaC]at k2;subst k2;exact⟨⟨hi,h1⟩,y0,k1,k3 x tS h3⟩
  ·cases hx
 ·have hi:i<S.length:=by rw[←hl];exact lB hy
  obtain⟨y0,z,k1,k2,_⟩:=hb i hi;obtain⟨x,hx⟩:=hh.back _ _ k2;exact⟨x,by rw[qK i hi];exact hx⟩
 ·simp only[ow]at hx je;split at hx
  ·rename_i hi;split at je
   ·rename_i lE;exact vc hn hi lE (hh.inj _ _ x x' k hx je hk lC)
   grind
  ·cases hx
 ·rcases hk with hk|⟨b,x,_,hx,hk⟩
  ·exact(hh.fo k hk).1
  ·exact RV.gZ hh b x k hx hk
 ·simp only[ow]at hx;split at hx
  ·rename_i hi;rcases hk with hk|⟨b,x2,tz,Ca,tP⟩
   ·exact(hh.fo k hk).2 _ x hx lC
   ·have:=hh.inj _ b x x2 k hx Ca lC tP;grind
  ·cases hx
theorem WF.frame{f:FuncId}{nt:List V}{H0:ao}{Q0:V->ao->Prop}(S:List Nat){H:ao}{Q:V->ao->Prop}(h:WF P GL f nt H0 Q0)(hn:S.Nodup)(hl:H0.length=S.length)(ha:av S.length nt=true)(Vj:aB S.length H0=true)(hb:∀i,i<S.length->∃y,aF H0 i=some y/\aF H (S.getD i 0)=some (dY S y))(hq:∀v H',Q0 v H'->H'.length=S.length/\au S.length v=true/\aB S.length H'=true/\Q (dX S v) (gS S H' 0 S H)):WF P GL f (gg S nt) H Q:=by
 refine⟨h.1,fun g w vs dU hh hg=>?_ ⟩;have aao:∀i,i<S.length->S.getD i 0<H.length:=fun i hi=>by obtain⟨y,_,h2⟩:=hb i hi;exact lB h2
 have aap:=@Fz S;have Ap:=@r_ S;obtain⟨tS,Vk,hG⟩:=DX hn hl hh hg (fun i hi=>by obtain⟨y,k1,k2⟩:=hb i hi;exact⟨y,_,k1,k2,fun x hs h=>(RB.wF hs (fC Vj k1)).1 h⟩);have mL:=tS.cZ;refine(h.2 (ow S g) w vs ((aT.wF tS _ _ ha).1 dU) Vk hG).mono ?_;rintro e w' ⟨x,v,HF,H',rfl,hq0,hx,ti,he⟩;obtain⟨q1,q2,q3,q4⟩:=hq v H' hq0;let g':G:=⟨g.cV,fun b=>match S.idxOf? b with|some i=>HF.γ i|none=>g.γ b,g.fo⟩;have Fh:∀i,i<S.length->g'.γ (S.getD i 0)=HF.γ i:=fun i hi=>by
  simp only[g'];cases hc:S.idxOf? (S.getD i 0)with
   |none=>grind
   |some j=>obtain⟨k1,k2⟩:=pM hc;rw[vc hn k1 hi k2]
 have FA:∀b,b∉S->g'.γ b=g.γ b:=fun b tz=>by grind
 have Ko:∀k,HF.fo k↔(g.fo k\/∃b x,b∉S/\g.γ b=some x/\x.own=some k):=fun k=>by rw[he.fo];exact Iff.rfl
 have QC:∀i,i<S.length->g.cV (S.getD i 0)->HF.cV i:=fun i hi hd=>he.cV i ⟨hi,hd⟩
 have WX:∀i x,HF.γ i=some x->i<S.length:=fun i x hx=>by obtain⟨_,y,h2,_⟩:=ti.live i x hx;rw[←q1];exact lB h2
 have Hu:∀k,cZ HF w' k↔cZ g' w' k:=by
  intro k;constructor
  ·rintro⟨h1,h2,h3⟩;rw[Ko]at h2;refine⟨h1,fun hf=>h2 (.inl hf),fun b x hx hk=>?_ ⟩;grind
  ·rintro⟨h1,h2,h3⟩;refine⟨h1,?_,fun i x hx hk=>?_ ⟩;all_goals grind
 have zU:cg g w g' w':=by
  refine⟨he.os,he.tape,he.output,he.size,fun k hk=>?_,fun _ h=>h,fun b hb=>?_,rfl,fun k hk=>he.fp k (Or.inl hk)⟩
  ·obtain⟨h1,h2⟩:=he.keeps k ((mL k).2 hk);grind
  ·by_cases tz:b∈S
   ·obtain⟨i,hi,rfl⟩:=Ap b tz;rw[Fh i hi];have:=he.step i ⟨hi,hb⟩;rw[qK i hi]at this;exact this
   ·rw[FA b tz];exact GB.step.refl _
 have HG:Sub S HF g' w':=by refine⟨fun i hi=>⟨fun hd=>?_,fun hd=>QC i hi hd⟩,fun i hi=>(Fh i hi).symm,Hu⟩;obtain⟨y,_,k2⟩:=hb i hi;obtain⟨x,hx⟩:=hh.back _ _ k2;exact(hh.live _ x hx).1
 have WY:∀b x k,b∉S->g.γ b=some x->x.own=some k->w'.heap[k]? =w.heap[k]? :=fun b x k tz hx hk=>he.fp k (Or.inr ⟨b,x,tz,hx,hk⟩)
 refine⟨x,dX S v,g',_,rfl,q4,(RV.wF HG _ _ q2).2 hx,?_,zU⟩;refine⟨fun b hb=>abr (hh.cV b hb) (nq S H' S 0 H),fun b x hx=>?_,fun b y hy=>?_,fun b b' x x' k hx je hk lC=>?_,fun k hk=>⟨abr (hh.fo k hk).1 he.size,fun b x hx lC=>?_ ⟩⟩
 ·by_cases tz:b∈S
  ·obtain⟨i,hi,rfl⟩:=Ap b tz;rw[Fh i hi]at hx;obtain⟨h1,y,h2,h3⟩:=ti.live i x hx;have hd:g.cV (S.getD i 0):=(HG.cV i hi).1 h1;have PE:S.idxOf? (S.getD i 0)=some i:=by
    cases hc:S.idxOf? (S.getD i 0)with
     |none=>grind
     |some j=>obtain⟨k1,k2⟩:=pM hc;rw[vc hn k1 hi k2]
   refine⟨hd,dY S y,?_,(RB.wF HG (fC q3 h2)).2 h3⟩;rw[iU S H' S 0 H _ hn,PE];simp[h2]
  ·rw[FA b tz]at hx;obtain⟨h1,y,h2,h3⟩:=hh.live b x hx;refine⟨h1,y,?_,RB.ext zU (fun k hk=>WY b x k tz hx hk) h3⟩;rw[iU S H' S 0 H _ hn,List.idxOf?_eq_none_iff.2 tz];exact h2
 ·rw[iU S H' S 0 H _ hn]at hy;cases hc:S.idxOf? b with
   |some i=>rw[hc]at hy;simp only[aaY,aaG]at hy;obtain⟨y0,L',rfl⟩:=hy;obtain⟨x,hx⟩:=ti.back i y0 L';grind
   |none=>rw[hc]at hy;obtain⟨x,hx⟩:=hh.back b y hy;grind
 ·by_cases tz:b∈S
  ·obtain⟨i,hi,rfl⟩:=Ap b tz;rw[Fh i hi]at hx;by_cases FB:b'∈S
   ·obtain⟨i',lE,rfl⟩:=Ap b' FB;rw[Fh i' lE]at je;rw[ti.inj i i' x x' k hx je hk lC]
   ·rw[FA b' FB]at je;exact absurd hk ((ti.fo k ((Ko k).2 (.inr ⟨b',x',FB,je,lC⟩))).2 i x hx)
  ·rw[FA b tz]at hx;by_cases FB:b'∈S
   ·obtain⟨i',lE,rfl⟩:=Ap b' FB;rw[Fh i' lE]at je;exact absurd lC ((ti.fo k ((Ko k).2 (.inr ⟨b,x,tz,hx,hk⟩))).2 i' x' je)
   ·rw[FA b' FB]at je;exact hh.inj b b' x x' k hx je hk lC
 ·by_cases tz:b∈S
  ·obtain⟨i,hi,rfl⟩:=Ap b tz;rw[Fh i hi]at hx;exact(ti.fo k ((Ko k).2 (.inl hk))).2 i x hx lC
  ·rw[FA b tz]at hx;exact(hh.fo k hk).2 b x hx lC
end
end Fw
/-
  Tidying: slots forgotten, boxes dropped or frozen; loops over tidied states.
-/
namespace Fw
open Go
variable {m:Nat}
def an(m:Nat)(σ aY:St):Prop:=∀(GL:ch)(g:G)(w:World)(a:Act),R GL g w a σ->∃g',R GL g' w a aY/\∀(g0:G)(w0:World),(∀b,g0.cV b->b<m)->cg g0 w0 g w->cg g0 w0 g' w
theorem an.refl(m:Nat)(σ:St):an m σ σ:=fun _ g _ _ h=>⟨g,h,fun _ _ _ he=>he⟩
theorem an.trans{a b c:St}(h:an m a b)(k:an m b c):an m a c:=fun GL g w xh hr=>by obtain⟨g1,h1,h2⟩:=h GL g w xh hr;obtain⟨g2,h3,h4⟩:=k GL g1 w xh h1;grind
theorem an.clean{n:Nat}{cm:List Nat}{σ aY:St}(hn:m<=n)(h:gQ cm n σ=some aY):an m σ aY:=fun _ g _ _ hr=>⟨g.cut n,hr.clean h,fun _ _ hd he=>he.cut fun b hb=>abr (hd b hb) hn⟩
theorem an.qh{b:Nat}{σ aY:St}(h:kS b σ=some aY):an m σ aY:=fun _ g _ _ hr=>⟨g.del b,hr.qh h,fun g0 w0 _ he=>cg.qh g0 w0 he⟩
section
variable {P:Program}{GL:ch}
variable {σ:St}{Q:Ex->St->Prop}
theorem WC.tidy{c:IR}{aY:St}(ht:an σ.hp.length σ aY)(h:WC P GL c aY Q):WC P GL c σ Q:=by intro code uQ g w a hr;obtain⟨g',h1,h2⟩:=ht GL g w a hr;exact wp_mono (h code uQ g' w a h1) (di.ext (h2 g w (fun b hb=>hr.heap.cV b hb) (cg.refl _ _)))
theorem WC.post{c:IR}(h:WC P GL c σ (fun e s=>∃s',an σ.hp.length s s'/\Q e s')):WC P GL c σ Q:=by
 intro code hc g w a hr;refine wp_mono (h code hc g w a hr) fun e a' w' hp=>?_
 obtain⟨g2,wE,h1,h2,h3⟩:=hp;have key:∀ex,(∃s',an σ.hp.length wE s'/\Q ex s')->∃g3 aY,R GL g3 w' a' aY/\cg g w g3 w'/\Q ex aY:=by rintro ex ⟨s',ht,hq⟩;obtain⟨g3,k1,k2⟩:=ht GL g2 w' a' h1;exact⟨g3,s',k1,k2 g w (fun b hb=>hr.heap.cV b hb) h2,hq⟩
 cases e with
  |normal=>exact key _ h3
  |exit i=>exact key _ h3
  |ret=>exact key _ h3
  |goto l=>grind
  |panic c=>grind
  |outgrown=>grind
theorem WC.QD{α:Type}(I:α->St)(μ:α->Nat){b:IR}(h:∀a,WC P GL b (I a) (fun e aY=>match e with| .normal=>∃a',μ a'<μ a/\an (I a).hp.length aY (I a')|e=>Q e aY))(a:α)(h0:an σ.hp.length σ (I a)):WC P GL (.loop b) σ Q:=by
 refine WC.tidy h0 (WC.loop (fun n s=>∃a,μ a=n/\s=I a) ?_ ⟨a,rfl,rfl⟩);rintro n s ⟨a,rfl,rfl⟩;refine WC.post ((h a).mono fun e s' hq=>?_ );cases e with
  |normal=>grind
  |exit i=>exact⟨s',an.refl _ _,hq⟩
  |ret=>exact⟨s',an.refl _ _,hq⟩
theorem WF.kb{f:FuncId}{args:List V}{H:ao}{Q:V->ao->Prop}(h:WF P GL f args H (fun v H'=>∃aY,an H.length ⟨1,[(0,v)],H'⟩ aY/\Q (get aY.tm 0) aY.hp)):WF P GL f args H Q:=by
 refine⟨h.1,fun g w vs dU hh hg=>(h.2 g w vs dU hh hg).mono ?_ ⟩;rintro e w' ⟨x,v,g',H',rfl,⟨aY,ht,hq⟩,hx,ti,he⟩;have hr:R GL g' w' ⟨#[x],[]⟩ ⟨1,[(0,v)],H'⟩:=by
  refine⟨rfl,rfl,fun t=>?_,ti,hg.ext he⟩;cases t with
   |zero=>simp_all[get]
   |succ t=>rw[show get [(0,v)] (t+1)=.any from rfl];simp only[RV]
 obtain⟨g2,k1,k2⟩:=ht GL g' w' _ hr;have:=k1.tmps 0;exact⟨x,_,g2,_,rfl,hq,by simp_all,k1.heap,k2 g w (fun b hb=>hh.cV b hb) he⟩
end
end Fw
/-
  Drawn regions, for symbolic walks.
-/
namespace Fw
open Go
section
variable {P:Program}{GL:ch}
theorem WO.QE{o:aj}{l:List aj}{σ aY:St}{Q:St->Prop}{f:FuncId}{args:List a_}{vs:List V}{v:V}(h:PC P GL f vs v)(ho:o.op=.call f args)(hg:aA o.guard σ.tm=some true)(ha:bu (aZ GL σ.tm) args=vs)(hp:σ.put o.dst v σ.hp=some aY)(hq:WO P GL l aY Q):WO P GL (o::l) σ Q:=by subst ha;exact WO.NJ ho hg h hp hq
end
mutual
theorem kf{n m:Nat}(h:n<=m):∀{u:V},au n u=true->au m u=true
 | .ptr b _ _,hh=>by grind[au,Nat.blt_eq]
 | .sl b _ _ _ _,hh=>by grind[au,Nat.blt_eq]
 | .map b,hh=>by grind[au,Nat.blt_eq]
 | .iter b _,hh=>by simp only[au,aaD,abb]at hh⊢;omega
 | .func _ a c,hh=>by simp only[au,aaD]at hh⊢;exact⟨gh h hh.1,gh h hh.2⟩
 | .iface _ v,hh=>by simp only[au]at hh⊢;exact kf h hh
 | .agg cs,hh=>by simp only[au]at hh⊢;exact gh h hh
 | .tuple cs,hh=>by simp only[au]at hh⊢;exact gh h hh
 | .any,_=>rfl
 | .d _,_=>rfl
 | .full _,_=>rfl
 | .ad,_=>rfl
 | .mW,_=>rfl
 | .bB _,_=>rfl
 | .mX,_=>rfl
 | .rL,_=>rfl
 | .bN,_=>rfl
 | .gm,_=>rfl
theorem gh{n m:Nat}(h:n<=m):∀{us:List V},av n us=true->av m us=true|[],_=>rfl|v::vs,hh=>by simp only[av,aaD]at hh⊢;exact⟨kf h hh.1,gh h hh.2⟩
end
mutual
theorem nY{S:List Nat}:∀{u:V},au 0 u=true->dX S u=u
 | .ptr b _ _,hh=>by grind[au,Nat.blt_eq]
 | .sl b _ _ _ _,hh=>by grind[au,Nat.blt_eq]
 | .map b,hh=>by grind[au,Nat.blt_eq]
 | .iter b _,hh=>by simp[au,aaD,abb]at hh
 | .func _ a c,hh=>by simp only[au,aaD]at hh;simp only[dX,kU hh.1,kU hh.2]
 | .iface _ v,hh=>by simp only[au]at hh;simp only[dX,nY hh]
 | .agg cs,hh=>by simp only[au]at hh;simp only[dX,kU hh]
 | .tuple cs,hh=>by simp only[au]at hh;simp only[dX,kU hh]
 | .any,_=>rfl
 | .d _,_=>rfl
 | .full _,_=>rfl
 | .ad,_=>rfl
 | .mW,_=>rfl
 | .bB _,_=>rfl
 | .mX,_=>rfl
 | .rL,_=>rfl
 | .bN,_=>rfl
 | .gm,_=>rfl
theorem kU{S:List Nat}:∀{us:List V},av 0 us=true->gg S us=us|[],_=>rfl|v::vs,hh=>by simp only[av,aaD]at hh;simp only[gg,nY hh.1,kU hh.2]
end
end Fw
/-
  A row of which nothing is kept but its room.
-/
namespace Fw
open Go
theorem an.shrink{h sz:Nat}{cs:List V}:an 0 ⟨1,[(0,.sl 0 h 0 0 sz)],[some (.cells cs)]⟩ ⟨1,[(0,.sl 1 0 0 0 sz)],[none,some (.cells [])]⟩\/cs.length≠h:=by
 by_cases hl:cs.length=h
 ·left;intro GL g w a hr;have WZ:aF [some (.cells cs)] 0=some (.cells cs):=rfl;obtain⟨gb,Nb⟩:=hr.heap.back 0 _ WZ;obtain⟨hd,y,hy,Hf⟩:=hr.heap.live 0 gb Nb;rw[WZ]at hy;simp only[aaC]at hy;subst hy;cases gb with
   |nil=>simp only[RB]at Hf
   |obj=>simp only[RB]at Hf
   |cells aU cp cur=>
    have hx:=hr.tmps 0;simp only[get,aa4,aaJ,RV]at hx;have Ca:=hx.2 _ Nb;have b8:=Hf.lt aU rfl;simp only[RB]at Hf;obtain⟨r1,r2,r3,c,e,r4,r5,r6⟩:=Hf;obtain⟨cap,k1,k2,k3⟩:=Ca.2 (by omega);let g':G:=⟨fun b=>g.cV b\/b=1,fun b=>if b=1 then some (.cells aU cp 0)else none,g.fo⟩;have mL:∀k,cZ g w k->cZ g' w k:=fun k hk=>
     ⟨hk.1,hk.2.1,fun b x hx lC=>by
      simp only[g']at hx;split at hx
      ·simp only[aaC]at hx;subst hx;exact hk.2.2 0 _ Nb lC
      ·cases hx⟩
    have W1:∀b,g.γ b=none\/b=0:=fun b=>by
     cases hb:g.γ b with
      |none=>exact .inl rfl
      |some x=>obtain⟨_,y,hy,_⟩:=hr.heap.live b x hb;have:=lB hy;simp at this;exact .inr this
    refine⟨g',⟨hr.defers,hr.size,fun t=>?_,⟨fun b hb=>?_,fun b x hx=>?_,fun b y hy=>?_,fun b b' x x' k hx je _ _=>?_,fun k hk=>⟨(hr.heap.fo k hk).1,fun b x hx lC=>?_ ⟩⟩,⟨fun n cs hn=>⟨mL _ (hr.dJ.rd n cs hn).1,dC.keeps (im:=cZ g w) (xd:=cZ g' w) (fun k hk=>⟨mL k hk,rfl⟩) (hr.dJ.rd n cs hn).1 _ _ (hr.dJ.rd n cs hn).2⟩,fun k hk=>⟨mL _ (hr.dJ.w0 k hk).1,(hr.dJ.w0 k hk).2⟩⟩⟩,fun g0 w0 lI he=>?_ ⟩
    ·cases t with
      |zero=>simp only[get,aa4,aaJ,RV];refine⟨⟨hx.1.1,.inr rfl⟩,fun x hx=>?_ ⟩;simp only[g',abL,aaC]at hx;subst hx;exact⟨aaP _,fun _=>⟨cap,k1,k2,k3⟩⟩
      |succ t=>rw[show get [(0,V.sl 1 0 0 0 sz)] (t+1)=.any from rfl];simp only[RV]
    ·rcases hb with hb|rfl
     ·have:=hr.heap.cV b hb;simp at this⊢;omega
     ·simp
    ·simp only[g']at hx;split at hx
     ·rename_i DC;subst DC;simp only[aaC]at hx;subst hx;refine⟨.inr rfl,.cells [],rfl,?_⟩;simp only[RB,aa'];exact⟨trivial,rfl,aby _,c,e,r4,r5,by simp[aT]⟩
     ·cases hx
    ·have DC:b=1:=by
      match b,hy with
       |0,hy=>simp[aF]at hy
       |1,_=>rfl
       |b+2,hy=>simp[aF]at hy
     subst DC;exact⟨_,rfl⟩
    ·simp only[g']at hx je;split at hx
     ·split at je
      ·omega
      ·cases je
     ·cases hx
    ·simp only[g']at hx;split at hx
     ·simp only[aaC]at hx;subst hx;exact(hr.heap.fo k hk).2 0 _ Nb lC
     ·cases hx
    ·refine⟨he.os,he.tape,he.output,he.size,fun k hk=>⟨mL k (he.keeps k hk).1,(he.keeps k hk).2⟩,fun b hb=>absurd (lI b hb) (by omega),fun b hb=>absurd (lI b hb) (by omega),he.fo,he.fp⟩
 ·exact .inr hl
end Fw
/-
  An empty row of data may be nil or not: a comparison with nil goes on for both answers.
-/
namespace Fw
open Go
section
variable {P:Program}{GL:ch}
theorem PC.ofE{f:FuncId}{args:List V}{v:V}(hd:av 0 args=true)(h:WF P GL f args [] (fun r H'=>(r=.ad/\v=.d (.list []))\/fc H' r=some v)):PC P GL f args v:=by
 refine PC.ofG hd h fun r H' g g' w x h1 h2 h3 h4=>?_
 rcases h1 with⟨rfl,rfl⟩|h1
 ·grind[RV,Rd]
 ·exact Ag h2 h3 h1 h4
theorem yw{op:Op}{x' y':a_}(h:bq P op=some (.eq false .slice x' y')):∃t x y yt e,op=.binOp .eql t x y yt/\P.underlying t=some (.slice e)/\ar x=some x'/\ar y=some y':=by
 cases op with
  |binOp op t x y yt=>
   simp only[bq]at h;split at h
   ·rename_i x2 y2 hx hy;split at h
    ·split at h;case h_4 e hu=>grind
     all_goals exfalso
     all_goals (repeat' split at h)<;>simp at h
    ·exfalso;(repeat' split at h)<;>simp at h
    grind
   ·cases h
  |call c=>exfalso;simp only[bq]at h;unfold dQ at h;(repeat' split at h)<;>simp at h
  |makeFunc fn a b=>exfalso;cases fn<;>(grind[bq])
  |makeMap t r=>exfalso;cases r<;>(grind[bq])
  |slice t x lo hi mx=>exfalso;cases mx<;>cases lo<;>cases hi<;>(simp only[bq]at h;(repeat' split at h)<;>simp at h)
  |_=>exfalso;simp only[bq]at h;(repeat' split at h)<;>simp at h
theorem WO.Kp{o:aj}{l:List aj}{σ:St}{Q:St->Prop}{x y:a_}(ho:o.op=.eq false .slice x y)(hg:aA o.guard σ.tm=some true)(hx:aZ GL σ.tm x=.d (.list []))(hy:aZ GL σ.tm y=.ad)(h:∀b,∃aY,σ.put o.dst (.d (.bool b)) σ.hp=some aY/\WO P GL l aY Q):WO P GL (o::l) σ Q:=by
 refine WO.step fun o' ops kx tR gG g w a hr K Q' hK=>?_
 rw[eP hr tR hg,aaK rfl];obtain⟨t,ox,oy,yt,e,Aa,hu,hcx,hcy⟩:=yw (gP (by rw[kx,ho]) (by simp));have dy:=hr.ev _ _ hcx;have gk:=hr.ev _ _ hcy;rw[hx]at dy;rw[hy]at gk;simp only[RV,Rd]at dy gk;have key:∃b,(execOp a.eval o').run P w=.ok (.value (.bool b)) w:=by
  have hsl:∃p l c,a.eval ox=.slice p l c:=by grind
  obtain⟨p,ln,c,hs⟩:=hsl;have heq:(Op.equal t (a.eval ox) (a.eval oy)).run P w=.ok p.isNone w:=by rw[hs,gk];exact iz fun d=>by cases p<;>simp[Op.equalIn,run_underlying hu]
  have aaq:(eqGuard .eql t ox oy (a.eval ox) (a.eval oy)).run P w=.ok () w:=by rw[hs,gk];unfold eqGuard;simp
  simp_all[execOp,binOp]
 obtain⟨b,hb⟩:=key;obtain⟨aY,hp,hw⟩:=h b;unfold Oper.wp;rw[hb];simp only[Oper.upon];rw[gG];exact hK g w _ aY (hr.j6 (cg.refl _ _) hr.heap hp (RV.E6 _)) (cg.refl _ _) hw
end
end Fw
