/-
  The machine's steps, told for simp.
-/
import Derived.Test.YtgfgckimecpmlaaGreatDoorFd
import Derived.Below
import Derived.Sort.Grow
import Derived.Deep.Draws
import Derived.Sort.Row
set_option linter.unusedSimpArgs false
set_option maxHeartbeats 1000000
set_option linter.unusedVariables false
namespace Fw
open Go
theorem aC(s t:Nat)(u:V)(l:List (Nat×V)):get ((s,u)::l) t=if s=t then u else get l t:=by
 simp only[get];by_cases h:s=t
 ·subst h;simp
 ·rw[aaL h];have:Nat.beq s t=false:=by
   cases hb:Nat.beq s t with
    |false=>rfl
    |true=>exact absurd (aaI hb) h
  rw[this];rfl
theorem aQ(s t:Nat)(u v:V)(l:List (Nat×V)):put ((s,u)::l) t v=if s=t then(t,v)::l else if t≤s then(t,v)::(s,u)::l else(s,u)::put l t v:=by
 simp only[put];by_cases h:s=t
 ·subst h;simp
 ·rw[aaL h];have:Nat.beq s t=false:=by
   cases hb:Nat.beq s t with
    |false=>rfl
    |true=>exact absurd (aaI hb) h
  rw[this];by_cases h2:t≤s
  ·rw[aaP h2,abO h2];rfl
  ·rw[aaL h2];have:Nat.ble t s=false:=by
    cases hb:Nat.ble t s with
     |false=>rfl
     |true=>exact absurd (aaM hb) h2
   rw[this];rfl
theorem aY(t:Nat)(v:V):put [] t v=[(t,v)]:=rfl
theorem aG(n:Nat)(tm:List (Nat×V))(H0 H:ai)(d:Nat)(v:V):St.put ⟨n,tm,H0⟩ (some d) v H=if d<n then some ⟨n,put tm d v,H⟩else none:=by
 simp only[St.put];by_cases h:d<n
 ·rw[aaP h];have:Nat.blt d n=true:=by simpa[aaT]using h
  rw[this];rfl
 ·rw[aaL h];have:Nat.blt d n=false:=by
   cases hb:Nat.blt d n with
    |false=>rfl
    |true=>exact absurd (by simpa[aaT]using hb) h
  rw[this];rfl
theorem bZ(n:Nat)(tm:List (Nat×V))(H0 H:ai)(v:V):St.put ⟨n,tm,H0⟩ none v H=some ⟨n,tm,H⟩:=rfl
theorem eI(a b:Nat):Nat.beq a b=decide (a=b):=by
 cases hb:Nat.beq a b with
  |true=>simp[aaI hb]
  |false=>
   have:a≠b:=by rintro rfl;simp at hb
   simp[this]
theorem nO(a b:Nat):Nat.ble a b=decide (a≤b):=by
 cases hb:Nat.ble a b with
  |true=>simp[aaM hb]
  |false=>
   have:¬a≤b:=fun h=>by rw[abO h]at hb;cases hb
   simp[this]
theorem iH(a b:Nat):Nat.blt a b=decide (a<b):=by show Nat.ble (a+1) b=_;rw[nO];rfl
section
variable {GL:cj}{call:bd}
end
end Fw
/-
  From the shelf's contracts to calls that touch nothing.
-/
namespace Fw
open Go Go.RowKit
section
variable {P:Program}{GL:cj}
theorem PC.fh{f:FuncId}{args:List V}{v:V}(w6:ao P f=true)(h:∀g w (vs:Array Value),aV g w args vs.toList→gn GL g w→Calls P f vs w fun e w'=>∃x,e=.returned x∧Below w.heap.size w w'∧((∀k,dq g w k→dq g w' k)→(∀k,w.heap.size≤k→k<w'.heap.size→dq g w' k)→RV g w' v x)):PC P GL f args v:=by
 refine⟨w6,fun g w vs dX C1 jx hg=>(h g w vs dX hg).mono ?_ ⟩;rintro e w' ⟨x,rfl,hb,hx⟩;have yL:∀k,dq g w k→dq g w' k:=fun k hk=>⟨abr hk.1 hb.size,hk.2⟩
 have Bj:∀k,w.heap.size≤k→k<w'.heap.size→dq g w' k:=fun k h1 h2=>⟨h2,fun hf=>by have:=C1 k hf;omega,fun b y hy hk=>by have:=jx b y k hy hk;omega⟩
 exact⟨x,rfl,hx yL Bj,⟨hb.os,hb.tape,hb.output,hb.size,fun k hk=>⟨yL k hk,hb.block k hk.1⟩,fun _ h=>h,fun _ _=>GB.step.refl _,rfl,fun k hk=>hb.block k (C1 k hk)⟩,fun b y k hy hk=>hb.block k (jx b y k hy hk)⟩
theorem Below.Dd(w:World)(n:Nat):Below w.heap.size w (w.drewN n):=⟨rfl,rfl,rfl,aaQ _,fun _ _=>rfl⟩
theorem Below.N'{w a:World}(h:Below w.heap.size w a)(os:Array Obj):Below w.heap.size w (Go.Sort.grow a os):=h.trans ⟨rfl,rfl,rfl,by simp[Go.Sort.grow],fun k hk=>by have:=h.size;simp only[Go.Sort.grow];rw[acp (by omega)]⟩
theorem aV.De{g:G}{w:World}{l:List Value}(h:aV g w [] l):l=[]:=by
 cases l with
  |nil=>rfl
  |cons=>simp only[aV]at h
theorem aV.cons_inv{g:G}{w:World}{u:V}{us:List V}{l:List Value}(h:aV g w (u::us) l):∃v vs,l=v::vs∧RV g w u v∧aV g w us vs:=by
 cases l with
  |nil=>simp only[aV]at h
  |cons v vs=>simp only[aV]at h;exact⟨v,vs,rfl,h.1,h.2⟩
theorem aV.sJ{g:G}{w:World}{u:V}{vs:Array Value}(h:aV g w [u] vs.toList):∃x,vs= #[x]∧RV g w u x:=by obtain⟨x,l,e,h1,h2⟩:=h.cons_inv;rw[h2.De]at e;exact⟨x,abL.1 (by simpa using e),h1⟩
theorem aV.iz{g:G}{w:World}{u u':V}{vs:Array Value}(h:aV g w [u,u'] vs.toList):∃x y,vs= #[x,y]∧RV g w u x∧RV g w u' y:=by obtain⟨x,l,e,h1,h2⟩:=h.cons_inv;obtain⟨y,l',e',h3,h4⟩:=h2.cons_inv;rw[h4.De]at e';rw[e']at e;exact⟨x,y,abL.1 (by simpa using e),h1,h3⟩
theorem RV.cX{g:G}{w:World}{s:List UInt8}{x:Value}(h:RV g w (.d (.str s)) x):∃b:ByteArray,x=.string b∧b.data.toList=s:=by simpa only[RV,Rd]using h
theorem RV.Df{g:G}{w:World}{k:IntKind}{n:Int}{x:Value}(h:RV g w (.d (.int k n)) x):x=.int k n:=by simpa only[RV,Rd]using h
theorem RV.mL{g:G}{w:World}(l:List UInt8):RV g w (.d (.str l)) (.string ⟨l.toArray⟩):=by simp only[RV,Rd];exact⟨_,rfl,by simp⟩
def dy(l:List (List UInt8)):D:=.list (l.map fun s=>[.str s])
theorem iO.strs{w:World}{im:Nat→Prop}{aT sz:Nat}:∀{l:List (List UInt8)}{off:Nat},iO w im aT off sz (l.map fun s=>[.str s])→l≠[]→sz=1∧∃xs:List ByteArray,xs.map (fun b=>b.data.toList)=l∧∀(j:Nat) b,xs[j]? =some b→w.cell? ⟨aT,off+j,none⟩=some (.string b)
 |[],_,_,h=>absurd rfl h
 |s::l,off,h,_=>by
  simp only[aaY,iO,aaS,abl,dx]at h;obtain⟨h1,⟨⟨v,h2,h3⟩,-⟩,h4⟩:=h;simp only[Rd]at h3;obtain⟨b,rfl,hb⟩:=h3;obtain rfl:sz=1:=by omega
  refine⟨rfl,?_⟩;by_cases hl:l=[]
  ·subst hl;refine⟨[b],by simp[hb],fun j x hx=>?_ ⟩;cases j with
    |zero=>simp at hx;subst hx;simpa using h2
    |succ j=>simp at hx
  ·obtain⟨-,xs,k1,k2⟩:=iO.strs h4 hl;refine⟨b::xs,by simp[hb,k1],fun j x hx=>?_ ⟩;cases j with
    |zero=>simp at hx;subst hx;simpa using h2
    |succ j=>simp at hx;have:=k2 j x hx;rwa[show off+1+j=off+(j+1) by omega]at this
theorem RV.HA{g:G}{w:World}{l:List (List UInt8)}{x:Value}(h:RV g w (.d (dy l)) x):(l=[]∧∃a c,x=.slice a 0 c)∨∃aT off cap,∃xs:List ByteArray,l≠[]∧x=.slice (some ⟨aT,off,none⟩) xs.length cap∧xs.length≤cap∧aT<w.heap.size∧xs.map (fun b=>b.data.toList)=l∧∀(j:Nat) b,xs[j]? =some b→w.cell? ⟨aT,off+j,none⟩=some (.string b):=by
 simp only[RV,dy,Rd,List.map_eq_nil_iff,aaW]at h;rcases h with⟨h1,h2|⟨_,_,h2⟩⟩|⟨aT,off,cap,sz,h1,h2,h3,h4⟩
 ·exact .inl ⟨h1,_,_,h2⟩
 ·exact .inl ⟨h1,_,_,h2⟩
 ·by_cases hl:l=[]
  ·subst hl;exact .inl ⟨rfl,_,_,h1⟩
  ·obtain⟨rfl,xs,k1,k2⟩:=iO.strs h4 hl;have hlen:xs.length=l.length:=by rw[←k1];simp
   exact .inr ⟨aT,off,cap,xs,hl,by rw[hlen];exact h1,by omega,(h3 (by simpa using hl)).1,k1,k2⟩
theorem iO.Dg{w:World}{im:Nat→Prop}{aT:Nat}:∀{xs:List ByteArray}{off:Nat},(∀(j:Nat) b,xs[j]? =some b→w.cell? ⟨aT,off+j,none⟩=some (.string b))→iO w im aT off 1 (xs.map fun b=>[.str b.data.toList])
 |[],_,_=>by simp only[ac5,iO]
 |b::xs,off,h=>by simp only[aaY,iO,aaS,abl,dx,Rd];refine⟨trivial,⟨⟨_,by simpa using h 0 b rfl,b,rfl,rfl⟩,trivial⟩,iO.Dg fun j x hx=>?_ ⟩;have:=h (j+1) x (by simpa using hx);rwa[show off+1+j=off+(j+1) by omega]
theorem RV.zf{g:G}{w:World}(xs:List ByteArray)(t:TypeId)(fz:Nat×Nat)(n:Nat)(hn:n=xs.length)(ti:dq g (w.alloc (.cells (xs.map Value.string).toArray t fz)) w.heap.size):RV g (w.alloc (.cells (xs.map Value.string).toArray t fz)) (.d (dy (xs.map fun b=>b.data.toList))) (.slice (some ⟨w.heap.size,0,none⟩) n n):=by
 subst hn;simp only[RV,dy,Rd,List.map_map,aaW];refine .inr ⟨w.heap.size,0,xs.length,1,rfl,aaQ _,fun _=>ti,?_ ⟩;refine iO.Dg (xs:=xs) fun j b hb=>?_
 simp only[World.cell?,bV];simp[hb]
end
end Fw
/-
  Operations up to a call; a sort of an own row of strings.
-/
namespace Fw
open Go Go.RowKit
section
variable {P:Program}{GL:cj}
theorem WO.pre{own:List Nat}{call:bd}(hc:bQ P GL call):∀{l l2:List ad}{σ aS:St}{Q:St→Prop},cO own GL call l σ=some aS→WO P GL l2 aS Q→WO P GL (l++l2) σ Q
 |[],l2,σ,aS,Q,h,hq=>by simp only[cO,aaC]at h;subst h;exact hq
 |o::l,l2,σ,aS,Q,h,hq=>by
  rw[abQ];simp only[cO]at h;split at h
  ·cases h
  ·rename_i hg;split at h
   ·rename_i vw h1;exact WO.skip hg h1 (WO.pre hc h hq)
   ·cases h
  ·rename_i hg;split at h
   ·rename_i f args ho;split at h
    ·rename_i v H' cD;split at h
     ·rename_i vw h1;refine WO.call ho hg ((hc _ _ _ _ _ cD).mono ?_ );rintro r hp ⟨rfl,rfl⟩;exact⟨vw,h1,WO.pre hc h hq⟩
     ·cases h
    ·cases h
   ·rename_i x args ho;split at h
    ·rename_i f first cap hx
     split at h
     ·rename_i v H' cD;split at h
      ·rename_i vw h1;refine WO.fm ho hx hg ((hc _ _ _ _ _ cD).mono ?_ );rintro r hp ⟨rfl,rfl⟩;exact⟨vw,h1,WO.pre hc h hq⟩
      ·cases h
     ·cases h
    ·cases h
   ·split at h
    ·rename_i v he;split at h
     ·rename_i vw h1;refine WO.f_ hg ?_ h1 (WO.pre hc h hq);unfold bB at he;split at he
      ·rename_i heq;cases hi:nW o.dst own with
        |true=>rw[hi]at he;cases he
        |false=>rw[hi]at he;exact he
      ·cases he
     ·cases h
    ·split at h
     ·rename_i v wr he;split at h
      ·rename_i vw h1;exact WO.bw hg he h1 (WO.pre hc h hq)
      ·cases h
     ·cases h
theorem WO.WB(k:Nat){own:List Nat}{call:bd}(hc:bQ P GL call){l:List ad}{σ aS:St}{Q:St→Prop}(h:cO own GL call (l.take k) σ=some aS)(h2:WO P GL (l.drop k) aS Q):WO P GL l σ Q:=by have:=WO.pre hc h h2;rwa[acm]at this
def Vl(_:FuncId)(_:List V)(_:ai):Option (V×ai):=none
def Rs(_:FuncId)(_:List V):Option V:=none
theorem By:bQ P GL Vl:=by intro f a H v H' h;cases h
theorem qz:bu P GL Rs:=by intro f a v h;cases h
theorem WC.gO{own:List Nat}{l:List ad}{σ aS:St}{Q:Ex→St→Prop}(h:cO own GL Vl l σ=some aS)(hq:Q .normal aS):WC P GL (.region l) σ Q:=WC.region (lI By h hq)
theorem WC.KP(k:Nat){own:List Nat}{l:List ad}{σ aS:St}{Q:Ex→St→Prop}(h:cO own GL Vl (l.take k) σ=some aS)(hq:WO P GL (l.drop k) aS fun σ=>Q .normal σ):WC P GL (.region l) σ Q:=WC.region (WO.WB k By h hq)
theorem WO.N_{o:ad}{l:List ad}{σ aS:St}{Q:St→Prop}{f:FuncId}{args:List ba}{v:V}(ho:o.op=.call f args)(hg:ar o.guard σ.tm=some true)(h:PC P GL f (bh (aX GL σ.tm) args) v)(hp:σ.put o.dst v σ.hp=some aS)(hq:WO P GL l aS Q):WO P GL (o::l) σ Q:=WO.call ho hg (WF.EJ h ⟨aS,hp,hq⟩)
theorem HB(H:ai)(l:ai)(b:Nat):aE (H++l) b=if b<H.length then aE H b else aE l (b - H.length):=by
 induction H generalizing b with
  |nil=>simp
  |cons x H ih=>
   cases b with
    |zero=>simp[aE]
    |succ b=>simp only[abQ,aE,ih,aaS,Nat.add_lt_add_iff_right,Nat.add_sub_add_right]
end
end Fw
/-
  A call that is handed some of the caller's boxes: proved over these boxes alone, it holds whatever other boxes there are.
-/
namespace Fw
open Go
mutual
def dU(S:List Nat):V→V| .ptr c h off=>.ptr (S.getD c 0) h off| .sl c h off len sz=>.sl (S.getD c 0) h off len sz| .map c=>.map (S.getD c 0)| .iter c m=>.iter (S.getD c 0) (S.getD m 0)| .func f a c=>.func f (fE S a) (fE S c)| .iface t v=>.iface t (dU S v)| .agg cs=>.agg (fE S cs)| .tuple vs=>.tuple (fE S vs)|v=>v
def fE(S:List Nat):List V→List V|[]=>[]|v::vs=>dU S v::fE S vs
end
def cH(S:List Nat):eG→eG
 | .cells cs=>.cells (fE S cs)
 | .map es=>.map (es.map fun p=>(p.1,dU S p.2))
 | .dK m n seen=>.dK (S.getD m 0) n seen
 |x=>x
theorem rJ(S:List Nat):∀(l:List V),(fE S l).length=l.length|[]=>rfl|_::l=>by simp[fE,rJ S l]
theorem HC(S:List Nat)(u:V):dO (dU S u)=dO u:=by cases u<;>rfl
theorem zg(S:List Nat):∀(l:List V),(fE S l).all dO=l.all dO|[]=>rfl|v::l=>by simp[fE,HC,zg S l]
structure Sub (S:List Nat) (g0 g:G) (w:World):Prop where
 cR:∀i,i<S.length→(g0.cR i↔g.cR (S.getD i 0))
 γ:∀i,i<S.length→g0.γ i=g.γ (S.getD i 0)
 dq:∀k,dq g0 w k↔dq g w k
mutual
theorem RV.uT{S:List Nat}{g0 g:G}{w:World}(h:Sub S g0 g w):∀(u:V)(v:Value),aq S.length u=true→(RV g w (dU S u) v↔RV g0 w u v)
 | .any,_,_=>by simp only[dU,RV]
 | .d x,v,_=>by simp only[dU,RV];exact⟨Rd.keeps (fun k hk=>⟨(h.dq k).2 hk,rfl⟩) _ _,Rd.keeps (fun k hk=>⟨(h.dq k).1 hk,rfl⟩) _ _⟩
 | .ab,_,_=>by simp only[dU,RV]
 | .ptr b hh off,v,hn=>by simp only[aq,aaT]at hn;simp only[dU,RV,h.cR b hn,h.γ b hn]
 | .jU,_,_=>by simp only[dU,RV]
 | .ct cs,v,_=>by
  simp only[dU,RV];constructor
  ·rintro⟨aT,off,h1,h2,h3⟩;refine⟨aT,off,h1,fun hn=>(h.dq _).2 (h2 hn),?_ ⟩;cases cs with
    |nil=>simp only[dx]
    |cons c cs=>exact dx.keeps (im:=dq g w) (uZ:=dq g0 w) (fun k hk=>⟨(h.dq k).2 hk,rfl⟩) (h2 (by simp)) _ _ h3
  ·rintro⟨aT,off,h1,h2,h3⟩;refine⟨aT,off,h1,fun hn=>(h.dq _).1 (h2 hn),?_ ⟩;cases cs with
    |nil=>simp only[dx]
    |cons c cs=>exact dx.keeps (im:=dq g0 w) (uZ:=dq g w) (fun k hk=>⟨(h.dq k).1 hk,rfl⟩) (h2 (by simp)) _ _ h3
 | .sl b hh off len sz,v,hn=>by simp only[aq,aaT]at hn;simp only[dU,RV,h.cR b hn,h.γ b hn]
 | .map b,v,hn=>by simp only[aq,aaT]at hn;simp only[dU,RV,h.cR b hn,h.γ b hn]
 | .mf,_,_=>by simp only[dU,RV]
 | .func f a c,v,hn=>by
  simp only[aq,aaD]at hn;simp only[dU,RV];constructor
  ·rintro⟨x,y,h1,h2,h3⟩;exact⟨x,y,h1,(aV.uT h _ _ hn.1).1 h2,(aV.uT h _ _ hn.2).1 h3⟩
  ·rintro⟨x,y,h1,h2,h3⟩;exact⟨x,y,h1,(aV.uT h _ _ hn.1).2 h2,(aV.uT h _ _ hn.2).2 h3⟩
 | .nK,_,_=>by simp only[dU,RV]
 | .iface t u,v,hn=>by
  simp only[aq]at hn;simp only[dU,RV];constructor
  ·rintro⟨x,h1,h2⟩;exact⟨x,h1,(RV.uT h _ _ hn).1 h2⟩
  ·rintro⟨x,h1,h2⟩;exact⟨x,h1,(RV.uT h _ _ hn).2 h2⟩
 | .cd,_,_=>by simp only[dU,RV]
 | .gX,_,_=>by simp only[dU,RV]
 | .agg cs,v,hn=>by
  simp only[aq]at hn;simp only[dU,RV];constructor
  ·rintro⟨x,h1,h2⟩;exact⟨x,h1,(aV.uT h _ _ hn).1 h2⟩
  ·rintro⟨x,h1,h2⟩;exact⟨x,h1,(aV.uT h _ _ hn).2 h2⟩
 | .tuple vs,v,hn=>by
  simp only[aq]at hn;simp only[dU,RV];constructor
  ·rintro⟨x,h1,h2⟩;exact⟨x,h1,(aV.uT h _ _ hn).1 h2⟩
  ·rintro⟨x,h1,h2⟩;exact⟨x,h1,(aV.uT h _ _ hn).2 h2⟩
 | .iter b m,v,hn=>by simp only[aq,aaD,aaT]at hn;simp only[dU,RV,h.cR b hn.1,h.γ b hn.1]
theorem aV.uT{S:List Nat}{g0 g:G}{w:World}(h:Sub S g0 g w):∀(us:List V)(vs:List Value),an S.length us=true→(aV g w (fE S us) vs↔aV g0 w us vs)
 |[],[],_=>by simp only[fE,aV]
 |u::us,v::vs,hn=>by simp only[an,aaD]at hn;simp only[fE,aV,RV.uT h _ _ hn.1,aV.uT h _ _ hn.2]
 |[],_::_,_=>by simp only[fE,aV]
 |_::_,[],_=>by simp only[fE,aV]
end
theorem RB.uT{S:List Nat}{g0 g:G}{w:World}(h:Sub S g0 g w){x:GB}{y:eG}(hy:cE S.length y=true):RB g w x (cH S y)↔RB g0 w x y:=by
 cases x with
  |cells aT cp cur=>
   cases y with
    |cells cs=>simp only[cE]at hy;simp only[cH,RB,rJ,zg,aV.uT h _ _ hy]
    |_=>simp only[cH,RB]
  |nil=>cases y<;>simp only[cH,RB]
  |obj aT=>
   cases y with
    |map es=>
     simp only[cE,aaR]at hy;simp only[cH,RB,aaW];constructor
     ·rintro⟨bO,clock,h1,h2,h3,h4⟩;refine⟨bO,clock,h1,h2,fun i k v hi=>?_,h4⟩;obtain⟨z,z1,z2,z3,z4⟩:=h3 i k (dU S v) (by simp[hi]);exact⟨z,z1,z2,Rd.keeps (fun k hk=>⟨(h.dq k).2 hk,rfl⟩) _ _ z3,(RV.uT h _ _ (hy _ (aaO hi))).1 z4⟩
     ·rintro⟨bO,clock,h1,h2,h3,h4⟩;refine⟨bO,clock,h1,h2,fun i k v hi=>?_,h4⟩;simp only[abf,aaE,aaF]at hi;obtain⟨⟨k',v'⟩,lv,rfl,rfl⟩:=hi;obtain⟨z,z1,z2,z3,z4⟩:=h3 i k' v' lv;exact⟨z,z1,z2,Rd.keeps (fun k hk=>⟨(h.dq k).1 hk,rfl⟩) _ _ z3,(RV.uT h _ _ (hy _ (aaO lv))).2 z4⟩
    |dK m n seen=>simp only[cE,aaT]at hy;simp only[cH,RB,h.cR m hy,h.γ m hy]
    |_=>simp only[cH,RB]
theorem pz{S:List Nat}(hn:S.Nodup){i j:Nat}(hi:i<S.length)(hj:j<S.length)(h:S.getD i 0=S.getD j 0):i=j:=by
 rw[aa7,aa7,aaG hi,aaG hj]at h;simp only[abe]at h;have hp:=List.pairwise_iff_getElem.1 hn;rcases adB i j with bS|he|bS
 ·exact absurd h (hp i j hi hj bS)
 ·exact he
 ·exact absurd h.symm (hp j i hj hi bS)
def eB(S:List Nat)(H':ai)(i:Nat):List Nat→ai→ai|[],H=>H|b::bs,H=>eB S H' (i+1) bs (match aE H' i with|some y=>bn H b (cH S y)|none=>H.set b none)
theorem nZ(H:ai)(b c:Nat):aE (H.set b none) c=if c=b then none else aE H c:=by
 induction H generalizing b c with
  |nil=>simp[aE]
  |cons z H ih=>
   cases b with
    |zero=>cases c<;>simp[aE]
    |succ b=>cases c<;>simp[aE,ih]
theorem je(S:List Nat)(H':ai):∀(bs:List Nat)(i:Nat)(H:ai)(c:Nat),bs.Nodup→aE (eB S H' i bs H) c=match bs.idxOf? c with|some j=>(aE H' (i+j)).map (cH S)|none=>aE H c
 |[],i,H,c,_=>by simp[eB]
 |b::bs,i,H,c,hn=>by
  simp only[eB];rw[je S H' bs (i+1) _ c (acn.1 hn).2];by_cases hc:b=c
  ·subst hc;have:bs.idxOf? b=none:=ab2.2 (acn.1 hn).1;simp only[this,List.idxOf?_cons,beq_self_eq_true,abv,abN];cases aE H' i with
    |some y=>simp[eJ]
    |none=>simp[nZ]
  ·have e:(b==c)=false:=by simpa using hc
   simp only[List.idxOf?_cons,e,abB,abT];cases hb:bs.idxOf? c with
    |some j=>simp only[aaV];congr 2;omega
    |none=>
     simp only[ab3];cases aE H' i with
      |some y=>simp[eJ,acM hc]
      |none=>simp[nZ,acM hc]
theorem mM(S:List Nat)(H':ai):∀(bs:List Nat)(i:Nat)(H:ai),H.length≤(eB S H' i bs H).length
 |[],_,_=>aaQ _
 |b::bs,i,H=>by
  simp only[eB];refine aby ?_ (mM S H' bs (i+1) _);split
  ·exact(j3 H b _).1
  ·simp
section
variable {P:Program}{GL:cj}
theorem lJ{S:List Nat}{c j:Nat}(h:S.idxOf? c=some j):j<S.length∧S.getD j 0=c:=by
 have h1:S[j]? =some c:=by
  induction S generalizing j with
   |nil=>simp at h
   |cons b S ih=>
    rw[List.idxOf?_cons]at h;by_cases hb:(b==c)=true
    ·rw[aaP hb]at h;simp only[aaC]at h;subst h;simpa using hb
    ·rw[aaL hb]at h;simp only[aaE]at h;obtain⟨k,hk,rfl⟩:=h;simpa using ih hk
 exact⟨(aaK.1 h1).1,by rw[aa7,h1];rfl⟩
theorem WF.frame{f:FuncId}{mN:List V}{H0:ai}{Q0:V→ai→Prop}(S:List Nat){H:ai}{Q:V→ai→Prop}(h:WF P GL f mN H0 Q0)(hn:S.Nodup)(hl:H0.length=S.length)(ha:an S.length mN=true)(Vm:aH S.length H0=true)(hb:∀i,i<S.length→∃y,aE H0 i=some y∧aE H (S.getD i 0)=some (cH S y))(hq:∀v H',Q0 v H'→H'.length=S.length∧aq S.length v=true∧aH S.length H'=true∧Q (dU S v) (eB S H' 0 S H)):WF P GL f (fE S mN) H Q:=by
 refine⟨h.1,fun g w vs dX hh hg=>?_ ⟩;have aay:∀i,i<S.length→S.getD i 0<H.length:=fun i hi=>by obtain⟨y,_,h2⟩:=hb i hi;exact jZ h2
 let g0:G:=⟨fun i=>i<S.length∧g.cR (S.getD i 0),fun i=>if i<S.length then g.γ (S.getD i 0)else none,fun k=>g.fo k∨∃b x,b∉S∧g.γ b=some x∧x.own=some k⟩;have HD:∀i,i<S.length→S.getD i 0∈S:=fun i hi=>by rw[aa7,aaG hi];exact abK hi
 have sd:∀b,b∈S→∃i,i<S.length∧S.getD i 0=b:=fun b hb=>by obtain⟨i,hi,rfl⟩:=List.getElem_of_mem hb;exact⟨i,hi,by rw[aa7,aaG hi];rfl⟩
 have hZ:∀k,dq g0 w k↔dq g w k:=by
  intro k;constructor
  ·rintro⟨h1,h2,h3⟩;refine⟨h1,fun hf=>h2 (.inl hf),fun b x hx hk=>?_ ⟩;by_cases lj:b∈S
   ·obtain⟨i,hi,rfl⟩:=sd b lj;exact h3 i x (by show(if i<S.length then _ else _)=_;rw[aaP hi];exact hx) hk
   ·exact h2 (.inr ⟨b,x,lj,hx,hk⟩)
  ·rintro⟨h1,h2,h3⟩;refine⟨h1,?_,fun i x hx hk=>?_ ⟩
   ·rintro(hf|⟨b,x,_,hx,hk⟩)
    ·exact h2 hf
    ·exact h3 b x hx hk
   ·simp only[g0]at hx;split at hx
    ·exact h3 _ x hx hk
    ·cases hx
 have KR:Sub S g0 g w:=⟨fun i hi=>⟨fun h=>h.2,fun h=>⟨hi,h⟩⟩,fun i hi=>by show(if i<S.length then _ else _)=_;rw[aaP hi],hZ⟩;have jx:∀b x k,g.γ b=some x→x.own=some k→k<w.heap.size:=RV.eO hh;have Oa:az g0 w H0:=by
  refine⟨fun i hi=>by rw[hl];exact hi.1,fun i x hx=>?_,fun i y hy=>?_,fun i i' x x' k hx g_ hk iT=>?_,fun k hk=>⟨?_,fun i x hx iT=>?_ ⟩⟩
  ·simp only[g0]at hx;split at hx
   ·rename_i hi;obtain⟨h1,y,h2,h3⟩:=hh.live _ x hx;obtain⟨y0,k1,k2⟩:=hb i hi;rw[h2]at k2;simp only[aaC]at k2;subst k2;exact⟨⟨hi,h1⟩,y0,k1,(RB.uT KR (fN Vm k1)).1 h3⟩
   ·cases hx
  ·have hi:i<S.length:=by rw[←hl];exact jZ hy
   obtain⟨y0,k1,k2⟩:=hb i hi;obtain⟨x,hx⟩:=hh.back _ _ k2;exact⟨x,by show(if i<S.length then _ else _)=_;rw[aaP hi];exact hx⟩
  ·simp only[g0]at hx g_;split at hx
   ·rename_i hi;split at g_
    ·rename_i lv;exact pz hn hi lv (hh.inj _ _ x x' k hx g_ hk iT)
    ·cases g_
   ·cases hx
  ·rcases hk with hk|⟨b,x,_,hx,hk⟩
   ·exact(hh.fo k hk).1
   ·exact jx b x k hx hk
  ·simp only[g0]at hx;split at hx
   ·rename_i hi;rcases hk with hk|⟨b,x2,lj,u5,uS⟩
    ·exact(hh.fo k hk).2 _ x hx iT
    ·have:=hh.inj _ b x x2 k hx u5 iT uS;exact lj (by rw[←this];exact HD i hi)
   ·cases hx
 have hG:gn GL g0 w:=⟨fun n cs hn=>⟨(hZ n).2 (hg.rd n cs hn).1,dx.keeps (im:=dq g w) (uZ:=dq g0 w) (fun k hk=>⟨(hZ k).2 hk,rfl⟩) (hg.rd n cs hn).1 _ _ (hg.rd n cs hn).2⟩,fun k hk=>⟨(hZ k).2 (hg.w0 k hk).1,(hg.w0 k hk).2⟩⟩;refine(h.2 g0 w vs ((aV.uT KR _ _ ha).1 dX) Oa hG).mono ?_;rintro e w' ⟨x,v,HE,H',rfl,hq0,hx,rZ,he⟩;obtain⟨q1,q2,q3,q4⟩:=hq v H' hq0;let g':G:=⟨g.cR,fun b=>match S.idxOf? b with|some i=>HE.γ i|none=>g.γ b,g.fo⟩;have yw:∀i,i<S.length→g'.γ (S.getD i 0)=HE.γ i:=fun i hi=>by
  simp only[g'];cases hc:S.idxOf? (S.getD i 0)with
   |none=>exact absurd (HD i hi) (ab2.1 hc)
   |some j=>obtain⟨k1,k2⟩:=lJ hc;rw[pz hn k1 hi k2]
 have xi:∀b,b∉S→g'.γ b=g.γ b:=fun b lj=>by simp only[g'];rw[ab2.2 lj]
 have HF:∀k,HE.fo k↔(g.fo k∨∃b x,b∉S∧g.γ b=some x∧x.own=some k):=fun k=>by rw[he.fo]
 have Rt:∀i,i<S.length→g.cR (S.getD i 0)→HE.cR i:=fun i hi hd=>he.cR i ⟨hi,hd⟩
 have Ob:∀i x,HE.γ i=some x→i<S.length:=fun i x hx=>by obtain⟨_,y,h2,_⟩:=rZ.live i x hx;rw[←q1];exact jZ h2
 have vF:∀k,dq HE w' k↔dq g' w' k:=by
  intro k;constructor
  ·rintro⟨h1,h2,h3⟩;rw[HF]at h2;refine⟨h1,fun hf=>h2 (.inl hf),fun b x hx hk=>?_ ⟩;by_cases lj:b∈S
   ·obtain⟨i,hi,rfl⟩:=sd b lj;rw[yw i hi]at hx;exact h3 i x hx hk
   ·rw[xi b lj]at hx;exact h2 (.inr ⟨b,x,lj,hx,hk⟩)
  ·rintro⟨h1,h2,h3⟩;refine⟨h1,?_,fun i x hx hk=>?_ ⟩
   ·rw[HF];rintro(hf|⟨b,x,lj,hx,hk⟩)
    ·exact h2 hf
    ·exact h3 b x (by rw[xi b lj];exact hx) hk
   ·have hi:=Ob i x hx;exact h3 (S.getD i 0) x (by rw[yw i hi];exact hx) hk
 have yQ:cr g w g' w':=by
  refine⟨he.os,he.tape,he.output,he.size,fun k hk=>?_,fun _ h=>h,fun b hb=>?_,rfl,fun k hk=>he.eQ k (.inl hk)⟩
  ·obtain⟨h1,h2⟩:=he.keeps k ((hZ k).2 hk);exact⟨(vF k).1 h1,h2⟩
  ·by_cases lj:b∈S
   ·obtain⟨i,hi,rfl⟩:=sd b lj;rw[yw i hi];have:=he.step i ⟨hi,hb⟩;simp only[g0,hi,abv]at this;exact this
   ·rw[xi b lj];exact GB.step.refl _
 have HG:Sub S HE g' w':=by refine⟨fun i hi=>⟨fun hd=>?_,fun hd=>Rt i hi hd⟩,fun i hi=>(yw i hi).symm,vF⟩;obtain⟨y,_,k2⟩:=hb i hi;obtain⟨x,hx⟩:=hh.back _ _ k2;exact(hh.live _ x hx).1
 have WD:∀b x k,b∉S→g.γ b=some x→x.own=some k→w'.heap[k]? =w.heap[k]? :=fun b x k lj hx hk=>he.eQ k (.inr ⟨b,x,lj,hx,hk⟩)
 refine⟨x,dU S v,g',_,rfl,q4,(RV.uT HG _ _ q2).2 hx,?_,yQ⟩;refine⟨fun b hb=>abr (hh.cR b hb) (mM S H' S 0 H),fun b x hx=>?_,fun b y hy=>?_,fun b b' x x' k hx g_ hk iT=>?_,fun k hk=>⟨abr (hh.fo k hk).1 he.size,fun b x hx iT=>?_ ⟩⟩
 ·by_cases lj:b∈S
  ·obtain⟨i,hi,rfl⟩:=sd b lj;rw[yw i hi]at hx;obtain⟨h1,y,h2,h3⟩:=rZ.live i x hx;have hd:g.cR (S.getD i 0):=(HG.cR i hi).1 h1;have Qk:S.idxOf? (S.getD i 0)=some i:=by
    cases hc:S.idxOf? (S.getD i 0)with
     |none=>exact absurd (HD i hi) (ab2.1 hc)
     |some j=>obtain⟨k1,k2⟩:=lJ hc;rw[pz hn k1 hi k2]
   refine⟨hd,cH S y,?_,(RB.uT HG (fN q3 h2)).2 h3⟩;rw[je S H' S 0 H _ hn,Qk];simp[h2]
  ·rw[xi b lj]at hx;obtain⟨h1,y,h2,h3⟩:=hh.live b x hx;refine⟨h1,y,?_,RB.ext yQ (fun k hk=>WD b x k lj hx hk) h3⟩;rw[je S H' S 0 H _ hn,ab2.2 lj];exact h2
 ·rw[je S H' S 0 H _ hn]at hy;cases hc:S.idxOf? b with
   |some i=>rw[hc]at hy;simp only[aaU,aaE]at hy;obtain⟨y0,GH,rfl⟩:=hy;obtain⟨x,hx⟩:=rZ.back i y0 GH;obtain⟨k1,k2⟩:=lJ hc;exact⟨x,by rw[←k2,yw i k1];exact hx⟩
   |none=>rw[hc]at hy;obtain⟨x,hx⟩:=hh.back b y hy;exact⟨x,by rw[xi b (ab2.1 hc)];exact hx⟩
 ·by_cases lj:b∈S
  ·obtain⟨i,hi,rfl⟩:=sd b lj;rw[yw i hi]at hx;by_cases EK:b'∈S
   ·obtain⟨i',lv,rfl⟩:=sd b' EK;rw[yw i' lv]at g_;rw[rZ.inj i i' x x' k hx g_ hk iT]
   ·rw[xi b' EK]at g_;exact absurd hk ((rZ.fo k ((HF k).2 (.inr ⟨b',x',EK,g_,iT⟩))).2 i x hx)
  ·rw[xi b lj]at hx;by_cases EK:b'∈S
   ·obtain⟨i',lv,rfl⟩:=sd b' EK;rw[yw i' lv]at g_;exact absurd iT ((rZ.fo k ((HF k).2 (.inr ⟨b,x,lj,hx,hk⟩))).2 i' x' g_)
   ·rw[xi b' EK]at g_;exact hh.inj b b' x x' k hx g_ hk iT
 ·by_cases lj:b∈S
  ·obtain⟨i,hi,rfl⟩:=sd b lj;rw[yw i hi]at hx;exact(rZ.fo k ((HF k).2 (.inl hk))).2 i x hx iT
  ·rw[xi b lj]at hx;exact(hh.fo k hk).2 b x hx iT
end
end Fw
/-
  Tidying: slots forgotten, boxes dropped or frozen; loops over tidied states.
-/
namespace Fw
open Go
def au(m:Nat)(σ aS:St):Prop:=∀(GL:cj)(g:G)(w:World)(a:Act),R GL g w a σ→∃g',R GL g' w a aS∧∀(g0:G)(w0:World),(∀b,g0.cR b→b<m)→cr g0 w0 g w→cr g0 w0 g' w
theorem au.refl(m:Nat)(σ:St):au m σ σ:=fun _ g _ _ h=>⟨g,h,fun _ _ _ he=>he⟩
theorem au.trans{m:Nat}{a b c:St}(h:au m a b)(k:au m b c):au m a c:=fun GL g w sB hr=>by obtain⟨g1,h1,h2⟩:=h GL g w sB hr;obtain⟨g2,h3,h4⟩:=k GL g1 w sB h1;exact⟨g2,h3,fun g0 w0 hd he=>h4 g0 w0 hd (h2 g0 w0 hd he)⟩
theorem au.clean{m n:Nat}{cw:List Nat}{σ aS:St}(hn:m≤n)(h:cf cw n σ=some aS):au m σ aS:=fun _ g _ _ hr=>⟨g.cut n,hr.clean h,fun _ _ hd he=>he.cut fun b hb=>abr (hd b hb) hn⟩
theorem au.oe{m b:Nat}{σ aS:St}(h:j_ b σ=some aS):au m σ aS:=fun _ g _ _ hr=>⟨g.del b,hr.oe h,fun g0 w0 _ he=>cr.oe g0 w0 he⟩
section
variable {P:Program}{GL:cj}
theorem WC.tidy{c:IR}{σ aS:St}{Q:Ex→St→Prop}(ht:au σ.hp.length σ aS)(h:WC P GL c aS Q):WC P GL c σ Q:=by intro code tp g w a hr;obtain⟨g',h1,h2⟩:=ht GL g w a hr;exact wp_mono (h code tp g' w a h1) (cA.ext (h2 g w (fun b hb=>hr.heap.cR b hb) (cr.refl _ _)))
theorem WC.post{c:IR}{σ:St}{Q:Ex→St→Prop}(h:WC P GL c σ (fun e s=>∃s',au σ.hp.length s s'∧Q e s')):WC P GL c σ Q:=by
 intro code hc g w a hr;refine wp_mono (h code hc g w a hr) fun e a' w' hp=>?_
 obtain⟨g2,tj,h1,h2,h3⟩:=hp;have key:∀ex,(∃s',au σ.hp.length tj s'∧Q ex s')→∃g3 aS,R GL g3 w' a' aS∧cr g w g3 w'∧Q ex aS:=by rintro ex ⟨s',ht,hq⟩;obtain⟨g3,k1,k2⟩:=ht GL g2 w' a' h1;exact⟨g3,s',k1,k2 g w (fun b hb=>hr.heap.cR b hb) h2,hq⟩
 cases e with
  |normal=>exact key _ h3
  |exit i=>exact key _ h3
  |ret=>exact key _ h3
  |goto l=>exact h3.elim
  |panic c=>exact h3.elim
  |outgrown=>exact h3.elim
theorem WC.HH{α:Type}(I:α→St)(μ:α→Nat){b:IR}{Q:Ex→St→Prop}(h:∀a,WC P GL b (I a) (fun e aS=>match e with| .normal=>∃a',μ a'<μ a∧au (I a).hp.length aS (I a')|e=>Q e aS))(a:α){σ:St}(h0:au σ.hp.length σ (I a)):WC P GL (.loop b) σ Q:=by
 refine WC.tidy h0 (WC.loop (fun n s=>∃a,μ a=n∧s=I a) ?_ ⟨a,rfl,rfl⟩);rintro n s ⟨a,rfl,rfl⟩;refine WC.post ((h a).mono fun e s' hq=>?_ );cases e with
  |normal=>obtain⟨a',h1,h2⟩:=hq;exact⟨I a',h2,μ a',h1,a',rfl,rfl⟩
  |exit i=>exact⟨s',au.refl _ _,hq⟩
  |ret=>exact⟨s',au.refl _ _,hq⟩
theorem WF.gy{f:FuncId}{args:List V}{H:ai}{Q:V→ai→Prop}(h:WF P GL f args H (fun v H'=>∃aS,au H.length ⟨1,[(0,v)],H'⟩ aS∧Q (get aS.tm 0) aS.hp)):WF P GL f args H Q:=by
 refine⟨h.1,fun g w vs dX hh hg=>(h.2 g w vs dX hh hg).mono ?_ ⟩;rintro e w' ⟨x,v,g',H',rfl,⟨aS,ht,hq⟩,hx,rZ,he⟩;have hr:R GL g' w' ⟨#[x],[]⟩ ⟨1,[(0,v)],H'⟩:=by
  refine⟨rfl,rfl,fun t=>?_,rZ,hg.ext he⟩;cases t with
   |zero=>simpa[get]using hx
   |succ t=>rw[show get [(0,v)] (t+1)=.any from rfl];simp only[RV]
 obtain⟨g2,k1,k2⟩:=ht GL g' w' _ hr;have:=k1.tmps 0;exact⟨x,_,g2,_,rfl,hq,by simpa using this,k1.heap,k2 g w (fun b hb=>hh.cR b hb) he⟩
end
end Fw
/-
  Drawn regions, for symbolic walks.
-/
namespace Fw
open Go
section
variable {P:Program}{GL:cj}
theorem WO.MP{o:ad}{l:List ad}{σ aS:St}{Q:St→Prop}{f:FuncId}{args:List ba}{vs:List V}{v:V}(h:PC P GL f vs v)(ho:o.op=.call f args)(hg:ar o.guard σ.tm=some true)(ha:bh (aX GL σ.tm) args=vs)(hp:σ.put o.dst v σ.hp=some aS)(hq:WO P GL l aS Q):WO P GL (o::l) σ Q:=by subst ha;exact WO.N_ ho hg h hp hq
theorem WO.Ru{o:ad}{l:List ad}{σ:St}{Q:St→Prop}{f:FuncId}{args:List ba}{vs:List V}{R:V→ai→Prop}(h:WF P GL f vs σ.hp R)(ho:o.op=.call f args)(hg:ar o.guard σ.tm=some true)(ha:bh (aX GL σ.tm) args=vs)(hq:∀v H',R v H'→∃aS,σ.put o.dst v H'=some aS∧WO P GL l aS Q):WO P GL (o::l) σ Q:=by subst ha;exact WO.call ho hg (h.mono hq)
theorem WC.once{b:IR}{σ:St}{Q:Ex→St→Prop}(h:WC P GL b σ (fun e s=>match e with| .normal=>False|e=>Q e s)):WC P GL (.loop b) σ Q:=WC.loop (fun n s=>n=0∧s=σ) (by
 rintro n s ⟨rfl,rfl⟩;refine h.mono fun e s' hq=>?_
 cases e with
  |normal=>exact hq.elim
  |exit i=>exact hq
  |ret=>exact hq) ⟨rfl,rfl⟩
theorem WC.Dh{aA:aU}{l:List ad}{σ:St}{qs:List (((V×Wr)×List Nat)×Option V)}{Q:Ex→St→Prop}(hm:P.follows .mixedOrders=true)(hp:bu P GL aA)(h:u9 GL aA σ.hp.length 0 l (ca σ l.length)=some qs)(eF:c6 l (qs.map (·.1))=true)(dY:eZ σ.n l=true)(px:dT (σ.hp.length+l.length) (qs.map (·.1))=true)(hq:Q .normal (aB (fun _=>true) 0 l (qs.map (·.1)) (ca σ l.length))):WC P GL (.draw l) σ Q:=by refine tH (aA:=aA) hm hp (aS:=aB (fun _=>true) 0 l (qs.map (·.1)) (ca σ l.length)) ?_ hq;unfold nz;simp only[h,eF,dY,px,abk,aaH]
end
mutual
theorem iI{n m:Nat}(h:n≤m):∀{u:V},aq n u=true→aq m u=true
 | .ptr b _ _,hh=>by simp only[aq,aaT]at hh⊢;omega
 | .sl b _ _ _ _,hh=>by simp only[aq,aaT]at hh⊢;omega
 | .map b,hh=>by simp only[aq,aaT]at hh⊢;omega
 | .iter b _,hh=>by simp only[aq,aaD,aaT]at hh⊢;omega
 | .func _ a c,hh=>by simp only[aq,aaD]at hh⊢;exact⟨bC h hh.1,bC h hh.2⟩
 | .iface _ v,hh=>by simp only[aq]at hh⊢;exact iI h hh
 | .agg cs,hh=>by simp only[aq]at hh⊢;exact bC h hh
 | .tuple cs,hh=>by simp only[aq]at hh⊢;exact bC h hh
 | .any,_=>rfl
 | .d _,_=>rfl
 | .ab,_=>rfl
 | .jU,_=>rfl
 | .ct _,_=>rfl
 | .mf,_=>rfl
 | .nK,_=>rfl
 | .cd,_=>rfl
 | .gX,_=>rfl
theorem bC{n m:Nat}(h:n≤m):∀{us:List V},an n us=true→an m us=true|[],_=>rfl|v::vs,hh=>by simp only[an,aaD]at hh⊢;exact⟨iI h hh.1,bC h hh.2⟩
end
mutual
theorem kX{S:List Nat}:∀{u:V},aq 0 u=true→dU S u=u
 | .ptr b _ _,hh=>by simp[aq,aaT]at hh
 | .sl b _ _ _ _,hh=>by simp[aq,aaT]at hh
 | .map b,hh=>by simp[aq,aaT]at hh
 | .iter b _,hh=>by simp[aq,aaD,aaT]at hh
 | .func _ a c,hh=>by simp only[aq,aaD]at hh;simp only[dU,eK hh.1,eK hh.2]
 | .iface _ v,hh=>by simp only[aq]at hh;simp only[dU,kX hh]
 | .agg cs,hh=>by simp only[aq]at hh;simp only[dU,eK hh]
 | .tuple cs,hh=>by simp only[aq]at hh;simp only[dU,eK hh]
 | .any,_=>rfl
 | .d _,_=>rfl
 | .ab,_=>rfl
 | .jU,_=>rfl
 | .ct _,_=>rfl
 | .mf,_=>rfl
 | .nK,_=>rfl
 | .cd,_=>rfl
 | .gX,_=>rfl
theorem eK{S:List Nat}:∀{us:List V},an 0 us=true→fE S us=us|[],_=>rfl|v::vs,hh=>by simp only[an,aaD]at hh;simp only[fE,kX hh.1,eK hh.2]
end
theorem fV(n:Nat)(tm:List (Nat×V))(H0 H:ai)(d:Nat)(v:V):St.fu ⟨n,tm,H0⟩ (some d) v H=⟨n,put tm d v,H⟩:=rfl
theorem fW(n:Nat)(tm:List (Nat×V))(H0 H:ai)(v:V):St.fu ⟨n,tm,H0⟩ none v H=⟨n,tm,H⟩:=rfl
end Fw
/-
  A row of which nothing is kept but its room.
-/
namespace Fw
open Go
theorem au.shrink{h sz:Nat}{cs:List V}:au 0 ⟨1,[(0,.sl 0 h 0 0 sz)],[some (.cells cs)]⟩ ⟨1,[(0,.sl 1 0 0 0 sz)],[none,some (.cells [])]⟩∨cs.length≠h:=by
 by_cases hl:cs.length=h
 ·left;intro GL g w a hr;have HI:aE [some (.cells cs)] 0=some (.cells cs):=rfl;obtain⟨gb,En⟩:=hr.heap.back 0 _ HI;obtain⟨hd,y,hy,C'⟩:=hr.heap.live 0 gb En;rw[HI]at hy;simp only[aaC]at hy;subst hy;cases gb with
   |nil=>simp only[RB]at C'
   |obj=>simp only[RB]at C'
   |cells aT cp cur=>
    have hx:=hr.tmps 0;simp only[get,aa0,aaH,RV]at hx;have u5:=hx.2 _ En;have bS:=C'.lt aT rfl;simp only[RB]at C';obtain⟨r1,r2,r3,c,e,r4,r5,r6⟩:=C';obtain⟨cap,k1,k2,k3⟩:=u5.2 (by omega);let g':G:=⟨fun b=>g.cR b∨b=1,fun b=>if b=1 then some (.cells aT cp 0)else none,g.fo⟩;have hZ:∀k,dq g w k→dq g' w k:=fun k hk=>
     ⟨hk.1,hk.2.1,fun b x hx iT=>by
      simp only[g']at hx;split at hx
      ·simp only[aaC]at hx;subst hx;exact hk.2.2 0 _ En iT
      ·cases hx⟩
    have WE:∀b,g.γ b=none∨b=0:=fun b=>by
     cases hb:g.γ b with
      |none=>exact .inl rfl
      |some x=>obtain⟨_,y,hy,_⟩:=hr.heap.live b x hb;have:=jZ hy;simp at this;exact .inr this
    refine⟨g',⟨hr.defers,hr.size,fun t=>?_,⟨fun b hb=>?_,fun b x hx=>?_,fun b y hy=>?_,fun b b' x x' k hx g_ _ _=>?_,fun k hk=>⟨(hr.heap.fo k hk).1,fun b x hx iT=>?_ ⟩⟩,⟨fun n cs hn=>⟨hZ _ (hr.eg.rd n cs hn).1,dx.keeps (im:=dq g w) (uZ:=dq g' w) (fun k hk=>⟨hZ k hk,rfl⟩) (hr.eg.rd n cs hn).1 _ _ (hr.eg.rd n cs hn).2⟩,fun k hk=>⟨hZ _ (hr.eg.w0 k hk).1,(hr.eg.w0 k hk).2⟩⟩⟩,fun g0 w0 gY he=>?_ ⟩
    ·cases t with
      |zero=>simp only[get,aa0,aaH,RV];refine⟨⟨hx.1.1,.inr rfl⟩,fun x hx=>?_ ⟩;simp only[g',abv,aaC]at hx;subst hx;exact⟨aaQ _,fun _=>⟨cap,k1,k2,k3⟩⟩
      |succ t=>rw[show get [(0,V.sl 1 0 0 0 sz)] (t+1)=.any from rfl];simp only[RV]
    ·rcases hb with hb|rfl
     ·have:=hr.heap.cR b hb;simp at this⊢;omega
     ·simp
    ·simp only[g']at hx;split at hx
     ·rename_i C3;subst C3;simp only[aaC]at hx;subst hx;refine⟨.inr rfl,.cells [],rfl,?_⟩;simp only[RB,abl];exact⟨trivial,rfl,acb _,c,e,r4,r5,by simp[aV]⟩
     ·cases hx
    ·have C3:b=1:=by
      match b,hy with
       |0,hy=>simp[aE]at hy
       |1,_=>rfl
       |b+2,hy=>simp[aE]at hy
     subst C3;exact⟨_,rfl⟩
    ·simp only[g']at hx g_;split at hx
     ·split at g_
      ·omega
      ·cases g_
     ·cases hx
    ·simp only[g']at hx;split at hx
     ·simp only[aaC]at hx;subst hx;exact(hr.heap.fo k hk).2 0 _ En iT
     ·cases hx
    ·refine⟨he.os,he.tape,he.output,he.size,fun k hk=>⟨hZ k (he.keeps k hk).1,(he.keeps k hk).2⟩,fun b hb=>absurd (gY b hb) (by omega),fun b hb=>absurd (gY b hb) (by omega),he.fo,he.eQ⟩
 ·exact .inr hl
end Fw
/-
  An empty row of data may be nil or not: a comparison with nil goes on for both answers.
-/
namespace Fw
open Go
section
variable {P:Program}{GL:cj}
theorem PC.ofE{f:FuncId}{args:List V}{v:V}(hd:an 0 args=true)(h:WF P GL f args [] (fun r H'=>(r=.ab∧v=.d (.list []))∨gk H' r=some v)):PC P GL f args v:=by
 refine⟨h.1,fun g w vs dX C1 jx hg=>?_ ⟩;let g0:G:=⟨fun _=>False,fun _=>none,fun k=>g.fo k∨∃b x,g.γ b=some x∧x.own=some k⟩;have hZ:∀k,dq g w k↔dq g0 w k:=by
  intro k;constructor
  ·rintro⟨h1,h2,h3⟩;refine⟨h1,?_,fun b x hx=>by cases hx⟩;rintro(h4|⟨b,x,h4,h5⟩)
   ·exact h2 h4
   ·exact h3 b x h4 h5
  ·rintro⟨h1,h2,_⟩;exact⟨h1,fun h4=>h2 (.inl h4),fun b x hx hk=>h2 (.inr ⟨b,x,hx,hk⟩)⟩
 have nV:nY 0 g g0 w:=⟨fun b hb=>by omega,fun b hb=>by omega,fun k hk=>(hZ k).1 hk⟩;have hH:az g0 w []:=by
  refine⟨fun b hb=>hb.elim,fun b x hx=>(by cases hx),fun b y hy=>(by simp[aE]at hy),fun b b' x x' k hx=>(by cases hx),fun k hk=>⟨?_,fun b x hx=>(by cases hx)⟩⟩;rcases hk with hk|⟨b,x,hx,hk⟩
  ·exact C1 k hk
  ·exact jx b x k hx hk
 have hG:gn GL g0 w:=⟨fun n cs hn=>⟨(hZ n).1 (hg.rd n cs hn).1,dx.keeps nV.keeps (hg.rd n cs hn).1 _ _ (hg.rd n cs hn).2⟩,fun k hk=>⟨(hZ k).1 (hg.w0 k hk).1,(hg.w0 k hk).2⟩⟩;refine(h.2 g0 w vs (aV.agree nV _ _ hd dX) hH hG).mono ?_;rintro e w' ⟨x,r,g',H',rfl,y9,hx,rZ,he⟩;have vF:∀k,y6 g' w' k→dq g w' k:=by rintro k ⟨h1,h2⟩;rw[he.fo]at h2;exact⟨h1,fun h3=>h2 (.inl h3),fun b x hx hk=>h2 (.inr ⟨b,x,hx,hk⟩)⟩
 refine⟨x,rfl,?_,⟨he.os,he.tape,he.output,he.size,fun k hk=>?_,fun _ h=>h,fun _ _=>GB.step.refl _,rfl,fun k hk=>he.eQ k (.inl hk)⟩,fun b y k hy hk=>he.eQ k (.inr ⟨b,y,hy,hk⟩)⟩
 ·rcases y9 with⟨rfl,rfl⟩|y9
  ·simp only[RV]at hx⊢;simp only[Rd];exact .inl ⟨trivial,.inl hx⟩
  ·exact y8 rZ vF y9 hx
 obtain⟨h1,h2⟩:=he.keeps k ((hZ k).1 hk);exact⟨⟨h1.1,hk.2.1,hk.2.2⟩,h2⟩
theorem xj{op:Op}{x' y':ba}(h:bD P op=some (.eq false .slice x' y')):∃t x y yt e,op=.binOp .eql t x y yt∧P.underlying t=some (.slice e)∧av x=some x'∧av y=some y':=by
 cases op with
  |binOp op t x y yt=>
   simp only[bD]at h;split at h
   ·rename_i x2 y2 hx hy;split at h
    ·split at h;case h_5 e hu=>simp only[aaC,kI.eq.injEq,true_and]at h;obtain⟨rfl,rfl⟩:=h;exact⟨t,x,y,yt,e,rfl,hu,hx,hy⟩
     all_goals exfalso
     all_goals (repeat' split at h)<;>simp at h
    ·exfalso;(repeat' split at h)<;>simp at h
    ·exfalso;simp at h
   ·cases h
  |call c=>exfalso;simp only[bD]at h;unfold dR at h;(repeat' split at h)<;>simp at h
  |makeFunc fn a b=>exfalso;cases fn<;>(simp only[bD]at h;(repeat' split at h)<;>simp at h)
  |makeMap t r=>exfalso;cases r<;>(simp only[bD]at h;simp at h)
  |slice t x lo hi mx=>exfalso;cases mx<;>(simp only[bD]at h;(repeat' split at h)<;>simp at h)
  |_=>exfalso;simp only[bD]at h;(repeat' split at h)<;>simp at h
theorem WO.sK{o:ad}{l:List ad}{σ:St}{Q:St→Prop}{x y:ba}(ho:o.op=.eq false .slice x y)(hg:ar o.guard σ.tm=some true)(hx:aX GL σ.tm x=.d (.list []))(hy:aX GL σ.tm y=.ab)(h:∀b,∃aS,σ.put o.dst (.d (.bool b)) σ.hp=some aS∧WO P GL l aS Q):WO P GL (o::l) σ Q:=by
 refine WO.step fun o' ops eH lz dY g w a hr K Q' hK=>?_
 rw[dk hr lz hg,aaP rfl];obtain⟨t,ox,oy,yt,e,mJ,hu,hcx,hcy⟩:=xj (eR (by rw[eH,ho]) (by simp));have cK:=hr.ev _ _ hcx;have dW:=hr.ev _ _ hcy;rw[hx]at cK;rw[hy]at dW;simp only[RV,Rd]at cK dW;have key:∃b,(execOp a.eval o').run P w=.ok (.value (.bool b)) w:=by
  have hsl:∃p l c,a.eval ox=.slice p l c:=by rcases cK with⟨_,cK|⟨_,_,cK⟩⟩|⟨aT,off,cap,sz,cK,_⟩<;>exact⟨_,_,_,cK⟩
  obtain⟨p,ln,c,hs⟩:=hsl;have heq:(Op.equal t (a.eval ox) (a.eval oy)).run P w=.ok p.isNone w:=by rw[hs,dW];exact eu fun d=>by cases p<;>simp[Op.equalIn,run_underlying hu]
  have Rv:(eqGuard .eql t ox oy (a.eval ox) (a.eval oy)).run P w=.ok () w:=by rw[hs,dW];unfold eqGuard;simp
  refine⟨p.isNone,?_⟩;rw[hs,dW]at heq Rv;simp[execOp,mJ,hs,dW,heq,Rv,binOp]
 obtain⟨b,hb⟩:=key;obtain⟨aS,hp,hw⟩:=h b;unfold Oper.wp;rw[hb];simp only[Oper.upon];rw[dY];exact hK g w _ aS (hr.gv (cr.refl _ _) hr.heap hp (RV.Ee _)) (cr.refl _ _) hw
end
end Fw
