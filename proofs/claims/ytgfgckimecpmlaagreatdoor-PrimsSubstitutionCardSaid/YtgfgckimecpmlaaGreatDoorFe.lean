/-
  The machine's steps, told for simp.
-/
import Derived.Test.YtgfgckimecpmlaaGreatDoorFd
import Derived.Below
import Derived.Sort.Grow
import Derived.Deep.Draws
import Derived.Sort.Row
set_option linter.unusedSimpArgs false
set_option maxHeartbeats 1000000
set_option linter.unusedVariables false
namespace Fw
open Go
theorem az(s t:Nat)(u:V)(l:List (Nat×V)):get ((s,u)::l) t=if s=t then u else get l t:=by
 simp only[get];by_cases h:s=t
 ·subst h;simp
 ·rw[aal h];have:Nat.beq s t=false:=by
   cases hb:Nat.beq s t with
    |false=>rfl
    |true=>exact absurd (aah hb) h
  rw[this];rfl
theorem aM(s t:Nat)(u v:V)(l:List (Nat×V)):put ((s,u)::l) t v=if s=t then(t,v)::l else if t≤s then(t,v)::(s,u)::l else(s,u)::put l t v:=by
 simp only[put];by_cases h:s=t
 ·subst h;simp
 ·rw[aal h];have:Nat.beq s t=false:=by
   cases hb:Nat.beq s t with
    |false=>rfl
    |true=>exact absurd (aah hb) h
  rw[this];by_cases h2:t≤s
  ·rw[aan h2,aba h2];rfl
  ·rw[aal h2];have:Nat.ble t s=false:=by
    cases hb:Nat.ble t s with
     |false=>rfl
     |true=>exact absurd (aak hb) h2
   rw[this];rfl
theorem aV(t:Nat)(v:V):put [] t v=[(t,v)]:=rfl
theorem aC(n:Nat)(tm:List (Nat×V))(H0 H:ah)(d:Nat)(v:V):St.put ⟨n,tm,H0⟩ (some d) v H=if d<n then some ⟨n,put tm d v,H⟩else none:=by
 simp only[St.put];by_cases h:d<n
 ·rw[aan h];have:Nat.blt d n=true:=by simpa[aas]using h
  rw[this];rfl
 ·rw[aal h];have:Nat.blt d n=false:=by
   cases hb:Nat.blt d n with
    |false=>rfl
    |true=>exact absurd (by simpa[aas]using hb) h
  rw[this];rfl
theorem b6(n:Nat)(tm:List (Nat×V))(H0 H:ah)(v:V):St.put ⟨n,tm,H0⟩ none v H=some ⟨n,tm,H⟩:=rfl
theorem eo(a b:Nat):Nat.beq a b=decide (a=b):=by
 cases hb:Nat.beq a b with
  |true=>simp[aah hb]
  |false=>
   have:a≠b:=by rintro rfl;simp at hb
   simp[this]
theorem nE(a b:Nat):Nat.ble a b=decide (a≤b):=by
 cases hb:Nat.ble a b with
  |true=>simp[aak hb]
  |false=>
   have:¬a≤b:=fun h=>by rw[aba h]at hb;cases hb
   simp[this]
theorem iw(a b:Nat):Nat.blt a b=decide (a<b):=by show Nat.ble (a+1) b=_;rw[nE];rfl
section
variable {GL:ca}{call:a6}
end
end Fw
/-
  From the shelf's contracts to calls that touch nothing.
-/
namespace Fw
open Go Go.RowKit
section
variable {P:Program}{GL:ca}
theorem PC.eW{f:FuncId}{args:List V}{v:V}(wO:aq P f=true)(h:∀g w (vs:Array Value),aP g w args vs.toList→f_ GL g w→Calls P f vs w fun e w'=>∃x,e=.returned x∧Below w.heap.size w w'∧((∀k,da g w k→da g w' k)→(∀k,w.heap.size≤k→k<w'.heap.size→da g w' k)→RV g w' v x)):PC P GL f args v:=by
 refine⟨wO,fun g w vs dI B9 jt hg=>(h g w vs dI hg).mono ?_ ⟩;rintro e w' ⟨x,rfl,hb,hx⟩;have yx:∀k,da g w k→da g w' k:=fun k hk=>⟨aa0 hk.1 hb.size,hk.2⟩
 have AU:∀k,w.heap.size≤k→k<w'.heap.size→da g w' k:=fun k h1 h2=>⟨h2,fun hf=>by have:=B9 k hf;omega,fun b y hy hk=>by have:=jt b y k hy hk;omega⟩
 exact⟨x,rfl,hx yx AU,⟨hb.os,hb.tape,hb.output,hb.size,fun k hk=>⟨yx k hk,hb.block k hk.1⟩,fun _ h=>h,fun _ _=>GB.step.refl _,rfl,fun k hk=>hb.block k (B9 k hk)⟩,fun b y k hy hk=>hb.block k (jt b y k hy hk)⟩
theorem Below.Cp(w:World)(n:Nat):Below w.heap.size w (w.drewN n):=⟨rfl,rfl,rfl,aao _,fun _ _=>rfl⟩
theorem Below.MT{w a:World}(h:Below w.heap.size w a)(os:Array Obj):Below w.heap.size w (Go.Sort.grow a os):=h.trans ⟨rfl,rfl,rfl,by simp[Go.Sort.grow],fun k hk=>by have:=h.size;simp only[Go.Sort.grow];rw[abY (by omega)]⟩
theorem aP.Cq{g:G}{w:World}{l:List Value}(h:aP g w [] l):l=[]:=by
 cases l with
  |nil=>rfl
  |cons=>simp only[aP]at h
theorem aP.cons_inv{g:G}{w:World}{u:V}{us:List V}{l:List Value}(h:aP g w (u::us) l):∃v vs,l=v::vs∧RV g w u v∧aP g w us vs:=by
 cases l with
  |nil=>simp only[aP]at h
  |cons v vs=>simp only[aP]at h;exact⟨v,vs,rfl,h.1,h.2⟩
theorem aP.sd{g:G}{w:World}{u:V}{vs:Array Value}(h:aP g w [u] vs.toList):∃x,vs= #[x]∧RV g w u x:=by obtain⟨x,l,e,h1,h2⟩:=h.cons_inv;rw[h2.Cq]at e;exact⟨x,abh.1 (by simpa using e),h1⟩
theorem aP.h_{g:G}{w:World}{u u':V}{vs:Array Value}(h:aP g w [u,u'] vs.toList):∃x y,vs= #[x,y]∧RV g w u x∧RV g w u' y:=by obtain⟨x,l,e,h1,h2⟩:=h.cons_inv;obtain⟨y,l',e',h3,h4⟩:=h2.cons_inv;rw[h4.Cq]at e';rw[e']at e;exact⟨x,y,abh.1 (by simpa using e),h1,h3⟩
theorem RV.cQ{g:G}{w:World}{s:List UInt8}{x:Value}(h:RV g w (.d (.str s)) x):∃b:ByteArray,x=.string b∧b.data.toList=s:=by simpa only[RV,Rd]using h
theorem RV.Cr{g:G}{w:World}{k:IntKind}{n:Int}{x:Value}(h:RV g w (.d (.int k n)) x):x=.int k n:=by simpa only[RV,Rd]using h
theorem RV.mE{g:G}{w:World}(l:List UInt8):RV g w (.d (.str l)) (.string ⟨l.toArray⟩):=by simp only[RV,Rd];exact⟨_,rfl,by simp⟩
def di(l:List (List UInt8)):D:=.list (l.map fun s=>[.str s])
theorem iG.strs{w:World}{im:Nat→Prop}{aO sz:Nat}:∀{l:List (List UInt8)}{off:Nat},iG w im aO off sz (l.map fun s=>[.str s])→l≠[]→sz=1∧∃xs:List ByteArray,xs.map (fun b=>b.data.toList)=l∧∀(j:Nat) b,xs[j]? =some b→w.cell? ⟨aO,off+j,none⟩=some (.string b)
 |[],_,_,h=>absurd rfl h
 |s::l,off,h,_=>by
  simp only[aax,iG,aav,aaY,dh]at h;obtain⟨h1,⟨⟨v,h2,h3⟩,-⟩,h4⟩:=h;simp only[Rd]at h3;obtain⟨b,rfl,hb⟩:=h3;obtain rfl:sz=1:=by omega
  refine⟨rfl,?_⟩;by_cases hl:l=[]
  ·subst hl;refine⟨[b],by simp[hb],fun j x hx=>?_ ⟩;cases j with
    |zero=>simp at hx;subst hx;simpa using h2
    |succ j=>simp at hx
  ·obtain⟨-,xs,k1,k2⟩:=iG.strs h4 hl;refine⟨b::xs,by simp[hb,k1],fun j x hx=>?_ ⟩;cases j with
    |zero=>simp at hx;subst hx;simpa using h2
    |succ j=>simp at hx;have:=k2 j x hx;rwa[show off+1+j=off+(j+1) by omega]at this
theorem RV.GH{g:G}{w:World}{l:List (List UInt8)}{x:Value}(h:RV g w (.d (di l)) x):(l=[]∧∃a c,x=.slice a 0 c)∨∃aO off cap,∃xs:List ByteArray,l≠[]∧x=.slice (some ⟨aO,off,none⟩) xs.length cap∧xs.length≤cap∧aO<w.heap.size∧xs.map (fun b=>b.data.toList)=l∧∀(j:Nat) b,xs[j]? =some b→w.cell? ⟨aO,off+j,none⟩=some (.string b):=by
 simp only[RV,di,Rd,List.map_eq_nil_iff,aar]at h;rcases h with⟨h1,h2|⟨_,_,h2⟩⟩|⟨aO,off,cap,sz,h1,h2,h3,h4⟩
 ·exact .inl ⟨h1,_,_,h2⟩
 ·exact .inl ⟨h1,_,_,h2⟩
 ·by_cases hl:l=[]
  ·subst hl;exact .inl ⟨rfl,_,_,h1⟩
  ·obtain⟨rfl,xs,k1,k2⟩:=iG.strs h4 hl;have hlen:xs.length=l.length:=by rw[←k1];simp
   exact .inr ⟨aO,off,cap,xs,hl,by rw[hlen];exact h1,by omega,(h3 (by simpa using hl)).1,k1,k2⟩
theorem iG.Cs{w:World}{im:Nat→Prop}{aO:Nat}:∀{xs:List ByteArray}{off:Nat},(∀(j:Nat) b,xs[j]? =some b→w.cell? ⟨aO,off+j,none⟩=some (.string b))→iG w im aO off 1 (xs.map fun b=>[.str b.data.toList])
 |[],_,_=>by simp only[ac',iG]
 |b::xs,off,h=>by simp only[aax,iG,aav,aaY,dh,Rd];refine⟨trivial,⟨⟨_,by simpa using h 0 b rfl,b,rfl,rfl⟩,trivial⟩,iG.Cs fun j x hx=>?_ ⟩;have:=h (j+1) x (by simpa using hx);rwa[show off+1+j=off+(j+1) by omega]
theorem RV.yX{g:G}{w:World}(xs:List ByteArray)(t:TypeId)(fz:Nat×Nat)(n:Nat)(hn:n=xs.length)(sN:da g (w.alloc (.cells (xs.map Value.string).toArray t fz)) w.heap.size):RV g (w.alloc (.cells (xs.map Value.string).toArray t fz)) (.d (di (xs.map fun b=>b.data.toList))) (.slice (some ⟨w.heap.size,0,none⟩) n n):=by
 subst hn;simp only[RV,di,Rd,List.map_map,aar];refine .inr ⟨w.heap.size,0,xs.length,1,rfl,aao _,fun _=>sN,?_ ⟩;refine iG.Cs (xs:=xs) fun j b hb=>?_
 simp only[World.cell?,bS];simp[hb]
end
end Fw
/-
  Operations up to a call; a sort of an own row of strings.
-/
namespace Fw
open Go Go.RowKit
section
variable {P:Program}{GL:ca}
theorem WO.pre{own:List Nat}{call:a6}(hc:bH P GL call):∀{l l2:List ad}{σ aL:St}{Q:St→Prop},cH own GL call l σ=some aL→WO P GL l2 aL Q→WO P GL (l++l2) σ Q
 |[],l2,σ,aL,Q,h,hq=>by simp only[cH,aab]at h;subst h;exact hq
 |o::l,l2,σ,aL,Q,h,hq=>by
  rw[abo];simp only[cH]at h;split at h
  ·cases h
  ·rename_i hg;split at h
   ·rename_i vc h1;exact WO.skip hg h1 (WO.pre hc h hq)
   ·cases h
  ·rename_i hg;split at h
   ·rename_i f args ho;split at h
    ·rename_i v H' cl;split at h
     ·rename_i vc h1;refine WO.call ho hg ((hc _ _ _ _ _ cl).mono ?_ );rintro r hp ⟨rfl,rfl⟩;exact⟨vc,h1,WO.pre hc h hq⟩
     ·cases h
    ·cases h
   ·rename_i x args ho;split at h
    ·rename_i f first cap hx
     split at h
     ·rename_i v H' cl;split at h
      ·rename_i vc h1;refine WO.e_ ho hx hg ((hc _ _ _ _ _ cl).mono ?_ );rintro r hp ⟨rfl,rfl⟩;exact⟨vc,h1,WO.pre hc h hq⟩
      ·cases h
     ·cases h
    ·cases h
   ·split at h
    ·rename_i v he;split at h
     ·rename_i vc h1;refine WO.fS hg ?_ h1 (WO.pre hc h hq);unfold bB at he;split at he
      ·rename_i heq;cases hi:nM o.dst own with
        |true=>rw[hi]at he;cases he
        |false=>rw[hi]at he;exact he
      ·cases he
     ·cases h
    ·split at h
     ·rename_i v wr he;split at h
      ·rename_i vc h1;exact WO.bu hg he h1 (WO.pre hc h hq)
      ·cases h
     ·cases h
theorem WO.UH(k:Nat){own:List Nat}{call:a6}(hc:bH P GL call){l:List ad}{σ aL:St}{Q:St→Prop}(h:cH own GL call (l.take k) σ=some aL)(h2:WO P GL (l.drop k) aL Q):WO P GL l σ Q:=by have:=WO.pre hc h h2;rwa[abx]at this
def TA(_:FuncId)(_:List V)(_:ah):Option (V×ah):=none
def P0(_:FuncId)(_:List V):Option V:=none
theorem A9:bH P GL TA:=by intro f a H v H' h;cases h
theorem qh:bt P GL P0:=by intro f a v h;cases h
theorem WC.gM{own:List Nat}{l:List ad}{σ aL:St}{Q:Ex→St→Prop}(h:cH own GL TA l σ=some aL)(hq:Q .normal aL):WC P GL (.region l) σ Q:=WC.region (lz A9 h hq)
theorem WC.JF(k:Nat){own:List Nat}{l:List ad}{σ aL:St}{Q:Ex→St→Prop}(h:cH own GL TA (l.take k) σ=some aL)(hq:WO P GL (l.drop k) aL fun σ=>Q .normal σ):WC P GL (.region l) σ Q:=WC.region (WO.UH k A9 h hq)
theorem WO.MU{o:ad}{l:List ad}{σ aL:St}{Q:St→Prop}{f:FuncId}{args:List a_}{v:V}(ho:o.op=.call f args)(hg:ao o.guard σ.tm=some true)(h:PC P GL f (bd (aU GL σ.tm) args) v)(hp:σ.put o.dst v σ.hp=some aL)(hq:WO P GL l aL Q):WO P GL (o::l) σ Q:=WO.call ho hg (WF.DR h ⟨aL,hp,hq⟩)
theorem GI(H:ah)(l:ah)(b:Nat):aA (H++l) b=if b<H.length then aA H b else aA l (b - H.length):=by
 induction H generalizing b with
  |nil=>simp
  |cons x H ih=>
   cases b with
    |zero=>simp[aA]
    |succ b=>simp only[abo,aA,ih,aav,Nat.add_lt_add_iff_right,Nat.add_sub_add_right]
end
end Fw
/-
  A call that is handed some of the caller's boxes: proved over these boxes alone, it holds whatever other boxes there are.
-/
namespace Fw
open Go
mutual
def dt(S:List Nat):V→V| .ptr c h off=>.ptr (S.getD c 0) h off| .sl c h off len sz=>.sl (S.getD c 0) h off len sz| .map c=>.map (S.getD c 0)| .iter c m=>.iter (S.getD c 0) (S.getD m 0)| .func f a c=>.func f (eX S a) (eX S c)| .iface t v=>.iface t (dt S v)| .agg cs=>.agg (eX S cs)| .tuple vs=>.tuple (eX S vs)|v=>v
def eX(S:List Nat):List V→List V|[]=>[]|v::vs=>dt S v::eX S vs
end
def cy(S:List Nat):dU→dU
 | .cells cs=>.cells (eX S cs)
 | .map es=>.map (es.map fun p=>(p.1,dt S p.2))
 | .dC m n seen=>.dC (S.getD m 0) n seen
 |x=>x
theorem q_(S:List Nat):∀(l:List V),(eX S l).length=l.length|[]=>rfl|_::l=>by simp[eX,q_ S l]
theorem GJ(S:List Nat)(u:V):dE (dt S u)=dE u:=by cases u<;>rfl
theorem yY(S:List Nat):∀(l:List V),(eX S l).all dE=l.all dE|[]=>rfl|v::l=>by simp[eX,GJ,yY S l]
structure Sub (S:List Nat) (g0 g:G) (w:World):Prop where
 cK:∀i,i<S.length→(g0.cK i↔g.cK (S.getD i 0))
 γ:∀i,i<S.length→g0.γ i=g.γ (S.getD i 0)
 da:∀k,da g0 w k↔da g w k
mutual
theorem RV.uA{S:List Nat}{g0 g:G}{w:World}(h:Sub S g0 g w):∀(u:V)(v:Value),an S.length u=true→(RV g w (dt S u) v↔RV g0 w u v)
 | .any,_,_=>by simp only[dt,RV]
 | .d x,v,_=>by simp only[dt,RV];exact⟨Rd.keeps (fun k hk=>⟨(h.da k).2 hk,rfl⟩) _ _,Rd.keeps (fun k hk=>⟨(h.da k).1 hk,rfl⟩) _ _⟩
 | .ab,_,_=>by simp only[dt,RV]
 | .ptr b hh off,v,hn=>by simp only[an,aas]at hn;simp only[dt,RV,h.cK b hn,h.γ b hn]
 | .ji,_,_=>by simp only[dt,RV]
 | .cA cs,v,_=>by
  simp only[dt,RV];constructor
  ·rintro⟨aO,off,h1,h2,h3⟩;refine⟨aO,off,h1,fun hn=>(h.da _).2 (h2 hn),?_ ⟩;cases cs with
    |nil=>simp only[dh]
    |cons c cs=>exact dh.keeps (im:=da g w) (uF:=da g0 w) (fun k hk=>⟨(h.da k).2 hk,rfl⟩) (h2 (by simp)) _ _ h3
  ·rintro⟨aO,off,h1,h2,h3⟩;refine⟨aO,off,h1,fun hn=>(h.da _).1 (h2 hn),?_ ⟩;cases cs with
    |nil=>simp only[dh]
    |cons c cs=>exact dh.keeps (im:=da g0 w) (uF:=da g w) (fun k hk=>⟨(h.da k).1 hk,rfl⟩) (h2 (by simp)) _ _ h3
 | .sl b hh off len sz,v,hn=>by simp only[an,aas]at hn;simp only[dt,RV,h.cK b hn,h.γ b hn]
 | .map b,v,hn=>by simp only[an,aas]at hn;simp only[dt,RV,h.cK b hn,h.γ b hn]
 | .kV,_,_=>by simp only[dt,RV]
 | .func f a c,v,hn=>by
  simp only[an,aac]at hn;simp only[dt,RV];constructor
  ·rintro⟨x,y,h1,h2,h3⟩;exact⟨x,y,h1,(aP.uA h _ _ hn.1).1 h2,(aP.uA h _ _ hn.2).1 h3⟩
  ·rintro⟨x,y,h1,h2,h3⟩;exact⟨x,y,h1,(aP.uA h _ _ hn.1).2 h2,(aP.uA h _ _ hn.2).2 h3⟩
 | .mh,_,_=>by simp only[dt,RV]
 | .iface t u,v,hn=>by
  simp only[an]at hn;simp only[dt,RV];constructor
  ·rintro⟨x,h1,h2⟩;exact⟨x,h1,(RV.uA h _ _ hn).1 h2⟩
  ·rintro⟨x,h1,h2⟩;exact⟨x,h1,(RV.uA h _ _ hn).2 h2⟩
 | .bX,_,_=>by simp only[dt,RV]
 | .gD,_,_=>by simp only[dt,RV]
 | .agg cs,v,hn=>by
  simp only[an]at hn;simp only[dt,RV];constructor
  ·rintro⟨x,h1,h2⟩;exact⟨x,h1,(aP.uA h _ _ hn).1 h2⟩
  ·rintro⟨x,h1,h2⟩;exact⟨x,h1,(aP.uA h _ _ hn).2 h2⟩
 | .tuple vs,v,hn=>by
  simp only[an]at hn;simp only[dt,RV];constructor
  ·rintro⟨x,h1,h2⟩;exact⟨x,h1,(aP.uA h _ _ hn).1 h2⟩
  ·rintro⟨x,h1,h2⟩;exact⟨x,h1,(aP.uA h _ _ hn).2 h2⟩
 | .iter b m,v,hn=>by simp only[an,aac,aas]at hn;simp only[dt,RV,h.cK b hn.1,h.γ b hn.1]
theorem aP.uA{S:List Nat}{g0 g:G}{w:World}(h:Sub S g0 g w):∀(us:List V)(vs:List Value),ak S.length us=true→(aP g w (eX S us) vs↔aP g0 w us vs)
 |[],[],_=>by simp only[eX,aP]
 |u::us,v::vs,hn=>by simp only[ak,aac]at hn;simp only[eX,aP,RV.uA h _ _ hn.1,aP.uA h _ _ hn.2]
 |[],_::_,_=>by simp only[eX,aP]
 |_::_,[],_=>by simp only[eX,aP]
end
theorem RB.uA{S:List Nat}{g0 g:G}{w:World}(h:Sub S g0 g w){x:GB}{y:dU}(hy:cu S.length y=true):RB g w x (cy S y)↔RB g0 w x y:=by
 cases x with
  |cells aO cp cur=>
   cases y with
    |cells cs=>simp only[cu]at hy;simp only[cy,RB,q_,yY,aP.uA h _ _ hy]
    |_=>simp only[cy,RB]
  |nil=>cases y<;>simp only[cy,RB]
  |obj aO=>
   cases y with
    |map es=>
     simp only[cu,aaq]at hy;simp only[cy,RB,aar];constructor
     ·rintro⟨bN,clock,h1,h2,h3,h4⟩;refine⟨bN,clock,h1,h2,fun i k v hi=>?_,h4⟩;obtain⟨z,z1,z2,z3,z4⟩:=h3 i k (dt S v) (by simp[hi]);exact⟨z,z1,z2,Rd.keeps (fun k hk=>⟨(h.da k).2 hk,rfl⟩) _ _ z3,(RV.uA h _ _ (hy _ (aap hi))).1 z4⟩
     ·rintro⟨bN,clock,h1,h2,h3,h4⟩;refine⟨bN,clock,h1,h2,fun i k v hi=>?_,h4⟩;simp only[aaO,aad,aae]at hi;obtain⟨⟨k',v'⟩,ld,rfl,rfl⟩:=hi;obtain⟨z,z1,z2,z3,z4⟩:=h3 i k' v' ld;exact⟨z,z1,z2,Rd.keeps (fun k hk=>⟨(h.da k).1 hk,rfl⟩) _ _ z3,(RV.uA h _ _ (hy _ (aap ld))).2 z4⟩
    |dC m n seen=>simp only[cu,aas]at hy;simp only[cy,RB,h.cK m hy,h.γ m hy]
    |_=>simp only[cy,RB]
theorem pa{S:List Nat}(hn:S.Nodup){i j:Nat}(hi:i<S.length)(hj:j<S.length)(h:S.getD i 0=S.getD j 0):i=j:=by
 rw[aaD,aaD,aaf hi,aaf hj]at h;simp only[aaN]at h;have hp:=List.pairwise_iff_getElem.1 hn;rcases ac6 i j with bL|he|bL
 ·exact absurd h (hp i j hi hj bL)
 ·exact he
 ·exact absurd h.symm (hp j i hj hi bL)
def d_(S:List Nat)(H':ah)(i:Nat):List Nat→ah→ah|[],H=>H|b::bs,H=>d_ S H' (i+1) bs (match aA H' i with|some y=>bj H b (cy S y)|none=>H.set b none)
theorem nQ(H:ah)(b c:Nat):aA (H.set b none) c=if c=b then none else aA H c:=by
 induction H generalizing b c with
  |nil=>simp[aA]
  |cons z H ih=>
   cases b with
    |zero=>cases c<;>simp[aA]
    |succ b=>cases c<;>simp[aA,ih]
theorem ja(S:List Nat)(H':ah):∀(bs:List Nat)(i:Nat)(H:ah)(c:Nat),bs.Nodup→aA (d_ S H' i bs H) c=match bs.idxOf? c with|some j=>(aA H' (i+j)).map (cy S)|none=>aA H c
 |[],i,H,c,_=>by simp[d_]
 |b::bs,i,H,c,hn=>by
  simp only[d_];rw[ja S H' bs (i+1) _ c (acb.1 hn).2];by_cases hc:b=c
  ·subst hc;have:bs.idxOf? b=none:=abB.2 (acb.1 hn).1;simp only[this,List.idxOf?_cons,beq_self_eq_true,aa4,abk];cases aA H' i with
    |some y=>simp[er]
    |none=>simp[nQ]
  ·have e:(b==c)=false:=by simpa using hc
   simp only[List.idxOf?_cons,e,aa8,abt];cases hb:bs.idxOf? c with
    |some j=>simp only[aat];congr 2;omega
    |none=>
     simp only[abC];cases aA H' i with
      |some y=>simp[er,ack hc]
      |none=>simp[nQ,ack hc]
theorem mF(S:List Nat)(H':ah):∀(bs:List Nat)(i:Nat)(H:ah),H.length≤(d_ S H' i bs H).length
 |[],_,_=>aao _
 |b::bs,i,H=>by
  simp only[d_];refine aa_ ?_ (mF S H' bs (i+1) _);split
  ·exact(jP H b _).1
  ·simp
section
variable {P:Program}{GL:ca}
theorem lA{S:List Nat}{c j:Nat}(h:S.idxOf? c=some j):j<S.length∧S.getD j 0=c:=by
 have h1:S[j]? =some c:=by
  induction S generalizing j with
   |nil=>simp at h
   |cons b S ih=>
    rw[List.idxOf?_cons]at h;by_cases hb:(b==c)=true
    ·rw[aan hb]at h;simp only[aab]at h;subst h;simpa using hb
    ·rw[aal hb]at h;simp only[aad]at h;obtain⟨k,hk,rfl⟩:=h;simpa using ih hk
 exact⟨(aai.1 h1).1,by rw[aaD,h1];rfl⟩
theorem WF.frame{f:FuncId}{mG:List V}{H0:ah}{Q0:V→ah→Prop}(S:List Nat){H:ah}{Q:V→ah→Prop}(h:WF P GL f mG H0 Q0)(hn:S.Nodup)(hl:H0.length=S.length)(ha:ak S.length mG=true)(TB:aG S.length H0=true)(hb:∀i,i<S.length→∃y,aA H0 i=some y∧aA H (S.getD i 0)=some (cy S y))(hq:∀v H',Q0 v H'→H'.length=S.length∧an S.length v=true∧aG S.length H'=true∧Q (dt S v) (d_ S H' 0 S H)):WF P GL f (eX S mG) H Q:=by
 refine⟨h.1,fun g w vs dI hh hg=>?_ ⟩;have Zr:∀i,i<S.length→S.getD i 0<H.length:=fun i hi=>by obtain⟨y,_,h2⟩:=hb i hi;exact jO h2
 let g0:G:=⟨fun i=>i<S.length∧g.cK (S.getD i 0),fun i=>if i<S.length then g.γ (S.getD i 0)else none,fun k=>g.fo k∨∃b x,b∉S∧g.γ b=some x∧x.own=some k⟩;have GK:∀i,i<S.length→S.getD i 0∈S:=fun i hi=>by rw[aaD,aaf hi];exact abg hi
 have rF:∀b,b∈S→∃i,i<S.length∧S.getD i 0=b:=fun b hb=>by obtain⟨i,hi,rfl⟩:=List.getElem_of_mem hb;exact⟨i,hi,by rw[aaD,aaf hi];rfl⟩
 have gW:∀k,da g0 w k↔da g w k:=by
  intro k;constructor
  ·rintro⟨h1,h2,h3⟩;refine⟨h1,fun hf=>h2 (.inl hf),fun b x hx hk=>?_ ⟩;by_cases kU:b∈S
   ·obtain⟨i,hi,rfl⟩:=rF b kU;exact h3 i x (by show(if i<S.length then _ else _)=_;rw[aan hi];exact hx) hk
   ·exact h2 (.inr ⟨b,x,kU,hx,hk⟩)
  ·rintro⟨h1,h2,h3⟩;refine⟨h1,?_,fun i x hx hk=>?_ ⟩
   ·rintro(hf|⟨b,x,_,hx,hk⟩)
    ·exact h2 hf
    ·exact h3 b x hx hk
   ·simp only[g0]at hx;split at hx
    ·exact h3 _ x hx hk
    ·cases hx
 have JG:Sub S g0 g w:=⟨fun i hi=>⟨fun h=>h.2,fun h=>⟨hi,h⟩⟩,fun i hi=>by show(if i<S.length then _ else _)=_;rw[aan hi],gW⟩;have jt:∀b x k,g.γ b=some x→x.own=some k→k<w.heap.size:=RV.eB hh;have MV:av g0 w H0:=by
  refine⟨fun i hi=>by rw[hl];exact hi.1,fun i x hx=>?_,fun i y hy=>?_,fun i i' x x' k hx gS hk iO=>?_,fun k hk=>⟨?_,fun i x hx iO=>?_ ⟩⟩
  ·simp only[g0]at hx;split at hx
   ·rename_i hi;obtain⟨h1,y,h2,h3⟩:=hh.live _ x hx;obtain⟨y0,k1,k2⟩:=hb i hi;rw[h2]at k2;simp only[aab]at k2;subst k2;exact⟨⟨hi,h1⟩,y0,k1,(RB.uA JG (fC TB k1)).1 h3⟩
   ·cases hx
  ·have hi:i<S.length:=by rw[←hl];exact jO hy
   obtain⟨y0,k1,k2⟩:=hb i hi;obtain⟨x,hx⟩:=hh.back _ _ k2;exact⟨x,by show(if i<S.length then _ else _)=_;rw[aan hi];exact hx⟩
  ·simp only[g0]at hx gS;split at hx
   ·rename_i hi;split at gS
    ·rename_i ld;exact pa hn hi ld (hh.inj _ _ x x' k hx gS hk iO)
    ·cases gS
   ·cases hx
  ·rcases hk with hk|⟨b,x,_,hx,hk⟩
   ·exact(hh.fo k hk).1
   ·exact jt b x k hx hk
  ·simp only[g0]at hx;split at hx
   ·rename_i hi;rcases hk with hk|⟨b,x2,kU,wM,va⟩
    ·exact(hh.fo k hk).2 _ x hx iO
    ·have:=hh.inj _ b x x2 k hx wM iO va;exact kU (by rw[←this];exact GK i hi)
   ·cases hx
 have hG:f_ GL g0 w:=⟨fun n cs hn=>⟨(gW n).2 (hg.rd n cs hn).1,dh.keeps (im:=da g w) (uF:=da g0 w) (fun k hk=>⟨(gW k).2 hk,rfl⟩) (hg.rd n cs hn).1 _ _ (hg.rd n cs hn).2⟩,fun k hk=>⟨(gW k).2 (hg.w0 k hk).1,(hg.w0 k hk).2⟩⟩;refine(h.2 g0 w vs ((aP.uA JG _ _ ha).1 dI) MV hG).mono ?_;rintro e w' ⟨x,v,GM,H',rfl,Zs,hx,pZ,he⟩;obtain⟨q1,q2,q3,q4⟩:=hq v H' Zs;let g':G:=⟨g.cK,fun b=>match S.idxOf? b with|some i=>GM.γ i|none=>g.γ b,g.fo⟩;have yg:∀i,i<S.length→g'.γ (S.getD i 0)=GM.γ i:=fun i hi=>by
  simp only[g'];cases hc:S.idxOf? (S.getD i 0)with
   |none=>exact absurd (GK i hi) (abB.1 hc)
   |some j=>obtain⟨k1,k2⟩:=lA hc;rw[pa hn k1 hi k2]
 have wZ:∀b,b∉S→g'.γ b=g.γ b:=fun b kU=>by simp only[g'];rw[abB.2 kU]
 have GN:∀k,GM.fo k↔(g.fo k∨∃b x,b∉S∧g.γ b=some x∧x.own=some k):=fun k=>by rw[he.fo]
 have P1:∀i,i<S.length→g.cK (S.getD i 0)→GM.cK i:=fun i hi hd=>he.cK i ⟨hi,hd⟩
 have MW:∀i x,GM.γ i=some x→i<S.length:=fun i x hx=>by obtain⟨_,y,h2,_⟩:=pZ.live i x hx;rw[←q1];exact jO h2
 have vh:∀k,da GM w' k↔da g' w' k:=by
  intro k;constructor
  ·rintro⟨h1,h2,h3⟩;rw[GN]at h2;refine⟨h1,fun hf=>h2 (.inl hf),fun b x hx hk=>?_ ⟩;by_cases kU:b∈S
   ·obtain⟨i,hi,rfl⟩:=rF b kU;rw[yg i hi]at hx;exact h3 i x hx hk
   ·rw[wZ b kU]at hx;exact h2 (.inr ⟨b,x,kU,hx,hk⟩)
  ·rintro⟨h1,h2,h3⟩;refine⟨h1,?_,fun i x hx hk=>?_ ⟩
   ·rw[GN];rintro(hf|⟨b,x,kU,hx,hk⟩)
    ·exact h2 hf
    ·exact h3 b x (by rw[wZ b kU];exact hx) hk
   ·have hi:=MW i x hx;exact h3 (S.getD i 0) x (by rw[yg i hi];exact hx) hk
 have yC:ch g w g' w':=by
  refine⟨he.os,he.tape,he.output,he.size,fun k hk=>?_,fun _ h=>h,fun b hb=>?_,rfl,fun k hk=>he.eD k (.inl hk)⟩
  ·obtain⟨h1,h2⟩:=he.keeps k ((gW k).2 hk);exact⟨(vh k).1 h1,h2⟩
  ·by_cases kU:b∈S
   ·obtain⟨i,hi,rfl⟩:=rF b kU;rw[yg i hi];have:=he.step i ⟨hi,hb⟩;simp only[g0,hi,aa4]at this;exact this
   ·rw[wZ b kU];exact GB.step.refl _
 have GO:Sub S GM g' w':=by refine⟨fun i hi=>⟨fun hd=>?_,fun hd=>P1 i hi hd⟩,fun i hi=>(yg i hi).symm,vh⟩;obtain⟨y,_,k2⟩:=hb i hi;obtain⟨x,hx⟩:=hh.back _ _ k2;exact(hh.live _ x hx).1
 have UI:∀b x k,b∉S→g.γ b=some x→x.own=some k→w'.heap[k]? =w.heap[k]? :=fun b x k kU hx hk=>he.eD k (.inr ⟨b,x,kU,hx,hk⟩)
 refine⟨x,dt S v,g',_,rfl,q4,(RV.uA GO _ _ q2).2 hx,?_,yC⟩;refine⟨fun b hb=>aa0 (hh.cK b hb) (mF S H' S 0 H),fun b x hx=>?_,fun b y hy=>?_,fun b b' x x' k hx gS hk iO=>?_,fun k hk=>⟨aa0 (hh.fo k hk).1 he.size,fun b x hx iO=>?_ ⟩⟩
 ·by_cases kU:b∈S
  ·obtain⟨i,hi,rfl⟩:=rF b kU;rw[yg i hi]at hx;obtain⟨h1,y,h2,h3⟩:=pZ.live i x hx;have hd:g.cK (S.getD i 0):=(GO.cK i hi).1 h1;have OP:S.idxOf? (S.getD i 0)=some i:=by
    cases hc:S.idxOf? (S.getD i 0)with
     |none=>exact absurd (GK i hi) (abB.1 hc)
     |some j=>obtain⟨k1,k2⟩:=lA hc;rw[pa hn k1 hi k2]
   refine⟨hd,cy S y,?_,(RB.uA GO (fC q3 h2)).2 h3⟩;rw[ja S H' S 0 H _ hn,OP];simp[h2]
  ·rw[wZ b kU]at hx;obtain⟨h1,y,h2,h3⟩:=hh.live b x hx;refine⟨h1,y,?_,RB.ext yC (fun k hk=>UI b x k kU hx hk) h3⟩;rw[ja S H' S 0 H _ hn,abB.2 kU];exact h2
 ·rw[ja S H' S 0 H _ hn]at hy;cases hc:S.idxOf? b with
   |some i=>rw[hc]at hy;simp only[aau,aad]at hy;obtain⟨y0,Jl,rfl⟩:=hy;obtain⟨x,hx⟩:=pZ.back i y0 Jl;obtain⟨k1,k2⟩:=lA hc;exact⟨x,by rw[←k2,yg i k1];exact hx⟩
   |none=>rw[hc]at hy;obtain⟨x,hx⟩:=hh.back b y hy;exact⟨x,by rw[wZ b (abB.1 hc)];exact hx⟩
 ·by_cases kU:b∈S
  ·obtain⟨i,hi,rfl⟩:=rF b kU;rw[yg i hi]at hx;by_cases DS:b'∈S
   ·obtain⟨i',ld,rfl⟩:=rF b' DS;rw[yg i' ld]at gS;rw[pZ.inj i i' x x' k hx gS hk iO]
   ·rw[wZ b' DS]at gS;exact absurd hk ((pZ.fo k ((GN k).2 (.inr ⟨b',x',DS,gS,iO⟩))).2 i x hx)
  ·rw[wZ b kU]at hx;by_cases DS:b'∈S
   ·obtain⟨i',ld,rfl⟩:=rF b' DS;rw[yg i' ld]at gS;exact absurd iO ((pZ.fo k ((GN k).2 (.inr ⟨b,x,kU,hx,hk⟩))).2 i' x' gS)
   ·rw[wZ b' DS]at gS;exact hh.inj b b' x x' k hx gS hk iO
 ·by_cases kU:b∈S
  ·obtain⟨i,hi,rfl⟩:=rF b kU;rw[yg i hi]at hx;exact(pZ.fo k ((GN k).2 (.inl hk))).2 i x hx iO
  ·rw[wZ b kU]at hx;exact(hh.fo k hk).2 b x hx iO
end
end Fw
/-
  Tidying: slots forgotten, boxes dropped or frozen; loops over tidied states.
-/
namespace Fw
open Go
def ar(m:Nat)(σ aL:St):Prop:=∀(GL:ca)(g:G)(w:World)(a:Act),R GL g w a σ→∃g',R GL g' w a aL∧∀(g0:G)(w0:World),(∀b,g0.cK b→b<m)→ch g0 w0 g w→ch g0 w0 g' w
theorem ar.refl(m:Nat)(σ:St):ar m σ σ:=fun _ g _ _ h=>⟨g,h,fun _ _ _ he=>he⟩
theorem ar.trans{m:Nat}{a b c:St}(h:ar m a b)(k:ar m b c):ar m a c:=fun GL g w rX hr=>by obtain⟨g1,h1,h2⟩:=h GL g w rX hr;obtain⟨g2,h3,h4⟩:=k GL g1 w rX h1;exact⟨g2,h3,fun g0 w0 hd he=>h4 g0 w0 hd (h2 g0 w0 hd he)⟩
theorem ar.clean{m n:Nat}{b9:List Nat}{σ aL:St}(hn:m≤n)(h:b_ b9 n σ=some aL):ar m σ aL:=fun _ g _ _ hr=>⟨g.cut n,hr.clean h,fun _ _ hd he=>he.cut fun b hb=>aa0 (hd b hb) hn⟩
theorem ar.nL{m b:Nat}{σ aL:St}(h:iQ b σ=some aL):ar m σ aL:=fun _ g _ _ hr=>⟨g.del b,hr.nL h,fun g0 w0 _ he=>ch.nL g0 w0 he⟩
section
variable {P:Program}{GL:ca}
theorem WC.tidy{c:IR}{σ aL:St}{Q:Ex→St→Prop}(ht:ar σ.hp.length σ aL)(h:WC P GL c aL Q):WC P GL c σ Q:=by intro code sS g w a hr;obtain⟨g',h1,h2⟩:=ht GL g w a hr;exact wp_mono (h code sS g' w a h1) (cr.ext (h2 g w (fun b hb=>hr.heap.cK b hb) (ch.refl _ _)))
theorem WC.post{c:IR}{σ:St}{Q:Ex→St→Prop}(h:WC P GL c σ (fun e s=>∃s',ar σ.hp.length s s'∧Q e s')):WC P GL c σ Q:=by
 intro code hc g w a hr;refine wp_mono (h code hc g w a hr) fun e a' w' hp=>?_
 obtain⟨g2,sO,h1,h2,h3⟩:=hp;have key:∀ex,(∃s',ar σ.hp.length sO s'∧Q ex s')→∃g3 aL,R GL g3 w' a' aL∧ch g w g3 w'∧Q ex aL:=by rintro ex ⟨s',ht,hq⟩;obtain⟨g3,k1,k2⟩:=ht GL g2 w' a' h1;exact⟨g3,s',k1,k2 g w (fun b hb=>hr.heap.cK b hb) h2,hq⟩
 cases e with
  |normal=>exact key _ h3
  |exit i=>exact key _ h3
  |ret=>exact key _ h3
  |goto l=>exact h3.elim
  |panic c=>exact h3.elim
  |outgrown=>exact h3.elim
theorem WC.GP{α:Type}(I:α→St)(μ:α→Nat){b:IR}{Q:Ex→St→Prop}(h:∀a,WC P GL b (I a) (fun e aL=>match e with| .normal=>∃a',μ a'<μ a∧ar (I a).hp.length aL (I a')|e=>Q e aL))(a:α){σ:St}(h0:ar σ.hp.length σ (I a)):WC P GL (.loop b) σ Q:=by
 refine WC.tidy h0 (WC.loop (fun n s=>∃a,μ a=n∧s=I a) ?_ ⟨a,rfl,rfl⟩);rintro n s ⟨a,rfl,rfl⟩;refine WC.post ((h a).mono fun e s' hq=>?_ );cases e with
  |normal=>obtain⟨a',h1,h2⟩:=hq;exact⟨I a',h2,μ a',h1,a',rfl,rfl⟩
  |exit i=>exact⟨s',ar.refl _ _,hq⟩
  |ret=>exact⟨s',ar.refl _ _,hq⟩
theorem WF.fw{f:FuncId}{args:List V}{H:ah}{Q:V→ah→Prop}(h:WF P GL f args H (fun v H'=>∃aL,ar H.length ⟨1,[(0,v)],H'⟩ aL∧Q (get aL.tm 0) aL.hp)):WF P GL f args H Q:=by
 refine⟨h.1,fun g w vs dI hh hg=>(h.2 g w vs dI hh hg).mono ?_ ⟩;rintro e w' ⟨x,v,g',H',rfl,⟨aL,ht,hq⟩,hx,pZ,he⟩;have hr:R GL g' w' ⟨#[x],[]⟩ ⟨1,[(0,v)],H'⟩:=by
  refine⟨rfl,rfl,fun t=>?_,pZ,hg.ext he⟩;cases t with
   |zero=>simpa[get]using hx
   |succ t=>rw[show get [(0,v)] (t+1)=.any from rfl];simp only[RV]
 obtain⟨g2,k1,k2⟩:=ht GL g' w' _ hr;have:=k1.tmps 0;exact⟨x,_,g2,_,rfl,hq,by simpa using this,k1.heap,k2 g w (fun b hb=>hh.cK b hb) he⟩
end
end Fw
/-
  Drawn regions, for symbolic walks.
-/
namespace Fw
open Go
section
variable {P:Program}{GL:ca}
theorem WO.Lq{o:ad}{l:List ad}{σ aL:St}{Q:St→Prop}{f:FuncId}{args:List a_}{vs:List V}{v:V}(h:PC P GL f vs v)(ho:o.op=.call f args)(hg:ao o.guard σ.tm=some true)(ha:bd (aU GL σ.tm) args=vs)(hp:σ.put o.dst v σ.hp=some aL)(hq:WO P GL l aL Q):WO P GL (o::l) σ Q:=by subst ha;exact WO.MU ho hg h hp hq
theorem WO.P2{o:ad}{l:List ad}{σ:St}{Q:St→Prop}{f:FuncId}{args:List a_}{vs:List V}{R:V→ah→Prop}(h:WF P GL f vs σ.hp R)(ho:o.op=.call f args)(hg:ao o.guard σ.tm=some true)(ha:bd (aU GL σ.tm) args=vs)(hq:∀v H',R v H'→∃aL,σ.put o.dst v H'=some aL∧WO P GL l aL Q):WO P GL (o::l) σ Q:=by subst ha;exact WO.call ho hg (h.mono hq)
theorem WC.once{b:IR}{σ:St}{Q:Ex→St→Prop}(h:WC P GL b σ (fun e s=>match e with| .normal=>False|e=>Q e s)):WC P GL (.loop b) σ Q:=WC.loop (fun n s=>n=0∧s=σ) (by
 rintro n s ⟨rfl,rfl⟩;refine h.mono fun e s' hq=>?_
 cases e with
  |normal=>exact hq.elim
  |exit i=>exact hq
  |ret=>exact hq) ⟨rfl,rfl⟩
theorem WC.Ct{aw:aT}{l:List ad}{σ:St}{qs:List (((V×Wr)×List Nat)×Option V)}{Q:Ex→St→Prop}(hm:P.follows .mixedOrders=true)(hp:bt P GL aw)(h:uL GL aw σ.hp.length 0 l (b8 σ l.length)=some qs)(eF:cT l (qs.map (·.1))=true)(dN:eO σ.n l=true)(o9:dK (σ.hp.length+l.length) (qs.map (·.1))=true)(hq:Q .normal (ax (fun _=>true) 0 l (qs.map (·.1)) (b8 σ l.length))):WC P GL (.draw l) σ Q:=by refine s_ (aw:=aw) hm hp (aL:=ax (fun _=>true) 0 l (qs.map (·.1)) (b8 σ l.length)) ?_ hq;unfold ni;simp only[h,eF,dN,o9,aaR,aag]
end
mutual
theorem iy{n m:Nat}(h:n≤m):∀{u:V},an n u=true→an m u=true
 | .ptr b _ _,hh=>by simp only[an,aas]at hh⊢;omega
 | .sl b _ _ _ _,hh=>by simp only[an,aas]at hh⊢;omega
 | .map b,hh=>by simp only[an,aas]at hh⊢;omega
 | .iter b _,hh=>by simp only[an,aac,aas]at hh⊢;omega
 | .func _ a c,hh=>by simp only[an,aac]at hh⊢;exact⟨bC h hh.1,bC h hh.2⟩
 | .iface _ v,hh=>by simp only[an]at hh⊢;exact iy h hh
 | .agg cs,hh=>by simp only[an]at hh⊢;exact bC h hh
 | .tuple cs,hh=>by simp only[an]at hh⊢;exact bC h hh
 | .any,_=>rfl
 | .d _,_=>rfl
 | .ab,_=>rfl
 | .ji,_=>rfl
 | .cA _,_=>rfl
 | .kV,_=>rfl
 | .mh,_=>rfl
 | .bX,_=>rfl
 | .gD,_=>rfl
theorem bC{n m:Nat}(h:n≤m):∀{us:List V},ak n us=true→ak m us=true|[],_=>rfl|v::vs,hh=>by simp only[ak,aac]at hh⊢;exact⟨iy h hh.1,bC h hh.2⟩
end
mutual
theorem kH{S:List Nat}:∀{u:V},an 0 u=true→dt S u=u
 | .ptr b _ _,hh=>by simp[an,aas]at hh
 | .sl b _ _ _ _,hh=>by simp[an,aas]at hh
 | .map b,hh=>by simp[an,aas]at hh
 | .iter b _,hh=>by simp[an,aac,aas]at hh
 | .func _ a c,hh=>by simp only[an,aac]at hh;simp only[dt,et hh.1,et hh.2]
 | .iface _ v,hh=>by simp only[an]at hh;simp only[dt,kH hh]
 | .agg cs,hh=>by simp only[an]at hh;simp only[dt,et hh]
 | .tuple cs,hh=>by simp only[an]at hh;simp only[dt,et hh]
 | .any,_=>rfl
 | .d _,_=>rfl
 | .ab,_=>rfl
 | .ji,_=>rfl
 | .cA _,_=>rfl
 | .kV,_=>rfl
 | .mh,_=>rfl
 | .bX,_=>rfl
 | .gD,_=>rfl
theorem et{S:List Nat}:∀{us:List V},ak 0 us=true→eX S us=us|[],_=>rfl|v::vs,hh=>by simp only[ak,aac]at hh;simp only[eX,kH hh.1,et hh.2]
end
theorem fN(n:Nat)(tm:List (Nat×V))(H0 H:ah)(d:Nat)(v:V):St.fc ⟨n,tm,H0⟩ (some d) v H=⟨n,put tm d v,H⟩:=rfl
theorem fO(n:Nat)(tm:List (Nat×V))(H0 H:ah)(v:V):St.fc ⟨n,tm,H0⟩ none v H=⟨n,tm,H⟩:=rfl
end Fw
/-
  A row of which nothing is kept but its room.
-/
namespace Fw
open Go
theorem ar.shrink{h sz:Nat}{cs:List V}:ar 0 ⟨1,[(0,.sl 0 h 0 0 sz)],[some (.cells cs)]⟩ ⟨1,[(0,.sl 1 0 0 0 sz)],[none,some (.cells [])]⟩∨cs.length≠h:=by
 by_cases hl:cs.length=h
 ·left;intro GL g w a hr;have GQ:aA [some (.cells cs)] 0=some (.cells cs):=rfl;obtain⟨gb,DA⟩:=hr.heap.back 0 _ GQ;obtain⟨hd,y,hy,Ci⟩:=hr.heap.live 0 gb DA;rw[GQ]at hy;simp only[aab]at hy;subst hy;cases gb with
   |nil=>simp only[RB]at Ci
   |obj=>simp only[RB]at Ci
   |cells aO cp cur=>
    have hx:=hr.tmps 0;simp only[get,aaz,aag,RV]at hx;have wM:=hx.2 _ DA;have bL:=Ci.lt aO rfl;simp only[RB]at Ci;obtain⟨r1,r2,r3,c,e,r4,r5,r6⟩:=Ci;obtain⟨cap,k1,k2,k3⟩:=wM.2 (by omega);let g':G:=⟨fun b=>g.cK b∨b=1,fun b=>if b=1 then some (.cells aO cp 0)else none,g.fo⟩;have gW:∀k,da g w k→da g' w k:=fun k hk=>
     ⟨hk.1,hk.2.1,fun b x hx iO=>by
      simp only[g']at hx;split at hx
      ·simp only[aab]at hx;subst hx;exact hk.2.2 0 _ DA iO
      ·cases hx⟩
    have UJ:∀b,g.γ b=none∨b=0:=fun b=>by
     cases hb:g.γ b with
      |none=>exact .inl rfl
      |some x=>obtain⟨_,y,hy,_⟩:=hr.heap.live b x hb;have:=jO hy;simp at this;exact .inr this
    refine⟨g',⟨hr.defers,hr.size,fun t=>?_,⟨fun b hb=>?_,fun b x hx=>?_,fun b y hy=>?_,fun b b' x x' k hx gS _ _=>?_,fun k hk=>⟨(hr.heap.fo k hk).1,fun b x hx iO=>?_ ⟩⟩,⟨fun n cs hn=>⟨gW _ (hr.dQ.rd n cs hn).1,dh.keeps (im:=da g w) (uF:=da g' w) (fun k hk=>⟨gW k hk,rfl⟩) (hr.dQ.rd n cs hn).1 _ _ (hr.dQ.rd n cs hn).2⟩,fun k hk=>⟨gW _ (hr.dQ.w0 k hk).1,(hr.dQ.w0 k hk).2⟩⟩⟩,fun g0 w0 gQ he=>?_ ⟩
    ·cases t with
      |zero=>simp only[get,aaz,aag,RV];refine⟨⟨hx.1.1,.inr rfl⟩,fun x hx=>?_ ⟩;simp only[g',aa4,aab]at hx;subst hx;exact⟨aao _,fun _=>⟨cap,k1,k2,k3⟩⟩
      |succ t=>rw[show get [(0,V.sl 1 0 0 0 sz)] (t+1)=.any from rfl];simp only[RV]
    ·rcases hb with hb|rfl
     ·have:=hr.heap.cK b hb;simp at this⊢;omega
     ·simp
    ·simp only[g']at hx;split at hx
     ·rename_i Ca;subst Ca;simp only[aab]at hx;subst hx;refine⟨.inr rfl,.cells [],rfl,?_⟩;simp only[RB,aaY];exact⟨trivial,rfl,abK _,c,e,r4,r5,by simp[aP]⟩
     ·cases hx
    ·have Ca:b=1:=by
      match b,hy with
       |0,hy=>simp[aA]at hy
       |1,_=>rfl
       |b+2,hy=>simp[aA]at hy
     subst Ca;exact⟨_,rfl⟩
    ·simp only[g']at hx gS;split at hx
     ·split at gS
      ·omega
      ·cases gS
     ·cases hx
    ·simp only[g']at hx;split at hx
     ·simp only[aab]at hx;subst hx;exact(hr.heap.fo k hk).2 0 _ DA iO
     ·cases hx
    ·refine⟨he.os,he.tape,he.output,he.size,fun k hk=>⟨gW k (he.keeps k hk).1,(he.keeps k hk).2⟩,fun b hb=>absurd (gQ b hb) (by omega),fun b hb=>absurd (gQ b hb) (by omega),he.fo,he.eD⟩
 ·exact .inr hl
end Fw
/-
  An empty row of data may be nil or not: a comparison with nil goes on for both answers.
-/
namespace Fw
open Go
section
variable {P:Program}{GL:ca}
theorem PC.Zt{f:FuncId}{args:List V}{v:V}(hd:ak 0 args=true)(h:WF P GL f args [] (fun r H'=>(r=.ab∧v=.d (.list []))∨fY H' r=some v)):PC P GL f args v:=by
 refine⟨h.1,fun g w vs dI B9 jt hg=>?_ ⟩;let g0:G:=⟨fun _=>False,fun _=>none,fun k=>g.fo k∨∃b x,g.γ b=some x∧x.own=some k⟩;have gW:∀k,da g w k↔da g0 w k:=by
  intro k;constructor
  ·rintro⟨h1,h2,h3⟩;refine⟨h1,?_,fun b x hx=>by cases hx⟩;rintro(h4|⟨b,x,h4,h5⟩)
   ·exact h2 h4
   ·exact h3 b x h4 h5
  ·rintro⟨h1,h2,_⟩;exact⟨h1,fun h4=>h2 (.inl h4),fun b x hx hk=>h2 (.inr ⟨b,x,hx,hk⟩)⟩
 have nK:nP 0 g g0 w:=⟨fun b hb=>by omega,fun b hb=>by omega,fun k hk=>(gW k).1 hk⟩;have hH:av g0 w []:=by
  refine⟨fun b hb=>hb.elim,fun b x hx=>(by cases hx),fun b y hy=>(by simp[aA]at hy),fun b b' x x' k hx=>(by cases hx),fun k hk=>⟨?_,fun b x hx=>(by cases hx)⟩⟩;rcases hk with hk|⟨b,x,hx,hk⟩
  ·exact B9 k hk
  ·exact jt b x k hx hk
 have hG:f_ GL g0 w:=⟨fun n cs hn=>⟨(gW n).1 (hg.rd n cs hn).1,dh.keeps nK.keeps (hg.rd n cs hn).1 _ _ (hg.rd n cs hn).2⟩,fun k hk=>⟨(gW k).1 (hg.w0 k hk).1,(hg.w0 k hk).2⟩⟩;refine(h.2 g0 w vs (aP.agree nK _ _ hd dI) hH hG).mono ?_;rintro e w' ⟨x,r,g',H',rfl,yQ,hx,pZ,he⟩;have vh:∀k,yN g' w' k→da g w' k:=by rintro k ⟨h1,h2⟩;rw[he.fo]at h2;exact⟨h1,fun h3=>h2 (.inl h3),fun b x hx hk=>h2 (.inr ⟨b,x,hx,hk⟩)⟩
 refine⟨x,rfl,?_,⟨he.os,he.tape,he.output,he.size,fun k hk=>?_,fun _ h=>h,fun _ _=>GB.step.refl _,rfl,fun k hk=>he.eD k (.inl hk)⟩,fun b y k hy hk=>he.eD k (.inr ⟨b,y,hy,hk⟩)⟩
 ·rcases yQ with⟨rfl,rfl⟩|yQ
  ·simp only[RV]at hx⊢;simp only[Rd];exact .inl ⟨trivial,.inl hx⟩
  ·exact yP pZ vh yQ hx
 obtain⟨h1,h2⟩:=he.keeps k ((gW k).1 hk);exact⟨⟨h1.1,hk.2.1,hk.2.2⟩,h2⟩
theorem w3{op:Op}{x' y':a_}(h:bD P op=some (.eq false .slice x' y')):∃t x y yt e,op=.binOp .eql t x y yt∧P.underlying t=some (.slice e)∧au x=some x'∧au y=some y':=by
 cases op with
  |binOp op t x y yt=>
   simp only[bD]at h;split at h
   ·rename_i x2 y2 hx hy;split at h
    ·split at h;case h_5 e hu=>simp only[aab,ki.eq.injEq,true_and]at h;obtain⟨rfl,rfl⟩:=h;exact⟨t,x,y,yt,e,rfl,hu,hx,hy⟩
     all_goals exfalso
     all_goals (repeat' split at h)<;>simp at h
    ·exfalso;(repeat' split at h)<;>simp at h
    ·exfalso;simp at h
   ·cases h
  |call c=>exfalso;simp only[bD]at h;unfold dH at h;(repeat' split at h)<;>simp at h
  |makeFunc fn a b=>exfalso;cases fn<;>(simp only[bD]at h;(repeat' split at h)<;>simp at h)
  |makeMap t r=>exfalso;cases r<;>(simp only[bD]at h;simp at h)
  |slice t x lo hi mx=>exfalso;cases mx<;>(simp only[bD]at h;(repeat' split at h)<;>simp at h)
  |_=>exfalso;simp only[bD]at h;(repeat' split at h)<;>simp at h
theorem WO.se{o:ad}{l:List ad}{σ:St}{Q:St→Prop}{x y:a_}(ho:o.op=.eq false .slice x y)(hg:ao o.guard σ.tm=some true)(hx:aU GL σ.tm x=.d (.list []))(hy:aU GL σ.tm y=.ab)(h:∀b,∃aL,σ.put o.dst (.d (.bool b)) σ.hp=some aL∧WO P GL l aL Q):WO P GL (o::l) σ Q:=by
 refine WO.step fun o' ops ei lh dN g w a hr K Q' hK=>?_
 rw[c6 hr lh hg,aan rfl];obtain⟨t,ox,oy,yt,e,mC,hu,Zu,Zv⟩:=w3 (eE (by rw[ei,ho]) (by simp));have cE:=hr.ev _ _ Zu;have dM:=hr.ev _ _ Zv;rw[hx]at cE;rw[hy]at dM;simp only[RV,Rd]at cE dM;have key:∃b,(execOp a.eval o').run P w=.ok (.value (.bool b)) w:=by
  have Yo:∃p l c,a.eval ox=.slice p l c:=by rcases cE with⟨_,cE|⟨_,_,cE⟩⟩|⟨aO,off,cap,sz,cE,_⟩<;>exact⟨_,_,_,cE⟩
  obtain⟨p,ln,c,hs⟩:=Yo;have heq:(Op.equal t (a.eval ox) (a.eval oy)).run P w=.ok p.isNone w:=by rw[hs,dM];exact dW fun d=>by cases p<;>simp[Op.equalIn,run_underlying hu]
  have P3:(eqGuard .eql t ox oy (a.eval ox) (a.eval oy)).run P w=.ok () w:=by rw[hs,dM];unfold eqGuard;simp
  refine⟨p.isNone,?_⟩;rw[hs,dM]at heq P3;simp[execOp,mC,hs,dM,heq,P3,binOp]
 obtain⟨b,hb⟩:=key;obtain⟨aL,hp,hw⟩:=h b;unfold Oper.wp;rw[hb];simp only[Oper.upon];rw[dN];exact hK g w _ aL (hr.gi (ch.refl _ _) hr.heap hp (RV.Ds _)) (ch.refl _ _) hw
end
end Fw
