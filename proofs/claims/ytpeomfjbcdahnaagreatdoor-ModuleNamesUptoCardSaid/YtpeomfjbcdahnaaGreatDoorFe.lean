/-
  The machine's steps, told for simp.
-/
import Derived.Test.YtpeomfjbcdahnaaGreatDoorFd
import Derived.Below
import Derived.Sort.Grow
import Derived.Deep.Draws
import Derived.Sort.Row
set_option linter.unusedSimpArgs false
set_option maxHeartbeats 1000000
set_option linter.unusedVariables false
namespace Fw
open Go
theorem dy(s t:Nat)(u:V)(l:List (Nat×V)):get ((s,u)::l) t=if s=t then u else get l t:=by
 simp only[get];by_cases h:s=t
 ·subst h;simp
 ·rw[aaH h];have:Nat.beq s t=false:=by
   cases hb:Nat.beq s t with
    |false=>rfl
    |true=>exact absurd (aau hb) h
  rw[this];rfl
theorem lZ(s t:Nat)(u v:V)(l:List (Nat×V)):put ((s,u)::l) t v=if s=t then(t,v)::l else if t<=s then(t,v)::(s,u)::l else(s,u)::put l t v:=by
 simp only[put];by_cases h:s=t
 ·subst h;simp
 ·rw[aaH h];have:Nat.beq s t=false:=by
   cases hb:Nat.beq s t with
    |false=>rfl
    |true=>exact absurd (aau hb) h
  rw[this];by_cases h2:t<=s
  ·rw[aaF h2,abE h2];rfl
  ·rw[aaH h2];have:Nat.ble t s=false:=by
    cases hb:Nat.ble t s with
     |false=>rfl
     |true=>exact absurd (aax hb) h2
   rw[this];rfl
theorem px(t:Nat)(v:V):put [] t v=[(t,v)]:=rfl
theorem bB(n:Nat)(tm:List (Nat×V))(H0 H:an)(d:Nat)(v:V):St.put ⟨n,tm,H0⟩ (some d) v H=if d<n then some ⟨n,put tm d v,H⟩else none:=by
 simp only[St.put];by_cases h:d<n
 ·rw[aaF h];have:Nat.blt d n=true:=by simpa[aaR]using h
  rw[this];rfl
 ·rw[aaH h];have:Nat.blt d n=false:=by
   cases hb:Nat.blt d n with
    |false=>rfl
    |true=>exact absurd (by simpa[aaR]using hb) h
  rw[this];rfl
theorem sM(n:Nat)(tm:List (Nat×V))(H0 H:an)(v:V):St.put ⟨n,tm,H0⟩ none v H=some ⟨n,tm,H⟩:=rfl
theorem LG(a b:Nat):Nat.beq a b=decide (a=b):=by
 cases hb:Nat.beq a b with
  |true=>simp[aau hb]
  |false=>
   have:a≠b:=by rintro rfl;simp at hb
   simp[this]
theorem LH(a b:Nat):Nat.ble a b=decide (a<=b):=by
 cases hb:Nat.ble a b with
  |true=>simp[aax hb]
  |false=>
   have:¬a<=b:=fun h=>by rw[abE h]at hb;cases hb
   simp[this]
theorem Pe(a b:Nat):Nat.blt a b=decide (a<b):=by show Nat.ble (a+1) b=_;rw[LH];rfl
section
variable {GL:bM}{call:aY}
end
end Fw
/-
  From the shelf's contracts to calls that touch nothing.
-/
namespace Fw
open Go Go.RowKit
section
variable {P:Program}{GL:bM}
variable {w:World}{u:V}
theorem PC.dY{f:FuncId}{args:List V}{v:V}(uM:al P f=true)(h:∀g w (vs:Array Value),aN g w args vs.toList->dX GL g w->Calls P f vs w fun e w'=>∃x,e=.returned x/\Below w.heap.size w w'/\((∀k,cl g w k->cl g w' k)->(∀k,w.heap.size<=k->k<w'.heap.size->cl g w' k)->RV g w' v x)):PC P GL f args v:=by
 refine⟨uM,fun g w vs cX Hk gp hg=>(h g w vs cX hg).mono ?_ ⟩;rintro e w' ⟨x,rfl,hb,hx⟩;have xx:∀k,cl g w k->cl g w' k:=fun k hk=>⟨aaX hk.1 hb.size,hk.2⟩
 have zV:∀k,w.heap.size<=k->k<w'.heap.size->cl g w' k:=fun k h1 h2=>⟨h2,fun hf=>by have:=Hk k hf;omega,fun b y hy hk=>by have:=gp b y k hy hk;omega⟩
 exact⟨x,rfl,hx xx zV,⟨hb.os,hb.tape,hb.output,hb.size,fun k hk=>⟨xx k hk,hb.block k hk.1⟩,fun _ h=>h,fun _ _=>GB.step.refl _,rfl,rfl,fun k hk=>hb.block k (Hk k hk)⟩,fun b y k hy hk=>hb.block k (gp b y k hy hk)⟩
theorem Below.By(w:World)(n:Nat):Below w.heap.size w (w.drewN n):=⟨rfl,rfl,rfl,aaC _,fun _ _=>rfl⟩
theorem Below.LI{a:World}(h:Below w.heap.size w a)(os:Array Obj):Below w.heap.size w (Go.Sort.grow a os):=h.trans ⟨rfl,rfl,rfl,by simp[Go.Sort.grow],fun k hk=>by have:=h.size;simp only[Go.Sort.grow];rw[ab4 (by omega)]⟩
theorem aN.Bz{g:G}{l:List Value}(h:aN g w [] l):l=[]:=by
 cases l with
  |nil=>rfl
  |cons=>simp only[aN]at h
theorem aN.cons_inv{g:G}{us:List V}{l:List Value}(h:aN g w (u::us) l):∃v vs,l=v::vs/\RV g w u v/\aN g w us vs:=by
 cases l with
  |nil=>simp only[aN]at h
  |cons v vs=>simp only[aN]at h;exact⟨v,vs,rfl,h.1,h.2⟩
theorem aN.mP{g:G}{vs:Array Value}(h:aN g w [u] vs.toList):∃x,vs= #[x]/\RV g w u x:=by obtain⟨x,l,e,h1,h2⟩:=h.cons_inv;rw[h2.Bz]at e;exact⟨x,aa7.1 (by simpa using e),h1⟩
theorem aN.fH{g:G}{u':V}{vs:Array Value}(h:aN g w [u,u'] vs.toList):∃x y,vs= #[x,y]/\RV g w u x/\RV g w u' y:=by obtain⟨x,l,e,h1,h2⟩:=h.cons_inv;obtain⟨y,l',e',h3,h4⟩:=h2.cons_inv;rw[h4.Bz]at e';rw[e']at e;exact⟨x,y,aa7.1 (by simpa using e),h1,h3⟩
theorem RV.cJ{g:G}{s:List UInt8}{x:Value}(h:RV g w (.d (.str s)) x):∃b:ByteArray,x=.string b/\b.data.toList=s:=by simpa only[RV,Rd]using h
theorem RV.rT{g:G}{k:IntKind}{n:Int}{x:Value}(h:RV g w (.d (.int k n)) x):x=.int k n:=by simpa only[RV,Rd]using h
theorem RV.l5{g:G}(l:List UInt8):RV g w (.d (.str l)) (.string ⟨l.toArray⟩):=by simp only[RV,Rd];exact⟨_,rfl,by simp⟩
def cT(l:List (List UInt8)):D:=.list (l.map fun s=>[.str s])
theorem dR.strs{w:World}{im:Nat->Prop}{aM sz:Nat}:∀{l:List (List UInt8)}{off:Nat},dR w im aM off sz (l.map fun s=>[.str s])->l≠[]->sz=1/\∃xs:List ByteArray,xs.map (fun b=>b.data.toList)=l/\∀(j:Nat) b,xs[j]? =some b->w.cell? ⟨aM,off+j,none⟩=some (.string b)
 |[],_,_,h=>absurd rfl h
 |s::l,off,h,_=>by
  simp only[aaB,dR,aap,aaq,cP]at h;obtain⟨h1,⟨⟨v,h2,h3⟩,-⟩,h4⟩:=h;simp only[Rd]at h3;obtain⟨b,rfl,hb⟩:=h3;obtain rfl:sz=1:=by omega
  refine⟨rfl,?_⟩;by_cases hl:l=[]
  ·subst hl;refine⟨[b],by simp[hb],fun j x hx=>?_ ⟩;cases j with
    |zero=>simp at hx;subst hx;simpa using h2
    |succ j=>simp at hx
  ·obtain⟨-,xs,k1,k2⟩:=dR.strs h4 hl;refine⟨b::xs,by simp[hb,k1],fun j x hx=>?_ ⟩;cases j with
    |zero=>simp at hx;subst hx;simpa using h2
    |succ j=>simp at hx;have:=k2 j x hx;rwa[show off+1+j=off+(j+1) by omega]at this
theorem RV.EY{g:G}{l:List (List UInt8)}{x:Value}(h:RV g w (.d (cT l)) x):(l=[]/\∃a c,x=.slice a 0 c)\/∃aM off cap,∃xs:List ByteArray,l≠[]/\x=.slice (some ⟨aM,off,none⟩) xs.length cap/\xs.length<=cap/\aM<w.heap.size/\xs.map (fun b=>b.data.toList)=l/\∀(j:Nat) b,xs[j]? =some b->w.cell? ⟨aM,off+j,none⟩=some (.string b):=by
 simp only[RV,cT,Rd,acs,aaE]at h;rcases h with⟨h1,h2|⟨_,_,h2⟩⟩|⟨aM,off,cap,sz,h1,h2,h3,h4⟩
 ·exact .inl ⟨h1,_,_,h2⟩
 ·exact .inl ⟨h1,_,_,h2⟩
 ·by_cases hl:l=[]
  ·subst hl;exact .inl ⟨rfl,_,_,h1⟩
  ·obtain⟨rfl,xs,k1,k2⟩:=dR.strs h4 hl;have hlen:xs.length=l.length:=by rw[←k1];simp
   exact .inr ⟨aM,off,cap,xs,hl,by rw[hlen];exact h1,by omega,(h3 (by simpa using hl)).1,k1,k2⟩
theorem dR.BA{w:World}{im:Nat->Prop}{aM:Nat}:∀{xs:List ByteArray}{off:Nat},(∀(j:Nat) b,xs[j]? =some b->w.cell? ⟨aM,off+j,none⟩=some (.string b))->dR w im aM off 1 (xs.map fun b=>[.str b.data.toList])
 |[],_,_=>by simp only[aaZ,dR]
 |b::xs,off,h=>by simp only[aaB,dR,aap,aaq,cP,Rd];refine⟨trivial,⟨⟨_,by simpa using h 0 b rfl,b,rfl,rfl⟩,trivial⟩,dR.BA fun j x hx=>?_ ⟩;have:=h (j+1) x (by simpa using hx);rwa[show off+1+j=off+(j+1) by omega]
theorem RV.x4{g:G}(xs:List ByteArray)(t:TypeId)(fz:Nat×Nat)(n:Nat)(hn:n=xs.length)(nt:cl g (w.alloc (.cells (xs.map Value.string).toArray t fz)) w.heap.size):RV g (w.alloc (.cells (xs.map Value.string).toArray t fz)) (.d (cT (xs.map fun b=>b.data.toList))) (.slice (some ⟨w.heap.size,0,none⟩) n n):=by
 subst hn;simp only[RV,cT,Rd,abY,aaE];refine .inr ⟨w.heap.size,0,xs.length,1,rfl,aaC _,fun _=>nt,?_ ⟩;refine dR.BA (xs:=xs) fun j b hb=>?_
 simp only[World.cell?,bc];simp[hb]
end
end Fw
/-
  Operations up to a call; a sort of an own row of strings.
-/
namespace Fw
open Go Go.RowKit
section
variable {P:Program}{GL:bM}
variable {l:List ab}{σ aS:St}
theorem WO.pre{own:List Nat}{call:aY}(hc:jW P GL call):∀{l l2:List ab}{σ aS:St}{Q:St->Prop},kY own GL call l σ=some aS->WO P GL l2 aS Q->WO P GL (l++l2) σ Q
 |[],l2,σ,aS,Q,h,hq=>by grind[kY,Option.some.injEq]
 |o::l,l2,σ,aS,Q,h,hq=>by
  rw[abI];simp only[kY]at h;split at h
  ·cases h
  ·rename_i hg;split at h
   ·rename_i rO h1;exact WO.skip hg h1 (WO.pre hc h hq)
   ·cases h
  ·rename_i hg;split at h
   ·rename_i f args ho;split at h
    ·rename_i v H' bZ;split at h
     ·rename_i rO h1;refine WO.call ho hg ((hc _ _ _ _ _ bZ).mono ?_ );rintro r hp ⟨rfl,rfl⟩;exact⟨rO,h1,WO.pre hc h hq⟩
     ·cases h
    ·cases h
   ·rename_i x args ho;split at h
    ·rename_i f first cap hx
     split at h
     ·rename_i v H' bZ;split at h
      ·rename_i rO h1;refine WO.bY ho hx hg ((hc _ _ _ _ _ bZ).mono ?_ );rintro r hp ⟨rfl,rfl⟩;exact⟨rO,h1,WO.pre hc h hq⟩
      ·cases h
     ·cases h
    ·cases h
   ·split at h
    ·rename_i v he;split at h
     ·rename_i rO h1;refine WO.jQ hg ?_ h1 (WO.pre hc h hq);unfold nZ at he;grind
     ·cases h
    ·split at h
     ·rename_i v wr he;split at h
      ·rename_i rO h1;exact WO.bt hg he h1 (WO.pre hc h hq)
      ·cases h
     ·cases h
theorem WO.VB(k:Nat){own:List Nat}{call:aY}(hc:jW P GL call){Q:St->Prop}(h:kY own GL call (l.take k) σ=some aS)(h2:WO P GL (l.drop k) aS Q):WO P GL l σ Q:=by have:=WO.pre hc h h2;simp_all
def VC(_:FuncId)(_:List V)(_:an):Option (V×an):=none
theorem EZ:jW P GL VC:=by intro f a H v H' h;cases h
theorem WC.dt{own:List Nat}{Q:Ex->St->Prop}(h:kY own GL VC l σ=some aS)(hq:Q .normal aS):WC P GL (.region l) σ Q:=WC.region (kZ EZ h hq)
theorem WC.VD(k:Nat){own:List Nat}{Q:Ex->St->Prop}(h:kY own GL VC (l.take k) σ=some aS)(hq:WO P GL (l.drop k) aS fun σ=>Q .normal σ):WC P GL (.region l) σ Q:=WC.region (WO.VB k EZ h hq)
theorem WO.LJ{o:ab}{Q:St->Prop}{f:FuncId}{args:List aU}{v:V}(ho:o.op=.call f args)(hg:aB o.guard σ.tm=some true)(h:PC P GL f (bI (aT GL σ.tm) args) v)(hp:σ.put o.dst v σ.hp=some aS)(hq:WO P GL l aS Q):WO P GL (o::l) σ Q:=WO.call ho hg (WF.ES h ⟨aS,hp,hq⟩)
theorem E0(H:an)(l:an)(b:Nat):aC (H++l) b=if b<H.length then aC H b else aC l (b - H.length):=by
 induction H generalizing b with
  |nil=>simp
  |cons x H ih=>
   cases b with
    |zero=>simp[aC]
    |succ b=>simp_all[abI,aC,aap,Nat.add_lt_add_iff_right,Nat.add_sub_add_right]
end
end Fw
/-
  A call that is handed some of the caller's boxes: proved over these boxes alone, it holds whatever other boxes there are.
-/
namespace Fw
open Go
mutual
def db(S:List Nat):V->V| .ptr c h off=>.ptr (S.getD c 0) h off| .sl c h off len sz=>.sl (S.getD c 0) h off len sz| .map c=>.map (S.getD c 0)| .iter c m=>.iter (S.getD c 0) (S.getD m 0)| .gI c=>.gI (S.getD c 0)| .func f a c=>.func f (fI S a) (fI S c)| .iface t v=>.iface t (db S v)| .agg cs=>.agg (fI S cs)| .tuple vs=>.tuple (fI S vs)|v=>v
def fI(S:List Nat):List V->List V|[]=>[]|v::vs=>db S v::fI S vs
end
def dV(S:List Nat):bR->bR
 | .cells cs=>.cells (fI S cs)
 | .map es=>.map (es.map fun p=>(p.1,db S p.2))
 | .bH m n seen=>.bH (S.getD m 0) n seen
 | .loop n tm ps ca cb st=>.loop n (tm.map fun p=>(p.1,db S p.2)) ps ca cb st
 |x=>x
theorem qW(S:List Nat):∀(l:List V),(fI S l).length=l.length|[]=>rfl|_::l=>by simp[fI,qW S l]
theorem E1(S:List Nat)(u:V):eL (db S u)=eL u:=by cases u<;>rfl
theorem x5(S:List Nat):∀(l:List V),(fI S l).all eL=l.all eL|[]=>rfl|v::l=>by simp[fI,E1,x5 S l]
structure Sub (S:List Nat) (g0 g:G) (w:World):Prop where
 cd:∀i,i<S.length->(g0.cd i↔g.cd (S.getD i 0))
 γ:∀i,i<S.length->g0.γ i=g.γ (S.getD i 0)
 cl:∀k,cl g0 w k↔cl g w k
mutual
theorem RV.sO{S:List Nat}{g0 g:G}{w:World}(h:Sub S g0 g w):∀(u:V)(v:Value),aE S.length u=true->(RV g w (db S u) v↔RV g0 w u v)
 | .any,_,_=>by grind[db,RV]
 | .d x,v,_=>by simp only[db,RV];exact⟨Rd.keeps (fun k hk=>⟨(h.cl k).2 hk,rfl⟩) _ _,Rd.keeps (fun k hk=>⟨(h.cl k).1 hk,rfl⟩) _ _⟩
 | .full es,v,_=>by simp only[db,RV];exact⟨fun⟨h1,h2⟩=>⟨Rd.keeps (fun k hk=>⟨(h.cl k).2 hk,rfl⟩) _ _ h1,h2⟩,fun⟨h1,h2⟩=>⟨Rd.keeps (fun k hk=>⟨(h.cl k).1 hk,rfl⟩) _ _ h1,h2⟩⟩
 | .ak,_,_=>by grind[db,RV]
 | .ptr b hh off,v,hn=>by simp only[aE,aaR]at hn;simp only[db,RV,h.cd b hn,h.γ b hn]
 | .lD,_,_=>by grind[db,RV]
 | .aO cs,v,_=>by
  simp only[db,RV];constructor
  ·rintro⟨aM,off,h1,h2,h3⟩;refine⟨aM,off,h1,fun hn=>(h.cl _).2 (h2 hn),?_ ⟩;cases cs with
    |nil=>simp only[cP]
    |cons c cs=>exact cP.keeps (im:=cl g w) (vL:=cl g0 w) (fun k hk=>⟨(h.cl k).2 hk,rfl⟩) (h2 (by simp)) _ _ h3
  ·rintro⟨aM,off,h1,h2,h3⟩;refine⟨aM,off,h1,fun hn=>(h.cl _).1 (h2 hn),?_ ⟩;cases cs with
    |nil=>simp only[cP]
    |cons c cs=>exact cP.keeps (im:=cl g0 w) (vL:=cl g w) (fun k hk=>⟨(h.cl k).1 hk,rfl⟩) (h2 (by simp)) _ _ h3
 | .sl b hh off len sz,v,hn=>by simp only[aE,aaR]at hn;simp only[db,RV,h.cd b hn,h.γ b hn]
 | .map b,v,hn=>by simp only[aE,aaR]at hn;simp only[db,RV,h.cd b hn,h.γ b hn]
 | .kC,_,_=>by grind[db,RV]
 | .func f a c,v,hn=>by
  simp only[aE,aas]at hn;simp only[db,RV];constructor
  ·rintro⟨x,y,h1,h2,h3⟩;exact⟨x,y,h1,(aN.sO h _ _ hn.1).1 h2,(aN.sO h _ _ hn.2).1 h3⟩
  ·rintro⟨x,y,h1,h2,h3⟩;exact⟨x,y,h1,(aN.sO h _ _ hn.1).2 h2,(aN.sO h _ _ hn.2).2 h3⟩
 | .oK,_,_=>by grind[db,RV]
 | .iface t u,v,hn=>by
  simp only[aE]at hn;simp only[db,RV];constructor
  ·rintro⟨x,h1,h2⟩;exact⟨x,h1,(RV.sO h _ _ hn).1 h2⟩
  ·rintro⟨x,h1,h2⟩;exact⟨x,h1,(RV.sO h _ _ hn).2 h2⟩
 | .bz,_,_=>by grind[db,RV]
 | .fy,_,_=>by grind[db,RV]
 | .agg cs,v,hn=>by
  simp only[aE]at hn;simp only[db,RV];constructor
  ·rintro⟨x,h1,h2⟩;exact⟨x,h1,(aN.sO h _ _ hn).1 h2⟩
  ·rintro⟨x,h1,h2⟩;exact⟨x,h1,(aN.sO h _ _ hn).2 h2⟩
 | .tuple vs,v,hn=>by
  simp only[aE]at hn;simp only[db,RV];constructor
  ·rintro⟨x,h1,h2⟩;exact⟨x,h1,(aN.sO h _ _ hn).1 h2⟩
  ·rintro⟨x,h1,h2⟩;exact⟨x,h1,(aN.sO h _ _ hn).2 h2⟩
 | .iter b m,v,hn=>by simp only[aE,aaR]at hn;simp only[db,RV,h.cd b hn,h.γ b hn]
 | .gI b,v,hn=>by simp only[aE,aaR]at hn;simp only[db,RV,h.cd b hn,h.γ b hn]
theorem aN.sO{S:List Nat}{g0 g:G}{w:World}(h:Sub S g0 g w):∀(us:List V)(vs:List Value),aJ S.length us=true->(aN g w (fI S us) vs↔aN g0 w us vs)
 |[],[],_=>by grind[fI,aN]
 |u::us,v::vs,hn=>by simp only[aJ,aas]at hn;simp only[fI,aN,RV.sO h _ _ hn.1,aN.sO h _ _ hn.2]
 |[],_::_,_=>by grind[fI,aN]
 |_::_,[],_=>by grind[fI,aN]
end
theorem RB.sO{S:List Nat}{g0 g:G}{w:World}(h:Sub S g0 g w){x:GB}{y:bR}(hy:dq S.length y=true):RB g w x (dV S y)↔RB g0 w x y:=by
 cases x with
  |cells aM cp cur=>
   cases y with
    |cells cs=>simp only[dq]at hy;simp only[dV,RB,qW,x5,aN.sO h _ _ hy]
    |_=>grind[dV,RB]
  |nil=>cases y<;>simp only[dV,RB]
  |obj aM=>
   cases y with
    |map es=>
     simp only[dq,aaJ]at hy;simp only[dV,RB,aaE];constructor
     ·rintro⟨bA,clock,h1,h2,h3,h4⟩;refine⟨bA,clock,h1,h2,fun i k v hi=>?_,h4⟩;obtain⟨z,z1,z2,z3,z4⟩:=h3 i k (db S v) (by simp[hi]);exact⟨z,z1,z2,Rd.keeps (fun k hk=>⟨(h.cl k).2 hk,rfl⟩) _ _ z3,(RV.sO h _ _ (hy _ (aat hi))).1 z4⟩
     ·rintro⟨bA,clock,h1,h2,h3,h4⟩;refine⟨bA,clock,h1,h2,fun i k v hi=>?_,h4⟩;simp only[aa4,aaA,aav]at hi;obtain⟨⟨k',v'⟩,jZ,rfl,rfl⟩:=hi;obtain⟨z,z1,z2,z3,z4⟩:=h3 i k' v' jZ;exact⟨z,z1,z2,Rd.keeps (fun k hk=>⟨(h.cl k).1 hk,rfl⟩) _ _ z3,(RV.sO h _ _ (hy _ (aat jZ))).2 z4⟩
    |bH m n seen=>simp only[dq,aaR]at hy;simp only[dV,RB,h.cd m hy,h.γ m hy]
    |loop k tm ps ca cb st=>simp only[dV,RB,iE (db S) rfl,fun t v=>RV.sO (g:=g) (w:=w) h (get tm t) v (xR t hy)]
    |_=>grind[dV,RB]
theorem sP{S:List Nat}(hn:S.Nodup){i j:Nat}(hi:i<S.length)(hj:j<S.length)(h:S.getD i 0=S.getD j 0):i=j:=by rw[abo,abo,aay hi,aay hj]at h;simp at h;have hp:=List.pairwise_iff_getElem.1 hn;grind
def fJ(S:List Nat)(H':an)(i:Nat):List Nat->an->an|[],H=>H|b::bs,H=>fJ S H' (i+1) bs (match aC H' i with|some y=>aR H b (dV S y)|none=>H.set b none)
theorem nC(H:an)(b c:Nat):aC (H.set b none) c=if c=b then none else aC H c:=by
 induction H generalizing b c with
  |nil=>simp[aC]
  |cons z H ih=>
   cases b with
    |zero=>cases c<;>simp[aC]
    |succ b=>cases c<;>simp[aC,ih]
theorem iJ(S:List Nat)(H':an):∀(bs:List Nat)(i:Nat)(H:an)(c:Nat),bs.Nodup->aC (fJ S H' i bs H) c=match bs.idxOf? c with|some j=>(aC H' (i+j)).map (dV S)|none=>aC H c
 |[],i,H,c,_=>by simp[fJ]
 |b::bs,i,H,c,hn=>by
  simp only[fJ];rw[iJ S H' bs (i+1) _ c (ab9.1 hn).2];by_cases hc:b=c
  ·subst hc;have:bs.idxOf? b=none:=List.idxOf?_eq_none_iff.2 (ab9.1 hn).1;simp only[this,List.idxOf?_cons,beq_self_eq_true,abK,abX];grind[fh,nC]
  ·have e:(b==c)=false:=by grind
   simp only[List.idxOf?_cons,e,abR,ab0];grind[fh,nC]
theorem l_(S:List Nat)(H':an):∀(bs:List Nat)(i:Nat)(H:an),H.length<=(fJ S H' i bs H).length
 |[],_,_=>aaC _
 |b::bs,i,H=>by
  simp only[fJ];refine aby ?_ (l_ S H' bs (i+1) _);split
  ·exact(gS H b _).1
  ·simp
section
variable {P:Program}{GL:bM}
theorem jb{S:List Nat}{c j:Nat}(h:S.idxOf? c=some j):j<S.length/\S.getD j 0=c:=by
 have h1:S[j]? =some c:=by induction S generalizing j<;>grind[Option.some.injEq,Option.map_eq_some_iff]
 grind
def ld(S:List Nat)(g:G):G:=⟨fun i=>i<S.length/\g.cd (S.getD i 0),fun i=>if i<S.length then g.γ (S.getD i 0)else none,fun k=>g.fo k\/∃b x,b∉S/\g.γ b=some x/\x.own=some k,g.base⟩
theorem CS{S:List Nat}(i:Nat)(hi:i<S.length):S.getD i 0∈S:=by grind
theorem qo{S:List Nat}(b:Nat)(hb:b∈S):∃i,i<S.length/\S.getD i 0=b:=by obtain⟨i,hi,rfl⟩:=List.getElem_of_mem hb;exact⟨i,hi,by grind⟩
theorem py{S:List Nat}{g:G}(i:Nat)(hi:i<S.length):(ld S g).γ i=g.γ (S.getD i 0):=aaF hi
theorem wq{S:List Nat}{g:G}{w:World}{H H0:an}(hn:S.Nodup)(hl:H0.length=S.length)(hh:aw g w H)(hg:dX GL g w)(hb:∀i,i<S.length->∃y z,aC H0 i=some y/\aC H (S.getD i 0)=some z/\∀x,Sub S (ld S g) g w->RB g w x z->RB (ld S g) w x y):Sub S (ld S g) g w/\aw (ld S g) w H0/\dX GL (ld S g) w:=by
 have nf:∀k,cl (ld S g) w k↔cl g w k:=by
  intro k;constructor
  ·rintro⟨h1,h2,h3⟩;refine⟨h1,fun hf=>h2 (Or.inl hf),fun b x hx hk=>?_ ⟩;by_cases qX:b∈S
   ·obtain⟨i,hi,rfl⟩:=qo b qX;exact h3 i x (by rw[py i hi];exact hx) hk
   ·exact h2 (Or.inr ⟨b,x,qX,hx,hk⟩)
  ·rintro⟨h1,h2,h3⟩;refine⟨h1,?_,fun i x hx hk=>?_ ⟩;all_goals grind[ld]
 have sR:Sub S (ld S g) g w:=⟨fun i hi=>⟨fun h=>h.2,fun h=>⟨hi,h⟩⟩,py,nf⟩;refine⟨sR,⟨fun i hi=>by rw[hl];exact hi.1,fun i x hx=>?_,fun i y hy=>?_,fun i i' x x' k hx lx hk kx=>?_,fun k hk=>⟨?_,fun i x hx kx=>?_ ⟩⟩,fun n cs hn=>⟨(nf n).2 (hg.rd n cs hn).1,cP.keeps (im:=cl g w) (vL:=cl (ld S g) w) (fun k hk=>⟨(nf k).2 hk,rfl⟩) (hg.rd n cs hn).1 _ _ (hg.rd n cs hn).2⟩,fun k hk=>⟨(nf k).2 (hg.w0 k hk).1,(hg.w0 k hk).2⟩⟩
 ·simp only[ld]at hx;split at hx
  ·rename_i hi;obtain⟨h1,y,h2,h3⟩:=hh.live _ x hx;obtain⟨y0,z,k1,k2,k3⟩:=hb i hi;rw[h2]at k2;simp at k2;subst k2;exact⟨⟨hi,h1⟩,y0,k1,k3 x sR h3⟩
  ·cases hx
 ·have hi:i<S.length:=by rw[←hl];exact oU hy
  obtain⟨y0,z,k1,k2,_⟩:=hb i hi;obtain⟨x,hx⟩:=hh.back _ _ k2;exact⟨x,by rw[py i hi];exact hx⟩
 ·simp only[ld]at hx lx;split at hx
  ·rename_i hi;split at lx
   ·rename_i jZ;exact sP hn hi jZ (hh.inj _ _ x x' k hx lx hk kx)
   grind
  ·cases hx
 ·rcases hk with hk|⟨b,x,_,hx,hk⟩
  ·exact(hh.fo k hk).1
  ·exact RV.ep hh b x k hx hk
 ·simp only[ld]at hx;split at hx
  ·rename_i hi;rcases hk with hk|⟨b,x2,qX,nb,qh⟩
   ·exact(hh.fo k hk).2 _ x hx kx
   ·have:=hh.inj _ b x x2 k hx nb kx qh;grind
  ·cases hx
theorem WF.frame{f:FuncId}{j9:List V}{H0:an}{Q0:V->an->Prop}(S:List Nat){H:an}{Q:V->an->Prop}(h:WF P GL f j9 H0 Q0)(hn:S.Nodup)(hl:H0.length=S.length)(ha:aJ S.length j9=true)(T_:a6 S.length H0=true)(hb:∀i,i<S.length->∃y,aC H0 i=some y/\aC H (S.getD i 0)=some (dV S y))(hq:∀v H',Q0 v H'->H'.length=S.length/\aE S.length v=true/\a6 S.length H'=true/\Q (db S v) (fJ S H' 0 S H)):WF P GL f (fI S j9) H Q:=by
 refine⟨h.1,fun g w vs cX hh hg=>?_ ⟩;have aah:∀i,i<S.length->S.getD i 0<H.length:=fun i hi=>by obtain⟨y,_,h2⟩:=hb i hi;exact oU h2
 have aai:=@CS S;have x6:=@qo S;obtain⟨sR,Ob,hG⟩:=wq hn hl hh hg (fun i hi=>by obtain⟨y,k1,k2⟩:=hb i hi;exact⟨y,_,k1,k2,fun x hs h=>(RB.sO hs (e_ T_ k1)).1 h⟩);have nf:=sR.cl;refine(h.2 (ld S g) w vs ((aN.sO sR _ _ ha).1 cX) Ob hG).mono ?_;rintro e w' ⟨x,v,E2,H',rfl,hq0,hx,qg,he⟩;obtain⟨q1,q2,q3,q4⟩:=hq v H' hq0;let g':G:=⟨g.cd,fun b=>match S.idxOf? b with|some i=>E2.γ i|none=>g.γ b,g.fo,g.base⟩;have uJ:∀i,i<S.length->g'.γ (S.getD i 0)=E2.γ i:=fun i hi=>by
  simp only[g'];cases hc:S.idxOf? (S.getD i 0)with
   |none=>grind
   |some j=>obtain⟨k1,k2⟩:=jb hc;rw[sP hn k1 hi k2]
 have CT:∀b,b∉S->g'.γ b=g.γ b:=fun b qX=>by grind
 have Aj:∀k,E2.fo k↔(g.fo k\/∃b x,b∉S/\g.γ b=some x/\x.own=some k):=fun k=>by rw[he.fo];exact Iff.rfl
 have Pf:∀i,i<S.length->g.cd (S.getD i 0)->E2.cd i:=fun i hi hd=>he.cd i ⟨hi,hd⟩
 have VE:∀i x,E2.γ i=some x->i<S.length:=fun i x hx=>by obtain⟨_,y,h2,_⟩:=qg.live i x hx;rw[←q1];exact oU h2
 have ER:∀k,cl E2 w' k↔cl g' w' k:=by
  intro k;constructor
  ·rintro⟨h1,h2,h3⟩;rw[Aj]at h2;refine⟨h1,fun hf=>h2 (.inl hf),fun b x hx hk=>?_ ⟩;grind
  ·rintro⟨h1,h2,h3⟩;refine⟨h1,?_,fun i x hx hk=>?_ ⟩;all_goals grind
 have iC:bu g w g' w':=by
  refine⟨he.os,he.tape,he.output,he.size,fun k hk=>?_,fun _ h=>h,fun b hb=>?_,rfl,rfl,fun k hk=>he.dw k (Or.inl hk)⟩
  ·obtain⟨h1,h2⟩:=he.keeps k ((nf k).2 hk);grind
  ·by_cases qX:b∈S
   ·obtain⟨i,hi,rfl⟩:=x6 b qX;rw[uJ i hi];have:=he.step i ⟨hi,hb⟩;rw[py i hi]at this;exact this
   ·rw[CT b qX];exact GB.step.refl _
 have E3:Sub S E2 g' w':=by refine⟨fun i hi=>⟨fun hd=>?_,fun hd=>Pf i hi hd⟩,fun i hi=>(uJ i hi).symm,ER⟩;obtain⟨y,_,k2⟩:=hb i hi;obtain⟨x,hx⟩:=hh.back _ _ k2;exact(hh.live _ x hx).1
 have VF:∀b x k,b∉S->g.γ b=some x->x.own=some k->w'.heap[k]? =w.heap[k]? :=fun b x k qX hx hk=>he.dw k (Or.inr ⟨b,x,qX,hx,hk⟩)
 refine⟨x,db S v,g',_,rfl,q4,(RV.sO E3 _ _ q2).2 hx,?_,iC⟩;refine⟨fun b hb=>aaX (hh.cd b hb) (l_ S H' S 0 H),fun b x hx=>?_,fun b y hy=>?_,fun b b' x x' k hx lx hk kx=>?_,fun k hk=>⟨aaX (hh.fo k hk).1 he.size,fun b x hx kx=>?_ ⟩⟩
 ·by_cases qX:b∈S
  ·obtain⟨i,hi,rfl⟩:=x6 b qX;rw[uJ i hi]at hx;obtain⟨h1,y,h2,h3⟩:=qg.live i x hx;have hd:g.cd (S.getD i 0):=(E3.cd i hi).1 h1;have Oc:S.idxOf? (S.getD i 0)=some i:=by
    cases hc:S.idxOf? (S.getD i 0)with
     |none=>grind
     |some j=>obtain⟨k1,k2⟩:=jb hc;rw[sP hn k1 hi k2]
   refine⟨hd,dV S y,?_,(RB.sO E3 (e_ q3 h2)).2 h3⟩;rw[iJ S H' S 0 H _ hn,Oc];simp[h2]
  ·rw[CT b qX]at hx;obtain⟨h1,y,h2,h3⟩:=hh.live b x hx;refine⟨h1,y,?_,RB.ext iC (fun k hk=>VF b x k qX hx hk) h3⟩;rw[iJ S H' S 0 H _ hn,List.idxOf?_eq_none_iff.2 qX];exact h2
 ·rw[iJ S H' S 0 H _ hn]at hy;cases hc:S.idxOf? b with
   |some i=>rw[hc]at hy;simp at hy;obtain⟨y0,DT,rfl⟩:=hy;obtain⟨x,hx⟩:=qg.back i y0 DT;grind
   |none=>rw[hc]at hy;obtain⟨x,hx⟩:=hh.back b y hy;grind
 ·by_cases qX:b∈S
  ·obtain⟨i,hi,rfl⟩:=x6 b qX;rw[uJ i hi]at hx;by_cases CU:b'∈S
   ·obtain⟨i',jZ,rfl⟩:=x6 b' CU;rw[uJ i' jZ]at lx;rw[qg.inj i i' x x' k hx lx hk kx]
   ·rw[CT b' CU]at lx;exact absurd hk ((qg.fo k ((Aj k).2 (.inr ⟨b',x',CU,lx,kx⟩))).2 i x hx)
  ·rw[CT b qX]at hx;by_cases CU:b'∈S
   ·obtain⟨i',jZ,rfl⟩:=x6 b' CU;rw[uJ i' jZ]at lx;exact absurd kx ((qg.fo k ((Aj k).2 (.inr ⟨b,x,qX,hx,hk⟩))).2 i' x' lx)
   ·rw[CT b' CU]at lx;exact hh.inj b b' x x' k hx lx hk kx
 ·by_cases qX:b∈S
  ·obtain⟨i,hi,rfl⟩:=x6 b qX;rw[uJ i hi]at hx;exact(qg.fo k ((Aj k).2 (.inl hk))).2 i x hx kx
  ·rw[CT b qX]at hx;exact(hh.fo k hk).2 b x hx kx
end
end Fw
/-
  Tidying: slots forgotten, boxes dropped or frozen; loops over tidied states.
-/
namespace Fw
open Go
variable {m:Nat}
def ax(m:Nat)(σ aS:St):Prop:=∀(GL:bM)(g:G)(w:World)(a:Act),R GL g w a σ->∃g',R GL g' w a aS/\∀(g0:G)(w0:World),(∀b,g0.cd b->b<m)->bu g0 w0 g w->bu g0 w0 g' w
theorem ax.refl(m:Nat)(σ:St):ax m σ σ:=fun _ g _ _ h=>⟨g,h,fun _ _ _ he=>he⟩
theorem ax.trans{a b c:St}(h:ax m a b)(k:ax m b c):ax m a c:=fun GL g w uL hr=>by obtain⟨g1,h1,h2⟩:=h GL g w uL hr;obtain⟨g2,h3,h4⟩:=k GL g1 w uL h1;grind
theorem ax.clean{n:Nat}{cB:List Nat}{σ aS:St}(hn:m<=n)(h:gK cB n σ=some aS):ax m σ aS:=fun _ g _ _ hr=>⟨g.cut n,hr.clean h,fun _ _ hd he=>he.cut fun b hb=>aaX (hd b hb) hn⟩
theorem ax.lG{b:Nat}{σ aS:St}(h:j5 b σ=some aS):ax m σ aS:=fun _ g _ _ hr=>⟨g.del b,hr.lG h,fun g0 w0 _ he=>bu.lG g0 w0 he⟩
section
variable {P:Program}{GL:bM}
variable {σ:St}{Q:Ex->St->Prop}
theorem WC.tidy{c:IR}{aS:St}(ht:ax σ.hp.length σ aS)(h:WC P GL c aS Q):WC P GL c σ Q:=by intro code sv ro lE g w a hr;obtain⟨g',h1,h2⟩:=ht GL g w a hr;exact wpIn_mono (h code sv ro lE g' w a h1) (cE.ext (h2 g w (fun b hb=>hr.heap.cd b hb) (bu.refl _ _)))
theorem WC.post{c:IR}(h:WC P GL c σ (fun e s=>∃s',ax σ.hp.length s s'/\Q e s')):WC P GL c σ Q:=by
 intro code hc ro lE g w a hr;refine wpIn_mono (h code hc ro lE g w a hr) fun e a' w' hp=>?_
 obtain⟨g2,qS,h1,h2,h3⟩:=hp;have key:∀ex,(∃s',ax σ.hp.length qS s'/\Q ex s')->∃g3 aS,R GL g3 w' a' aS/\bu g w g3 w'/\Q ex aS:=by rintro ex ⟨s',ht,hq⟩;obtain⟨g3,k1,k2⟩:=ht GL g2 w' a' h1;exact⟨g3,s',k1,k2 g w (fun b hb=>hr.heap.cd b hb) h2,hq⟩
 cases e with
  |normal=>exact key _ h3
  |exit i=>exact key _ h3
  |ret=>exact key _ h3
  |goto l=>grind
  |panic c=>grind
  |outgrown=>grind
theorem WC.Pg{α:Type}(I:α->St)(μ:α->Nat){b:IR}(h:∀a,WC P GL b (I a) (fun e aS=>match e with| .normal=>∃a',μ a'<μ a/\ax (I a).hp.length aS (I a')|e=>Q e aS))(a:α)(h0:ax σ.hp.length σ (I a)):WC P GL (.loop b) σ Q:=by
 refine WC.tidy h0 (WC.loop (fun n s=>∃a,μ a=n/\s=I a) ?_ ⟨a,rfl,rfl⟩);rintro n s ⟨a,rfl,rfl⟩;refine WC.post ((h a).mono fun e s' hq=>?_ );cases e with
  |normal=>grind
  |exit i=>exact⟨s',ax.refl _ _,hq⟩
  |ret=>exact⟨s',ax.refl _ _,hq⟩
theorem WF.jJ{f:FuncId}{args:List V}{H:an}{Q:V->an->Prop}(h:WF P GL f args H (fun v H'=>∃aS,ax H.length ⟨1,[(0,v)],H'⟩ aS/\Q (get aS.tm 0) aS.hp)):WF P GL f args H Q:=by
 refine⟨h.1,fun g w vs cX hh hg=>(h.2 g w vs cX hh hg).mono ?_ ⟩;rintro e w' ⟨x,v,g',H',rfl,⟨aS,ht,hq⟩,hx,qg,he⟩;have hr:R GL (g'.br 0) w' ⟨#[x],[]⟩ ⟨1,[(0,v)],H'⟩:=by
  refine⟨DS.nil (aaP _),rfl,fun t=>?_,qg.br 0,(hg.ext he).br 0⟩;cases t with
   |zero=>exact RV.jO (rr.br g' w' 0) v x hx
   |succ t=>rw[show get [(0,v)] (t+1)=.any from rfl];simp only[RV]
 obtain⟨g2,k1,k2⟩:=ht GL (g'.br 0) w' _ hr;have:=k1.tmps 0;exact⟨x,_,g2.br g.base,_,rfl,hq,RV.jO (rr.br g2 w' _) _ _ (by simp_all),k1.heap.br _,(k2 (g.br 0) w (fun b hb=>hh.cd b hb) (he.br 0)).br g.base⟩
end
end Fw
/-
  Drawn regions, for symbolic walks.
-/
namespace Fw
open Go
section
variable {P:Program}{GL:bM}
theorem WO.jK{o:ab}{l:List ab}{σ aS:St}{Q:St->Prop}{f:FuncId}{args:List aU}{vs:List V}{v:V}(h:PC P GL f vs v)(ho:o.op=.call f args)(hg:aB o.guard σ.tm=some true)(ha:bI (aT GL σ.tm) args=vs)(hp:σ.put o.dst v σ.hp=some aS)(hq:WO P GL l aS Q):WO P GL (o::l) σ Q:=by subst ha;exact WO.LJ ho hg h hp hq
end
mutual
theorem qY{n m:Nat}(h:n<=m):∀{u:V},aE n u=true->aE m u=true
 | .ptr b _ _,hh=>by grind[aE,Nat.blt_eq]
 | .sl b _ _ _ _,hh=>by grind[aE,Nat.blt_eq]
 | .map b,hh=>by grind[aE,Nat.blt_eq]
 | .iter b _,hh=>by simp only[aE,aas,aaR]at hh⊢;omega
 | .gI b,hh=>by grind[aE,Nat.blt_eq]
 | .func _ a c,hh=>by simp only[aE,aas]at hh⊢;exact⟨fK h hh.1,fK h hh.2⟩
 | .iface _ v,hh=>by simp only[aE]at hh⊢;exact qY h hh
 | .agg cs,hh=>by simp only[aE]at hh⊢;exact fK h hh
 | .tuple cs,hh=>by simp only[aE]at hh⊢;exact fK h hh
 | .any,_=>rfl
 | .d _,_=>rfl
 | .full _,_=>rfl
 | .ak,_=>rfl
 | .lD,_=>rfl
 | .aO _,_=>rfl
 | .kC,_=>rfl
 | .oK,_=>rfl
 | .bz,_=>rfl
 | .fy,_=>rfl
theorem fK{n m:Nat}(h:n<=m):∀{us:List V},aJ n us=true->aJ m us=true|[],_=>rfl|v::vs,hh=>by simp only[aJ,aas]at hh⊢;exact⟨qY h hh.1,fK h hh.2⟩
end
mutual
theorem uZ{S:List Nat}:∀{u:V},aE 0 u=true->db S u=u
 | .ptr b _ _,hh=>by grind[aE,Nat.blt_eq]
 | .sl b _ _ _ _,hh=>by grind[aE,Nat.blt_eq]
 | .map b,hh=>by grind[aE,Nat.blt_eq]
 | .iter b _,hh=>by simp[aE,aas,aaR]at hh
 | .gI b,hh=>by grind[aE,Nat.blt_eq]
 | .func _ a c,hh=>by simp only[aE,aas]at hh;simp only[db,j_ hh.1,j_ hh.2]
 | .iface _ v,hh=>by simp only[aE]at hh;simp only[db,uZ hh]
 | .agg cs,hh=>by simp only[aE]at hh;simp only[db,j_ hh]
 | .tuple cs,hh=>by simp only[aE]at hh;simp only[db,j_ hh]
 | .any,_=>rfl
 | .d _,_=>rfl
 | .full _,_=>rfl
 | .ak,_=>rfl
 | .lD,_=>rfl
 | .aO _,_=>rfl
 | .kC,_=>rfl
 | .oK,_=>rfl
 | .bz,_=>rfl
 | .fy,_=>rfl
theorem j_{S:List Nat}:∀{us:List V},aJ 0 us=true->fI S us=us|[],_=>rfl|v::vs,hh=>by simp only[aJ,aas]at hh;simp only[fI,uZ hh.1,j_ hh.2]
end
end Fw
/-
  A row of which nothing is kept but its room.
-/
/-
  An empty row of data may be nil or not: a comparison with nil goes on for both answers.
-/
namespace Fw
open Go
section
variable {P:Program}{GL:bM}
theorem PC.ofE{f:FuncId}{args:List V}{v:V}(hd:aJ 0 args=true)(h:WF P GL f args [] (fun r H'=>(r=.ak/\v=.d (.list []))\/fA H' r=some v)):PC P GL f args v:=by
 refine PC.VA hd h fun r H' g g' w x h1 h2 h3 h4=>?_
 rcases h1 with⟨rfl,rfl⟩|h1
 ·grind[RV,Rd]
 ·exact sJ h2 h3 h1 h4
theorem wt{op:Op}{x' y':aU}(h:aV P op=some (.eq false .slice x' y')):∃t x y yt e,op=.binOp .eql t x y yt/\P.underlying t=some (.slice e)/\ar x=some x'/\ar y=some y':=by
 cases op with
  |binOp op t x y yt=>
   simp only[aV]at h;split at h
   ·rename_i x2 y2 hx hy;split at h
    ·split at h;case h_4 e hu=>grind
     all_goals exfalso
     all_goals (repeat' split at h)<;>simp at h
    ·exfalso;(repeat' split at h)<;>simp at h
    grind
   ·cases h
  |call c=>exfalso;simp only[aV]at h;unfold cR at h;(repeat' split at h)<;>simp at h
  |makeFunc fn a b=>exfalso;cases fn<;>(grind[aV])
  |makeMap t r=>exfalso;cases r<;>(grind[aV])
  |slice t x lo hi mx=>exfalso;cases mx<;>cases lo<;>cases hi<;>(simp only[aV]at h;(repeat' split at h)<;>simp at h)
  |_=>exfalso;simp only[aV]at h;(repeat' split at h)<;>simp at h
theorem WO.HY{o:ab}{l:List ab}{σ:St}{Q:St->Prop}{x y:aU}(ho:o.op=.eq false .slice x y)(hg:aB o.guard σ.tm=some true)(hx:aT GL σ.tm x=.d (.list []))(hy:aT GL σ.tm y=.ak)(h:∀b,∃aS,σ.put o.dst (.d (.bool b)) σ.hp=some aS/\WO P GL l aS Q):WO P GL (o::l) σ Q:=by
 refine WO.step fun o' ops fT lu eO g w a hr K Q' hK=>?_
 rw[de hr lu hg,aaF rfl];obtain⟨t,ox,oy,yt,e,LK,hu,hcx,hcy⟩:=wt (cu (by rw[fT,ho]) (by simp));have cY:=hr.ev _ _ hcx;have e9:=hr.ev _ _ hcy;rw[hx]at cY;rw[hy]at e9;simp only[RV,Rd]at cY e9;have key:∃b,(execOp a.eval o').run P w=.ok (.value (.bool b)) w:=by
  have Bj:∃p l c,a.eval ox=.slice p l c:=by grind
  obtain⟨p,ln,c,hs⟩:=Bj;have heq:(Op.equal t (a.eval ox) (a.eval oy)).run P w=.ok p.isNone w:=by rw[hs,e9];exact hZ fun d=>by cases p<;>simp[Op.equalIn,run_underlying hu]
  have aaj:(eqGuard .eql t ox oy (a.eval ox) (a.eval oy)).run P w=.ok () w:=by rw[hs,e9];unfold eqGuard;simp
  simp_all[execOp,binOp]
 obtain⟨b,hb⟩:=key;obtain⟨aS,hp,hw⟩:=h b;refine OW.of (bE (cu (by rw[fT,ho]) (by simp))) hb ?_;simp only[Oper.uponIn];rw[eO];exact hK g w _ aS (hr.fk (bu.refl _ _) hr.heap hp (RV.A_ _)) (bu.refl _ _) hw
end
end Fw
