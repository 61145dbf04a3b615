/-
  The machine's steps, told for simp.
-/
import Derived.Test.YtpeomfjbcdahnaaGreatDoorFd
import Derived.Below
import Derived.Sort.Grow
import Derived.Deep.Draws
import Derived.Sort.Row
set_option linter.unusedSimpArgs false
set_option maxHeartbeats 1000000
set_option linter.unusedVariables false
namespace Fw
open Go
theorem bB(s t:Nat)(u:V)(l:List (Nat×V)):get ((s,u)::l) t=if s=t then u else get l t:=by
 simp only[get];by_cases h:s=t
 ·subst h;simp
 ·rw[aaH h];have:Nat.beq s t=false:=by
   cases hb:Nat.beq s t with
    |false=>rfl
    |true=>exact absurd (aav hb) h
  rw[this];rfl
theorem dX(s t:Nat)(u v:V)(l:List (Nat×V)):put ((s,u)::l) t v=if s=t then(t,v)::l else if t<=s then(t,v)::(s,u)::l else(s,u)::put l t v:=by
 simp only[put];by_cases h:s=t
 ·subst h;simp
 ·rw[aaH h];have:Nat.beq s t=false:=by
   cases hb:Nat.beq s t with
    |false=>rfl
    |true=>exact absurd (aav hb) h
  rw[this];by_cases h2:t<=s
  ·rw[aaD h2,abd h2];rfl
  ·rw[aaH h2];have:Nat.ble t s=false:=by
    cases hb:Nat.ble t s with
     |false=>rfl
     |true=>exact absurd (aax hb) h2
   rw[this];rfl
theorem e8(t:Nat)(v:V):put [] t v=[(t,v)]:=rfl
theorem a8(n:Nat)(tm:List (Nat×V))(H0 H:ao)(d:Nat)(v:V):St.put ⟨n,tm,H0⟩ (some d) v H=if d<n then some ⟨n,put tm d v,H⟩else none:=by
 simp only[St.put];by_cases h:d<n
 ·rw[aaD h];have:Nat.blt d n=true:=by simpa[aaU]using h
  rw[this];rfl
 ·rw[aaH h];have:Nat.blt d n=false:=by
   cases hb:Nat.blt d n with
    |false=>rfl
    |true=>exact absurd (by simpa[aaU]using hb) h
  rw[this];rfl
theorem sy(n:Nat)(tm:List (Nat×V))(H0 H:ao)(v:V):St.put ⟨n,tm,H0⟩ none v H=some ⟨n,tm,H⟩:=rfl
theorem HY(a b:Nat):Nat.beq a b=decide (a=b):=by
 cases hb:Nat.beq a b with
  |true=>simp[aav hb]
  |false=>
   have:a≠b:=by rintro rfl;simp at hb
   simp[this]
theorem LD(a b:Nat):Nat.ble a b=decide (a<=b):=by
 cases hb:Nat.ble a b with
  |true=>simp[aax hb]
  |false=>
   have:¬a<=b:=fun h=>by rw[abd h]at hb;cases hb
   simp[this]
theorem Pd(a b:Nat):Nat.blt a b=decide (a<b):=by show Nat.ble (a+1) b=_;rw[LD];rfl
section
variable {GL:bR}{call:a7}
end
end Fw
/-
  From the shelf's contracts to calls that touch nothing.
-/
namespace Fw
open Go Go.RowKit
section
variable {P:Program}{GL:bR}
variable {w:World}{u:V}
theorem PC.dZ{f:FuncId}{args:List V}{v:V}(uE:an P f=true)(h:∀g w (vs:Array Value),aM g w args vs.toList->dY GL g w->Calls P f vs w fun e w'=>∃x,e=.returned x/\Below w.heap.size w w'/\((∀k,cw g w k->cw g w' k)->(∀k,w.heap.size<=k->k<w'.heap.size->cw g w' k)->RV g w' v x)):PC P GL f args v:=by
 refine⟨uE,fun g w vs cX Hk gq hg=>(h g w vs cX hg).mono ?_ ⟩;rintro e w' ⟨x,rfl,hb,hx⟩;have xw:∀k,cw g w k->cw g w' k:=fun k hk=>⟨aaY hk.1 hb.size,hk.2⟩
 have zN:∀k,w.heap.size<=k->k<w'.heap.size->cw g w' k:=fun k h1 h2=>⟨h2,fun hf=>by have:=Hk k hf;omega,fun b y hy hk=>by have:=gq b y k hy hk;omega⟩
 exact⟨x,rfl,hx xw zN,⟨hb.os,hb.tape,hb.output,hb.size,fun k hk=>⟨xw k hk,hb.block k hk.1⟩,fun _ h=>h,fun _ _=>GB.step.refl _,rfl,rfl,fun k hk=>hb.block k (Hk k hk)⟩,fun b y k hy hk=>hb.block k (gq b y k hy hk)⟩
theorem Below.Bk(w:World)(n:Nat):Below w.heap.size w (w.drewN n):=⟨rfl,rfl,rfl,aaE _,fun _ _=>rfl⟩
theorem Below.LF{a:World}(h:Below w.heap.size w a)(os:Array Obj):Below w.heap.size w (Go.Sort.grow a os):=h.trans ⟨rfl,rfl,rfl,by simp[Go.Sort.grow],fun k hk=>by have:=h.size;simp only[Go.Sort.grow];rw[ab1 (by omega)]⟩
theorem aM.wk{g:G}{l:List Value}(h:aM g w [] l):l=[]:=by
 cases l with
  |nil=>rfl
  |cons=>simp only[aM]at h
theorem aM.cons_inv{g:G}{us:List V}{l:List Value}(h:aM g w (u::us) l):∃v vs,l=v::vs/\RV g w u v/\aM g w us vs:=by
 cases l with
  |nil=>simp only[aM]at h
  |cons v vs=>simp only[aM]at h;exact⟨v,vs,rfl,h.1,h.2⟩
theorem aM.mH{g:G}{vs:Array Value}(h:aM g w [u] vs.toList):∃x,vs= #[x]/\RV g w u x:=by obtain⟨x,l,e,h1,h2⟩:=h.cons_inv;rw[h2.wk]at e;exact⟨x,aa3.1 (by simpa using e),h1⟩
theorem aM.fJ{g:G}{u':V}{vs:Array Value}(h:aM g w [u,u'] vs.toList):∃x y,vs= #[x,y]/\RV g w u x/\RV g w u' y:=by obtain⟨x,l,e,h1,h2⟩:=h.cons_inv;obtain⟨y,l',e',h3,h4⟩:=h2.cons_inv;rw[h4.wk]at e';rw[e']at e;exact⟨x,y,aa3.1 (by simpa using e),h1,h3⟩
theorem RV.cL{g:G}{s:List UInt8}{x:Value}(h:RV g w (.d (.str s)) x):∃b:ByteArray,x=.string b/\b.data.toList=s:=by simpa only[RV,Rd]using h
theorem RV.mI{g:G}{k:IntKind}{n:Int}{x:Value}(h:RV g w (.d (.int k n)) x):x=.int k n:=by simpa only[RV,Rd]using h
theorem RV.lU{g:G}(l:List UInt8):RV g w (.d (.str l)) (.string ⟨l.toArray⟩):=by simp only[RV,Rd];exact⟨_,rfl,by simp⟩
def c_(l:List (List UInt8)):D:=.list (l.map fun s=>[.str s])
theorem eD.strs{w:World}{im:Nat->Prop}{aK sz:Nat}:∀{l:List (List UInt8)}{off:Nat},eD w im aK off sz (l.map fun s=>[.str s])->l≠[]->sz=1/\∃xs:List ByteArray,xs.map (fun b=>b.data.toList)=l/\∀(j:Nat) b,xs[j]? =some b->w.cell? ⟨aK,off+j,none⟩=some (.string b)
 |[],_,_,h=>absurd rfl h
 |s::l,off,h,_=>by
  simp only[aaG,eD,aaq,aar,cV]at h;obtain⟨h1,⟨⟨v,h2,h3⟩,-⟩,h4⟩:=h;simp only[Rd]at h3;obtain⟨b,rfl,hb⟩:=h3;obtain rfl:sz=1:=by omega
  refine⟨rfl,?_⟩;by_cases hl:l=[]
  ·subst hl;refine⟨[b],by simp[hb],fun j x hx=>?_ ⟩;cases j with
    |zero=>simp at hx;subst hx;simpa using h2
    |succ j=>simp at hx
  ·obtain⟨-,xs,k1,k2⟩:=eD.strs h4 hl;refine⟨b::xs,by simp[hb,k1],fun j x hx=>?_ ⟩;cases j with
    |zero=>simp at hx;subst hx;simpa using h2
    |succ j=>simp at hx;have:=k2 j x hx;rwa[show off+1+j=off+(j+1) by omega]at this
theorem RV.EU{g:G}{l:List (List UInt8)}{x:Value}(h:RV g w (.d (c_ l)) x):(l=[]/\∃a c,x=.slice a 0 c)\/∃aK off cap,∃xs:List ByteArray,l≠[]/\x=.slice (some ⟨aK,off,none⟩) xs.length cap/\xs.length<=cap/\aK<w.heap.size/\xs.map (fun b=>b.data.toList)=l/\∀(j:Nat) b,xs[j]? =some b->w.cell? ⟨aK,off+j,none⟩=some (.string b):=by
 simp only[RV,c_,Rd,acu,aaC]at h;rcases h with⟨h1,h2|⟨_,_,h2⟩⟩|⟨aK,off,cap,sz,h1,h2,h3,h4⟩
 ·exact .inl ⟨h1,_,_,h2⟩
 ·exact .inl ⟨h1,_,_,h2⟩
 ·by_cases hl:l=[]
  ·subst hl;exact .inl ⟨rfl,_,_,h1⟩
  ·obtain⟨rfl,xs,k1,k2⟩:=eD.strs h4 hl;have hlen:xs.length=l.length:=by rw[←k1];simp
   exact .inr ⟨aK,off,cap,xs,hl,by rw[hlen];exact h1,by omega,(h3 (by simpa using hl)).1,k1,k2⟩
theorem eD.Bl{w:World}{im:Nat->Prop}{aK:Nat}:∀{xs:List ByteArray}{off:Nat},(∀(j:Nat) b,xs[j]? =some b->w.cell? ⟨aK,off+j,none⟩=some (.string b))->eD w im aK off 1 (xs.map fun b=>[.str b.data.toList])
 |[],_,_=>by simp only[aa5,eD]
 |b::xs,off,h=>by simp only[aaG,eD,aaq,aar,cV,Rd];refine⟨trivial,⟨⟨_,by simpa using h 0 b rfl,b,rfl,rfl⟩,trivial⟩,eD.Bl fun j x hx=>?_ ⟩;have:=h (j+1) x (by simpa using hx);rwa[show off+1+j=off+(j+1) by omega]
theorem RV.xW{g:G}(xs:List ByteArray)(t:TypeId)(fz:Nat×Nat)(n:Nat)(hn:n=xs.length)(nJ:cw g (w.alloc (.cells (xs.map Value.string).toArray t fz)) w.heap.size):RV g (w.alloc (.cells (xs.map Value.string).toArray t fz)) (.d (c_ (xs.map fun b=>b.data.toList))) (.slice (some ⟨w.heap.size,0,none⟩) n n):=by
 subst hn;simp only[RV,c_,Rd,abX,aaC];refine .inr ⟨w.heap.size,0,xs.length,1,rfl,aaE _,fun _=>nJ,?_ ⟩;refine eD.Bl (xs:=xs) fun j b hb=>?_
 simp only[World.cell?,bf];simp[hb]
end
end Fw
/-
  Operations up to a call; a sort of an own row of strings.
-/
namespace Fw
open Go Go.RowKit
section
variable {P:Program}{GL:bR}
variable {l:List ab}{σ bg:St}
theorem WO.pre{own:List Nat}{call:a7}(hc:qh P GL call):∀{l l2:List ab}{σ bg:St}{Q:St->Prop},jl own GL call l σ=some bg->WO P GL l2 bg Q->WO P GL (l++l2) σ Q
 |[],l2,σ,bg,Q,h,hq=>by grind[jl,Option.some.injEq]
 |o::l,l2,σ,bg,Q,h,hq=>by
  rw[abH];simp only[jl]at h;split at h
  ·cases h
  ·rename_i hg;split at h
   ·rename_i vR h1;exact WO.skip hg h1 (WO.pre hc h hq)
   ·cases h
  ·rename_i hg;split at h
   ·rename_i f args ho;split at h
    ·rename_i v H' cq;split at h
     ·rename_i vR h1;refine WO.call ho hg ((hc _ _ _ _ _ cq).mono ?_ );rintro r hp ⟨rfl,rfl⟩;exact⟨vR,h1,WO.pre hc h hq⟩
     ·cases h
    ·cases h
   ·rename_i x args ho;split at h
    ·rename_i f first cap hx
     split at h
     ·rename_i v H' cq;split at h
      ·rename_i vR h1;refine WO.b_ ho hx hg ((hc _ _ _ _ _ cq).mono ?_ );rintro r hp ⟨rfl,rfl⟩;exact⟨vR,h1,WO.pre hc h hq⟩
      ·cases h
     ·cases h
    ·cases h
   ·split at h
    ·rename_i v he;split at h
     ·rename_i vR h1;refine WO.jN hg ?_ h1 (WO.pre hc h hq);unfold iX at he;grind
     ·cases h
    ·split at h
     ·rename_i v wr he;split at h
      ·rename_i vR h1;exact WO.bw hg he h1 (WO.pre hc h hq)
      ·cases h
     ·cases h
theorem WO.VL(k:Nat){own:List Nat}{call:a7}(hc:qh P GL call){Q:St->Prop}(h:jl own GL call (l.take k) σ=some bg)(h2:WO P GL (l.drop k) bg Q):WO P GL l σ Q:=by have:=WO.pre hc h h2;simp_all
def VM(_:FuncId)(_:List V)(_:ao):Option (V×ao):=none
theorem EV:qh P GL VM:=by intro f a H v H' h;cases h
theorem WC.dA{own:List Nat}{Q:Ex->St->Prop}(h:jl own GL VM l σ=some bg)(hq:Q .normal bg):WC P GL (.region l) σ Q:=WC.region (mG EV h hq)
theorem WC.LG(k:Nat){own:List Nat}{Q:Ex->St->Prop}(h:jl own GL VM (l.take k) σ=some bg)(hq:WO P GL (l.drop k) bg fun σ=>Q .normal σ):WC P GL (.region l) σ Q:=WC.region (WO.VL k EV h hq)
theorem WO.LH{o:ab}{Q:St->Prop}{f:FuncId}{args:List aX}{v:V}(ho:o.op=.call f args)(hg:aB o.guard σ.tm=some true)(h:PC P GL f (bQ (aW GL σ.tm) args) v)(hp:σ.put o.dst v σ.hp=some bg)(hq:WO P GL l bg Q):WO P GL (o::l) σ Q:=WO.call ho hg (WF.ER h ⟨bg,hp,hq⟩)
theorem EW(H:ao)(l:ao)(b:Nat):aA (H++l) b=if b<H.length then aA H b else aA l (b - H.length):=by
 induction H generalizing b with
  |nil=>simp
  |cons x H ih=>
   cases b with
    |zero=>simp[aA]
    |succ b=>simp_all[abH,aA,aaq,Nat.add_lt_add_iff_right,Nat.add_sub_add_right]
end
end Fw
/-
  A call that is handed some of the caller's boxes: proved over these boxes alone, it holds whatever other boxes there are.
-/
namespace Fw
open Go
mutual
def de(S:List Nat):V->V| .ptr c h off=>.ptr (S.getD c 0) h off| .sl c h off len sz=>.sl (S.getD c 0) h off len sz| .map c=>.map (S.getD c 0)| .iter c m=>.iter (S.getD c 0) (S.getD m 0)| .gJ c=>.gJ (S.getD c 0)| .func f a c=>.func f (ff S a) (ff S c)| .iface t v=>.iface t (de S v)| .agg cs=>.agg (ff S cs)| .tuple vs=>.tuple (ff S vs)|v=>v
def ff(S:List Nat):List V->List V|[]=>[]|v::vs=>de S v::ff S vs
end
def dE(S:List Nat):bW->bW
 | .cells cs=>.cells (ff S cs)
 | .map es=>.map (es.map fun p=>(p.1,de S p.2))
 | .bM m n seen=>.bM (S.getD m 0) n seen
 | .loop n tm ps ca cb st=>.loop n (tm.map fun p=>(p.1,de S p.2)) ps ca cb st
 |x=>x
theorem qR(S:List Nat):∀(l:List V),(ff S l).length=l.length|[]=>rfl|_::l=>by simp[ff,qR S l]
theorem EX(S:List Nat)(u:V):eC (de S u)=eC u:=by cases u<;>rfl
theorem xX(S:List Nat):∀(l:List V),(ff S l).all eC=l.all eC|[]=>rfl|v::l=>by simp[ff,EX,xX S l]
structure Sub (S:List Nat) (g0 g:G) (w:World):Prop where
 cr:∀i,i<S.length->(g0.cr i↔g.cr (S.getD i 0))
 γ:∀i,i<S.length->g0.γ i=g.γ (S.getD i 0)
 cw:∀k,cw g0 w k↔cw g w k
mutual
theorem RV.sA{S:List Nat}{g0 g:G}{w:World}(h:Sub S g0 g w):∀(u:V)(v:Value),aC S.length u=true->(RV g w (de S u) v↔RV g0 w u v)
 | .any,_,_=>by grind[de,RV]
 | .d x,v,_=>by simp only[de,RV];exact⟨Rd.keeps (fun k hk=>⟨(h.cw k).2 hk,rfl⟩) _ _,Rd.keeps (fun k hk=>⟨(h.cw k).1 hk,rfl⟩) _ _⟩
 | .full es,v,_=>by simp only[de,RV];exact⟨fun⟨h1,h2⟩=>⟨Rd.keeps (fun k hk=>⟨(h.cw k).2 hk,rfl⟩) _ _ h1,h2⟩,fun⟨h1,h2⟩=>⟨Rd.keeps (fun k hk=>⟨(h.cw k).1 hk,rfl⟩) _ _ h1,h2⟩⟩
 | .aj,_,_=>by grind[de,RV]
 | .ptr b hh off,v,hn=>by simp only[aC,aaU]at hn;simp only[de,RV,h.cr b hn,h.γ b hn]
 | .lu,_,_=>by grind[de,RV]
 | .aL cs,v,_=>by
  simp only[de,RV];constructor
  ·rintro⟨aK,off,h1,h2,h3⟩;refine⟨aK,off,h1,fun hn=>(h.cw _).2 (h2 hn),?_ ⟩;cases cs with
    |nil=>simp only[cV]
    |cons c cs=>exact cV.keeps (im:=cw g w) (vD:=cw g0 w) (fun k hk=>⟨(h.cw k).2 hk,rfl⟩) (h2 (by simp)) _ _ h3
  ·rintro⟨aK,off,h1,h2,h3⟩;refine⟨aK,off,h1,fun hn=>(h.cw _).1 (h2 hn),?_ ⟩;cases cs with
    |nil=>simp only[cV]
    |cons c cs=>exact cV.keeps (im:=cw g0 w) (vD:=cw g w) (fun k hk=>⟨(h.cw k).1 hk,rfl⟩) (h2 (by simp)) _ _ h3
 | .sl b hh off len sz,v,hn=>by simp only[aC,aaU]at hn;simp only[de,RV,h.cr b hn,h.γ b hn]
 | .map b,v,hn=>by simp only[aC,aaU]at hn;simp only[de,RV,h.cr b hn,h.γ b hn]
 | .kj,_,_=>by grind[de,RV]
 | .func f a c,v,hn=>by
  simp only[aC,aas]at hn;simp only[de,RV];constructor
  ·rintro⟨x,y,h1,h2,h3⟩;exact⟨x,y,h1,(aM.sA h _ _ hn.1).1 h2,(aM.sA h _ _ hn.2).1 h3⟩
  ·rintro⟨x,y,h1,h2,h3⟩;exact⟨x,y,h1,(aM.sA h _ _ hn.1).2 h2,(aM.sA h _ _ hn.2).2 h3⟩
 | .ob,_,_=>by grind[de,RV]
 | .iface t u,v,hn=>by
  simp only[aC]at hn;simp only[de,RV];constructor
  ·rintro⟨x,h1,h2⟩;exact⟨x,h1,(RV.sA h _ _ hn).1 h2⟩
  ·rintro⟨x,h1,h2⟩;exact⟨x,h1,(RV.sA h _ _ hn).2 h2⟩
 | .bD,_,_=>by grind[de,RV]
 | .fA,_,_=>by grind[de,RV]
 | .agg cs,v,hn=>by
  simp only[aC]at hn;simp only[de,RV];constructor
  ·rintro⟨x,h1,h2⟩;exact⟨x,h1,(aM.sA h _ _ hn).1 h2⟩
  ·rintro⟨x,h1,h2⟩;exact⟨x,h1,(aM.sA h _ _ hn).2 h2⟩
 | .tuple vs,v,hn=>by
  simp only[aC]at hn;simp only[de,RV];constructor
  ·rintro⟨x,h1,h2⟩;exact⟨x,h1,(aM.sA h _ _ hn).1 h2⟩
  ·rintro⟨x,h1,h2⟩;exact⟨x,h1,(aM.sA h _ _ hn).2 h2⟩
 | .iter b m,v,hn=>by simp only[aC,aaU]at hn;simp only[de,RV,h.cr b hn,h.γ b hn]
 | .gJ b,v,hn=>by simp only[aC,aaU]at hn;simp only[de,RV,h.cr b hn,h.γ b hn]
theorem aM.sA{S:List Nat}{g0 g:G}{w:World}(h:Sub S g0 g w):∀(us:List V)(vs:List Value),aE S.length us=true->(aM g w (ff S us) vs↔aM g0 w us vs)
 |[],[],_=>by grind[ff,aM]
 |u::us,v::vs,hn=>by simp only[aE,aas]at hn;simp only[ff,aM,RV.sA h _ _ hn.1,aM.sA h _ _ hn.2]
 |[],_::_,_=>by grind[ff,aM]
 |_::_,[],_=>by grind[ff,aM]
end
theorem RB.sA{S:List Nat}{g0 g:G}{w:World}(h:Sub S g0 g w){x:GB}{y:bW}(hy:cZ S.length y=true):RB g w x (dE S y)↔RB g0 w x y:=by
 cases x with
  |cells aK cp cur=>
   cases y with
    |cells cs=>simp only[cZ]at hy;simp only[dE,RB,qR,xX,aM.sA h _ _ hy]
    |_=>grind[dE,RB]
  |nil=>cases y<;>simp only[dE,RB]
  |obj aK=>
   cases y with
    |map es=>
     simp only[cZ,aaJ]at hy;simp only[dE,RB,aaC];constructor
     ·rintro⟨bG,clock,h1,h2,h3,h4⟩;refine⟨bG,clock,h1,h2,fun i k v hi=>?_,h4⟩;obtain⟨z,z1,z2,z3,z4⟩:=h3 i k (de S v) (by simp[hi]);exact⟨z,z1,z2,Rd.keeps (fun k hk=>⟨(h.cw k).2 hk,rfl⟩) _ _ z3,(RV.sA h _ _ (hy _ (aau hi))).1 z4⟩
     ·rintro⟨bG,clock,h1,h2,h3,h4⟩;refine⟨bG,clock,h1,h2,fun i k v hi=>?_,h4⟩;simp only[aa9,aaB,aay]at hi;obtain⟨⟨k',v'⟩,jU,rfl,rfl⟩:=hi;obtain⟨z,z1,z2,z3,z4⟩:=h3 i k' v' jU;exact⟨z,z1,z2,Rd.keeps (fun k hk=>⟨(h.cw k).1 hk,rfl⟩) _ _ z3,(RV.sA h _ _ (hy _ (aau jU))).2 z4⟩
    |bM m n seen=>simp only[cZ,aaU]at hy;simp only[dE,RB,h.cr m hy,h.γ m hy]
    |loop k tm ps ca cb st=>simp only[dE,RB,iE (de S) rfl,fun t v=>RV.sA (g:=g) (w:=w) h (get tm t) v (xP t hy)]
    |_=>grind[dE,RB]
theorem sB{S:List Nat}(hn:S.Nodup){i j:Nat}(hi:i<S.length)(hj:j<S.length)(h:S.getD i 0=S.getD j 0):i=j:=by rw[abh,abh,aaz hi,aaz hj]at h;simp at h;have hp:=List.pairwise_iff_getElem.1 hn;grind
def fK(S:List Nat)(H':ao)(i:Nat):List Nat->ao->ao|[],H=>H|b::bs,H=>fK S H' (i+1) bs (match aA H' i with|some y=>aR H b (dE S y)|none=>H.set b none)
theorem gK(H:ao)(b c:Nat):aA (H.set b none) c=if c=b then none else aA H c:=by
 induction H generalizing b c with
  |nil=>simp[aA]
  |cons z H ih=>
   cases b with
    |zero=>cases c<;>simp[aA]
    |succ b=>cases c<;>simp[aA,ih]
theorem iH(S:List Nat)(H':ao):∀(bs:List Nat)(i:Nat)(H:ao)(c:Nat),bs.Nodup->aA (fK S H' i bs H) c=match bs.idxOf? c with|some j=>(aA H' (i+j)).map (dE S)|none=>aA H c
 |[],i,H,c,_=>by simp[fK]
 |b::bs,i,H,c,hn=>by
  simp only[fK];rw[iH S H' bs (i+1) _ c (ab7.1 hn).2];by_cases hc:b=c
  ·subst hc;have:bs.idxOf? b=none:=List.idxOf?_eq_none_iff.2 (ab7.1 hn).1;simp only[this,List.idxOf?_cons,beq_self_eq_true,abJ,aci];grind[fm,gK]
  ·have e:(b==c)=false:=by grind
   simp only[List.idxOf?_cons,e,abA,abN];grind[fm,gK]
theorem lV(S:List Nat)(H':ao):∀(bs:List Nat)(i:Nat)(H:ao),H.length<=(fK S H' i bs H).length
 |[],_,_=>aaE _
 |b::bs,i,H=>by
  simp only[fK];refine abt ?_ (lV S H' bs (i+1) _);split
  ·exact(gT H b _).1
  ·simp
section
variable {P:Program}{GL:bR}
theorem iY{S:List Nat}{c j:Nat}(h:S.idxOf? c=some j):j<S.length/\S.getD j 0=c:=by
 have h1:S[j]? =some c:=by induction S generalizing j<;>grind[Option.some.injEq,Option.map_eq_some_iff]
 grind
def kR(S:List Nat)(g:G):G:=⟨fun i=>i<S.length/\g.cr (S.getD i 0),fun i=>if i<S.length then g.γ (S.getD i 0)else none,fun k=>g.fo k\/∃b x,b∉S/\g.γ b=some x/\x.own=some k,g.base⟩
theorem CK{S:List Nat}(i:Nat)(hi:i<S.length):S.getD i 0∈S:=by grind
theorem qi{S:List Nat}(b:Nat)(hb:b∈S):∃i,i<S.length/\S.getD i 0=b:=by obtain⟨i,hi,rfl⟩:=List.getElem_of_mem hb;exact⟨i,hi,by grind⟩
theorem o7{S:List Nat}{g:G}(i:Nat)(hi:i<S.length):(kR S g).γ i=g.γ (S.getD i 0):=aaD hi
theorem wm{S:List Nat}{g:G}{w:World}{H H0:ao}(hn:S.Nodup)(hl:H0.length=S.length)(hh:ax g w H)(hg:dY GL g w)(hb:∀i,i<S.length->∃y z,aA H0 i=some y/\aA H (S.getD i 0)=some z/\∀x,Sub S (kR S g) g w->RB g w x z->RB (kR S g) w x y):Sub S (kR S g) g w/\ax (kR S g) w H0/\dY GL (kR S g) w:=by
 have mT:∀k,cw (kR S g) w k↔cw g w k:=by
  intro k;constructor
  ·rintro⟨h1,h2,h3⟩;refine⟨h1,fun hf=>h2 (Or.inl hf),fun b x hx hk=>?_ ⟩;by_cases qS:b∈S
   ·obtain⟨i,hi,rfl⟩:=qi b qS;exact h3 i x (by rw[o7 i hi];exact hx) hk
   ·exact h2 (Or.inr ⟨b,x,qS,hx,hk⟩)
  ·rintro⟨h1,h2,h3⟩;refine⟨h1,?_,fun i x hx hk=>?_ ⟩;all_goals grind[kR]
 have sC:Sub S (kR S g) g w:=⟨fun i hi=>⟨fun h=>h.2,fun h=>⟨hi,h⟩⟩,o7,mT⟩;refine⟨sC,⟨fun i hi=>by rw[hl];exact hi.1,fun i x hx=>?_,fun i y hy=>?_,fun i i' x x' k hx kZ hk kg=>?_,fun k hk=>⟨?_,fun i x hx kg=>?_ ⟩⟩,fun n cs hn=>⟨(mT n).2 (hg.rd n cs hn).1,cV.keeps (im:=cw g w) (vD:=cw (kR S g) w) (fun k hk=>⟨(mT k).2 hk,rfl⟩) (hg.rd n cs hn).1 _ _ (hg.rd n cs hn).2⟩,fun k hk=>⟨(mT k).2 (hg.w0 k hk).1,(hg.w0 k hk).2⟩⟩
 ·simp only[kR]at hx;split at hx
  ·rename_i hi;obtain⟨h1,y,h2,h3⟩:=hh.live _ x hx;obtain⟨y0,z,k1,k2,k3⟩:=hb i hi;rw[h2]at k2;simp at k2;subst k2;exact⟨⟨hi,h1⟩,y0,k1,k3 x sC h3⟩
  ·cases hx
 ·have hi:i<S.length:=by rw[←hl];exact oi hy
  obtain⟨y0,z,k1,k2,_⟩:=hb i hi;obtain⟨x,hx⟩:=hh.back _ _ k2;exact⟨x,by rw[o7 i hi];exact hx⟩
 ·simp only[kR]at hx kZ;split at hx
  ·rename_i hi;split at kZ
   ·rename_i jU;exact sB hn hi jU (hh.inj _ _ x x' k hx kZ hk kg)
   grind
  ·cases hx
 ·rcases hk with hk|⟨b,x,_,hx,hk⟩
  ·exact(hh.fo k hk).1
  ·exact RV.ew hh b x k hx hk
 ·simp only[kR]at hx;split at hx
  ·rename_i hi;rcases hk with hk|⟨b,x2,qS,ly,pX⟩
   ·exact(hh.fo k hk).2 _ x hx kg
   ·have:=hh.inj _ b x x2 k hx ly kg pX;grind
  ·cases hx
theorem WF.frame{f:FuncId}{jA:List V}{H0:ao}{Q0:V->ao->Prop}(S:List Nat){H:ao}{Q:V->ao->Prop}(h:WF P GL f jA H0 Q0)(hn:S.Nodup)(hl:H0.length=S.length)(ha:aE S.length jA=true)(Up:aS S.length H0=true)(hb:∀i,i<S.length->∃y,aA H0 i=some y/\aA H (S.getD i 0)=some (dE S y))(hq:∀v H',Q0 v H'->H'.length=S.length/\aC S.length v=true/\aS S.length H'=true/\Q (de S v) (fK S H' 0 S H)):WF P GL f (ff S jA) H Q:=by
 refine⟨h.1,fun g w vs cX hh hg=>?_ ⟩;have aag:∀i,i<S.length->S.getD i 0<H.length:=fun i hi=>by obtain⟨y,_,h2⟩:=hb i hi;exact oi h2
 have aah:=@CK S;have qj:=@qi S;obtain⟨sC,N',hG⟩:=wm hn hl hh hg (fun i hi=>by obtain⟨y,k1,k2⟩:=hb i hi;exact⟨y,_,k1,k2,fun x hs h=>(RB.sA hs (fc Up k1)).1 h⟩);have mT:=sC.cw;refine(h.2 (kR S g) w vs ((aM.sA sC _ _ ha).1 cX) N' hG).mono ?_;rintro e w' ⟨x,v,EY,H',rfl,hq0,hx,pW,he⟩;obtain⟨q1,q2,q3,q4⟩:=hq v H' hq0;let g':G:=⟨g.cr,fun b=>match S.idxOf? b with|some i=>EY.γ i|none=>g.γ b,g.fo,g.base⟩;have uC:∀i,i<S.length->g'.γ (S.getD i 0)=EY.γ i:=fun i hi=>by
  simp only[g'];cases hc:S.idxOf? (S.getD i 0)with
   |none=>grind
   |some j=>obtain⟨k1,k2⟩:=iY hc;rw[sB hn k1 hi k2]
 have CL:∀b,b∉S->g'.γ b=g.γ b:=fun b qS=>by grind
 have z8:∀k,EY.fo k↔(g.fo k\/∃b x,b∉S/\g.γ b=some x/\x.own=some k):=fun k=>by rw[he.fo];exact Iff.rfl
 have Pe:∀i,i<S.length->g.cr (S.getD i 0)->EY.cr i:=fun i hi hd=>he.cr i ⟨hi,hd⟩
 have VN:∀i x,EY.γ i=some x->i<S.length:=fun i x hx=>by obtain⟨_,y,h2,_⟩:=pW.live i x hx;rw[←q1];exact oi h2
 have EP:∀k,cw EY w' k↔cw g' w' k:=by
  intro k;constructor
  ·rintro⟨h1,h2,h3⟩;rw[z8]at h2;refine⟨h1,fun hf=>h2 (.inl hf),fun b x hx hk=>?_ ⟩;grind
  ·rintro⟨h1,h2,h3⟩;refine⟨h1,?_,fun i x hx hk=>?_ ⟩;all_goals grind
 have iC:bA g w g' w':=by
  refine⟨he.os,he.tape,he.output,he.size,fun k hk=>?_,fun _ h=>h,fun b hb=>?_,rfl,rfl,fun k hk=>he.dB k (Or.inl hk)⟩
  ·obtain⟨h1,h2⟩:=he.keeps k ((mT k).2 hk);grind
  ·by_cases qS:b∈S
   ·obtain⟨i,hi,rfl⟩:=qj b qS;rw[uC i hi];have:=he.step i ⟨hi,hb⟩;rw[o7 i hi]at this;exact this
   ·rw[CL b qS];exact GB.step.refl _
 have EZ:Sub S EY g' w':=by refine⟨fun i hi=>⟨fun hd=>?_,fun hd=>Pe i hi hd⟩,fun i hi=>(uC i hi).symm,EP⟩;obtain⟨y,_,k2⟩:=hb i hi;obtain⟨x,hx⟩:=hh.back _ _ k2;exact(hh.live _ x hx).1
 have VO:∀b x k,b∉S->g.γ b=some x->x.own=some k->w'.heap[k]? =w.heap[k]? :=fun b x k qS hx hk=>he.dB k (Or.inr ⟨b,x,qS,hx,hk⟩)
 refine⟨x,de S v,g',_,rfl,q4,(RV.sA EZ _ _ q2).2 hx,?_,iC⟩;refine⟨fun b hb=>aaY (hh.cr b hb) (lV S H' S 0 H),fun b x hx=>?_,fun b y hy=>?_,fun b b' x x' k hx kZ hk kg=>?_,fun k hk=>⟨aaY (hh.fo k hk).1 he.size,fun b x hx kg=>?_ ⟩⟩
 ·by_cases qS:b∈S
  ·obtain⟨i,hi,rfl⟩:=qj b qS;rw[uC i hi]at hx;obtain⟨h1,y,h2,h3⟩:=pW.live i x hx;have hd:g.cr (S.getD i 0):=(EZ.cr i hi).1 h1;have N_:S.idxOf? (S.getD i 0)=some i:=by
    cases hc:S.idxOf? (S.getD i 0)with
     |none=>grind
     |some j=>obtain⟨k1,k2⟩:=iY hc;rw[sB hn k1 hi k2]
   refine⟨hd,dE S y,?_,(RB.sA EZ (fc q3 h2)).2 h3⟩;rw[iH S H' S 0 H _ hn,N_];simp[h2]
  ·rw[CL b qS]at hx;obtain⟨h1,y,h2,h3⟩:=hh.live b x hx;refine⟨h1,y,?_,RB.ext iC (fun k hk=>VO b x k qS hx hk) h3⟩;rw[iH S H' S 0 H _ hn,List.idxOf?_eq_none_iff.2 qS];exact h2
 ·rw[iH S H' S 0 H _ hn]at hy;cases hc:S.idxOf? b with
   |some i=>rw[hc]at hy;simp at hy;obtain⟨y0,DO,rfl⟩:=hy;obtain⟨x,hx⟩:=pW.back i y0 DO;grind
   |none=>rw[hc]at hy;obtain⟨x,hx⟩:=hh.back b y hy;grind
 ·by_cases qS:b∈S
  ·obtain⟨i,hi,rfl⟩:=qj b qS;rw[uC i hi]at hx;by_cases CM:b'∈S
   ·obtain⟨i',jU,rfl⟩:=qj b' CM;rw[uC i' jU]at kZ;rw[pW.inj i i' x x' k hx kZ hk kg]
   ·rw[CL b' CM]at kZ;exact absurd hk ((pW.fo k ((z8 k).2 (.inr ⟨b',x',CM,kZ,kg⟩))).2 i x hx)
  ·rw[CL b qS]at hx;by_cases CM:b'∈S
   ·obtain⟨i',jU,rfl⟩:=qj b' CM;rw[uC i' jU]at kZ;exact absurd kg ((pW.fo k ((z8 k).2 (.inr ⟨b,x,qS,hx,hk⟩))).2 i' x' kZ)
   ·rw[CL b' CM]at kZ;exact hh.inj b b' x x' k hx kZ hk kg
 ·by_cases qS:b∈S
  ·obtain⟨i,hi,rfl⟩:=qj b qS;rw[uC i hi]at hx;exact(pW.fo k ((z8 k).2 (.inl hk))).2 i x hx kg
  ·rw[CL b qS]at hx;exact(hh.fo k hk).2 b x hx kg
end
end Fw
/-
  Tidying: slots forgotten, boxes dropped or frozen; loops over tidied states.
-/
namespace Fw
open Go
variable {m:Nat}
def ay(m:Nat)(σ bg:St):Prop:=∀(GL:bR)(g:G)(w:World)(a:Act),R GL g w a σ->∃g',R GL g' w a bg/\∀(g0:G)(w0:World),(∀b,g0.cr b->b<m)->bA g0 w0 g w->bA g0 w0 g' w
theorem ay.refl(m:Nat)(σ:St):ay m σ σ:=fun _ g _ _ h=>⟨g,h,fun _ _ _ he=>he⟩
theorem ay.trans{a b c:St}(h:ay m a b)(k:ay m b c):ay m a c:=fun GL g w xc hr=>by obtain⟨g1,h1,h2⟩:=h GL g w xc hr;obtain⟨g2,h3,h4⟩:=k GL g1 w xc h1;grind
theorem ay.clean{n:Nat}{cO:List Nat}{σ bg:St}(hn:m<=n)(h:kP cO n σ=some bg):ay m σ bg:=fun _ g _ _ hr=>⟨g.cut n,hr.clean h,fun _ _ hd he=>he.cut fun b hb=>aaY (hd b hb) hn⟩
theorem ay.lB{b:Nat}{σ bg:St}(h:la b σ=some bg):ay m σ bg:=fun _ g _ _ hr=>⟨g.del b,hr.lB h,fun g0 w0 _ he=>bA.lB g0 w0 he⟩
section
variable {P:Program}{GL:bR}
variable {σ:St}{Q:Ex->St->Prop}
theorem WC.tidy{c:IR}{bg:St}(ht:ay σ.hp.length σ bg)(h:WC P GL c bg Q):WC P GL c σ Q:=by intro code Pf ro n_ g w a hr;obtain⟨g',h1,h2⟩:=ht GL g w a hr;exact wpIn_mono (h code Pf ro n_ g' w a h1) (dr.ext (h2 g w (fun b hb=>hr.heap.cr b hb) (bA.refl _ _)))
theorem WC.post{c:IR}(h:WC P GL c σ (fun e s=>∃s',ay σ.hp.length s s'/\Q e s')):WC P GL c σ Q:=by
 intro code hc ro n_ g w a hr;refine wpIn_mono (h code hc ro n_ g w a hr) fun e a' w' hp=>?_
 obtain⟨g2,sc,h1,h2,h3⟩:=hp;have key:∀ex,(∃s',ay σ.hp.length sc s'/\Q ex s')->∃g3 bg,R GL g3 w' a' bg/\bA g w g3 w'/\Q ex bg:=by rintro ex ⟨s',ht,hq⟩;obtain⟨g3,k1,k2⟩:=ht GL g2 w' a' h1;exact⟨g3,s',k1,k2 g w (fun b hb=>hr.heap.cr b hb) h2,hq⟩
 cases e with
  |normal=>exact key _ h3
  |exit i=>exact key _ h3
  |ret=>exact key _ h3
  |goto l=>grind
  |panic c=>grind
  |outgrown=>grind
theorem WC.Pg{α:Type}(I:α->St)(μ:α->Nat){b:IR}(h:∀a,WC P GL b (I a) (fun e bg=>match e with| .normal=>∃a',μ a'<μ a/\ay (I a).hp.length bg (I a')|e=>Q e bg))(a:α)(h0:ay σ.hp.length σ (I a)):WC P GL (.loop b) σ Q:=by
 refine WC.tidy h0 (WC.loop (fun n s=>∃a,μ a=n/\s=I a) ?_ ⟨a,rfl,rfl⟩);rintro n s ⟨a,rfl,rfl⟩;refine WC.post ((h a).mono fun e s' hq=>?_ );cases e with
  |normal=>grind
  |exit i=>exact⟨s',ay.refl _ _,hq⟩
  |ret=>exact⟨s',ay.refl _ _,hq⟩
theorem WF.e9{f:FuncId}{args:List V}{H:ao}{Q:V->ao->Prop}(h:WF P GL f args H (fun v H'=>∃bg,ay H.length ⟨1,[(0,v)],H'⟩ bg/\Q (get bg.tm 0) bg.hp)):WF P GL f args H Q:=by
 refine⟨h.1,fun g w vs cX hh hg=>(h.2 g w vs cX hh hg).mono ?_ ⟩;rintro e w' ⟨x,v,g',H',rfl,⟨bg,ht,hq⟩,hx,pW,he⟩;have hr:R GL (g'.bt 0) w' ⟨#[x],[]⟩ ⟨1,[(0,v)],H'⟩:=by
  refine⟨DN.nil (aaO _),rfl,fun t=>?_,pW.bt 0,(hg.ext he).bt 0⟩;cases t with
   |zero=>exact RV.jJ (rm.bt g' w' 0) v x hx
   |succ t=>rw[show get [(0,v)] (t+1)=.any from rfl];simp only[RV]
 obtain⟨g2,k1,k2⟩:=ht GL (g'.bt 0) w' _ hr;have:=k1.tmps 0;exact⟨x,_,g2.bt g.base,_,rfl,hq,RV.jJ (rm.bt g2 w' _) _ _ (by simp_all),k1.heap.bt _,(k2 (g.bt 0) w (fun b hb=>hh.cr b hb) (he.bt 0)).bt g.base⟩
end
end Fw
/-
  Drawn regions, for symbolic walks.
-/
namespace Fw
open Go
section
variable {P:Program}{GL:bR}
theorem WO.jB{o:ab}{l:List ab}{σ bg:St}{Q:St->Prop}{f:FuncId}{args:List aX}{vs:List V}{v:V}(h:PC P GL f vs v)(ho:o.op=.call f args)(hg:aB o.guard σ.tm=some true)(ha:bQ (aW GL σ.tm) args=vs)(hp:σ.put o.dst v σ.hp=some bg)(hq:WO P GL l bg Q):WO P GL (o::l) σ Q:=by subst ha;exact WO.LH ho hg h hp hq
end
mutual
theorem qT{n m:Nat}(h:n<=m):∀{u:V},aC n u=true->aC m u=true
 | .ptr b _ _,hh=>by grind[aC,Nat.blt_eq]
 | .sl b _ _ _ _,hh=>by grind[aC,Nat.blt_eq]
 | .map b,hh=>by grind[aC,Nat.blt_eq]
 | .iter b _,hh=>by simp only[aC,aas,aaU]at hh⊢;omega
 | .gJ b,hh=>by grind[aC,Nat.blt_eq]
 | .func _ a c,hh=>by simp only[aC,aas]at hh⊢;exact⟨fL h hh.1,fL h hh.2⟩
 | .iface _ v,hh=>by simp only[aC]at hh⊢;exact qT h hh
 | .agg cs,hh=>by simp only[aC]at hh⊢;exact fL h hh
 | .tuple cs,hh=>by simp only[aC]at hh⊢;exact fL h hh
 | .any,_=>rfl
 | .d _,_=>rfl
 | .full _,_=>rfl
 | .aj,_=>rfl
 | .lu,_=>rfl
 | .aL _,_=>rfl
 | .kj,_=>rfl
 | .ob,_=>rfl
 | .bD,_=>rfl
 | .fA,_=>rfl
theorem fL{n m:Nat}(h:n<=m):∀{us:List V},aE n us=true->aE m us=true|[],_=>rfl|v::vs,hh=>by simp only[aE,aas]at hh⊢;exact⟨qT h hh.1,fL h hh.2⟩
end
mutual
theorem uN{S:List Nat}:∀{u:V},aC 0 u=true->de S u=u
 | .ptr b _ _,hh=>by grind[aC,Nat.blt_eq]
 | .sl b _ _ _ _,hh=>by grind[aC,Nat.blt_eq]
 | .map b,hh=>by grind[aC,Nat.blt_eq]
 | .iter b _,hh=>by simp[aC,aas,aaU]at hh
 | .gJ b,hh=>by grind[aC,Nat.blt_eq]
 | .func _ a c,hh=>by simp only[aC,aas]at hh;simp only[de,jX hh.1,jX hh.2]
 | .iface _ v,hh=>by simp only[aC]at hh;simp only[de,uN hh]
 | .agg cs,hh=>by simp only[aC]at hh;simp only[de,jX hh]
 | .tuple cs,hh=>by simp only[aC]at hh;simp only[de,jX hh]
 | .any,_=>rfl
 | .d _,_=>rfl
 | .full _,_=>rfl
 | .aj,_=>rfl
 | .lu,_=>rfl
 | .aL _,_=>rfl
 | .kj,_=>rfl
 | .ob,_=>rfl
 | .bD,_=>rfl
 | .fA,_=>rfl
theorem jX{S:List Nat}:∀{us:List V},aE 0 us=true->ff S us=us|[],_=>rfl|v::vs,hh=>by simp only[aE,aas]at hh;simp only[ff,uN hh.1,jX hh.2]
end
end Fw
/-
  A row of which nothing is kept but its room.
-/
/-
  An empty row of data may be nil or not: a comparison with nil goes on for both answers.
-/
namespace Fw
open Go
section
variable {P:Program}{GL:bR}
theorem PC.ofE{f:FuncId}{args:List V}{v:V}(hd:aE 0 args=true)(h:WF P GL f args [] (fun r H'=>(r=.aj/\v=.d (.list []))\/gR H' r=some v)):PC P GL f args v:=by
 refine PC.Uo hd h fun r H' g g' w x h1 h2 h3 h4=>?_
 rcases h1 with⟨rfl,rfl⟩|h1
 ·grind[RV,Rd]
 ·exact sv h2 h3 h1 h4
theorem wo{op:Op}{x' y':aX}(h:aU P op=some (.eq false .slice x' y')):∃t x y yt e,op=.binOp .eql t x y yt/\P.underlying t=some (.slice e)/\aw x=some x'/\aw y=some y':=by
 cases op with
  |binOp op t x y yt=>
   simp only[aU]at h;split at h
   ·rename_i x2 y2 hx hy;split at h
    ·split at h;case h_4 e hu=>grind
     all_goals exfalso
     all_goals (repeat' split at h)<;>simp at h
    ·exfalso;(repeat' split at h)<;>simp at h
    grind
   ·cases h
  |call c=>exfalso;simp only[aU]at h;unfold dq at h;(repeat' split at h)<;>simp at h
  |makeFunc fn a b=>exfalso;cases fn<;>(grind[aU])
  |makeMap t r=>exfalso;cases r<;>(grind[aU])
  |slice t x lo hi mx=>exfalso;cases mx<;>cases lo<;>cases hi<;>(simp only[aU]at h;(repeat' split at h)<;>simp at h)
  |_=>exfalso;simp only[aU]at h;(repeat' split at h)<;>simp at h
theorem WO.Bm{o:ab}{l:List ab}{σ:St}{Q:St->Prop}{x y:aX}(ho:o.op=.eq false .slice x y)(hg:aB o.guard σ.tm=some true)(hx:aW GL σ.tm x=.d (.list []))(hy:aW GL σ.tm y=.aj)(h:∀b,∃bg,σ.put o.dst (.d (.bool b)) σ.hp=some bg/\WO P GL l bg Q):WO P GL (o::l) σ Q:=by
 refine WO.step fun o' ops fX lx eQ g w a hr K Q' hK=>?_
 rw[dj hr lx hg,aaD rfl];obtain⟨t,ox,oy,yt,e,LI,hu,hcx,hcy⟩:=wo (cE (by rw[fX,ho]) (by simp));have cW:=hr.ev _ _ hcx;have eO:=hr.ev _ _ hcy;rw[hx]at cW;rw[hy]at eO;simp only[RV,Rd]at cW eO;have key:∃b,(execOp a.eval o').run P w=.ok (.value (.bool b)) w:=by
  have A':∃p l c,a.eval ox=.slice p l c:=by grind
  obtain⟨p,ln,c,hs⟩:=A';have heq:(Op.equal t (a.eval ox) (a.eval oy)).run P w=.ok p.isNone w:=by rw[hs,eO];exact ig fun d=>by cases p<;>simp[Op.equalIn,run_underlying hu]
  have aai:(eqGuard .eql t ox oy (a.eval ox) (a.eval oy)).run P w=.ok () w:=by rw[hs,eO];unfold eqGuard;simp
  simp_all[execOp,binOp]
 obtain⟨b,hb⟩:=key;obtain⟨bg,hp,hw⟩:=h b;refine OW.of (bJ (cE (by rw[fX,ho]) (by simp))) hb ?_;simp only[Oper.uponIn];rw[eQ];exact hK g w _ bg (hr.fv (bA.refl _ _) hr.heap hp (RV.A1 _)) (bA.refl _ _) hw
end
end Fw
