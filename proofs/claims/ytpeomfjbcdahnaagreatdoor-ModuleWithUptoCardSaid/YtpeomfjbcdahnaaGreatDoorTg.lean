/-
  From a call that touches nothing to the world's own call.
-/
import Derived.Test.YtpeomfjbcdahnaaGreatDoorTc
import Derived.Test.YtpeomfjbcdahnaaGreatDoorTie
import Derived.Test.YtpeomfjbcdahnaaGreatDoorCards
import Derived.ProofKit
import Derived.Handy
import Derived.Lay
import Derived.SevenTiedAt
import Derived.Shelf.Vars
import Derived.HandedShaped
import Derived.Test.YtpeomfjbcdahnaaGreatDoorFg
import Derived.Deep.Slices
import Derived.ChangeStays
import Derived.ReadAgain
import Derived.ChangeOld
import Derived.Test.YtpeomfjbcdahnaaGreatDoorTq
import Derived.Handed
set_option linter.unusedSimpArgs false
set_option maxRecDepth 100000
set_option linter.unusedVariables false
namespace Fw.Tz
open Go Go.Proofs Fw.X Go.ChangeShapes Go.WideShapes Go.ChangeAt Go.RowKit
open Go.Proofs.YtpeomfjbcdahnaaGreatDoor
variable {W:World}
theorem yU{f:FuncId}{args:List V}{v:V}{vs:Array Value}(h:PC P (gl W) f args v)(cX:aM ⟨fun _=>False,fun _=>none,fun _=>False,0⟩ W args vs.toList):Calls P f vs W fun e w'=>∃x,e=.returned x/\Below W.heap.size W w'/\RV ⟨fun _=>False,fun _=>none,fun _=>False,0⟩ w' v x:=by
 have hg:dY (gl W) ⟨fun _=>False,fun _=>none,fun _=>False,0⟩ W:=by refine⟨fun n cs hn=>(by cases hn),fun k hk=>⟨⟨hk,fun h=>h,fun b x hx=>(by cases hx)⟩,rfl⟩⟩
 refine(h.2 ⟨fun _=>False,fun _=>none,fun _=>False,0⟩ W vs cX (fun k hk=>hk.elim) (fun b y k hy=>(by cases hy)) hg).mono ?_;rintro e w' ⟨x,rfl,hx,he,_⟩;exact⟨x,rfl,⟨he.os,he.tape,he.output,he.size,fun k hk=>(he.keeps k ⟨hk,fun h=>h,fun b x hx=>(by cases hx)⟩).2⟩,hx⟩
end Fw.Tz
/-
  Arguments that are rows: read as data, and read again behind a call that writes nothing of theirs.
-/
namespace Fw.Tz
open Go Go.Proofs Fw.X Go.ChangeShapes Go.WideShapes Go.ChangeAt Go.RowKit
open Go.Proofs.YtpeomfjbcdahnaaGreatDoor
abbrev gE:G:=⟨fun _=>False,fun _=>none,fun _=>False,0⟩
theorem MR{W:World}{k:Nat}(h:k<W.heap.size):cw gE W k:=⟨h,fun h=>h,fun b x hx=>by cases hx⟩
theorem kids:Kids Tryz.prog (·<Tryz.prog.types.size):=kids_rows k_ k_
theorem Ay:∀t e,t<Tryz.prog.types.size->Tryz.prog.underlying t=some (.slice e)->0<Tryz.prog.cellsOf e:=slices_full_of _ k_
section
variable {H:Type}{aa:TypeId×Value->H}{W W':World}
theorem Az(hb:Below W.heap.size W W'){t:TypeId}{v:Value}{d:DataW H}{ps:List MemPlace}(ht:t<Tryz.prog.types.size)(h:DataW.Trod aa Tryz.prog W 0 (fun _=>true) true t v d ps):DataW.Trod aa Tryz.prog W' 0 (fun b=>decide (b<W.heap.size)) true t v d ps:=by
 obtain⟨n,hn⟩:=h;have cA:=DataW.trod_lt n t _ _ hn;refine⟨n,DataW.trod_stays kids (fun{t e} ht hu=>Ay t e ht hu) (fun h=>by cases h) ht hn (fun p hp=>?_ ) (fun p hp=>aaQ (cA p hp))⟩;have Ul:=cA p hp;cases p with
  |cell b off=>exact World.cell?_of_block (w:=W) (hb.block b Ul)
  |map b=>exact hb.block b Ul
theorem nA(hb:Below W.heap.size W W'):∀{ts:List TypeId}{vs:List Value}{ds:List (DataW H)}{ps:List MemPlace},(∀t∈ts,t<Tryz.prog.types.size)->DataW.TrodAll aa Tryz.prog W 0 (fun _=>true) true ts vs ds ps->DataW.TrodAll aa Tryz.prog W' 0 (fun b=>decide (b<W.heap.size)) true ts vs ds ps|[],[],[],_,_,h=>h|t::ts,v::vs,d::ds,_,ht,⟨p,q,h1,h2,e⟩=>⟨p,q,Az hb (ht t abC) h1,nA hb (fun t h=>ht t (aaZ _ h)) h2,e⟩
end
theorem Gs{w:World}{im:Nat->Prop}{aK sz:Nat}:∀(es:List (List D))(off:Nat),(∀(i:Nat)(e:List D),es[i]? =some e->e.length=sz/\cV w im aK (off+i*sz) e)->eD w im aK off sz es
 |[],_,_=>by simp only[eD]
 |e::es,off,h=>by simp only[eD];have h0:=h 0 e rfl;refine⟨h0.1,by simpa using h0.2,Gs es (off+sz) fun i e' he=>?_ ⟩;have:=h (i+1) e' (by simpa using he);rwa[show off+(i+1)*sz=off+sz+i*sz by rw[abI];omega]at this
section
variable {H:Type}{aa:TypeId×Value->H}{P:Program}{W:World}{base:Nat}{spare:Nat->Bool}{held:Bool}
def cF(W:World)(ds:List D)(cs:List Value):Prop:=ds.length=cs.length/\∀(j:Nat)(d:D)(v:Value),ds[j]? =some d->cs[j]? =some v->Rd W (cw gE W) d v
theorem cF.one{d:D}{v:Value}(h:Rd W (cw gE W) d v):cF W [d] [v]:=⟨rfl,fun j d' v' h1 h2=>by
 cases j with
  |zero=>simp at h1 h2;subst h1;subst h2;exact h
  |succ j=>simp at h1⟩
theorem cF.app{a b:List D}{x y:List Value}(h:cF W a x)(k:cF W b y):cF W (a++b) (x++y):=⟨by
 simp[h.1,k.1],fun j d v h1 h2=>by
  by_cases hj:j<a.length
  ·rw[abD hj]at h1;rw[abD (by rw[←h.1];exact hj)]at h2;exact h.2 j d v h1 h2
  ·rw[abv (by omega)]at h1;rw[abv (by rw[←h.1];omega),←h.1]at h2;exact k.2 _ d v h1 h2⟩
theorem MS{e:TypeId}(he:P.underlying e=some (.int .i64))(n:Nat)(cs:List Value)(x:DataW H×List MemPlace)(h:DataW.trod aa P W base spare held n e cs=some x):∃a:Int,(-9223372036854775808<=a/\a<=9223372036854775807)/\cF W [.int .i64 a] cs:=by
 obtain⟨k,rfl,-,hw⟩:=DataW.trod_int he h;have h1:IntKind.i64.min<=k/\k<=IntKind.i64.max:=by simp only[Lit.wf,aas,aaF]at hw;exact hw
 have e1:IntKind.i64.min= -9223372036854775808:=rfl;have e2:IntKind.i64.max=9223372036854775807:=rfl;rw[e1,e2]at h1;exact⟨k,h1,cF.one (by simp only[Rd])⟩
end
end Fw.Tz
/-
  Arguments read as data with their weights: terms and modules of small bulk.
-/
namespace Fw.Tz
open Go Go.Proofs Fw.X Go.ChangeShapes Go.WideShapes Go.ChangeAt Go.RowKit Fw.Tz.Va Fw.Tz.Vb Fw.Tz.Tm Fw.Tz.Pn Fw.Tz.Cv
open Go.Proofs.YtpeomfjbcdahnaaGreatDoor
section
variable {W:World}
theorem cF.two{a b:List D}{cs:List Value}{k1 k2:Nat}(o:Nat)(h1:cF W a ((cs.drop o).take k1))(h2:cF W b ((cs.drop (o+k1)).take k2)):cF W (a++b) ((cs.drop o).take (k1+k2)):=by rw[List.take_add,acx];exact h1.app h2
theorem cF.whole{a:List D}{cs:List Value}{n:Nat}(h:cF W a ((cs.drop 0).take n))(hn:cs.length=n):cF W a cs:=by rwa[abi,List.take_of_length_le (by omega)]at h
theorem cF.PU:∀{ds:List D}{cs:List Value},cF W ds cs->aM gE W (ds.map .d) cs
 |[],[],_=>trivial
 |[],_::_,h=>by have:=h.1;simp at this
 |_::_,[],h=>by have:=h.1;simp at this
 |d::ds,c::cs,h=>by simp only[aaG,aM];refine⟨by simp only[RV];exact h.2 0 d c rfl rfl,cF.PU ⟨by have:=h.1;simpa using this,fun j d' v' h1 h2=>h.2 (j+1) d' v' (by simpa using h1) (by simpa using h2)⟩⟩
end
section
variable {H:Type}
theorem tz(d:DataW H):1<=Rows.uptoBulk d:=by
 cases d with
  |lit l=>cases l<;>simp[Rows.uptoBulk]
  |_=>simp[Rows.uptoBulk]
theorem yV{d:DataW H}:∀{l:List (DataW H)},d∈l->Rows.uptoBulk d<=Rows.uptoBulkAll l
 |[],h=>by cases h
 |x::r,h=>by
  simp only[Rows.uptoBulkAll];rcases aaX.1 h with rfl|h
  ·omega
  ·have:=yV h;omega
theorem yW:∀l:List (DataW H),l.length<=Rows.uptoBulkAll l
 |[]=>by simp[Rows.uptoBulkAll]
 |x::r=>by have:=tz x;have:=yW r;simp only[Rows.uptoBulkAll,aaq];omega
theorem yX{α:Type}{w:α->Nat}:∀(l:List α)(ds:List (DataW H)),l.length=ds.length->(∀(i:Nat) a d,l[i]? =some a->ds[i]? =some d->w a<=Rows.uptoBulk d)->(l.map w).sum<=Rows.uptoBulkAll ds
 |[],_,_,_=>by simp
 |a::l,[],h,_=>by simp at h
 |a::l,d::ds,h,hw=>by simp only[aaG,abc,Rows.uptoBulkAll];have h1:=hw 0 a d rfl rfl;have h2:=yX l ds (by simpa using h) (fun i x y hx hy=>hw (i+1) x y (by simpa using hx) (by simpa using hy));omega
end
section
variable {H:Type}{aa:TypeId×Value->H}{P:Program}{W:World}{base:Nat}{spare:Nat->Bool}{held:Bool}
variable {e t:TypeId}{B:Nat}{α:Type}
def Ew(aa:TypeId×Value->H)(P:Program)(W:World)(base:Nat)(spare:Nat->Bool)(held:Bool)(e:TypeId)(rC:α->List D)(rD:α->Prop)(w:α->Nat)(B:Nat):Prop:=∀(n:Nat)(cs:List Value)(x:DataW H×List MemPlace),DataW.trod aa P W base spare held n e cs=some x->Rows.uptoBulk x.1<=B->∃a,rD a/\w a<=Rows.uptoBulk x.1/\cF W (rC a) cs
theorem Ew.mono{rC:α->List D}{rD:α->Prop}{w:α->Nat}{B':Nat}(h:Ew aa P W base spare held e rC rD w B)(hb:B'<=B):Ew aa P W base spare held e rC rD w B':=fun n cs x h1 h2=>h n cs x h1 (abt h2 hb)
theorem Ew.str(he:P.underlying e=some .string):Ew aa P W base spare held e (fun s:List UInt8=>[D.str s]) (fun s=>s.length<1048577) (fun _=>0) 1048576:=fun n cs x h hw=>by obtain⟨s,rfl,rfl,_⟩:=DataW.trod_string he h;refine⟨s.data.toList,?_,aaO _,cF.one (by simp only[Rd];exact⟨s,rfl,rfl⟩)⟩;simp only[Rows.uptoBulk]at hw;omega
theorem Ew.int(he:P.underlying e=some (.int .i64)):Ew aa P W base spare held e (fun k:Int=>[D.int .i64 k]) (fun _=>True) (fun _=>0) B:=fun n cs x h _=>by obtain⟨a,_,h2⟩:=MS he n cs x h;exact⟨a,trivial,aaO _,h2⟩
theorem Ew.bool(he:P.underlying e=some .bool):Ew aa P W base spare held e (fun k:Bool=>[D.bool k]) (fun _=>True) (fun _=>0) B:=fun n cs x h _=>by obtain⟨b,rfl,_⟩:=DataW.trod_bool he h;exact⟨b,trivial,aaO _,cF.one (by simp only[Rd])⟩
theorem n8{rC:α->List D}{rD:α->Prop}{w:α->Nat}{sz:Nat}(ht:P.underlying t=some (.slice e))(hc:P.cellsOf e=sz)(h0:0<sz)(HP:Ew aa P W base spare held e rC rD w B){qf:Nat}{cs:List Value}{x:DataW H×List MemPlace}(h:DataW.trod aa P W base spare held qf t cs=some x)(hw:Rows.uptoBulk x.1<=B):∃l:List α,(∀a∈l,rD a)/\l.length<Rows.uptoBulk x.1/\(l.map w).sum<Rows.uptoBulk x.1/\cF W [.list (l.map rC)] cs:=by
 rcases Go.Deep.open_slice ht h with⟨rfl,-⟩|⟨a,len,cap,m,n,D',Pl,rfl,hb,hl,hm,hmm,rfl,hx⟩
 ·have:=tz x.1;exact⟨[],by simp,by simp;omega,by simp;omega,cF.one (by simp[Rd])⟩
 ·rw[hc]at hx;have hle:len<=m:=by rw[hmm];split<;>omega
  have Hq:=yW ((List.range len).map D');rw[aaC,List.length_range]at Hq;have Wn:Rows.uptoBulk (DataW.slice ((List.range len).map D') ((List.range (m - len)).map fun j=>D' (len+j)))=Rows.uptoBulkAll ((List.range len).map D')+Rows.uptoBulkAll ((List.range (m - len)).map fun j=>D' (len+j))+1:=by simp only[Rows.uptoBulk]
  have zm:=hw;dsimp only at zm⊢;rw[Wn]at zm⊢;have zl:∀i:Fin len,∃a':α,rD a'/\w a'<=Rows.uptoBulk (D' i.1)/\∃rU,W.cells? base (a.add (i.1*sz)) sz=some rU/\cF W (rC a') rU:=by intro i;obtain⟨rU,h1,h2⟩:=hx i.1 (by have:=i.2;omega);have hbi:Rows.uptoBulk (D' i.1)<=Rows.uptoBulkAll ((List.range len).map D'):=yV (abg.2 ⟨i.1,abn.2 i.2,rfl⟩);obtain⟨a',k1,k2,k3⟩:=HP _ _ _ h2 (by dsimp only;omega);exact⟨a',k1,k2,rU,h1,k3⟩
  let f:Fin len->α:=fun i=>Classical.choose (zl i)
  have hf:∀i,rD (f i)/\w (f i)<=Rows.uptoBulk (D' i.1)/\∃rU,W.cells? base (a.add (i.1*sz)) sz=some rU/\cF W (rC (f i)) rU:=fun i=>Classical.choose_spec (zl i)
  have lZ:((List.ofFn f).map w).sum<=Rows.uptoBulkAll ((List.range len).map D'):=by
   refine yX _ _ (by simp) fun i a' d ha hd=>?_
   obtain⟨hi,LO⟩:=aaA.1 ha;simp only[List.length_ofFn]at hi;simp only[List.getElem_ofFn]at LO;rw[aa9,List.getElem?_range hi]at hd;simp only[aaI,aat]at hd;rw[←LO,←hd];exact(hf ⟨i,hi⟩).2.1
  refine⟨List.ofFn f,?_,by simp;omega,by omega,?_ ⟩
  ·intro a' ha;obtain⟨i,rfl⟩:=List.mem_ofFn.1 ha;exact(hf i).1
  ·refine cF.one ?_;simp only[Rd];by_cases h0l:len=0
   ·subst h0l;exact .inl ⟨by simp,.inr ⟨a,cap,rfl⟩⟩
   ·have kC:0<len:=by omega
    obtain⟨-,-,rU,h1,-⟩:=hf ⟨0,kC⟩;obtain⟨-,h2,h3⟩:=World.cells?_some h1;have h4:=h3 0 h0;have nI:∃v,rU[0]? =some v:=⟨_,aaz (by omega)⟩;obtain⟨v,hv⟩:=nI;rw[hv]at h4;have hsp:=World.cell?_spot h4;have Cz:a.block<W.heap.size:=by have:=World.cells?_block h1 h0;simpa[Addr.add]using this
    have Kt:a.spot=none:=by simpa[Addr.add]using hsp
    have hae:a=⟨a.block,a.off,none⟩:=by cases a;simp at Kt;simp[Kt]
    refine .inr ⟨a.block,a.off,cap,sz,by rw[aaC,List.length_ofFn];rw[←hae],by simp;exact hl,fun _=>MR Cz,?_ ⟩;refine Gs _ _ fun i e' he=>?_
    simp only[aa9,aaB]at he;obtain⟨a',ha',rfl⟩:=he;obtain⟨hi,LO⟩:=aaA.1 ha';simp only[List.length_ofFn]at hi;simp only[List.getElem_ofFn]at LO;obtain⟨-,-,cs2,k1,k2⟩:=hf ⟨i,hi⟩;obtain⟨-,k3,k4⟩:=World.cells?_some k1;rw[←LO];refine⟨by rw[k2.1,k3],cV.kE (vs:=cs2) k2.1 k2.2 fun j v' fY=>?_ ⟩;have hj:j<sz:=by rw[←k3];exact(aaA.1 fY).1
    have:=k4 j hj;rw[fY]at this;rw[←this,hae,Addr.fF,Addr.fF]
theorem Ew.rows{rC:α->List D}{rD:α->Prop}{w:α->Nat}{sz:Nat}(ht:P.underlying t=some (.slice e))(hc:P.cellsOf e=sz)(h0:0<sz)(hB:B<=1048576)(HP:Ew aa P W base spare held e rC rD w B):Ew aa P W base spare held t (fun l:List α=>[D.list (l.map rC)]) (fun l=>(∀a∈l,rD a)/\l.length<1048577) (fun l=>(l.map w).sum) B:=fun n cs x h hw=>by obtain⟨l,h1,h2,h3,h4⟩:=n8 ht hc h0 HP h hw;exact⟨l,⟨h1,by omega⟩,acG h3,h4⟩
theorem eJ{fs:Array Field}(ht:P.underlying t=some (.struct fs)){qf:Nat}{cs:List Value}{x:DataW H×List MemPlace}(h:DataW.trod aa P W base spare held qf t cs=some x):cs.length=P.cellsOf t/\∃ys:List (DataW H×List MemPlace),ys.length=fs.size/\Rows.uptoBulk x.1=Rows.uptoBulkAll (ys.map (·.1))+1/\∀(i:Nat)(f:Field) y,fs[i]? =some f->ys[i]? =some y->∃n,DataW.trod aa P W base spare held n f.type ((cs.drop f.offset).take (P.cellsOf f.type))=some y:=by obtain⟨xs,n,_,rfl,hl,hlen,hf⟩:=DataW.trod_struct ht h;exact⟨hl,xs,hlen,by simp only[Rows.uptoBulk],fun i f y hi hy=>⟨n,(hf i f hi).trans hy⟩⟩
theorem Ew.two{f0 f1:Field}{k0 k1:Nat}(ht:P.underlying t=some (.struct #[f0,f1]))(hc:P.cellsOf t=k0+k1)(o0:f0.offset=0)(o1:f1.offset=k0)(c0:P.cellsOf f0.type=k0)(c1:P.cellsOf f1.type=k1){β γ:Type}{ea:α->List D}{ga:α->Prop}{wa:α->Nat}{eb:β->List D}{gb:β->Prop}{wb:β->Nat}(h0:Ew aa P W base spare held f0.type ea ga wa B)(h1:Ew aa P W base spare held f1.type eb gb wb B)(mk:α->β->γ){ec:γ->List D}{gc:γ->Prop}{wc:γ->Nat}(he:∀a b,ec (mk a b)=ea a++eb b)(hg:∀a b,ga a->gb b->gc (mk a b))(Pr:∀a b,wc (mk a b)<=wa a+wb b):Ew aa P W base spare held t ec gc wc B:=fun n cs x h hw=>by obtain⟨hl,ys,hlen,lZ,hf⟩:=eJ ht h;match ys,hlen with|[y0,y1],_=>simp only[aaG,aa5,Rows.uptoBulkAll]at lZ;obtain⟨n0,r0⟩:=hf 0 f0 y0 rfl rfl;obtain⟨n1,r1⟩:=hf 1 f1 y1 rfl rfl;rw[o0,c0]at r0;rw[o1,c1]at r1;obtain⟨a,g0,w0,s0⟩:=h0 _ _ _ r0 (by omega);obtain⟨b,g1,w1,s1⟩:=h1 _ _ _ r1 (by omega);have:=Pr a b;refine⟨mk a b,hg a b g0 g1,by omega,?_ ⟩;rw[he];exact cF.whole (cF.two 0 s0 (by simpa using s1)) (by rw[hl,hc])
end
end Fw.Tz
/-
  The module that an argument holds, read as data.
-/
namespace Fw.Tz
open Go Go.Proofs Fw.X Go.ChangeShapes Go.WideShapes Go.ChangeAt Go.RowKit Fw.Tz.Va Fw.Tz.Vb Fw.Tz.Tm Fw.Tz.Pn Fw.Tz.Cv
open Go.Proofs.YtpeomfjbcdahnaaGreatDoor
def I9(x:aq):Nat:=x.ts.length
def yY(l:List aq):Nat:=(l.map I9).sum
def re(x:Tm):Nat:=1+yY x.ak
def Hu(t:Tm):Nat:=(t.pre.map re).sum
structure NsS (x:Tm):Prop where
 ns:zp x
 J0:∀l∈x.ak,ui l
def UE(t:Tm):Prop:=∀x∈t.pre,NsS x
theorem yZ{α:Type}{f:α->List Tm}:∀l:List α,((l.flatMap f).map re).sum=(l.map fun a=>((f a).map re).sum).sum|[]=>rfl|a::l=>by rw[aaT,abl,List.sum_append,yZ l];simp
theorem MU(t:Tm):Hu t=re t+(t.kids.map Hu).sum:=by unfold Hu;rw[Tm.jc,aaG,abc,yZ]
theorem vo:∀(ts:List Cf)(acc:List (List UInt8)),(Td.nB acc ts).length<=acc.length+ts.length
 |[],acc=>by simp[Td.nB]
 |c::ts,acc=>by
  rw[Td.nB,abp];have:=vo ts (Mb.gD acc c.var);rw[Td.nB]at this;have h2:(Mb.gD acc c.var).length<=acc.length+1:=by rw[Mb.gD];split<;>simp
  simp only[aaq];omega
theorem vp:∀(ls:List aq)(acc:List (List UInt8)),(Td.kb acc ls).length<=acc.length+yY ls
 |[],acc=>by simp[Td.kb]
 |c::ls,acc=>by rw[Td.kb,abp];have:=vp ls (Td.nB acc c.ts);rw[Td.kb]at this;have h2:=vo c.ts acc;(simp only[yY,aaG,abc,I9]at*);omega
theorem vq:∀(xs:List (Tm×Nat))(acc:List (List UInt8)),(Td.je acc xs).length<=acc.length+((xs.map Prod.fst).map re).sum
 |[],acc=>by simp[Td.je]
 |c::xs,acc=>by rw[Td.je,abp];have:=vq xs (Td.kb acc c.1.ak);rw[Td.je]at this;have h2:=vp c.1.ak acc;(simp only[aaG,abc,re]at*);omega
theorem Gt(l:List Tm):l.length<=(l.map re).sum:=by
 induction l with
  |nil=>simp
  |cons a l ih=>simp only[aaG,abc,aaq,re]at*;omega
theorem UE.s{t:Tm}(h:UE t)(hw:Hu t<=1048576):Tt t:=by have h1:=Gt t.pre;have h2:=vq (t.dy 1) [];rw[Tm.j_]at h2;unfold Hu at hw;simp only[aar,aaR]at h2;exact⟨⟨fun x hx=>(h x hx).ns,by omega⟩,by omega⟩
section
variable {H:Type}{aa:TypeId×Value->H}{W:World}{base:Nat}{spare:Nat->Bool}{held:Bool}
theorem wX:Ew aa Tryz.prog W base spare held 9 (fun s:List UInt8=>[D.str s]) (fun s=>s.length<1048577) (fun _=>0) 1048576:=Ew.str Tryz.underlying9
theorem AA{B:Nat}:Ew aa Tryz.prog W base spare held 3 (fun k:Int=>[D.int .i64 k]) (fun _=>True) (fun _=>0) B:=Ew.int Tryz.underlying3
theorem Ku{B:Nat}:Ew aa Tryz.prog W base spare held 4 (fun k:Bool=>[D.bool k]) (fun _=>True) (fun _=>0) B:=Ew.bool Tryz.underlying4
theorem wCf:Ew aa Tryz.prog W base spare held 134 Cf.aa (fun c=>c.var.length<1048577) (fun _=>0) 1048576:=Ew.two Tryz.underlying134 (k0:=1) (k1:=1) k_ rfl rfl k_ k_ wX AA (fun s c=>(⟨s,c⟩:Cf)) (fun _ _=>rfl) (fun _ _ h _=>h) (fun _ _=>aaO _)
theorem wTs:Ew aa Tryz.prog W base spare held 111 (fun l:List Cf=>[D.list (l.map Cf.aa)]) (fun l=>l.length<1048577/\∀t∈l,t.var.length<1048577) List.length 1048576:=fun n cs x h hw=>by obtain⟨l,h1,h2,_,h4⟩:=n8 Tryz.underlying111 (sz:=2) k_ (by omega) wCf h hw;exact⟨l,⟨by omega,h1⟩,acG h2,h4⟩
theorem YD:Ew aa Tryz.prog W base spare held 113 aq.aa ui I9 1048576:=Ew.two Tryz.underlying113 (k0:=1) (k1:=1) k_ rfl rfl k_ k_ AA wTs (fun c ts=>(⟨c,ts⟩:aq)) (fun _ _=>rfl) (fun _ _ _ h=>h) (fun _ _=>by simp[I9])
theorem Kv:Ew aa Tryz.prog W base spare held 32 (fun l:List aq=>[D.list (l.map aq.aa)]) (fun l=>(∀a∈l,ui a)/\l.length<1048577) yY 1048576:=Ew.rows (sz:=2) Tryz.underlying32 k_ (by omega) (by omega) YD
def Tu(s:List UInt8×List aq):List D:=[.str s.1,.list (s.2.map aq.aa)]
theorem YE:Ew aa Tryz.prog W base spare held 34 Tu (fun s=>s.1.length<1048577/\s.2.length<1048577/\∀x∈s.2,ui x) (fun _=>0) 1048576:=Ew.two Tryz.underlying34 (k0:=1) (k1:=1) k_ rfl rfl k_ k_ wX Kv (fun r d=>(r,d)) (fun _ _=>rfl) (fun _ _ h k=>⟨h,k.2,k.1⟩) (fun _ _=>aaO _)
theorem wTy:Ew aa Tryz.prog W base spare held 36 Ty.aa Dg (fun _=>0) 1048576:=Ew.two Tryz.underlying36 (k0:=1) (k1:=2) k_ rfl rfl k_ k_ wX YE (fun e s=>(⟨e,s.1,s.2⟩:Ty)) (fun _ _=>rfl) (fun _ _ h k=>⟨h,k.1,k.2.1,k.2.2⟩) (fun _ _=>aaO _)
theorem Gu:Ew aa Tryz.prog W base spare held 37 (fun l:List Int=>[D.list (l.map encI)]) (fun l=>(∀a∈l,True)/\l.length<1048577) (fun l=>(l.map fun _=>0).sum) 1048576:=Ew.rows (sz:=1) Tryz.underlying37 k_ (by omega) (by omega) AA
theorem Kw:Ew aa Tryz.prog W base spare held 22 (fun l:List (List UInt8)=>[D.list (l.map encS)]) (fun l=>(∀a∈l,a.length<1048577)/\l.length<1048577) (fun l=>(l.map fun _=>0).sum) 1048576:=Ew.rows (sz:=1) Tryz.underlying22 k_ (by omega) (by omega) wX
structure Ar where
 e:List UInt8
 d:List Int
 v:List Int
def Kx(a:Ar):List D:=[.str a.e,.list (a.d.map encI),.list (a.v.map encI)]
theorem wAr:Ew aa Tryz.prog W base spare held 39 Kx (fun a=>a.e.length<1048577/\a.d.length<1048577/\a.v.length<1048577) (fun _=>0) 1048576:=fun n cs x h hw=>by obtain⟨hl,ys,hlen,lZ,hf⟩:=eJ Tryz.underlying39 h;match ys,hlen with|[y0,y1,y2],_=>simp only[aaG,aa5,Rows.uptoBulkAll]at lZ;obtain⟨n0,r0⟩:=hf 0 _ y0 rfl rfl;obtain⟨n1,r1⟩:=hf 1 _ y1 rfl rfl;obtain⟨n2,r2⟩:=hf 2 _ y2 rfl rfl;obtain⟨e,g0,-,s0⟩:=wX _ _ _ r0 (by omega);obtain⟨d,g1,-,s1⟩:=Gu _ _ _ r1 (by omega);obtain⟨v,g2,-,s2⟩:=Gu _ _ _ r2 (by omega);exact⟨⟨e,d,v⟩,⟨g0,g1.2,g2.2⟩,aaO _,cF.whole (n:=3) (cF.two (k1:=2) (k2:=1) 0 (cF.two (k1:=1) (k2:=1) 0 s0 s1) s2) (hl.trans k_)⟩
theorem wTm:∀B,B<=1048576->Ew aa Tryz.prog W base spare held 42 Tm.cells UE Hu B:=by
 intro B;induction B using Nat.strongRecOn with
  |_ B ih=>
   intro hB n cs x h hw;obtain⟨hl,ys,hlen,lZ,hf⟩:=eJ Tryz.underlying42 h;match ys,hlen with
    |[y0,y1,y2,y3,y4,y5,y6,y7],_=>
     simp only[aaG,aa5,Rows.uptoBulkAll]at lZ;obtain⟨n0,r0⟩:=hf 0 _ y0 rfl rfl;obtain⟨n1,r1⟩:=hf 1 _ y1 rfl rfl;obtain⟨n2,r2⟩:=hf 2 _ y2 rfl rfl;obtain⟨n3,r3⟩:=hf 3 _ y3 rfl rfl;obtain⟨n4,r4⟩:=hf 4 _ y4 rfl rfl;obtain⟨n5,r5⟩:=hf 5 _ y5 rfl rfl;obtain⟨n6,r6⟩:=hf 6 _ y6 rfl rfl;obtain⟨n7,r7⟩:=hf 7 _ y7 rfl rfl;obtain⟨v0,-,-,s0⟩:=AA (B:=B) _ _ _ r0 (by omega);obtain⟨v1,-,-,s1⟩:=AA (B:=B) _ _ _ r1 (by omega);obtain⟨v2,g2,-,s2⟩:=wX _ _ _ r2 (by omega);obtain⟨v3,-,-,s3⟩:=AA (B:=B) _ _ _ r3 (by omega);obtain⟨v4,g4,-,s4⟩:=wAr _ _ _ r4 (by omega);obtain⟨v5,g5,w5,s5⟩:=Kv _ _ _ r5 (by omega);obtain⟨v6,g6,-,s6⟩:=Gu _ _ _ r6 (by omega);have hk:Ew aa Tryz.prog W base spare held 42 Tm.cells UE Hu (B - 1):=ih (B - 1) (by have:=tz y0.1;omega) (by omega);obtain⟨v7,g7,w7,w8,s7⟩:=n8 Tryz.underlying40 (sz:=10) k_ (by omega) hk r7 (by omega);refine⟨.mk v0 v1 v2 v3 v4.e v4.d v4.v v5 v6 v7,?_,?_,?_⟩
     ·intro y hy;rw[Tm.jc]at hy;rcases aaX.1 hy with rfl|hy
      ·exact⟨⟨g2,g4.1,g4.2.1,g4.2.2,g5.2,fun l hl=>(g5.1 l hl).sm,g6.2,by show v7.length<1048577;omega⟩,g5.1⟩
      ·obtain⟨k,Uc,pX⟩:=List.mem_flatMap.1 hy;exact g7 k Uc y pX
     ·rw[MU];show 1+yY v5+(v7.map Hu).sum<=_;omega
     ·rw[show Tm.cells (.mk v0 v1 v2 v3 v4.e v4.d v4.v v5 v6 v7)=((((((([D.int .i64 v0]++[D.int .i64 v1])++[D.str v2])++[D.int .i64 v3])++Kx v4)++[D.list (v5.map aq.aa)])++[D.list (v6.map encI)])++[D.list (v7.map Tm.cells)])from ?_]
      ·exact cF.whole (n:=10) (cF.two (k1:=9) (k2:=1) 0 (cF.two (k1:=8) (k2:=1) 0 (cF.two (k1:=7) (k2:=1) 0 (cF.two (k1:=4) (k2:=3) 0 (cF.two (k1:=3) (k2:=1) 0 (cF.two (k1:=2) (k2:=1) 0 (cF.two (k1:=1) (k2:=1) 0 s0 s1) s2) s3) s4) s5) s6) s7) (hl.trans k_)
      ·rw[show v7.map Tm.cells=v7.map Tm.aa from abQ fun t _=>(Tm.wW t).symm];rfl
theorem wPm:Ew aa Tryz.prog W base spare held 68 Pm.aa (fun p=>p.name.length<1048577/\Dg p.ty) (fun _=>0) 1048576:=fun n cs x h hw=>by obtain⟨hl,ys,hlen,lZ,hf⟩:=eJ Tryz.underlying68 h;match ys,hlen with|[y0,y1,y2],_=>simp only[aaG,aa5,Rows.uptoBulkAll]at lZ;obtain⟨n0,r0⟩:=hf 0 _ y0 rfl rfl;obtain⟨n1,r1⟩:=hf 1 _ y1 rfl rfl;obtain⟨n2,r2⟩:=hf 2 _ y2 rfl rfl;obtain⟨e,g0,-,s0⟩:=wX _ _ _ r0 (by omega);obtain⟨d,-,-,s1⟩:=Ku (B:=1048576) _ _ _ r1 (by omega);obtain⟨v,g2,-,s2⟩:=wTy _ _ _ r2 (by omega);exact⟨⟨e,d,v⟩,⟨g0,g2⟩,aaO _,cF.whole (n:=5) (cF.two (k1:=2) (k2:=3) 0 (cF.two (k1:=1) (k2:=1) 0 s0 s1) s2) (hl.trans k_)⟩
theorem wPs:Ew aa Tryz.prog W base spare held 31 (fun l:List Pm=>[D.list (l.map Pm.aa)]) (fun l=>(∀a∈l,a.name.length<1048577/\Dg a.ty)/\l.length<1048577) (fun l=>(l.map fun _=>0).sum) 1048576:=Ew.rows (sz:=5) Tryz.underlying31 k_ (by omega) (by omega) wPm
structure YF (d:Df):Prop where
 c:xj d
 body:d.body.pre.length<1048577
theorem wDf:Ew aa Tryz.prog W base spare held 44 Df.aa YF (fun _=>0) 1048576:=fun n cs x h hw=>by
 obtain⟨hl,ys,hlen,lZ,hf⟩:=eJ Tryz.underlying44 h;match ys,hlen with
  |[y0,y1,y2,y3,y4,y5],_=>
   simp only[aaG,aa5,Rows.uptoBulkAll]at lZ;obtain⟨n0,r0⟩:=hf 0 _ y0 rfl rfl;obtain⟨n1,r1⟩:=hf 1 _ y1 rfl rfl;obtain⟨n2,r2⟩:=hf 2 _ y2 rfl rfl;obtain⟨n3,r3⟩:=hf 3 _ y3 rfl rfl;obtain⟨n4,r4⟩:=hf 4 _ y4 rfl rfl;obtain⟨n5,r5⟩:=hf 5 _ y5 rfl rfl;obtain⟨v0,g0,-,s0⟩:=wX _ _ _ r0 (by omega);obtain⟨v1,-,-,s1⟩:=AA (B:=1048576) _ _ _ r1 (by omega);obtain⟨v2,g2,-,s2⟩:=wPs _ _ _ r2 (by omega);obtain⟨v3,-,-,s3⟩:=Ku (B:=1048576) _ _ _ r3 (by omega);obtain⟨v4,g4,-,s4⟩:=wTy _ _ _ r4 (by omega);obtain⟨v5,g5,w5,s5⟩:=wTm 1048576 (aaE _) _ _ _ r5 (by omega);have hp:=Gt v5.pre;have hw5:Hu v5<=1048576:=by omega
   refine⟨⟨v0,v1,v2,v3,v4,v5⟩,⟨⟨⟨g0,g2.2,g2.1,g4,g5.s hw5⟩,fun y hy l hl=>((g5 y hy).J0 l hl).1⟩,?_⟩,aaO _,?_⟩
   ·unfold Hu at hw5;show v5.pre.length<1048577;omega
   ·exact cF.whole (n:=17) (cF.two (k1:=7) (k2:=10) 0 (cF.two (k1:=4) (k2:=3) 0 (cF.two (k1:=3) (k2:=1) 0 (cF.two (k1:=2) (k2:=1) 0 (cF.two (k1:=1) (k2:=1) 0 s0 s1) s2) s3) s4) s5) (hl.trans k_)
theorem YG:Ew aa Tryz.prog W base spare held 23 (fun l:List Df=>[D.list (l.map Df.aa)]) (fun l=>(∀a∈l,YF a)/\l.length<1048577) (fun l=>(l.map fun _=>0).sum) 1048576:=Ew.rows (sz:=17) Tryz.underlying23 k_ (by omega) (by omega) wDf
structure MdG (m:Md):Prop where
 s:Px.qy m
 d:∀d∈m.defs,YF d
theorem wMd:Ew aa Tryz.prog W base spare held 25 Md.aa MdG (fun _=>0) 1048576:=fun n cs x h hw=>by obtain⟨hl,ys,hlen,lZ,hf⟩:=eJ Tryz.underlying25 h;match ys,hlen with|[y0,y1,y2,y3],_=>simp only[aaG,aa5,Rows.uptoBulkAll]at lZ;obtain⟨n0,r0⟩:=hf 0 _ y0 rfl rfl;obtain⟨n1,r1⟩:=hf 1 _ y1 rfl rfl;obtain⟨n2,r2⟩:=hf 2 _ y2 rfl rfl;obtain⟨n3,r3⟩:=hf 3 _ y3 rfl rfl;obtain⟨v0,g0,-,s0⟩:=wX _ _ _ r0 (by omega);obtain⟨v1,g1,-,s1⟩:=Kw _ _ _ r1 (by omega);obtain⟨v2,g2,-,s2⟩:=Kw _ _ _ r2 (by omega);obtain⟨v3,g3,-,s3⟩:=YG _ _ _ r3 (by omega);exact⟨⟨v0,v1,v2,v3⟩,⟨⟨g0,⟨g1.2,g1.1⟩,⟨g2.2,g2.1⟩,g3.2,fun d hd=>(g3.1 d hd).c.df⟩,g3.1⟩,aaO _,cF.whole (n:=4) (cF.two (k1:=3) (k2:=1) 0 (cF.two (k1:=2) (k2:=1) 0 (cF.two (k1:=1) (k2:=1) 0 s0 s1) s2) s3) (hl.trans k_)⟩
end
theorem Gv{W:World}{ds:List D}{cs:Array Value}{vs:List V}(h:cF W ds cs.toList)(e:ds.map .d=vs):RV gE W (.agg vs) (.agg cs):=by subst e;simp only[RV];exact⟨cs,rfl,cF.PU h⟩
end Fw.Tz
/-
  The first world of the law.
-/
namespace Fw.Tz
open Go Go.Proofs Fw.X Go.ChangeShapes Go.WideShapes Go.ChangeAt Go.RowKit
open Go.Proofs.YtpeomfjbcdahnaaGreatDoor
variable {W:World}
abbrev tA:List (String×DataW Unit):=Rows.moduleNamesUptoRow.laid
theorem wY{laid:List (String×DataW Unit)}(h:laidMetH Tryz.prog laid W)(name:String)(k:IntKind)(zs:List Int)(g:Nat)(t e:TypeId)(n:Nat)(hl:(laid.filter fun x=>x.1==name)=[(name,Lib.tabData k zs)])(hg:Tryz.prog.globalNamed name=some g)(Uf:(Tryz.prog.globals[g]? ).map (·.type)=some t)(ht:Tryz.prog.underlying t=some (.array n e))(he:Tryz.prog.underlying e=some (.int k))(hce:Tryz.prog.cellsOf e=1)(hct:Tryz.prog.cellsOf t=n)(Ce:([(name,Lib.tabData k zs)].all fun(x:String×DataW Unit)=>x.2.handleName?.isNone)=true):Lib.TabIs Tryz.prog W name k zs:=by have h2:=laidMetH.filter (fun x=>x.1==name) h;rw[hl,MakeChecks.laidMetH_plain _ _ _ Ce]at h2;exact Lib.tabIs_of_head hg Uf ht he hce hct h2
theorem BP{laid:List (String×DataW Unit)}(h:laidMetH Tryz.prog laid W)(name:String)(en:String)(d:DataW Unit)(g:Nat)(ms:Array (String×TypeId))(hl:(laid.filter fun x=>x.1==name)=[(name,.iface en d)])(hg:Tryz.prog.globalNamed name=some g)(Uf:(Tryz.prog.globals[g]? ).map (·.type)=some 166)(ht:Tryz.prog.underlying 166=some (.interface ms))(Ce:([(name,DataW.iface en d)].all fun(x:String×DataW Unit)=>x.2.handleName?.isNone)=true):∃ev,W.cell? ⟨g,0,none⟩=some ev/\(ev=.nilIface\/∃te pe,ev=.iface te pe):=by have h2:=laidMetH.filter (fun x=>x.1==name) h;rw[hl,MakeChecks.laidMetH_plain _ _ _ Ce]at h2;obtain⟨ps,⟨g',t,cs,qf,p,q,hg',ht',hv,hd,_,_⟩,_,_⟩:=h2;obtain rfl:=acq (hg.symm.trans hg');obtain rfl:=acq (Uf.symm.trans ht');obtain⟨aaa,u,v,nI,_,_⟩:=iface_of_trod ht hd;refine⟨.iface u v,?_,.inr ⟨u,v,rfl⟩⟩;rw[World.var?_cell hg hv 0,←Array.getElem?_toList,nI];rfl
def KA:List Int:=[0,1,28,2,29,14,24,3,30,22,20,15,25,17,4,8,31,27,13,23,21,19,16,7,26,12,18,6,11,5,10,9]
theorem Tx(h:laidMetH Tryz.prog tA W)(YH:W.ShapedOpen Tryz.prog):W0 W:=by
 have hdb:=wY h "math/bits.deBruijn32tab" .u8 KA 8 376 5 32 k_ k_ k_ k_ k_ k_ k_ k_;have hc:=hdb.cell (show Tryz.prog.globalNamed "math/bits.deBruijn32tab"=some 8 by kernel_rfl) 0 (by simp[KA]);have TA:7<W.heap.size:=by
  rcases abu 8 W.heap.size with h8|h8
  ·omega
  ·exfalso;have:W.heap[8]? =none:=Array.getElem?_eq_none h8;simp[World.cell?,this]at hc
 refine⟨TA,cell_of_shapedOpen_int (P:=Tryz.prog) (g:=1) (t:=3) (zero:= #[.int .i64 0]) YH (abM k_) k_ rfl k_ k_ Tryz.underlying3,?_,?_,?_,?_⟩
 ·exact wY h "internal/strconv.uint64pow10" .u64 Lib.pow10Tab 3 358 235 20 k_ k_ k_ k_ k_ k_ k_ k_
 ·exact wY h "strings.asciiSpace" .u8 Lib.asciiSpaceTab 0 255 5 256 k_ k_ k_ k_ k_ k_ k_ k_
 ·exact BP h "strconv.ErrSyntax" "*errors.errorString" (.ptr (.agg [.lit (.string [105,110,118,97,108,105,100,32,115,121,110,116,97,120])])) 6 _ k_ k_ k_ Tryz.underlying166 k_
 ·exact BP h "strconv.ErrRange" "*errors.errorString" (.ptr (.agg [.lit (.string [118,97,108,117,101,32,111,117,116,32,111,102,32,114,97,110,103,101])])) 7 _ k_ k_ k_ Tryz.underlying166 k_
theorem own:ownKnob Tryz.prog.godebug=none:=k_
end Fw.Tz
