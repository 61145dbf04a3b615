/-
  From a call that touches nothing to the world's own call.
-/
import Derived.Test.YtpeomfjbcdahnaaGreatDoorTc
import Derived.Test.YtpeomfjbcdahnaaGreatDoorTie
import Derived.Test.YtpeomfjbcdahnaaGreatDoorCards
import Derived.ProofKit
import Derived.Handy
import Derived.Lay
import Derived.SevenTiedAt
import Derived.Shelf.Vars
import Derived.HandedShaped
import Derived.Test.YtpeomfjbcdahnaaGreatDoorFg
import Derived.Deep.Slices
import Derived.ChangeStays
import Derived.ReadAgain
import Derived.ChangeOld
import Derived.Test.YtpeomfjbcdahnaaGreatDoorTq
import Derived.Handed
set_option linter.unusedSimpArgs false
set_option maxRecDepth 100000
set_option linter.unusedVariables false
namespace Fw.Tz
open Go Go.Proofs Fw.X Go.ChangeShapes Go.WideShapes Go.ChangeAt Go.RowKit
open Go.Proofs.YtpeomfjbcdahnaaGreatDoor
variable {W:World}
theorem y8{f:FuncId}{args:List V}{v:V}{vs:Array Value}(h:PC P (gl W) f args v)(cX:aN ⟨fun _=>False,fun _=>none,fun _=>False,0⟩ W args vs.toList):Calls P f vs W fun e w'=>∃x,e=.returned x/\Below W.heap.size W w'/\RV ⟨fun _=>False,fun _=>none,fun _=>False,0⟩ w' v x:=by
 have hg:dX (gl W) ⟨fun _=>False,fun _=>none,fun _=>False,0⟩ W:=by refine⟨fun n cs hn=>(by cases hn),fun k hk=>⟨⟨hk,fun h=>h,fun b x hx=>(by cases hx)⟩,rfl⟩⟩
 refine(h.2 ⟨fun _=>False,fun _=>none,fun _=>False,0⟩ W vs cX (fun k hk=>hk.elim) (fun b y k hy=>(by cases hy)) hg).mono ?_;rintro e w' ⟨x,rfl,hx,he,_⟩;exact⟨x,rfl,⟨he.os,he.tape,he.output,he.size,fun k hk=>(he.keeps k ⟨hk,fun h=>h,fun b x hx=>(by cases hx)⟩).2⟩,hx⟩
end Fw.Tz
/-
  Arguments that are rows: read as data, and read again behind a call that writes nothing of theirs.
-/
namespace Fw.Tz
open Go Go.Proofs Fw.X Go.ChangeShapes Go.WideShapes Go.ChangeAt Go.RowKit
open Go.Proofs.YtpeomfjbcdahnaaGreatDoor
abbrev gE:G:=⟨fun _=>False,fun _=>none,fun _=>False,0⟩
theorem MS{W:World}{k:Nat}(h:k<W.heap.size):cl gE W k:=⟨h,fun h=>h,fun b x hx=>by cases hx⟩
theorem kids:Kids Tryz.prog (·<Tryz.prog.types.size):=kids_rows k_ k_
theorem AN:∀t e,t<Tryz.prog.types.size->Tryz.prog.underlying t=some (.slice e)->0<Tryz.prog.cellsOf e:=slices_full_of _ k_
section
variable {H:Type}{aa:TypeId×Value->H}{W W':World}
theorem AP(hb:Below W.heap.size W W'){t:TypeId}{v:Value}{d:DataW H}{ps:List MemPlace}(ht:t<Tryz.prog.types.size)(h:DataW.Trod aa Tryz.prog W 0 (fun _=>true) true t v d ps):DataW.Trod aa Tryz.prog W' 0 (fun b=>decide (b<W.heap.size)) true t v d ps:=by
 obtain⟨n,hn⟩:=h;have cy:=DataW.trod_lt n t _ _ hn;refine⟨n,DataW.trod_stays kids (fun{t e} ht hu=>AN t e ht hu) (fun h=>by cases h) ht hn (fun p hp=>?_ ) (fun p hp=>aaQ (cy p hp))⟩;have T7:=cy p hp;cases p with
  |cell b off=>exact World.cell?_of_block (w:=W) (hb.block b T7)
  |map b=>exact hb.block b T7
theorem nK(hb:Below W.heap.size W W'):∀{ts:List TypeId}{vs:List Value}{ds:List (DataW H)}{ps:List MemPlace},(∀t∈ts,t<Tryz.prog.types.size)->DataW.TrodAll aa Tryz.prog W 0 (fun _=>true) true ts vs ds ps->DataW.TrodAll aa Tryz.prog W' 0 (fun b=>decide (b<W.heap.size)) true ts vs ds ps|[],[],[],_,_,h=>h|t::ts,v::vs,d::ds,_,ht,⟨p,q,h1,h2,e⟩=>⟨p,q,AP hb (ht t abD) h1,nK hb (fun t h=>ht t (aaY _ h)) h2,e⟩
end
theorem Gt{w:World}{im:Nat->Prop}{aM sz:Nat}:∀(es:List (List D))(off:Nat),(∀(i:Nat)(e:List D),es[i]? =some e->e.length=sz/\cP w im aM (off+i*sz) e)->dR w im aM off sz es
 |[],_,_=>by simp only[dR]
 |e::es,off,h=>by simp only[dR];have h0:=h 0 e rfl;refine⟨h0.1,by simpa using h0.2,Gt es (off+sz) fun i e' he=>?_ ⟩;have:=h (i+1) e' (by simpa using he);rwa[show off+(i+1)*sz=off+sz+i*sz by rw[abJ];omega]at this
section
variable {H:Type}{aa:TypeId×Value->H}{P:Program}{W:World}{base:Nat}{spare:Nat->Bool}{held:Bool}
def cC(W:World)(ds:List D)(cs:List Value):Prop:=ds.length=cs.length/\∀(j:Nat)(d:D)(v:Value),ds[j]? =some d->cs[j]? =some v->Rd W (cl gE W) d v
theorem cC.one{d:D}{v:Value}(h:Rd W (cl gE W) d v):cC W [d] [v]:=⟨rfl,fun j d' v' h1 h2=>by
 cases j with
  |zero=>simp at h1 h2;subst h1;subst h2;exact h
  |succ j=>simp at h1⟩
theorem cC.app{a b:List D}{x y:List Value}(h:cC W a x)(k:cC W b y):cC W (a++b) (x++y):=⟨by
 simp[h.1,k.1],fun j d v h1 h2=>by
  by_cases hj:j<a.length
  ·rw[abr hj]at h1;rw[abr (by rw[←h.1];exact hj)]at h2;exact h.2 j d v h1 h2
  ·rw[abc (by omega)]at h1;rw[abc (by rw[←h.1];omega),←h.1]at h2;exact k.2 _ d v h1 h2⟩
theorem MU{e:TypeId}(he:P.underlying e=some (.int .i64))(n:Nat)(cs:List Value)(x:DataW H×List MemPlace)(h:DataW.trod aa P W base spare held n e cs=some x):∃a:Int,(-9223372036854775808<=a/\a<=9223372036854775807)/\cC W [.int .i64 a] cs:=by
 obtain⟨k,rfl,-,hw⟩:=DataW.trod_int he h;have h1:IntKind.i64.min<=k/\k<=IntKind.i64.max:=by simp only[Lit.wf,aas,aaD]at hw;exact hw
 have e1:IntKind.i64.min= -9223372036854775808:=rfl;have e2:IntKind.i64.max=9223372036854775807:=rfl;rw[e1,e2]at h1;exact⟨k,h1,cC.one (by simp only[Rd])⟩
end
end Fw.Tz
/-
  Arguments read as data with their weights: terms and modules of small bulk.
-/
namespace Fw.Tz
open Go Go.Proofs Fw.X Go.ChangeShapes Go.WideShapes Go.ChangeAt Go.RowKit Fw.Tz.Va Fw.Tz.Vb Fw.Tz.Tm Fw.Tz.Pn Fw.Tz.Cv
open Go.Proofs.YtpeomfjbcdahnaaGreatDoor
section
variable {W:World}
theorem cC.two{a b:List D}{cs:List Value}{k1 k2:Nat}(o:Nat)(h1:cC W a ((cs.drop o).take k1))(h2:cC W b ((cs.drop (o+k1)).take k2)):cC W (a++b) ((cs.drop o).take (k1+k2)):=by rw[List.take_add,acw];exact h1.app h2
theorem cC.whole{a:List D}{cs:List Value}{n:Nat}(h:cC W a ((cs.drop 0).take n))(hn:cs.length=n):cC W a cs:=by rwa[abu,List.take_of_length_le (by omega)]at h
theorem cC.JT:∀{ds:List D}{cs:List Value},cC W ds cs->aN gE W (ds.map .d) cs
 |[],[],_=>trivial
 |[],_::_,h=>by have:=h.1;simp at this
 |_::_,[],h=>by have:=h.1;simp at this
 |d::ds,c::cs,h=>by simp only[aaB,aN];refine⟨by simp only[RV];exact h.2 0 d c rfl rfl,cC.JT ⟨by have:=h.1;simpa using this,fun j d' v' h1 h2=>h.2 (j+1) d' v' (by simpa using h1) (by simpa using h2)⟩⟩
end
section
variable {H:Type}
theorem tN(d:DataW H):1<=Rows.uptoBulk d:=by
 cases d with
  |lit l=>cases l<;>simp[Rows.uptoBulk]
  |_=>simp[Rows.uptoBulk]
theorem y9{d:DataW H}:∀{l:List (DataW H)},d∈l->Rows.uptoBulk d<=Rows.uptoBulkAll l
 |[],h=>by cases h
 |x::r,h=>by
  simp only[Rows.uptoBulkAll];rcases aaT.1 h with rfl|h
  ·omega
  ·have:=y9 h;omega
theorem y_:∀l:List (DataW H),l.length<=Rows.uptoBulkAll l
 |[]=>by simp[Rows.uptoBulkAll]
 |x::r=>by have:=tN x;have:=y_ r;simp only[Rows.uptoBulkAll,aap];omega
theorem za{α:Type}{w:α->Nat}:∀(l:List α)(ds:List (DataW H)),l.length=ds.length->(∀(i:Nat) a d,l[i]? =some a->ds[i]? =some d->w a<=Rows.uptoBulk d)->(l.map w).sum<=Rows.uptoBulkAll ds
 |[],_,_,_=>by simp
 |a::l,[],h,_=>by simp at h
 |a::l,d::ds,h,hw=>by simp only[aaB,aa8,Rows.uptoBulkAll];have h1:=hw 0 a d rfl rfl;have h2:=za l ds (by simpa using h) (fun i x y hx hy=>hw (i+1) x y (by simpa using hx) (by simpa using hy));omega
end
section
variable {H:Type}{aa:TypeId×Value->H}{P:Program}{W:World}{base:Nat}{spare:Nat->Bool}{held:Bool}
variable {e t:TypeId}{B:Nat}{α:Type}
def Ew(aa:TypeId×Value->H)(P:Program)(W:World)(base:Nat)(spare:Nat->Bool)(held:Bool)(e:TypeId)(rJ:α->List D)(rK:α->Prop)(w:α->Nat)(B:Nat):Prop:=∀(n:Nat)(cs:List Value)(x:DataW H×List MemPlace),DataW.trod aa P W base spare held n e cs=some x->Rows.uptoBulk x.1<=B->∃a,rK a/\w a<=Rows.uptoBulk x.1/\cC W (rJ a) cs
theorem Ew.mono{rJ:α->List D}{rK:α->Prop}{w:α->Nat}{B':Nat}(h:Ew aa P W base spare held e rJ rK w B)(hb:B'<=B):Ew aa P W base spare held e rJ rK w B':=fun n cs x h1 h2=>h n cs x h1 (aby h2 hb)
theorem Ew.str(he:P.underlying e=some .string):Ew aa P W base spare held e (fun s:List UInt8=>[D.str s]) (fun s=>s.length<1048577) (fun _=>0) 1048576:=fun n cs x h hw=>by obtain⟨s,rfl,rfl,_⟩:=DataW.trod_string he h;refine⟨s.data.toList,?_,aaP _,cC.one (by simp only[Rd];exact⟨s,rfl,rfl⟩)⟩;simp only[Rows.uptoBulk]at hw;omega
theorem Ew.int(he:P.underlying e=some (.int .i64)):Ew aa P W base spare held e (fun k:Int=>[D.int .i64 k]) (fun _=>True) (fun _=>0) B:=fun n cs x h _=>by obtain⟨a,_,h2⟩:=MU he n cs x h;exact⟨a,trivial,aaP _,h2⟩
theorem Ew.bool(he:P.underlying e=some .bool):Ew aa P W base spare held e (fun k:Bool=>[D.bool k]) (fun _=>True) (fun _=>0) B:=fun n cs x h _=>by obtain⟨b,rfl,_⟩:=DataW.trod_bool he h;exact⟨b,trivial,aaP _,cC.one (by simp only[Rd])⟩
theorem ow{rJ:α->List D}{rK:α->Prop}{w:α->Nat}{sz:Nat}(ht:P.underlying t=some (.slice e))(hc:P.cellsOf e=sz)(h0:0<sz)(HN:Ew aa P W base spare held e rJ rK w B){jU:Nat}{cs:List Value}{x:DataW H×List MemPlace}(h:DataW.trod aa P W base spare held jU t cs=some x)(hw:Rows.uptoBulk x.1<=B):∃l:List α,(∀a∈l,rK a)/\l.length<Rows.uptoBulk x.1/\(l.map w).sum<Rows.uptoBulk x.1/\cC W [.list (l.map rJ)] cs:=by
 rcases Go.Deep.open_slice ht h with⟨rfl,-⟩|⟨a,len,cap,m,n,D',Pl,rfl,hb,hl,hm,hmm,rfl,hx⟩
 ·have:=tN x.1;exact⟨[],by simp,by simp;omega,by simp;omega,cC.one (by simp[Rd])⟩
 ·rw[hc]at hx;have hle:len<=m:=by rw[hmm];split<;>omega
  have Hn:=y_ ((List.range len).map D');rw[aaE,List.length_range]at Hn;have V':Rows.uptoBulk (DataW.slice ((List.range len).map D') ((List.range (m - len)).map fun j=>D' (len+j)))=Rows.uptoBulkAll ((List.range len).map D')+Rows.uptoBulkAll ((List.range (m - len)).map fun j=>D' (len+j))+1:=by simp only[Rows.uptoBulk]
  have zx:=hw;dsimp only at zx⊢;rw[V']at zx⊢;have xf:∀i:Fin len,∃a':α,rK a'/\w a'<=Rows.uptoBulk (D' i.1)/\∃sf,W.cells? base (a.add (i.1*sz)) sz=some sf/\cC W (rJ a') sf:=by intro i;obtain⟨sf,h1,h2⟩:=hx i.1 (by have:=i.2;omega);have hbi:Rows.uptoBulk (D' i.1)<=Rows.uptoBulkAll ((List.range len).map D'):=y9 (aba.2 ⟨i.1,aa'.2 i.2,rfl⟩);obtain⟨a',k1,k2,k3⟩:=HN _ _ _ h2 (by dsimp only;omega);exact⟨a',k1,k2,sf,h1,k3⟩
  let f:Fin len->α:=fun i=>Classical.choose (xf i)
  have hf:∀i,rK (f i)/\w (f i)<=Rows.uptoBulk (D' i.1)/\∃sf,W.cells? base (a.add (i.1*sz)) sz=some sf/\cC W (rJ (f i)) sf:=fun i=>Classical.choose_spec (xf i)
  have mf:((List.ofFn f).map w).sum<=Rows.uptoBulkAll ((List.range len).map D'):=by
   refine za _ _ (by simp) fun i a' d ha hd=>?_
   obtain⟨hi,LR⟩:=aaz.1 ha;simp only[List.length_ofFn]at hi;simp only[List.getElem_ofFn]at LR;rw[aa4,List.getElem?_range hi]at hd;simp only[aaI,aar]at hd;rw[←LR,←hd];exact(hf ⟨i,hi⟩).2.1
  refine⟨List.ofFn f,?_,by simp;omega,by omega,?_ ⟩
  ·intro a' ha;obtain⟨i,rfl⟩:=List.mem_ofFn.1 ha;exact(hf i).1
  ·refine cC.one ?_;simp only[Rd];by_cases h0l:len=0
   ·subst h0l;exact .inl ⟨by simp,.inr ⟨a,cap,rfl⟩⟩
   ·have kL:0<len:=by omega
    obtain⟨-,-,sf,h1,-⟩:=hf ⟨0,kL⟩;obtain⟨-,h2,h3⟩:=World.cells?_some h1;have h4:=h3 0 h0;have nS:∃v,sf[0]? =some v:=⟨_,aay (by omega)⟩;obtain⟨v,hv⟩:=nS;rw[hv]at h4;have hsp:=World.cell?_spot h4;have CL:a.block<W.heap.size:=by have:=World.cells?_block h1 h0;simpa[Addr.add]using this
    have Ku:a.spot=none:=by simpa[Addr.add]using hsp
    have ZZ:a=⟨a.block,a.off,none⟩:=by cases a;simp at Ku;simp[Ku]
    refine .inr ⟨a.block,a.off,cap,sz,by rw[aaE,List.length_ofFn];rw[←ZZ],by simp;exact hl,fun _=>MS CL,?_ ⟩;refine Gt _ _ fun i e' he=>?_
    simp only[aa4,aaA]at he;obtain⟨a',ha',rfl⟩:=he;obtain⟨hi,LR⟩:=aaz.1 ha';simp only[List.length_ofFn]at hi;simp only[List.getElem_ofFn]at LR;obtain⟨-,-,cs2,k1,k2⟩:=hf ⟨i,hi⟩;obtain⟨-,k3,k4⟩:=World.cells?_some k1;rw[←LR];refine⟨by rw[k2.1,k3],cP.kN (vs:=cs2) k2.1 k2.2 fun j v' fV=>?_ ⟩;have hj:j<sz:=by rw[←k3];exact(aaz.1 fV).1
    have:=k4 j hj;rw[fV]at this;rw[←this,ZZ,Addr.fF,Addr.fF]
theorem Ew.rows{rJ:α->List D}{rK:α->Prop}{w:α->Nat}{sz:Nat}(ht:P.underlying t=some (.slice e))(hc:P.cellsOf e=sz)(h0:0<sz)(hB:B<=1048576)(HN:Ew aa P W base spare held e rJ rK w B):Ew aa P W base spare held t (fun l:List α=>[D.list (l.map rJ)]) (fun l=>(∀a∈l,rK a)/\l.length<1048577) (fun l=>(l.map w).sum) B:=fun n cs x h hw=>by obtain⟨l,h1,h2,h3,h4⟩:=ow ht hc h0 HN h hw;exact⟨l,⟨h1,by omega⟩,acF h3,h4⟩
theorem eG{fs:Array Field}(ht:P.underlying t=some (.struct fs)){jU:Nat}{cs:List Value}{x:DataW H×List MemPlace}(h:DataW.trod aa P W base spare held jU t cs=some x):cs.length=P.cellsOf t/\∃ys:List (DataW H×List MemPlace),ys.length=fs.size/\Rows.uptoBulk x.1=Rows.uptoBulkAll (ys.map (·.1))+1/\∀(i:Nat)(f:Field) y,fs[i]? =some f->ys[i]? =some y->∃n,DataW.trod aa P W base spare held n f.type ((cs.drop f.offset).take (P.cellsOf f.type))=some y:=by obtain⟨xs,n,_,rfl,hl,hlen,hf⟩:=DataW.trod_struct ht h;exact⟨hl,xs,hlen,by simp only[Rows.uptoBulk],fun i f y hi hy=>⟨n,(hf i f hi).trans hy⟩⟩
theorem Ew.two{f0 f1:Field}{k0 k1:Nat}(ht:P.underlying t=some (.struct #[f0,f1]))(hc:P.cellsOf t=k0+k1)(o0:f0.offset=0)(o1:f1.offset=k0)(c0:P.cellsOf f0.type=k0)(c1:P.cellsOf f1.type=k1){β γ:Type}{ea:α->List D}{ga:α->Prop}{wa:α->Nat}{eb:β->List D}{gb:β->Prop}{wb:β->Nat}(h0:Ew aa P W base spare held f0.type ea ga wa B)(h1:Ew aa P W base spare held f1.type eb gb wb B)(mk:α->β->γ){ec:γ->List D}{gc:γ->Prop}{wc:γ->Nat}(he:∀a b,ec (mk a b)=ea a++eb b)(hg:∀a b,ga a->gb b->gc (mk a b))(Pr:∀a b,wc (mk a b)<=wa a+wb b):Ew aa P W base spare held t ec gc wc B:=fun n cs x h hw=>by obtain⟨hl,ys,hlen,mf,hf⟩:=eG ht h;match ys,hlen with|[y0,y1],_=>simp only[aaB,aaZ,Rows.uptoBulkAll]at mf;obtain⟨n0,r0⟩:=hf 0 f0 y0 rfl rfl;obtain⟨n1,r1⟩:=hf 1 f1 y1 rfl rfl;rw[o0,c0]at r0;rw[o1,c1]at r1;obtain⟨a,g0,w0,s0⟩:=h0 _ _ _ r0 (by omega);obtain⟨b,g1,w1,s1⟩:=h1 _ _ _ r1 (by omega);have:=Pr a b;refine⟨mk a b,hg a b g0 g1,by omega,?_ ⟩;rw[he];exact cC.whole (cC.two 0 s0 (by simpa using s1)) (by rw[hl,hc])
end
end Fw.Tz
/-
  The module that an argument holds, read as data.
-/
namespace Fw.Tz
open Go Go.Proofs Fw.X Go.ChangeShapes Go.WideShapes Go.ChangeAt Go.RowKit Fw.Tz.Va Fw.Tz.Vb Fw.Tz.Tm Fw.Tz.Pn Fw.Tz.Cv
open Go.Proofs.YtpeomfjbcdahnaaGreatDoor
def Jd(x:aq):Nat:=x.ts.length
def zc(l:List aq):Nat:=(l.map Jd).sum
def rm(x:Tm):Nat:=1+zc x.ai
def Hr(t:Tm):Nat:=(t.pre.map rm).sum
structure NsS (x:Tm):Prop where
 ns:zB x
 J1:∀l∈x.ai,uw l
def Ur(t:Tm):Prop:=∀x∈t.pre,NsS x
theorem zd{α:Type}{f:α->List Tm}:∀l:List α,((l.flatMap f).map rm).sum=(l.map fun a=>((f a).map rm).sum).sum|[]=>rfl|a::l=>by rw[aaV,abt,List.sum_append,zd l];simp
theorem MV(t:Tm):Hr t=rm t+(t.kids.map Hr).sum:=by unfold Hr;rw[Tm.jj,aaB,aa8,zd]
theorem vA:∀(ts:List Cf)(acc:List (List UInt8)),(Td.nL acc ts).length<=acc.length+ts.length
 |[],acc=>by simp[Td.nL]
 |c::ts,acc=>by
  rw[Td.nL,abw];have:=vA ts (Mb.gB acc c.var);rw[Td.nL]at this;have h2:(Mb.gB acc c.var).length<=acc.length+1:=by rw[Mb.gB];split<;>simp
  simp only[aap];omega
theorem vB:∀(ls:List aq)(acc:List (List UInt8)),(Td.kq acc ls).length<=acc.length+zc ls
 |[],acc=>by simp[Td.kq]
 |c::ls,acc=>by rw[Td.kq,abw];have:=vB ls (Td.nL acc c.ts);rw[Td.kq]at this;have h2:=vA c.ts acc;(simp only[zc,aaB,aa8,Jd]at*);omega
theorem vC:∀(xs:List (Tm×Nat))(acc:List (List UInt8)),(Td.jl acc xs).length<=acc.length+((xs.map Prod.fst).map rm).sum
 |[],acc=>by simp[Td.jl]
 |c::xs,acc=>by rw[Td.jl,abw];have:=vC xs (Td.kq acc c.1.ai);rw[Td.jl]at this;have h2:=vB c.1.ai acc;(simp only[aaB,aa8,rm]at*);omega
theorem Gu(l:List Tm):l.length<=(l.map rm).sum:=by
 induction l with
  |nil=>simp
  |cons a l ih=>simp only[aaB,aa8,aap,rm]at*;omega
theorem Ur.s{t:Tm}(h:Ur t)(hw:Hr t<=1048576):Tl t:=by have h1:=Gu t.pre;have h2:=vC (t.dv 1) [];rw[Tm.km]at h2;unfold Hr at hw;simp only[aaq,aaK]at h2;exact⟨⟨fun x hx=>(h x hx).ns,by omega⟩,by omega⟩
section
variable {H:Type}{aa:TypeId×Value->H}{W:World}{base:Nat}{spare:Nat->Bool}{held:Bool}
theorem wZ:Ew aa Tryz.prog W base spare held 9 (fun s:List UInt8=>[D.str s]) (fun s=>s.length<1048577) (fun _=>0) 1048576:=Ew.str Tryz.underlying9
theorem AQ{B:Nat}:Ew aa Tryz.prog W base spare held 3 (fun k:Int=>[D.int .i64 k]) (fun _=>True) (fun _=>0) B:=Ew.int Tryz.underlying3
theorem Kv{B:Nat}:Ew aa Tryz.prog W base spare held 4 (fun k:Bool=>[D.bool k]) (fun _=>True) (fun _=>0) B:=Ew.bool Tryz.underlying4
theorem wCf:Ew aa Tryz.prog W base spare held 134 Cf.aa (fun c=>c.var.length<1048577) (fun _=>0) 1048576:=Ew.two Tryz.underlying134 (k0:=1) (k1:=1) k_ rfl rfl k_ k_ wZ AQ (fun s c=>(⟨s,c⟩:Cf)) (fun _ _=>rfl) (fun _ _ h _=>h) (fun _ _=>aaP _)
theorem wTs:Ew aa Tryz.prog W base spare held 111 (fun l:List Cf=>[D.list (l.map Cf.aa)]) (fun l=>l.length<1048577/\∀t∈l,t.var.length<1048577) List.length 1048576:=fun n cs x h hw=>by obtain⟨l,h1,h2,_,h4⟩:=ow Tryz.underlying111 (sz:=2) k_ (by omega) wCf h hw;exact⟨l,⟨by omega,h1⟩,acF h2,h4⟩
theorem XS:Ew aa Tryz.prog W base spare held 113 aq.aa uw Jd 1048576:=Ew.two Tryz.underlying113 (k0:=1) (k1:=1) k_ rfl rfl k_ k_ AQ wTs (fun c ts=>(⟨c,ts⟩:aq)) (fun _ _=>rfl) (fun _ _ _ h=>h) (fun _ _=>by simp[Jd])
theorem Kw:Ew aa Tryz.prog W base spare held 32 (fun l:List aq=>[D.list (l.map aq.aa)]) (fun l=>(∀a∈l,uw a)/\l.length<1048577) zc 1048576:=Ew.rows (sz:=2) Tryz.underlying32 k_ (by omega) (by omega) XS
def Tn(s:List UInt8×List aq):List D:=[.str s.1,.list (s.2.map aq.aa)]
theorem XT:Ew aa Tryz.prog W base spare held 34 Tn (fun s=>s.1.length<1048577/\s.2.length<1048577/\∀x∈s.2,uw x) (fun _=>0) 1048576:=Ew.two Tryz.underlying34 (k0:=1) (k1:=1) k_ rfl rfl k_ k_ wZ Kw (fun r d=>(r,d)) (fun _ _=>rfl) (fun _ _ h k=>⟨h,k.2,k.1⟩) (fun _ _=>aaP _)
theorem Z0:Ew aa Tryz.prog W base spare held 36 Ty.aa Dn (fun _=>0) 1048576:=Ew.two Tryz.underlying36 (k0:=1) (k1:=2) k_ rfl rfl k_ k_ wZ XT (fun e s=>(⟨e,s.1,s.2⟩:Ty)) (fun _ _=>rfl) (fun _ _ h k=>⟨h,k.1,k.2.1,k.2.2⟩) (fun _ _=>aaP _)
theorem Gv:Ew aa Tryz.prog W base spare held 37 (fun l:List Int=>[D.list (l.map encI)]) (fun l=>(∀a∈l,True)/\l.length<1048577) (fun l=>(l.map fun _=>0).sum) 1048576:=Ew.rows (sz:=1) Tryz.underlying37 k_ (by omega) (by omega) AQ
theorem Kx:Ew aa Tryz.prog W base spare held 22 (fun l:List (List UInt8)=>[D.list (l.map encS)]) (fun l=>(∀a∈l,a.length<1048577)/\l.length<1048577) (fun l=>(l.map fun _=>0).sum) 1048576:=Ew.rows (sz:=1) Tryz.underlying22 k_ (by omega) (by omega) wZ
structure Ar where
 e:List UInt8
 d:List Int
 v:List Int
def KA(a:Ar):List D:=[.str a.e,.list (a.d.map encI),.list (a.v.map encI)]
theorem wAr:Ew aa Tryz.prog W base spare held 39 KA (fun a=>a.e.length<1048577/\a.d.length<1048577/\a.v.length<1048577) (fun _=>0) 1048576:=fun n cs x h hw=>by obtain⟨hl,ys,hlen,mf,hf⟩:=eG Tryz.underlying39 h;match ys,hlen with|[y0,y1,y2],_=>simp only[aaB,aaZ,Rows.uptoBulkAll]at mf;obtain⟨n0,r0⟩:=hf 0 _ y0 rfl rfl;obtain⟨n1,r1⟩:=hf 1 _ y1 rfl rfl;obtain⟨n2,r2⟩:=hf 2 _ y2 rfl rfl;obtain⟨e,g0,-,s0⟩:=wZ _ _ _ r0 (by omega);obtain⟨d,g1,-,s1⟩:=Gv _ _ _ r1 (by omega);obtain⟨v,g2,-,s2⟩:=Gv _ _ _ r2 (by omega);exact⟨⟨e,d,v⟩,⟨g0,g1.2,g2.2⟩,aaP _,cC.whole (n:=3) (cC.two (k1:=2) (k2:=1) 0 (cC.two (k1:=1) (k2:=1) 0 s0 s1) s2) (hl.trans k_)⟩
theorem wTm:∀B,B<=1048576->Ew aa Tryz.prog W base spare held 42 Tm.cells Ur Hr B:=by
 intro B;induction B using Nat.strongRecOn with
  |_ B ih=>
   intro hB n cs x h hw;obtain⟨hl,ys,hlen,mf,hf⟩:=eG Tryz.underlying42 h;match ys,hlen with
    |[y0,y1,y2,y3,y4,y5,y6,y7],_=>
     simp only[aaB,aaZ,Rows.uptoBulkAll]at mf;obtain⟨n0,r0⟩:=hf 0 _ y0 rfl rfl;obtain⟨n1,r1⟩:=hf 1 _ y1 rfl rfl;obtain⟨n2,r2⟩:=hf 2 _ y2 rfl rfl;obtain⟨n3,r3⟩:=hf 3 _ y3 rfl rfl;obtain⟨n4,r4⟩:=hf 4 _ y4 rfl rfl;obtain⟨n5,r5⟩:=hf 5 _ y5 rfl rfl;obtain⟨n6,r6⟩:=hf 6 _ y6 rfl rfl;obtain⟨n7,r7⟩:=hf 7 _ y7 rfl rfl;obtain⟨v0,-,-,s0⟩:=AQ (B:=B) _ _ _ r0 (by omega);obtain⟨v1,-,-,s1⟩:=AQ (B:=B) _ _ _ r1 (by omega);obtain⟨v2,g2,-,s2⟩:=wZ _ _ _ r2 (by omega);obtain⟨v3,-,-,s3⟩:=AQ (B:=B) _ _ _ r3 (by omega);obtain⟨v4,g4,-,s4⟩:=wAr _ _ _ r4 (by omega);obtain⟨v5,g5,w5,s5⟩:=Kw _ _ _ r5 (by omega);obtain⟨v6,g6,-,s6⟩:=Gv _ _ _ r6 (by omega);have hk:Ew aa Tryz.prog W base spare held 42 Tm.cells Ur Hr (B - 1):=ih (B - 1) (by have:=tN y0.1;omega) (by omega);obtain⟨v7,g7,w7,w8,s7⟩:=ow Tryz.underlying40 (sz:=10) k_ (by omega) hk r7 (by omega);refine⟨.mk v0 v1 v2 v3 v4.e v4.d v4.v v5 v6 v7,?_,?_,?_⟩
     ·intro y hy;rw[Tm.jj]at hy;rcases aaT.1 hy with rfl|hy
      ·exact⟨⟨g2,g4.1,g4.2.1,g4.2.2,g5.2,fun l hl=>(g5.1 l hl).sm,g6.2,by show v7.length<1048577;omega⟩,g5.1⟩
      ·obtain⟨k,T0,qh⟩:=List.mem_flatMap.1 hy;exact g7 k T0 y qh
     ·rw[MV];show 1+zc v5+(v7.map Hr).sum<=_;omega
     ·rw[show Tm.cells (.mk v0 v1 v2 v3 v4.e v4.d v4.v v5 v6 v7)=((((((([D.int .i64 v0]++[D.int .i64 v1])++[D.str v2])++[D.int .i64 v3])++KA v4)++[D.list (v5.map aq.aa)])++[D.list (v6.map encI)])++[D.list (v7.map Tm.cells)])from ?_]
      ·exact cC.whole (n:=10) (cC.two (k1:=9) (k2:=1) 0 (cC.two (k1:=8) (k2:=1) 0 (cC.two (k1:=7) (k2:=1) 0 (cC.two (k1:=4) (k2:=3) 0 (cC.two (k1:=3) (k2:=1) 0 (cC.two (k1:=2) (k2:=1) 0 (cC.two (k1:=1) (k2:=1) 0 s0 s1) s2) s3) s4) s5) s6) s7) (hl.trans k_)
      ·rw[show v7.map Tm.cells=v7.map Tm.aa from abP fun t _=>(Tm.wY t).symm];rfl
theorem wPm:Ew aa Tryz.prog W base spare held 68 Pm.aa (fun p=>p.name.length<1048577/\Dn p.ty) (fun _=>0) 1048576:=fun n cs x h hw=>by obtain⟨hl,ys,hlen,mf,hf⟩:=eG Tryz.underlying68 h;match ys,hlen with|[y0,y1,y2],_=>simp only[aaB,aaZ,Rows.uptoBulkAll]at mf;obtain⟨n0,r0⟩:=hf 0 _ y0 rfl rfl;obtain⟨n1,r1⟩:=hf 1 _ y1 rfl rfl;obtain⟨n2,r2⟩:=hf 2 _ y2 rfl rfl;obtain⟨e,g0,-,s0⟩:=wZ _ _ _ r0 (by omega);obtain⟨d,-,-,s1⟩:=Kv (B:=1048576) _ _ _ r1 (by omega);obtain⟨v,g2,-,s2⟩:=Z0 _ _ _ r2 (by omega);exact⟨⟨e,d,v⟩,⟨g0,g2⟩,aaP _,cC.whole (n:=5) (cC.two (k1:=2) (k2:=3) 0 (cC.two (k1:=1) (k2:=1) 0 s0 s1) s2) (hl.trans k_)⟩
theorem wPs:Ew aa Tryz.prog W base spare held 31 (fun l:List Pm=>[D.list (l.map Pm.aa)]) (fun l=>(∀a∈l,a.name.length<1048577/\Dn a.ty)/\l.length<1048577) (fun l=>(l.map fun _=>0).sum) 1048576:=Ew.rows (sz:=5) Tryz.underlying31 k_ (by omega) (by omega) wPm
structure XU (d:Df):Prop where
 c:Mu d
 body:d.body.pre.length<1048577
theorem wDf:Ew aa Tryz.prog W base spare held 44 Df.aa XU (fun _=>0) 1048576:=fun n cs x h hw=>by
 obtain⟨hl,ys,hlen,mf,hf⟩:=eG Tryz.underlying44 h;match ys,hlen with
  |[y0,y1,y2,y3,y4,y5],_=>
   simp only[aaB,aaZ,Rows.uptoBulkAll]at mf;obtain⟨n0,r0⟩:=hf 0 _ y0 rfl rfl;obtain⟨n1,r1⟩:=hf 1 _ y1 rfl rfl;obtain⟨n2,r2⟩:=hf 2 _ y2 rfl rfl;obtain⟨n3,r3⟩:=hf 3 _ y3 rfl rfl;obtain⟨n4,r4⟩:=hf 4 _ y4 rfl rfl;obtain⟨n5,r5⟩:=hf 5 _ y5 rfl rfl;obtain⟨v0,g0,-,s0⟩:=wZ _ _ _ r0 (by omega);obtain⟨v1,-,-,s1⟩:=AQ (B:=1048576) _ _ _ r1 (by omega);obtain⟨v2,g2,-,s2⟩:=wPs _ _ _ r2 (by omega);obtain⟨v3,-,-,s3⟩:=Kv (B:=1048576) _ _ _ r3 (by omega);obtain⟨v4,g4,-,s4⟩:=Z0 _ _ _ r4 (by omega);obtain⟨v5,g5,w5,s5⟩:=wTm 1048576 (aaC _) _ _ _ r5 (by omega);have hp:=Gu v5.pre;have Z1:Hr v5<=1048576:=by omega
   refine⟨⟨v0,v1,v2,v3,v4,v5⟩,⟨⟨⟨g0,g2.2,g2.1,g4,g5.s Z1⟩,fun y hy l hl=>((g5 y hy).J1 l hl).1⟩,?_⟩,aaP _,?_⟩
   ·unfold Hr at Z1;show v5.pre.length<1048577;omega
   ·exact cC.whole (n:=17) (cC.two (k1:=7) (k2:=10) 0 (cC.two (k1:=4) (k2:=3) 0 (cC.two (k1:=3) (k2:=1) 0 (cC.two (k1:=2) (k2:=1) 0 (cC.two (k1:=1) (k2:=1) 0 s0 s1) s2) s3) s4) s5) (hl.trans k_)
theorem XV:Ew aa Tryz.prog W base spare held 23 (fun l:List Df=>[D.list (l.map Df.aa)]) (fun l=>(∀a∈l,XU a)/\l.length<1048577) (fun l=>(l.map fun _=>0).sum) 1048576:=Ew.rows (sz:=17) Tryz.underlying23 k_ (by omega) (by omega) wDf
structure MdG (m:Md):Prop where
 s:Px.zy m
 d:∀d∈m.defs,XU d
theorem wMd:Ew aa Tryz.prog W base spare held 25 Md.aa MdG (fun _=>0) 1048576:=fun n cs x h hw=>by obtain⟨hl,ys,hlen,mf,hf⟩:=eG Tryz.underlying25 h;match ys,hlen with|[y0,y1,y2,y3],_=>simp only[aaB,aaZ,Rows.uptoBulkAll]at mf;obtain⟨n0,r0⟩:=hf 0 _ y0 rfl rfl;obtain⟨n1,r1⟩:=hf 1 _ y1 rfl rfl;obtain⟨n2,r2⟩:=hf 2 _ y2 rfl rfl;obtain⟨n3,r3⟩:=hf 3 _ y3 rfl rfl;obtain⟨v0,g0,-,s0⟩:=wZ _ _ _ r0 (by omega);obtain⟨v1,g1,-,s1⟩:=Kx _ _ _ r1 (by omega);obtain⟨v2,g2,-,s2⟩:=Kx _ _ _ r2 (by omega);obtain⟨v3,g3,-,s3⟩:=XV _ _ _ r3 (by omega);exact⟨⟨v0,v1,v2,v3⟩,⟨⟨g0,⟨g1.2,g1.1⟩,⟨g2.2,g2.1⟩,g3.2,fun d hd=>(g3.1 d hd).c.df⟩,g3.1⟩,aaP _,cC.whole (n:=4) (cC.two (k1:=3) (k2:=1) 0 (cC.two (k1:=2) (k2:=1) 0 (cC.two (k1:=1) (k2:=1) 0 s0 s1) s2) s3) (hl.trans k_)⟩
end
theorem MW{W:World}{ds:List D}{cs:Array Value}{vs:List V}(h:cC W ds cs.toList)(e:ds.map .d=vs):RV gE W (.agg vs) (.agg cs):=by subst e;simp only[RV];exact⟨cs,rfl,cC.JT h⟩
end Fw.Tz
/-
  The first world of the law.
-/
namespace Fw.Tz
open Go Go.Proofs Fw.X Go.ChangeShapes Go.WideShapes Go.ChangeAt Go.RowKit
open Go.Proofs.YtpeomfjbcdahnaaGreatDoor
variable {W:World}
abbrev tO:List (String×DataW Unit):=Rows.moduleNamesUptoRow.laid
theorem w4{laid:List (String×DataW Unit)}(h:laidMetH Tryz.prog laid W)(name:String)(k:IntKind)(zs:List Int)(g:Nat)(t e:TypeId)(n:Nat)(hl:(laid.filter fun x=>x.1==name)=[(name,Lib.tabData k zs)])(hg:Tryz.prog.globalNamed name=some g)(T2:(Tryz.prog.globals[g]? ).map (·.type)=some t)(ht:Tryz.prog.underlying t=some (.array n e))(he:Tryz.prog.underlying e=some (.int k))(hce:Tryz.prog.cellsOf e=1)(hct:Tryz.prog.cellsOf t=n)(vR:([(name,Lib.tabData k zs)].all fun(x:String×DataW Unit)=>x.2.handleName?.isNone)=true):Lib.TabIs Tryz.prog W name k zs:=by have h2:=laidMetH.filter (fun x=>x.1==name) h;rw[hl,MakeChecks.laidMetH_plain _ _ _ vR]at h2;exact Lib.tabIs_of_head hg T2 ht he hce hct h2
theorem B5{laid:List (String×DataW Unit)}(h:laidMetH Tryz.prog laid W)(name:String)(en:String)(d:DataW Unit)(g:Nat)(ms:Array (String×TypeId))(hl:(laid.filter fun x=>x.1==name)=[(name,.iface en d)])(hg:Tryz.prog.globalNamed name=some g)(T2:(Tryz.prog.globals[g]? ).map (·.type)=some 166)(ht:Tryz.prog.underlying 166=some (.interface ms))(vR:([(name,DataW.iface en d)].all fun(x:String×DataW Unit)=>x.2.handleName?.isNone)=true):∃ev,W.cell? ⟨g,0,none⟩=some ev/\(ev=.nilIface\/∃te pe,ev=.iface te pe):=by have h2:=laidMetH.filter (fun x=>x.1==name) h;rw[hl,MakeChecks.laidMetH_plain _ _ _ vR]at h2;obtain⟨ps,⟨g',t,cs,jU,p,q,hg',ht',hv,hd,_,_⟩,_,_⟩:=h2;obtain rfl:=aco (hg.symm.trans hg');obtain rfl:=aco (T2.symm.trans ht');obtain⟨Z2,u,v,nS,_,_⟩:=iface_of_trod ht hd;refine⟨.iface u v,?_,.inr ⟨u,v,rfl⟩⟩;rw[World.var?_cell hg hv 0,←Array.getElem?_toList,nS];rfl
def KB:List Int:=[0,1,28,2,29,14,24,3,30,22,20,15,25,17,4,8,31,27,13,23,21,19,16,7,26,12,18,6,11,5,10,9]
theorem To(h:laidMetH Tryz.prog tO W)(XW:W.ShapedOpen Tryz.prog):W0 W:=by
 have hdb:=w4 h "math/bits.deBruijn32tab" .u8 KB 8 376 5 32 k_ k_ k_ k_ k_ k_ k_ k_;have hc:=hdb.cell (show Tryz.prog.globalNamed "math/bits.deBruijn32tab"=some 8 by kernel_rfl) 0 (by simp[KB]);have Tr:7<W.heap.size:=by
  rcases abi 8 W.heap.size with h8|h8
  ·omega
  ·exfalso;have:W.heap[8]? =none:=Array.getElem?_eq_none h8;simp[World.cell?,this]at hc
 refine⟨Tr,cell_of_shapedOpen_int (P:=Tryz.prog) (g:=1) (t:=3) (zero:= #[.int .i64 0]) XW (abN k_) k_ rfl k_ k_ Tryz.underlying3,?_,?_,?_,?_⟩
 ·exact w4 h "internal/strconv.uint64pow10" .u64 Lib.pow10Tab 3 358 235 20 k_ k_ k_ k_ k_ k_ k_ k_
 ·exact w4 h "strings.asciiSpace" .u8 Lib.asciiSpaceTab 0 255 5 256 k_ k_ k_ k_ k_ k_ k_ k_
 ·exact B5 h "strconv.ErrSyntax" "*errors.errorString" (.ptr (.agg [.lit (.string [105,110,118,97,108,105,100,32,115,121,110,116,97,120])])) 6 _ k_ k_ k_ Tryz.underlying166 k_
 ·exact B5 h "strconv.ErrRange" "*errors.errorString" (.ptr (.agg [.lit (.string [118,97,108,117,101,32,111,117,116,32,111,102,32,114,97,110,103,101])])) 7 _ k_ k_ k_ Tryz.underlying166 k_
theorem own:ownKnob Tryz.prog.godebug=none:=k_
end Fw.Tz
