/-
  From a call that touches nothing to the world's own call.
-/
import Derived.Test.YtgfgckimecpmlaaGreatDoorTc
import Derived.Test.YtgfgckimecpmlaaGreatDoorTie
import Derived.Test.YtgfgckimecpmlaaGreatDoorCards
import Derived.ProofKit
import Derived.Handy
import Derived.Lay
import Derived.SevenTiedAt
import Derived.Shelf.Vars
import Derived.HandedShaped
import Derived.Test.YtgfgckimecpmlaaGreatDoorFg
import Derived.Deep.Slices
import Derived.ChangeStays
import Derived.ReadAgain
import Derived.ChangeOld
import Derived.Test.YtgfgckimecpmlaaGreatDoorTf
import Derived.Handed
import Derived.Test.YtgfgckimecpmlaaGreatDoorTr
set_option linter.unusedSimpArgs false
set_option maxRecDepth 100000
set_option linter.unusedVariables false
namespace Fw.Tz
open Go Go.Proofs Fw.X Go.ChangeShapes Go.WideShapes Go.ChangeAt Go.RowKit
open Go.Proofs.YtgfgckimecpmlaaGreatDoor
variable {W:World}
theorem Au{f:FuncId}{args:List V}{v:V}{vs:Array Value}(h:PC P (gl W) f args v)(dX:aV ⟨fun _=>False,fun _=>none,fun _=>False⟩ W args vs.toList):Calls P f vs W fun e w'=>∃x,e=.returned x∧Below W.heap.size W w'∧RV ⟨fun _=>False,fun _=>none,fun _=>False⟩ w' v x:=by
 have hg:gn (gl W) ⟨fun _=>False,fun _=>none,fun _=>False⟩ W:=by refine⟨fun n cs hn=>(by cases hn),fun k hk=>⟨⟨hk,fun h=>h,fun b x hx=>(by cases hx)⟩,rfl⟩⟩
 refine(h.2 ⟨fun _=>False,fun _=>none,fun _=>False⟩ W vs dX (fun k hk=>hk.elim) (fun b y k hy=>(by cases hy)) hg).mono ?_;rintro e w' ⟨x,rfl,hx,he,_⟩;exact⟨x,rfl,⟨he.os,he.tape,he.output,he.size,fun k hk=>(he.keeps k ⟨hk,fun h=>h,fun b x hx=>(by cases hx)⟩).2⟩,hx⟩
end Fw.Tz
/-
  Arguments that are rows: read as data, and read again behind a call that writes nothing of theirs.
-/
namespace Fw.Tz
open Go Go.Proofs Fw.X Go.ChangeShapes Go.WideShapes Go.ChangeAt Go.RowKit
open Go.Proofs.YtgfgckimecpmlaaGreatDoor
abbrev gE:G:=⟨fun _=>False,fun _=>none,fun _=>False⟩
theorem I2{W:World}{k:Nat}(h:k<W.heap.size):dq gE W k:=⟨h,fun h=>h,fun b x hx=>by cases hx⟩
theorem Y4:Kids Tryz.prog (·<Tryz.prog.types.size):=kids_rows k_ k_
theorem Ca:∀t e,t<Tryz.prog.types.size→Tryz.prog.underlying t=some (.slice e)→0<Tryz.prog.cellsOf e:=slices_full_of _ k_
section
variable {H:Type}{aa:TypeId×Value→H}{W W':World}
theorem Cb(hb:Below W.heap.size W W'){t:TypeId}{v:Value}{d:DataW H}{ps:List MemPlace}(ht:t<Tryz.prog.types.size)(h:DataW.Trod aa Tryz.prog W 0 (fun _=>true) true t v d ps):DataW.Trod aa Tryz.prog W' 0 (fun b=>decide (b<W.heap.size)) true t v d ps:=by
 obtain⟨n,hn⟩:=h;have bS:=DataW.trod_lt n t _ _ hn;refine⟨n,DataW.trod_stays Y4 (fun{t e} ht hu=>Ca t e ht hu) (fun h=>by cases h) ht hn (fun p hp=>?_ ) (fun p hp=>aa9 (bS p hp))⟩;have hp':=bS p hp;cases p with
  |cell b off=>exact World.cell?_of_block (w:=W) (hb.block b hp')
  |map b=>exact hb.block b hp'
theorem oa(hb:Below W.heap.size W W'):∀{ts:List TypeId}{vs:List Value}{ds:List (DataW H)}{ps:List MemPlace},(∀t∈ts,t<Tryz.prog.types.size)→DataW.TrodAll aa Tryz.prog W 0 (fun _=>true) true ts vs ds ps→DataW.TrodAll aa Tryz.prog W' 0 (fun b=>decide (b<W.heap.size)) true ts vs ds ps|[],[],[],_,_,h=>h|t::ts,v::vs,d::ds,_,ht,⟨p,q,h1,h2,e⟩=>⟨p,q,Cb hb (ht t ab') h1,oa hb (fun t h=>ht t (ab0 _ h)) h2,e⟩
end
theorem Cc{w:World}{im:Nat→Prop}{aT sz:Nat}:∀(es:List (List D))(off:Nat),(∀(i:Nat)(e:List D),es[i]? =some e→e.length=sz∧dx w im aT (off+i*sz) e)→iO w im aT off sz es
 |[],_,_=>by simp only[iO]
 |e::es,off,h=>by simp only[iO];have h0:=h 0 e rfl;refine⟨h0.1,by simpa using h0.2,Cc es (off+sz) fun i e' he=>?_ ⟩;have:=h (i+1) e' (by simpa using he);rwa[show off+(i+1)*sz=off+sz+i*sz by rw[abu];omega]at this
section
variable {H:Type}{aa:TypeId×Value→H}{P:Program}{W:World}{base:Nat}{spare:Nat→Bool}{held:Bool}
def dA(W:World)(ds:List D)(cs:List Value):Prop:=ds.length=cs.length∧∀(j:Nat)(d:D)(v:Value),ds[j]? =some d→cs[j]? =some v→Rd W (dq gE W) d v
theorem dA.one{d:D}{v:Value}(h:Rd W (dq gE W) d v):dA W [d] [v]:=⟨rfl,fun j d' v' h1 h2=>by
 cases j with
  |zero=>simp at h1 h2;subst h1;subst h2;exact h
  |succ j=>simp at h1⟩
theorem dA.app{a b:List D}{x y:List Value}(h:dA W a x)(k:dA W b y):dA W (a++b) (x++y):=⟨by
 simp[h.1,k.1],fun j d v h1 h2=>by
  by_cases hj:j<a.length
  ·rw[abt hj]at h1;rw[abt (by rw[←h.1];exact hj)]at h2;exact h.2 j d v h1 h2
  ·rw[abo (by omega)]at h1;rw[abo (by rw[←h.1];omega),←h.1]at h2;exact k.2 _ d v h1 h2⟩
theorem Fl{α:Type}(gh:α→List D)(kH:α→Prop){t e:TypeId}{sz:Nat}(ht:P.underlying t=some (.slice e))(hc:P.cellsOf e=sz)(h0:0<sz)(KE:∀(n:Nat)(cs:List Value)(x:DataW H×List MemPlace),DataW.trod aa P W base spare held n e cs=some x→∃a,kH a∧dA W (gh a) cs){dp:Nat}{cs:List Value}{x:DataW H×List MemPlace}(h:DataW.trod aa P W base spare held dp t cs=some x):∃l:List α,(∀a∈l,kH a)∧l.length≤maxLen∧dA W [.list (l.map gh)] cs:=by
 rcases Go.Deep.open_slice ht h with⟨rfl,-⟩|⟨a,len,cap,m,n,D',Pl,rfl,hb,hl,hm,Y5,-,hx⟩
 ·exact⟨[],by simp,by simp,dA.one (by simp[Rd])⟩
 ·rw[hc]at hx;have hle:len≤m:=by rw[Y5];split<;>omega
  have u6:∀i:Fin len,∃a':α,kH a'∧∃my,W.cells? base (a.add (i.1*sz)) sz=some my∧dA W (gh a') my:=by intro i;obtain⟨my,h1,h2⟩:=hx i.1 (by have:=i.2;omega);obtain⟨a',k1,k2⟩:=KE _ _ _ h2;exact⟨a',k1,my,h1,k2⟩
  let f:Fin len→α:=fun i=>Classical.choose (u6 i)
  have hf:∀i,kH (f i)∧∃my,W.cells? base (a.add (i.1*sz)) sz=some my∧dA W (gh (f i)) my:=fun i=>adk (u6 i)
  refine⟨List.ofFn f,?_,by simp;omega,?_ ⟩
  ·intro a' ha;obtain⟨i,rfl⟩:=List.mem_ofFn.1 ha;exact(hf i).1
  ·refine dA.one ?_;simp only[Rd];by_cases Y6:len=0
   ·subst Y6;exact .inl ⟨by simp,.inr ⟨a,cap,rfl⟩⟩
   ·have nN:0<len:=by omega
    obtain⟨-,my,h1,-⟩:=hf ⟨0,nN⟩;obtain⟨-,h2,h3⟩:=World.cells?_some h1;have h4:=h3 0 h0;have gZ:∃v,my[0]? =some v:=⟨_,aaG (by omega)⟩;obtain⟨v,hv⟩:=gZ;rw[hv]at h4;have Y7:=World.cell?_spot h4;have w8:a.block<W.heap.size:=by have:=World.cells?_block h1 h0;simpa[Addr.add]using this
    have Av:a.spot=none:=by simpa[Addr.add]using Y7
    have Ur:a=⟨a.block,a.off,none⟩:=by cases a;simp at Av;simp[Av]
    refine .inr ⟨a.block,a.off,cap,sz,by rw[aaW,adj];rw[←Ur],by simp;exact hl,fun _=>I2 w8,?_ ⟩;refine Cc _ _ fun i e' he=>?_
    simp only[abf,aaE]at he;obtain⟨a',Y8,rfl⟩:=he;obtain⟨hi,Us⟩:=aaK.1 Y8;simp only[adj]at hi;simp only[List.getElem_ofFn]at Us;obtain⟨-,Y9,k1,k2⟩:=hf ⟨i,hi⟩;obtain⟨-,k3,k4⟩:=World.cells?_some k1;rw[←Us];refine⟨by rw[k2.1,k3],dx.nr (vs:=Y9) k2.1 k2.2 fun j v' fI=>?_ ⟩;have hj:j<sz:=by rw[←k3];exact(aaK.1 fI).1
    have:=k4 j hj;rw[fI]at this;rw[←this,Ur,Addr.fL,Addr.fL]
theorem Pr{e:TypeId}(he:P.underlying e=some (.int .i64))(n:Nat)(cs:List Value)(x:DataW H×List MemPlace)(h:DataW.trod aa P W base spare held n e cs=some x):∃a:Int,(-9223372036854775808≤a∧a≤9223372036854775807)∧dA W [.int .i64 a] cs:=by
 obtain⟨k,rfl,-,hw⟩:=DataW.trod_int he h;have h1:IntKind.i64.min≤k∧k≤IntKind.i64.max:=by simp only[Lit.wf,aaD,aaN]at hw;exact hw
 have e1:IntKind.i64.min= -9223372036854775808:=rfl;have e2:IntKind.i64.max=9223372036854775807:=rfl;rw[e1,e2]at h1;exact⟨k,h1,dA.one (by simp only[Rd])⟩
end
end Fw.Tz
/-
  What the rows of this seat share: the first world, the wrap.
-/
namespace Fw.Tz
open Go Go.Proofs Fw.X Go.ChangeShapes Go.WideShapes Go.ChangeAt Go.RowKit
open Go.Proofs.YtgfgckimecpmlaaGreatDoor
def Nh:List Int:=[0,1,28,2,29,14,24,3,30,22,20,15,25,17,4,8,31,27,13,23,21,19,16,7,26,12,18,6,11,5,10,9]
theorem own:ownKnob Tryz.prog.godebug=none:=k_
theorem wrap{H:Type}{aa:TypeId×Value→H}{a:Assume}{C:Checked}{os:Os}{f:FuncId}{fn:Func}{s:ChangeSpec}{Aw:List PathCond}{jR fresh p4 Ax:Bool}{X:World→Array Value→Prop}(hX:∀(w w':World)(args:Array Value),w.heap=w'.heap→X w args→X w' args)(own:ownKnob C.prog.godebug=none)(jj:os.Started)(Cd:C.prog.inits.idxOf? f=none)(Bi:C.prog.funcs[f]? =some fn)(xY:∃(w:World)(tape:Tape)(i:Input),w.os=os∧(w.forCall tape i).Shaped C.prog∧i.vars=[]∧Input.okWide C.prog (w.forCall tape i) .any w.heap.size f i∧((s.pre aa C.prog fn Aw jR (w.forCall tape i).memory i.args∧X (w.forCall tape i).memory i.args)∧sizedMet aa C.prog fn (OpenSpec.ofChange s) jR (w.forCall tape i).memory i.args)∧a.holds C.prog (lone (Frame.enter C.prog f i.args .normal) [] (w.forCall tape i)))(uA:∀(W:World)(base:Nat)(args:Array Value)(ds gs:List (DataW H))(before:List MemPlace),(∀(j:Nat) t v,fn.params[j]? =some t→args[j]? =some v→Value.okWide C.prog W .any base t v)→DataW.Whole aa C.prog fn.params.toList s.vars jR W args.toList ds gs before→W.ShapedOpen C.prog→X W args→Calls C.prog f args W fun e W'=>∃v,e=.returned v∧s.post aa C.prog fn jR fresh p4 Ax W args v W'):ReturnsInHanded a C os f .any (fun w args=>(s.pre aa C.prog fn Aw jR w args∧X w args)∧sizedMet aa C.prog fn (OpenSpec.ofChange s) jR w args) (s.post aa C.prog fn jR fresh p4 Ax):=by
 refine returnsInHanded_of_calls own jj Cd xY ?_;intro w tape i _ A2 _ eF Ps _;obtain⟨_,_,_,Rh,Pt,_,_,_,_,oj⟩:=eF;have e:Rh=fn:=acH (Pt.symm.trans Bi);subst e;obtain⟨⟨⟨ds,gs,before,hw,hc⟩,hx⟩,hz⟩:=Ps;have Y':=DataW.Whole.of_heap (w':=w.forCall tape i) (by rfl) hw;refine(uA (w.forCall tape i) w.heap.size i.args ds gs before oj Y' A2 (hX _ _ _ (by rfl) hx)).mono fun e W' ⟨v,he,hp⟩=>?_
 subst he;exact ChangeSpec.post_blind hp
end Fw.Tz
/-
  Arguments that are structs: their cells read field by field.
-/
namespace Fw.Tz
open Go Go.Proofs Fw.X Go.ChangeShapes Go.WideShapes Go.ChangeAt Go.RowKit Fw.Tz.Va Fw.Tz.Vb
section
variable {W:World}
theorem dA.two{a b:List D}{cs:List Value}{k1 k2:Nat}(o:Nat)(h1:dA W a ((cs.drop o).take k1))(h2:dA W b ((cs.drop (o+k1)).take k2)):dA W (a++b) ((cs.drop o).take (k1+k2)):=by rw[List.take_add,acN];exact h1.app h2
theorem dA.whole{a:List D}{cs:List Value}{n:Nat}(h:dA W a ((cs.drop 0).take n))(hn:cs.length=n):dA W a cs:=by rwa[abZ,abS (by omega)]at h
theorem dA.R':∀{ds:List D}{cs:List Value},dA W ds cs→aV gE W (ds.map .d) cs
 |[],[],_=>trivial
 |[],_::_,h=>by have:=h.1;simp at this
 |_::_,[],h=>by have:=h.1;simp at this
 |d::ds,c::cs,h=>by simp only[aaY,aV];refine⟨by simp only[RV];exact h.2 0 d c rfl rfl,dA.R' ⟨by have:=h.1;simpa using this,fun j d' v' h1 h2=>h.2 (j+1) d' v' (by simpa using h1) (by simpa using h2)⟩⟩
end
section
variable {H:Type}{aa:TypeId×Value→H}{P:Program}{W:World}{base:Nat}{spare:Nat→Bool}{held:Bool}
theorem Ay{t:TypeId}{fs:Array Field}(ht:P.underlying t=some (.struct fs)){dp:Nat}{cs:List Value}{x:DataW H×List MemPlace}(h:DataW.trod aa P W base spare held dp t cs=some x):cs.length=P.cellsOf t∧∀(i:Nat)(f:Field),fs[i]? =some f→∃n y,DataW.trod aa P W base spare held n f.type ((cs.drop f.offset).take (P.cellsOf f.type))=some y:=by
 obtain⟨xs,n,_,_,hl,hlen,hf⟩:=DataW.trod_struct ht h;refine⟨hl,fun i f hi=>?_ ⟩;have bS:i<xs.length:=by rw[hlen];exact(abG.1 hi).1
 exact⟨n,_,(hf i f hi).trans (aaG bS)⟩
def El{α:Type}(aa:TypeId×Value→H)(P:Program)(W:World)(base:Nat)(spare:Nat→Bool)(held:Bool)(e:TypeId)(gh:α→List D)(kH:α→Prop):Prop:=∀(n:Nat)(cs:List Value)(x:DataW H×List MemPlace),DataW.trod aa P W base spare held n e cs=some x→∃a,kH a∧dA W (gh a) cs
theorem El.str{e:TypeId}(he:P.underlying e=some .string):El aa P W base spare held e (fun s:List UInt8=>[D.str s]) (fun _=>True):=fun n cs x h=>by obtain⟨s,rfl,_,_⟩:=DataW.trod_string he h;exact⟨s.data.toList,trivial,dA.one (by simp only[Rd];exact⟨s,rfl,rfl⟩)⟩
theorem El.int{e:TypeId}(he:P.underlying e=some (.int .i64)):El aa P W base spare held e (fun k:Int=>[D.int .i64 k]) (fun k=> -9223372036854775808≤k∧k≤9223372036854775807):=fun n cs x h=>Pr he n cs x h
theorem El.bool{e:TypeId}(he:P.underlying e=some .bool):El aa P W base spare held e (fun b:Bool=>[D.bool b]) (fun _=>True):=fun n cs x h=>by obtain⟨b,rfl,_⟩:=DataW.trod_bool he h;exact⟨b,trivial,dA.one (by simp only[Rd])⟩
theorem El.rows{α:Type}{gh:α→List D}{kH:α→Prop}{t e:TypeId}{sz:Nat}(ht:P.underlying t=some (.slice e))(hc:P.cellsOf e=sz)(h0:0<sz)(KE:El aa P W base spare held e gh kH):El aa P W base spare held t (fun l:List α=>[D.list (l.map gh)]) (fun l=>(∀a∈l,kH a)∧l.length≤maxLen):=fun n cs x h=>by obtain⟨l,h1,h2,h3⟩:=Fl gh kH ht hc h0 KE h;exact⟨l,⟨h1,h2⟩,h3⟩
theorem El.two{t:TypeId}{f0 f1:Field}{k0 k1:Nat}(ht:P.underlying t=some (.struct #[f0,f1]))(hc:P.cellsOf t=k0+k1)(o0:f0.offset=0)(o1:f1.offset=k0)(c0:P.cellsOf f0.type=k0)(c1:P.cellsOf f1.type=k1){α β γ:Type}{ea:α→List D}{ga:α→Prop}{eb:β→List D}{gb:β→Prop}(h0:El aa P W base spare held f0.type ea ga)(h1:El aa P W base spare held f1.type eb gb)(mk:α→β→γ){ec:γ→List D}{gc:γ→Prop}(he:∀a b,ec (mk a b)=ea a++eb b)(hg:∀a b,ga a→gb b→gc (mk a b)):El aa P W base spare held t ec gc:=fun n cs x h=>by obtain⟨hl,hf⟩:=Ay ht h;obtain⟨n0,y0,r0⟩:=hf 0 f0 rfl;obtain⟨n1,y1,r1⟩:=hf 1 f1 rfl;rw[o0,c0]at r0;rw[o1,c1]at r1;obtain⟨a,g0,s0⟩:=h0 _ _ _ r0;obtain⟨b,g1,s1⟩:=h1 _ _ _ r1;refine⟨mk a b,hg a b g0 g1,?_⟩;rw[he];exact dA.whole (dA.two 0 s0 (by simpa using s1)) (by rw[hl,hc])
end
end Fw.Tz
/-
  The types of this program's arguments, read as data.
-/
namespace Fw.Tz
open Go Go.Proofs Fw.X Go.ChangeShapes Go.WideShapes Go.ChangeAt Go.RowKit Fw.Tz.Va Fw.Tz.Vb
open Go.Proofs.YtgfgckimecpmlaaGreatDoor
section
variable {H:Type}{aa:TypeId×Value→H}{P:Program}{W:World}{base:Nat}{spare:Nat→Bool}{held:Bool}
theorem El.mono{α:Type}{e:TypeId}{gh:α→List D}{g g':α→Prop}(h:El aa P W base spare held e gh g)(k:∀a,g a→g' a):El aa P W base spare held e gh g':=fun n cs x hx=>by obtain⟨a,h1,h2⟩:=h n cs x hx;exact⟨a,k a h1,h2⟩
end
section
variable {H:Type}{aa:TypeId×Value→H}{W:World}{base:Nat}{spare:Nat→Bool}{held:Bool}
theorem Y_:El aa Tryz.prog W base spare held 3 (fun k:Int=>[D.int .i64 k]) (fun k=> -9223372036854775808≤k∧k≤9223372036854775807):=El.int Tryz.underlying3
theorem I3:El aa Tryz.prog W base spare held 3 (fun k:Int=>[D.int .i64 k]) (fun _=>True):=Y_.mono fun _ _=>trivial
def encS(s:List UInt8×List aj):List D:=[.str s.1,.list (s.2.map aj.aa)]
end
theorem Pu{W:World}{ds:List D}{cs:Array Value}{vs:List V}(h:dA W ds cs.toList)(e:ds.map .d=vs):RV gE W (.agg vs) (.agg cs):=by subst e;simp only[RV];exact⟨cs,rfl,dA.R' h⟩
end Fw.Tz
/-
  Arguments read as data, with what they weigh.
-/
namespace Fw.Tz
open Go Go.Proofs Fw.X Go.ChangeShapes Go.WideShapes Go.ChangeAt Go.RowKit Fw.Tz.Va Fw.Tz.Vb
abbrev Ce(l:List Nat):Prop:=l.all (·≤reachBytes)=true
section
variable {H:Type}{aa:TypeId×Value→H}{P:Program}{W:World}{base:Nat}{spare:Nat→Bool}{held:Bool}
theorem xZ{a b:List Nat}(h:Ce (a++b)):Ce a∧Ce b:=by simp only[Ce,ac2,aaD]at h;exact h
theorem Az{e:TypeId}:∀{l:List (DataW H)},Ce (DataW.weightsAll P e l)→∀d∈l,Ce (d.weights P e)
 |[],_,d,hd=>by simp at hd
 |x::l,h,d,hd=>by
  simp only[DataW.weightsAll]at h;obtain⟨h1,h2⟩:=xZ h;rcases aa'.1 hd with rfl|hd
  ·exact h1
  ·exact Az h2 d hd
theorem ri:∀{ts:List TypeId}{l:List (DataW H)},Ce (DataW.weightsEach P ts l)→∀(i:Nat) t d,ts[i]? =some t→l[i]? =some d→Ce (d.weights P t)
 |[],_,_,i,t,d,h1,_=>by simp at h1
 |_::_,[],_,i,t,d,_,h2=>by simp at h2
 |t0::ts,d0::l,h,i,t,d,h1,h2=>by
  simp only[DataW.weightsEach]at h;obtain⟨h3,h4⟩:=xZ h;cases i with
   |zero=>simp at h1 h2;subst h1;subst h2;exact h3
   |succ i=>exact ri h4 i t d (by simpa using h1) (by simpa using h2)
def Ez{α:Type}(aa:TypeId×Value→H)(P:Program)(W:World)(base:Nat)(spare:Nat→Bool)(held:Bool)(e:TypeId)(gh:α→List D)(kH:α→Prop):Prop:=∀(n:Nat)(cs:List Value)(x:DataW H×List MemPlace),DataW.trod aa P W base spare held n e cs=some x→Ce (x.1.weights P e)→∃a,kH a∧dA W (gh a) cs
theorem El.ez{α:Type}{e:TypeId}{gh:α→List D}{g:α→Prop}(h:El aa P W base spare held e gh g):Ez aa P W base spare held e gh g:=fun n cs x hx _=>h n cs x hx
theorem Ez.mono{α:Type}{e:TypeId}{gh:α→List D}{g g':α→Prop}(h:Ez aa P W base spare held e gh g)(k:∀a,g a→g' a):Ez aa P W base spare held e gh g':=fun n cs x hx hw=>by obtain⟨a,h1,h2⟩:=h n cs x hx hw;exact⟨a,k a h1,h2⟩
theorem Ez.str{e:TypeId}(he:P.underlying e=some .string):Ez aa P W base spare held e (fun s:List UInt8=>[D.str s]) (fun s=>s.length≤reachBytes):=fun n cs x h hw=>by obtain⟨s,rfl,rfl,_⟩:=DataW.trod_string he h;refine⟨s.data.toList,?_,dA.one (by simp only[Rd];exact⟨s,rfl,rfl⟩)⟩;simpa[Ce,DataW.weights]using hw
theorem Cg{α:Type}(gh:α→List D)(kH:α→Prop){t e:TypeId}{sz:Nat}(ht:P.underlying t=some (.slice e))(hc:P.cellsOf e=sz)(h0:0<sz)(KE:Ez aa P W base spare held e gh kH){dp:Nat}{cs:List Value}{x:DataW H×List MemPlace}(h:DataW.trod aa P W base spare held dp t cs=some x)(hw:Ce (x.1.weights P t)):∃l:List α,(∀a∈l,kH a)∧l.length*P.bytesOf e≤reachBytes∧dA W [.list (l.map gh)] cs:=by
 rcases Go.Deep.open_slice ht h with⟨rfl,-⟩|⟨a,len,cap,m,n,D',Pl,rfl,hb,hl,hm,Y5,rfl,hx⟩
 ·exact⟨[],by simp,by simp,dA.one (by simp[Rd])⟩
 ·rw[hc]at hx;have hle:len≤m:=by rw[Y5];split<;>omega
  simp only[DataW.weights,ht]at hw;simp only[Ce,aa4,aaD,aaN,aaW,ade]at hw;obtain⟨QI,Dk⟩:=hw;have hwA:=(xZ Dk).1;have Pv:len*P.bytesOf e≤reachBytes:=aby (abg _ (by omega)) QI;have u6:∀i:Fin len,∃a':α,kH a'∧∃my,W.cells? base (a.add (i.1*sz)) sz=some my∧dA W (gh a') my:=by intro i;obtain⟨my,h1,h2⟩:=hx i.1 (by have:=i.2;omega);obtain⟨a',k1,k2⟩:=KE _ _ _ h2 (Az hwA _ (aa8.2 ⟨i.1,abb.2 i.2,rfl⟩));exact⟨a',k1,my,h1,k2⟩
  let f:Fin len→α:=fun i=>Classical.choose (u6 i)
  have hf:∀i,kH (f i)∧∃my,W.cells? base (a.add (i.1*sz)) sz=some my∧dA W (gh (f i)) my:=fun i=>adk (u6 i)
  refine⟨List.ofFn f,?_,by simpa using Pv,?_ ⟩
  ·intro a' ha;obtain⟨i,rfl⟩:=List.mem_ofFn.1 ha;exact(hf i).1
  ·refine dA.one ?_;simp only[Rd];by_cases Y6:len=0
   ·subst Y6;exact .inl ⟨by simp,.inr ⟨a,cap,rfl⟩⟩
   ·have nN:0<len:=by omega
    obtain⟨-,my,h1,-⟩:=hf ⟨0,nN⟩;obtain⟨-,h2,h3⟩:=World.cells?_some h1;have h4:=h3 0 h0;have gZ:∃v,my[0]? =some v:=⟨_,aaG (by omega)⟩;obtain⟨v,hv⟩:=gZ;rw[hv]at h4;have Y7:=World.cell?_spot h4;have w8:a.block<W.heap.size:=by have:=World.cells?_block h1 h0;simpa[Addr.add]using this
    have Av:a.spot=none:=by simpa[Addr.add]using Y7
    have Ur:a=⟨a.block,a.off,none⟩:=by cases a;simp at Av;simp[Av]
    refine .inr ⟨a.block,a.off,cap,sz,by rw[aaW,adj];rw[←Ur],by simp;exact hl,fun _=>I2 w8,?_ ⟩;refine Cc _ _ fun i e' he=>?_
    simp only[abf,aaE]at he;obtain⟨a',Y8,rfl⟩:=he;obtain⟨hi,Us⟩:=aaK.1 Y8;simp only[adj]at hi;simp only[List.getElem_ofFn]at Us;obtain⟨-,Y9,k1,k2⟩:=hf ⟨i,hi⟩;obtain⟨-,k3,k4⟩:=World.cells?_some k1;rw[←Us];refine⟨by rw[k2.1,k3],dx.nr (vs:=Y9) k2.1 k2.2 fun j v' fI=>?_ ⟩;have hj:j<sz:=by rw[←k3];exact(aaK.1 fI).1
    have:=k4 j hj;rw[fI]at this;rw[←this,Ur,Addr.fL,Addr.fL]
theorem Ez.rows{α:Type}{gh:α→List D}{kH:α→Prop}{t e:TypeId}{sz:Nat}(ht:P.underlying t=some (.slice e))(hc:P.cellsOf e=sz)(h0:0<sz)(KE:Ez aa P W base spare held e gh kH):Ez aa P W base spare held t (fun l:List α=>[D.list (l.map gh)]) (fun l=>(∀a∈l,kH a)∧l.length*P.bytesOf e≤reachBytes):=fun n cs x h hw=>by obtain⟨l,h1,h2,h3⟩:=Cg gh kH ht hc h0 KE h hw;exact⟨l,⟨h1,h2⟩,h3⟩
theorem p_{t:TypeId}{fs:Array Field}(ht:P.underlying t=some (.struct fs)){dp:Nat}{cs:List Value}{x:DataW H×List MemPlace}(h:DataW.trod aa P W base spare held dp t cs=some x)(hw:Ce (x.1.weights P t)):cs.length=P.cellsOf t∧∀(i:Nat)(f:Field),fs[i]? =some f→∃n y,DataW.trod aa P W base spare held n f.type ((cs.drop f.offset).take (P.cellsOf f.type))=some y∧Ce (y.1.weights P f.type):=by
 obtain⟨xs,n,_,rfl,hl,hlen,hf⟩:=DataW.trod_struct ht h;simp only[DataW.weights,ht]at hw;refine⟨hl,fun i f hi=>?_ ⟩;have bS:i<xs.length:=by rw[hlen];exact(abG.1 hi).1
 refine⟨n,_,(hf i f hi).trans (aaG bS),?_⟩;exact ri hw i _ _ (by rw[abf,←Array.getElem?_toList]at*;simp[hi]) (by rw[abf,aaG bS];rfl)
theorem Ez.two{t:TypeId}{f0 f1:Field}{k0 k1:Nat}(ht:P.underlying t=some (.struct #[f0,f1]))(hc:P.cellsOf t=k0+k1)(o0:f0.offset=0)(o1:f1.offset=k0)(c0:P.cellsOf f0.type=k0)(c1:P.cellsOf f1.type=k1){α β γ:Type}{ea:α→List D}{ga:α→Prop}{eb:β→List D}{gb:β→Prop}(h0:Ez aa P W base spare held f0.type ea ga)(h1:Ez aa P W base spare held f1.type eb gb)(mk:α→β→γ){ec:γ→List D}{gc:γ→Prop}(he:∀a b,ec (mk a b)=ea a++eb b)(hg:∀a b,ga a→gb b→gc (mk a b)):Ez aa P W base spare held t ec gc:=fun n cs x h hw=>by obtain⟨hl,hf⟩:=p_ ht h hw;obtain⟨n0,y0,r0,w0⟩:=hf 0 f0 rfl;obtain⟨n1,y1,r1,w1⟩:=hf 1 f1 rfl;rw[o0,c0]at r0;rw[o1,c1]at r1;obtain⟨a,g0,s0⟩:=h0 _ _ _ r0 w0;obtain⟨b,g1,s1⟩:=h1 _ _ _ r1 w1;refine⟨mk a b,hg a b g0 g1,?_⟩;rw[he];exact dA.whole (dA.two 0 s0 (by simpa using s1)) (by rw[hl,hc])
end
end Fw.Tz
/-
  The argument of the law of Under, read as data.
-/
namespace Fw.Tz
open Go Go.Proofs Fw.X Go.ChangeShapes Go.WideShapes Go.ChangeAt Go.RowKit Fw.Tz.Va Fw.Tz.Vb Fw.Tz.Vw Fw.Tz.Yd Fw.Tz.Yb Fw.Tz.Bb
open Go.Proofs.YtgfgckimecpmlaaGreatDoor
section
variable {H:Type}{aa:TypeId×Value→H}{P:Program}{W:World}{base:Nat}{spare:Nat→Bool}{held:Bool}
theorem Ez.bnd{t:TypeId}{f0 f1 f2 f3 f4:Field}(ht:P.underlying t=some (.struct #[f0,f1,f2,f3,f4]))(hc:P.cellsOf t=7)(o:[f0,f1,f2,f3,f4].map Field.offset=[0,1,2,4,6])(k:[f0,f1,f2,f3,f4].map (fun f=>P.cellsOf f.type)=[1,1,2,2,1])(h0:Ez aa P W base spare held f0.type (fun k:Int=>[D.int .i64 k]) (fun _=>True))(h1:Ez aa P W base spare held f1.type (fun s:List UInt8=>[D.str s]) (fun s=>s.length≤281474976710656))(h2:Ez aa P W base spare held f2.type aj.aa aj.sw)(h3:Ez aa P W base spare held f3.type encS (fun s=>s.1.length≤281474976710656∧s.2.length≤281474976710656∧∀x∈s.2,aj.sw x))(h4:Ez aa P W base spare held f4.type (fun s:List UInt8=>[D.str s]) (fun s=>s.length≤281474976710656)):Ez aa P W base spare held t Bd.aa VL:=fun n cs x h hw=>by simp only[aaY,ac5,acD,aco]at o k;obtain⟨o0,o1,o2,o3,o4⟩:=o;obtain⟨k0,k1,k2,k3,k4⟩:=k;obtain⟨hl,hf⟩:=p_ ht h hw;obtain⟨n0,y0,r0,w0⟩:=hf 0 f0 rfl;obtain⟨n1,y1,r1,w1⟩:=hf 1 f1 rfl;obtain⟨n2,y2,r2,w2⟩:=hf 2 f2 rfl;obtain⟨n3,y3,r3,w3⟩:=hf 3 f3 rfl;obtain⟨n4,y4,r4,w4⟩:=hf 4 f4 rfl;rw[o0,k0]at r0;rw[o1,k1]at r1;rw[o2,k2]at r2;rw[o3,k3]at r3;rw[o4,k4]at r4;obtain⟨a0,g0,s0⟩:=h0 _ _ _ r0 w0;obtain⟨a1,g1,s1⟩:=h1 _ _ _ r1 w1;obtain⟨a2,g2,s2⟩:=h2 _ _ _ r2 w2;obtain⟨a3,g3,s3⟩:=h3 _ _ _ r3 w3;obtain⟨a4,g4,s4⟩:=h4 _ _ _ r4 w4;refine⟨⟨a0,a1,a2,a3.1,a3.2,a4⟩,⟨g1,g4,g3.1,g2,g3.2.1,g3.2.2⟩,?_⟩;exact dA.whole (dA.two 0 (dA.two 0 (dA.two 0 (dA.two 0 s0 s1) s2) s3) s4) (by rw[hl,hc])
end
section
variable {H:Type}{aa:TypeId×Value→H}{W:World}{base:Nat}{spare:Nat→Bool}{held:Bool}
theorem L4:reachBytes≤281474976710656:=by decide
theorem L5:Ez aa Tryz.prog W base spare held 9 (fun s:List UInt8=>[D.str s]) (fun s=>s.length≤281474976710656):=(Ez.str Tryz.underlying9).mono fun s h=>aby h L4
theorem zCf:Ez aa Tryz.prog W base spare held 132 Cf.aa (fun c=>c.var.length≤281474976710656):=Ez.two Tryz.underlying132 (k0:=1) (k1:=1) k_ rfl rfl k_ k_ L5 I3.ez (fun s c=>(⟨s,c⟩:Cf)) (fun _ _=>rfl) (fun _ _ h _=>h)
theorem zTs:Ez aa Tryz.prog W base spare held 28 (fun l:List Cf=>[D.list (l.map Cf.aa)]) (fun l=>(∀a∈l,a.var.length≤281474976710656)∧l.length<8796093022208):=(Ez.rows (sz:=2) Tryz.underlying28 k_ (by omega) zCf).mono fun l h=>
 ⟨h.1,by
  have h2:=h.2;rw[show Tryz.prog.bytesOf 132=24 from by kernel_rfl]at h2;have:reachBytes=140737488351232:=by decide
  omega⟩
theorem Ut:Ez aa Tryz.prog W base spare held 30 aj.aa aj.sw:=Ez.two Tryz.underlying30 (k0:=1) (k1:=1) k_ rfl rfl k_ k_ I3.ez zTs (fun c ts=>(⟨c,ts⟩:aj)) (fun _ _=>rfl) (fun _ _ _ h=>⟨h.2,h.1⟩)
theorem Ni:Ez aa Tryz.prog W base spare held 22 (fun l:List aj=>[D.list (l.map aj.aa)]) (fun l=>(∀a∈l,aj.sw a)∧l.length≤281474976710656):=(Ez.rows (sz:=2) Tryz.underlying22 k_ (by omega) Ut).mono fun l h=>
 ⟨h.1,by
  have h2:=h.2;rw[show Tryz.prog.bytesOf 30=32 from by kernel_rfl]at h2;have:reachBytes=140737488351232:=by decide
  omega⟩
theorem Za:Ez aa Tryz.prog W base spare held 24 encS (fun s=>s.1.length≤281474976710656∧s.2.length≤281474976710656∧∀x∈s.2,aj.sw x):=Ez.two Tryz.underlying24 (k0:=1) (k1:=1) k_ rfl rfl k_ k_ L5 Ni (fun r d=>(r,d)) (fun _ _=>rfl) (fun _ _ h1 h2=>⟨h1,h2.2,h2.1⟩)
theorem Zb:Ez aa Tryz.prog W base spare held 89 Bd.aa VL:=Ez.bnd Tryz.underlying89 k_ rfl k_ I3.ez L5 Ut Za L5
theorem Uu:Ez aa Tryz.prog W base spare held 51 (fun l:List Bd=>[D.list (l.map Bd.aa)]) (fun l=>(∀a∈l,VL a)∧l.length≤281474976710656):=(Ez.rows (sz:=7) Tryz.underlying51 k_ (by omega) Zb).mono fun l h=>
 ⟨h.1,by
  have h2:=h.2;rw[show Tryz.prog.bytesOf 89=112 from by kernel_rfl]at h2;have:reachBytes=140737488351232:=by decide
  omega⟩
def L6(c:List aj×List Bd):List D:=[.list (c.1.map aj.aa),.list (c.2.map Bd.aa)]
theorem Uv:Ez aa Tryz.prog W base spare held 71 L6 (fun c=>VM c.1 c.2):=Ez.two Tryz.underlying71 (k0:=1) (k1:=1) k_ rfl rfl k_ k_ Ni Uu (fun a b=>(a,b)) (fun _ _=>rfl) (fun _ _ h1 h2=>⟨h1.2,h2.2,h1.1,h2.1⟩)
end
end Fw.Tz
/-
  The first world of Under's law; the wrap with the weights handed on.
-/
namespace Fw.Tz
open Go Go.Proofs Fw.X Go.ChangeShapes Go.WideShapes Go.ChangeAt Go.RowKit
open Go.Proofs.YtgfgckimecpmlaaGreatDoor
abbrev uB:List (String×DataW Unit):=Rows.primsUnderRow.laid
theorem x4{laid:List (String×DataW Unit)}{W:World}(h:laidMetH Tryz.prog laid W)(name:String)(k:IntKind)(zs:List Int)(g:Nat)(t e:TypeId)(n:Nat)(hl:(laid.filter fun x=>x.1==name)=[(name,Lib.tabData k zs)])(hg:Tryz.prog.globalNamed name=some g)(Q6:(Tryz.prog.globals[g]? ).map (·.type)=some t)(ht:Tryz.prog.underlying t=some (.array n e))(he:Tryz.prog.underlying e=some (.int k))(hce:Tryz.prog.cellsOf e=1)(hct:Tryz.prog.cellsOf t=n)(nM:([(name,Lib.tabData k zs)].all fun(x:String×DataW Unit)=>x.2.handleName?.isNone)=true):Lib.TabIs Tryz.prog W name k zs:=by have h2:=laidMetH.filter (fun x=>x.1==name) h;rw[hl,MakeChecks.laidMetH_plain _ _ _ nM]at h2;exact Lib.tabIs_of_head hg Q6 ht he hce hct h2
theorem DX{laid:List (String×DataW Unit)}{W:World}(h:laidMetH Tryz.prog laid W)(name:String)(en:String)(d:DataW Unit)(g:Nat)(ms:Array (String×TypeId))(hl:(laid.filter fun x=>x.1==name)=[(name,.iface en d)])(hg:Tryz.prog.globalNamed name=some g)(Q6:(Tryz.prog.globals[g]? ).map (·.type)=some 226)(ht:Tryz.prog.underlying 226=some (.interface ms))(nM:([(name,DataW.iface en d)].all fun(x:String×DataW Unit)=>x.2.handleName?.isNone)=true):∃ev,W.cell? ⟨g,0,none⟩=some ev∧(ev=.nilIface∨∃te pe,ev=.iface te pe):=by have h2:=laidMetH.filter (fun x=>x.1==name) h;rw[hl,MakeChecks.laidMetH_plain _ _ _ nM]at h2;obtain⟨ps,⟨g',t,cs,dp,p,q,hg',ht',hv,hd,_,_⟩,_,_⟩:=h2;obtain rfl:=acH (hg.symm.trans hg');obtain rfl:=acH (Q6.symm.trans ht');obtain⟨aau,u,v,gZ,_,_⟩:=iface_of_trod ht hd;refine⟨.iface u v,?_,.inr ⟨u,v,rfl⟩⟩;rw[World.var?_cell hg hv 0,←Array.getElem?_toList,gZ];rfl
theorem Pw{W:World}(h:laidMetH Tryz.prog uB W)(A2:W.ShapedOpen Tryz.prog):W0 W:=by
 have hdb:=x4 h "math/bits.deBruijn32tab" .u8 Nh 8 368 5 32 k_ k_ k_ k_ k_ k_ k_ k_;have hc:=hdb.cell (show Tryz.prog.globalNamed "math/bits.deBruijn32tab"=some 8 by kernel_rfl) 0 (by simp[Nh]);have Uw:6<W.heap.size:=by
  rcases abm 8 W.heap.size with h8|h8
  ·omega
  ·exfalso;have:W.heap[8]? =none:=Array.getElem?_eq_none h8;simp[World.cell?,this]at hc
 refine⟨Uw,cell_of_shapedOpen_int (P:=Tryz.prog) (g:=2) (t:=3) (zero:= #[.int .i64 0]) A2 (acK k_) k_ rfl k_ k_ Tryz.underlying3,?_,?_,?_⟩
 ·exact x4 h "internal/strconv.uint64pow10" .u64 Lib.pow10Tab 3 346 272 20 k_ k_ k_ k_ k_ k_ k_ k_
 ·exact DX h "strconv.ErrSyntax" "*errors.errorString" (.ptr (.agg [.lit (.string [105,110,118,97,108,105,100,32,115,121,110,116,97,120])])) 4 _ k_ k_ k_ Tryz.underlying226 k_
 ·exact DX h "strconv.ErrRange" "*errors.errorString" (.ptr (.agg [.lit (.string [118,97,108,117,101,32,111,117,116,32,111,102,32,114,97,110,103,101])])) 5 _ k_ k_ k_ Tryz.underlying226 k_
theorem Fm{W:World}(h:laidMetH Tryz.prog uB W):Yq.aw W:=x4 h "strings.asciiSpace" .u8 Lib.asciiSpaceTab 0 205 5 256 k_ k_ k_ k_ k_ k_ k_ k_
theorem Ux{H:Type}{aa:TypeId×Value→H}{a:Assume}{C:Checked}{os:Os}{f:FuncId}{fn:Func}{s:ChangeSpec}{Aw:List PathCond}{jR fresh p4 Ax:Bool}{X:World→Array Value→Prop}(hX:∀(w w':World)(args:Array Value),w.heap=w'.heap→X w args→X w' args)(own:ownKnob C.prog.godebug=none)(jj:os.Started)(Cd:C.prog.inits.idxOf? f=none)(Bi:C.prog.funcs[f]? =some fn)(xY:∃(w:World)(tape:Tape)(i:Input),w.os=os∧(w.forCall tape i).Shaped C.prog∧i.vars=[]∧Input.okWide C.prog (w.forCall tape i) .any w.heap.size f i∧((s.pre aa C.prog fn Aw jR (w.forCall tape i).memory i.args∧X (w.forCall tape i).memory i.args)∧sizedMet aa C.prog fn (OpenSpec.ofChange s) jR (w.forCall tape i).memory i.args)∧a.holds C.prog (lone (Frame.enter C.prog f i.args .normal) [] (w.forCall tape i)))(uA:∀(W:World)(base:Nat)(args:Array Value)(ds gs:List (DataW H))(before:List MemPlace),(∀(j:Nat) t v,fn.params[j]? =some t→args[j]? =some v→Value.okWide C.prog W .any base t v)→DataW.Whole aa C.prog fn.params.toList s.vars jR W args.toList ds gs before→(DataW.weightsEach C.prog (fn.params.toList++s.plain.varTypes C.prog) (ds++gs)).all (·≤reachBytes)=true→W.ShapedOpen C.prog→X W args→Calls C.prog f args W fun e W'=>∃v,e=.returned v∧s.post aa C.prog fn jR fresh p4 Ax W args v W'):ReturnsInHanded a C os f .any (fun w args=>(s.pre aa C.prog fn Aw jR w args∧X w args)∧sizedMet aa C.prog fn (OpenSpec.ofChange s) jR w args) (s.post aa C.prog fn jR fresh p4 Ax):=by
 refine returnsInHanded_of_calls own jj Cd xY ?_;intro w tape i _ A2 _ eF Ps _;obtain⟨_,_,_,Rh,Pt,_,_,_,_,oj⟩:=eF;have e:Rh=fn:=acH (Pt.symm.trans Bi);subst e;obtain⟨⟨⟨ds,gs,before,hw,hc⟩,hx⟩,hz⟩:=Ps;have Y':=DataW.Whole.of_heap (w':=w.forCall tape i) (by rfl) hw;refine(uA (w.forCall tape i) w.heap.size i.args ds gs before oj Y' (hz.weights hw) A2 (hX _ _ _ (by rfl) hx)).mono fun e W' ⟨v,he,hp⟩=>?_
 subst he;exact ChangeSpec.post_blind hp
end Fw.Tz
