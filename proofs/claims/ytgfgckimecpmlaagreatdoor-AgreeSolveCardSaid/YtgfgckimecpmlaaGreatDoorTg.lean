/-
  From a call that touches nothing to the world's own call.
-/
import Derived.Test.YtgfgckimecpmlaaGreatDoorTc
import Derived.Test.YtgfgckimecpmlaaGreatDoorTie
import Derived.Test.YtgfgckimecpmlaaGreatDoorCards
import Derived.ProofKit
import Derived.Handy
import Derived.Lay
import Derived.SevenTiedAt
import Derived.Shelf.Vars
import Derived.HandedShaped
import Derived.Test.YtgfgckimecpmlaaGreatDoorFg
import Derived.Deep.Slices
import Derived.ChangeStays
import Derived.ReadAgain
import Derived.ChangeOld
import Derived.Test.YtgfgckimecpmlaaGreatDoorTf
set_option linter.unusedSimpArgs false
set_option maxRecDepth 100000
set_option linter.unusedVariables false
namespace Fw.Tz
open Go Go.Proofs Fw.X Go.ChangeShapes Go.WideShapes Go.ChangeAt Go.RowKit
open Go.Proofs.YtgfgckimecpmlaaGreatDoor
variable {W:World}
theorem Bl{f:FuncId}{args:List V}{v:V}{vs:Array Value}(h:PC P (gl W) f args v)(dU:aT ⟨fun _=>False,fun _=>none,fun _=>False⟩ W args vs.toList):Calls P f vs W fun e w'=>∃x,e=.returned x/\Below W.heap.size W w'/\RV ⟨fun _=>False,fun _=>none,fun _=>False⟩ w' v x:=by
 have hg:gW (gl W) ⟨fun _=>False,fun _=>none,fun _=>False⟩ W:=by refine⟨fun n cs hn=>(by cases hn),fun k hk=>⟨⟨hk,fun h=>h,fun b x hx=>(by cases hx)⟩,rfl⟩⟩
 refine(h.2 ⟨fun _=>False,fun _=>none,fun _=>False⟩ W vs dU (fun k hk=>hk.elim) (fun b y k hy=>(by cases hy)) hg).mono ?_;rintro e w' ⟨x,rfl,hx,he,_⟩;exact⟨x,rfl,⟨he.os,he.tape,he.output,he.size,fun k hk=>(he.keeps k ⟨hk,fun h=>h,fun b x hx=>(by cases hx)⟩).2⟩,hx⟩
end Fw.Tz
/-
  Arguments that are rows: read as data, and read again behind a call that writes nothing of theirs.
-/
namespace Fw.Tz
open Go Go.Proofs Fw.X Go.ChangeShapes Go.WideShapes Go.ChangeAt Go.RowKit
open Go.Proofs.YtgfgckimecpmlaaGreatDoor
abbrev gE:G:=⟨fun _=>False,fun _=>none,fun _=>False⟩
theorem OB{W:World}{k:Nat}(h:k<W.heap.size):cZ gE W k:=⟨h,fun h=>h,fun b x hx=>by cases hx⟩
theorem Zd:Kids Tryz.prog (·<Tryz.prog.types.size):=kids_rows k_ k_
theorem Dh:∀t e,t<Tryz.prog.types.size->Tryz.prog.underlying t=some (.slice e)->0<Tryz.prog.cellsOf e:=slices_full_of _ k_
section
variable {H:Type}{aa:TypeId×Value->H}{W W':World}
theorem Di(hb:Below W.heap.size W W'){t:TypeId}{v:Value}{d:DataW H}{ps:List MemPlace}(ht:t<Tryz.prog.types.size)(h:DataW.Trod aa Tryz.prog W 0 (fun _=>true) true t v d ps):DataW.Trod aa Tryz.prog W' 0 (fun b=>decide (b<W.heap.size)) true t v d ps:=by
 obtain⟨n,hn⟩:=h;have b8:=DataW.trod_lt n t _ _ hn;refine⟨n,DataW.trod_stays Zd (fun{t e} ht hu=>Dh t e ht hu) (fun h=>by cases h) ht hn (fun p hp=>?_ ) (fun p hp=>aa0 (b8 p hp))⟩;have hp':=b8 p hp;cases p with
  |cell b off=>exact World.cell?_of_block (w:=W) (hb.block b hp')
  |map b=>exact hb.block b hp'
theorem pt(hb:Below W.heap.size W W'):∀{ts:List TypeId}{vs:List Value}{ds:List (DataW H)}{ps:List MemPlace},(∀t∈ts,t<Tryz.prog.types.size)->DataW.TrodAll aa Tryz.prog W 0 (fun _=>true) true ts vs ds ps->DataW.TrodAll aa Tryz.prog W' 0 (fun b=>decide (b<W.heap.size)) true ts vs ds ps|[],[],[],_,_,h=>h|t::ts,v::vs,d::ds,_,ht,⟨p,q,h1,h2,e⟩=>⟨p,q,Di hb (ht t abo) h1,pt hb (fun t h=>ht t (abe _ h)) h2,e⟩
end
theorem IL{w:World}{im:Nat->Prop}{aU sz:Nat}:∀(es:List (List D))(off:Nat),(∀(i:Nat)(e:List D),es[i]? =some e->e.length=sz/\dC w im aU (off+i*sz) e)->iu w im aU off sz es
 |[],_,_=>by simp only[iu]
 |e::es,off,h=>by simp only[iu];have h0:=h 0 e rfl;refine⟨h0.1,by simpa using h0.2,IL es (off+sz) fun i e' he=>?_ ⟩;have:=h (i+1) e' (by simpa using he);rwa[show off+(i+1)*sz=off+sz+i*sz by rw[acE];omega]at this
section
variable {H:Type}{aa:TypeId×Value->H}{P:Program}{W:World}{base:Nat}{spare:Nat->Bool}{held:Bool}
def dG(W:World)(ds:List D)(cs:List Value):Prop:=ds.length=cs.length/\∀(j:Nat)(d:D)(v:Value),ds[j]? =some d->cs[j]? =some v->Rd W (cZ gE W) d v
theorem dG.one{d:D}{v:Value}(h:Rd W (cZ gE W) d v):dG W [d] [v]:=⟨rfl,fun j d' v' h1 h2=>by
 cases j with
  |zero=>simp at h1 h2;subst h1;subst h2;exact h
  |succ j=>simp at h1⟩
theorem dG.app{a b:List D}{x y:List Value}(h:dG W a x)(k:dG W b y):dG W (a++b) (x++y):=⟨by
 simp[h.1,k.1],fun j d v h1 h2=>by
  by_cases hj:j<a.length
  ·rw[abU hj]at h1;rw[abU (by rw[←h.1];exact hj)]at h2;exact h.2 j d v h1 h2
  ·rw[abQ (by omega)]at h1;rw[abQ (by rw[←h.1];omega),←h.1]at h2;exact k.2 _ d v h1 h2⟩
theorem F4{α:Type}(sN:α->List D)(w7:α->Prop){t e:TypeId}{sz:Nat}(ht:P.underlying t=some (.slice e))(hc:P.cellsOf e=sz)(h0:0<sz)(Nr:∀(n:Nat)(cs:List Value)(x:DataW H×List MemPlace),DataW.trod aa P W base spare held n e cs=some x->∃a,w7 a/\dG W (sN a) cs){kC:Nat}{cs:List Value}{x:DataW H×List MemPlace}(h:DataW.trod aa P W base spare held kC t cs=some x):∃l:List α,(∀a∈l,w7 a)/\l.length<=maxLen/\dG W [.list (l.map sN)] cs:=by
 rcases Go.Deep.open_slice ht h with⟨rfl,-⟩|⟨a,len,cap,m,n,D',Pl,rfl,hb,hl,hm,hmm,-,hx⟩
 ·exact⟨[],by simp,by simp,dG.one (by simp[Rd])⟩
 ·rw[hc]at hx;have hle:len<=m:=by rw[hmm];split<;>omega
  have GG:∀i:Fin len,∃a':α,w7 a'/\∃uH,W.cells? base (a.add (i.1*sz)) sz=some uH/\dG W (sN a') uH:=by intro i;obtain⟨uH,h1,h2⟩:=hx i.1 (by have:=i.2;omega);obtain⟨a',k1,k2⟩:=Nr _ _ _ h2;exact⟨a',k1,uH,h1,k2⟩
  let f:Fin len->α:=fun i=>Classical.choose (GG i)
  have hf:∀i,w7 (f i)/\∃uH,W.cells? base (a.add (i.1*sz)) sz=some uH/\dG W (sN (f i)) uH:=fun i=>Classical.choose_spec (GG i)
  refine⟨List.ofFn f,?_,by simp;omega,?_ ⟩
  ·intro a' ha;obtain⟨i,rfl⟩:=List.mem_ofFn.1 ha;exact(hf i).1
  ·refine dG.one ?_;simp only[Rd];by_cases h0l:len=0
   ·subst h0l;exact .inl ⟨by simp,.inr ⟨a,cap,rfl⟩⟩
   ·have pD:0<len:=by omega
    obtain⟨-,uH,h1,-⟩:=hf ⟨0,pD⟩;obtain⟨-,h2,h3⟩:=World.cells?_some h1;have h4:=h3 0 h0;have qz:∃v,uH[0]? =some v:=⟨_,aaI (by omega)⟩;obtain⟨v,hv⟩:=qz;rw[hv]at h4;have hsp:=World.cell?_spot h4;have Kf:a.block<W.heap.size:=by have:=World.cells?_block h1 h0;simpa[Addr.add]using this
    have MK:a.spot=none:=by simpa[Addr.add]using hsp
    have hae:a=⟨a.block,a.off,none⟩:=by cases a;simp at MK;simp[MK]
    refine .inr ⟨a.block,a.off,cap,sz,by rw[aaQ,List.length_ofFn];rw[←hae],by simp;exact hl,fun _=>OB Kf,?_ ⟩;refine IL _ _ fun i e' he=>?_
    simp only[abz,aaG]at he;obtain⟨a',VU,rfl⟩:=he;obtain⟨hi,hia⟩:=aaO.1 VU;simp only[List.length_ofFn]at hi;simp only[List.getElem_ofFn]at hia;obtain⟨-,cs2,k1,k2⟩:=hf ⟨i,hi⟩;obtain⟨-,k3,k4⟩:=World.cells?_some k1;rw[←hia];refine⟨by rw[k2.1,k3],dC.nT (vs:=cs2) k2.1 k2.2 fun j v' jF=>?_ ⟩;have hj:j<sz:=by rw[←k3];exact(aaO.1 jF).1
    have:=k4 j hj;rw[jF]at this;rw[←this,hae,Addr.gD,Addr.gD]
theorem OD{e:TypeId}(he:P.underlying e=some (.int .i64))(n:Nat)(cs:List Value)(x:DataW H×List MemPlace)(h:DataW.trod aa P W base spare held n e cs=some x):∃a:Int,(-9223372036854775808<=a/\a<=9223372036854775807)/\dG W [.int .i64 a] cs:=by
 obtain⟨k,rfl,-,hw⟩:=DataW.trod_int he h;have h1:IntKind.i64.min<=k/\k<=IntKind.i64.max:=by simp only[Lit.wf,aaD,aaL]at hw;exact hw
 have e1:IntKind.i64.min= -9223372036854775808:=rfl;have e2:IntKind.i64.max=9223372036854775807:=rfl;rw[e1,e2]at h1;exact⟨k,h1,dG.one (by simp only[Rd])⟩
theorem F5{d:D}{v:Value}{cs:List Value}(qz:v.cells.toList=cs)(h:dG W [d] cs)(h1:v.cells= #[v]):RV gE W (.d d) v:=by subst qz;rw[h1]at h;simp only[RV];exact h.2 0 d v rfl rfl
end
end Fw.Tz
/-
  What the rows of this seat share: the first world, the wrap.
-/
namespace Fw.Tz
open Go Go.Proofs Fw.X Go.ChangeShapes Go.WideShapes Go.ChangeAt Go.RowKit
open Go.Proofs.YtgfgckimecpmlaaGreatDoor
variable {W:World}
abbrev pv:List (String×DataW Unit):=Rows.agreeDimsRow.laid
theorem IM(h:laidMetH Tryz.prog pv W)(name:String)(k:IntKind)(zs:List Int)(g:Nat)(t e:TypeId)(n:Nat)(hl:(pv.filter fun x=>x.1==name)=[(name,Lib.tabData k zs)])(hg:Tryz.prog.globalNamed name=some g)(U5:(Tryz.prog.globals[g]? ).map (·.type)=some t)(ht:Tryz.prog.underlying t=some (.array n e))(he:Tryz.prog.underlying e=some (.int k))(hce:Tryz.prog.cellsOf e=1)(hct:Tryz.prog.cellsOf t=n)(tO:([(name,Lib.tabData k zs)].all fun(x:String×DataW Unit)=>x.2.handleName?.isNone)=true):Lib.TabIs Tryz.prog W name k zs:=by have h2:=laidMetH.filter (fun x=>x.1==name) h;rw[hl,MakeChecks.laidMetH_plain _ _ _ tO]at h2;exact Lib.tabIs_of_head hg U5 ht he hce hct h2
theorem IN(h:laidMetH Tryz.prog pv W)(name:String)(en:String)(d:DataW Unit)(g:Nat)(ms:Array (String×TypeId))(hl:(pv.filter fun x=>x.1==name)=[(name,.iface en d)])(hg:Tryz.prog.globalNamed name=some g)(U5:(Tryz.prog.globals[g]? ).map (·.type)=some 226)(ht:Tryz.prog.underlying 226=some (.interface ms))(tO:([(name,DataW.iface en d)].all fun(x:String×DataW Unit)=>x.2.handleName?.isNone)=true):∃ev,W.cell? ⟨g,0,none⟩=some ev/\(ev=.nilIface\/∃te pe,ev=.iface te pe):=by have h2:=laidMetH.filter (fun x=>x.1==name) h;rw[hl,MakeChecks.laidMetH_plain _ _ _ tO]at h2;obtain⟨ps,⟨g',t,cs,kC,p,q,Ut,ht',hv,hd,_,_⟩,_,_⟩:=h2;obtain rfl:=acD (hg.symm.trans Ut);obtain rfl:=acD (U5.symm.trans ht');obtain⟨aad,u,v,qz,_,_⟩:=iface_of_trod ht hd;refine⟨.iface u v,?_,.inr ⟨u,v,rfl⟩⟩;rw[World.var?_cell hg hv 0,←Array.getElem?_toList,qz];rfl
def ML:List Int:=[0,1,28,2,29,14,24,3,30,22,20,15,25,17,4,8,31,27,13,23,21,19,16,7,26,12,18,6,11,5,10,9]
theorem Uu(h:laidMetH Tryz.prog pv W)(wK:W.ShapedOpen Tryz.prog):W0 W:=by
 have hdb:=IM h "math/bits.deBruijn32tab" .u8 ML 8 368 5 32 k_ k_ k_ k_ k_ k_ k_ k_;have hc:=hdb.cell (show Tryz.prog.globalNamed "math/bits.deBruijn32tab"=some 8 by kernel_rfl) 0 (by simp[ML]);have Uv:6<W.heap.size:=by
  rcases abG 8 W.heap.size with h8|h8
  ·omega
  ·exfalso;have:W.heap[8]? =none:=Array.getElem?_eq_none h8;simp[World.cell?,this]at hc
 refine⟨Uv,cell_of_shapedOpen_int (P:=Tryz.prog) (g:=2) (t:=3) (zero:= #[.int .i64 0]) wK (adh k_) k_ rfl k_ k_ Tryz.underlying3,?_,?_,?_⟩
 ·exact IM h "internal/strconv.uint64pow10" .u64 Lib.pow10Tab 3 346 272 20 k_ k_ k_ k_ k_ k_ k_ k_
 ·exact IN h "strconv.ErrSyntax" "*errors.errorString" (.ptr (.agg [.lit (.string [105,110,118,97,108,105,100,32,115,121,110,116,97,120])])) 4 _ k_ k_ k_ Tryz.underlying226 k_
 ·exact IN h "strconv.ErrRange" "*errors.errorString" (.ptr (.agg [.lit (.string [118,97,108,117,101,32,111,117,116,32,111,102,32,114,97,110,103,101])])) 5 _ k_ k_ k_ Tryz.underlying226 k_
theorem own:ownKnob Tryz.prog.godebug=none:=k_
theorem wrap{H:Type}{aa:TypeId×Value->H}{a:Assume}{C:Checked}{os:Os}{f:FuncId}{fn:Func}{s:ChangeSpec}{MM:List PathCond}{vW fresh EE MN:Bool}{X:World->Array Value->Prop}(hX:∀(w w':World)(args:Array Value),w.heap=w'.heap->X w args->X w' args)(own:ownKnob C.prog.godebug=none)(mh:os.Started)(OE:C.prog.inits.idxOf? f=none)(Hd:C.prog.funcs[f]? =some fn)(LD:∃(w:World)(tape:Tape)(i:Input),w.os=os/\(w.forCall tape i).Shaped C.prog/\i.vars=[]/\Input.okWide C.prog (w.forCall tape i) .any w.heap.size f i/\((s.pre aa C.prog fn MM vW (w.forCall tape i).memory i.args/\X (w.forCall tape i).memory i.args)/\sizedMet aa C.prog fn (OpenSpec.ofChange s) vW (w.forCall tape i).memory i.args)/\a.holds C.prog (lone (Frame.enter C.prog f i.args .normal) [] (w.forCall tape i)))(IP:∀(W:World)(base:Nat)(args:Array Value)(ds gs:List (DataW H))(before:List MemPlace),(∀(j:Nat) t v,fn.params[j]? =some t->args[j]? =some v->Value.okWide C.prog W .any base t v)->DataW.Whole aa C.prog fn.params.toList s.vars vW W args.toList ds gs before->W.ShapedOpen C.prog->X W args->Calls C.prog f args W fun e W'=>∃v,e=.returned v/\s.post aa C.prog fn vW fresh EE MN W args v W'):ReturnsInHanded a C os f .any (fun w args=>(s.pre aa C.prog fn MM vW w args/\X w args)/\sizedMet aa C.prog fn (OpenSpec.ofChange s) vW w args) (s.post aa C.prog fn vW fresh EE MN):=by
 refine returnsInHanded_of_calls own mh OE LD ?_;intro w tape i _ wK _ iL Ze _;obtain⟨_,_,_,Ww,Zf,_,_,_,_,uZ⟩:=iL;have e:Ww=fn:=acD (Zf.symm.trans Hd);subst e;obtain⟨⟨⟨ds,gs,before,hw,hc⟩,hx⟩,hz⟩:=Ze;have Uw:=DataW.Whole.of_heap (w':=w.forCall tape i) (by rfl) hw;refine(IP (w.forCall tape i) w.heap.size i.args ds gs before uZ Uw wK (hX _ _ _ (by rfl) hx)).mono fun e W' ⟨v,he,hp⟩=>?_
 subst he;exact ChangeSpec.post_blind hp
end Fw.Tz
/-
  Arguments that are structs: their cells read field by field.
-/
namespace Fw.Tz
open Go Go.Proofs Fw.X Go.ChangeShapes Go.WideShapes Go.ChangeAt Go.RowKit Fw.Tz.Va Fw.Tz.Vb Fw.Tz.Vc Fw.Tz.Ve
section
variable {W:World}
theorem dG.two{a b:List D}{cs:List Value}{k1 k2:Nat}(o:Nat)(h1:dG W a ((cs.drop o).take k1))(h2:dG W b ((cs.drop (o+k1)).take k2)):dG W (a++b) ((cs.drop o).take (k1+k2)):=by rw[List.take_add,abW];exact h1.app h2
theorem dG.whole{a:List D}{cs:List Value}{n:Nat}(h:dG W a ((cs.drop 0).take n))(hn:cs.length=n):dG W a cs:=by rwa[abA,abq (by omega)]at h
theorem dG.Ra:∀{ds:List D}{cs:List Value},dG W ds cs->aT gE W (ds.map .d) cs
 |[],[],_=>trivial
 |[],_::_,h=>by have:=h.1;simp at this
 |_::_,[],h=>by have:=h.1;simp at this
 |d::ds,c::cs,h=>by simp only[aaV,aT];refine⟨by simp only[RV];exact h.2 0 d c rfl rfl,dG.Ra ⟨by have:=h.1;simpa using this,fun j d' v' h1 h2=>h.2 (j+1) d' v' (by simpa using h1) (by simpa using h2)⟩⟩
end
section
variable {H:Type}{aa:TypeId×Value->H}{P:Program}{W:World}{base:Nat}{spare:Nat->Bool}{held:Bool}
variable {t e:TypeId}{α:Type}
theorem tK{fs:Array Field}(ht:P.underlying t=some (.struct fs)){kC:Nat}{cs:List Value}{x:DataW H×List MemPlace}(h:DataW.trod aa P W base spare held kC t cs=some x):cs.length=P.cellsOf t/\∀(i:Nat)(f:Field),fs[i]? =some f->∃n y,DataW.trod aa P W base spare held n f.type ((cs.drop f.offset).take (P.cellsOf f.type))=some y:=by
 obtain⟨xs,n,_,_,hl,hlen,hf⟩:=DataW.trod_struct ht h;refine⟨hl,fun i f hi=>?_ ⟩;have b8:i<xs.length:=by rw[hlen];exact(abP.1 hi).1
 exact⟨n,_,(hf i f hi).trans (aaI b8)⟩
def El(aa:TypeId×Value->H)(P:Program)(W:World)(base:Nat)(spare:Nat->Bool)(held:Bool)(e:TypeId)(sN:α->List D)(w7:α->Prop):Prop:=∀(n:Nat)(cs:List Value)(x:DataW H×List MemPlace),DataW.trod aa P W base spare held n e cs=some x->∃a,w7 a/\dG W (sN a) cs
theorem El.str(he:P.underlying e=some .string):El aa P W base spare held e (fun s:List UInt8=>[D.str s]) (fun _=>True):=fun n cs x h=>by obtain⟨s,rfl,_,_⟩:=DataW.trod_string he h;exact⟨s.data.toList,trivial,dG.one (by simp only[Rd];exact⟨s,rfl,rfl⟩)⟩
theorem El.int(he:P.underlying e=some (.int .i64)):El aa P W base spare held e (fun k:Int=>[D.int .i64 k]) (fun k=> -9223372036854775808<=k/\k<=9223372036854775807):=fun n cs x h=>OD he n cs x h
theorem El.bool(he:P.underlying e=some .bool):El aa P W base spare held e (fun b:Bool=>[D.bool b]) (fun _=>True):=fun n cs x h=>by obtain⟨b,rfl,_⟩:=DataW.trod_bool he h;exact⟨b,trivial,dG.one (by simp only[Rd])⟩
theorem El.rows{sN:α->List D}{w7:α->Prop}{sz:Nat}(ht:P.underlying t=some (.slice e))(hc:P.cellsOf e=sz)(h0:0<sz)(Nr:El aa P W base spare held e sN w7):El aa P W base spare held t (fun l:List α=>[D.list (l.map sN)]) (fun l=>(∀a∈l,w7 a)/\l.length<=maxLen):=fun n cs x h=>by obtain⟨l,h1,h2,h3⟩:=F4 sN w7 ht hc h0 Nr h;exact⟨l,⟨h1,h2⟩,h3⟩
theorem El.two{f0 f1:Field}{k0 k1:Nat}(ht:P.underlying t=some (.struct #[f0,f1]))(hc:P.cellsOf t=k0+k1)(o0:f0.offset=0)(o1:f1.offset=k0)(c0:P.cellsOf f0.type=k0)(c1:P.cellsOf f1.type=k1){β γ:Type}{ea:α->List D}{ga:α->Prop}{eb:β->List D}{gb:β->Prop}(h0:El aa P W base spare held f0.type ea ga)(h1:El aa P W base spare held f1.type eb gb)(mk:α->β->γ){ec:γ->List D}{gc:γ->Prop}(he:∀a b,ec (mk a b)=ea a++eb b)(hg:∀a b,ga a->gb b->gc (mk a b)):El aa P W base spare held t ec gc:=fun n cs x h=>by obtain⟨hl,hf⟩:=tK ht h;obtain⟨n0,y0,r0⟩:=hf 0 f0 rfl;obtain⟨n1,y1,r1⟩:=hf 1 f1 rfl;rw[o0,c0]at r0;rw[o1,c1]at r1;obtain⟨a,g0,s0⟩:=h0 _ _ _ r0;obtain⟨b,g1,s1⟩:=h1 _ _ _ r1;refine⟨mk a b,hg a b g0 g1,?_⟩;rw[he];exact dG.whole (dG.two 0 s0 (by simpa using s1)) (by rw[hl,hc])
def bR.ds(c:bR):List D:=[.int .i64 c.k,c.s,.str c.ta.elem,.str c.ta.row,.list (c.ta.ab.map ae.aa),.str c.tb.elem,.str c.tb.row,.list (c.tb.ab.map ae.aa),.list (c.gs.map Ty.aa),.list (c.ws.map Ty.aa),.str c.r.elem,.str c.r.row,.list (c.r.ab.map ae.aa),.str c.x.elem,.str c.x.row,.list (c.x.ab.map ae.aa),.int .i64 c.Bh.c,.list (c.Bh.ts.map Cf.aa)]
theorem bR.IQ(c:bR):(bR.ds c).map .d=bR.cells c:=rfl
theorem El.con{f0 f1 f2 f3 f4 f5 f6 f7 f8:Field}(ht:P.underlying t=some (.struct #[f0,f1,f2,f3,f4,f5,f6,f7,f8]))(hc:P.cellsOf t=18)(o:[f0,f1,f2,f3,f4,f5,f6,f7,f8].map Field.offset=[0,1,2,5,8,9,10,13,16])(k:[f0,f1,f2,f3,f4,f5,f6,f7,f8].map (fun f=>P.cellsOf f.type)=[1,1,3,3,1,1,3,3,2])(h0:El aa P W base spare held f0.type (fun k:Int=>[D.int .i64 k]) (fun _=>True))(h1:El aa P W base spare held f1.type (fun k:Int=>[D.int .i64 k]) (fun _=>True))(h2:El aa P W base spare held f2.type Ty.aa Ty.wd)(h3:El aa P W base spare held f3.type Ty.aa Ty.wd)(h4:El aa P W base spare held f4.type (fun l:List Ty=>[D.list (l.map Ty.aa)]) (fun l=>(∀a∈l,Ty.wd a)/\l.length<=maxLen))(h5:El aa P W base spare held f5.type (fun l:List Ty=>[D.list (l.map Ty.aa)]) (fun l=>(∀a∈l,Ty.wd a)/\l.length<=maxLen))(h6:El aa P W base spare held f6.type Ty.aa Ty.wd)(h7:El aa P W base spare held f7.type Ty.aa Ty.wd)(h8:El aa P W base spare held f8.type ae.aa ae.wd):El aa P W base spare held t bR.ds bR.wd:=fun n cs x h=>by
 simp only[aaV,List.map_nil,ac7,acm]at o k;obtain⟨o0,o1,o2,o3,o4,o5,o6,o7,o8⟩:=o;obtain⟨k0,k1,k2,k3,k4,k5,k6,k7,k8⟩:=k;obtain⟨hl,hf⟩:=tK ht h;obtain⟨n0,y0,r0⟩:=hf 0 f0 rfl;obtain⟨n1,y1,r1⟩:=hf 1 f1 rfl;obtain⟨n2,y2,r2⟩:=hf 2 f2 rfl;obtain⟨n3,y3,r3⟩:=hf 3 f3 rfl;obtain⟨n4,y4,r4⟩:=hf 4 f4 rfl;obtain⟨n5,y5,r5⟩:=hf 5 f5 rfl;obtain⟨n6,y6,r6⟩:=hf 6 f6 rfl;obtain⟨n7,y7,r7⟩:=hf 7 f7 rfl;obtain⟨n8,y8,r8⟩:=hf 8 f8 rfl;rw[o0,k0]at r0;rw[o1,k1]at r1;rw[o2,k2]at r2;rw[o3,k3]at r3;rw[o4,k4]at r4;rw[o5,k5]at r5;rw[o6,k6]at r6;rw[o7,k7]at r7;rw[o8,k8]at r8;obtain⟨a0,g0,s0⟩:=h0 _ _ _ r0;obtain⟨a1,g1,s1⟩:=h1 _ _ _ r1;obtain⟨a2,g2,s2⟩:=h2 _ _ _ r2;obtain⟨a3,g3,s3⟩:=h3 _ _ _ r3;obtain⟨a4,g4,s4⟩:=h4 _ _ _ r4;obtain⟨a5,g5,s5⟩:=h5 _ _ _ r5;obtain⟨a6,g6,s6⟩:=h6 _ _ _ r6;obtain⟨a7,g7,s7⟩:=h7 _ _ _ r7;obtain⟨a8,g8,s8⟩:=h8 _ _ _ r8;have e:maxLen<9223372036854775808:=by decide
 refine⟨⟨a0,.int .i64 a1,a2,a3,a4,a5,a6,a7,a8⟩,⟨ab6 g4.2 e,ab6 g5.2 e,g2,g3,g4.1,g5.1,g6,g7,g8⟩,?_⟩;exact dG.whole (dG.two 0 (dG.two 0 (dG.two 0 (dG.two 0 (dG.two 0 (dG.two 0 (dG.two 0 (dG.two 0 s0 s1) s2) s3) s4) s5) s6) s7) s8) (by rw[hl,hc])
end
end Fw.Tz
/-
  The types of this program's arguments, read as data.
-/
namespace Fw.Tz
open Go Go.Proofs Fw.X Go.ChangeShapes Go.WideShapes Go.ChangeAt Go.RowKit Fw.Tz.Va Fw.Tz.Vb Fw.Tz.Vc Fw.Tz.Ve
open Go.Proofs.YtgfgckimecpmlaaGreatDoor
section
variable {H:Type}{aa:TypeId×Value->H}{P:Program}{W:World}{base:Nat}{spare:Nat->Bool}{held:Bool}
theorem El.mono{α:Type}{e:TypeId}{sN:α->List D}{g g':α->Prop}(h:El aa P W base spare held e sN g)(k:∀a,g a->g' a):El aa P W base spare held e sN g':=fun n cs x hx=>by obtain⟨a,h1,h2⟩:=h n cs x hx;exact⟨a,k a h1,h2⟩
end
section
variable {H:Type}{aa:TypeId×Value->H}{W:World}{base:Nat}{spare:Nat->Bool}{held:Bool}
theorem sO:maxLen<9223372036854775808:=by decide
theorem OF:El aa Tryz.prog W base spare held 9 (fun s:List UInt8=>[D.str s]) (fun _=>True):=El.str Tryz.underlying9
theorem Zg:El aa Tryz.prog W base spare held 3 (fun k:Int=>[D.int .i64 k]) (fun k=> -9223372036854775808<=k/\k<=9223372036854775807):=El.int Tryz.underlying3
theorem EF:El aa Tryz.prog W base spare held 3 (fun k:Int=>[D.int .i64 k]) (fun _=>True):=Zg.mono fun _ _=>trivial
theorem Ux:El aa Tryz.prog W base spare held 4 (fun b:Bool=>[D.bool b]) (fun _=>True):=El.bool Tryz.underlying4
theorem eCf:El aa Tryz.prog W base spare held 132 Cf.aa (fun _=>True):=El.two Tryz.underlying132 (k0:=1) (k1:=1) k_ rfl rfl k_ k_ OF EF (fun s c=>(⟨s,c⟩:Cf)) (fun _ _=>rfl) (fun _ _ _ _=>trivial)
theorem eTs:El aa Tryz.prog W base spare held 28 (fun l:List Cf=>[D.list (l.map Cf.aa)]) (fun l=>(∀a∈l,True)/\l.length<=maxLen):=El.rows (sz:=2) Tryz.underlying28 k_ (by omega) eCf
theorem Uy:El aa Tryz.prog W base spare held 30 ae.aa ae.wd:=El.two Tryz.underlying30 (k0:=1) (k1:=1) k_ rfl rfl k_ k_ EF eTs (fun c ts=>(⟨c,ts⟩:ae)) (fun _ _=>rfl) (fun _ _ _ h=>ab6 h.2 sO)
theorem Uz:El aa Tryz.prog W base spare held 22 (fun l:List ae=>[D.list (l.map ae.aa)]) (fun l=>(∀a∈l,ae.wd a)/\l.length<=maxLen):=El.rows (sz:=2) Tryz.underlying22 k_ (by omega) Uy
def encS(s:List UInt8×List ae):List D:=[.str s.1,.list (s.2.map ae.aa)]
def wdS(s:List UInt8×List ae):Prop:=s.2.length<9223372036854775808/\∀x∈s.2,ae.wd x
theorem UA:El aa Tryz.prog W base spare held 24 encS wdS:=El.two Tryz.underlying24 (k0:=1) (k1:=1) k_ rfl rfl k_ k_ OF Uz (fun r d=>(r,d)) (fun _ _=>rfl) (fun _ _ _ h=>⟨ab6 h.2 sO,h.1⟩)
theorem UB:El aa Tryz.prog W base spare held 26 Ty.aa Ty.wd:=El.two Tryz.underlying26 (k0:=1) (k1:=2) k_ rfl rfl k_ k_ OF UA (fun e s=>(⟨e,s.1,s.2⟩:Ty)) (fun _ _=>rfl) (fun _ _ _ h=>h)
theorem UC:El aa Tryz.prog W base spare held 27 (fun l:List Ty=>[D.list (l.map Ty.aa)]) (fun l=>(∀a∈l,Ty.wd a)/\l.length<=maxLen):=El.rows (sz:=3) Tryz.underlying27 k_ (by omega) UB
theorem OG:El aa Tryz.prog W base spare held 35 (fun l:List Bool=>[D.list (l.map fun b=>[D.bool b])]) (fun l=>(∀a∈l,True)/\l.length<=maxLen):=El.rows (sz:=1) Tryz.underlying35 k_ (by omega) Ux
theorem Zh:El aa Tryz.prog W base spare held 32 bR.ds bR.wd:=El.con Tryz.underlying32 k_ rfl k_ EF EF UB UB UC UC UB UB Uy
end
theorem IS{W:World}{ds:List D}{cs:Array Value}{vs:List V}(h:dG W ds cs.toList)(e:ds.map .d=vs):RV gE W (.agg vs) (.agg cs):=by subst e;simp only[RV];exact⟨cs,rfl,dG.Ra h⟩
end Fw.Tz
