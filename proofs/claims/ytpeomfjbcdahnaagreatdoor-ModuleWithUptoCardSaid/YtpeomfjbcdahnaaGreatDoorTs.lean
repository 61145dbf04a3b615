/-
  slices.Delete of the last definition of a row: walked.
-/
import Derived.Test.YtpeomfjbcdahnaaGreatDoorProg
import Derived.WalkKit
import Derived.Deep.RegionLaw
import Derived.Shelf.RegionOpenPlain
import Derived.Deep.LoopGhost
import Derived.Lib.SliceRun
import Derived.Sort.WalkB12
import Derived.Test.YtpeomfjbcdahnaaGreatDoorTr
import Derived.Test.YtpeomfjbcdahnaaGreatDoorTl
import Derived.Test.YtpeomfjbcdahnaaGreatDoorTf
import Derived.Test.YtpeomfjbcdahnaaGreatDoorTb
import Derived.Test.YtpeomfjbcdahnaaGreatDoorTi
set_option linter.unusedSimpArgs false
set_option linter.unusedVariables false
set_option maxRecDepth 1000000
set_option maxHeartbeats 4000000
namespace Fw.Tz
open Go Go.Proofs Go.RowKit Go.Lib Go.Sort
theorem AS:(Tryz.prog.info? 44).map (fun i=>i.size)=some 17:=k_
def um:List Value:=[.string ⟨#[]⟩,.int .i64 0,.slice none 0 0,.bool false,.string ⟨#[]⟩,.string ⟨#[]⟩,.slice none 0 0,.int .i64 0,.int .i64 0,.string ⟨#[]⟩,.int .i64 0,.string ⟨#[]⟩,.slice none 0 0,.slice none 0 0,.slice none 0 0,.slice none 0 0,.slice none 0 0]
theorem Hf:(Builtin.zeroCells (Value.agg um.toArray).cells 1).toList=um:=by
 apply List.ext_getElem
 ·simp[Builtin.zeroCells,Value.cells,um]
 ·intro i h1 h2;have h3:i<17:=by simpa[um]using h2
  have h4:um.length=17:=rfl;simp[Builtin.zeroCells,Value.cells,h4,acf h3,h3]
theorem DL(w w2:World)(ty:TypeId)(aK o c:Nat)(qK:(storeCells ⟨aK,o,none⟩ um).run Tryz.prog w=.ok () w2):(Builtin.clear_ #[23] ty #[.slice (some ⟨aK,o,none⟩) 1 c]).run Tryz.prog w=.ok (.tuple #[]) w2:=by have hv:=Tryz.zeroValue44 w;change Sem.run Tryz.prog (zeroValue 44) w=Result.ok (Value.agg um.toArray) w at hv;simp only[Builtin.clear_];simp[run_underlying Tryz.underlying23,hv,Hf,qK]
set_option maxHeartbeats 4000000 in
set_option maxRecDepth 1000000 in
theorem DM(aK n cap:Nat)(w w2:World)(En:n+1<=cap)(qK:(storeCells ⟨aK,n*17,none⟩ um).run Tryz.prog w.drew=.ok () w2):Calls Tryz.prog 37 #[.slice (some ⟨aK,0,none⟩) (n+1) cap,.int .i64 n,.int .i64 ((n+1:Nat):Int)] w fun e w'=>e=.returned (.slice (some ⟨aK,0,none⟩) n cap)/\w'=w2:=by
 obtain⟨i0,hi0,hz0⟩:∃i0,Tryz.prog.info? 44=some i0/\i0.size=17:=by
  have h:=AS;cases h1:Tryz.prog.info? 44 with
   |none=>rw[h1]at h;cases h
   |some i=>rw[h1]at h;simp at h;exact⟨i,rfl,h⟩
 have tM:∀ty,(Builtin.clear_ #[23] ty #[.slice (some ⟨aK,n*17,none⟩) 1 (cap - n)]).run Tryz.prog (w.drew.setCells aK (n*17) [])=.ok (.tuple #[]) w2:=fun ty=>DL w.drew w2 ty aK (n*17) (cap - n) qK
 obtain⟨A,hA⟩:∃A:Addr,(if cap=n+1 then some (⟨aK,0,none⟩:Addr)else some ⟨aK,(n+1)*17,none⟩)=some A:=by
  by_cases h:cap=n+1
  ·exact⟨_,by rw[aaD h]⟩
  ·exact⟨_,by rw[aaH h]⟩
 have s3:Hid (∀j,j<([]:List Value).length->(w.drew.cell? ⟨aK,0+n*17+j,none⟩).isSome=true/\w.drew.frozen? ⟨aK,0+n*17+j,none⟩=false):=fun j hj=>absurd hj (acm _)
 have s4:Hid (∀j u,([]:List Value)[j]? =some u->w.drew.cell? (A.add j)=some u):=fun j u hj=>by simp at hj
 have mixed:Tryz.prog.follows Departure.mixedOrders=true:=k_;have hnc:n<=cap:=by omega
 have hp0:(0:Int)<=(n:Int)+1:=by omega
 have Ud:n+0<=cap:=by omega
 clear qK;go_enter Tryz.func37,Tryz.ntmps37;go_wp2_with fail;go_region_law_o (refine step_append_room rfl (.tmp 22) (.tmp 25) 23 rfl 44 i0 17 Tryz.underlying23 hi0 hz0 aK 0 n cap (by simp[Act.eval,Act.put]) A 0 (cap - (n+1)) [] (by simp[Act.eval,Act.put]) rfl s4.out (by simp) Ud s3.out ?_ );go_wp2;go_ret;exact⟨rfl,rfl⟩
end Fw.Tz
/-
  slices.Delete of the last definition of an own row: the row without it, as data.
-/
namespace Fw.Tz.Dl
open Go Go.Proofs Fw.X Fw.Tz Fw.Nu Fw.Tz.Tm
variable {W:World}
def zD:List D:=[.str [],.int .i64 0,.list [],.bool false,.str [],.str [],.list [],.int .i64 0,.int .i64 0,.str [],.int .i64 0,.str [],.list [],.list [],.list [],.list [],.list []]
theorem T7(g:G)(w:World):RV g w (.agg (zD.map .d)) (.agg um.toArray):=by simp only[RV];refine⟨_,rfl,?_⟩;simp[zD,um,aM,RV,Rd,eD]
theorem ZL:an P 37=true:=k_
theorem T8(cs:List V)(n:Nat)(hl:cs.length=(n+1)*17):WF P (gl W) 37 [.sl 0 ((n+1)*17) 0 (n+1) 17,.d (.int .i64 n),.d (.int .i64 ((n+1:Nat):Int))] [some (.cells cs)] (fun v H'=>v=.sl 0 ((n+1)*17) 0 n 17/\H'=[some (.cells (Fw.putCells cs (n*17) (zD.map .d)))]):=by
 refine⟨ZL,fun g w vs cX hh hg=>?_ ⟩;obtain⟨x,l,e,hx,h2⟩:=cX.cons_inv;obtain⟨y,l',e',hy,h4⟩:=h2.cons_inv;obtain⟨z,l2,e2,hz,h5⟩:=h4.cons_inv;rw[h5.wk]at e2;rw[e2]at e';rw[e']at e;have zM:vs= #[x,y,z]:=aa3.1 (by simpa using e);subst zM;rw[hy.mI,hz.mI];clear e e' e2 h2 h4 h5 hy hz;have Hr:aA [some (.cells cs)] 0=some (.cells cs):=rfl;obtain⟨gb,pR⟩:=hh.back 0 _ Hr;obtain⟨hd,y',tQ,hr⟩:=hh.live 0 gb pR;rw[Hr]at tQ;simp only[aat]at tQ;subst tQ;simp only[RV]at hx;have ly:=hx.2 gb pR;cases gb with
  |nil=>simp only[RB]at hr
  |obj=>simp only[RB]at hr
  |cells aK cp cur=>
   have V2:=hr;simp only[RB]at hr;obtain⟨r1,r2,r3,c,ee,r4,r5,r6⟩:=hr;obtain⟨cap,rfl,k2,k3⟩:=ly.2 (by omega);have hed:=bA.drawn g w (w.drawn+1);have Vd:ax g w.drew [some (.cells cs)]:=hh.ext hed fun _ _ _ _ _=>rfl
   have hp:RV g w.drew (.ptr 0 ((n+1)*17) (n*17)) (.pointer (some ⟨aK,n*17,none⟩)):=by simp only[RV];refine⟨⟨⟨_,_,rfl⟩,hd⟩,fun x hx=>?_ ⟩;rw[pR]at hx;simp only[aat]at hx;subst hx;exact⟨_,_,_,rfl,fun _=>rfl,by omega⟩
   have U9:dL [some (.cells cs)] 17 (.ptr 0 ((n+1)*17) (n*17)) (.agg (zD.map .d))=some (0,.cells (Fw.putCells cs (n*17) (zD.map .d))):=by
    have e1:(Nat.beq cs.length ((n+1)*17)&&Nat.ble (n*17+17) ((n+1)*17)&&Nat.beq (bP (.agg (zD.map .d))).length 17&&(bP (.agg (zD.map .d))).all eC)=true:=by rw[hl,aaS,show Nat.ble (n*17+17) ((n+1)*17)=true from abd (by omega)];rfl
    simp only[dL,Hr,e1,aaw];rfl
   obtain⟨b2,o2,w2,q1,q2,q3,q4,q5⟩:=uv (P:=P) U9 hp (T7 g w.drew) Vd;simp only[Value.pointer.injEq,aat,Addr.mk.injEq]at q1;obtain⟨rfl,rfl,-⟩:=q1;refine(DM aK n cap w w2 k2 q3).mono ?_;rintro e w' ⟨rfl,rfl⟩;refine⟨_,.sl 0 ((n+1)*17) 0 n 17,g,_,rfl,⟨rfl,rfl⟩,?_,q4,hed.trans q5⟩;simp only[RV];refine⟨⟨rfl,hd⟩,fun x hx=>?_ ⟩;rw[pR]at hx;simp only[aat]at hx;subst hx;exact⟨by omega,fun _=>⟨cap,rfl,by omega,k3⟩⟩
theorem vA{α:Type}{aa:α->List D}{sz:Nat}(h:∀a,(aa a).length=sz)(t:List D):∀(l:List α),fl sz l.length (l.flatMap aa++t)=l.map aa|[]=>rfl|a::l=>by simp only[aaq,fl,aaT,aaG,acE];rw[abU (by rw[h a];exact aaE _),←h a,abm,abV (aaE _),List.drop_length,aco,h a,vA h t l]
theorem ZM(l:List Df)(d:Df):WF P (gl W) 37 [.sl 0 ((l.length+1)*17) 0 (l.length+1) 17,.d (.int .i64 (l.length:Int)),.d (.int .i64 ((l.length+1:Nat):Int))] [some (aJ Df.aa (l++[d]))] (fun v H'=>v=lo Df.aa l/\H'=[none]):=by
 have hf:((l++[d]).flatMap Df.aa).map V.d=(l.flatMap Df.aa).map V.d++((Df.aa d).map V.d++[]):=by simp
 have VJ:(l.flatMap Df.aa).length=l.length*17:=bK (aa:=Df.aa) (sz:=17) (fun _=>rfl) l;have vL:aJ Df.aa (l++[d])=.cells (((l++[d]).flatMap Df.aa).map .d):=eB (aa:=Df.aa) (sz:=17) (fun _=>rfl) (by decide) (by simp);have hlen:(((l++[d]).flatMap Df.aa).map V.d).length=(l.length+1)*17:=by rw[aaC,bK (aa:=Df.aa) (sz:=17) (fun _=>rfl),aap];rfl
 rw[vL];refine WF.e9 (WF.mono (T8 (W:=W) (((l++[d]).flatMap Df.aa).map .d) l.length hlen) ?_ );rintro v H' ⟨rfl,rfl⟩;have aR:Fw.putCells (((l++[d]).flatMap Df.aa).map V.d) (l.length*17) (zD.map .d)=(l.flatMap Df.aa++zD).map V.d:=by have h1:=Fw.fQ (zD.map V.d) ((l.flatMap Df.aa).map V.d) ((Df.aa d).map V.d) [] rfl;rw[aaC,VJ]at h1;rw[hf,h1];simp
 rw[aR];have Ho:(l.flatMap Df.aa++zD).length=(l.length+1)*17:=by rw[aap,VJ,acp];rfl
 refine⟨⟨1,[(0,lo Df.aa l)],[none]⟩,ay.lB (b:=0) ?_,rfl,rfl⟩;have xa:vN [some (.cells ((l.flatMap Df.aa++zD).map V.d))] 0=some (l.flatMap Df.aa++zD):=by show gp _=_;exact pk _
 have hv:bV 0 (l.flatMap Df.aa++zD) (.sl 0 ((l.length+1)*17) 0 l.length 17)=lo Df.aa l:=by have hb:Nat.ble (0+l.length*17) ((l.length+1)*17)=true:=abd (by omega);simp only[bV,Ho,aaS,hb,aaw,aa',abi,vA (aa:=Df.aa) (sz:=17) (fun _=>rfl)]
 unfold la;simp only[xa];rw[show jM 0 (l.flatMap Df.aa++zD) 0 [some (.cells ((l.flatMap Df.aa++zD).map V.d))]=[none]from rfl];rw[show([none]:ao).all kY=true from rfl,aaw];simp only[aaG,aa5,hv]
end Fw.Tz.Dl
/-
  module.Without of the definition that stands last, where no export has its name.
-/
namespace Fw.Tz.Wg
open Go Go.Proofs Fw.X Fw.Tz Fw.Nu Fw.Tz.Sd Fw.Tz.Na Fw.Tz.El Fw.Tz.Va Fw.Tz.Vb Fw.Tz.Tm Fw.Tz.Ct Fw.Tz.Cv Fw.Tz.Pn Fw.Tz.Lt Fw.Tz.Ck Fw.Tz.Wd
open Fw.Tz.Px (qy)
variable {W:World}
theorem zh(hW:W0 W)(x name:List UInt8):PC P (gl W) 39 [so x,.aL [.str name]] (bo (Fw.ah x name)):=by refine CG.start XT XU rfl ?_;refine s1 hW 6 0 [] 0 [(3,bo (ah x name))] ?_;refine CG.rt (bo (ah x name)) ?_;with_reducible rfl
theorem Jt(hW:W0 W)(l:List (List UInt8))(hl:l.length<1048577)(name:List UInt8)(hn:∀x∈l,Fw.ah x name=false):PC P (gl W) 38 [lo Tm.encS l,.func 39 [] [.aL [.str name]]] (lo Tm.encS l):=by have h2:=Ht.Gl hW l 39 [.aL [.str name]] (fun x=>Fw.ah x name) rfl (by omega) (fun x _=>zh hW x name);have h0:l.findIdx? (fun x=>Fw.ah x name)=none:=List.findIdx?_eq_none_iff.2 hn;rw[h0]at h2;simp only[ei]at h2;refine CG.start XQ XS rfl ?_;refine s1 hW 4 2 [] 3 [(4,.aj),(8,lo Tm.encS l),(9,.func 39 [] [.aL [.str name]])] ?_;refine CG.pg (h2) rfl k_ ?_;refine s1 hW 10 0 [true] 3 [(4,lo Tm.encS l),(5,io (-1))] ?_;refine CG.rt (lo Tm.encS l) ?_;with_reducible rfl
theorem Hh{α:Type}(S:List Nat)(aa:α->List D)(l:List α):dE S (aJ aa l)=aJ aa l:=by
 have h:∀q:List D,ff S (q.map V.d)=q.map V.d:=by
  intro q;induction q with
   |nil=>rfl
   |cons x q ih=>simp only[aaG,ff,de,ih]
 unfold aJ j1;cases hq:((l.flatMap aa).map V.d).isEmpty with
  |true=>rfl
  |false=>simp only[aaK,dE,h]
theorem NX(l:List Df)(d:Df)(b0:Option bW)(E:ao):WF P (gl W) 37 [.sl 11 ((l++[d]).length*17) 0 (l++[d]).length 17,no l.length,io ((l.length+1:Nat):Int)] (b0::nn 10 (some (aJ Df.aa (l++[d]))::E)) (fun v H'=>v=lo Df.aa l/\H'=b0::nn 10 (none::E)):=by
 have hlen:(l++[d]).length=l.length+1:=by simp
 rw[hlen];refine WF.frame [11] (jA:=[.sl 0 ((l.length+1)*17) 0 (l.length+1) 17,.d (.int .i64 (l.length:Int)),.d (.int .i64 ((l.length+1:Nat):Int))]) (Dl.ZM l d) (by decide) rfl rfl ?_ ?_ ?_
 ·simp[aS,cj]
 ·intro i hi;obtain rfl:i=0:=by simpa using hi
  exact⟨_,rfl,by rw[Hh];rfl⟩
 ·rintro v H' ⟨rfl,rfl⟩;exact⟨rfl,rfl,rfl,rfl,rfl⟩
theorem AT(hW:W0 W)(hP:qZ W)(m:Md)(hs:qy m)(hc:∀d∈m.defs,xj d)(l:List Df)(d:Df)(hd:m.defs=l++[d])(hr:db m=true)(hp:cm m d.name=some l.length)(hn:∀x∈m.ai,Fw.ah x d.name=false):PC P (gl W) 14 [vM m,so d.name] (.tuple [vM ⟨m.name,m.imports,m.ai,l⟩,i0]):=by
 have h1:=tK hW hP m hs;have h2:=tL hW hP m hs d.name;have h6:=Jt hW m.ai hs.ti.1 d.name hn;have h5:=qH hW m hs hc (by rw[hd];simp);rw[hr]at h1;rw[hp]at h2;simp only[ei]at h2;have hlen:m.defs.length=l.length+1:=by rw[hd];simp
 have hl:=hs.defs;refine CG.start XA XB rfl ?_;refine s1 hW 1 0 [] 3 [] ?_;refine CG.dA ?_;refine CG.cI (cs:=[.str m.name,.list (m.imports.map Tm.encS),.list (m.ai.map Tm.encS),.list (m.defs.map Df.aa)]) rfl k_ rfl ?_;refine CG.Fv (c:=(.str d.name)) rfl k_ rfl ?_;refine s4 hW 4 1 [] 12 [(4,.ptr 0 4 0),(5,i0),(8,.agg (mV m))] [(0,.cells [sE,.aj,.aj,.aj])] ?_;refine CG.pg (h1) rfl k_ ?_;refine s1 hW 6 2 [false] 15 [(12,.agg (mV m)),(13,so d.name)] ?_;refine CG.pg (h2) rfl k_ ?_;refine s1 hW 10 1 [false] 14 [(6,no l.length),(18,.agg (mV m))] ?_;rotate_left;rw[hd]at h5;refine CG.wf h5 rfl rfl k_ rfl ?_;refine s4 hW 3 5 [] 7 [(7,.ptr 12 4 0),(21,.sl 11 (List.length (l++[d])*17) 0 (l++[d]).length 17),(22,no l.length),(24,io (aT IntKind.i64 (bC (Int.ofNat l.length) 1)))] [(12,.cells [so m.name,lo Tm.encS m.imports,lo Tm.encS m.ai,.sl 11 (List.length (l++[d])*17) 0 (l++[d]).length 17])] ?_;rotate_left;refine CG.is [(3,.aL [.str d.name]),(4,.ptr 0 4 0),(5,i0),(7,.ptr 12 4 0),(21,.sl 11 (List.length (l++[d])*17) 0 (l++[d]).length 17),(22,no l.length),(24,io (aT IntKind.i64 (bC (Int.ofNat l.length) 1)))] ([some (.cells [sE,.aj,.aj,.aj])]++nn 10 ([some (aJ Df.aa (l++[d])),some (.cells [so m.name,lo Tm.encS m.imports,lo Tm.encS m.ai,.sl 11 (List.length (l++[d])*17) 0 (l++[d]).length 17])])) k_ ?_;have hw:aT .i64 (bC (Int.ofNat l.length) 1)=((l.length+1:Nat):Int):=by rw[o8,IntKind.wrap_i64];show _=_;have:bC (Int.ofNat l.length) 1=(l.length:Int)+1:=rfl;omega
 rw[hw];have h7:=NX (W:=W) l d (some (.cells [sE,.aj,.aj,.aj])) [some (.cells [so m.name,lo Tm.encS m.imports,lo Tm.encS m.ai,.sl 11 ((l++[d]).length*17) 0 (l++[d]).length 17])];refine CG.wf h7 rfl rfl k_ rfl ?_;refine s4 hW 3 3 [] 14 [(28,lo Tm.encS m.ai),(29,.func 39 [] [.aL [.str d.name]])] [(12,.cells [so m.name,lo Tm.encS m.imports,lo Tm.encS m.ai,lo Df.aa l])] ?_;refine CG.pg (h6) rfl k_ ?_;refine s4 hW 5 0 [] 3 [] [(0,.cells [so m.name,lo Tm.encS m.imports,lo Tm.encS m.ai,lo Df.aa l])] ?_;refine CG.rt (.tuple [.agg [so m.name,lo Tm.encS m.imports,lo Tm.encS m.ai,lo Df.aa l],i0]) ?_;rfl
end Fw.Tz.Wg
/-
  ModuleWith: what With's module answers.
-/
namespace Fw.Tz.Mx
open Go Go.Proofs Fw.X Fw.Tz Fw.Nu Fw.Tz.Tm Fw.Tz.Cv Fw.Tz.Ck Fw.Tz.We Fw.Tz.Mn
variable {m:Md}{d:Df}{i:Nat}
theorem KP{a b:List UInt8}:Fw.ah a b=true↔a=b:=by rw[cT];exact decide_eq_true_iff
theorem kW{s:List UInt8}(h:cm m s=some i):∃hi:i<m.defs.length,m.defs[i].name=s/\∀j (hj:j<i),(m.defs[j]'(by omega)).name≠s:=by
 rw[cm]at h;split at h
 ·obtain⟨h1,h2,h3⟩:=abe.1 h;refine⟨h1,by rwa[KP]at h2,fun j hj e=>h3 j hj (by rw[KP];exact e)⟩
 ·cases h
theorem AU{s:List UInt8}(hr:db m=true)(h:cm m s=none):∀x∈m.defs,x.name≠s:=by rw[cm,aaD hr]at h;intro x hx e;have:=List.findIdx?_eq_none_iff.1 h x hx;rw[←Bool.not_eq_true,KP]at this;exact this e
theorem jE(h:cm m d.name=none):bH m d=⟨m.name,m.imports,m.ai,m.defs++[d]⟩:=by rw[bH,h]
theorem jF(h:cm m d.name=some i):bH m d=⟨m.name,m.imports,m.ai,m.defs.set i d⟩:=by rw[bH,h]
theorem Ju(hn:db (bH m d)=true):nv (bH m d) d.name=.tuple [ue d,.d (.bool true)]:=by
 obtain⟨k,hk⟩:∃k:Nat,(bH m d).defs[k]? =some d:=by
  cases h:cm m d.name with
   |none=>rw[jE h];exact⟨m.defs.length,by simp⟩
   |some i=>obtain⟨hi,_⟩:=kW h;rw[jF h];exact⟨i,by simp[hi]⟩
 exact(th hn hk).1
theorem Jv{x:Df}{j:Nat}(hn:db (bH m d)=true)(hx:m.defs[j]? =some x)(fp:x.name≠d.name):nv (bH m d) x.name=.tuple [ue x,.d (.bool true)]:=by
 obtain⟨hj,ly⟩:=aaA.1 hx;have hk:(bH m d).defs[j]? =some x:=by
  cases h:cm m d.name with
   |none=>rw[jE h];show(m.defs++[d])[j]? =_;rw[abD hj];exact hx
   |some i=>
    obtain⟨hi,h1,_⟩:=kW h;rw[jF h];show(m.defs.set i d)[j]? =_;have Hl:i≠j:=by rintro rfl;exact fp (by rw[←ly];exact h1)
    rw[List.getElem?_set_ne Hl];exact hx
 exact(th hn hk).1
theorem zi{s:List UInt8}(hr:db m=true)(hi:i<m.defs.length)(h1:m.defs[i].name=s)(h2:∀j (hj:j<i),(m.defs[j]'(by omega)).name≠s):cm m s=some i:=by rw[cm,aaD hr];refine abe.2 ⟨hi,by rw[KP];exact h1,fun j hj e=>h2 j hj ?_ ⟩;rwa[KP]at e
theorem Hi(h:cm m d.name=some i)(hn:db (bH m d)=true):bH (bH m d) d=bH m d:=by
 obtain⟨hi,h1,h2⟩:=kW h;have hp:cm (bH m d) d.name=some i:=by
  refine zi hn ?_ ?_ ?_
  ·rw[jF h];simpa using hi
  ·simp only[jF h,List.getElem_set_self]
  ·intro j hj;have Hl:i≠j:=by omega
   simp only[jF h,List.getElem_set_ne Hl];exact h2 j hj
 rw[jF hp];simp only[jF h,List.set_set]
theorem Jw(hr:db m=true)(h:cm m d.name=none)(hn:db (bH m d)=true):cm (bH m d) d.name=some m.defs.length:=by
 have h1:=AU hr h;refine zi hn ?_ ?_ ?_
 ·rw[jE h];simp
 ·simp[jE h]
 ·intro j hj;simp only[jE h,List.getElem_append_left hj];exact h1 _ (List.getElem_mem hj)
theorem NY(hr:db m=true)(h:cm m d.name=none):∀s∈m.ai,Fw.ah s d.name=false:=by intro s hs;rw[←Bool.not_eq_true,KP];rintro rfl;obtain⟨x,hx⟩:=FN hr hs;rw[nv,h]at hx;simp at hx
end Fw.Tz.Mx
/-
  ModuleWith: the law's call returns true.
-/
namespace Fw.Tz.Mv
open Go Go.Proofs Fw.X Fw.Tz Fw.Nu Fw.Tz.Na Fw.Tz.El Fw.Tz.Va Fw.Tz.Vb Fw.Tz.Tm Fw.Tz.Ck Fw.Tz.Cv Fw.Tz.We
open Fw.Tz.Px (qy)
variable {W:World}
variable {cur c':lA}{K K':List Fr}{n:Nat}{tm:List (Nat×V)}{H:ao}{Q:Ex->St->Prop}
def DY:FT Nat:=(.n (.n (.n (.n (.n .e 5 0 .e) 65 0 .e) 118 0 (.n .e 119 0 .e)) 156 0 (.n (.n .e 160 0 .e) 161 0 (.n .e 166 0 .e))) 167 0 (.n (.n (.n (.n .e 198 0 .e) 210 0 .e) 212 0 (.n .e 228 0 .e)) 261 0 (.n (.n .e 267 0 .e) 278 0 (.n .e 287 0 .e))))
noncomputable def rd(W:World)(ov:List (Nat×Bool))(sp:List (Nat×V))(n:Nat)(l:List ab)(ks:List Nat)(tm:List (Nat×V))(H:ao):Option (List V×ao×List (Bool×Bool)×lg):=yj [] (gl W) (mL (fT DY Am.Dh (jn W DY Am.Dh 40)) (mc W DY Am.Dh (jn W DY Am.Dh 40))) ov sp n l ks tm H
noncomputable def rg(W:World)(n:Nat)(N j:Nat)(bs:List Bool)(cur:lA)(K:List Fr)(ks:List Nat)(tm:List (Nat×V))(H:ao):Option XR:=ym [] (gl W) (mc W DY Am.Dh (jn W DY Am.Dh 40)) (fT DY Am.Dh (jn W DY Am.Dh 40)) n N j bs cur K ks tm H
theorem s2(hW:W0 W)(N j:Nat)(bs:List Bool)(m:Nat)(nw:List (Nat×V))(H':ao)(hq:CG P (gl W) c' K' n (du m nw tm) H' Q)(h1:eg N j bs cur K=some (c',K'):=by rfl)(h2:rg W n N j bs cur K ((du m nw tm).map Prod.fst) tm H=some (.tuple ((du m nw tm).map Prod.snd),H'):=by kernel_rfl):CG P (gl W) cur K n tm H Q:=CG.st bj (dH hW (Am.mi hW) _ (bZ hW (Am.mi hW) 40)) (cx hW (Am.mi hW) _ (bZ hW (Am.mi hW) 40)) N j bs h1 h2 hq
theorem s1(hW:W0 W)(N j:Nat)(bs:List Bool)(m:Nat)(nw:List (Nat×V))(hq:CG P (gl W) c' K' n (du m nw tm) H Q)(h1:eg N j bs cur K=some (c',K'):=by rfl)(h2:rg W n N j bs cur K ((du m nw tm).map Prod.fst) tm H=some (.tuple ((du m nw tm).map Prod.snd),H):=by kernel_rfl):CG P (gl W) cur K n tm H Q:=s2 hW N j bs m nw H hq h1 h2
theorem s4(hW:W0 W)(N j:Nat)(bs:List Bool)(m:Nat)(nw:List (Nat×V))(hd:List (Nat×bW))(hq:CG P (gl W) c' K' n (du m nw tm) (u4 hd H) Q)(h1:eg N j bs cur K=some (c',K'):=by rfl)(h2:rg W n N j bs cur K ((du m nw tm).map Prod.fst) tm H=some (.tuple ((du m nw tm).map Prod.snd),u4 hd H):=by kernel_rfl):CG P (gl W) cur K n tm H Q:=s2 hW N j bs m nw (u4 hd H) hq h1 h2
theorem s3(hW:W0 W)(N j:Nat)(bs:List Bool)(aZ:List (Nat×V))(H':ao)(hq:CG P (gl W) c' K' n aZ H' Q)(h1:eg N j bs cur K=some (c',K'):=by rfl)(h2:rg W n N j bs cur K (aZ.map Prod.fst) tm H=some (.tuple (aZ.map Prod.snd),H'):=by kernel_rfl):CG P (gl W) cur K n tm H Q:=CG.st bj (dH hW (Am.mi hW) _ (bZ hW (Am.mi hW) 40)) (cx hW (Am.mi hW) _ (bZ hW (Am.mi hW) 40)) N j bs h1 h2 hq
theorem WF.args{P:Program}{GL:bR}{f:FuncId}{args pt:List V}{H:ao}{Q:V->ao->Prop}(h:WF P GL f args H Q)(ha:∀g w vs,aM g w pt vs->aM g w args vs):WF P GL f pt H Q:=⟨h.1,fun g w vs cX=>h.2 g w vs (ha g w _ cX)⟩
theorem aM.imp{g:G}{w:World}{a a':V}{u u':List V}(h1:∀v,RV g w a v->RV g w a' v)(h2:∀l,aM g w u l->aM g w u' l):∀l,aM g w (a::u) l->aM g w (a'::u') l
 |[],h=>by simp only[aM]at h
 |v::l,h=>by simp only[aM]at h⊢;exact⟨h1 v h.1,h2 l h.2⟩
theorem vB{g:G}{w:World}(v:Value)(h:RV g w .aj v):RV g w (.d (.list [])) v:=by simp only[RV]at h⊢;subst h;grind[Rd]
theorem Jx{m:Md}{d:Df}(hc:∀x∈m.defs,xj x)(hd:xj d):∀x∈(bH m d).defs,xj x:=by
 unfold bH;split
 ·intro x hx;rcases aa8.1 hx with h|h
  ·exact hc x h
  ·rw[aa0.1 h];exact hd
 ·intro x hx;rcases ab8 hx with h|h
  ·exact hc x h
  ·rw[h];exact hd
theorem Jy(hW:W0 W)(d:Df)(hd:xj d)(ZN:d.body.pre.length<1048577):WF P (gl W) 6 [.agg [sE,.aj,.aj,lo Df.aa [d]]] [] (fun v H'=>∃b,v=bo b/\H'=[]):=by
 have hs:qy ⟨[],[],[],[d]⟩:=⟨by show 0<_;decide,⟨by show 0<_;decide,fun s h=>by cases h⟩,⟨by show 0<_;decide,fun s h=>by cases h⟩,by show 1<_;decide,fun x h=>by rw[aa0.1 h];exact hd.df⟩;refine WF.args (Fg.FX hW ⟨[],[],[],[d]⟩ hs (fun x h=>by rw[aa0.1 h];exact ZN)) fun g w vs h=>?_
 refine aM.imp (fun v hv=>?_ ) (fun _ h=>h) vs h;simp only[RV]at hv;obtain⟨x,rfl,hx⟩:=hv;show RV g w (.agg [sE,.d (.list []),.d (.list []),lo Df.aa [d]]) _;simp only[RV];exact⟨x,rfl,aM.imp (fun _ h=>h) (aM.imp vB (aM.imp vB (fun _ h=>h))) _ hx⟩
theorem Gy(hW:W0 W)(m:Md)(hs:qy m)(hc:∀d∈m.defs,xj d)(hz:∀d∈m.defs,d.body.pre.length<1048577)(d:Df)(hd:xj d)(ZN:d.body.pre.length<1048577):PC P (gl W) 4 [vM m,ue d] (bT):=by
 have hP:=Yt.FL hW hW.FB;have hf:=Fg.FX hW m hs hz;have hw:=B9 hW hP m hs hc d hd;refine CG.start is4 ca4 rfl ?_;refine s1 hW 1 0 [] 3 [] ?_;refine CG.dA ?_;refine CG.cI (cs:=[.str m.name,.list (m.imports.map Tm.encS),.list (m.ai.map Tm.encS),.list (m.defs.map Df.aa)]) rfl k_ rfl ?_;refine CG.cI (cs:=(Df.aa d)) rfl k_ rfl ?_;refine s1 hW 11 1 [false] 12 [(4,bF),(20,.agg (mV m))] ?_;rotate_left;refine CG.xh hf rfl rfl k_ rfl ?_;rintro v H' ⟨b,rfl,rfl⟩;cases b with
  |false=>refine s1 hW 6 0 [true] 3 [(4,bT)] ?_;refine CG.rt (bT) ?_;with_reducible rfl
  |true=>
   refine s1 hW 0 5 [] 7 [(23,bF),(26,.agg [sE,.aj,.aj,.d (.list [Df.aa d])])] ?_;rotate_left;refine CG.xh (Jy hW d hd ZN) rfl rfl k_ rfl ?_;rintro v H' ⟨b,rfl,rfl⟩;cases b with
    |false=>refine s1 hW 6 0 [true] 3 [(4,bT)] ?_;refine CG.rt (bT) ?_;with_reducible rfl
    |true=>
     rw[B7]at hw;cases hr:db m with
      |false=>rw[hr]at hw;simp only[abA,abN]at hw;unfold T4 at hw;refine s1 hW 6 2 [false] 7 [(31,.agg (mV m)),(32,.agg (dV d))] ?_;refine CG.pg (hw) rfl k_ ?_;refine s4 hW 10 0 [true] 3 [(4,bT),(5,.ptr 0 4 0)] [(0,.cells [sE,.d (.list []),.d (.list []),.d (.list [])])] ?_;refine CG.rt (bT) ?_;with_reducible rfl
      |true=>
       rw[hr,aaD rfl]at hw;by_cases h0:(dF (bH m d)).2=0
       ·rw[aaD h0]at hw;have hn:db (bH m d)=true:=by rw[db,h0];rfl
        have hl:m.defs.length+1<1048577:=by have:=vz hr;omega
        have ve:=B8 hs hd.df hl;have T9:∀x∈(bH m d).defs,xj x:=Jx hc hd;have h1:=rL hW hP (bH m d) ve T9 d.name;rw[Mx.Ju hn]at h1;have h2:=Es.wQ hW d hd;have hml:=hs.defs;refine s1 hW 6 2 [false] 7 [(31,.agg (mV m)),(32,.agg (dV d))] ?_;refine CG.pg (hw) rfl k_ ?_;refine s4 hW 10 3 [false] 7 [(5,.ptr 0 4 0),(39,.agg (mV (bH m d))),(41,so d.name)] [(0,.cells (mV (bH m d)))] ?_;refine CG.pg (h1) rfl k_ ?_;refine s4 hW 4 5 [] 15 [(47,bF),(48,.agg (dV d)),(49,.agg (dV d))] [(1,.cells (dV d))] ?_;refine CG.pg (h2) rfl k_ ?_;refine s1 hW 10 0 [false] 15 [(9,i0)] ?_;rotate_left;refine CG.is [(2,.aL [.str m.name,.list (m.imports.map Tm.encS),.list (m.ai.map Tm.encS),.list (m.defs.map Df.aa)]),(3,.aL (Df.aa d)),(4,bF),(5,.ptr 0 4 0),(9,i0)] ([some (.cells (mV (bH m d))),some (.cells (dV d))]) k_ ?_;refine CG.bh m.defs (fun i u=>[(2,.aL [.str m.name,.list (m.imports.map Tm.encS),.list (m.ai.map Tm.encS),.list (m.defs.map Df.aa)]),(3,.aL (Df.aa d)),(4,bF),(5,.ptr 0 4 0),(9,.d (.int .i64 (.ofNat i)))]) (fun i u=>[some (.cells (mV (bH m d))),some (.cells (dV d))]) (fun i u r=>(True)) () ?_ (ay.refl _ _) ?_ ?_
        ·trivial
        ·intro i u hi dz aH;have h3:=rL hW hP m hs hc d.name;rw[nv]at h3;cases hp:cm m d.name with
          |none=>rw[hp]at h3;dsimp only at h3;unfold ZI at h3;have h4:=Wg.AT hW hP (bH m d) ve T9 m.defs d (by rw[Mx.jE hp]) hn (Mx.Jw hr hp hn) (by rw[Mx.jE hp];exact Mx.NY (m:=m) hr hp);have h5:=Wf.B_ hW m hs hc;rw[Mx.jE hp]at h4⊢;refine s1 hW 4 0 [] 31 [(57,bo (aI (Int.ofNat i) (Int.ofNat (m.defs.map Df.aa).length)))] ?_;refine CG.ar (fh i (m.defs.map Df.aa).length) k_ ?_;refine CG.aV (by decide) ?_;refine s1 hW 4 3 [] 15 [(95,.agg (mV m)),(97,so d.name)] ?_;refine CG.pg (h3) rfl k_ ?_;refine s4 hW 9 3 [false] 5 [(125,.agg [so (Md.name {name:=Md.name m,imports:=Md.imports m,ai:=Md.ai m,defs:=Md.defs m++[d]}),lo Tm.encS (Md.imports {name:=Md.name m,imports:=Md.imports m,ai:=Md.ai m,defs:=Md.defs m++[d]}),lo Tm.encS (Md.ai {name:=Md.name m,imports:=Md.imports m,ai:=Md.ai m,defs:=Md.defs m++[d]}),lo Df.aa (Md.defs {name:=Md.name m,imports:=Md.imports m,ai:=Md.ai m,defs:=Md.defs m++[d]})]),(127,so d.name)] [(2,.cells [sE,i0,.d (.list []),bF,sE,sE,.d (.list []),i0,i0,sE,i0,sE,.d (.list []),.d (.list []),.d (.list []),.d (.list []),.d (.list [])])] ?_;refine CG.pg (h4) rfl k_ ?_;refine s4 hW 3 5 [] 2 [(133,bT),(134,.agg [so (Md.name {name:=Md.name {name:=Md.name m,imports:=Md.imports m,ai:=Md.ai m,defs:=Md.defs m++[d]},imports:=Md.imports {name:=Md.name m,imports:=Md.imports m,ai:=Md.ai m,defs:=Md.defs m++[d]},ai:=Md.ai {name:=Md.name m,imports:=Md.imports m,ai:=Md.ai m,defs:=Md.defs m++[d]},defs:=Md.defs m}),lo Tm.encS (Md.imports {name:=Md.name {name:=Md.name m,imports:=Md.imports m,ai:=Md.ai m,defs:=Md.defs m++[d]},imports:=Md.imports {name:=Md.name m,imports:=Md.imports m,ai:=Md.ai m,defs:=Md.defs m++[d]},ai:=Md.ai {name:=Md.name m,imports:=Md.imports m,ai:=Md.ai m,defs:=Md.defs m++[d]},defs:=Md.defs m}),lo Tm.encS (Md.ai {name:=Md.name {name:=Md.name m,imports:=Md.imports m,ai:=Md.ai m,defs:=Md.defs m++[d]},imports:=Md.imports {name:=Md.name m,imports:=Md.imports m,ai:=Md.ai m,defs:=Md.defs m++[d]},ai:=Md.ai {name:=Md.name m,imports:=Md.imports m,ai:=Md.ai m,defs:=Md.defs m++[d]},defs:=Md.defs m}),lo Df.aa (Md.defs {name:=Md.name {name:=Md.name m,imports:=Md.imports m,ai:=Md.ai m,defs:=Md.defs m++[d]},imports:=Md.imports {name:=Md.name m,imports:=Md.imports m,ai:=Md.ai m,defs:=Md.defs m++[d]},ai:=Md.ai {name:=Md.name m,imports:=Md.imports m,ai:=Md.ai m,defs:=Md.defs m++[d]},defs:=Md.defs m})]),(135,.agg (mV m))] [(3,.cells [so (Md.name {name:=Md.name {name:=Md.name m,imports:=Md.imports m,ai:=Md.ai m,defs:=Md.defs m++[d]},imports:=Md.imports {name:=Md.name m,imports:=Md.imports m,ai:=Md.ai m,defs:=Md.defs m++[d]},ai:=Md.ai {name:=Md.name m,imports:=Md.imports m,ai:=Md.ai m,defs:=Md.defs m++[d]},defs:=Md.defs m}),lo Tm.encS (Md.imports {name:=Md.name {name:=Md.name m,imports:=Md.imports m,ai:=Md.ai m,defs:=Md.defs m++[d]},imports:=Md.imports {name:=Md.name m,imports:=Md.imports m,ai:=Md.ai m,defs:=Md.defs m++[d]},ai:=Md.ai {name:=Md.name m,imports:=Md.imports m,ai:=Md.ai m,defs:=Md.defs m++[d]},defs:=Md.defs m}),lo Tm.encS (Md.ai {name:=Md.name {name:=Md.name m,imports:=Md.imports m,ai:=Md.ai m,defs:=Md.defs m++[d]},imports:=Md.imports {name:=Md.name m,imports:=Md.imports m,ai:=Md.ai m,defs:=Md.defs m++[d]},ai:=Md.ai {name:=Md.name m,imports:=Md.imports m,ai:=Md.ai m,defs:=Md.defs m++[d]},defs:=Md.defs m}),lo Df.aa (Md.defs {name:=Md.name {name:=Md.name m,imports:=Md.imports m,ai:=Md.ai m,defs:=Md.defs m++[d]},imports:=Md.imports {name:=Md.name m,imports:=Md.imports m,ai:=Md.ai m,defs:=Md.defs m++[d]},ai:=Md.ai {name:=Md.name m,imports:=Md.imports m,ai:=Md.ai m,defs:=Md.defs m++[d]},defs:=Md.defs m})])] ?_;refine CG.pg (h5) rfl k_ ?_;refine s1 hW 2 0 [] 0 [(4,bT)] ?_;refine CG.rt (bT) ?_;with_reducible rfl
          |some k=>
           obtain⟨hk,_⟩:=Mx.kW hp;rw[hp]at h3;dsimp only at h3;rw[aaz hk]at h3;dsimp only at h3;have h4:=B9 hW hP (bH m d) ve T9 d hd;rw[B7,aaD hn,Mx.Hi hp hn,aaD h0]at h4;have h5:=Wf.B_ hW (bH m d) ve T9;have hlen:(bH m d).defs.length=m.defs.length:=by rw[Mx.jF hp];simp
           refine s1 hW 4 0 [] 31 [(57,bo (aI (Int.ofNat i) (Int.ofNat (m.defs.map Df.aa).length)))] ?_;refine CG.ar (fh i (m.defs.map Df.aa).length) k_ ?_;refine CG.aV (by decide) ?_;refine s1 hW 4 3 [] 15 [(95,.agg (mV m)),(97,so d.name)] ?_;refine CG.pg (h3) rfl k_ ?_;refine s4 hW 7 2 [true] 15 [(103,.agg (mV (bH m d))),(104,.agg (dV d))] [(2,.cells [so (Df.name m.defs[k]),io (Df.line m.defs[k]),lo Pm.aa (Df.ps m.defs[k]),bo (Df.given m.defs[k]),so (Ty.elem (Df.res m.defs[k])),so (Ty.row (Df.res m.defs[k])),lo aq.aa (Ty.aF (Df.res m.defs[k])),io (Tm.kind (Df.body m.defs[k])),io (Tm.line (Df.body m.defs[k])),so (Tm.name (Df.body m.defs[k])),io (Tm.num (Df.body m.defs[k])),so (Tm.ae (Df.body m.defs[k])),lo Tm.encI (Tm.ad (Df.body m.defs[k])),lo Tm.encI (Tm.av (Df.body m.defs[k])),lo aq.aa (Tm.ak (Df.body m.defs[k])),lo Tm.encI (Tm.al (Df.body m.defs[k])),lo Tm.aa (Tm.kids (Df.body m.defs[k]))])] ?_;refine CG.pg (h4) rfl k_ ?_;refine s4 hW 3 5 [] 15 [(110,bT),(111,.agg (mV (bH m d))),(112,.agg (mV (bH m d)))] [(3,.cells (mV (bH m d)))] ?_;refine CG.pg (h5) rfl k_ ?_;refine s1 hW 2 0 [] 11 [(4,bo (aN (Int.ofNat (List.length (List.map Df.aa (Md.defs (bH m d))))) (Int.ofNat (m.defs.map Df.aa).length)))] ?_;refine CG.rt (bo (aN (Int.ofNat (List.length (List.map Df.aa (Md.defs (bH m d))))) (Int.ofNat (m.defs.map Df.aa).length))) ?_;rotate_left;rw[aaC,aaC,hlen,cR];simp
        ·intro i u x r dz hx cA aH;by_cases he:x.name=d.name
         ·have e1:Fw.ah x.name d.name=true:=Mx.KP.2 he;have h3:PC P (gl W) 8 [vM (bH m d),so x.name] (.tuple [ue d,bT]):=by rw[he];exact h1
          refine s1 hW 4 0 [] 31 [(57,bo (aI (Int.ofNat i) (Int.ofNat (m.defs.map Df.aa).length)))] ?_;refine CG.az (fg i (m.defs.map Df.aa).length) k_ ?_;refine s1 hW 5 0 [] 31 [] ?_;refine CG.j3 bj k_ ?_;refine AW.rk 4 [(61,.agg (mV (bH m d))),(62,.aL [.list (m.defs.map Df.aa)]),(63,lo Df.aa m.defs),(64,no i)] [] k_ ?_;refine AW.idx (aG (aa:=Df.aa) hx) rfl k_ k_ k_ rfl ?_;refine AW.rk 2 [(66,.aL [.str x.name]),(67,so x.name)] [] k_ ?_;refine AW.lC h3 rfl k_ k_ ?_;refine AW.rk 6 [(10,.ptr 13 17 0),(11,bT),(60,.tuple [.agg (dV d),bT]),(69,.agg (dV d)),(70,bT)] [(13,.cells (dV d))] k_ ?_;refine AW.nil rfl ⟨k_,AW.fin 14 [2,3,4,5,9,10,11] k_ rfl k_ rfl k_ ?_⟩;refine s1 hW 2 0 [] 127 [] ?_;refine CG.fP bj k_ k_ ?_;refine AO.rd 3 [(71,.aL [.list (m.defs.map Df.aa)]),(72,lo Df.aa m.defs),(73,no i)] k_ ?_;refine AO.idx (aG (aa:=Df.aa) hx) rfl k_ k_ k_ rfl ?_;refine AO.rd 6 [(75,.aL [.str x.name]),(76,so x.name),(77,.aL [.str d.name]),(78,so d.name),(79,bo (!ah x.name d.name)),(80,bo (!ah x.name d.name))] k_ ?_;rw[e1];refine AO.rd 13 [(81,tE),(82,tE),(83,tE),(84,tE),(85,tE),(86,tE),(87,tE),(88,tE),(89,tE),(90,tE),(91,tE),(92,tE),(93,bF)] k_ ?_;refine AO.done [2,3,4,5,9,93] rfl rfl k_ ?_;refine s3 hW 5 3 [false] [(2,.aL [.str m.name,.list (m.imports.map Tm.encS),.list (m.ai.map Tm.encS),.list (m.defs.map Df.aa)]),(3,.aL (Df.aa d)),(4,bF),(5,.ptr 0 4 0),(9,io (aT IntKind.i64 (bC (Int.ofNat i) 1)))] ([some (.cells (mV (bH m d))),some (.cells (dV d))]++nn 11 ([some (.cells (dV d))])) ?_;refine CG.eu rfl ?_;rw[ba (by omega)];rotate_left;exact⟨(),trivial,ay.trim 2 [2,3,4,5,9] rfl rfl rfl rfl rfl⟩
         ·have e1:Fw.ah x.name d.name=false:=by rw[←Bool.not_eq_true,Mx.KP];exact he
          have h3:=rL hW hP (bH m d) ve T9 x.name;rw[Mx.Jv hn hx he]at h3;have h4:=Es.wQ hW x (hc x (aau hx));refine s1 hW 4 0 [] 31 [(57,bo (aI (Int.ofNat i) (Int.ofNat (m.defs.map Df.aa).length)))] ?_;refine CG.az (fg i (m.defs.map Df.aa).length) k_ ?_;refine s1 hW 5 0 [] 31 [] ?_;refine CG.j3 bj k_ ?_;refine AW.rk 4 [(61,.agg (mV (bH m d))),(62,.aL [.list (m.defs.map Df.aa)]),(63,lo Df.aa m.defs),(64,no i)] [] k_ ?_;refine AW.idx (aG (aa:=Df.aa) hx) rfl k_ k_ k_ rfl ?_;refine AW.rk 2 [(66,.aL [.str x.name]),(67,so x.name)] [] k_ ?_;refine AW.lC h3 rfl k_ k_ ?_;refine AW.rk 6 [(10,.ptr 13 17 0),(11,bT),(60,.tuple [.agg (dV x),bT]),(69,.agg (dV x)),(70,bT)] [(13,.cells (dV x))] k_ ?_;refine AW.nil rfl ⟨k_,AW.fin 14 [2,3,4,5,9,10,11] k_ rfl k_ rfl k_ ?_⟩;refine s1 hW 2 0 [] 127 [] ?_;refine CG.fP bj k_ k_ ?_;refine AO.rd 3 [(71,.aL [.list (m.defs.map Df.aa)]),(72,lo Df.aa m.defs),(73,no i)] k_ ?_;refine AO.idx (aG (aa:=Df.aa) hx) rfl k_ k_ k_ rfl ?_;refine AO.rd 6 [(75,.aL [.str x.name]),(76,so x.name),(77,.aL [.str d.name]),(78,so d.name),(79,bo (!ah x.name d.name)),(80,bo (!ah x.name d.name))] k_ ?_;rw[e1];refine AO.rd 7 [(81,bT),(82,bF),(83,bF),(84,.agg (dV x)),(85,.aL [.list (m.defs.map Df.aa)]),(86,lo Df.aa m.defs),(87,no i)] k_ ?_;refine AO.idx (aG (aa:=Df.aa) hx) rfl k_ k_ k_ rfl ?_;refine AO.rd 1 [(89,.agg (dV x))] k_ ?_;refine AO.lC h4 rfl k_ k_ ?_;refine AO.rd 3 [(91,bF),(92,bF),(93,bF)] k_ ?_;refine AO.done [2,3,4,5,9,93] rfl rfl k_ ?_;refine s3 hW 5 3 [false] [(2,.aL [.str m.name,.list (m.imports.map Tm.encS),.list (m.ai.map Tm.encS),.list (m.defs.map Df.aa)]),(3,.aL (Df.aa d)),(4,bF),(5,.ptr 0 4 0),(9,io (aT IntKind.i64 (bC (Int.ofNat i) 1)))] ([some (.cells (mV (bH m d))),some (.cells (dV d))]++nn 11 ([some (.cells (dV x))])) ?_;refine CG.eu rfl ?_;rw[ba (by omega)];rotate_left;exact⟨(),trivial,ay.trim 2 [2,3,4,5,9] rfl rfl rfl rfl rfl⟩
       ·rw[aaH h0]at hw;unfold T4 at hw;generalize (dF (bH m d)).2=e at hw h0;have hn:aN e 0=false:=by rw[cR];simpa using h0
        refine s1 hW 6 2 [false] 7 [(31,.agg (mV m)),(32,.agg (dV d))] ?_;refine CG.pg (hw) rfl k_ ?_;refine s4 hW 6 0 [] 7 [(5,.ptr 0 4 0),(37,bo (!aN e 0))] [(0,.cells [sE,.d (.list []),.d (.list []),.d (.list [])])] ?_;refine CG.az (b:=(!aN e 0)) (by rw[hn];rfl) k_ ?_;refine s1 hW 3 0 [] 11 [(4,bT)] ?_;refine CG.rt (bT) ?_;with_reducible rfl
end Fw.Tz.Mv
