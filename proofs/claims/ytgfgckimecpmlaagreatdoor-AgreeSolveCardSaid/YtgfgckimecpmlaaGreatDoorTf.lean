/-
  Constraints that are valid or known; what the program and the reference say of any.
-/
import Derived.Test.YtgfgckimecpmlaaGreatDoorTe
import Derived.Test.YtgfgckimecpmlaaGreatDoorTd
import Derived.Test.YtgfgckimecpmlaaGreatDoorFg
import Derived.Test.YtgfgckimecpmlaaGreatDoorTc
set_option linter.unusedSimpArgs false
set_option maxRecDepth 1000000
set_option maxHeartbeats 4000000
set_option linter.unusedVariables false
namespace Fw.Tz.Vc
open Go Go.Proofs Fw.X Fw.Tz Fw.Nu Fw.Tz.Sd Fw.Tz.Na Fw.Tz.El Fw.Tz.Va Fw.Tz.Vb
variable {W:World}
def Ty.sm(t:Ty):Prop:=t.elem.length<1099511627776/\t.row.length<1099511627776/\t.ab.length<1099511627776/\∀x∈t.ab,ae.sm x
structure bR where
 k:Int
 s:D
 ta:Ty
 tb:Ty
 gs:List Ty
 ws:List Ty
 r:Ty
 x:Ty
 Bh:ae
def bR.cells(c:bR):List V:=[.d (.int .i64 c.k),.d c.s,.d (.str c.ta.elem),.d (.str c.ta.row),.d (.list (c.ta.ab.map ae.aa)),.d (.str c.tb.elem),.d (.str c.tb.row),.d (.list (c.tb.ab.map ae.aa)),.d (.list (c.gs.map Ty.aa)),.d (.list (c.ws.map Ty.aa)),.d (.str c.r.elem),.d (.str c.r.row),.d (.list (c.r.ab.map ae.aa)),.d (.str c.x.elem),.d (.str c.x.row),.d (.list (c.x.ab.map ae.aa)),.d (.int .i64 c.Bh.c),.d (.list (c.Bh.ts.map Cf.aa))]
structure bR.sm (c:bR):Prop where
 gl:c.gs.length<1099511627776
 wl:c.ws.length<1099511627776
 ta:Ty.sm c.ta
 tb:Ty.sm c.tb
 g:∀t∈c.gs,Ty.sm t
 w:∀t∈c.ws,Ty.sm t
 r:Ty.sm c.r
 x:Ty.sm c.x
def jN(t:Ty):Bool:= !fx t
def kK(t:Ty):Bool:= !Fw.ai t.row []
def kL(t:Ty):Bool:=jN t||kK t
def kZ(c:bR):Bool:=decide (c.k=2)&&decide (c.gs.length=c.ws.length)&&decide (c.gs.length<=16)&&fx c.r&&fx c.x&& !kK c.x&& !c.gs.any jN&& !c.ws.any kL
theorem Ez(hW:W0 W)(t:Ty)(hs:Ty.sm t):PC P (gl W) 52 [.agg [.d (.str t.elem),.d (.str t.row),.d (.list (t.ab.map ae.aa))]] (.d (.bool (jN t))):=by refine CG.start Yh Yi rfl ?_;refine s4 hW 4 1 [] 0 [(2,bF),(3,.agg t.ce)] [(0,.cells t.ce)] ?_;refine CG.pg (IF hW _ _ _ hs.1 hs.2.1 hs.2.2.1 hs.2.2.2) rfl k_ ?_;exact du hW 2 0 [] 0 [(2,bo (!fx t))] (bo (!fx t))
theorem Db(hW:W0 W)(l:List Ty)(hl:l.length<1099511627776)(hd:∀x∈l,Ty.sm x):PC P (gl W) 112 [.d (.list (l.map Ty.aa)),.func 52 [] []] (kP (l.findIdx? jN)):=by
 refine CG.start My Mz rfl ?_;refine s1 hW 8 0 [] 3 [(4,i0),(7,no (l.map Ty.aa).length),(8,i0)] ?_;rotate_left;refine CG.bp l (fun i u=>[(0,lo Ty.aa l),(1,.func 52 [] []),(4,i0),(7,no (l.map Ty.aa).length),(8,.d (.int .i64 (.ofNat i)))]) (fun i u=>[]) (fun i u r=>(kP (l.findIdx? jN)=kP ((r.findIdx? jN).map (·+i)))) () ?_ (an.refl _ _) ?_ ?_
 ·cases l.findIdx? jN<;>rfl
 ·intro i u hi hd aI;refine dk hW 4 0 [] 23 [(9,bo (ax (Int.ofNat i) (Int.ofNat (l.map Ty.aa).length)))] (jx i (l.map Ty.aa).length) ?_;refine CG.aS (by decide) ?_;refine s1 hW 5 0 [] 0 [(4,io (-1))] ?_;refine CG.rt (io (-1)) ?_;rotate_left;rw[aI];rfl
 ·intro i u x r dp hx b8 aI;have hs:=hd x (aaH hx);refine cP hW 4 0 [] 31 [(9,bo (ax (Int.ofNat i) (Int.ofNat (l.map Ty.aa).length)))] (gi i (l.map Ty.aa).length) ?_;refine s1 hW 8 3 [] 31 [(5,no i),(11,.func 52 [] []),(12,lo Ty.aa l),(13,no i)] ?_;refine CG.ix (al (aa:=Ty.aa) hx) rfl k_ ?_;refine s1 hW 0 1 [] 127 [(15,.agg x.ce)] ?_;refine CG.QZ (first:=[]) (cap:=[]) (Ez hW x hs) rfl k_ k_ k_ rfl ?_;refine s1 hW 2 0 [] 319 [] ?_;refine sp (jN x) (fun fV=>?_ ) (fun fV=>?_ );refine CG.aM fV k_ ?_;refine s1 hW 3 0 [] 51 [(4,no i)] ?_;refine CG.fX (no i) ?_;rotate_left;refine CG.aN fV k_ ?_;refine cG hW 3 2 [] [(0,lo Ty.aa l),(1,.func 52 [] []),(4,i0),(7,no (l.map Ty.aa).length),(8,io (aq IntKind.i64 (aJ (Int.ofNat i) 1)))] ([]) ?_;rw[aP (by omega)];rotate_left;all_goals first
   |(rw[aI,abK,show jN x=true from by first|assumption|simp[kK, *]];simp[kP];done)
   |(
    refine⟨(),?_,an.refl _ _⟩
    rw[aI,abK,show jN x=false from by first|assumption|simp[kK, *]]
    cases r.findIdx? jN with
     |none=>rfl
     |some j=>simp only[aaT,aaU,kP,abM,abn];rw[show j+1+i=j+(i+1) by omega])
theorem Dc(hW:W0 W)(l:List Ty)(hl:l.length<1099511627776)(hd:∀x∈l,Ty.sm x):PC P (gl W) 53 [.d (.list (l.map Ty.aa)),.func 52 [] []] (.d (.bool (l.any jN))):=by
 refine CG.start RJ RL rfl ?_;refine bh hW 4 2 [] 0 [(4,bF),(5,lo Ty.aa l),(6,.func 52 [] [])] (Db hW _ hl hd) ?_;rotate_left;have:l.any jN=(l.findIdx? jN).isSome:=by rw[acq]
 rw[this];cases l.findIdx? jN with
  |none=>exact du hW 2 0 [] 1 [] (bF)
  |some i=>exact du hW 2 0 [] 0 [(4,bT)] (bT)
def hC(b:fJ):ao:=[some b,some (.cells [.func 52 [] []])]
theorem FZ{b:fJ}(hb:ef 2 b=true):aB 2 (hC b)=true:=by show(ef 2 b&&_)=true;rw[hb];rfl
theorem Lw(hW:W0 W)(b:fJ)(hb:ef 2 b=true)(t:Ty)(hs:Ty.sm t):WF P (gl W) 54 [.agg [.d (.str t.elem),.d (.str t.row),.d (.list (t.ab.map ae.aa))],.ptr 1 1 0] (hC b) (sn (.d (.bool (kL t))) (hC b)):=by refine WF.cut ?_;refine CG.jw Yj Yk rfl ?_;refine s4 hW 4 2 [] 0 [(2,.ptr 2 3 0),(3,bF),(4,.func 52 [] []),(5,.agg t.ce)] [(2,.cells t.ce)] ?_;refine CG.QZ (first:=[]) (cap:=[]) (Ez hW t hs) rfl k_ k_ k_ rfl ?_;refine s1 hW 0 1 [] 3 [(7,bo (jN t))] ?_;refine sp (jN t) (fun q7=>?_ ) (fun q7=>?_ );rw[q7];refine s1 hW 2 0 [] 0 [(3,bT)] ?_;refine CG.ls (bT) ?_;rotate_left;rw[q7];refine s1 hW 2 0 [] 0 [(3,bo (!ai t.row []))] ?_;refine CG.ls (bo (!ai t.row [])) ?_;rotate_left;all_goals exact .inr ⟨rfl,FZ hb,by simp[kL,kK, *],rfl⟩
theorem Dd(hW:W0 W)(b:fJ)(hb:ef 2 b=true)(l:List Ty)(hl:l.length<1099511627776)(hd:∀x∈l,Ty.sm x):WF P (gl W) 112 [.d (.list (l.map Ty.aa)),.func 54 [] [.ptr 1 1 0]] (hC b) (sn (kP (l.findIdx? kL)) (hC b)):=by
 refine CG.jw My Mz rfl ?_;refine s1 hW 8 0 [] 3 [(4,i0),(7,no (l.map Ty.aa).length),(8,i0)] ?_;rotate_left;refine CG.bp l (fun i u=>[(0,lo Ty.aa l),(1,.func 54 [] [.ptr 1 1 0]),(4,i0),(7,no (l.map Ty.aa).length),(8,.d (.int .i64 (.ofNat i)))]) (fun i u=>[some b,some (.cells [.func 52 [] []])]) (fun i u r=>(kP (l.findIdx? kL)=kP ((r.findIdx? kL).map (·+i)))) () ?_ (an.refl _ _) ?_ ?_
 ·cases l.findIdx? kL<;>rfl
 ·intro i u hi hd aI;refine dk hW 4 0 [] 23 [(9,bo (ax (Int.ofNat i) (Int.ofNat (l.map Ty.aa).length)))] (jx i (l.map Ty.aa).length) ?_;refine CG.aS (by decide) ?_;refine s1 hW 5 0 [] 0 [(4,io (-1))] ?_;refine CG.ls (io (-1)) ?_;rotate_left;exact⟨by rw[aI];rfl,rfl⟩
 ·intro i u x r dp hx b8 aI;have hs:=hd x (aaH hx);refine cP hW 4 0 [] 31 [(9,bo (ax (Int.ofNat i) (Int.ofNat (l.map Ty.aa).length)))] (gi i (l.map Ty.aa).length) ?_;refine s1 hW 8 3 [] 31 [(5,no i),(11,.func 54 [] [.ptr 1 1 0]),(12,lo Ty.aa l),(13,no i)] ?_;refine CG.ix (al (aa:=Ty.aa) hx) rfl k_ ?_;refine s1 hW 0 1 [] 127 [(15,.agg x.ce)] ?_;refine CG.wfv (first:=[]) (cap:=[.ptr 1 1 0]) (Lw hW b hb x hs) rfl k_ k_ k_ rfl ?_;refine s1 hW 2 0 [] 319 [] ?_;refine sp (kL x) (fun i_=>?_ ) (fun i_=>?_ );refine CG.aM i_ k_ ?_;refine s1 hW 3 0 [] 51 [(4,no i)] ?_;refine CG.H6 (no i) ?_;rotate_left;refine CG.aN i_ k_ ?_;refine cG hW 3 2 [] [(0,lo Ty.aa l),(1,.func 54 [] [.ptr 1 1 0]),(4,i0),(7,no (l.map Ty.aa).length),(8,io (aq IntKind.i64 (aJ (Int.ofNat i) 1)))] ([some b,some (.cells [.func 52 [] []])]) ?_;rw[aP (by omega)];rotate_left;all_goals first
   |(rw[aI,abK,show kL x=true by assumption];exact⟨by simp[kP],rfl⟩)
   |(
    refine⟨(),?_,an.refl _ _⟩
    rw[aI,abK,show kL x=false by assumption]
    cases r.findIdx? kL with
     |none=>rfl
     |some j=>simp only[aaT,aaU,kP,abM,abn];rw[show j+1+i=j+(i+1) by omega])
theorem De(hW:W0 W)(b:fJ)(hb:ef 2 b=true)(l:List Ty)(hl:l.length<1099511627776)(hd:∀x∈l,Ty.sm x):WF P (gl W) 53 [.d (.list (l.map Ty.aa)),.func 54 [] [.ptr 1 1 0]] (hC b) (sn (.d (.bool (l.any kL))) (hC b)):=by
 refine CG.jw RJ RL rfl ?_;refine s1 hW 4 2 [] 0 [(4,bF),(5,lo Ty.aa l),(6,.func 54 [] [.ptr 1 1 0])] ?_;refine CG.wf (Dd hW b hb l hl hd) rfl rfl k_ rfl ?_;rotate_left;have:l.any kL=(l.findIdx? kL).isSome:=by rw[acq]
 rw[this];cases l.findIdx? kL with
  |none=>refine s1 hW 2 0 [] 1 [] ?_;refine CG.ls (bF) ?_;rotate_left;exact⟨rfl,rfl⟩
  |some i=>refine s1 hW 2 0 [] 0 [(4,bT)] ?_;refine CG.ls (bT) ?_;rotate_left;exact⟨rfl,rfl⟩
def bR.box(c:bR):fJ:=.cells (bR.cells c)
theorem Ou(hW:W0 W)(c:bR)(hs:bR.sm c):PC P (gl W) 16 [.agg (bR.cells c)] (.d (.bool (kZ c))):=by
 refine CG.start XO XP rfl ?_;refine s4 hW 5 4 [] 0 [(1,.ptr 0 18 0),(2,bF),(7,bo (!aQ c.k 2))] [(0,.cells (bR.cells c))] ?_;refine iW c.k 2 (fun q6 p6=>?_ ) (fun q6 p6=>?_ );rw[q6];refine s1 hW 0 9 [] 3 [(16,bo (!aQ (Int.ofNat (c.gs.map Ty.aa).length) (Int.ofNat (c.ws.map Ty.aa).length)))] ?_;refine pq (c.gs.map Ty.aa).length (c.ws.map Ty.aa).length (fun q8 p8=>?_ ) (fun q8 p8=>?_ )<;>simp only[zz]at p8;rw[q8];refine s1 hW 0 6 [] 3 [(22,bo (ax 16 (Int.ofNat (c.gs.map Ty.aa).length)))] ?_;refine cD 16 (c.gs.map Ty.aa).length (fun tX On=>?_ ) (fun tX On=>?_ )<;>simp only[zz]at On;have nG:(ax 16 (Int.ofNat (c.gs.map Ty.aa).length))=true:=kX;rw[nG];refine s1 hW 6 0 [true] 3 [] ?_;refine CG.rt (bF) ?_;rotate_left;have pV:(ax 16 (Int.ofNat (c.gs.map Ty.aa).length))=false:=kO;rw[pV];refine bh hW 0 2 [] 7 [(24,.agg c.r.ce)] (IF hW _ _ _ hs.r.1 hs.r.2.1 hs.r.2.2.1 hs.r.2.2.2) ?_;refine s1 hW 0 3 [] 3 [(28,bo (!fx (Ty.mk c.r.elem c.r.row c.r.ab)))] ?_;refine sp (fx c.r) (fun oU=>?_ ) (fun oU=>?_ );rw[oU];refine bh hW 0 2 [] 7 [(30,.agg c.x.ce)] (IF hW _ _ _ hs.x.1 hs.x.2.1 hs.x.2.2.1 hs.x.2.2.2) ?_;refine s1 hW 0 3 [] 3 [(34,bo (!fx (Ty.mk c.x.elem c.x.row c.x.ab)))] ?_;refine sp (fx c.x) (fun vI=>?_ ) (fun vI=>?_ );rw[vI];refine s1 hW 2 0 [] 3 [(40,bo (!ai c.x.row []))] ?_;refine sp (ai c.x.row []) (fun fV=>?_ ) (fun fV=>?_ );refine CG.aN (b:=(!ai c.x.row [])) (by rw[fV];rfl) k_ ?_;refine s4 hW 6 3 [] 3 [(3,.ptr 1 1 0),(42,lo Ty.aa c.gs),(43,.func 52 [] [])] [(1,.cells [.func 52 [] []])] ?_;refine CG.pg (Dc hW _ hs.gl hs.g) rfl k_ ?_;refine s1 hW 0 2 [] 7 [(46,bo (!List.any c.gs jN))] ?_;refine sp (List.any c.gs jN) (fun iZ=>?_ ) (fun iZ=>?_ );rw[iZ];refine s1 hW 2 0 [] 2 [] ?_;refine CG.rt (bF) ?_;rotate_left;rw[iZ];refine s1 hW 0 3 [] 10 [(48,lo Ty.aa c.ws),(49,.func 54 [] [.ptr 1 1 0])] ?_;refine CG.wf (De hW (bR.box c) rfl c.ws (bR.sm.wl hs) (bR.sm.w hs)) rfl k_ k_ rfl ?_;refine s1 hW 2 0 [] 0 [(2,bo (!List.any c.ws kL))] ?_;refine CG.rt (bo (!List.any c.ws kL)) ?_;rotate_left;refine CG.aM (b:=(!ai c.x.row [])) (by rw[fV];rfl) k_ ?_;refine s1 hW 3 0 [] 3 [] ?_;refine CG.rt (bF) ?_;rotate_left;rw[vI];refine s1 hW 6 0 [true] 3 [] ?_;refine CG.rt (bF) ?_;rotate_left;rw[oU];refine s1 hW 6 0 [true] 3 [] ?_;refine CG.rt (bF) ?_;rotate_left;rw[q8];refine s1 hW 6 0 [true] 3 [] ?_;refine CG.rt (bF) ?_;rotate_left;rw[q6];refine s1 hW 6 0 [true] 3 [] ?_;refine CG.rt (bF) ?_;rotate_left;all_goals first
  |(rw[kZ,show decide (c.k=2)=false from aaS (by omega)];simp;done)
  |(rw[kZ,show decide (c.gs.length=c.ws.length)=false from aaS (by omega)];simp;done)
  |(rw[kZ,show decide (c.gs.length<=16)=false from aaS (by omega)];simp;done)
  |(
   have h1:c.k=2:=by omega
   have h2:c.gs.length=c.ws.length:=by omega
   have h3:c.ws.length<=16:=by omega
   simp[kZ,kK, *];done)
end Fw.Tz.Vc
/-
  Constraints that are valid or known, by the reference.
-/
/-
  Small constraints: the guard of the law.
-/
namespace Fw.Tz.Ve
open Go Go.Proofs Fw.X Fw.Tz Fw.Nu Fw.Tz.Sd Fw.Tz.Na Fw.Tz.El Fw.Tz.Va Fw.Tz.Vb Fw.Tz.Vc
variable {W:World}
def F0(t:Cf):Bool:=decide (t.var.length<=35)
def sK(x:ae):Bool:=x.ts.all F0&&decide (x.ts.length<=14)
def mT(row:List UInt8)(ab:List ae):Bool:=ab.all sK&&decide (ab.length<=8)&&decide (row.length<=35)
def dd(t:Ty):Bool:=decide (t.elem.length<=35)&&mT t.row t.ab
def ae.wd(x:ae):Prop:=x.ts.length<9223372036854775808
def Ty.wd(t:Ty):Prop:=t.ab.length<9223372036854775808/\∀x∈t.ab,ae.wd x
theorem Lx(hW:W0 W)(x:ae)(hs:ae.wd x):PC P (gl W) 57 [.agg [.d (.int .i64 x.c),.d (.list (x.ts.map Cf.aa))]] (.d (.bool (sK x))):=by
 refine CG.start Yn Yo rfl ?_;have hl:x.ts.length<9223372036854775808:=hs;refine s4 hW 8 0 [] 0 [(1,.ptr 0 2 0),(2,bF),(3,i0)] [(0,.cells x.ce)] ?_;rotate_left;refine CG.bp x.ts (fun i u=>[(1,.ptr 0 2 0),(2,bF),(3,.d (.int .i64 (.ofNat i)))]) (fun i u=>[some (.cells x.ce)]) (fun i u r=>(x.ts.all F0=r.all F0)) () ?_ (an.refl _ _) ?_ ?_
 ·rfl
 ·intro i u hi hd aI;refine dk hW 4 0 [] 7 [(8,bo (ax (Int.ofNat i) (Int.ofNat (x.ts.map Cf.aa).length)))] (show(ax (Int.ofNat i) (Int.ofNat (x.ts.map Cf.aa).length))=false from cL (by grind)) ?_;refine CG.aS (by decide) ?_;refine s1 hW 5 0 [] 0 [(2,bo (!ax 14 (Int.ofNat (x.ts.map Cf.aa).length)))] ?_;refine CG.rt (bo (!ax 14 (Int.ofNat (x.ts.map Cf.aa).length))) ?_;rotate_left;rw[sK,aI,fF,aaQ,V.d.injEq,D.bool.injEq,abh];simp;omega
 ·intro i u t r dp hx b8 aI;rw[aaX]at aI;refine cP hW 4 0 [] 7 [(8,bo (ax (Int.ofNat i) (Int.ofNat (x.ts.map Cf.aa).length)))] (show(ax (Int.ofNat i) (Int.ofNat (x.ts.map Cf.aa).length))=true from cx (by grind)) ?_;refine s1 hW 5 3 [] 7 [(12,lo Cf.aa x.ts),(13,no i)] ?_;refine CG.ix (al (aa:=Cf.aa) hx) rfl k_ ?_;refine s1 hW 2 0 [] 7 [(18,bo (ax 35 (Int.ofNat t.var.length)))] ?_;refine cD 35 t.var.length (fun vI Y7=>?_ ) (fun vI Y7=>?_ );refine CG.aM (show(ax 35 (Int.ofNat t.var.length))=true from cx (by grind)) k_ ?_;refine s1 hW 3 0 [] 7 [] ?_;refine CG.fX (bF) ?_;rotate_left;refine CG.aN (show(ax 35 (Int.ofNat t.var.length))=false from cL (by grind)) k_ ?_;refine cG hW 3 3 [] [(1,.ptr 0 2 0),(2,bF),(3,io (aq IntKind.i64 (aJ (Int.ofNat i) 1)))] ([some (.cells x.ce)]) ?_;rw[aP (by omega)];rotate_left;all_goals first
   |(refine⟨(),?_,an.refl _ _⟩;rw[aI,show F0 t=true from aa0 (by omega)];rfl)
   |(rw[sK,aI,show F0 t=false from aaS (by omega)];rfl)
theorem y9(hW:W0 W)(row:List UInt8)(ab:List ae)(hl:ab.length<9223372036854775808)(hd:∀x∈ab,ae.wd x):PC P (gl W) 22 [.agg [.d (.str row),.d (.list (ab.map ae.aa))]] (.d (.bool (mT row ab))):=by
 refine CG.start XQ XS rfl ?_;refine s4 hW 8 0 [] 0 [(1,.ptr 0 2 0),(2,bF),(3,i0)] [(0,.cells [so row,lo ae.aa ab])] ?_;rotate_left;refine CG.bp ab (fun i u=>[(1,.ptr 0 2 0),(2,bF),(3,.d (.int .i64 (.ofNat i)))]) (fun i u=>[some (.cells [so row,lo ae.aa ab])]) (fun i u r=>(ab.all sK=r.all sK)) () ?_ (an.refl _ _) ?_ ?_
 ·rfl
 ·intro i u hi dp aI;refine dk hW 4 0 [] 7 [(8,bo (ax (Int.ofNat i) (Int.ofNat (ab.map ae.aa).length)))] (show(ax (Int.ofNat i) (Int.ofNat (ab.map ae.aa).length))=false from cL (by grind)) ?_;refine CG.aS (by decide) ?_;refine s1 hW 3 5 [] 3 [(22,bo (!ax 8 (Int.ofNat (ab.map ae.aa).length)))] ?_;refine cD 8 (ab.map ae.aa).length (fun oU Ol=>?_ ) (fun oU Ol=>?_ )<;>simp only[zz]at Ol;have vI:(ax 8 (Int.ofNat (ab.map ae.aa).length))=true:=cx (by grind);rw[vI];refine s1 hW 2 0 [] 2 [] ?_;refine CG.rt (bF) ?_;rotate_left;have fV:(ax 8 (Int.ofNat (ab.map ae.aa).length))=false:=cL (by grind);rw[fV];refine s1 hW 2 0 [] 0 [(2,bo (!ax 35 (Int.ofNat row.length)))] ?_;refine CG.rt (bo (!ax 35 (Int.ofNat row.length))) ?_;rotate_left;all_goals first
   |(rw[mT,aaS (by omega)];simp;done)
   |(rw[mT,aI,aa0 (by omega:ab.length<=8),fF,V.d.injEq,D.bool.injEq,abh];simp;omega)
 ·intro i u x r dp hx b8 aI;have hs:=hd x (aaH hx);rw[aaX]at aI;refine cP hW 4 0 [] 7 [(8,bo (ax (Int.ofNat i) (Int.ofNat (ab.map ae.aa).length)))] (show(ax (Int.ofNat i) (Int.ofNat (ab.map ae.aa).length))=true from cx (by grind)) ?_;refine s1 hW 5 3 [] 7 [(12,lo ae.aa ab),(13,no i)] ?_;refine CG.ix (al (aa:=ae.aa) hx) rfl k_ ?_;refine bh hW 0 1 [] 7 [(15,.agg x.ce)] (Lx hW x hs) ?_;refine s1 hW 2 0 [] 7 [(17,bo (!sK x))] ?_;refine sp (sK x) (fun iZ=>?_ ) (fun iZ=>?_ );refine CG.aN (b:=(!sK x)) (by grind) k_ ?_;refine cG hW 3 3 [] [(1,.ptr 0 2 0),(2,bF),(3,io (aq IntKind.i64 (aJ (Int.ofNat i) 1)))] ([some (.cells [so row,lo ae.aa ab])]) ?_;rw[aP (by omega)];rotate_left;refine CG.aM (b:=(!sK x)) (by grind) k_ ?_;refine s1 hW 3 0 [] 7 [] ?_;refine CG.fX (bF) ?_;rotate_left;all_goals first|(refine⟨(),?_,an.refl _ _⟩;grind)|grind[mT]
theorem mf(hW:W0 W)(t:Ty)(hs:Ty.wd t):PC P (gl W) 32 [.agg [.d (.str t.elem),.d (.str t.row),.d (.list (t.ab.map ae.aa))]] (.d (.bool (dd t))):=by refine CG.start X5 X6 rfl ?_;refine s4 hW 4 5 [] 0 [(1,.ptr 0 3 0),(2,bF),(7,bo (!ax 35 (Int.ofNat t.elem.length)))] [(0,.cells t.ce)] ?_;refine cD 35 t.elem.length (fun q6 p6=>?_ ) (fun q6 p6=>?_ );have q7:(ax 35 (Int.ofNat t.elem.length))=true:=cx (by grind);rw[q7];refine s1 hW 2 0 [] 2 [] ?_;refine CG.rt (bF) ?_;rotate_left;have q8:(ax 35 (Int.ofNat t.elem.length))=false:=cL (by grind);rw[q8];refine bh hW 0 2 [] 6 [(9,.agg [so t.row,lo ae.aa t.ab])] (y9 hW t.row t.ab (And.left hs) (And.right hs)) ?_;refine s1 hW 2 0 [] 0 [(2,bo (mT t.row t.ab))] ?_;refine CG.rt (bo (mT t.row t.ab)) ?_;all_goals grind[dd]
structure bR.wd (c:bR):Prop where
 gl:c.gs.length<9223372036854775808
 wl:c.ws.length<9223372036854775808
 ta:Ty.wd c.ta
 tb:Ty.wd c.tb
 g:∀t∈c.gs,Ty.wd t
 w:∀t∈c.ws,Ty.wd t
 r:Ty.wd c.r
 x:Ty.wd c.x
 Bh:ae.wd c.Bh
def t_(c:bR):Bool:=(c.gs.take 18).all dd&&(c.ws.take 18).all dd&&decide (c.gs.length<=17)&&decide (c.ws.length<=17)&&dd c.r&&dd c.x&&dd c.ta&&dd c.tb&&mT [] [c.Bh]
theorem Ov(hW:W0 W)(c:bR)(hs:bR.wd c):PC P (gl W) 13 [.agg (bR.cells c)] (.d (.bool (t_ c))):=by
 refine CG.start XM XN rfl ?_;have hgl:=hs.gl;have Uk:=hs.wl;have yq:[c.Bh].length<9223372036854775808:=by grind
 have Y_:∀x∈[c.Bh],ae.wd x:=fun x hx=>by rw[abk.1 hx];exact hs.Bh
 refine s4 hW 8 0 [] 0 [(1,.ptr 0 18 0),(2,bF),(3,i0)] [(0,.cells (bR.cells c))] ?_;rotate_left;refine CG.bp (c.gs.take 18) (fun i u=>[(1,.ptr 0 18 0),(2,bF),(3,.d (.int .i64 (.ofNat i)))]) (fun i u=>[some (.cells (bR.cells c))]) (fun i u r=>((c.gs.take 18).all dd=r.all dd)) () ?_ (an.refl _ _) ?_ ?_
 ·rfl
 ·intro i u hi dp aI;rw[aa1]at hi;have ha:(c.gs.take 18).all dd=true:=aI;refine s1 hW 2 6 [] 7 [(10,bo (ax (Int.ofNat i) (Int.ofNat (c.gs.map Ty.aa).length)))] ?_;refine cD i (c.gs.map Ty.aa).length (fun iZ Eu=>?_ ) (fun iZ Eu=>?_ )<;>simp only[zz]at Eu;rw[iZ];refine dk hW 2 0 [] 7 [(13,bo (ax (Int.ofNat i) 18))] (show(ax (Int.ofNat i) 18)=false from cL (by grind)) ?_;refine CG.aS (by decide) ?_;refine s1 hW 7 0 [] 3 [(4,i0)] ?_;rotate_left;rw[iZ];refine s1 hW 3 0 [false] 7 [] ?_;refine CG.aS (by decide) ?_;refine s1 hW 7 0 [] 3 [(4,i0)] ?_;rotate_left
  ·refine CG.bp (c.ws.take 18) (fun i2 u2=>[(1,.ptr 0 18 0),(2,bF),(4,.d (.int .i64 (.ofNat i2)))]) (fun i2 u2=>[some (.cells (bR.cells c))]) (fun i2 u2 r2=>((c.ws.take 18).all dd=r2.all dd)) () ?_ (an.refl _ _) ?_ ?_
   ·rfl
   ·intro i2 u2 qy la vV;rw[aa1]at qy;have hb:(c.ws.take 18).all dd=true:=vV;refine s1 hW 2 6 [] 7 [(28,bo (ax (Int.ofNat i2) (Int.ofNat (c.ws.map Ty.aa).length)))] ?_;refine cD i2 (c.ws.map Ty.aa).length (fun rJ Ow=>?_ ) (fun rJ Ow=>?_ )<;>simp only[zz]at Ow;rw[rJ];refine dk hW 2 0 [] 7 [(31,bo (ax (Int.ofNat i2) 18))] (show(ax (Int.ofNat i2) 18)=false from cL (by grind)) ?_;refine CG.aS (by decide) ?_;refine s1 hW 3 5 [] 3 [(45,bo (!ax 17 (Int.ofNat (c.gs.map Ty.aa).length)))] ?_;have C9:(ax 17 (Int.ofNat (c.gs.map Ty.aa).length))=true:=cx (by grind);rw[C9];refine s1 hW 2 0 [] 2 [] ?_;refine CG.rt (bF) ?_;rotate_left;rw[rJ];refine s1 hW 3 0 [false] 7 [] ?_;refine CG.aS (by decide) ?_;refine s1 hW 3 5 [] 3 [(45,bo (!ax 17 (Int.ofNat (c.gs.map Ty.aa).length)))] ?_;have w5:(ax 17 (Int.ofNat (c.gs.map Ty.aa).length))=true:=cx (by grind);rw[w5];refine s1 hW 2 0 [] 2 [] ?_;refine CG.rt (bF) ?_;all_goals grind[t_]
   ·intro i2 u2 y r2 la hy jO vV;rw[aa1]at jO;have uJ:c.ws[i2]? =some y:=by grind
    have hw:=hs.w y (aaH uJ);rw[aaX]at vV;refine s1 hW 2 6 [] 7 [(28,bo (ax (Int.ofNat i2) (Int.ofNat (c.ws.map Ty.aa).length)))] ?_;have pY:(ax (Int.ofNat i2) (Int.ofNat (c.ws.map Ty.aa).length))=true:=cx (by grind);rw[pY];refine cP hW 2 0 [] 7 [(31,bo (ax (Int.ofNat i2) 18))] (show(ax (Int.ofNat i2) 18)=true from cx (by grind)) ?_;refine s1 hW 5 3 [] 7 [(35,lo Ty.aa c.ws),(36,no i2)] ?_;refine CG.ix (al (aa:=Ty.aa) uJ) rfl k_ ?_;refine bh hW 0 1 [] 7 [(38,.agg y.ce)] (mf hW y hw) ?_;refine s1 hW 2 0 [] 7 [(40,bo (!dd y))] ?_;refine sp (dd y) (fun me=>?_ ) (fun me=>?_ );refine CG.aN (b:=(!dd y)) (by grind) k_ ?_;refine cG hW 3 3 [] [(1,.ptr 0 18 0),(2,bF),(4,io (aq IntKind.i64 (aJ (Int.ofNat i2) 1)))] ([some (.cells (bR.cells c))]) ?_;rw[aP (by omega)];rotate_left;refine CG.aM (b:=(!dd y)) (by grind) k_ ?_;refine s1 hW 3 0 [] 7 [] ?_;refine CG.fX (bF) ?_;rotate_left;all_goals first|(refine⟨(),?_,an.refl _ _⟩;grind)|grind[t_]
  ·refine CG.bp (c.ws.take 18) (fun i2 u2=>[(1,.ptr 0 18 0),(2,bF),(4,.d (.int .i64 (.ofNat i2)))]) (fun i2 u2=>[some (.cells (bR.cells c))]) (fun i2 u2 r2=>((c.ws.take 18).all dd=r2.all dd)) () ?_ (an.refl _ _) ?_ ?_
   ·rfl
   ·intro i2 u2 qy la vV;rw[aa1]at qy;have hb:(c.ws.take 18).all dd=true:=vV;refine s1 hW 2 6 [] 7 [(28,bo (ax (Int.ofNat i2) (Int.ofNat (c.ws.map Ty.aa).length)))] ?_;refine cD i2 (c.ws.map Ty.aa).length (fun rJ Ow=>?_ ) (fun rJ Ow=>?_ )<;>simp only[zz]at Ow;rw[rJ];refine dk hW 2 0 [] 7 [(31,bo (ax (Int.ofNat i2) 18))] (show(ax (Int.ofNat i2) 18)=false from cL (by grind)) ?_;refine CG.aS (by decide) ?_;refine s1 hW 3 5 [] 3 [(45,bo (!ax 17 (Int.ofNat (c.gs.map Ty.aa).length)))] ?_;refine cD 17 (c.gs.map Ty.aa).length (fun w5 PT=>?_ ) (fun w5 PT=>?_ )<;>simp only[zz]at PT;have pY:(ax 17 (Int.ofNat (c.gs.map Ty.aa).length))=true:=cx (by grind);rw[pY];refine s1 hW 2 0 [] 2 [] ?_;refine CG.rt (bF) ?_;rotate_left;have me:(ax 17 (Int.ofNat (c.gs.map Ty.aa).length))=false:=cL (by grind);rw[me];refine s1 hW 0 6 [] 3 [(51,bo (!ax 17 (Int.ofNat (c.ws.map Ty.aa).length)))] ?_;have pX:(ax 17 (Int.ofNat (c.ws.map Ty.aa).length))=true:=cx (by grind);rw[pX];refine s1 hW 2 0 [] 2 [] ?_;refine CG.rt (bF) ?_;rotate_left;rw[rJ];refine s1 hW 3 0 [false] 7 [] ?_;refine CG.aS (by decide) ?_;refine s1 hW 3 5 [] 3 [(45,bo (!ax 17 (Int.ofNat (c.gs.map Ty.aa).length)))] ?_;refine cD 17 (c.gs.map Ty.aa).length (fun oQ PS=>?_ ) (fun oQ PS=>?_ )<;>simp only[zz]at PS;have ql:(ax 17 (Int.ofNat (c.gs.map Ty.aa).length))=true:=cx (by grind);rw[ql];refine s1 hW 2 0 [] 2 [] ?_;refine CG.rt (bF) ?_;rotate_left;have wJ:(ax 17 (Int.ofNat (c.gs.map Ty.aa).length))=false:=cL (by grind);rw[wJ];refine s1 hW 0 6 [] 3 [(51,bo (!ax 17 (Int.ofNat (c.ws.map Ty.aa).length)))] ?_;refine cD 17 (c.ws.map Ty.aa).length (fun Lm p35=>?_ ) (fun Lm p35=>?_ )<;>simp only[zz]at p35;have IH:(ax 17 (Int.ofNat (c.ws.map Ty.aa).length))=true:=cx (by grind);rw[IH];refine s1 hW 2 0 [] 2 [] ?_;refine CG.rt (bF) ?_;rotate_left;have Ox:(ax 17 (Int.ofNat (c.ws.map Ty.aa).length))=false:=cL (by grind);rw[Ox];refine bh hW 0 2 [] 7 [(53,.agg c.r.ce)] (mf hW _ hs.r) ?_;refine s1 hW 0 2 [] 3 [(56,bo (dd c.r))] ?_;refine sp (dd c.r) (fun Za=>?_ ) (fun Za=>?_ );rw[Za];refine bh hW 0 2 [] 7 [(58,.agg c.x.ce)] (mf hW _ hs.x) ?_;refine s1 hW 0 2 [] 3 [(61,bo (dd c.x))] ?_;refine sp (dd c.x) (fun Oy=>?_ ) (fun Oy=>?_ );rw[Oy];refine bh hW 0 2 [] 7 [(63,.agg c.ta.ce)] (mf hW _ hs.ta) ?_;refine s1 hW 0 2 [] 3 [(66,bo (dd c.ta))] ?_;refine sp (dd c.ta) (fun Zb=>?_ ) (fun Zb=>?_ );rw[Zb];refine bh hW 0 2 [] 7 [(68,.agg c.tb.ce)] (mf hW _ hs.tb) ?_;refine s1 hW 0 2 [] 3 [(71,bo (dd c.tb))] ?_;refine sp (dd c.tb) (fun Oz=>?_ ) (fun Oz=>?_ );rw[Oz];refine bh hW 0 4 [] 6 [(75,.agg [sE,.d (.list [[.int .i64 c.Bh.c,.list (c.Bh.ts.map Cf.aa)]])])] (y9 hW [] [c.Bh] yq Y_) ?_;refine s1 hW 2 0 [] 0 [(2,bo (mT [] [c.Bh]))] ?_;refine CG.rt (bo (mT [] [c.Bh])) ?_;rotate_left;rw[Oz];refine s1 hW 2 0 [] 2 [] ?_;refine CG.rt (bF) ?_;rotate_left;rw[Zb];refine s1 hW 2 0 [] 2 [] ?_;refine CG.rt (bF) ?_;rotate_left;rw[Oy];refine s1 hW 2 0 [] 2 [] ?_;refine CG.rt (bF) ?_;rotate_left;rw[Za];refine s1 hW 2 0 [] 2 [] ?_;refine CG.rt (bF) ?_;rotate_left;all_goals grind[t_]
   ·intro i2 u2 y r2 la hy jO vV;rw[aa1]at jO;have uJ:c.ws[i2]? =some y:=by grind
    have hw:=hs.w y (aaH uJ);rw[aaX]at vV;refine s1 hW 2 6 [] 7 [(28,bo (ax (Int.ofNat i2) (Int.ofNat (c.ws.map Ty.aa).length)))] ?_;have pY:(ax (Int.ofNat i2) (Int.ofNat (c.ws.map Ty.aa).length))=true:=cx (by grind);rw[pY];refine cP hW 2 0 [] 7 [(31,bo (ax (Int.ofNat i2) 18))] (show(ax (Int.ofNat i2) 18)=true from cx (by grind)) ?_;refine s1 hW 5 3 [] 7 [(35,lo Ty.aa c.ws),(36,no i2)] ?_;refine CG.ix (al (aa:=Ty.aa) uJ) rfl k_ ?_;refine bh hW 0 1 [] 7 [(38,.agg y.ce)] (mf hW y hw) ?_;refine s1 hW 2 0 [] 7 [(40,bo (!dd y))] ?_;refine sp (dd y) (fun me=>?_ ) (fun me=>?_ );refine CG.aN (b:=(!dd y)) (by grind) k_ ?_;refine cG hW 3 3 [] [(1,.ptr 0 18 0),(2,bF),(4,io (aq IntKind.i64 (aJ (Int.ofNat i2) 1)))] ([some (.cells (bR.cells c))]) ?_;rw[aP (by omega)];rotate_left;refine CG.aM (b:=(!dd y)) (by grind) k_ ?_;refine s1 hW 3 0 [] 7 [] ?_;refine CG.fX (bF) ?_;rotate_left;all_goals first|(refine⟨(),?_,an.refl _ _⟩;grind)|grind[t_]
 ·intro i u x r dp hx b8 aI;rw[aa1]at b8;have je:c.gs[i]? =some x:=by grind
  have hg:=hs.g x (aaH je);rw[aaX]at aI;refine s1 hW 2 6 [] 7 [(10,bo (ax (Int.ofNat i) (Int.ofNat (c.gs.map Ty.aa).length)))] ?_;have nH:(ax (Int.ofNat i) (Int.ofNat (c.gs.map Ty.aa).length))=true:=cx (by grind);rw[nH];refine cP hW 2 0 [] 7 [(13,bo (ax (Int.ofNat i) 18))] (show(ax (Int.ofNat i) 18)=true from cx (by grind)) ?_;refine s1 hW 5 3 [] 7 [(17,lo Ty.aa c.gs),(18,no i)] ?_;refine CG.ix (al (aa:=Ty.aa) je) rfl k_ ?_;refine bh hW 0 1 [] 7 [(20,.agg x.ce)] (mf hW x hg) ?_;refine s1 hW 2 0 [] 7 [(22,bo (!dd x))] ?_;refine sp (dd x) (fun jM=>?_ ) (fun jM=>?_ );refine CG.aN (b:=(!dd x)) (by grind) k_ ?_;refine cG hW 3 3 [] [(1,.ptr 0 18 0),(2,bF),(3,io (aq IntKind.i64 (aJ (Int.ofNat i) 1)))] ([some (.cells (bR.cells c))]) ?_;rw[aP (by omega)];rotate_left;refine CG.aM (b:=(!dd x)) (by grind) k_ ?_;refine s1 hW 3 0 [] 7 [] ?_;refine CG.fX (bF) ?_;rotate_left;all_goals first|(refine⟨(),?_,an.refl _ _⟩;grind)|grind[t_]
end Fw.Tz.Ve
/-
  Equal shapes and equal rows of signs, by the reference.
-/
namespace Fw.Tz.Vf
open Go Go.Proofs Fw.X Fw.Tz Fw.Nu Fw.Tz.Sd Fw.Tz.Na Fw.Tz.El Fw.Tz.Va Fw.Tz.Vb
variable {W:World}
def cM(b:Bool):List D:=[.bool b]
end Fw.Tz.Vf
/-
  Copies of rows.
-/
namespace Fw.Tz.Vg
open Go Go.Proofs Fw.X Fw.Tz Fw.Nu Fw.Tz.Na Fw.Tz.El Fw.Tz.Va Fw.Tz.Vb
variable {W:World}
variable {cur c':oJ}{K K':List Fr}{n:Nat}{tm:List (Nat×V)}{H:ao}{Q:Ex->St->Prop}
noncomputable def rg(W:World)(n:Nat)(N j:Nat)(bs:List Bool)(cur:oJ)(K:List Fr)(ks:List Nat)(tm:List (Nat×V))(H:ao):Option XR:=CU [5] (gl W) (rn W wI .e (mR W wI .e 40)) (kI wI .e (mR W wI .e 40)) n N j bs cur K ks tm H
theorem s2(hW:W0 W)(N j:Nat)(bs:List Bool)(m:Nat)(nw:List (Nat×V))(H':ao)(hq:CG P (gl W) c' K' n (dh m nw tm) H' Q)(h1:eD N j bs cur K=some (c',K'):=by rfl)(h2:rg W n N j bs cur K ((dh m nw tm).map Prod.fst) tm H=some (.tuple ((dh m nw tm).map Prod.snd),H'):=by kernel_rfl):CG P (gl W) cur K n tm H Q:=CG.st aV (fl hW (qk) _ (cO hW (qk) 40)) (dE hW (qk) _ (cO hW (qk) 40)) N j bs h1 h2 hq
theorem s1(hW:W0 W)(N j:Nat)(bs:List Bool)(m:Nat)(nw:List (Nat×V))(hq:CG P (gl W) c' K' n (dh m nw tm) H Q)(h1:eD N j bs cur K=some (c',K'):=by rfl)(h2:rg W n N j bs cur K ((dh m nw tm).map Prod.fst) tm H=some (.tuple ((dh m nw tm).map Prod.snd),H):=by kernel_rfl):CG P (gl W) cur K n tm H Q:=s2 hW N j bs m nw H hq h1 h2
theorem s4(hW:W0 W)(N j:Nat)(bs:List Bool)(m:Nat)(nw:List (Nat×V))(hd:List (Nat×fJ))(hq:CG P (gl W) c' K' n (dh m nw tm) (zF hd H) Q)(h1:eD N j bs cur K=some (c',K'):=by rfl)(h2:rg W n N j bs cur K ((dh m nw tm).map Prod.fst) tm H=some (.tuple ((dh m nw tm).map Prod.snd),zF hd H):=by kernel_rfl):CG P (gl W) cur K n tm H Q:=s2 hW N j bs m nw (zF hd H) hq h1 h2
theorem F1(hW:W0 W)(a:Cf)(l:List Cf)(hl:(a::l).length<1073741824):PC P (gl W) 170 [.d (.list ((a::l).map Cf.aa))] (.d (.list ((a::l).map Cf.aa))):=by refine CG.start SW SX rfl ?_;refine s4 hW 11 2 [false] 0 [(2,.ad),(5,.sl 0 0 0 0 2),(6,.d (.list ([.str a.var,.int .i64 a.c]::(l.map Cf.aa))))] [(0,.cells [])] ?_;rotate_left;show CG _ _ _ _ _ ([(2,.ad),(5,.sl 0 (List.length ([]:List Cf)*2) 0 ([]:List Cf).length 2),(6,.d (.list ([.str a.var,.int .i64 a.c]::(l.map Cf.aa))))]) ([some (cd Cf.aa ([]:List Cf))]) _;refine CG.NW Cf.aa [] (a::l) 0 (fun _=>rfl) rfl k_ (cT (aa:=Cf.aa) (fun _=>rfl) _ (a::l)) (by(try simp only[zz]at*)<;>omega) ?_;refine s1 hW 2 0 [] 0 [(2,.sl 0 (List.length ([]++a::l)*2) 0 ([]++a::l).length 2)] ?_;rotate_left;refine CG.tidy (an.H8 (sz:=2) Cf.aa ([]++a::l) 0 2 (aW:=[(2,.d (.list (([]++a::l).map Cf.aa)))]) (H':=[none]) (fun _=>rfl) k_ k_ ⟨.inl rfl,trivial⟩ k_ k_) ?_;refine CG.rt (.d (.list ([.str a.var,.int .i64 a.c]::(l.map Cf.aa)))) ?_;rfl
end Fw.Tz.Vg
/-
  Copies of shapes.
-/
namespace Fw.Tz.Vh
open Go Go.Proofs Fw.X Fw.Tz Fw.Nu Fw.Tz.Sd Fw.Tz.Na Fw.Tz.El Fw.Tz.Va Fw.Tz.Vb
variable {W:World}
theorem Df(hW:W0 W)(l:List Cf)(hl:l.length<1073741824):PC P (gl W) 170 [.d (.list (l.map Cf.aa))] (.d (.list (l.map Cf.aa))):=by
 cases l with
  |nil=>exact xL
  |cons a l=>exact Fw.Tz.Vg.F1 hW a l hl
theorem F2(hW:W0 W)(l:List ae)(hl:l.length<1073741824)(hd:∀x∈l,x.ts.length<1073741824):PC P (gl W) 110 [.d (.list (l.map ae.aa))] (.d (.list (l.map ae.aa))):=by
 refine CG.start RP RQ rfl ?_;refine s1 hW 11 0 [] 0 [(2,.ad),(3,.ad),(6,lo ae.aa l),(7,no (l.map ae.aa).length),(8,i0)] ?_;rotate_left;refine CG.tidy (an.oK 3 2 (aW:=[(2,.ad),(3,.sl 0 0 0 0 2),(6,lo ae.aa l),(7,no (l.map ae.aa).length),(8,i0)]) (aaP _) k_ k_) ?_;show CG _ _ _ _ _ _ ([some .nil]) _;show CG _ _ _ _ _ ([(2,.ad),(3,.sl 0 (List.length ([]:List ae)*2) 0 ([]:List ae).length 2),(6,lo ae.aa l),(7,no (l.map ae.aa).length),(8,i0)]) ([some (ah ae.aa ([]:List ae))]) _;refine CG.bp l (fun i u=>[(2,.ad),(3,.sl 0 ((l.take i).length*2) 0 (l.take i).length 2),(6,lo ae.aa l),(7,no (l.map ae.aa).length),(8,.d (.int .i64 (.ofNat i)))]) (fun i u=>[ah ae.aa (l.take i)]) (fun i u r=>(True)) () ?_ (an.refl _ _) ?_ ?_
 ·trivial
 ·intro i u hi dp aI;rw[show l.take i=l by rw[hi,abu]];refine dk hW 4 0 [] 23 [(9,bo (ax (Int.ofNat i) (Int.ofNat (l.map ae.aa).length)))] (jx i (l.map ae.aa).length) ?_;refine CG.aS (by decide) ?_;refine s1 hW 5 0 [] 0 [(2,.sl 0 (List.length l*2) 0 l.length 2)] ?_;rotate_left;refine CG.tidy (an.nB (sz:=2) ae.aa l 0 2 (aW:=[(2,.d (.list (l.map ae.aa)))]) (H':=[none]) (fun _=>rfl) k_ k_ ⟨.inl rfl,trivial⟩ k_ k_) ?_;refine CG.rt (lo ae.aa l) ?_;with_reducible rfl
 ·intro i u x r dp hx b8 aI;have hs:=hd x (aaH hx);have hti:(l.take i).length=i:=by rw[aa1];omega
  have PU:l.take (i+1)=l.take i++[x]:=by rw[aco,hx];rfl
  rw[PU];refine cP hW 4 0 [] 31 [(9,bo (ax (Int.ofNat i) (Int.ofNat (l.map ae.aa).length)))] (gi i (l.map ae.aa).length) ?_;refine s1 hW 5 0 [] 31 [] ?_;refine CG.xq ?_;refine CG.ix (al (aa:=ae.aa) hx) rfl k_ ?_;refine s4 hW 2 0 [] 31 [(5,.ptr 1 2 0)] [(1,.cells x.ce)] ?_;refine CG.c_ aV k_ ?_;refine AW.rk 5 [(12,.sl 0 (List.length (List.take i l)*2) 0 (List.take i l).length 2),(13,.ptr 1 2 0),(14,io x.c),(15,.ptr 1 2 1),(16,lo Cf.aa x.ts)] [] k_ ?_;refine AW.mN (Df hW x.ts hs) rfl k_ k_ ?_;refine AW.rk 2 [(18,.agg x.ce),(19,.sl 9 2 0 1 2)] [(9,.cells x.ce)] k_ ?_;rotate_left;refine AW.xE ae.aa (l.take i) x (b:=0) (fun _=>rfl) rfl rfl k_ k_ k_ k_ (by omega) rfl ?_;refine AW.rk 1 [(3,.sl 0 (List.length (List.take i l++[x])*2) 0 (List.take i l++[x]).length 2)] [] k_ ?_;refine AW.nil rfl ⟨k_,AW.fin (H2:=[some (ah ae.aa (List.take i l++[x])),some (.cells x.ce)]++nn 7 ([some (.cells x.ce)])) 10 [2,3,6,7,8] k_ rfl k_ k_ (by simp[nn,aB,aw,bj,aD,bx,av,au]) ?_⟩;refine cG hW 2 2 [] [(2,.ad),(3,.sl 0 (List.length (List.take i l++[x])*2) 0 (List.take i l++[x]).length 2),(6,lo ae.aa l),(7,no (l.map ae.aa).length),(8,io (aq IntKind.i64 (aJ (Int.ofNat i) 1)))] ([some (ah ae.aa (List.take i l++[x])),some (.cells x.ce)]++nn 7 ([some (.cells x.ce)])) ?_;rw[aP (by omega)];rotate_left;exact⟨(),trivial,an.trim 1 [2,3,6,7,8] rfl rfl rfl rfl (by simp[aB,aw])⟩
end Fw.Tz.Vh
/-
  Shapes split.
-/
/-
  Frames.
-/
/-
  Small constraints are small enough.
-/
namespace Fw.Tz
open Go Fw.Tz.Va Fw.Tz.Vb Fw.Tz.Vc Fw.Tz.Ve
theorem EA{x:ae}(h:sK x=true):ae.sm x/\x.ts.length<1073741824:=by simp only[sK,aaD,aa3,aaL]at h;refine⟨⟨by omega,fun t ht=>?_ ⟩,by omega⟩;have:=h.1 t ht;simp only[F0,aaL]at this;omega
theorem y_{row:List UInt8}{ab:List ae}(h:mT row ab=true):(row.length<1099511627776/\ab.length<1099511627776/\∀x∈ab,ae.sm x)/\ab.length<1073741824/\∀x∈ab,x.ts.length<1073741824:=by simp only[mT,aaD,aa3,aaL]at h;exact⟨⟨by omega,by omega,fun x hx=>(EA (h.1.1 x hx)).1⟩,by omega,fun x hx=>(EA (h.1.1 x hx)).2⟩
theorem kj{t:Ty}(h:dd t=true):Ty.sm t/\t.ab.length<1073741824/\∀x∈t.ab,x.ts.length<1073741824:=by simp only[dd,aaD,aaL]at h;have:=y_ h.2;exact⟨⟨by omega,this.1⟩,this.2⟩
theorem Bi{c:bR}(h:t_ c=true):(∀t∈c.gs,dd t=true)/\(∀t∈c.ws,dd t=true)/\c.gs.length<=17/\c.ws.length<=17/\dd c.r=true/\dd c.x=true/\dd c.ta=true/\dd c.tb=true/\sK c.Bh=true:=by simp only[t_,aaD,aaL]at h;obtain⟨⟨⟨⟨⟨⟨⟨⟨h1,h2⟩,h3⟩,h4⟩,h5⟩,h6⟩,h7⟩,h8⟩,h9⟩:=h;rw[abq (by omega)]at h1 h2;rw[aa3]at h1 h2;simp only[mT,aaD,aaX,acY]at h9;exact⟨h1,h2,h3,h4,h5,h6,h7,h8,h9.1.1.1⟩
theorem Ly{c:bR}(h:t_ c=true):bR.sm c/\(∀t∈c.gs,t.ab.length<1073741824/\∀x∈t.ab,x.ts.length<1073741824)/\(∀t∈c.ws,t.ab.length<1073741824/\∀x∈t.ab,x.ts.length<1073741824):=by obtain⟨h1,h2,h3,h4,h5,h6,h7,h8,h9⟩:=Bi h;exact⟨⟨by omega,by omega,(kj h7).1,(kj h8).1,fun t ht=>(kj (h1 t ht)).1,fun t ht=>(kj (h2 t ht)).1,(kj h5).1,(kj h6).1⟩,fun t ht=>(kj (h1 t ht)).2,fun t ht=>(kj (h2 t ht)).2⟩
end Fw.Tz
/-
  Pairs of an application, whether it holds, and its only frame: the plain law.
-/
namespace Fw.Tz.Pp
open Go Fw.Tz.Va Fw.Tz.Vb Fw.Tz.Vc Fw.Tz.Eq
def eH(row:List UInt8)(ab:List ae)(t:Ty)(b:Bool):Option Ty:=bif b then(bif decide (ab.length+t.ab.length<=6)then some ⟨t.elem,row,ab++t.ab⟩else none)else some t
def rK(row:List UInt8)(ab:List ae):List (Ty×Ty)->List Ty->List Ty->List Bool->Option (List (Ty×Ty))
 |acc,g::gs,w::ws,b::bs=>
  match eH row ab w b with
   |none=>none
   |some t=>rK row ab (acc++[(g,t)]) gs ws bs
 |acc,_,_,_=>some acc
def jP(c:bR)(row:List UInt8)(ab:List ae)(bs:List Bool):Bool:= !kZ c|| !b_ row ab|| !decide (bs.length=c.gs.length)||(!bs.any id&& !sG row ab [] [])
def jy(c:bR)(row:List UInt8)(ab:List ae)(bs:List Bool):Option (List (Ty×Ty)):=rK row ab [] (c.gs++[c.r]) (c.ws++[c.x]) (bs++[bs.any id])
def PV(p:Ty×Ty):Bool:=Bc p.1 p.2
def kN(c:bR)(row:List UInt8)(ab:List ae)(bs:List Bool):Bool:= !jP c row ab bs&&match jy c row ab bs with
 |none=>false
 |some l=>l.all PV
def pZ(row:List UInt8)(ab:List ae):List Ty->List Ty->List Bool->Prop|g::gs,w::ws,b::bs=>eH row ab w b=some g/\pZ row ab gs ws bs|_,_,_=>True
theorem za(row:List UInt8)(ab:List ae):∀(gs ws:List Ty)(bs:List Bool)(acc:List (Ty×Ty)),(match rK row ab acc gs ws bs with|none=>false|some l=>l.all PV)=true↔acc.all PV=true/\pZ row ab gs ws bs
 |[],_,_,acc=>by simp[rK,pZ]
 |_::_,[],_,acc=>by simp[rK,pZ]
 |_::_,_::_,[],acc=>by simp[rK,pZ]
 |g::gs,w::ws,b::bs,acc=>by
  rw[rK,pZ];cases hl:eH row ab w b with
   |none=>simp
   |some t=>have ih:=za row ab gs ws bs (acc++[(g,t)]);simp only;rw[ih,ac6,aaD];simp only[aaX,acY,acn,PV,IG,aaC,and_assoc];grind
theorem od(row:List UInt8)(ab:List ae)(r x:Ty)(s:Bool):∀(gs ws:List Ty)(bs:List Bool),gs.length=ws.length->bs.length=gs.length->(pZ row ab (gs++[r]) (ws++[x]) (bs++[s])↔pZ row ab gs ws bs/\eH row ab x s=some r)
 |[],[],[],_,_=>by simp[pZ]
 |g::gs,w::ws,b::bs,h1,h2=>by simp only[abD,pZ];rw[od row ab r x s gs ws bs (by grind) (by grind),and_assoc]
theorem Dg{c:bR}{row:List UInt8}{ab:List ae}{bs:List Bool}(hc:kZ c=true):kN c row ab bs=true↔b_ row ab=true/\bs.length=c.gs.length/\(bs.any id=false->row=[]/\ab=[])/\pZ row ab c.gs c.ws bs/\eH row ab c.x (bs.any id)=some c.r:=by
 have hl:c.gs.length=c.ws.length:=by simp_all[kZ,aaD,aaL]
 have e1:jP c row ab bs=false↔b_ row ab=true/\bs.length=c.gs.length/\(bs.any id=false->row=[]/\ab=[]):=by have h0:(sG row ab [] []=true)=(row=[]/\ab=[]):=propext (vN row ab [] []);rw[jP,hc];grind
 rw[kN,aaD,aa5,e1,jy];constructor
 ·rintro⟨⟨h1,h2,h3⟩,h4⟩;rw[za]at h4;have:=(od row ab c.r c.x (bs.any id) c.gs c.ws bs hl h2).1 h4.2;grind
 ·rintro⟨h1,h2,h3,h4,h5⟩;refine⟨⟨h1,h2,h3⟩,?_⟩;rw[za];exact⟨rfl,(od row ab c.r c.x (bs.any id) c.gs c.ws bs hl h2).2 ⟨h4,h5⟩⟩
theorem sL{row:List UInt8}{ab:List ae}{w g:Ty}{b:Bool}(h:eH row ab w b=some g):(b=true/\ab.length+w.ab.length<=6/\g=⟨w.elem,row,ab++w.ab⟩)\/(b=false/\g=w):=by
 cases b with
  |false=>grind[eH]
  |true=>by_cases h6:ab.length+w.ab.length<=6;all_goals simp_all[eH,aaJ,aaC,aaT]
end Fw.Tz.Pp
/-
  Concatenated shapes and lifted cells, of the program.
-/
namespace Fw.Tz.Pa
open Go Go.Proofs Fw.X Fw.Tz Fw.Nu Fw.Tz.Sd Fw.Tz.Na Fw.Tz.El Fw.Tz.Va Fw.Tz.Vb Fw.Tz.Vc Fw.Tz.Vh Fw.Tz.Eq Fw.Tz.Ew Fw.Tz.Pp
variable {W:World}
def sM(row:List UInt8)(ab:List ae)(e:Int):V:=.tuple [vS row ab,.d (.int .i64 e)]
theorem EB(hW:W0 W)(a b:List ae)(ha:a.length<1048576)(hb:b.length<1048576):PC P (gl W) 176 [.d (.list [[.list (a.map ae.aa)],[.list (b.map ae.aa)]])] (.d (.list ((a++b).map ae.aa))):=by
 refine CG.start S2 S3 rfl ?_;refine s1 hW 30 0 [true] 1 [(2,.ad),(3,io (aq IntKind.i64 (aJ 0 (Int.ofNat (a.map ae.aa).length)))),(9,.d (.list [[.list (a.map ae.aa)],[.list (b.map ae.aa)]])),(10,io 2),(11,i0),(20,bo (ax (aq IntKind.i64 (aJ 0 (Int.ofNat (a.map ae.aa).length))) 0))] ?_;rw[show aq .i64 (aJ 0 (Int.ofNat (a.map ae.aa).length))=Int.ofNat a.length from by rw[cw,fw,IntKind.wrap_i64,aaQ];simp only[abC];omega];refine s1 hW 24 0 [false,true] 27 [(3,io (aq IntKind.i64 (aJ (Int.ofNat a.length) (Int.ofNat (b.map ae.aa).length)))),(11,io 1),(20,bo (ax (aq IntKind.i64 (aJ (Int.ofNat a.length) (Int.ofNat (b.map ae.aa).length))) 0))] ?_;rw[show aq .i64 (aJ (Int.ofNat a.length) (Int.ofNat (b.map ae.aa).length))=Int.ofNat (a.length+b.length)from by rw[cw,fw,IntKind.wrap_i64,aaQ];simp only[abC];omega];refine s1 hW 17 1 [false,false] 3 [(23,no (List.length a+List.length b))] ?_;rotate_left;refine CG.Mo (RI (a.length+b.length) (by omega)) rfl rfl k_ rfl ?_;rintro v H' ⟨rfl,rfl⟩;by_cases h0:a.length+b.length=0
 ·rw[sC,aaK h0,rj,aaK h0];obtain rfl:=acw.1 (show a.length=0 by omega);obtain rfl:=acw.1 (show b.length=0 by omega);refine CG.vn (an.oK 24 2 (aW:=[(0,.d (.list [[.list []],[.list []]])),(2,.ad),(23,i0),(24,.sl 0 0 0 0 2)]) (aaP _) k_ k_) ?_;refine CG.tD ([some .nil]) k_ ?_;refine CG.is [(0,.d (.list [[.list []],[.list []]])),(2,.ad),(23,i0),(24,.sl 0 (List.length ([]:List ae)*2) 0 ([]:List ae).length 2)] ([some (ah ae.aa ([]:List ae))]) k_ ?_;exact du hW 55 0 [true,true,false] 0 [(2,.sl 0 0 0 0 2)] (.d (.list []))
 ·rw[sC,aaF h0,rj,aaF h0];refine CG.is [(0,.d (.list [[.list (a.map ae.aa)],[.list (b.map ae.aa)]])),(2,.ad),(23,no (List.length a+List.length b)),(24,.sl 1 (List.length ([]:List ae)*2) 0 ([]:List ae).length 2)] ([none,some (cd ae.aa ([]:List ae))]) k_ ?_;refine s1 hW 20 2 [true] 2 [(6,.sl 1 0 0 0 2),(25,.d (.list [[.list (a.map ae.aa)],[.list (b.map ae.aa)]])),(26,io 2),(27,i0),(31,.sl 1 0 0 0 2),(32,lo ae.aa a)] ?_;refine CG.NW ae.aa [] a 1 (fun _=>rfl) rfl k_ (cT (aa:=ae.aa) (fun _=>rfl) _ a) (by(try simp only[zz]at*)<;>omega) ?_;refine s1 hW 17 2 [true] 13 [(6,.sl 1 (List.length ([]++a)*2) 0 ([]++a).length 2),(27,io 1),(31,.sl 1 (List.length ([]++a)*2) 0 ([]++a).length 2),(32,lo ae.aa b)] ?_;refine CG.NW ae.aa ([]++a) b 1 (fun _=>rfl) rfl k_ (cT (aa:=ae.aa) (fun _=>rfl) _ b) (by(try simp only[zz]at*)<;>omega) ?_;refine s1 hW 18 0 [false] 0 [(2,.sl 1 (List.length ([]++a++b)*2) 0 ([]++a++b).length 2)] ?_;rotate_left;refine CG.tidy (an.H8 (sz:=2) ae.aa ([]++a++b) 1 2 (aW:=[(2,.d (.list (([]++a++b).map ae.aa)))]) (H':=[none,none]) (fun _=>rfl) k_ k_ ⟨.inr trivial,⟨.inl rfl,trivial⟩⟩ k_ k_) ?_;refine CG.rt (lo ae.aa ([]++a++b)) ?_;rfl
theorem Lz(hW:W0 W)(a b:List Ty)(ha:a.length<1048576)(hb:b.length<1048576):PC P (gl W) 60 [.d (.list [[.list (a.map Ty.aa)],[.list (b.map Ty.aa)]])] (.d (.list ((a++b).map Ty.aa))):=by
 refine CG.start Yv Yw rfl ?_;refine s1 hW 30 0 [true] 1 [(2,.ad),(3,io (aq IntKind.i64 (aJ 0 (Int.ofNat (a.map Ty.aa).length)))),(9,.d (.list [[.list (a.map Ty.aa)],[.list (b.map Ty.aa)]])),(10,io 2),(11,i0),(20,bo (ax (aq IntKind.i64 (aJ 0 (Int.ofNat (a.map Ty.aa).length))) 0))] ?_;rw[show aq .i64 (aJ 0 (Int.ofNat (a.map Ty.aa).length))=Int.ofNat a.length from by rw[cw,fw,IntKind.wrap_i64,aaQ];simp only[abC];omega];refine s1 hW 24 0 [false,true] 27 [(3,io (aq IntKind.i64 (aJ (Int.ofNat a.length) (Int.ofNat (b.map Ty.aa).length)))),(11,io 1),(20,bo (ax (aq IntKind.i64 (aJ (Int.ofNat a.length) (Int.ofNat (b.map Ty.aa).length))) 0))] ?_;rw[show aq .i64 (aJ (Int.ofNat a.length) (Int.ofNat (b.map Ty.aa).length))=Int.ofNat (a.length+b.length)from by rw[cw,fw,IntKind.wrap_i64,aaQ];simp only[abC];omega];refine s1 hW 17 1 [false,false] 3 [(23,no (List.length a+List.length b))] ?_;rotate_left;refine CG.Mo (RH (a.length+b.length) (by omega)) rfl rfl k_ rfl ?_;rintro v H' ⟨rfl,rfl⟩;by_cases h0:a.length+b.length=0
 ·rw[sB,aaK h0,q_,aaK h0];obtain rfl:=acw.1 (show a.length=0 by omega);obtain rfl:=acw.1 (show b.length=0 by omega);refine CG.vn (an.oK 24 3 (aW:=[(0,.d (.list [[.list []],[.list []]])),(2,.ad),(23,i0),(24,.sl 0 0 0 0 3)]) (aaP _) k_ k_) ?_;refine CG.tD ([some .nil]) k_ ?_;refine CG.is [(0,.d (.list [[.list []],[.list []]])),(2,.ad),(23,i0),(24,.sl 0 (List.length ([]:List Ty)*3) 0 ([]:List Ty).length 3)] ([some (ah Ty.aa ([]:List Ty))]) k_ ?_;exact du hW 55 0 [true,true,false] 0 [(2,.sl 0 0 0 0 3)] (.d (.list []))
 ·rw[sB,aaF h0,q_,aaF h0];refine CG.is [(0,.d (.list [[.list (a.map Ty.aa)],[.list (b.map Ty.aa)]])),(2,.ad),(23,no (List.length a+List.length b)),(24,.sl 1 (List.length ([]:List Ty)*3) 0 ([]:List Ty).length 3)] ([none,some (cd Ty.aa ([]:List Ty))]) k_ ?_;refine s1 hW 20 2 [true] 2 [(6,.sl 1 0 0 0 3),(25,.d (.list [[.list (a.map Ty.aa)],[.list (b.map Ty.aa)]])),(26,io 2),(27,i0),(31,.sl 1 0 0 0 3),(32,lo Ty.aa a)] ?_;refine CG.NW Ty.aa [] a 1 (fun _=>rfl) rfl k_ (cT (aa:=Ty.aa) (fun _=>rfl) _ a) (by(try simp only[zz]at*)<;>omega) ?_;refine s1 hW 17 2 [true] 13 [(6,.sl 1 (List.length ([]++a)*3) 0 ([]++a).length 3),(27,io 1),(31,.sl 1 (List.length ([]++a)*3) 0 ([]++a).length 3),(32,lo Ty.aa b)] ?_;refine CG.NW Ty.aa ([]++a) b 1 (fun _=>rfl) rfl k_ (cT (aa:=Ty.aa) (fun _=>rfl) _ b) (by(try simp only[zz]at*)<;>omega) ?_;refine s1 hW 18 0 [false] 0 [(2,.sl 1 (List.length ([]++a++b)*3) 0 ([]++a++b).length 3)] ?_;rotate_left;refine CG.tidy (an.H8 (sz:=3) Ty.aa ([]++a++b) 1 2 (aW:=[(2,.d (.list (([]++a++b).map Ty.aa)))]) (H':=[none,none]) (fun _=>rfl) k_ k_ ⟨.inr trivial,⟨.inl rfl,trivial⟩⟩ k_ k_) ?_;refine CG.rt (lo Ty.aa ([]++a++b)) ?_;rfl
end Fw.Tz.Pa
/-
  Concatenated shapes and lifted cells.
-/
namespace Fw.Tz.Pc
open Go Go.Proofs Fw.X Fw.Tz Fw.Nu Fw.Tz.Sd Fw.Tz.Na Fw.Tz.El Fw.Tz.Va Fw.Tz.Vb Fw.Tz.Vc Fw.Tz.Vh Fw.Tz.Eq Fw.Tz.Ew Fw.Tz.Pp Fw.Tz.Pa
variable {W:World}
theorem LA(hW:W0 W)(row:List UInt8)(ab:List ae)(hl:ab.length<=6)(hd:∀x∈ab,x.ts.length<1073741824):PC P (gl W) 175 [.d (.str row),.d (.list (ab.map ae.aa))] (sM row ab 0):=by
 refine CG.start MC MD rfl ?_;have C0:ab.length<1073741824:=by omega
 refine s4 hW 7 0 [] 3 [(4,.ptr 0 2 0),(5,i0),(8,bo (ax 6 (Int.ofNat (ab.map ae.aa).length)))] [(0,.cells [sE,.ad])] ?_;refine CG.aN (show(ax 6 (Int.ofNat (ab.map ae.aa).length))=false from kO) k_ ?_;refine bh hW 3 2 [] 12 [(10,so row),(11,lo ae.aa ab)] (F2 hW _ C0 hd) ?_;refine s4 hW 2 0 [] 3 [] [(0,.cells [so row,lo ae.aa ab])] ?_;refine CG.rt (.tuple [.agg [so row,lo ae.aa ab],i0]) ?_;rfl
theorem II(hW:W0 W)(row:List UInt8)(ab:List ae)(hl:6<ab.length)(C0:ab.length<1073741824):PC P (gl W) 175 [.d (.str row),.d (.list (ab.map ae.aa))] (sM [] [] 3):=by refine CG.start MC MD rfl ?_;refine s4 hW 7 0 [] 3 [(4,.ptr 0 2 0),(5,i0),(8,bo (ax 6 (Int.ofNat (ab.map ae.aa).length)))] [(0,.cells [sE,.ad])] ?_;refine CG.aM (show(ax 6 (Int.ofNat (ab.map ae.aa).length))=true from kX) k_ ?_;exact du hW 3 0 [] 7 [(5,io 3)] (.tuple [.agg [sE,.d (.list [])],io 3])
def w6(l:List ae):Prop:=l.length<1048576/\∀x∈l,ae.sm x/\x.ts.length<1073741824
theorem OA(hW:W0 W)(r1:List UInt8)(d1 d2:List ae)(h1:w6 d1)(h2:w6 d2)(hr:r1.length<1099511627776)(v1:b_ r1 d1=true)(v2:b_ [] d2=true)(hl:d1.length+d2.length<=6):PC P (gl W) 119 [vS r1 d1,vS [] d2] (sM r1 (d1++d2) 0):=by refine CG.start MA MB rfl ?_;have k1:=nI hW r1 d1 hr (by have:=h1.1;omega) (fun x hx=>(h1.2 x hx).1);have k2:=nI hW [] d2 (by simp) (by have:=h2.1;omega) (fun x hx=>(h2.2 x hx).1);rw[v1]at k1;rw[v2]at k2;have k3:=LA hW r1 (d1++d2) (by simp;omega) (fun x hx=>by rcases aa2.1 hx with hx|hx;exact(h1.2 x hx).2;exact(h2.2 x hx).2);have k4:=EB hW d1 d2 h1.1 h2.1;unfold sM at k3;refine s4 hW 6 1 [] 0 [(2,.ptr 0 2 0),(3,.ptr 1 2 0),(4,.ptr 2 2 0),(5,i0),(7,.agg [so r1,lo ae.aa d1])] [(0,.cells [so r1,lo ae.aa d1]),(1,.cells [sE,lo ae.aa d2]),(2,.cells [sE,.ad])] ?_;refine CG.pg (k1) rfl k_ ?_;refine bh hW 0 3 [] 15 [(10,bF),(11,.agg [sE,lo ae.aa d2])] (k2) ?_;refine s1 hW 11 0 [false,false] 15 [] ?_;refine dg hW [] [(7,lo ae.aa (d1++d2)),(8,.tuple [.agg [so r1,lo ae.aa (d1++d2)],i0])] (aW:=[(4,.ptr 2 2 0),(5,i0)]) (H':=[some (.cells [so r1,lo ae.aa d1]),some (.cells [sE,lo ae.aa d2]),some (.cells [so r1,lo ae.aa (d1++d2)])]++nn 13 ([])) (cs:=[]) (calls:=[(176,[.d (.list [[.list (d1.map ae.aa)],[.list (d2.map ae.aa)]])],lo ae.aa (d1++d2)),(175,[so r1,lo ae.aa (d1++d2)],.tuple [.agg [so r1,lo ae.aa (d1++d2)],i0])]) k_ trivial ⟨k4,⟨k3,trivial⟩⟩ ?_;exact du hW 1 0 [] 3 [] (.tuple [.agg [so r1,lo ae.aa (d1++d2)],i0])
theorem LB(hW:W0 W)(r1:List UInt8)(d1 d2:List ae)(h1:w6 d1)(h2:w6 d2)(hr:r1.length<1099511627776)(v1:b_ r1 d1=true)(v2:b_ [] d2=true)(hl:6<d1.length+d2.length):PC P (gl W) 119 [vS r1 d1,vS [] d2] (sM [] [] 3):=by refine CG.start MA MB rfl ?_;have k1:=nI hW r1 d1 hr (by have:=h1.1;omega) (fun x hx=>(h1.2 x hx).1);have k2:=nI hW [] d2 (by simp) (by have:=h2.1;omega) (fun x hx=>(h2.2 x hx).1);rw[v1]at k1;rw[v2]at k2;have e1:=h1.1;have e2:=h2.1;have k3:=II hW r1 (d1++d2) (by simp;omega) (by simp;omega);have k4:=EB hW d1 d2 h1.1 h2.1;unfold sM at k3;refine s4 hW 6 1 [] 0 [(2,.ptr 0 2 0),(3,.ptr 1 2 0),(4,.ptr 2 2 0),(5,i0),(7,.agg [so r1,lo ae.aa d1])] [(0,.cells [so r1,lo ae.aa d1]),(1,.cells [sE,lo ae.aa d2]),(2,.cells [sE,.ad])] ?_;refine CG.pg (k1) rfl k_ ?_;refine bh hW 0 3 [] 15 [(10,bF),(11,.agg [sE,lo ae.aa d2])] (k2) ?_;refine s1 hW 11 0 [false,false] 15 [] ?_;refine dg hW [] [(7,lo ae.aa (d1++d2)),(8,.tuple [.agg [sE,.d (.list [])],io 3])] (aW:=[(4,.ptr 2 2 0),(5,io 3)]) (H':=[some (.cells [so r1,lo ae.aa d1]),some (.cells [sE,lo ae.aa d2]),some (.cells [sE,.d (.list [])])]++nn 13 ([])) (cs:=[]) (calls:=[(176,[.d (.list [[.list (d1.map ae.aa)],[.list (d2.map ae.aa)]])],lo ae.aa (d1++d2)),(175,[so r1,lo ae.aa (d1++d2)],.tuple [.agg [sE,.d (.list [])],io 3])]) k_ trivial ⟨k4,⟨k3,trivial⟩⟩ ?_;exact du hW 1 0 [] 3 [] (.tuple [.agg [sE,.d (.list [])],io 3])
def F3(t:Ty)(e:Int):V:=.tuple [vT t,.d (.int .i64 e)]
theorem EC(hW:W0 W)(row:List UInt8)(ab:List ae)(t:Ty)(h1:w6 ab)(h2:w6 t.ab)(hr:row.length<1099511627776)(v1:b_ row ab=true)(v2:b_ [] t.ab=true)(hw:t.row=[])(hl:ab.length+t.ab.length<=6):PC P (gl W) 61 [vS row ab,vT t] (F3 ⟨t.elem,row,ab++t.ab⟩ 0):=by refine CG.start RN RO rfl ?_;have k:=OA hW row ab t.ab h1 h2 hr v1 v2 hl;unfold sM at k;obtain⟨te,tr,td⟩:=t;simp only at hw;subst hw;refine s4 hW 4 3 [] 0 [(3,.ptr 1 3 0),(4,.ptr 2 3 0),(5,i0),(9,.agg [so row,lo ae.aa ab]),(11,.agg [sE,lo ae.aa td])] [(0,.cells [so row,lo ae.aa ab]),(1,.cells [so te,sE,lo ae.aa td]),(2,.cells [sE,sE,.ad])] ?_;refine CG.pg (k) rfl k_ ?_;refine s4 hW 5 0 [] 6 [] [(2,.cells [so te,so row,lo ae.aa (ab++Ty.ab (Ty.mk te [] td))]),(3,.cells [so row,lo ae.aa (ab++Ty.ab (Ty.mk te [] td))])] ?_;refine CG.rt (.tuple [.agg [so te,so row,lo ae.aa (ab++Ty.ab (Ty.mk te [] td))],i0]) ?_;rfl
theorem Bj(hW:W0 W)(row:List UInt8)(ab:List ae)(t:Ty)(h1:w6 ab)(h2:w6 t.ab)(hr:row.length<1099511627776)(v1:b_ row ab=true)(v2:b_ [] t.ab=true)(hw:t.row=[])(hl:6<ab.length+t.ab.length):PC P (gl W) 61 [vS row ab,vT t] (F3 ⟨t.elem,[],[]⟩ 3):=by refine CG.start RN RO rfl ?_;have k:=LB hW row ab t.ab h1 h2 hr v1 v2 hl;unfold sM at k;obtain⟨te,tr,td⟩:=t;simp only at hw;subst hw;refine s4 hW 4 3 [] 0 [(3,.ptr 1 3 0),(4,.ptr 2 3 0),(5,i0),(9,.agg [so row,lo ae.aa ab]),(11,.agg [sE,lo ae.aa td])] [(0,.cells [so row,lo ae.aa ab]),(1,.cells [so te,sE,lo ae.aa td]),(2,.cells [sE,sE,.ad])] ?_;refine CG.pg (k) rfl k_ ?_;refine s4 hW 5 0 [] 2 [(5,io 3)] [(2,.cells [so te,sE,.d (.list [])]),(3,.cells [sE,.d (.list [])])] ?_;refine CG.rt (.tuple [.agg [so te,sE,.d (.list [])],io 3]) ?_;rfl
end Fw.Tz.Pc
/-
  Pairs of an application.
-/
namespace Fw.Tz.Pb
open Go Go.Proofs Fw.X Fw.Tz Fw.Nu Fw.Tz.Sd Fw.Tz.Na Fw.Tz.El Fw.Tz.Va Fw.Tz.Vb Fw.Tz.Vc Fw.Tz.Vf Fw.Tz.Vh Fw.Tz.Eq Fw.Tz.Ew Fw.Tz.Pp Fw.Tz.Pa Fw.Tz.Pc
variable {W:World}
def cr(p:Ty×Ty):List D:=Ty.aa p.1++Ty.aa p.2
def mg(l:List (Ty×Ty))(e:Int):V:=.tuple [.d (.list (l.map cr)),.d (.int .i64 e)]
def MI:Option (List (Ty×Ty))->V|none=>mg [] 3|some l=>mg l 0
def p3(c:bR)(row:List UInt8)(ab:List ae)(bs:List Bool):V:=bif jP c row ab bs then mg [] 1 else MI (jy c row ab bs)
theorem nK(row:List UInt8)(ab:List ae):sG row ab [] []=(ai row []&&decide (ab.length=0)):=by
 cases ab with
  |nil=>rfl
  |cons a l=>simp[sG,tY]
theorem LC(hW:W0 W)(l:List Bool)(hl:l.length<1099511627776):PC P (gl W) 114 [.d (.list (l.map cM)),.d (.bool true)] (kP (l.findIdx? id)):=by
 refine CG.start RX RY rfl ?_;refine s1 hW 8 0 [] 3 [(4,i0),(7,no (l.map cM).length),(8,i0)] ?_;rotate_left;refine CG.bp l (fun i u=>[(0,lo cM l),(1,bT),(4,i0),(7,no (l.map cM).length),(8,.d (.int .i64 (.ofNat i)))]) (fun i u=>[]) (fun i u r=>(kP (l.findIdx? id)=kP ((r.findIdx? id).map (·+i)))) () ?_ (an.refl _ _) ?_ ?_
 ·cases l.findIdx? id<;>rfl
 ·intro i u hi dp aI;refine dk hW 4 0 [] 23 [(9,bo (ax (Int.ofNat i) (Int.ofNat (l.map cM).length)))] (jx i (l.map cM).length) ?_;refine CG.aS (by decide) ?_;refine s1 hW 5 0 [] 0 [(4,io (-1))] ?_;refine CG.rt (io (-1)) ?_;rotate_left;rw[aI];rfl
 ·intro i u y r dp hy b8 aI;rw[abK]at aI;refine cP hW 4 0 [] 31 [(9,bo (ax (Int.ofNat i) (Int.ofNat (l.map cM).length)))] (gi i (l.map cM).length) ?_;refine s1 hW 8 3 [] 31 [(5,no i),(11,bT),(12,lo cM l),(13,no i)] ?_;refine CG.ix (al (aa:=cM) hy) rfl k_ ?_;cases y with
   |true=>refine s1 hW 6 0 [true] 51 [(4,no i)] ?_;refine CG.fX (no i) ?_;rotate_left;rw[aI];simp[kP]
   |false=>
    refine cG hW 6 2 [false] [(0,lo cM l),(1,bT),(4,i0),(7,no (l.map cM).length),(8,io (aq IntKind.i64 (aJ (Int.ofNat i) 1)))] ([]) ?_;rw[aP (by omega)];rotate_left;refine⟨(),?_,an.refl _ _⟩;rw[aI];cases r.findIdx? id with
     |none=>rfl
     |some j=>simp only[id,abn,abM,aaU,kP];rw[show j+1+i=j+(i+1) by omega]
theorem IJ(hW:W0 W)(l:List Bool)(hl:l.length<1099511627776):PC P (gl W) 58 [.d (.list (l.map cM)),.d (.bool true)] (.d (.bool (l.any id))):=by
 refine CG.start Yp Yq rfl ?_;refine bh hW 4 2 [] 0 [(4,bF),(5,lo cM l),(6,bT)] (LC hW _ hl) ?_;rotate_left;have:l.any id=(l.findIdx? id).isSome:=by rw[acq]
 rw[this];cases l.findIdx? id with
  |none=>exact du hW 2 0 [] 1 [] (bF)
  |some i=>exact du hW 2 0 [] 0 [(4,bT)] (bT)
end Fw.Tz.Pb
/-
  Pairs, by the program.
-/
namespace Fw.Tz.Pd
open Go Go.Proofs Fw.X Fw.Tz Fw.Nu Fw.Tz.Sd Fw.Tz.Na Fw.Tz.El Fw.Tz.Va Fw.Tz.Vb Fw.Tz.Vc Fw.Tz.Vf Fw.Tz.Vh Fw.Tz.Eq Fw.Tz.Ew Fw.Tz.Pp Fw.Tz.Pa Fw.Tz.Pb Fw.Tz.Pc
variable {W:World}
structure MJ (c:bR) (row:List UInt8) (ab:List ae) (bs:List Bool):Prop where
 sm:bR.sm c
 ws:∀t∈c.ws,w6 t.ab
 x:w6 c.x.ab
 row:row.length<1099511627776
 ab:w6 ab
 bs:bs.length<1099511627776
structure VS (c:bR) (row:List UInt8) (ab:List ae) (bs:List Bool):Prop where
 con:kZ c=true
 len:c.gs.length=c.ws.length
 le:c.gs.length<=16
 Ul:∀t∈c.ws,t.row=[]
 Um:∀t∈c.ws,b_ [] t.ab=true
 Un:c.x.row=[]
 Uo:b_ [] c.x.ab=true
 VT:b_ row ab=true
 Zc:bs.length=c.gs.length
theorem IK{c:bR}{row:List UInt8}{ab:List ae}{bs:List Bool}(h1:kZ c=true)(h2:b_ row ab=true)(h3:bs.length=c.gs.length):VS c row ab bs:=by
 have h:=h1;simp only[kZ,aaD,aaL,aa5,adi]at h;obtain⟨⟨⟨⟨⟨⟨⟨_,k1⟩,k2⟩,k3⟩,k4⟩,k5⟩,_⟩,k6⟩:=h;have e1:∀t∈c.ws,t.row=[]:=fun t ht=>by have:=k6 t ht;simp only[kL,aa8,not_or,abV]at this;simpa[kK,Fw.eu]using this.2
 have e2:c.x.row=[]:=by simpa[kK,Fw.eu]using k5
 refine⟨h1,k1,k2,e1,fun t ht=>?_,e2,?_,h2,h3⟩
 ·have:=k6 t ht;simp only[kL,jN,aa8,not_or,abV,ack,fx,aaD]at this;have k:=this.1.2;rwa[e1 t ht]at k
 ·simp only[fx,aaD]at k4;have k:=k4.2;rwa[e2]at k
theorem xT{α:Type}{l:List α}{y x:α}{i:Nat}(h:l[i]? =some x):(l++[y]).drop i=x::(l++[y]).drop (i+1):=by obtain⟨hi,_⟩:=aaO.1 h;exact drop_at (by rw[abU hi];exact h)
theorem ED(hW:W0 W)(c:bR)(row:List UInt8)(ab:List ae)(bs:List Bool)(hs:MJ c row ab bs)(hp:VS c row ab bs):CG P (gl W) (.code (.loop f23.Mu)) [.block 0,.seq (.seq (.region f23.Ch) .ret)] f23.ntmps [(2,lo cM bs),(3,.ptr 0 18 0),(4,.ptr 1 2 0),(6,.ad),(7,i0),(8,bo (bs.any id)),(9,.ad),(55,lo Ty.aa (c.gs++[c.r])),(56,no (List.length ((c.gs++[c.r]).map Ty.aa))),(57,i0)] [some (.cells (bR.cells c)),some (.cells [so row,lo ae.aa ab])] (mM f23.res (MI (jy c row ab bs))):=by
 have hlen:=hp.len;have hle:=hp.le;have Cc:=hp.Zc;have JP:=hs.ab.1;refine CG.tidy (an.oK 9 6 (aW:=[(2,lo cM bs),(3,.ptr 0 18 0),(4,.ptr 1 2 0),(6,.ad),(7,i0),(8,bo (List.any bs id)),(9,.sl 2 0 0 0 6),(55,lo Ty.aa (bR.gs c++[c.r])),(56,no (List.length ((bR.gs c++[c.r]).map Ty.aa))),(57,i0)]) (aaP _) k_ k_) ?_;refine CG.tD ([some (.cells (bR.cells c)),some (.cells [so row,lo ae.aa ab]),some .nil]) k_ ?_;refine CG.is [(2,lo cM bs),(3,.ptr 0 18 0),(4,.ptr 1 2 0),(6,.ad),(7,i0),(8,bo (List.any bs id)),(9,.sl 2 (List.length ([]:List (Ty×Ty))*6) 0 (List.length ([]:List (Ty×Ty))) 6),(55,lo Ty.aa (bR.gs c++[c.r])),(56,no (List.length ((bR.gs c++[c.r]).map Ty.aa))),(57,i0)] ([some (.cells (bR.cells c)),some (.cells [so row,lo ae.aa ab]),some (ah cr ([]:List (Ty×Ty)))]) k_ ?_;refine CG.bp (c.gs++[c.r]) (fun i a=>[(2,lo cM bs),(3,.ptr 0 18 0),(4,.ptr 1 2 0),(6,.ad),(7,i0),(8,bo (List.any bs id)),(9,.sl 2 (a.length*6) 0 a.length 6),(55,lo Ty.aa (bR.gs c++[c.r])),(56,no (List.length ((bR.gs c++[c.r]).map Ty.aa))),(57,.d (.int .i64 (.ofNat i)))]) (fun i a=>[some (.cells (bR.cells c)),some (.cells [so row,lo ae.aa ab]),some (ah cr a)]) (fun i a r=>(jy c row ab bs=rK row ab a r ((c.ws++[c.x]).drop i) ((bs++[bs.any id]).drop i)/\a.length=i)) ([]:List (Ty×Ty)) ?_ (an.refl _ _) ?_ ?_
 ·exact⟨rfl,rfl⟩
 ·rintro i a hi hd ⟨aI,ha⟩;have hR:MI (jy c row ab bs)=mg a 0:=by rw[aI];simp[rK,MI]
  rw[hR];refine dk hW 4 0 [] 767 [(58,bo (ax (Int.ofNat i) (Int.ofNat (List.length ((bR.gs c++[c.r]).map Ty.aa)))))] (jx i (List.length ((bR.gs c++[c.r]).map Ty.aa))) ?_;refine CG.aS (by decide) ?_;refine s1 hW 5 0 [] 16 [(6,.sl 2 (List.length a*6) 0 a.length 6)] ?_;rotate_left;refine CG.tidy (an.nB (sz:=6) cr a 2 6 (aW:=[(6,.d (.list (a.map cr))),(7,i0)]) (H':=[some (.cells (bR.cells c)),some (.cells [so row,lo ae.aa ab]),none]) (fun _=>rfl) k_ k_ ⟨.inr rfl,⟨.inr rfl,⟨.inl rfl,trivial⟩⟩⟩ k_ k_) ?_;refine CG.rt (.tuple [lo cr a,i0]) ?_;rfl
 ·rintro i a x r hd hx b8 ⟨aI,ha⟩;rw[aaZ]at b8;simp only[aaR,aa']at b8;by_cases tq:i<c.gs.length
  ·obtain⟨w,hw⟩:∃w,c.ws[i]? =some w:=⟨_,aaI (by omega)⟩;obtain⟨b,hb⟩:∃b,bs[i]? =some b:=⟨_,aaI (by omega)⟩;have Up:=aaH hw;have Uq:=hs.ws w Up;have Uk:=Uq.1;rw[xT hw,xT hb,rK]at aI;cases b with
    |false=>refine cP hW 4 0 [] 1023 [(58,bo (ax (Int.ofNat i) (Int.ofNat (List.length ((bR.gs c++[c.r]).map Ty.aa)))))] (gi i (List.length ((bR.gs c++[c.r]).map Ty.aa))) ?_;refine s1 hW 5 1 [] 1023 [(59,no i)] ?_;refine CG.ix (al (aa:=Ty.aa) hx) rfl k_ ?_;refine s4 hW 12 0 [] 1023 [(10,no i),(11,.ptr 3 3 0),(13,.ptr 4 3 0),(14,bo (List.any bs id)),(71,bo (!aQ (Int.ofNat i) (Int.ofNat (c.gs.map Ty.aa).length)))] [(3,.cells x.ce),(4,.cells c.x.ce)] ?_;have pX:(aQ (Int.ofNat i) (Int.ofNat (c.gs.map Ty.aa).length))=false:=qi;refine CG.aM (b:=(!aQ (Int.ofNat i) (Int.ofNat (c.gs.map Ty.aa).length))) (by rw[pX];rfl) k_ ?_;refine CG.c_ aV k_ ?_;refine AW.rk 3 [(72,.ptr 0 18 9),(73,lo Ty.aa c.ws),(74,no i)] [] k_ ?_;refine AW.idx (al (aa:=Ty.aa) hw) rfl k_ k_ k_ rfl ?_;refine AW.rk 3 [(76,.agg w.ce),(77,lo cM bs),(78,no i)] [] k_ ?_;refine AW.idx (al (aa:=cM) hb) rfl k_ k_ k_ rfl ?_;refine AW.rk 3 [(14,bF),(80,bF)] [(4,.cells w.ce)] k_ ?_;refine AW.nil rfl ⟨k_,AW.fin (H2:=[some (.cells (bR.cells c)),some (.cells [so row,lo ae.aa ab]),some (ah cr a),some (.cells x.ce),some (.cells w.ce)]) 5 [2,3,4,6,7,8,9,11,13,14,55,56,57] k_ rfl k_ k_ (by simp[nn,aB,aw,bj,aD,bx,av,au,bR.cells]) ?_⟩;refine s1 hW 8 5 [false] 7295 [(91,.sl 2 (List.length a*6) 0 a.length 6),(95,.d (.list [[.str x.elem,.str x.row,.list (x.ab.map ae.aa),.str w.elem,.str w.row,.list (w.ab.map ae.aa)]]))] ?_;refine CG.rI cr a (((x,w))::[]) 2 (fun _=>rfl) rfl k_ k_ (by(try simp only[zz]at*)<;>omega) ?_;refine cG hW 3 2 [] [(2,lo cM bs),(3,.ptr 0 18 0),(4,.ptr 1 2 0),(6,.ad),(7,i0),(8,bo (List.any bs id)),(9,.sl 2 (List.length (a++[(x,w)])*6) 0 (List.length (a++[(x,w)])) 6),(55,lo Ty.aa (bR.gs c++[c.r])),(56,no (List.length ((bR.gs c++[c.r]).map Ty.aa))),(57,io (aq IntKind.i64 (aJ (Int.ofNat i) 1)))] ([some (.cells (bR.cells c)),some (.cells [so row,lo ae.aa ab]),some (ah cr (a++[(x,w)])),some (.cells x.ce),some (.cells w.ce)]) ?_;rw[aP (by omega)];rotate_left;exact⟨a++[(x,w)],⟨aI,by simp[ha]⟩,an.trim 3 [2,3,4,6,7,8,9,55,56,57] rfl rfl rfl rfl (by simp only[acu,acs,aB,aw];rfl)⟩
    |true=>
     refine cP hW 4 0 [] 1023 [(58,bo (ax (Int.ofNat i) (Int.ofNat (List.length ((bR.gs c++[c.r]).map Ty.aa)))))] (gi i (List.length ((bR.gs c++[c.r]).map Ty.aa))) ?_;refine s1 hW 5 1 [] 1023 [(59,no i)] ?_;refine CG.ix (al (aa:=Ty.aa) hx) rfl k_ ?_;refine s4 hW 12 0 [] 1023 [(10,no i),(11,.ptr 3 3 0),(13,.ptr 4 3 0),(14,bo (List.any bs id)),(71,bo (!aQ (Int.ofNat i) (Int.ofNat (c.gs.map Ty.aa).length)))] [(3,.cells x.ce),(4,.cells c.x.ce)] ?_;by_cases h6:ab.length+w.ab.length<=6
     ·have hl:=EC hW row ab w hs.ab Uq hs.row hp.VT (hp.Um w Up) (hp.Ul w Up) h6;unfold F3 at hl;rw[show eH row ab w true=some ⟨w.elem,row,ab++w.ab⟩from by simp[eH,h6]]at aI;have oQ:(aQ (Int.ofNat i) (Int.ofNat (c.gs.map Ty.aa).length))=false:=qi;refine CG.aM (b:=(!aQ (Int.ofNat i) (Int.ofNat (c.gs.map Ty.aa).length))) (by rw[oQ];rfl) k_ ?_;refine CG.c_ aV k_ ?_;refine AW.rk 3 [(72,.ptr 0 18 9),(73,lo Ty.aa c.ws),(74,no i)] [] k_ ?_;refine AW.idx (al (aa:=Ty.aa) hw) rfl k_ k_ k_ rfl ?_;refine AW.rk 3 [(76,.agg w.ce),(77,lo cM bs),(78,no i)] [] k_ ?_;refine AW.idx (al (aa:=cM) hb) rfl k_ k_ k_ rfl ?_;refine AW.rk 3 [(14,bT),(80,bT)] [(4,.cells w.ce)] k_ ?_;refine AW.nil rfl ⟨k_,AW.fin (H2:=[some (.cells (bR.cells c)),some (.cells [so row,lo ae.aa ab]),some (ah cr a),some (.cells x.ce),some (.cells w.ce)]) 5 [2,3,4,6,7,8,9,11,13,14,55,56,57] k_ rfl k_ k_ (by simp[nn,aB,aw,bj,aD,bx,av,au,bR.cells]) ?_⟩;refine bh hW 10 2 [true] 7679 [(15,i0),(83,.agg [so row,lo ae.aa ab]),(84,.agg w.ce)] (hl) ?_;refine s4 hW 8 5 [false] 7295 [(91,.sl 2 (List.length a*6) 0 a.length 6),(95,.d (.list [[.str x.elem,.str x.row,.list (x.ab.map ae.aa),.str w.elem,.str row,.list ((ab++Ty.ab w).map ae.aa)]]))] [(4,.cells [so w.elem,so row,lo ae.aa (ab++Ty.ab w)])] ?_;refine CG.rI cr a (((x,Ty.mk w.elem row (ab++Ty.ab w)))::[]) 2 (fun _=>rfl) rfl k_ k_ (by(try simp only[zz]at*)<;>omega) ?_;refine cG hW 3 2 [] [(2,lo cM bs),(3,.ptr 0 18 0),(4,.ptr 1 2 0),(6,.ad),(7,i0),(8,bo (List.any bs id)),(9,.sl 2 (List.length (a++[(x,Ty.mk w.elem row (ab++Ty.ab w))])*6) 0 (List.length (a++[(x,Ty.mk w.elem row (ab++Ty.ab w))])) 6),(55,lo Ty.aa (bR.gs c++[c.r])),(56,no (List.length ((bR.gs c++[c.r]).map Ty.aa))),(57,io (aq IntKind.i64 (aJ (Int.ofNat i) 1)))] ([some (.cells (bR.cells c)),some (.cells [so row,lo ae.aa ab]),some (ah cr (a++[(x,Ty.mk w.elem row (ab++Ty.ab w))])),some (.cells x.ce),some (.cells [so w.elem,so row,lo ae.aa (ab++Ty.ab w)])]) ?_;rw[aP (by omega)];rotate_left;exact⟨a++[(x,⟨w.elem,row,ab++w.ab⟩)],⟨aI,by simp[ha]⟩,an.trim 3 [2,3,4,6,7,8,9,55,56,57] rfl rfl rfl rfl (by simp only[acu,acs,aB,aw];rfl)⟩
     ·have hl:=Bj hW row ab w hs.ab Uq hs.row hp.VT (hp.Um w Up) (hp.Ul w Up) (by omega);unfold F3 at hl;rw[show eH row ab w true=none from by simp[eH,h6]]at aI;have oQ:(aQ (Int.ofNat i) (Int.ofNat (c.gs.map Ty.aa).length))=false:=qi;refine CG.aM (b:=(!aQ (Int.ofNat i) (Int.ofNat (c.gs.map Ty.aa).length))) (by rw[oQ];rfl) k_ ?_;refine CG.c_ aV k_ ?_;refine AW.rk 3 [(72,.ptr 0 18 9),(73,lo Ty.aa c.ws),(74,no i)] [] k_ ?_;refine AW.idx (al (aa:=Ty.aa) hw) rfl k_ k_ k_ rfl ?_;refine AW.rk 3 [(76,.agg w.ce),(77,lo cM bs),(78,no i)] [] k_ ?_;refine AW.idx (al (aa:=cM) hb) rfl k_ k_ k_ rfl ?_;refine AW.rk 3 [(14,bT),(80,bT)] [(4,.cells w.ce)] k_ ?_;refine AW.nil rfl ⟨k_,AW.fin (H2:=[some (.cells (bR.cells c)),some (.cells [so row,lo ae.aa ab]),some (ah cr a),some (.cells x.ce),some (.cells w.ce)]) 5 [2,3,4,6,7,8,9,11,13,14,55,56,57] k_ rfl k_ k_ (by simp[nn,aB,aw,bj,aD,bx,av,au,bR.cells]) ?_⟩;refine bh hW 10 2 [true] 7679 [(15,i0),(83,.agg [so row,lo ae.aa ab]),(84,.agg w.ce)] (hl) ?_;refine s4 hW 9 0 [true] 7663 [(7,io 3)] [(4,.cells [so w.elem,sE,.d (.list [])])] ?_;refine CG.fX (.tuple [.d (.list []),io 3]) ?_;rotate_left;rw[aI];rfl
  ·have hi:i=c.gs.length:=by omega
   have hw:(c.ws++[c.x])[i]? =some c.x:=by rw[hi,hlen];simp
   have hb:(bs++[bs.any id])[i]? =some (bs.any id):=by rw[hi,←Cc];simp
   have Uk:=hs.x.1;rw[drop_at hw,drop_at hb,rK]at aI;cases Ur:bs.any id with
    |false=>rw[Ur]at aI;refine cP hW 4 0 [] 1023 [(58,bo (ax (Int.ofNat i) (Int.ofNat (List.length ((bR.gs c++[c.r]).map Ty.aa)))))] (gi i (List.length ((bR.gs c++[c.r]).map Ty.aa))) ?_;refine s1 hW 5 1 [] 1023 [(59,no i)] ?_;refine CG.ix (al (aa:=Ty.aa) hx) rfl k_ ?_;refine s4 hW 12 0 [] 1023 [(10,no i),(11,.ptr 3 3 0),(13,.ptr 4 3 0),(14,bF),(71,bo (!aQ (Int.ofNat i) (Int.ofNat (c.gs.map Ty.aa).length)))] [(3,.cells x.ce),(4,.cells c.x.ce)] ?_;have me:(aQ (Int.ofNat i) (Int.ofNat (c.gs.map Ty.aa).length))=true:=wG;refine CG.aN (b:=(!aQ (Int.ofNat i) (Int.ofNat (c.gs.map Ty.aa).length))) (by rw[me];rfl) k_ ?_;refine s1 hW 9 5 [false] 14463 [(91,.sl 2 (List.length a*6) 0 a.length 6),(95,.d (.list [[.str x.elem,.str x.row,.list (x.ab.map ae.aa),.str c.x.elem,.str c.x.row,.list (c.x.ab.map ae.aa)]]))] ?_;refine CG.rI cr a (((x,c.8))::[]) 2 (fun _=>rfl) rfl k_ k_ (by(try simp only[zz]at*)<;>omega) ?_;refine cG hW 3 2 [] [(2,lo cM bs),(3,.ptr 0 18 0),(4,.ptr 1 2 0),(6,.ad),(7,i0),(8,bF),(9,.sl 2 (List.length (a++[(x,c.x)])*6) 0 (List.length (a++[(x,c.x)])) 6),(55,lo Ty.aa (bR.gs c++[c.r])),(56,no (List.length ((bR.gs c++[c.r]).map Ty.aa))),(57,io (aq IntKind.i64 (aJ (Int.ofNat i) 1)))] ([some (.cells (bR.cells c)),some (.cells [so row,lo ae.aa ab]),some (ah cr (a++[(x,c.x)])),some (.cells x.ce),some (.cells c.x.ce)]) ?_;rw[aP (by omega)];rotate_left;exact⟨a++[(x,c.x)],⟨aI,by simp[ha]⟩,an.trim 3 [2,3,4,6,7,8,9,55,56,57] rfl rfl rfl rfl (by simp only[acu,acs,aB,aw];rfl)⟩
    |true=>
     rw[Ur]at aI;by_cases h6:ab.length+c.x.ab.length<=6
     ·have hl:=EC hW row ab c.x hs.ab hs.x hs.row hp.VT hp.Uo hp.Un h6;unfold F3 at hl;rw[show eH row ab c.x true=some ⟨c.x.elem,row,ab++c.x.ab⟩from by simp[eH,h6]]at aI;refine cP hW 4 0 [] 1023 [(58,bo (ax (Int.ofNat i) (Int.ofNat (List.length ((bR.gs c++[c.r]).map Ty.aa)))))] (gi i (List.length ((bR.gs c++[c.r]).map Ty.aa))) ?_;refine s1 hW 5 1 [] 1023 [(59,no i)] ?_;refine CG.ix (al (aa:=Ty.aa) hx) rfl k_ ?_;refine s4 hW 12 0 [] 1023 [(10,no i),(11,.ptr 3 3 0),(13,.ptr 4 3 0),(14,bT),(71,bo (!aQ (Int.ofNat i) (Int.ofNat (c.gs.map Ty.aa).length)))] [(3,.cells x.ce),(4,.cells c.x.ce)] ?_;have ua:(aQ (Int.ofNat i) (Int.ofNat (c.gs.map Ty.aa).length))=true:=wG;refine CG.aN (b:=(!aQ (Int.ofNat i) (Int.ofNat (c.gs.map Ty.aa).length))) (by rw[ua];rfl) k_ ?_;refine bh hW 11 2 [true] 15231 [(15,i0),(83,.agg [so row,lo ae.aa ab]),(84,.agg c.x.ce)] (hl) ?_;refine s4 hW 8 5 [false] 7295 [(91,.sl 2 (List.length a*6) 0 a.length 6),(95,.d (.list [[.str x.elem,.str x.row,.list (x.ab.map ae.aa),.str c.x.elem,.str row,.list ((ab++Ty.ab c.x).map ae.aa)]]))] [(4,.cells [so c.x.elem,so row,lo ae.aa (ab++Ty.ab c.x)])] ?_;refine CG.rI cr a (((x,Ty.mk c.x.elem row (ab++Ty.ab c.x)))::[]) 2 (fun _=>rfl) rfl k_ k_ (by(try simp only[zz]at*)<;>omega) ?_;refine cG hW 3 2 [] [(2,lo cM bs),(3,.ptr 0 18 0),(4,.ptr 1 2 0),(6,.ad),(7,i0),(8,bT),(9,.sl 2 (List.length (a++[(x,Ty.mk c.x.elem row (ab++Ty.ab c.x))])*6) 0 (List.length (a++[(x,Ty.mk c.x.elem row (ab++Ty.ab c.x))])) 6),(55,lo Ty.aa (bR.gs c++[c.r])),(56,no (List.length ((bR.gs c++[c.r]).map Ty.aa))),(57,io (aq IntKind.i64 (aJ (Int.ofNat i) 1)))] ([some (.cells (bR.cells c)),some (.cells [so row,lo ae.aa ab]),some (ah cr (a++[(x,Ty.mk c.x.elem row (ab++Ty.ab c.x))])),some (.cells x.ce),some (.cells [so c.x.elem,so row,lo ae.aa (ab++Ty.ab c.x)])]) ?_;rw[aP (by omega)];rotate_left;exact⟨a++[(x,⟨c.x.elem,row,ab++c.x.ab⟩)],⟨aI,by simp[ha]⟩,an.trim 3 [2,3,4,6,7,8,9,55,56,57] rfl rfl rfl rfl (by simp only[acu,acs,aB,aw];rfl)⟩
     ·have hl:=Bj hW row ab c.x hs.ab hs.x hs.row hp.VT hp.Uo hp.Un (by omega);unfold F3 at hl;rw[show eH row ab c.x true=none from by simp[eH,h6]]at aI;refine cP hW 4 0 [] 1023 [(58,bo (ax (Int.ofNat i) (Int.ofNat (List.length ((bR.gs c++[c.r]).map Ty.aa)))))] (gi i (List.length ((bR.gs c++[c.r]).map Ty.aa))) ?_;refine s1 hW 5 1 [] 1023 [(59,no i)] ?_;refine CG.ix (al (aa:=Ty.aa) hx) rfl k_ ?_;refine s4 hW 12 0 [] 1023 [(10,no i),(11,.ptr 3 3 0),(13,.ptr 4 3 0),(14,bT),(71,bo (!aQ (Int.ofNat i) (Int.ofNat (c.gs.map Ty.aa).length)))] [(3,.cells x.ce),(4,.cells c.x.ce)] ?_;have ua:(aQ (Int.ofNat i) (Int.ofNat (c.gs.map Ty.aa).length))=true:=wG;refine CG.aN (b:=(!aQ (Int.ofNat i) (Int.ofNat (c.gs.map Ty.aa).length))) (by rw[ua];rfl) k_ ?_;refine bh hW 11 2 [true] 15231 [(15,i0),(83,.agg [so row,lo ae.aa ab]),(84,.agg c.x.ce)] (hl) ?_;refine s4 hW 9 0 [true] 7663 [(7,io 3)] [(4,.cells [so c.x.elem,sE,.d (.list [])])] ?_;refine CG.fX (.tuple [.d (.list []),io 3]) ?_;rotate_left;rw[aI];rfl
theorem Bk(hW:W0 W)(c:bR)(row:List UInt8)(ab:List ae)(bs:List Bool)(hs:MJ c row ab bs):PC P (gl W) 23 [.agg (bR.cells c),vS row ab,.d (.list (bs.map cM))] (p3 c row ab bs):=by
 refine CG.start XT XU rfl ?_;have Cc:=hs.bs;have hgl:=hs.sm.gl;have k1:=nI hW row ab hs.row (by have:=hs.ab.1;omega) (fun x hx=>(hs.ab.2 x hx).1);have k2:∀h,PC P (gl W) 60 [.d (.list [[.list (c.gs.map Ty.aa)],[.list ([c.r].map Ty.aa)]])] (.d (.list ((c.gs++[c.r]).map Ty.aa))):=fun h=>Lz hW c.gs [c.r] h (by simp)
 refine s4 hW 4 1 [] 4 [(3,.ptr 0 18 0),(4,.ptr 1 2 0),(6,.ad),(7,i0),(16,lo cM bs)] [(0,.cells (bR.cells c)),(1,.cells [so row,lo ae.aa ab])] ?_;refine CG.pg (IJ hW bs Cc) rfl k_ ?_;refine bh hW 4 1 [] 31 [(8,bo (List.any bs id)),(18,.agg (bR.cells c))] (Ou hW c hs.sm) ?_;refine s1 hW 0 2 [] 63 [(21,bo (!kZ c))] ?_;refine sp (kZ c) (fun pV=>?_ ) (fun pV=>?_ );rw[pV];refine bh hW 0 1 [] 127 [(22,.agg [so row,lo ae.aa ab])] (k1) ?_;refine s1 hW 0 3 [] 63 [(26,bo (!b_ row ab))] ?_;refine sp (b_ row ab) (fun oU=>?_ ) (fun oU=>?_ );rw[oU];refine s1 hW 0 8 [] 63 [(34,bo (!aQ (Int.ofNat (bs.map cM).length) (Int.ofNat (c.gs.map Ty.aa).length)))] ?_;refine pq (bs.map cM).length (c.gs.map Ty.aa).length (fun fV tI=>?_ ) (fun fV tI=>?_ )<;>simp only[zz]at tI;rw[fV];refine s1 hW 0 3 [] 127 [(37,bo (!List.any bs id))] ?_;refine sp (List.any bs id) (fun iZ=>?_ ) (fun iZ=>?_ );rw[iZ];refine s1 hW 10 6 [false] 63 [(9,.ad),(54,.d (.list [[.list (c.gs.map Ty.aa)],[.list [[.str c.r.elem,.str c.r.row,.list (c.r.ab.map ae.aa)]]]]))] ?_;rotate_left;rw[iZ];refine s1 hW 0 4 [] 255 [(41,bo (!ai row []))] ?_;refine sp (ai row []) (fun i_=>?_ ) (fun i_=>?_ );rw[i_];refine s1 hW 2 0 [] 63 [(48,bo (ax 0 (Int.ofNat (ab.map ae.aa).length)))] ?_;refine cD 0 (ab.map ae.aa).length (fun jL Et=>?_ ) (fun jL Et=>?_ )<;>simp only[zz]at Et;refine CG.aM (show(ax 0 (Int.ofNat (ab.map ae.aa).length))=true from kX) k_ ?_;refine s1 hW 3 0 [] 47 [(7,io 1)] ?_;refine CG.rt (.tuple [.d (.list []),io 1]) ?_;rotate_left;refine CG.aN (show(ax 0 (Int.ofNat (ab.map ae.aa).length))=false from kO) k_ ?_;refine s1 hW 7 6 [] 63 [(9,.ad),(54,.d (.list [[.list (c.gs.map Ty.aa)],[.list [[.str c.r.elem,.str c.r.row,.list (c.r.ab.map ae.aa)]]]]))] ?_;rotate_left;rw[i_];refine s1 hW 6 0 [true] 47 [(7,io 1)] ?_;refine CG.rt (.tuple [.d (.list []),io 1]) ?_;rotate_left;rw[fV];refine s1 hW 6 0 [true] 47 [(7,io 1)] ?_;refine CG.rt (.tuple [.d (.list []),io 1]) ?_;rotate_left;rw[oU];refine s1 hW 6 0 [true] 47 [(7,io 1)] ?_;refine CG.rt (.tuple [.d (.list []),io 1]) ?_;rotate_left;rw[pV];refine s1 hW 6 0 [true] 47 [(7,io 1)] ?_;refine CG.rt (.tuple [.d (.list []),io 1]) ?_;rotate_left
 ·have hp:VS c row ab bs:=IK (by assumption) (by assumption) (by omega);have hle:=hp.le;have Us:jP c row ab bs=false:=by have hl:bs.length=c.gs.length:=hp.Zc;simp[jP, *]
  have h3:=k2 (by omega);rw[p3,Us,aaT];refine CG.pg (h3) rfl k_ ?_;refine s1 hW 3 0 [] 383 [(56,no (List.length ((bR.gs c++[c.r]).map Ty.aa))),(57,i0)] ?_;rotate_left;refine CG.cm rfl [2,3,4,6,7,8,9,55,56,57] ?_;refine CG.is [(2,lo cM bs),(3,.ptr 0 18 0),(4,.ptr 1 2 0),(6,.ad),(7,i0),(8,bT),(9,.ad),(55,lo Ty.aa (bR.gs c++[c.r])),(56,no (List.length ((bR.gs c++[c.r]).map Ty.aa))),(57,i0)] ([some (.cells (bR.cells c)),some (.cells [so row,lo ae.aa ab])]) k_ ?_;have h4:=ED hW c row ab bs hs hp;rw[show bs.any id=true by assumption]at h4;exact h4
 ·have C0:¬ab.length=0:=by omega
  have hb:jP c row ab bs=true:=by simp[jP,nK, *]at C0⊢
  rw[p3,hb];rfl
 ·have hp:VS c row ab bs:=IK (by assumption) (by assumption) (by omega);have hle:=hp.le;have Us:jP c row ab bs=false:=by
   have hl:bs.length=c.gs.length:=hp.Zc;have C0:ab.length=0:=by omega
   simp[jP,nK, *]
  have h3:=k2 (by omega);rw[p3,Us,aaT];refine CG.pg (h3) rfl k_ ?_;refine s1 hW 3 0 [] 383 [(56,no (List.length ((bR.gs c++[c.r]).map Ty.aa))),(57,i0)] ?_;rotate_left;refine CG.cm rfl [2,3,4,6,7,8,9,55,56,57] ?_;refine CG.is [(2,lo cM bs),(3,.ptr 0 18 0),(4,.ptr 1 2 0),(6,.ad),(7,i0),(8,bF),(9,.ad),(55,lo Ty.aa (bR.gs c++[c.r])),(56,no (List.length ((bR.gs c++[c.r]).map Ty.aa))),(57,i0)] ([some (.cells (bR.cells c)),some (.cells [so row,lo ae.aa ab])]) k_ ?_;have h4:=ED hW c row ab bs hs hp;rw[show bs.any id=false by assumption]at h4;exact h4
 all_goals
  have hb:jP c row ab bs=true:=by
   first
    |(simp[jP,nK, *];done)
    |(
     have C0:¬ab.length=0:=by omega
     simp[jP,nK, *];done)
    |(
     have C0:¬bs.length=c.gs.length:=by omega
     simp[jP,nK, *];done)
  rw[p3,hb];rfl
end Fw.Tz.Pd
