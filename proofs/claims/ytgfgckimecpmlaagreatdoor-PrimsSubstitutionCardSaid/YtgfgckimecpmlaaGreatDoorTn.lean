/-
  Variables of shapes and types, by the reference.
-/
import Derived.Test.YtgfgckimecpmlaaGreatDoorTl
import Derived.Test.YtgfgckimecpmlaaGreatDoorFh
import Derived.Test.YtgfgckimecpmlaaGreatDoorTm
set_option linter.unusedSimpArgs false
set_option maxRecDepth 1000000
set_option maxHeartbeats 4000000
set_option linter.unusedVariables false
namespace Fw.Tz.Yr
open Go Go.Proofs Fw.X Fw.Tz Fw.Nu Fw.Tz.Sd Fw.Tz.Na Fw.Tz.El Fw.Tz.Va Fw.Tz.Vb Fw.Tz.Vw Fw.Tz.Eq Fw.Tz.Ew Fw.Tz.Pa Fw.Tz.Pc Fw.Tz.Su Fw.Tz.Yd Fw.Tz.Ya Fw.Tz.Yc Fw.Tz.Yb Fw.Tz.Ye
variable {W:World}
def Pq(k:Int)(s:List UInt8):Bd:=⟨k,s,xO,[],[],[]⟩
def fh(l:List Bd)(k:Int)(s:List UInt8):List Bd:=if(cz l k s).isSome=true then l else l++[Pq k s]
theorem mY(l:List Bd)(k:Int)(s:List UInt8):(fh l k s).length≤l.length+1:=by unfold fh;split<;>simp
theorem Ie(hW:W0 W)(l:List Bd)(k:Int)(s:List UInt8)(hl:l.length<100000):WF P (gl W) 76 [.sl 0 (l.length*7) 0 l.length 7,io k,so s] [some (aJ Bd.aa l)] (iK (iU (cz l k s)) [some (aJ Bd.aa l)]):=by
 have hF:=pJ hW l k s (by omega);refine WF.borrow (q0:=[.d (.list (l.map Bd.aa)),io k,so s]) ?_ hF (by unfold iU;cases cz l k s<;>rfl) ⟨rfl,rfl⟩;have hd:mi [some (aJ Bd.aa l)] (.sl 0 (l.length*7) 0 l.length 7)=some (.d (.list (l.map Bd.aa))):=by
  have hC:fi [some (aJ Bd.aa l)] kx (.sl 0 (l.length*7) 0 l.length 7)=some (.list (l.map Bd.aa)):=by have:=vE (aa:=Bd.aa) (sz:=7) (H:=[some (aJ Bd.aa l)]) (b:=0) (f:=kx - 1) (p:=l.length) (fun _=>rfl) (by decide) (l:=l) rfl (aao _);rw[abH]at this;exact this
  unfold mi;simp only[hC]
 simp only[bJ,hd];rfl
theorem Dg(hW:W0 W)(l:List Bd)(k:Int)(s:List UInt8)(hl:l.length<100000):WF P (gl W) 154 [.sl 0 (l.length*7) 0 l.length 7,io k,so s] [some (aJ Bd.aa l)] (iK (.sl 0 ((fh l k s).length*7) 0 (fh l k s).length 7) [some (aJ Bd.aa (fh l k s))]):=by
 have hF:=Ie hW l k s hl;refine WF.fw (CG.gp RT RU rfl ?_ );unfold fh;cases h:cz l k s with
  |some j=>rw[h]at hF;unfold iU at hF;dsimp only at hF;simp only[Option.isSome_some,aa4];refine s1 hW 5 3 [] 7 [(6,.ab),(7,.sl 0 (List.length l*7) 0 l.length 7),(8,io k),(9,so s)] ?_;refine CG.wf hF rfl rfl k_ rfl ?_;refine s1 hW 6 0 [true] 7 [(6,.sl 0 (List.length l*7) 0 l.length 7)] ?_;refine CG.uB (.sl 0 (List.length l*7) 0 l.length 7) ?_;rotate_left;exact⟨_,ar.refl _ _,rfl,rfl⟩
  |none=>rw[h]at hF;unfold iU at hF;dsimp only at hF;simp only[Option.isSome_none,aa8,abt];refine s1 hW 5 3 [] 7 [(6,.ab),(7,.sl 0 (List.length l*7) 0 l.length 7),(8,io k),(9,so s)] ?_;refine CG.wf hF rfl rfl k_ rfl ?_;refine s1 hW 6 5 [false] 9 [(13,.sl 0 (List.length l*7) 0 l.length 7),(17,.d (.list [[.int .i64 k,.str s,.int .i64 0,.list [],.str [],.list [],.str []]]))] ?_;rotate_left;refine CG.Qq (sz:=7) (b:=0) Bd.aa l [Pq k s] (fun _=>rfl) rfl rfl k_ k_ k_ k_ (by simp;omega) rfl rfl ?_;refine s1 hW 2 0 [] 1 [(6,.sl 0 (List.length (l++[Pq k s])*7) 0 (l++[Pq k s]).length 7)] ?_;refine CG.uB (.sl 0 (List.length (l++[Pq k s])*7) 0 (l++[Pq k s]).length 7) ?_;rotate_left;all_goals exact⟨_,ar.refl _ _,rfl,rfl⟩
theorem If(S:List Nat):∀l:List D,eX S (l.map V.d)=l.map V.d|[]=>rfl|a::l=>by simp only[aax,eX,dt,If S l]
theorem ug{α:Type}(S:List Nat)(aa:α→List D)(l:List α):cy S (aJ aa l)=aJ aa l:=by
 unfold aJ fT;cases h:l.flatMap aa with
  |nil=>rfl
  |cons d ds=>simp only[aax,abN,aaw,cy];rw[←aax,If]
theorem Au(hW:W0 W)(x0 x1:dU)(l:List Bd)(k:Int)(s:List UInt8)(hl:l.length<100000):WF P (gl W) 154 [.sl 2 (l.length*7) 0 l.length 7,io k,so s] [some x0,some x1,some (aJ Bd.aa l)] (iK (.sl 2 ((fh l k s).length*7) 0 (fh l k s).length 7) [some x0,some x1,some (aJ Bd.aa (fh l k s))]):=by
 have h:=Dg hW l k s hl;have Ci:∀l:List Bd,cy [2] (aJ Bd.aa l)=aJ Bd.aa l:=fun l=>ug _ _ _
 refine WF.frame [2] h (by decide) rfl rfl (by simp[aG,aW]) (H:=[some x0,some x1,some (aJ Bd.aa l)]) ?_ ?_
 ·intro i hi;have:i=0:=by simp at hi;omega
  subst this;exact⟨_,rfl,by rw[Ci];rfl⟩
 ·rintro v H' ⟨rfl,rfl⟩;refine⟨rfl,rfl,by simp[aG,aW],rfl,?_ ⟩;simp only[d_,aA,Ci];rfl
def mZ(l:List Bd)(ts:List Cf):List Bd:=ts.foldl (fun l t=>fh l 1 t.var) l
def cR(l:List Bd)(ds:List aj):List Bd:=ds.foldl (fun l x=>mZ l x.ts) l
theorem EH(ts:List Cf):∀l:List Bd,(mZ l ts).length≤l.length+ts.length:=by
 induction ts with
  |nil=>intro l;simp[mZ]
  |cons t ts ih=>intro l;have:=ih (fh l 1 t.var);have h2:=mY l 1 t.var;simp only[mZ,abm,aav]at this⊢;omega
theorem Ig(hW:W0 W)(x0:dU)(Tv:cu 3 x0=true)(ae:List aj)(hd:ae.length<1048576)(hx:∀x∈ae,aj.sm x)(hv:cV [] ae=true):WF P (gl W) 181 [vS [] ae] [some x0] (iK (.sl 2 ((cR [] ae).length*7) 0 (cR [] ae).length 7) [some x0,some (.cells [sE,lo aj.aa ae]),some (aJ Bd.aa (cR [] ae))]):=by
 refine WF.fw (CG.gp R6 R7 rfl ?_ );have hV:=xL hW [] ae (by omega) hx;rw[hv]at hV;have h6:ae.length≤6∧ae.all aj.ok=true:=by simp only[cV,aac,aam]at hv;exact⟨hv.1.2,hv.2⟩
 refine s4 hW 5 1 [] 1 [(1,.ptr 1 2 0),(2,.ab),(6,.agg [sE,lo aj.aa ae])] [(1,.cells [sE,lo aj.aa ae])] ?_;refine CG.pg (hV) rfl k_ ?_;refine s1 hW 20 0 [false,false] 7 [(3,.ab),(4,i0)] ?_;rotate_left;refine CG.tidy (ar.uN 3 7 (aY:=[(0,.agg [sE,lo aj.aa ae]),(1,.ptr 1 2 0),(2,.ab),(3,.sl 2 0 0 0 7),(4,i0)]) (aao _) k_ k_) ?_;refine CG.CN ([some x0,some (.cells [sE,lo aj.aa ae]),some .nil]) k_ ?_;refine CG.is [(0,.agg [sE,lo aj.aa ae]),(1,.ptr 1 2 0),(2,.ab),(3,.sl 2 (List.length ([]:List Bd)*7) 0 ([]:List Bd).length 7),(4,i0)] ([some x0,some (.cells [sE,lo aj.aa ae]),some (aJ Bd.aa ([]:List Bd))]) k_ ?_;refine CG.tidy (ar.j8 (aY:=[(1,.ptr 1 2 0),(3,.sl 2 (([]:List Bd).length*7) 0 ([]:List Bd).length 7),(4,i0)]) (H':=[some x0,some (.cells [sE,lo aj.aa ae]),some (aJ Bd.aa ([]:List Bd))]) 3 [1,3,4] rfl k_ rfl (by simp[aG,aR,aW,ak,an,Tv])) ?_;refine CG.bV ae (fun i l=>[(1,.ptr 1 2 0),(3,.sl 2 (l.length*7) 0 l.length 7),(4,.d (.int .i64 (.ofNat i)))]) (fun i l=>[some x0,some (.cells [sE,lo aj.aa ae]),some (aJ Bd.aa l)]) (fun i l r=>(cR [] ae=cR l r∧l.length≤12*i)) ([]:List Bd) ?_ (ar.refl _ _) ?_ ?_
 ·exact⟨rfl,by simp⟩
 ·rintro i l hi dn ⟨h1,h2⟩;have h1:cR [] ae=l:=h1;rw[h1];refine s1 hW 4 0 [] 7 [(20,bo (aS (Int.ofNat i) (Int.ofNat (ae.map aj.aa).length)))] ?_;refine CG.aF (fP i (ae.map aj.aa).length) k_ ?_;refine CG.bl (by decide) ?_;refine s1 hW 5 0 [] 0 [(2,.sl 2 (List.length l*7) 0 l.length 7)] ?_;refine CG.uB (.sl 2 (List.length l*7) 0 l.length 7) ?_;rotate_left;exact⟨_,ar.refl _ _,rfl,rfl⟩
 ·rintro i l x r dn ku bL ⟨h1,h2⟩;have eF:=aaq.1 h6.2 x (aap ku);have WX:=(e9 (c:=x.c) (ts:=x.ts) eF).2.1;refine s1 hW 4 0 [] 7 [(20,bo (aS (Int.ofNat i) (Int.ofNat (ae.map aj.aa).length)))] ?_;refine CG.aB (eH i (ae.map aj.aa).length) k_ ?_;refine s1 hW 8 0 [] 7 [(5,i0)] ?_;rotate_left;refine CG.tidy (ar.j8 (aY:=[(1,.ptr 1 2 0),(3,.sl 2 (l.length*7) 0 l.length 7),(4,.d (.int .i64 (.ofNat i))),(5,i0)]) (H':=[some x0,some (.cells [sE,lo aj.aa ae]),some (aJ Bd.aa l)]) 3 [1,3,4,5] rfl k_ rfl (by simp[aG,aR,aW,ak,an,Tv])) ?_;refine CG.bV x.ts (fun j m=>[(1,.ptr 1 2 0),(3,.sl 2 (m.length*7) 0 m.length 7),(4,no i),(5,.d (.int .i64 (.ofNat j)))]) (fun j m=>[some x0,some (.cells [sE,lo aj.aa ae]),some (aJ Bd.aa m)]) (fun j m r2=>(mZ l x.ts=mZ m r2∧m.length≤l.length+j)) l ?_ (ar.refl _ _) ?_ ?_
  ·exact⟨rfl,by omega⟩
  ·rintro j m hj Ih ⟨j1,j2⟩;have j1:mZ l x.ts=m:=j1;refine s1 hW 2 4 [] 15 [(23,no j),(25,lo aj.aa ae),(26,no i)] ?_;refine CG.ix (ay (aa:=aj.aa) ku) rfl k_ ?_;refine s1 hW 2 0 [] 15 [(31,bo (aS (Int.ofNat j) (Int.ofNat (x.ts.map Cf.aa).length)))] ?_;refine CG.aF (fP j (x.ts.map Cf.aa).length) k_ ?_;refine CG.bl (by decide) ?_;refine s3 hW 3 3 [] [(1,.ptr 1 2 0),(3,.sl 2 (List.length m*7) 0 m.length 7),(4,io (aN IntKind.i64 (bp (Int.ofNat i) 1)))] ([some x0,some (.cells [sE,lo aj.aa ae]),some (aJ Bd.aa m)]) ?_;refine CG.bU rfl ?_;rw[a7 (by omega)];rotate_left;exact⟨m,⟨by rw[h1,←j1];rfl,by omega⟩,ar.refl _ _⟩
  ·rintro j m t r2 Ih K0 XB ⟨j1,j2⟩;have hA:=Au hW x0 (.cells [sE,lo aj.aa ae]) m 1 t.var (by omega);have Y5:=mY m 1 t.var;refine s1 hW 2 4 [] 15 [(23,no j),(25,lo aj.aa ae),(26,no i)] ?_;refine CG.ix (ay (aa:=aj.aa) ku) rfl k_ ?_;refine s1 hW 2 0 [] 15 [(31,bo (aS (Int.ofNat j) (Int.ofNat (x.ts.map Cf.aa).length)))] ?_;refine CG.aB (eH j (x.ts.map Cf.aa).length) k_ ?_;refine s1 hW 4 4 [] 15 [(34,.sl 2 (List.length m*7) 0 m.length 7),(36,lo aj.aa ae),(37,no i)] ?_;refine CG.ix (ay (aa:=aj.aa) ku) rfl k_ ?_;refine s1 hW 0 3 [] 31 [(40,lo Cf.aa x.ts),(41,no j)] ?_;refine CG.ix (ay (aa:=Cf.aa) K0) rfl k_ ?_;refine s1 hW 0 2 [] 31 [(44,so t.var)] ?_;refine CG.wf hA rfl rfl k_ rfl ?_;refine s3 hW 3 3 [] [(1,.ptr 1 2 0),(3,.sl 2 (List.length (fh m 1 t.var)*7) 0 (fh m 1 t.var).length 7),(4,no i),(5,io (aN IntKind.i64 (bp (Int.ofNat j) 1)))] ([some x0,some (.cells [sE,lo aj.aa ae]),some (aJ Bd.aa (fh m 1 t.var))]) ?_;refine CG.bU rfl ?_;rw[a7 (by omega)];rotate_left;exact⟨fh m 1 t.var,⟨j1,by omega⟩,ar.refl _ _⟩
end Fw.Tz.Yr
/-
  Variables of types, valid schemes, by the reference.
-/
namespace Fw.Tz.Ys
open Go Go.Proofs Fw.X Fw.Tz Fw.Nu Fw.Tz.Sd Fw.Tz.Na Fw.Tz.El Fw.Tz.Va Fw.Tz.Vb Fw.Tz.Vw Fw.Tz.Eq Fw.Tz.Ew Fw.Tz.Pa Fw.Tz.Pc Fw.Tz.Su Fw.Tz.Yd Fw.Tz.Ya Fw.Tz.Yc Fw.Tz.Yb Fw.Tz.Ye Fw.Tz.Yr
variable {W:World}
def gA(t:Ty):List Bd:=if cJ t.elem=true then fh (cR [] t.ae) 3 t.elem else cR [] t.ae
theorem wj{ds:List aj}(h:∀x∈ds,x.ts.length≤12):∀l:List Bd,(cR l ds).length≤l.length+12*ds.length:=by
 induction ds with
  |nil=>intro l;simp[cR]
  |cons d ds ih=>intro l;have:=ih (fun x hx=>h x (by simp[hx])) (mZ l d.ts);have h2:=EH d.ts l;have h3:=h d (by simp);simp only[cR,abm,aav]at this⊢;omega
theorem Av(hW:W0 W)(t:Ty)(ht:Ap t)(hr:t.row=[])(hv:yn t=true):PC P (gl W) 124 [vT t] (.d (.list ((gA t).map Bd.aa))):=by
 refine CG.start Rt Ru rfl ?_;obtain⟨k1,k2,k3⟩:=ht;obtain⟨te,tr,td⟩:=t;dsimp only at hr k1 k2 k3;subst hr;have hV:=Fw.Tz.Vb.tY hW te [] td k1 (by omega) k3;rw[hv]at hV;have C':cV [] td=true:=by simp only[yn,aac]at hv;exact hv.2
 have h6:td.length≤6∧td.all aj.ok=true:=by simp only[cV,aac,aam]at C';exact⟨C'.1.2,C'.2⟩
 have hl:(cR [] td).length≤72:=by have:=wj (ds:=td) (fun x hx=>(e9 (c:=x.c) (ts:=x.ts) (aaq.1 h6.2 x hx)).2.1) [];simp at this;omega
 have hS:=Ig hW (.cells [so te,sE,lo aj.aa td]) (by simp[aR,ak,an]) td k2 k3 C';have hE:=gy hW te k1;unfold gA;dsimp only;cases he:cJ te with
  |true=>rw[he]at hE;rw[aan rfl];have hA:=Au hW (.cells [so te,sE,lo aj.aa td]) (.cells [sE,lo aj.aa td]) (cR [] td) 3 te (by omega);refine s4 hW 5 1 [] 0 [(1,.ptr 0 3 0),(2,.ab),(4,.agg [so (Ty.elem {elem:=te,row:=[],ae:=td}),sE,lo aj.aa (Ty.ae {elem:=te,row:=[],ae:=td})])] [(0,.cells [so (Ty.elem {elem:=te,row:=[],ae:=td}),sE,lo aj.aa (Ty.ae {elem:=te,row:=[],ae:=td})])] ?_;refine CG.pg (hV) rfl k_ ?_;refine s1 hW 6 2 [false] 3 [(8,.agg [sE,lo aj.aa (Ty.ae {elem:=te,row:=[],ae:=td})])] ?_;refine CG.wf hS rfl rfl k_ rfl ?_;refine s1 hW 4 2 [] 3 [(3,.sl 2 (List.length (cR [] td)*7) 0 (cR [] td).length 7),(11,so te)] ?_;refine CG.pg (hE) rfl k_ ?_;refine s1 hW 3 3 [true] 6 [(13,.sl 2 (List.length (cR [] td)*7) 0 (cR [] td).length 7),(15,so te)] ?_;refine CG.wf hA rfl rfl k_ rfl ?_;refine s1 hW 5 0 [] 0 [(2,.sl 2 (List.length (fh (cR [] td) 3 te)*7) 0 (List.length (fh (cR [] td) 3 te)) 7)] ?_;rotate_left;refine CG.tidy (ar.tv (sz:=7) Bd.aa (fh (cR [] td) 3 te) 2 2 (aY:=[(2,.d (.list (List.map Bd.aa (fh (cR [] td) 3 te))))]) (H':=[some (.cells [so te,sE,lo aj.aa td]),some (.cells [sE,lo aj.aa td]),none]) (fun _=>rfl) k_ k_ ⟨.inr rfl,⟨.inr rfl,⟨.inl rfl,trivial⟩⟩⟩ k_ k_) ?_;refine CG.rt (lo Bd.aa (fh (cR [] td) 3 te)) ?_;with_reducible rfl
  |false=>rw[he]at hE;rw[aal (by simp)];refine s4 hW 5 1 [] 0 [(1,.ptr 0 3 0),(2,.ab),(4,.agg [so (Ty.elem {elem:=te,row:=[],ae:=td}),sE,lo aj.aa (Ty.ae {elem:=te,row:=[],ae:=td})])] [(0,.cells [so (Ty.elem {elem:=te,row:=[],ae:=td}),sE,lo aj.aa (Ty.ae {elem:=te,row:=[],ae:=td})])] ?_;refine CG.pg (hV) rfl k_ ?_;refine s1 hW 6 2 [false] 3 [(8,.agg [sE,lo aj.aa (Ty.ae {elem:=te,row:=[],ae:=td})])] ?_;refine CG.wf hS rfl rfl k_ rfl ?_;refine s1 hW 4 2 [] 3 [(3,.sl 2 (List.length (cR [] td)*7) 0 (cR [] td).length 7),(11,so te)] ?_;refine CG.pg (hE) rfl k_ ?_;refine s1 hW 8 0 [false] 0 [(2,.sl 2 (List.length (cR [] td)*7) 0 (cR [] td).length 7)] ?_;rotate_left;refine CG.tidy (ar.tv (sz:=7) Bd.aa (cR [] td) 2 2 (aY:=[(2,.d (.list ((cR [] td).map Bd.aa)))]) (H':=[some (.cells [so te,sE,lo aj.aa td]),some (.cells [sE,lo aj.aa td]),none]) (fun _=>rfl) k_ k_ ⟨.inr rfl,⟨.inr rfl,⟨.inl rfl,trivial⟩⟩⟩ k_ k_) ?_;refine CG.rt (lo Bd.aa (cR [] td)) ?_;with_reducible rfl
theorem uh(hW:W0 W)(s:bz)(hs:rz s)(hv:pH s=true):PC P (gl W) 108 [qR s] (.d (.bool true)):=by
 refine CG.start Rh Ri rfl ?_;obtain⟨k1,k2,k3,k4,k5⟩:=hs;have hA:=x7 hW s (by omega);simp only[pH,aac,aam]at hv;obtain⟨⟨⟨⟨v1,v2⟩,v3⟩,v4⟩,v5⟩:=hv;have hm:∀t∈s.ps++[s.r],Ap t∧yn t=true:=fun t ht=>by
  rcases aaV.1 ht with h|h
  ·exact⟨k3 t h,aaq.1 v3 t h⟩
  ·rw[ace.1 h];exact⟨k4,v4⟩
 have hlen:(s.ps++[s.r]).length<1048576:=by simp;omega
 refine s4 hW 4 1 [] 0 [(1,.ptr 0 5 0),(2,bF),(6,.agg s.ce)] [(0,.cells s.ce)] ?_;refine CG.pg (hA) rfl k_ ?_;refine s1 hW 7 0 [] 3 [(3,lo Ty.aa (bz.ps s++[s.r])),(4,i0)] ?_;rotate_left;refine CG.bV (s.ps++[s.r]) (fun i u=>[(1,.ptr 0 5 0),(2,bF),(3,lo Ty.aa (bz.ps s++[s.r])),(4,.d (.int .i64 (.ofNat i)))]) (fun i u=>[some (.cells s.ce)]) (fun i u r=>(True)) () ?_ (ar.refl _ _) ?_ ?_
 ·trivial
 ·intro i u hi dn aD;refine s1 hW 4 0 [] 15 [(11,bo (aS (Int.ofNat i) (Int.ofNat (List.length ((bz.ps s++[s.r]).map Ty.aa)))))] ?_;refine CG.aF (fP i (List.length ((bz.ps s++[s.r]).map Ty.aa))) k_ ?_;refine CG.bl (by decide) ?_;refine s1 hW 7 0 [] 3 [(5,i0)] ?_;rotate_left;refine CG.bV s.wh (fun j u=>[(1,.ptr 0 5 0),(2,bF),(5,.d (.int .i64 (.ofNat j)))]) (fun j u=>[some (.cells s.ce)]) (fun j u r=>(True)) () ?_ (ar.refl _ _) ?_ ?_
  ·trivial
  ·intro j u hj dn aD;refine s1 hW 4 0 [] 7 [(24,bo (aS (Int.ofNat j) (Int.ofNat (s.wh.map aj.aa).length)))] ?_;refine CG.aF (fP j (s.wh.map aj.aa).length) k_ ?_;refine CG.bl (by decide) ?_;refine s1 hW 3 5 [] 3 [(38,bo (!aS 12 (Int.ofNat (s.ps.map Ty.aa).length)))] ?_;have H7:(aS 12 (Int.ofNat (s.ps.map Ty.aa).length))=false:=nU;rw[H7];refine s1 hW 2 0 [] 0 [(2,bo (!aS 60 (Int.ofNat (s.wh.map aj.aa).length)))] ?_;refine CG.rt (bo (!aS 60 (Int.ofNat (s.wh.map aj.aa).length))) ?_;rotate_left;all_goals (rw[M' (show(Int.ofNat (s.wh.map aj.aa).length)≤60 from by rw[aar];simp only[abp];omega)];rfl)
  ·intro j u x r dn hx bL aD;have Y6:=aap hx;have hE:=dx hW x.c x.ts (k5 x Y6).1;rw[show bc x.c x.ts=true from aaq.1 v5 x Y6]at hE;refine s1 hW 4 0 [] 7 [(24,bo (aS (Int.ofNat j) (Int.ofNat (s.wh.map aj.aa).length)))] ?_;refine CG.aB (eH j (s.wh.map aj.aa).length) k_ ?_;refine s1 hW 5 3 [] 7 [(28,lo aj.aa s.wh),(29,no j)] ?_;refine CG.ix (ay (aa:=aj.aa) hx) rfl k_ ?_;refine s1 hW 0 1 [] 7 [(31,.agg x.ce)] ?_;refine CG.pg (hE) rfl k_ ?_;refine s3 hW 6 3 [false] [(1,.ptr 0 5 0),(2,bF),(5,io (aN IntKind.i64 (bp (Int.ofNat j) 1)))] ([some (.cells s.ce)]) ?_;refine CG.bU rfl ?_;rw[a7 (by omega)];rotate_left;exact⟨(),trivial,ar.eqs k_⟩
 ·intro i u t r dn hx bL aD;obtain⟨m1,m2⟩:=hm t (aap hx);have hT:=Fw.Tz.Vb.tY hW t.elem t.row t.ae m1.1 (by have:=m1.2.1;omega) m1.2.2;rw[show yn ⟨t.elem,t.row,t.ae⟩=true from m2]at hT;refine s1 hW 4 0 [] 15 [(11,bo (aS (Int.ofNat i) (Int.ofNat (List.length ((bz.ps s++[s.r]).map Ty.aa)))))] ?_;refine CG.aB (eH i (List.length ((bz.ps s++[s.r]).map Ty.aa))) k_ ?_;refine s1 hW 5 2 [] 15 [(14,lo Ty.aa (bz.ps s++[s.r])),(15,no i)] ?_;refine CG.ix (ay (aa:=Ty.aa) hx) rfl k_ ?_;refine s1 hW 0 1 [] 15 [(17,.agg t.ce)] ?_;refine CG.pg (hT) rfl k_ ?_;refine s3 hW 6 3 [false] [(1,.ptr 0 5 0),(2,bF),(3,lo Ty.aa (bz.ps s++[s.r])),(4,io (aN IntKind.i64 (bp (Int.ofNat i) 1)))] ([some (.cells s.ce)]) ?_;refine CG.bU rfl ?_;rw[a7 (by omega)];rotate_left;exact⟨(),trivial,ar.eqs k_⟩
end Fw.Tz.Ys
/-
  Variables of schemes, by the reference.
-/
namespace Fw.Tz.Yu
open Go Go.Proofs Fw.X Fw.Tz Fw.Nu Fw.Tz.Sd Fw.Tz.Na Fw.Tz.El Fw.Tz.Va Fw.Tz.Vb Fw.Tz.Vw Fw.Tz.Eq Fw.Tz.Ew Fw.Tz.Pa Fw.Tz.Pc Fw.Tz.Su Fw.Tz.Yd Fw.Tz.Ya Fw.Tz.Yc Fw.Tz.Yb Fw.Tz.Ye Fw.Tz.Yj Fw.Tz.Yk Fw.Tz.Yr Fw.Tz.Ys
variable {W:World}
theorem Aw(hW:W0 W)(x0:dU)(l:List Bd)(k:Int)(s:List UInt8)(hl:l.length<100000):WF P (gl W) 154 [.sl 1 (l.length*7) 0 l.length 7,io k,so s] [some x0,some (aJ Bd.aa l)] (iK (.sl 1 ((fh l k s).length*7) 0 (fh l k s).length 7) [some x0,some (aJ Bd.aa (fh l k s))]):=by
 have h:=Dg hW l k s hl;have Ci:∀l:List Bd,cy [1] (aJ Bd.aa l)=aJ Bd.aa l:=fun l=>ug _ _ _
 refine WF.frame [1] h (by decide) rfl rfl (by simp[aG,aW]) (H:=[some x0,some (aJ Bd.aa l)]) ?_ ?_
 ·intro i hi;have:i=0:=by simp at hi;omega
  subst this;exact⟨_,rfl,by rw[Ci];rfl⟩
 ·rintro v H' ⟨rfl,rfl⟩;refine⟨rfl,rfl,by simp[aG,aW],rfl,?_ ⟩;simp only[d_,aA,Ci];rfl
def K3(l vs:List Bd):List Bd:=vs.foldl (fun l b=>fh l b.kind b.var) l
def x9(l:List Bd)(ts:List Ty):List Bd:=ts.foldl (fun l t=>K3 l (gA t)) l
def j9(s:bz):List Bd:=cR (x9 [] (s.ps++[s.r])) s.wh
theorem EI{t:Ty}(h:yn t=true):(gA t).length≤73:=by
 have C':cV t.row t.ae=true:=by simp only[yn,aac]at h;exact h.2
 have h6:t.ae.length≤6∧t.ae.all aj.ok=true:=by simp only[cV,aac,aam]at C';exact⟨C'.1.2,C'.2⟩
 have:=wj (ds:=t.ae) (fun x hx=>(e9 (c:=x.c) (ts:=x.ts) (aaq.1 h6.2 x hx)).2.1) [];have h2:=mY (cR [] t.ae) 3 t.elem;simp at this;unfold gA;split<;>omega
theorem Ii(hW:W0 W)(s:bz)(hs:rz s)(hn:EF s)(hv:pH s=true):PC P (gl W) 98 [qR s] (.d (.list ((j9 s).map Bd.aa))):=by
 refine CG.start WA WB rfl ?_;have Xy:=uh hW s hs hv;obtain⟨k1,k2,k3,k4,k5⟩:=hs;obtain⟨n1,n2⟩:=hn;have hA:=x7 hW s (by omega);simp only[pH,aac,aam]at hv;obtain⟨⟨⟨⟨v1,v2⟩,v3⟩,v4⟩,v5⟩:=hv;have hm:∀t∈s.ps++[s.r],Ap t∧t.row=[]∧yn t=true:=fun t ht=>by
  rcases aaV.1 ht with h|h
  ·exact⟨k3 t h,n1 t h,aaq.1 v3 t h⟩
  ·rw[ace.1 h];exact⟨k4,n2,v4⟩
 have hlen:(s.ps++[s.r]).length≤13:=by simp;omega
 refine s4 hW 5 1 [] 0 [(1,.ptr 0 5 0),(2,.ab),(10,.agg s.ce)] [(0,.cells s.ce)] ?_;refine CG.pg (Xy) rfl k_ ?_;refine s1 hW 9 1 [false] 3 [(3,.ab),(13,.agg s.ce)] ?_;refine CG.pg (hA) rfl k_ ?_;refine s1 hW 7 0 [] 7 [(4,lo Ty.aa (bz.ps s++[s.r])),(5,i0)] ?_;rotate_left;refine CG.tidy (ar.uN 3 7 (aY:=[(1,.ptr 0 5 0),(2,.ab),(3,.sl 1 0 0 0 7),(4,lo Ty.aa (bz.ps s++[s.r])),(5,i0)]) (aao _) k_ k_) ?_;refine CG.CN ([some (.cells s.ce),some .nil]) k_ ?_;refine CG.is [(1,.ptr 0 5 0),(2,.ab),(3,.sl 1 (List.length ([]:List Bd)*7) 0 ([]:List Bd).length 7),(4,lo Ty.aa (bz.ps s++[s.r])),(5,i0)] ([some (.cells s.ce),some (aJ Bd.aa ([]:List Bd))]) k_ ?_;refine CG.tidy (ar.j8 (aY:=[(1,.ptr 0 5 0),(3,.sl 1 (([]:List Bd).length*7) 0 ([]:List Bd).length 7),(4,lo Ty.aa (s.ps++[s.r])),(5,i0)]) (H':=[some (.cells s.ce),some (aJ Bd.aa ([]:List Bd))]) 2 [1,3,4,5] rfl k_ rfl (by simp[aG,aR,aW,ak,an])) ?_;refine CG.bV (s.ps++[s.r]) (fun i l=>[(1,.ptr 0 5 0),(3,.sl 1 (l.length*7) 0 l.length 7),(4,lo Ty.aa (bz.ps s++[s.r])),(5,.d (.int .i64 (.ofNat i)))]) (fun i l=>[some (.cells s.ce),some (aJ Bd.aa l)]) (fun i l r=>(x9 [] (s.ps++[s.r])=x9 l r∧l.length≤73*i)) ([]:List Bd) ?_ (ar.refl _ _) ?_ ?_
 ·exact⟨rfl,by simp⟩
 ·rintro i l hi dn ⟨h1,h2⟩;have h1:x9 [] (s.ps++[s.r])=l:=h1;unfold j9;rw[h1];refine s1 hW 4 0 [] 15 [(18,bo (aS (Int.ofNat i) (Int.ofNat (List.length ((bz.ps s++[s.r]).map Ty.aa)))))] ?_;refine CG.aF (fP i (List.length ((bz.ps s++[s.r]).map Ty.aa))) k_ ?_;refine CG.bl (by decide) ?_;refine s1 hW 7 0 [] 3 [(8,i0)] ?_;rotate_left;refine CG.tidy (ar.j8 (aY:=[(1,.ptr 0 5 0),(3,.sl 1 (l.length*7) 0 l.length 7),(8,i0)]) (H':=[some (.cells s.ce),some (aJ Bd.aa l)]) 2 [1,3,8] rfl k_ rfl (by simp[aG,aR,aW,ak,an])) ?_;refine CG.bV s.wh (fun i2 m=>[(1,.ptr 0 5 0),(3,.sl 1 (m.length*7) 0 m.length 7),(8,.d (.int .i64 (.ofNat i2)))]) (fun i2 m=>[some (.cells s.ce),some (aJ Bd.aa m)]) (fun i2 m r=>(cR l s.wh=cR m r∧m.length≤l.length+12*i2)) l ?_ (ar.refl _ _) ?_ ?_
  ·exact⟨rfl,by omega⟩
  ·rintro i2 m lj Ih ⟨g1,g2⟩;have g1:cR l s.wh=m:=g1;rw[g1];refine s1 hW 4 0 [] 7 [(48,bo (aS (Int.ofNat i2) (Int.ofNat (s.wh.map aj.aa).length)))] ?_;refine CG.aF (fP i2 (s.wh.map aj.aa).length) k_ ?_;refine CG.bl (by decide) ?_;refine s1 hW 5 0 [] 0 [(2,.sl 1 (List.length m*7) 0 m.length 7)] ?_;rotate_left;refine CG.tidy (ar.tv (sz:=7) Bd.aa m 1 2 (aY:=[(2,.d (.list (m.map Bd.aa)))]) (H':=[some (.cells s.ce),none]) (fun _=>rfl) k_ k_ ⟨.inr rfl,⟨.inl rfl,trivial⟩⟩ k_ k_) ?_;refine CG.rt (lo Bd.aa m) ?_;with_reducible rfl
  ·rintro i2 m x r Ih ku bL ⟨g1,g2⟩;have eF:=aaq.1 v5 x (aap ku);have WX:=(e9 (c:=x.c) (ts:=x.ts) eF).2.1;refine s1 hW 4 0 [] 7 [(48,bo (aS (Int.ofNat i2) (Int.ofNat (s.wh.map aj.aa).length)))] ?_;refine CG.aB (eH i2 (s.wh.map aj.aa).length) k_ ?_;refine s1 hW 8 0 [] 7 [(9,i0)] ?_;rotate_left;refine CG.tidy (ar.j8 (aY:=[(1,.ptr 0 5 0),(3,.sl 1 (m.length*7) 0 m.length 7),(8,.d (.int .i64 (.ofNat i2))),(9,i0)]) (H':=[some (.cells s.ce),some (aJ Bd.aa m)]) 2 [1,3,8,9] rfl k_ rfl (by simp[aG,aR,aW,ak,an])) ?_;refine CG.bV x.ts (fun j q=>[(1,.ptr 0 5 0),(3,.sl 1 (q.length*7) 0 q.length 7),(8,no i2),(9,.d (.int .i64 (.ofNat j)))]) (fun j q=>[some (.cells s.ce),some (aJ Bd.aa q)]) (fun j q r2=>(mZ m x.ts=mZ q r2∧q.length≤m.length+j)) m ?_ (ar.refl _ _) ?_ ?_
   ·exact⟨rfl,by omega⟩
   ·rintro j q hj XC ⟨j1,j2⟩;have j1:mZ m x.ts=q:=j1;refine s1 hW 2 4 [] 15 [(51,no j),(53,lo aj.aa s.wh),(54,no i2)] ?_;refine CG.ix (ay (aa:=aj.aa) ku) rfl k_ ?_;refine s1 hW 2 0 [] 15 [(59,bo (aS (Int.ofNat j) (Int.ofNat (x.ts.map Cf.aa).length)))] ?_;refine CG.aF (fP j (x.ts.map Cf.aa).length) k_ ?_;refine CG.bl (by decide) ?_;refine s3 hW 3 3 [] [(1,.ptr 0 5 0),(3,.sl 1 (List.length q*7) 0 q.length 7),(8,io (aN IntKind.i64 (bp (Int.ofNat i2) 1)))] ([some (.cells s.ce),some (aJ Bd.aa q)]) ?_;refine CG.bU rfl ?_;rw[a7 (by omega)];rotate_left;exact⟨q,⟨by rw[g1,←j1];rfl,by omega⟩,ar.refl _ _⟩
   ·rintro j q t r2 XC XD aaa ⟨j1,j2⟩;have hA:=Aw hW (.cells s.ce) q 1 t.var (by omega);have Y5:=mY q 1 t.var;refine s1 hW 2 4 [] 15 [(51,no j),(53,lo aj.aa s.wh),(54,no i2)] ?_;refine CG.ix (ay (aa:=aj.aa) ku) rfl k_ ?_;refine s1 hW 2 0 [] 15 [(59,bo (aS (Int.ofNat j) (Int.ofNat (x.ts.map Cf.aa).length)))] ?_;refine CG.aB (eH j (x.ts.map Cf.aa).length) k_ ?_;refine s1 hW 4 4 [] 15 [(62,.sl 1 (List.length q*7) 0 q.length 7),(64,lo aj.aa s.wh),(65,no i2)] ?_;refine CG.ix (ay (aa:=aj.aa) ku) rfl k_ ?_;refine s1 hW 0 3 [] 31 [(68,lo Cf.aa x.ts),(69,no j)] ?_;refine CG.ix (ay (aa:=Cf.aa) XD) rfl k_ ?_;refine s1 hW 0 2 [] 31 [(72,so t.var)] ?_;refine CG.wf hA rfl rfl k_ rfl ?_;refine s3 hW 3 3 [] [(1,.ptr 0 5 0),(3,.sl 1 (List.length (fh q 1 t.var)*7) 0 (fh q 1 t.var).length 7),(8,no i2),(9,io (aN IntKind.i64 (bp (Int.ofNat j) 1)))] ([some (.cells s.ce),some (aJ Bd.aa (fh q 1 t.var))]) ?_;refine CG.bU rfl ?_;rw[a7 (by omega)];rotate_left;exact⟨fh q 1 t.var,⟨j1,by omega⟩,ar.refl _ _⟩
 ·rintro i l t r dn hx bL ⟨h1,h2⟩;obtain⟨m1,m2,m3⟩:=hm t (aap hx);have hT:=Av hW t m1 m2 m3;have hTl:=EI m3;refine s1 hW 4 0 [] 15 [(18,bo (aS (Int.ofNat i) (Int.ofNat (List.length ((bz.ps s++[s.r]).map Ty.aa)))))] ?_;refine CG.aB (eH i (List.length ((bz.ps s++[s.r]).map Ty.aa))) k_ ?_;refine s1 hW 5 2 [] 15 [(21,lo Ty.aa (bz.ps s++[s.r])),(22,no i)] ?_;refine CG.ix (ay (aa:=Ty.aa) hx) rfl k_ ?_;refine s1 hW 0 1 [] 15 [(24,.agg t.ce)] ?_;refine CG.pg (hT) rfl k_ ?_;refine s1 hW 6 0 [] 15 [(6,lo Bd.aa (gA t)),(7,i0)] ?_;rotate_left;refine CG.tidy (ar.j8 (aY:=[(1,.ptr 0 5 0),(3,.sl 1 (l.length*7) 0 l.length 7),(4,lo Ty.aa (s.ps++[s.r])),(5,.d (.int .i64 (.ofNat i))),(6,lo Bd.aa (gA t)),(7,i0)]) (H':=[some (.cells s.ce),some (aJ Bd.aa l)]) 2 [1,3,4,5,6,7] rfl k_ rfl (by simp[aG,aR,aW,ak,an])) ?_;refine CG.bV (gA t) (fun j m=>[(1,.ptr 0 5 0),(3,.sl 1 (m.length*7) 0 m.length 7),(4,lo Ty.aa (bz.ps s++[s.r])),(5,no i),(6,lo Bd.aa (gA t)),(7,.d (.int .i64 (.ofNat j)))]) (fun j m=>[some (.cells s.ce),some (aJ Bd.aa m)]) (fun j m r2=>(K3 l (gA t)=K3 m r2∧m.length≤l.length+j)) l ?_ (ar.refl _ _) ?_ ?_
  ·exact⟨rfl,by omega⟩
  ·rintro j m hj Ih ⟨j1,j2⟩;have j1:K3 l (gA t)=m:=j1;refine s1 hW 4 0 [] 63 [(29,bo (aS (Int.ofNat j) (Int.ofNat (List.length ((gA t).map Bd.aa)))))] ?_;refine CG.aF (fP j (List.length ((gA t).map Bd.aa))) k_ ?_;refine CG.bl (by decide) ?_;refine s3 hW 3 3 [] [(1,.ptr 0 5 0),(3,.sl 1 (List.length m*7) 0 m.length 7),(4,lo Ty.aa (bz.ps s++[s.r])),(5,io (aN IntKind.i64 (bp (Int.ofNat i) 1)))] ([some (.cells s.ce),some (aJ Bd.aa m)]) ?_;refine CG.bU rfl ?_;rw[a7 (by omega)];rotate_left;exact⟨m,⟨by rw[h1,←j1];rfl,by omega⟩,ar.refl _ _⟩
  ·rintro j m b r2 Ih K0 XB ⟨j1,j2⟩;have hA:=Aw hW (.cells s.ce) m b.kind b.var (by omega);have Y5:=mY m b.kind b.var;have uf:True:=trivial;refine s1 hW 4 0 [] 63 [(29,bo (aS (Int.ofNat j) (Int.ofNat (List.length ((gA t).map Bd.aa)))))] ?_;refine CG.aB (eH j (List.length ((gA t).map Bd.aa))) k_ ?_;refine s1 hW 4 0 [] 63 [] ?_;rotate_left;refine CG.qz bE (DP.walk 11 rfl rfl k_ rfl ?_ );refine AW.rk 3 [(32,.sl 1 (List.length m*7) 0 m.length 7),(33,lo Bd.aa (gA t)),(34,no j)] [] k_ ?_;refine AW.idx (ay (aa:=Bd.aa) K0) rfl k_ k_ k_ rfl ?_;refine AW.rk 4 [(36,.cA [.int .i64 b.kind]),(37,io b.kind),(38,lo Bd.aa (gA t)),(39,no j)] [] k_ ?_;refine AW.idx (ay (aa:=Bd.aa) K0) rfl k_ k_ k_ rfl ?_;refine AW.rk 2 [(41,.cA [.str b.var]),(42,so b.var)] [] k_ ?_;rotate_left;refine AW.nil rfl ⟨k_,_,_,ar.j8 (aY:=[(1,.ptr 0 5 0),(3,.sl 1 (m.length*7) 0 m.length 7),(4,lo Ty.aa (s.ps++[s.r])),(5,.d (.int .i64 (.ofNat i))),(6,lo Bd.aa (gA t)),(7,.d (.int .i64 (.ofNat j))),(32,.sl 1 (m.length*7) 0 m.length 7),(37,io b.kind),(42,so b.var)]) (H':=[some (.cells s.ce),some (aJ Bd.aa m)]) 2 [1,3,4,5,6,7,32,37,42] rfl k_ rfl (by simp[aG,aR,aW,ak,an]),DP.Nk rfl k_ k_ (show CG P (gl W) (.ops [⟨some 43,.call 154 [.t 32,.t 37,.t 42],none,[]⟩,⟨some 3,.mv (.t 43),none,[]⟩]) _ _ _ _ _ from ?_ )⟩;refine CG.wf hA rfl rfl k_ rfl ?_;refine s3 hW 3 3 [] [(1,.ptr 0 5 0),(3,.sl 1 (List.length (fh m b.kind b.var)*7) 0 (fh m b.kind b.var).length 7),(4,lo Ty.aa (bz.ps s++[s.r])),(5,no i),(6,lo Bd.aa (gA t)),(7,io (aN IntKind.i64 (bp (Int.ofNat j) 1)))] ([some (.cells s.ce),some (aJ Bd.aa (fh m b.kind b.var))]) ?_;refine CG.bU rfl ?_;rw[a7 (by omega)];rotate_left;exact⟨fh m b.kind b.var,⟨j1,by omega⟩,ar.refl _ _⟩
end Fw.Tz.Yu
/-
  Under of both sides at a name and a number, from closed runs.
-/
namespace Fw.Tz.Yw
open Go Go.Proofs Fw.X Fw.Tz Fw.Nu Fw.Tz.Na Fw.Tz.El Fw.Tz.Va Fw.Tz.Vb Fw.Tz.Vw Fw.Tz.Eq Fw.Tz.Ew Fw.Tz.Su Fw.Tz.Yd Fw.Tz.Ya Fw.Tz.Yc Fw.Tz.Yb Fw.Tz.Ye Fw.Tz.Yf Fw.Tz.Yj Fw.Tz.Yk Fw.Tz.Yn Fw.Tz.Yq Fw.Tz.Yr Fw.Tz.Ys Fw.Tz.Yu
variable {W:World}
def wk(x:aj):Bool:=decide (x.ts.length<1000)&&x.ts.all fun u=>decide (u.var.length<1000)
def K4(t:Ty):Bool:=decide (t.elem.length<1000)&&decide (t.ae.length<1000)&&t.ae.all wk&&decide (t.row=[])
def ui(s:bz):Bool:=decide (s.ps.length≤12)&&decide (s.wh.length≤60)&&s.ps.all K4&&K4 s.r&&s.wh.all wk
theorem Ax{x:aj}(h:wk x=true):aj.sm x:=by simp only[wk,aac,aam,aaq]at h;exact⟨by omega,fun t ht=>by have:=h.2 t ht;omega⟩
theorem sA{t:Ty}(h:K4 t=true):Ap t∧t.row=[]:=by simp only[K4,aac,aam,aaq]at h;obtain⟨⟨⟨h1,h2⟩,h3⟩,h4⟩:=h;exact⟨⟨by omega,by omega,fun x hx=>Ax (h3 x hx)⟩,h4⟩
theorem uj{s:bz}(h:ui s=true):rz s∧EF s:=by simp only[ui,aac,aam,aaq]at h;obtain⟨⟨⟨⟨h1,h2⟩,h3⟩,h4⟩,h5⟩:=h;exact⟨⟨h1,h2,fun t ht=>(sA (h3 t ht)).1,(sA h4).1,fun x hx=>Ax (h5 x hx)⟩,⟨fun t ht=>(sA (h3 t ht)).2,(sA h4).2⟩⟩
def S1(s:bz)(ig:List (List UInt8))(vars:List Bd):Bool:=ui s&&pH s&&decide (((j9 s).map key).Nodup)&&(decide (ig=[]∧kK∉(j9 s).map key)||decide (ig=[kS]∧kK∈(j9 s).map key))&&(vars.map key).isPerm ((j9 s).map key)&&decide ((j9 s).length<1000)&&decide (vars.length<1000)
end Fw.Tz.Yw
/-
  A scheme is equal to itself, by the reference; what SubstScheme answers.
-/
namespace Fw.Tz.Yx
open Go Go.Proofs Fw.X Fw.Tz Fw.Nu Fw.Tz.Sd Fw.Tz.Na Fw.Tz.El Fw.Tz.Va Fw.Tz.Vb Fw.Tz.Vw Fw.Tz.Eq Fw.Tz.Ew Fw.Tz.Pa Fw.Tz.Pc Fw.Tz.Su Fw.Tz.Yd Fw.Tz.Ya Fw.Tz.Yc Fw.Tz.Yb Fw.Tz.Ye Fw.Tz.Yj Fw.Tz.Yk
variable {W:World}
def Ou(p:bz):Prop:=p.ps.length≤12∧p.wh.length≤60∧(∀t∈p.ps++[p.r],Je t.ae)∧∀x∈p.wh,x.ts.length<1099511627776
theorem x_:Ou uX:=⟨by simp[uX],by simp[uX],by intro t ht;simp[uX]at ht;subst ht;simp[Je,vY],by simp[uX]⟩
theorem EJ(g:Gt)(ok:Bool)(ds:List aj):(mX g ok [] ds).1.2.length≤6∧∀x∈(mX g ok [] ds).1.2,x.ok=true:=by
 unfold mX;split
 ·split
  ·simp only[aa4];unfold ry;split
   ·rename_i h6;simp only[aaY,aau]at h6;exact⟨by simpa using h6,fun x hx=>sy g ds [] (by simp) x (by simpa using hx)⟩
   ·simp
  ·simp
 ·simp
theorem B2{l:List aj}(h:l.length≤6)(h2:∀x∈l,x.ok=true):Je l:=⟨by omega,fun x hx=>by have:=wI (h2 x hx);omega⟩
theorem wm(g:Gt)(ok:Bool)(t:Ty)(hr:t.row=[]):Je (cI g ok t).1.ae:=by
 have h:=EJ g ok t.ae;unfold cI;rw[hr];split
 ·split
  ·exact B2 h.1 h.2
  ·exact B2 (by simp[vY]) (by simp[vY])
 ·exact B2 (by simp[vY]) (by simp[vY])
theorem wo(g:Gt)(ok:Bool):∀(l acc:List Ty),(∀t∈l,t.row=[])→(∀t∈acc,Je t.ae)→(iF g ok acc l).1.length≤acc.length+l.length∧∀t∈(iF g ok acc l).1,Je t.ae
 |[],acc,_,h=>by simpa[iF]using h
 |x::l,acc,hr,h=>by
  rw[iF];split
  ·have:=wo g ok l (acc++[(cI g ok x).1]) (fun t ht=>hr t (by simp[ht])) (fun t ht=>by
    rcases aaV.1 ht with ht|ht
    ·exact h t ht
    ·rw[ace.1 ht];exact wm g ok x (hr x (by simp)))
   simp only[aaA,aav,aaY]at this⊢;exact⟨by omega,this.2⟩
  ·simp
theorem uk(g:Gt)(ok:Bool){s:bz}(hs:rz s)(hn:EF s):Ou (ff g ok s).1:=by
 obtain⟨k1,k2,k3,k4,k5⟩:=hs;obtain⟨n1,n2⟩:=hn;have h1:=wo g ok s.ps [] n1 (by simp);have h2:=wm g ok s.r n2;have h3:=Fw.Tz.Yb.Ak g s.wh [];have h4:=sy g s.wh [] (by simp);unfold ff;split
 ·split
  ·split
   ·split
    ·refine⟨by have:=h1.1;simp at this;exact aa_ this k1,by simp at h3;exact aa_ h3 k2,fun t ht=>?_,fun x hx=>by have:=wI (h4 x hx);omega⟩;rcases aaV.1 ht with ht|ht
     ·exact h1.2 t ht
     ·rw[ace.1 ht];exact h2
    ·exact x_
   ·exact x_
  ·exact x_
 ·exact x_
theorem Ij(hW:W0 W)(s:bz)(hs:Ou s):PC P (gl W) 42 [qR s,qR s] (.d (.bool true)):=by
 refine CG.start V3 V4 rfl ?_;obtain⟨k1,k2,hk,k5⟩:=hs;have hA:=x7 hW s (by omega);have hlen:(s.ps++[s.r]).length<1048576:=by simp;omega
 refine s4 hW 5 8 [] 0 [(2,.ptr 0 5 0),(3,.ptr 1 5 0),(4,bF),(16,bo (!bf (Int.ofNat (s.ps.map Ty.aa).length) (Int.ofNat (s.ps.map Ty.aa).length)))] [(0,.cells s.ce),(1,.cells s.ce)] ?_;have uV:(bf (Int.ofNat (s.ps.map Ty.aa).length) (Int.ofNat (s.ps.map Ty.aa).length))=true:=oY;rw[uV];refine s1 hW 2 0 [] 7 [(24,bo (!bf (Int.ofNat (s.wh.map aj.aa).length) (Int.ofNat (s.wh.map aj.aa).length)))] ?_;have qL:(bf (Int.ofNat (s.wh.map aj.aa).length) (Int.ofNat (s.wh.map aj.aa).length))=true:=oY;refine CG.aF (b:=(!bf (Int.ofNat (s.wh.map aj.aa).length) (Int.ofNat (s.wh.map aj.aa).length))) (by rw[qL];rfl) k_ ?_;refine s1 hW 3 0 [] 7 [] ?_;refine dg hW [] [(1,lo Ty.aa (bz.ps s++[s.r])),(3,lo Ty.aa (bz.ps s++[s.r]))] (aY:=[(2,.ptr 0 5 0),(3,.ptr 1 5 0),(4,bF),(5,lo Ty.aa (bz.ps s++[s.r])),(6,lo Ty.aa (bz.ps s++[s.r]))]) (H':=[some (.cells s.ce),some (.cells s.ce)]++nn 6 ([])) (cs:=[]) (calls:=[(99,[.agg s.ce],lo Ty.aa (bz.ps s++[s.r])),(99,[.agg s.ce],lo Ty.aa (bz.ps s++[s.r]))]) k_ trivial ⟨hA,⟨hA,trivial⟩⟩ ?_;refine s1 hW 6 0 [] 31 [(7,i0)] ?_;rotate_left;refine CG.bV (s.ps++[s.r]) (fun i u=>[(2,.ptr 0 5 0),(3,.ptr 1 5 0),(4,bF),(5,lo Ty.aa (bz.ps s++[s.r])),(6,lo Ty.aa (bz.ps s++[s.r])),(7,.d (.int .i64 (.ofNat i)))]) (fun i u=>[some (.cells s.ce),some (.cells s.ce)]++nn 6 ([])) (fun i u r=>(True)) () ?_ (ar.refl _ _) ?_ ?_
 ·trivial
 ·intro i u hi dn aD;refine s1 hW 4 0 [] 63 [(32,bo (aS (Int.ofNat i) (Int.ofNat (List.length ((bz.ps s++[s.r]).map Ty.aa)))))] ?_;refine CG.aF (fP i (List.length ((bz.ps s++[s.r]).map Ty.aa))) k_ ?_;refine CG.bl (by decide) ?_;refine s1 hW 7 0 [] 7 [(8,i0)] ?_;rotate_left;refine CG.bV s.wh (fun j u=>[(2,.ptr 0 5 0),(3,.ptr 1 5 0),(4,bF),(8,.d (.int .i64 (.ofNat j)))]) (fun j u=>[some (.cells s.ce),some (.cells s.ce)]++nn 6 ([])) (fun j u r=>(True)) () ?_ (ar.refl _ _) ?_ ?_
  ·trivial
  ·intro j u hj dn aD;refine s1 hW 4 0 [] 15 [(49,bo (aS (Int.ofNat j) (Int.ofNat (s.wh.map aj.aa).length)))] ?_;refine CG.aF (fP j (s.wh.map aj.aa).length) k_ ?_;refine CG.bl (by decide) ?_;refine s1 hW 5 0 [] 0 [(4,bT)] ?_;refine CG.rt (bT) ?_;with_reducible rfl
  ·intro j u x r dn hx bL aD;have hE:=C7 hW x x (k5 x (aap hx)) (k5 x (aap hx));rw[(qN x x).2 rfl]at hE;refine s1 hW 4 0 [] 15 [(49,bo (aS (Int.ofNat j) (Int.ofNat (s.wh.map aj.aa).length)))] ?_;refine CG.aB (eH j (s.wh.map aj.aa).length) k_ ?_;refine s1 hW 5 0 [] 15 [] ?_;refine CG.iC bE k_ k_ ?_;refine AO.rd 3 [(52,.ptr 0 5 4),(53,lo aj.aa s.wh),(54,no j)] k_ ?_;refine AO.idx (ay (aa:=aj.aa) hx) rfl k_ k_ k_ rfl ?_;refine AO.rd 4 [(56,.agg x.ce),(57,.ptr 1 5 4),(58,lo aj.aa s.wh),(59,no j)] k_ ?_;refine AO.idx (ay (aa:=aj.aa) hx) rfl k_ k_ k_ rfl ?_;refine AO.rd 1 [(61,.agg x.ce)] k_ ?_;refine AO.jM hE rfl k_ k_ ?_;refine AO.rd 1 [(63,bF)] k_ ?_;refine AO.done [2,3,4,8,63] rfl rfl k_ ?_;refine s3 hW 5 3 [false] [(2,.ptr 0 5 0),(3,.ptr 1 5 0),(4,bF),(8,io (aN IntKind.i64 (bp (Int.ofNat j) 1)))] ([some (.cells s.ce),some (.cells s.ce)]++nn 6 ([])) ?_;refine CG.bU rfl ?_;rw[a7 (by omega)];rotate_left;exact⟨(),trivial,ar.eqs k_⟩
 ·intro i u t r dn hx bL aD;have hm:=hk t (aap hx);have hT:=Fw.Tz.Ew.tY hW t t hm hm;rw[Em]at hT;refine s1 hW 4 0 [] 63 [(32,bo (aS (Int.ofNat i) (Int.ofNat (List.length ((bz.ps s++[s.r]).map Ty.aa)))))] ?_;refine CG.aB (eH i (List.length ((bz.ps s++[s.r]).map Ty.aa))) k_ ?_;refine s1 hW 5 0 [] 63 [] ?_;refine CG.iC bE k_ k_ ?_;refine AO.rd 2 [(35,lo Ty.aa (bz.ps s++[s.r])),(36,no i)] k_ ?_;refine AO.idx (ay (aa:=Ty.aa) hx) rfl k_ k_ k_ rfl ?_;refine AO.rd 3 [(38,.agg t.ce),(39,lo Ty.aa (bz.ps s++[s.r])),(40,no i)] k_ ?_;refine AO.idx (ay (aa:=Ty.aa) hx) rfl k_ k_ k_ rfl ?_;refine AO.rd 1 [(42,.agg t.ce)] k_ ?_;refine AO.jM hT rfl k_ k_ ?_;refine AO.rd 1 [(44,bF)] k_ ?_;refine AO.done [2,3,4,5,6,7,44] rfl rfl k_ ?_;refine s3 hW 5 3 [false] [(2,.ptr 0 5 0),(3,.ptr 1 5 0),(4,bF),(5,lo Ty.aa (bz.ps s++[s.r])),(6,lo Ty.aa (bz.ps s++[s.r])),(7,io (aN IntKind.i64 (bp (Int.ofNat i) 1)))] ([some (.cells s.ce),some (.cells s.ce)]++nn 6 ([])) ?_;refine CG.bU rfl ?_;rw[a7 (by omega)];rotate_left;exact⟨(),trivial,ar.eqs k_⟩
end Fw.Tz.Yx
/-
  Scheme and Under where the number does not fit or the name is no one's.
-/
/-
  Sig where the name is no one's.
-/
