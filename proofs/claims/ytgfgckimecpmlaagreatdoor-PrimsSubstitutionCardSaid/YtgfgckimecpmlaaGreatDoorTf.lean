/-
  Constraints that are valid or known; what the program and the reference say of any.
-/
import Derived.Test.YtgfgckimecpmlaaGreatDoorTe
import Derived.Test.YtgfgckimecpmlaaGreatDoorTd
import Derived.Test.YtgfgckimecpmlaaGreatDoorFg
import Derived.Test.YtgfgckimecpmlaaGreatDoorTc
set_option linter.unusedSimpArgs false
set_option maxRecDepth 1000000
set_option maxHeartbeats 4000000
set_option linter.unusedVariables false
/-
  Constraints that are valid or known, by the reference.
-/
/-
  Small constraints: the guard of the law.
-/
/-
  Equal shapes and equal rows of signs, by the reference.
-/
/-
  Copies of rows.
-/
namespace Fw.Tz.Vg
open Go Go.Proofs Fw.X Fw.Tz Fw.Nu Fw.Tz.Na Fw.Tz.El Fw.Tz.Va Fw.Tz.Vb
variable {W:World}
noncomputable def rg(W:World)(n:Nat)(N j:Nat)(bs:List Bool)(cur:kj)(K:List Fr)(ks:List Nat)(tm:List (Nat×V))(H:ah):Option XR:=D1 [5] (gl W) (tS W tR .e (oO W tR .e 40)) (mT tR .e (oO W tR .e 40)) n N j bs cur K ks tm H
theorem s2(hW:W0 W)(N j:Nat)(bs:List Bool)(m:Nat)(nw:List (Nat×V))(H':ah){cur c':kj}{K K':List Fr}{n:Nat}{tm:List (Nat×V)}{H:ah}{Q:Ex→St→Prop}(hq:CG P (gl W) c' K' n (mf m nw tm) H' Q)(h1:oh N j bs cur K=some (c',K'):=by rfl)(h2:rg W n N j bs cur K ((mf m nw tm).map Prod.fst) tm H=some (.tuple ((mf m nw tm).map Prod.snd),H'):=by kernel_rfl):CG P (gl W) cur K n tm H Q:=CG.st bE (jE hW (qF) _ (ef hW (qF) 40)) (fQ hW (qF) _ (ef hW (qF) 40)) N j bs h1 h2 hq
theorem s1(hW:W0 W)(N j:Nat)(bs:List Bool)(m:Nat)(nw:List (Nat×V)){cur c':kj}{K K':List Fr}{n:Nat}{tm:List (Nat×V)}{H:ah}{Q:Ex→St→Prop}(hq:CG P (gl W) c' K' n (mf m nw tm) H Q)(h1:oh N j bs cur K=some (c',K'):=by rfl)(h2:rg W n N j bs cur K ((mf m nw tm).map Prod.fst) tm H=some (.tuple ((mf m nw tm).map Prod.snd),H):=by kernel_rfl):CG P (gl W) cur K n tm H Q:=s2 hW N j bs m nw H hq h1 h2
theorem s4(hW:W0 W)(N j:Nat)(bs:List Bool)(m:Nat)(nw:List (Nat×V))(hd:List (Nat×dU)){cur c':kj}{K K':List Fr}{n:Nat}{tm:List (Nat×V)}{H:ah}{Q:Ex→St→Prop}(hq:CG P (gl W) c' K' n (mf m nw tm) (CM hd H) Q)(h1:oh N j bs cur K=some (c',K'):=by rfl)(h2:rg W n N j bs cur K ((mf m nw tm).map Prod.fst) tm H=some (.tuple ((mf m nw tm).map Prod.snd),CM hd H):=by kernel_rfl):CG P (gl W) cur K n tm H Q:=s2 hW N j bs m nw (CM hd H) hq h1 h2
theorem Ep(hW:W0 W)(a:Cf)(l:List Cf)(hl:(a::l).length<1073741824):PC P (gl W) 170 [.d (.list ((a::l).map Cf.aa))] (.d (.list ((a::l).map Cf.aa))):=by refine CG.start RW RX rfl ?_;refine s4 hW 11 2 [false] 0 [(2,.ab),(5,.sl 0 0 0 0 2),(6,.d (.list ([.str a.var,.int .i64 a.c]::(l.map Cf.aa))))] [(0,.cells [])] ?_;rotate_left;show CG _ _ _ _ _ ([(2,.ab),(5,.sl 0 (List.length ([]:List Cf)*2) 0 ([]:List Cf).length 2),(6,.d (.list ([.str a.var,.int .i64 a.c]::(l.map Cf.aa))))]) ([some (dS Cf.aa ([]:List Cf))]) _;refine CG.TF Cf.aa [] (({var:=Cf.var a,c:=Cf.c a})::l) 0 (fun _=>rfl) rfl k_ (fD (aa:=Cf.aa) (fun _=>rfl) _ (({var:=Cf.var a,c:=Cf.c a})::l)) (by(try simp only[zz]at*)<;>omega) ?_;refine s1 hW 2 0 [] 0 [(2,.sl 0 (List.length ([]++a::l)*2) 0 ([]++a::l).length 2)] ?_;rotate_left;refine CG.tidy (ar.JY (sz:=2) Cf.aa ([]++a::l) 0 2 (aY:=[(2,.d (.list (([]++a::l).map Cf.aa)))]) (H':=[none]) (fun _=>rfl) k_ k_ ⟨.inl rfl,trivial⟩ k_ k_) ?_;refine CG.rt (.d (.list ([.str a.var,.int .i64 a.c]::(l.map Cf.aa)))) ?_;rfl
end Fw.Tz.Vg
/-
  Copies of shapes.
-/
namespace Fw.Tz.Vh
open Go Go.Proofs Fw.X Fw.Tz Fw.Nu Fw.Tz.Sd Fw.Tz.Na Fw.Tz.El Fw.Tz.Va Fw.Tz.Vb
variable {W:World}
theorem BM(hW:W0 W)(l:List Cf)(hl:l.length<1073741824):PC P (gl W) 170 [.d (.list (l.map Cf.aa))] (.d (.list (l.map Cf.aa))):=by
 cases l with
  |nil=>exact vK
  |cons a l=>exact Fw.Tz.Vg.Ep hW a l hl
theorem Er(hW:W0 W)(l:List aj)(hl:l.length<1073741824)(hd:∀x∈l,x.ts.length<1073741824):PC P (gl W) 110 [.d (.list (l.map aj.aa))] (.d (.list (l.map aj.aa))):=by
 refine CG.start Rj Rk rfl ?_;refine s1 hW 11 0 [] 0 [(2,.ab),(3,.ab),(6,lo aj.aa l),(7,no (l.map aj.aa).length),(8,i0)] ?_;rotate_left;refine CG.tidy (ar.uN 3 2 (aY:=[(2,.ab),(3,.sl 0 0 0 0 2),(6,lo aj.aa l),(7,no (l.map aj.aa).length),(8,i0)]) (aao _) k_ k_) ?_;show CG _ _ _ _ _ _ ([some .nil]) _;show CG _ _ _ _ _ ([(2,.ab),(3,.sl 0 (List.length ([]:List aj)*2) 0 ([]:List aj).length 2),(6,lo aj.aa l),(7,no (l.map aj.aa).length),(8,i0)]) ([some (aJ aj.aa ([]:List aj))]) _;refine CG.bV l (fun i u=>[(2,.ab),(3,.sl 0 ((l.take i).length*2) 0 (l.take i).length 2),(6,lo aj.aa l),(7,no (l.map aj.aa).length),(8,.d (.int .i64 (.ofNat i)))]) (fun i u=>[aJ aj.aa (l.take i)]) (fun i u r=>(True)) () ?_ (ar.refl _ _) ?_ ?_
 ·trivial
 ·intro i u hi dn aD;rw[show l.take i=l by rw[hi,abH]];refine s1 hW 4 0 [] 23 [(9,bo (aS (Int.ofNat i) (Int.ofNat (l.map aj.aa).length)))] ?_;refine CG.aF (fP i (l.map aj.aa).length) k_ ?_;refine CG.bl (by decide) ?_;refine s1 hW 5 0 [] 0 [(2,.sl 0 (List.length l*2) 0 l.length 2)] ?_;rotate_left;refine CG.tidy (ar.tv (sz:=2) aj.aa l 0 2 (aY:=[(2,.d (.list (l.map aj.aa)))]) (H':=[none]) (fun _=>rfl) k_ k_ ⟨.inl rfl,trivial⟩ k_ k_) ?_;refine CG.rt (lo aj.aa l) ?_;with_reducible rfl
 ·intro i u x r dn hx bL aD;have hs:=hd x (aap hx);have hti:(l.take i).length=i:=by rw[aaQ];omega
  have SI:l.take (i+1)=l.take i++[x]:=by rw[abj,hx];rfl
  rw[SI];refine s1 hW 4 0 [] 31 [(9,bo (aS (Int.ofNat i) (Int.ofNat (l.map aj.aa).length)))] ?_;refine CG.aB (eH i (l.map aj.aa).length) k_ ?_;refine s1 hW 5 0 [] 31 [] ?_;refine CG.gM ?_;refine CG.ix (ay (aa:=aj.aa) hx) rfl k_ ?_;refine s4 hW 2 0 [] 31 [(5,.ptr 1 2 0)] [(1,.cells x.ce)] ?_;refine CG.j3 bE k_ ?_;refine AW.rk 5 [(12,.sl 0 (List.length (List.take i l)*2) 0 (List.take i l).length 2),(13,.ptr 1 2 0),(14,io x.c),(15,.ptr 1 2 1),(16,lo Cf.aa x.ts)] [] k_ ?_;refine AW.jM (BM hW x.ts hs) rfl k_ k_ ?_;refine AW.rk 2 [(18,.agg x.ce),(19,.sl 9 2 0 1 2)] [(9,.cells x.ce)] k_ ?_;rotate_left;refine AW.Lx aj.aa (l.take i) x (b:=0) (fun _=>rfl) rfl rfl k_ k_ k_ k_ (by omega) rfl ?_;refine AW.rk 1 [(3,.sl 0 (List.length (List.take i l++[x])*2) 0 (List.take i l++[x]).length 2)] [] k_ ?_;refine AW.nil rfl ⟨k_,AW.fin (H2:=[some (aJ aj.aa (List.take i l++[x])),some (.cells x.ce)]++nn 7 ([some (.cells x.ce)])) 10 [2,3,6,7,8] k_ rfl k_ k_ (by simp[nn,aG,aW,fE,aR,jg,ak,an]) ?_⟩;refine s3 hW 2 2 [] [(2,.ab),(3,.sl 0 (List.length (List.take i l++[x])*2) 0 (List.take i l++[x]).length 2),(6,lo aj.aa l),(7,no (l.map aj.aa).length),(8,io (aN IntKind.i64 (bp (Int.ofNat i) 1)))] ([some (aJ aj.aa (List.take i l++[x])),some (.cells x.ce)]++nn 7 ([some (.cells x.ce)])) ?_;refine CG.bU rfl ?_;rw[a7 (by omega)];rotate_left;exact⟨(),trivial,ar.trim 1 [2,3,6,7,8] rfl rfl rfl rfl (by simp[aG,aW])⟩
end Fw.Tz.Vh
/-
  Shapes split.
-/
/-
  Frames.
-/
/-
  Pairs of an application, whether it holds, and its only frame: the plain law.
-/
/-
  Concatenated shapes and lifted cells, of the program.
-/
namespace Fw.Tz.Pa
open Go Go.Proofs Fw.X Fw.Tz Fw.Nu Fw.Tz.Sd Fw.Tz.Na Fw.Tz.El Fw.Tz.Va Fw.Tz.Vb Fw.Tz.Vh Fw.Tz.Eq Fw.Tz.Ew
variable {W:World}
def BN(row:List UInt8)(ae:List aj)(e:Int):V:=.tuple [vS row ae,.d (.int .i64 e)]
end Fw.Tz.Pa
/-
  Concatenated shapes and lifted cells.
-/
namespace Fw.Tz.Pc
open Go Go.Proofs Fw.X Fw.Tz Fw.Nu Fw.Tz.Sd Fw.Tz.Na Fw.Tz.El Fw.Tz.Va Fw.Tz.Vb Fw.Tz.Vh Fw.Tz.Eq Fw.Tz.Ew Fw.Tz.Pa
variable {W:World}
theorem KH(hW:W0 W)(row:List UInt8)(ae:List aj)(hl:ae.length≤6)(hd:∀x∈ae,x.ts.length<1073741824):PC P (gl W) 175 [.d (.str row),.d (.list (ae.map aj.aa))] (BN row ae 0):=by
 refine CG.start R0 R1 rfl ?_;have I8:ae.length<1073741824:=by omega
 refine s4 hW 7 0 [] 3 [(4,.ptr 0 2 0),(5,i0),(8,bo (aS 6 (Int.ofNat (ae.map aj.aa).length)))] [(0,.cells [sE,.ab])] ?_;refine CG.aF (show(aS 6 (Int.ofNat (ae.map aj.aa).length))=false from nU) k_ ?_;refine s1 hW 3 2 [] 12 [(10,so row),(11,lo aj.aa ae)] ?_;refine CG.pg (Er hW _ I8 hd) rfl k_ ?_;refine s4 hW 2 0 [] 3 [] [(0,.cells [so row,lo aj.aa ae])] ?_;refine CG.rt (.tuple [.agg [so row,lo aj.aa ae],i0]) ?_;rfl
end Fw.Tz.Pc
/-
  Pairs of an application.
-/
/-
  Pairs, by the program.
-/
/-
  Pairs, by the reference.
-/
namespace Fw.Tz.Pe
open Go Go.Proofs Fw.X Fw.Tz Fw.Nu Fw.Tz.Na Fw.Tz.El Fw.Tz.Va Fw.Tz.Vb Fw.Tz.Vh Fw.Tz.Eq Fw.Tz.Ew Fw.Tz.Pa Fw.Tz.Pc
variable {W:World}
noncomputable def rg(W:World)(n:Nat)(N j:Nat)(bs:List Bool)(cur:kj)(K:List Fr)(ks:List Nat)(tm:List (Nat×V))(H:ah):Option XR:=D1 [16] (gl W) (tS W tR .e (oO W tR .e 40)) (mT tR .e (oO W tR .e 40)) n N j bs cur K ks tm H
theorem s2(hW:W0 W)(N j:Nat)(bs:List Bool)(m:Nat)(nw:List (Nat×V))(H':ah){cur c':kj}{K K':List Fr}{n:Nat}{tm:List (Nat×V)}{H:ah}{Q:Ex→St→Prop}(hq:CG P (gl W) c' K' n (mf m nw tm) H' Q)(h1:oh N j bs cur K=some (c',K'):=by rfl)(h2:rg W n N j bs cur K ((mf m nw tm).map Prod.fst) tm H=some (.tuple ((mf m nw tm).map Prod.snd),H'):=by kernel_rfl):CG P (gl W) cur K n tm H Q:=CG.st bE (jE hW (qF) _ (ef hW (qF) 40)) (fQ hW (qF) _ (ef hW (qF) 40)) N j bs h1 h2 hq
theorem s1(hW:W0 W)(N j:Nat)(bs:List Bool)(m:Nat)(nw:List (Nat×V)){cur c':kj}{K K':List Fr}{n:Nat}{tm:List (Nat×V)}{H:ah}{Q:Ex→St→Prop}(hq:CG P (gl W) c' K' n (mf m nw tm) H Q)(h1:oh N j bs cur K=some (c',K'):=by rfl)(h2:rg W n N j bs cur K ((mf m nw tm).map Prod.fst) tm H=some (.tuple ((mf m nw tm).map Prod.snd),H):=by kernel_rfl):CG P (gl W) cur K n tm H Q:=s2 hW N j bs m nw H hq h1 h2
theorem s4(hW:W0 W)(N j:Nat)(bs:List Bool)(m:Nat)(nw:List (Nat×V))(hd:List (Nat×dU)){cur c':kj}{K K':List Fr}{n:Nat}{tm:List (Nat×V)}{H:ah}{Q:Ex→St→Prop}(hq:CG P (gl W) c' K' n (mf m nw tm) (CM hd H) Q)(h1:oh N j bs cur K=some (c',K'):=by rfl)(h2:rg W n N j bs cur K ((mf m nw tm).map Prod.fst) tm H=some (.tuple ((mf m nw tm).map Prod.snd),CM hd H):=by kernel_rfl):CG P (gl W) cur K n tm H Q:=s2 hW N j bs m nw (CM hd H) hq h1 h2
theorem C8(hW:W0 W)(row:List UInt8)(d1 d2:List aj)(h1:d1.length<1048576)(h2:d2.length<1048576):PC P (gl W) 78 [.d (.str row),.d (.list (d1.map aj.aa)),.d (.list (d2.map aj.aa))] (if d1.length+d2.length≤6 then BN row (d1++d2) 0 else BN [] [] 3):=by
 refine CG.start Wl Wm rfl ?_;by_cases h6:d1.length+d2.length≤6
 ·rw[aan h6];refine s4 hW 7 0 [] 7 [(6,.ptr 0 2 0),(7,i0),(13,bo (aS 6 (aN IntKind.i64 (bp (Int.ofNat (d1.map aj.aa).length) (Int.ofNat (d2.map aj.aa).length)))))] [(0,.cells [sE,.ab])] ?_;rw[show aN .i64 (bp (Int.ofNat (d1.map aj.aa).length) (Int.ofNat (d2.map aj.aa).length))=Int.ofNat (d1.length+d2.length)from by rw[iz,lC,IntKind.wrap_i64,aar,aar];simp only[abp];omega];refine CG.aF (show(aS 6 (Int.ofNat (List.length d1+List.length d2)))=false from nU) k_ ?_;refine s4 hW 3 3 [] 28 [(15,so row),(16,.sl 1 0 0 0 2),(17,lo aj.aa d1)] [(1,.cells [])] ?_;rotate_left;refine CG.is [(2,lo aj.aa d2),(6,.ptr 0 2 0),(7,i0),(15,so row),(16,.sl 1 (List.length ([]:List aj)*2) 0 ([]:List aj).length 2),(17,lo aj.aa d1)] ([some (.cells [sE,.ab]),some (dS aj.aa ([]:List aj))]) k_ ?_;refine CG.TF aj.aa [] d1 1 (fun _=>rfl) rfl k_ (fD (aa:=aj.aa) (fun _=>rfl) _ d1) (by(try simp only[zz]at*)<;>omega) ?_;refine s1 hW 0 1 [] 78 [(19,lo aj.aa d2)] ?_;refine CG.TF aj.aa ([]++d1) d2 1 (fun _=>rfl) rfl k_ (fD (aa:=aj.aa) (fun _=>rfl) _ d2) (by(try simp only[zz]at*)<;>omega) ?_;refine CG.Ha (ar.JY (sz:=2) aj.aa ([]++d1++d2) 1 20 (aY:=[(6,.ptr 0 2 0),(7,i0),(15,so row),(18,.any),(19,lo aj.aa d2),(20,.d (.list (([]++d1++d2).map aj.aa)))]) (H':=[some (.cells [sE,.ab]),none]) (fun _=>rfl) k_ k_ ⟨.inr rfl,⟨.inl rfl,trivial⟩⟩ k_ k_) ?_;refine s4 hW 2 0 [] 3 [] [(0,.cells [so row,lo aj.aa ([]++d1++d2)])] ?_;refine CG.rt (.tuple [.agg [so row,lo aj.aa ([]++d1++d2)],i0]) ?_;rfl
 ·rw[aal h6];refine s4 hW 7 0 [] 7 [(6,.ptr 0 2 0),(7,i0),(13,bo (aS 6 (aN IntKind.i64 (bp (Int.ofNat (d1.map aj.aa).length) (Int.ofNat (d2.map aj.aa).length)))))] [(0,.cells [sE,.ab])] ?_;rw[show aN .i64 (bp (Int.ofNat (d1.map aj.aa).length) (Int.ofNat (d2.map aj.aa).length))=Int.ofNat (d1.length+d2.length)from by rw[iz,lC,IntKind.wrap_i64,aar,aar];simp only[abp];omega];refine CG.aB (show(aS 6 (Int.ofNat (List.length d1+List.length d2)))=true from mg) k_ ?_;refine s1 hW 3 0 [] 15 [(7,io 3)] ?_;refine CG.rt (.tuple [.agg [sE,.d (.list [])],io 3]) ?_;rfl
end Fw.Tz.Pe
