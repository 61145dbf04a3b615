/-
  Constraints that are valid or known; what the program and the reference say of any.
-/
import Derived.Test.YtgfgckimecpmlaaGreatDoorTe
import Derived.Test.YtgfgckimecpmlaaGreatDoorTd
import Derived.Test.YtgfgckimecpmlaaGreatDoorFg
import Derived.Test.YtgfgckimecpmlaaGreatDoorTc
set_option linter.unusedSimpArgs false
set_option maxRecDepth 1000000
set_option maxHeartbeats 4000000
set_option linter.unusedVariables false
/-
  Constraints that are valid or known, by the reference.
-/
/-
  Small constraints: the guard of the law.
-/
/-
  Equal shapes and equal rows of signs, by the reference.
-/
/-
  Copies of rows.
-/
namespace Fw.Tz.Vg
open Go Go.Proofs Fw.X Fw.Tz Fw.Nu Fw.Tz.Na Fw.Tz.El Fw.Tz.Va Fw.Tz.Vb
variable {W:World}
noncomputable def rg(W:World)(n:Nat)(N j:Nat)(bs:List Bool)(cur:kJ)(K:List Fr)(ks:List Nat)(tm:List (Nat×V))(H:ai):Option XR:=EU [5] (gl W) (um W uW .e (pT W uW .e 40)) (mZ uW .e (pT W uW .e 40)) n N j bs cur K ks tm H
theorem s2(hW:W0 W)(N j:Nat)(bs:List Bool)(m:Nat)(nw:List (Nat×V))(H':ai){cur c':kJ}{K K':List Fr}{n:Nat}{tm:List (Nat×V)}{H:ai}{Q:Ex→St→Prop}(hq:CG P (gl W) c' K' n (mq m nw tm) H' Q)(h1:oQ N j bs cur K=some (c',K'):=by rfl)(h2:rg W n N j bs cur K ((mq m nw tm).map Prod.fst) tm H=some (.tuple ((mq m nw tm).map Prod.snd),H'):=by kernel_rfl):CG P (gl W) cur K n tm H Q:=CG.st bG (jL hW (rU) _ (eT hW (rU) 40)) (fY hW (rU) _ (eT hW (rU) 40)) N j bs h1 h2 hq
theorem s1(hW:W0 W)(N j:Nat)(bs:List Bool)(m:Nat)(nw:List (Nat×V)){cur c':kJ}{K K':List Fr}{n:Nat}{tm:List (Nat×V)}{H:ai}{Q:Ex→St→Prop}(hq:CG P (gl W) c' K' n (mq m nw tm) H Q)(h1:oQ N j bs cur K=some (c',K'):=by rfl)(h2:rg W n N j bs cur K ((mq m nw tm).map Prod.fst) tm H=some (.tuple ((mq m nw tm).map Prod.snd),H):=by kernel_rfl):CG P (gl W) cur K n tm H Q:=s2 hW N j bs m nw H hq h1 h2
theorem s4(hW:W0 W)(N j:Nat)(bs:List Bool)(m:Nat)(nw:List (Nat×V))(hd:List (Nat×eG)){cur c':kJ}{K K':List Fr}{n:Nat}{tm:List (Nat×V)}{H:ai}{Q:Ex→St→Prop}(hq:CG P (gl W) c' K' n (mq m nw tm) (Dz hd H) Q)(h1:oQ N j bs cur K=some (c',K'):=by rfl)(h2:rg W n N j bs cur K ((mq m nw tm).map Prod.fst) tm H=some (.tuple ((mq m nw tm).map Prod.snd),Dz hd H):=by kernel_rfl):CG P (gl W) cur K n tm H Q:=s2 hW N j bs m nw (Dz hd H) hq h1 h2
theorem Fj(hW:W0 W)(a:Cf)(l:List Cf)(hl:(a::l).length<1073741824):PC P (gl W) 170 [.d (.list ((a::l).map Cf.aa))] (.d (.list ((a::l).map Cf.aa))):=by refine CG.start TL TM rfl ?_;refine s4 hW 11 2 [false] 0 [(2,.ab),(5,.sl 0 0 0 0 2),(6,.d (.list ([.str a.var,.int .i64 a.c]::(l.map Cf.aa))))] [(0,.cells [])] ?_;rotate_left;show CG _ _ _ _ _ ([(2,.ab),(5,.sl 0 (List.length ([]:List Cf)*2) 0 ([]:List Cf).length 2),(6,.d (.list ([.str a.var,.int .i64 a.c]::(l.map Cf.aa))))]) ([some (du Cf.aa ([]:List Cf))]) _;refine CG.Vq Cf.aa [] (({var:=Cf.var a,c:=Cf.c a})::l) 0 (fun _=>rfl) rfl k_ (fO (aa:=Cf.aa) (fun _=>rfl) _ (({var:=Cf.var a,c:=Cf.c a})::l)) (by(try simp only[zz]at*)<;>omega) ?_;refine s1 hW 2 0 [] 0 [(2,.sl 0 (List.length ([]++a::l)*2) 0 ([]++a::l).length 2)] ?_;rotate_left;refine CG.tidy (au.H8 (sz:=2) Cf.aa ([]++a::l) 0 2 (a7:=[(2,.d (.list (([]++a::l).map Cf.aa)))]) (H':=[none]) (fun _=>rfl) k_ k_ ⟨.inl rfl,trivial⟩ k_ k_) ?_;refine CG.rt (.d (.list ([.str a.var,.int .i64 a.c]::(l.map Cf.aa)))) ?_;rfl
end Fw.Tz.Vg
/-
  Copies of shapes.
-/
namespace Fw.Tz.Vh
open Go Go.Proofs Fw.X Fw.Tz Fw.Nu Fw.Tz.Sd Fw.Tz.Na Fw.Tz.El Fw.Tz.Va Fw.Tz.Vb
variable {W:World}
theorem B'(hW:W0 W)(l:List Cf)(hl:l.length<1073741824):PC P (gl W) 170 [.d (.list (l.map Cf.aa))] (.d (.list (l.map Cf.aa))):=by
 cases l with
  |nil=>exact wb
  |cons a l=>exact Fw.Tz.Vg.Fj hW a l hl
theorem Fk(hW:W0 W)(l:List aj)(hl:l.length<1073741824)(hd:∀x∈l,x.ts.length<1073741824):PC P (gl W) 110 [.d (.list (l.map aj.aa))] (.d (.list (l.map aj.aa))):=by
 refine CG.start S7 S8 rfl ?_;refine s1 hW 11 0 [] 0 [(2,.ab),(3,.ab),(6,lo aj.aa l),(7,no (l.map aj.aa).length),(8,i0)] ?_;rotate_left;refine CG.tidy (au.BH 3 2 (a7:=[(2,.ab),(3,.sl 0 0 0 0 2),(6,lo aj.aa l),(7,no (l.map aj.aa).length),(8,i0)]) (aaQ _) k_ k_) ?_;show CG _ _ _ _ _ _ ([some .nil]) _;show CG _ _ _ _ _ ([(2,.ab),(3,.sl 0 (List.length ([]:List aj)*2) 0 ([]:List aj).length 2),(6,lo aj.aa l),(7,no (l.map aj.aa).length),(8,i0)]) ([some (aM aj.aa ([]:List aj))]) _;refine CG.bI l (fun i u=>[(2,.ab),(3,.sl 0 ((l.take i).length*2) 0 (l.take i).length 2),(6,lo aj.aa l),(7,no (l.map aj.aa).length),(8,.d (.int .i64 (.ofNat i)))]) (fun i u=>[aM aj.aa (l.take i)]) (fun i u r=>(True)) () ?_ (au.refl _ _) ?_ ?_
 ·trivial
 ·intro i u hi dZ aF;rw[show l.take i=l by rw[hi,ab9]];refine s1 hW 4 0 [] 23 [(9,bo (aP (Int.ofNat i) (Int.ofNat (l.map aj.aa).length)))] ?_;refine CG.ay (fw i (l.map aj.aa).length) k_ ?_;refine CG.bg (by decide) ?_;refine s1 hW 5 0 [] 0 [(2,.sl 0 (List.length l*2) 0 l.length 2)] ?_;rotate_left;refine CG.tidy (au.zA (sz:=2) aj.aa l 0 2 (a7:=[(2,.d (.list (l.map aj.aa)))]) (H':=[none]) (fun _=>rfl) k_ k_ ⟨.inl rfl,trivial⟩ k_ k_) ?_;refine CG.rt (lo aj.aa l) ?_;with_reducible rfl
 ·intro i u x r dZ hx bS aF;have hs:=hd x (aaO hx);have hti:(l.take i).length=i:=by rw[abw];omega
  have Uq:l.take (i+1)=l.take i++[x]:=by rw[acf,hx];rfl
  rw[Uq];refine s1 hW 4 0 [] 31 [(9,bo (aP (Int.ofNat i) (Int.ofNat (l.map aj.aa).length)))] ?_;refine CG.aD (eC i (l.map aj.aa).length) k_ ?_;refine s1 hW 5 0 [] 31 [] ?_;refine CG.gO ?_;refine CG.ix (ax (aa:=aj.aa) hx) rfl k_ ?_;refine s4 hW 2 0 [] 31 [(5,.ptr 1 2 0)] [(1,.cells x.ce)] ?_;refine CG.n8 bG k_ ?_;refine AW.rk 5 [(12,.sl 0 (List.length (List.take i l)*2) 0 (List.take i l).length 2),(13,.ptr 1 2 0),(14,io x.c),(15,.ptr 1 2 1),(16,lo Cf.aa x.ts)] [] k_ ?_;refine AW.kL (B' hW x.ts hs) rfl k_ k_ ?_;refine AW.rk 2 [(18,.agg x.ce),(19,.sl 9 2 0 1 2)] [(9,.cells x.ce)] k_ ?_;rotate_left;refine AW.MX aj.aa (l.take i) x (b:=0) (fun _=>rfl) rfl rfl k_ k_ k_ k_ (by omega) rfl ?_;refine AW.rk 1 [(3,.sl 0 (List.length (List.take i l++[x])*2) 0 (List.take i l++[x]).length 2)] [] k_ ?_;refine AW.nil rfl ⟨k_,AW.fin (H2:=[some (aM aj.aa (List.take i l++[x])),some (.cells x.ce)]++nn 7 ([some (.cells x.ce)])) 10 [2,3,6,7,8] k_ rfl k_ k_ (by simp[nn,aH,aR,dv,aN,fX,an,aq]) ?_⟩;refine s3 hW 2 2 [] [(2,.ab),(3,.sl 0 (List.length (List.take i l++[x])*2) 0 (List.take i l++[x]).length 2),(6,lo aj.aa l),(7,no (l.map aj.aa).length),(8,io (aO IntKind.i64 (bl (Int.ofNat i) 1)))] ([some (aM aj.aa (List.take i l++[x])),some (.cells x.ce)]++nn 7 ([some (.cells x.ce)])) ?_;refine CG.bM rfl ?_;rw[a6 (by omega)];rotate_left;exact⟨(),trivial,au.trim 1 [2,3,6,7,8] rfl rfl rfl rfl (by simp[aH,aR])⟩
end Fw.Tz.Vh
/-
  Shapes split.
-/
/-
  Frames.
-/
/-
  Pairs of an application, whether it holds, and its only frame: the plain law.
-/
/-
  Concatenated shapes and lifted cells, of the program.
-/
namespace Fw.Tz.Pa
open Go Go.Proofs Fw.X Fw.Tz Fw.Nu Fw.Tz.Sd Fw.Tz.Na Fw.Tz.El Fw.Tz.Va Fw.Tz.Vb Fw.Tz.Vh Fw.Tz.Eq Fw.Tz.Ew
variable {W:World}
def B_(row:List UInt8)(ah:List aj)(e:Int):V:=.tuple [vS row ah,.d (.int .i64 e)]
end Fw.Tz.Pa
/-
  Concatenated shapes and lifted cells.
-/
namespace Fw.Tz.Pc
open Go Go.Proofs Fw.X Fw.Tz Fw.Nu Fw.Tz.Sd Fw.Tz.Na Fw.Tz.El Fw.Tz.Va Fw.Tz.Vb Fw.Tz.Vh Fw.Tz.Eq Fw.Tz.Ew Fw.Tz.Pa
variable {W:World}
theorem L3(hW:W0 W)(row:List UInt8)(ah:List aj)(hl:ah.length≤6)(hd:∀x∈ah,x.ts.length<1073741824):PC P (gl W) 175 [.d (.str row),.d (.list (ah.map aj.aa))] (B_ row ah 0):=by
 refine CG.start TP TQ rfl ?_;have L2:ah.length<1073741824:=by omega
 refine s4 hW 7 0 [] 3 [(4,.ptr 0 2 0),(5,i0),(8,bo (aP 6 (Int.ofNat (ah.map aj.aa).length)))] [(0,.cells [sE,.ab])] ?_;refine CG.ay (show(aP 6 (Int.ofNat (ah.map aj.aa).length))=false from lZ) k_ ?_;refine s1 hW 3 2 [] 12 [(10,so row),(11,lo aj.aa ah)] ?_;refine CG.pg (Fk hW _ L2 hd) rfl k_ ?_;refine s4 hW 2 0 [] 3 [] [(0,.cells [so row,lo aj.aa ah])] ?_;refine CG.rt (.tuple [.agg [so row,lo aj.aa ah],i0]) ?_;rfl
end Fw.Tz.Pc
/-
  Pairs of an application.
-/
/-
  Pairs, by the program.
-/
/-
  Pairs, by the reference.
-/
namespace Fw.Tz.Pe
open Go Go.Proofs Fw.X Fw.Tz Fw.Nu Fw.Tz.Na Fw.Tz.El Fw.Tz.Va Fw.Tz.Vb Fw.Tz.Vh Fw.Tz.Eq Fw.Tz.Ew Fw.Tz.Pa Fw.Tz.Pc
variable {W:World}
noncomputable def rg(W:World)(n:Nat)(N j:Nat)(bs:List Bool)(cur:kJ)(K:List Fr)(ks:List Nat)(tm:List (Nat×V))(H:ai):Option XR:=EU [16] (gl W) (um W uW .e (pT W uW .e 40)) (mZ uW .e (pT W uW .e 40)) n N j bs cur K ks tm H
theorem s2(hW:W0 W)(N j:Nat)(bs:List Bool)(m:Nat)(nw:List (Nat×V))(H':ai){cur c':kJ}{K K':List Fr}{n:Nat}{tm:List (Nat×V)}{H:ai}{Q:Ex→St→Prop}(hq:CG P (gl W) c' K' n (mq m nw tm) H' Q)(h1:oQ N j bs cur K=some (c',K'):=by rfl)(h2:rg W n N j bs cur K ((mq m nw tm).map Prod.fst) tm H=some (.tuple ((mq m nw tm).map Prod.snd),H'):=by kernel_rfl):CG P (gl W) cur K n tm H Q:=CG.st bG (jL hW (rU) _ (eT hW (rU) 40)) (fY hW (rU) _ (eT hW (rU) 40)) N j bs h1 h2 hq
theorem s1(hW:W0 W)(N j:Nat)(bs:List Bool)(m:Nat)(nw:List (Nat×V)){cur c':kJ}{K K':List Fr}{n:Nat}{tm:List (Nat×V)}{H:ai}{Q:Ex→St→Prop}(hq:CG P (gl W) c' K' n (mq m nw tm) H Q)(h1:oQ N j bs cur K=some (c',K'):=by rfl)(h2:rg W n N j bs cur K ((mq m nw tm).map Prod.fst) tm H=some (.tuple ((mq m nw tm).map Prod.snd),H):=by kernel_rfl):CG P (gl W) cur K n tm H Q:=s2 hW N j bs m nw H hq h1 h2
theorem s4(hW:W0 W)(N j:Nat)(bs:List Bool)(m:Nat)(nw:List (Nat×V))(hd:List (Nat×eG)){cur c':kJ}{K K':List Fr}{n:Nat}{tm:List (Nat×V)}{H:ai}{Q:Ex→St→Prop}(hq:CG P (gl W) c' K' n (mq m nw tm) (Dz hd H) Q)(h1:oQ N j bs cur K=some (c',K'):=by rfl)(h2:rg W n N j bs cur K ((mq m nw tm).map Prod.fst) tm H=some (.tuple ((mq m nw tm).map Prod.snd),Dz hd H):=by kernel_rfl):CG P (gl W) cur K n tm H Q:=s2 hW N j bs m nw (Dz hd H) hq h1 h2
theorem DW(hW:W0 W)(row:List UInt8)(d1 d2:List aj)(h1:d1.length<1048576)(h2:d2.length<1048576):PC P (gl W) 78 [.d (.str row),.d (.list (d1.map aj.aa)),.d (.list (d2.map aj.aa))] (if d1.length+d2.length≤6 then B_ row (d1++d2) 0 else B_ [] [] 3):=by
 refine CG.start YE YF rfl ?_;by_cases h6:d1.length+d2.length≤6
 ·rw[aaP h6];refine s4 hW 7 0 [] 7 [(6,.ptr 0 2 0),(7,i0),(13,bo (aP 6 (aO IntKind.i64 (bl (Int.ofNat (d1.map aj.aa).length) (Int.ofNat (d2.map aj.aa).length)))))] [(0,.cells [sE,.ab])] ?_;rw[show aO .i64 (bl (Int.ofNat (d1.map aj.aa).length) (Int.ofNat (d2.map aj.aa).length))=Int.ofNat (d1.length+d2.length)from by rw[gA,kh,IntKind.wrap_i64,aaW,aaW];simp only[abI];omega];refine CG.ay (show(aP 6 (Int.ofNat (List.length d1+List.length d2)))=false from lZ) k_ ?_;refine s4 hW 3 3 [] 28 [(15,so row),(16,.sl 1 0 0 0 2),(17,lo aj.aa d1)] [(1,.cells [])] ?_;rotate_left;refine CG.is [(2,lo aj.aa d2),(6,.ptr 0 2 0),(7,i0),(15,so row),(16,.sl 1 (List.length ([]:List aj)*2) 0 ([]:List aj).length 2),(17,lo aj.aa d1)] ([some (.cells [sE,.ab]),some (du aj.aa ([]:List aj))]) k_ ?_;refine CG.Vq aj.aa [] d1 1 (fun _=>rfl) rfl k_ (fO (aa:=aj.aa) (fun _=>rfl) _ d1) (by(try simp only[zz]at*)<;>omega) ?_;refine s1 hW 0 1 [] 78 [(19,lo aj.aa d2)] ?_;refine CG.Vq aj.aa ([]++d1) d2 1 (fun _=>rfl) rfl k_ (fO (aa:=aj.aa) (fun _=>rfl) _ d2) (by(try simp only[zz]at*)<;>omega) ?_;refine CG.RR (au.H8 (sz:=2) aj.aa ([]++d1++d2) 1 20 (a7:=[(6,.ptr 0 2 0),(7,i0),(15,so row),(18,.any),(19,lo aj.aa d2),(20,.d (.list (([]++d1++d2).map aj.aa)))]) (H':=[some (.cells [sE,.ab]),none]) (fun _=>rfl) k_ k_ ⟨.inr rfl,⟨.inl rfl,trivial⟩⟩ k_ k_) ?_;refine s4 hW 2 0 [] 3 [] [(0,.cells [so row,lo aj.aa ([]++d1++d2)])] ?_;refine CG.rt (.tuple [.agg [so row,lo aj.aa ([]++d1++d2)],i0]) ?_;rfl
 ·rw[aaL h6];refine s4 hW 7 0 [] 7 [(6,.ptr 0 2 0),(7,i0),(13,bo (aP 6 (aO IntKind.i64 (bl (Int.ofNat (d1.map aj.aa).length) (Int.ofNat (d2.map aj.aa).length)))))] [(0,.cells [sE,.ab])] ?_;rw[show aO .i64 (bl (Int.ofNat (d1.map aj.aa).length) (Int.ofNat (d2.map aj.aa).length))=Int.ofNat (d1.length+d2.length)from by rw[gA,kh,IntKind.wrap_i64,aaW,aaW];simp only[abI];omega];refine CG.aD (show(aP 6 (Int.ofNat (List.length d1+List.length d2)))=true from ki) k_ ?_;refine s1 hW 3 0 [] 15 [(7,io 3)] ?_;refine CG.rt (.tuple [.agg [sE,.d (.list [])],io 3]) ?_;rfl
end Fw.Tz.Pe
