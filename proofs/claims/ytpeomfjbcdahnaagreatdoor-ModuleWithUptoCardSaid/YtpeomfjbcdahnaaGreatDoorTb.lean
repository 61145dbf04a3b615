/-
  The program's sum of two terms: (*sum).result.
-/
import Derived.Test.YtpeomfjbcdahnaaGreatDoorTq
import Derived.Test.YtpeomfjbcdahnaaGreatDoorTl
import Derived.Test.YtpeomfjbcdahnaaGreatDoorTp
import Derived.Test.YtpeomfjbcdahnaaGreatDoorTm
import Derived.Test.YtpeomfjbcdahnaaGreatDoorTe
import Derived.Test.YtpeomfjbcdahnaaGreatDoorFg
set_option linter.unusedSimpArgs false
set_option maxRecDepth 1000000
set_option maxHeartbeats 4000000
set_option linter.unusedVariables false
namespace Fw.Tz.S2
open Go Go.Proofs Fw.X Fw.Tz Fw.Nu Fw.Tz.Sd Fw.Tz.Na Fw.Tz.El Fw.Tz.Va Fw.Tz.Vb Fw.Tz.Tm Fw.Tz.Mb Fw.Tz.Ky
variable {W:World}
def hS(n c:Int)(k:List UInt8):ao:=[some (.cells [sE,io n,.map 1]),some (.map [(.str k,io c),(.str [110],io 1)])]
def vS(n c:Int)(k:List UInt8):V:=.tuple [.agg [io n,.d (.list [[.str k,.int .i64 c],[.str [110],.int .i64 1]])],i0]
theorem tg{seen:List Nat}(h:j6 2 seen)(ha:∀i,i<2->i∈seen):seen=[0,1]\/seen=[1,0]:=by
 have hp:=h.perm ha;rw[show List.range 2=[0,1]from rfl]at hp;have hl:=hp.length_eq;have h0:=hp.subset;match seen,hl with
  |[a,b],_=>
   have h1:=h.2 a abC;have h2:=h.2 b (aaZ _ abC);have hn:=h.1;simp at hn;have:(a=0/\b=1)\/(a=1/\b=0):=by omega
   rcases this with⟨rfl,rfl⟩|⟨rfl,rfl⟩
   ·exact .inl rfl
   ·exact .inr rfl
theorem Qo(hW:W0 W):WF P (gl W) 227 [.ptr 0 3 1] (hS 0 (-1) [107]) (iI (vS 0 (-1) [107]) (hS 0 (-1) [107])):=by
 refine WF.e9 (CG.bX FF FG rfl ?_ );unfold hS;refine s4 hW 14 0 [] 1 [(2,.ptr 2 2 0),(3,i0),(4,.ptr 3 2 0),(5,.aj),(19,.iter 4 1)] [(2,.cells [i0,.aj]),(3,.cells [i0,.aj]),(4,bW.bM 1 2 [])] ?_;rotate_left;refine CG.tidy (ay.Fk 5 1 (aZ:=[(0,.ptr 0 3 1),(2,.ptr 2 2 0),(3,i0),(4,.ptr 3 2 0),(5,.sl 5 0 0 0 1),(19,.iter 4 1)]) (aaE _) k_ k_) ?_;refine CG.mX ([some (.cells [sE,i0,.map 1]),some (bW.map [(D.str [107],io (-1)),(D.str [110],io 1)]),some (.cells [i0,.aj]),some (.cells [i0,.aj]),some (bW.bM 1 2 []),some .nil]) k_ ?_;refine CG.is [(0,.ptr 0 3 1),(2,.ptr 2 2 0),(3,i0),(4,.ptr 3 2 0),(5,.sl 5 (List.length ([]:List (List UInt8))*1) 0 (List.length ([]:List (List UInt8))) 1),(19,.iter 4 1)] ([some (.cells [sE,i0,.map 1]),some (bW.map [(D.str [107],io (-1)),(D.str [110],io 1)]),some (.cells [i0,.aj]),some (.cells [i0,.aj]),some (bW.bM 1 2 []),some (aJ encS ([]:List (List UInt8)))]) k_ ?_;refine CG.sP (α:=List Nat) (fun s=>[(0,.ptr 0 3 1),(2,.ptr 2 2 0),(3,i0),(4,.ptr 3 2 0),(5,.sl 5 ((bp [[107],[110]] s).length*1) 0 (bp [[107],[110]] s).length 1),(19,.iter 4 1)]) (fun s=>[some (.cells [sE,i0,.map 1]),some (.map [(.str [107],io (-1)),(.str [110],io 1)]),some (.cells [i0,.aj]),some (.cells [i0,.aj]),some (.bM 1 2 s),some (aJ encS (bp [[107],[110]] s))]) (fun s=>j6 2 s) (fun s=>2 - s.length) [] ⟨by simp,by simp⟩ (ay.refl _ _) ?_;intro seen hs;have hle:=hs.le;refine s1 hW 1 0 [] 63 [] ?_;refine CG.dA ?_;rotate_left;refine CG.f_ 4 1 2 seen [(.str [107],io (-1)),(.str [110],io 1)] rfl k_ rfl rfl (fun i key v hi fC=>?_ ) (fun jj=>?_ )
 ·have zA:i<2:=(aaA.1 hi).1;have ve:=hs.snoc zA fC;have An:=ve.le;have hac:(bp [[107],[110]] seen).length<10:=by simp[bp];omega
  simp only[aap,aa2]at An;obtain⟨rfl,rfl,rfl⟩|⟨rfl,rfl,rfl⟩:(i=0/\key=.str [107]/\v=io (-1))\/(i=1/\key=.str [110]/\v=io 1):=by
   match i,zA with
    |0,_=>simp at hi;exact .inl ⟨rfl,hi.1.symm,hi.2.symm⟩
    |1,_=>simp at hi;exact .inr ⟨rfl,hi.1.symm,hi.2.symm⟩
  ·refine s1 hW 8 0 [true] 63 [] ?_;refine CG.dA ?_;rotate_left;refine CG.entry 4 1 2 _ seen hi rfl k_ rfl (by rfl) ?_;refine s1 hW 6 3 [true] 63 [(27,.sl 5 (List.length (bp [[107],[110]] seen)*1) 0 (bp [[107],[110]] seen).length 1),(29,.d (.list [[.str [107]]]))] ?_;refine CG.sU ?_;refine CG.DT Tm.encS (bp [[107],[110]] seen) ([107]::[]) 5 (fun _=>rfl) rfl k_ k_ (by(try simp only[zz]at*)<;>omega) ?_;refine s3 hW 0 1 [] [(0,.ptr 0 3 1),(2,.ptr 2 2 0),(3,i0),(4,.ptr 3 2 0),(5,.sl 5 (List.length (bp [[107],[110]] seen++[[107]])*1) 0 (bp [[107],[110]] seen++[[107]]).length 1),(19,.iter 4 1)] ([some (.cells [sE,i0,.map 1]),some (bW.map [(D.str [107],io (-1)),(D.str [110],io 1)]),some (.cells [i0,.aj]),some (.cells [i0,.aj]),some (bW.bM 1 2 (seen++[0])),some (aJ Tm.encS (bp [[107],[110]] seen++[[107]]))]) ?_;refine CG.eu rfl ?_;rotate_left;refine⟨seen++[_],ve,by simp only[aap,aa2];omega,?_ ⟩;rw[show∀j,bp [[107],[110]] (seen++[j])=bp [[107],[110]] seen++[([[107],[110]]:List (List UInt8)).getD j []]from fun j=>by simp[bp]];exact ay.refl _ _
  ·refine s1 hW 8 0 [true] 63 [] ?_;refine CG.dA ?_;rotate_left;refine CG.entry 4 1 2 _ seen hi rfl k_ rfl (by rfl) ?_;refine s1 hW 6 3 [true] 63 [(27,.sl 5 (List.length (bp [[107],[110]] seen)*1) 0 (bp [[107],[110]] seen).length 1),(29,.d (.list [[.str [110]]]))] ?_;refine CG.sU ?_;refine CG.DT Tm.encS (bp [[107],[110]] seen) ([110]::[]) 5 (fun _=>rfl) rfl k_ k_ (by(try simp only[zz]at*)<;>omega) ?_;refine s3 hW 0 1 [] [(0,.ptr 0 3 1),(2,.ptr 2 2 0),(3,i0),(4,.ptr 3 2 0),(5,.sl 5 (List.length (bp [[107],[110]] seen++[[110]])*1) 0 (bp [[107],[110]] seen++[[110]]).length 1),(19,.iter 4 1)] ([some (.cells [sE,i0,.map 1]),some (bW.map [(D.str [107],io (-1)),(D.str [110],io 1)]),some (.cells [i0,.aj]),some (.cells [i0,.aj]),some (bW.bM 1 2 (seen++[1])),some (aJ Tm.encS (bp [[107],[110]] seen++[[110]]))]) ?_;refine CG.eu rfl ?_;rotate_left;refine⟨seen++[_],ve,by simp only[aap,aa2];omega,?_ ⟩;rw[show∀j,bp [[107],[110]] (seen++[j])=bp [[107],[110]] seen++[([[107],[110]]:List (List UInt8)).getD j []]from fun j=>by simp[bp]];exact ay.refl _ _
 ·rcases tg hs jj with rfl|rfl
  ·refine s1 hW 4 0 [false] 63 [] ?_;refine CG.aV (by decide) ?_;refine s2 hW 65 0 [true,true,false,false] 7 [] ([some (.cells [sE,i0,.map 1]),some (bW.map [(D.str [107],io (-1)),(D.str [110],io 1)]),some (.cells [i0,.sl 17 4 0 2 2]),some (.cells [i0,.sl 17 4 0 2 2]),some (bW.bM 1 2 [0,1]),some (aJ Tm.encS (bp [[107],[110]] [0,1]))]++nn 11 ([some (.cells [so [107],io (-1),so [110],io 1])]++nn 16 ([]))) ?_;refine CG.cM (.tuple [.agg [i0,.sl 17 4 0 2 2],i0]) ?_;rotate_left;exact⟨_,ay.trans (ay.lB (b:=17) (by rfl)) (ay.trim 2 [0] rfl rfl rfl rfl rfl),rfl,rfl⟩
  ·refine s1 hW 4 0 [false] 63 [] ?_;refine CG.aV (by decide) ?_;refine s2 hW 65 0 [true,true,false,false] 7 [] ([some (.cells [sE,i0,.map 1]),some (bW.map [(D.str [107],io (-1)),(D.str [110],io 1)]),some (.cells [i0,.sl 17 4 0 2 2]),some (.cells [i0,.sl 17 4 0 2 2]),some (bW.bM 1 2 [1,0]),some (.cells [so [107],so [110]])]++nn 11 ([some (.cells [so [107],io (-1),so [110],io 1])]++nn 16 ([]))) ?_;refine CG.cM (.tuple [.agg [i0,.sl 17 4 0 2 2],i0]) ?_;rotate_left;exact⟨_,ay.trans (ay.lB (b:=17) (by rfl)) (ay.trim 2 [0] rfl rfl rfl rfl rfl),rfl,rfl⟩
theorem Qp(hW:W0 W):WF P (gl W) 227 [.ptr 0 3 1] (hS 0 (1) [109]) (iI (vS 0 (1) [109]) (hS 0 (1) [109])):=by
 refine WF.e9 (CG.bX FF FG rfl ?_ );unfold hS;refine s4 hW 14 0 [] 1 [(2,.ptr 2 2 0),(3,i0),(4,.ptr 3 2 0),(5,.aj),(19,.iter 4 1)] [(2,.cells [i0,.aj]),(3,.cells [i0,.aj]),(4,bW.bM 1 2 [])] ?_;rotate_left;refine CG.tidy (ay.Fk 5 1 (aZ:=[(0,.ptr 0 3 1),(2,.ptr 2 2 0),(3,i0),(4,.ptr 3 2 0),(5,.sl 5 0 0 0 1),(19,.iter 4 1)]) (aaE _) k_ k_) ?_;refine CG.mX ([some (.cells [sE,i0,.map 1]),some (bW.map [(D.str [109],io 1),(D.str [110],io 1)]),some (.cells [i0,.aj]),some (.cells [i0,.aj]),some (bW.bM 1 2 []),some .nil]) k_ ?_;refine CG.is [(0,.ptr 0 3 1),(2,.ptr 2 2 0),(3,i0),(4,.ptr 3 2 0),(5,.sl 5 (List.length ([]:List (List UInt8))*1) 0 (List.length ([]:List (List UInt8))) 1),(19,.iter 4 1)] ([some (.cells [sE,i0,.map 1]),some (bW.map [(D.str [109],io 1),(D.str [110],io 1)]),some (.cells [i0,.aj]),some (.cells [i0,.aj]),some (bW.bM 1 2 []),some (aJ encS ([]:List (List UInt8)))]) k_ ?_;refine CG.sP (α:=List Nat) (fun s=>[(0,.ptr 0 3 1),(2,.ptr 2 2 0),(3,i0),(4,.ptr 3 2 0),(5,.sl 5 ((bp [[109],[110]] s).length*1) 0 (bp [[109],[110]] s).length 1),(19,.iter 4 1)]) (fun s=>[some (.cells [sE,i0,.map 1]),some (.map [(.str [109],io (1)),(.str [110],io 1)]),some (.cells [i0,.aj]),some (.cells [i0,.aj]),some (.bM 1 2 s),some (aJ encS (bp [[109],[110]] s))]) (fun s=>j6 2 s) (fun s=>2 - s.length) [] ⟨by simp,by simp⟩ (ay.refl _ _) ?_;intro seen hs;have hle:=hs.le;refine s1 hW 1 0 [] 63 [] ?_;refine CG.dA ?_;rotate_left;refine CG.f_ 4 1 2 seen [(.str [109],io (1)),(.str [110],io 1)] rfl k_ rfl rfl (fun i key v hi fC=>?_ ) (fun jj=>?_ )
 ·have zA:i<2:=(aaA.1 hi).1;have ve:=hs.snoc zA fC;have An:=ve.le;have hac:(bp [[109],[110]] seen).length<10:=by simp[bp];omega
  simp only[aap,aa2]at An;obtain⟨rfl,rfl,rfl⟩|⟨rfl,rfl,rfl⟩:(i=0/\key=.str [109]/\v=io (1))\/(i=1/\key=.str [110]/\v=io 1):=by
   match i,zA with
    |0,_=>simp at hi;exact .inl ⟨rfl,hi.1.symm,hi.2.symm⟩
    |1,_=>simp at hi;exact .inr ⟨rfl,hi.1.symm,hi.2.symm⟩
  ·refine s1 hW 8 0 [true] 63 [] ?_;refine CG.dA ?_;rotate_left;refine CG.entry 4 1 2 _ seen hi rfl k_ rfl (by rfl) ?_;refine s1 hW 6 3 [true] 63 [(27,.sl 5 (List.length (bp [[109],[110]] seen)*1) 0 (bp [[109],[110]] seen).length 1),(29,.d (.list [[.str [109]]]))] ?_;refine CG.sU ?_;refine CG.DT Tm.encS (bp [[109],[110]] seen) ([109]::[]) 5 (fun _=>rfl) rfl k_ k_ (by(try simp only[zz]at*)<;>omega) ?_;refine s3 hW 0 1 [] [(0,.ptr 0 3 1),(2,.ptr 2 2 0),(3,i0),(4,.ptr 3 2 0),(5,.sl 5 (List.length (bp [[109],[110]] seen++[[109]])*1) 0 (bp [[109],[110]] seen++[[109]]).length 1),(19,.iter 4 1)] ([some (.cells [sE,i0,.map 1]),some (bW.map [(D.str [109],io 1),(D.str [110],io 1)]),some (.cells [i0,.aj]),some (.cells [i0,.aj]),some (bW.bM 1 2 (seen++[0])),some (aJ Tm.encS (bp [[109],[110]] seen++[[109]]))]) ?_;refine CG.eu rfl ?_;rotate_left;refine⟨seen++[_],ve,by simp only[aap,aa2];omega,?_ ⟩;rw[show∀j,bp [[109],[110]] (seen++[j])=bp [[109],[110]] seen++[([[109],[110]]:List (List UInt8)).getD j []]from fun j=>by simp[bp]];exact ay.refl _ _
  ·refine s1 hW 8 0 [true] 63 [] ?_;refine CG.dA ?_;rotate_left;refine CG.entry 4 1 2 _ seen hi rfl k_ rfl (by rfl) ?_;refine s1 hW 6 3 [true] 63 [(27,.sl 5 (List.length (bp [[109],[110]] seen)*1) 0 (bp [[109],[110]] seen).length 1),(29,.d (.list [[.str [110]]]))] ?_;refine CG.sU ?_;refine CG.DT Tm.encS (bp [[109],[110]] seen) ([110]::[]) 5 (fun _=>rfl) rfl k_ k_ (by(try simp only[zz]at*)<;>omega) ?_;refine s3 hW 0 1 [] [(0,.ptr 0 3 1),(2,.ptr 2 2 0),(3,i0),(4,.ptr 3 2 0),(5,.sl 5 (List.length (bp [[109],[110]] seen++[[110]])*1) 0 (bp [[109],[110]] seen++[[110]]).length 1),(19,.iter 4 1)] ([some (.cells [sE,i0,.map 1]),some (bW.map [(D.str [109],io 1),(D.str [110],io 1)]),some (.cells [i0,.aj]),some (.cells [i0,.aj]),some (bW.bM 1 2 (seen++[1])),some (aJ Tm.encS (bp [[109],[110]] seen++[[110]]))]) ?_;refine CG.eu rfl ?_;rotate_left;refine⟨seen++[_],ve,by simp only[aap,aa2];omega,?_ ⟩;rw[show∀j,bp [[109],[110]] (seen++[j])=bp [[109],[110]] seen++[([[109],[110]]:List (List UInt8)).getD j []]from fun j=>by simp[bp]];exact ay.refl _ _
 ·rcases tg hs jj with rfl|rfl
  ·refine s1 hW 4 0 [false] 63 [] ?_;refine CG.aV (by decide) ?_;refine s2 hW 65 0 [true,true,false,false] 7 [] ([some (.cells [sE,i0,.map 1]),some (bW.map [(D.str [109],io 1),(D.str [110],io 1)]),some (.cells [i0,.sl 17 4 0 2 2]),some (.cells [i0,.sl 17 4 0 2 2]),some (bW.bM 1 2 [0,1]),some (aJ Tm.encS (bp [[109],[110]] [0,1]))]++nn 11 ([some (.cells [so [109],io 1,so [110],io 1])]++nn 16 ([]))) ?_;refine CG.cM (.tuple [.agg [i0,.sl 17 4 0 2 2],i0]) ?_;rotate_left;exact⟨_,ay.trans (ay.lB (b:=17) (by rfl)) (ay.trim 2 [0] rfl rfl rfl rfl rfl),rfl,rfl⟩
  ·refine s1 hW 4 0 [false] 63 [] ?_;refine CG.aV (by decide) ?_;refine s2 hW 65 0 [true,true,false,false] 7 [] ([some (.cells [sE,i0,.map 1]),some (bW.map [(D.str [109],io 1),(D.str [110],io 1)]),some (.cells [i0,.sl 17 4 0 2 2]),some (.cells [i0,.sl 17 4 0 2 2]),some (bW.bM 1 2 [1,0]),some (.cells [so [109],so [110]])]++nn 11 ([some (.cells [so [109],io 1,so [110],io 1])]++nn 16 ([]))) ?_;refine CG.cM (.tuple [.agg [i0,.sl 17 4 0 2 2],i0]) ?_;rotate_left;exact⟨_,ay.trans (ay.lB (b:=17) (by rfl)) (ay.trim 2 [0] rfl rfl rfl rfl rfl),rfl,rfl⟩
theorem Qq(hW:W0 W):WF P (gl W) 227 [.ptr 0 3 1] (hS 1 (-1) [107]) (iI (vS 1 (-1) [107]) (hS 1 (-1) [107])):=by
 refine WF.e9 (CG.bX FF FG rfl ?_ );unfold hS;refine s4 hW 14 0 [] 1 [(2,.ptr 2 2 0),(3,i0),(4,.ptr 3 2 0),(5,.aj),(19,.iter 4 1)] [(2,.cells [i0,.aj]),(3,.cells [io 1,.aj]),(4,bW.bM 1 2 [])] ?_;rotate_left;refine CG.tidy (ay.Fk 5 1 (aZ:=[(0,.ptr 0 3 1),(2,.ptr 2 2 0),(3,i0),(4,.ptr 3 2 0),(5,.sl 5 0 0 0 1),(19,.iter 4 1)]) (aaE _) k_ k_) ?_;refine CG.mX ([some (.cells [sE,io 1,.map 1]),some (bW.map [(D.str [107],io (-1)),(D.str [110],io 1)]),some (.cells [i0,.aj]),some (.cells [io 1,.aj]),some (bW.bM 1 2 []),some .nil]) k_ ?_;refine CG.is [(0,.ptr 0 3 1),(2,.ptr 2 2 0),(3,i0),(4,.ptr 3 2 0),(5,.sl 5 (List.length ([]:List (List UInt8))*1) 0 (List.length ([]:List (List UInt8))) 1),(19,.iter 4 1)] ([some (.cells [sE,io 1,.map 1]),some (bW.map [(D.str [107],io (-1)),(D.str [110],io 1)]),some (.cells [i0,.aj]),some (.cells [io 1,.aj]),some (bW.bM 1 2 []),some (aJ encS ([]:List (List UInt8)))]) k_ ?_;refine CG.sP (α:=List Nat) (fun s=>[(0,.ptr 0 3 1),(2,.ptr 2 2 0),(3,i0),(4,.ptr 3 2 0),(5,.sl 5 ((bp [[107],[110]] s).length*1) 0 (bp [[107],[110]] s).length 1),(19,.iter 4 1)]) (fun s=>[some (.cells [sE,io 1,.map 1]),some (.map [(.str [107],io (-1)),(.str [110],io 1)]),some (.cells [i0,.aj]),some (.cells [io 1,.aj]),some (.bM 1 2 s),some (aJ encS (bp [[107],[110]] s))]) (fun s=>j6 2 s) (fun s=>2 - s.length) [] ⟨by simp,by simp⟩ (ay.refl _ _) ?_;intro seen hs;have hle:=hs.le;refine s1 hW 1 0 [] 63 [] ?_;refine CG.dA ?_;rotate_left;refine CG.f_ 4 1 2 seen [(.str [107],io (-1)),(.str [110],io 1)] rfl k_ rfl rfl (fun i key v hi fC=>?_ ) (fun jj=>?_ )
 ·have zA:i<2:=(aaA.1 hi).1;have ve:=hs.snoc zA fC;have An:=ve.le;have hac:(bp [[107],[110]] seen).length<10:=by simp[bp];omega
  simp only[aap,aa2]at An;obtain⟨rfl,rfl,rfl⟩|⟨rfl,rfl,rfl⟩:(i=0/\key=.str [107]/\v=io (-1))\/(i=1/\key=.str [110]/\v=io 1):=by
   match i,zA with
    |0,_=>simp at hi;exact .inl ⟨rfl,hi.1.symm,hi.2.symm⟩
    |1,_=>simp at hi;exact .inr ⟨rfl,hi.1.symm,hi.2.symm⟩
  ·refine s1 hW 8 0 [true] 63 [] ?_;refine CG.dA ?_;rotate_left;refine CG.entry 4 1 2 _ seen hi rfl k_ rfl (by rfl) ?_;refine s1 hW 6 3 [true] 63 [(27,.sl 5 (List.length (bp [[107],[110]] seen)*1) 0 (bp [[107],[110]] seen).length 1),(29,.d (.list [[.str [107]]]))] ?_;refine CG.sU ?_;refine CG.DT Tm.encS (bp [[107],[110]] seen) ([107]::[]) 5 (fun _=>rfl) rfl k_ k_ (by(try simp only[zz]at*)<;>omega) ?_;refine s3 hW 0 1 [] [(0,.ptr 0 3 1),(2,.ptr 2 2 0),(3,i0),(4,.ptr 3 2 0),(5,.sl 5 (List.length (bp [[107],[110]] seen++[[107]])*1) 0 (bp [[107],[110]] seen++[[107]]).length 1),(19,.iter 4 1)] ([some (.cells [sE,io 1,.map 1]),some (bW.map [(D.str [107],io (-1)),(D.str [110],io 1)]),some (.cells [i0,.aj]),some (.cells [io 1,.aj]),some (bW.bM 1 2 (seen++[0])),some (aJ Tm.encS (bp [[107],[110]] seen++[[107]]))]) ?_;refine CG.eu rfl ?_;rotate_left;refine⟨seen++[_],ve,by simp only[aap,aa2];omega,?_ ⟩;rw[show∀j,bp [[107],[110]] (seen++[j])=bp [[107],[110]] seen++[([[107],[110]]:List (List UInt8)).getD j []]from fun j=>by simp[bp]];exact ay.refl _ _
  ·refine s1 hW 8 0 [true] 63 [] ?_;refine CG.dA ?_;rotate_left;refine CG.entry 4 1 2 _ seen hi rfl k_ rfl (by rfl) ?_;refine s1 hW 6 3 [true] 63 [(27,.sl 5 (List.length (bp [[107],[110]] seen)*1) 0 (bp [[107],[110]] seen).length 1),(29,.d (.list [[.str [110]]]))] ?_;refine CG.sU ?_;refine CG.DT Tm.encS (bp [[107],[110]] seen) ([110]::[]) 5 (fun _=>rfl) rfl k_ k_ (by(try simp only[zz]at*)<;>omega) ?_;refine s3 hW 0 1 [] [(0,.ptr 0 3 1),(2,.ptr 2 2 0),(3,i0),(4,.ptr 3 2 0),(5,.sl 5 (List.length (bp [[107],[110]] seen++[[110]])*1) 0 (bp [[107],[110]] seen++[[110]]).length 1),(19,.iter 4 1)] ([some (.cells [sE,io 1,.map 1]),some (bW.map [(D.str [107],io (-1)),(D.str [110],io 1)]),some (.cells [i0,.aj]),some (.cells [io 1,.aj]),some (bW.bM 1 2 (seen++[1])),some (aJ Tm.encS (bp [[107],[110]] seen++[[110]]))]) ?_;refine CG.eu rfl ?_;rotate_left;refine⟨seen++[_],ve,by simp only[aap,aa2];omega,?_ ⟩;rw[show∀j,bp [[107],[110]] (seen++[j])=bp [[107],[110]] seen++[([[107],[110]]:List (List UInt8)).getD j []]from fun j=>by simp[bp]];exact ay.refl _ _
 ·rcases tg hs jj with rfl|rfl
  ·refine s1 hW 4 0 [false] 63 [] ?_;refine CG.aV (by decide) ?_;refine s2 hW 65 0 [true,true,false,false] 7 [] ([some (.cells [sE,io 1,.map 1]),some (bW.map [(D.str [107],io (-1)),(D.str [110],io 1)]),some (.cells [io 1,.sl 17 4 0 2 2]),some (.cells [io 1,.sl 17 4 0 2 2]),some (bW.bM 1 2 [0,1]),some (aJ Tm.encS (bp [[107],[110]] [0,1]))]++nn 11 ([some (.cells [so [107],io (-1),so [110],io 1])]++nn 16 ([]))) ?_;refine CG.cM (.tuple [.agg [io 1,.sl 17 4 0 2 2],i0]) ?_;rotate_left;exact⟨_,ay.trans (ay.lB (b:=17) (by rfl)) (ay.trim 2 [0] rfl rfl rfl rfl rfl),rfl,rfl⟩
  ·refine s1 hW 4 0 [false] 63 [] ?_;refine CG.aV (by decide) ?_;refine s2 hW 65 0 [true,true,false,false] 7 [] ([some (.cells [sE,io 1,.map 1]),some (bW.map [(D.str [107],io (-1)),(D.str [110],io 1)]),some (.cells [io 1,.sl 17 4 0 2 2]),some (.cells [io 1,.sl 17 4 0 2 2]),some (bW.bM 1 2 [1,0]),some (.cells [so [107],so [110]])]++nn 11 ([some (.cells [so [107],io (-1),so [110],io 1])]++nn 16 ([]))) ?_;refine CG.cM (.tuple [.agg [io 1,.sl 17 4 0 2 2],i0]) ?_;rotate_left;exact⟨_,ay.trans (ay.lB (b:=17) (by rfl)) (ay.trim 2 [0] rfl rfl rfl rfl rfl),rfl,rfl⟩
end Fw.Tz.S2
/-
  module.primitive of the program, at any name.
-/
namespace Fw.Tz.Yp
open Go Go.Proofs Fw.X Fw.Tz Fw.Nu Fw.Tz.Sd Fw.Tz.Tm Fw.Tz.Yq Fw.Tz.S2
variable {W:World}
def Ux(n c:Int)(s:List UInt8):Bool:=(aN n 0&&aN c (-1)&&Fw.ah s [107])||(aN n 0&&aN c 1&&Fw.ah s [109])||(aN n 1&&aN c (-1)&&Fw.ah s [107])
theorem Qr(hW:W0 W){n c:Int}{s:List UInt8}(h:Ux n c s=true):WF P (gl W) 227 [.ptr 0 3 1] (hS n c s) (iI (vS n c s) (hS n c s)):=by
 simp only[Ux,abq,aas,cR,beq_iff_eq]at h;rcases h with(⟨⟨rfl,rfl⟩,h⟩|⟨⟨rfl,rfl⟩,h⟩)|⟨⟨rfl,rfl⟩,h⟩<;>obtain rfl:=cN h
 ·exact Qo hW
 ·exact Qp hW
 ·exact Qq hW
def Wy(args:List V)(H:ao):Option (V×ao):=match args with
 |[.ptr b 3 1]=>
  match aA H b with
   |some (.cells [.d (.str []),.d (.int .i64 n),.map m])=>
    match aA H m with
     |some (.map [(.str s,.d (.int .i64 c)),(.str u,.d (.int .i64 e))])=>bif !(Nat.beq b m)&&Fw.ah u [110]&&aN e 1&&Ux n c s then some (vS n c s,H)else none
     |_=>none
   |_=>none
 |_=>none
theorem vf{H:ao}{b:Nat}{y:bW}(h:aA H b=some y):aR H b y=H:=by
 induction H generalizing b with
  |nil=>simp[aA]at h
  |cons x H ih=>
   cases b with
    |zero=>simp only[aA]at h;simp[aR,h]
    |succ b=>simp only[aA]at h;simp[aR,ih h]
theorem Mh(hW:W0 W){args:List V}{H:ao}{v:V}{H':ao}(h:Wy args H=some (v,H')):WF P (gl W) 227 args H (fun r k=>r=v/\k=H'):=by
 unfold Wy at h;split at h
 ·rename_i b;split at h
  ·rename_i n m hb;split at h
   ·rename_i s c u e hm;cases hc:(!(Nat.beq b m)&&Fw.ah u [110]&&aN e 1&&Ux n c s)with
     |false=>rw[hc]at h;cases h
     |true=>
      rw[hc]at h;simp only[aaw,aat,aay]at h;obtain⟨rfl,rfl⟩:=h;simp only[aas,abW,cR,beq_iff_eq]at hc;obtain⟨⟨⟨c1,c2⟩,rfl⟩,c4⟩:=hc;obtain rfl:=cN c2;have hbm:b≠m:=by rintro rfl;simp at c1
      refine WF.frame [b,m] (Qr hW c4) (by simpa using hbm) rfl rfl (by simp[hS,aS,cZ,aE,aC]) (H:=H) (Q:=fun r k=>r=vS n c s/\k=H) ?_ ?_
      ·intro i hi;have:i=0\/i=1:=by simp at hi;omega
       rcases this with rfl|rfl
       ·exact⟨_,rfl,hb⟩
       ·exact⟨_,rfl,hm⟩
      ·rintro r H2 ⟨rfl,rfl⟩;refine⟨rfl,rfl,by simp[hS,aS,cZ,aE,aC],rfl,?_ ⟩;show fK [b,m] (hS n c s) 0 [b,m] H=H;have e1:=vf hb;have e2:=vf hm;simp only[fK,hS,aA,dE,ff,de,aaG,aa5,List.getD_cons_zero,acs];rw[e1,e2]
   ·cases h
  ·cases h
 ·cases h
def FH:z6:=fun aO f args H=>bif Nat.beq f 227 then Wy args H else mU aO f args H
theorem FI(hW:W0 W):wj P (gl W) FH:=by
 intro aO hp f args H v H' h;unfold FH at h;cases h1:Nat.beq f 227 with
  |true=>rw[h1]at h;obtain rfl:=aav h1;exact Mh hW h
  |false=>rw[h1]at h;exact BF aO hp f args H v H' h
def Wz:FT Nat:=(.n (.n (.n (.n (.n .e 65 0 .e) 92 0 .e) 118 0 (.n (.n .e 119 0 .e) 156 0 .e)) 160 0 (.n (.n (.n .e 161 0 .e) 164 0 .e) 166 0 (.n (.n .e 167 0 .e) 198 0 .e))) 206 0 (.n (.n (.n (.n .e 210 0 .e) 212 0 .e) 221 0 (.n (.n .e 227 0 .e) 228 0 .e)) 261 0 (.n (.n (.n .e 267 0 .e) 278 0 .e) 286 0 (.n (.n .e 287 0 .e) 312 0 .e))))
noncomputable def Qs(iG:a7):a7:=Ut Wz Uy rf FH (pr FJ) iG
noncomputable def Qt(W:World)(d:Nat):a7:=Ac (aD P) ew (gl W) Ol Qs (fT Wz Uy) 1000 d
noncomputable def lq(W:World)(d:Nat):br:=fT Wz Uy (Qt W d)
theorem Ao(hW:W0 W)(hA:qw W)(d:Nat):cd P (gl W) (lq W d):=by have he:=Mi hW hA;refine cx hW he _ ?_;unfold Qt;rw[wF];exact wy bj FK (Fb he (FI hW) (wM hW)) (cx hW he) 1000 d
theorem ru0(W:World):lq W 40 24 [so [97,100,100]]=some (bT):=k_
theorem ru1(W:World):lq W 40 24 [so [115,117,98]]=some (bT):=k_
theorem ru2(W:World):lq W 40 24 [so [109,117,108]]=some (bT):=k_
theorem ru3(W:World):lq W 40 24 [so [100,105,118]]=some (bT):=k_
theorem ru4(W:World):lq W 40 24 [so [109,111,100]]=some (bT):=k_
theorem ru5(W:World):lq W 40 24 [so [109,105,110]]=some (bT):=k_
theorem ru6(W:World):lq W 40 24 [so [109,97,120]]=some (bT):=k_
theorem ru7(W:World):lq W 40 24 [so [110,101,103]]=some (bT):=k_
theorem ru8(W:World):lq W 40 24 [so [97,98,115]]=some (bT):=k_
theorem ru9(W:World):lq W 40 24 [so [115,105,103,110]]=some (bT):=k_
theorem WA(W:World):lq W 40 24 [so [108,116]]=some (bT):=k_
theorem WB(W:World):lq W 40 24 [so [108,101]]=some (bT):=k_
theorem WD(W:World):lq W 40 24 [so [103,116]]=some (bT):=k_
theorem WE(W:World):lq W 40 24 [so [103,101]]=some (bT):=k_
theorem WG(W:World):lq W 40 24 [so [101,113]]=some (bT):=k_
theorem WH(W:World):lq W 40 24 [so [110,101]]=some (bT):=k_
theorem WI(W:World):lq W 40 24 [so [97,110,100]]=some (bT):=k_
theorem WJ(W:World):lq W 40 24 [so [111,114]]=some (bT):=k_
theorem WK(W:World):lq W 40 24 [so [120,111,114]]=some (bT):=k_
theorem WL(W:World):lq W 40 24 [so [110,111,116]]=some (bT):=k_
theorem WM(W:World):lq W 40 24 [so [115,101,108,101,99,116]]=some (bT):=k_
theorem WN(W:World):lq W 40 24 [so [116,111,105,110,116]]=some (bT):=k_
theorem WQ(W:World):lq W 40 24 [so [105,111,116,97]]=some (bT):=k_
theorem WR(W:World):lq W 40 24 [so [102,105,108,108]]=some (bT):=k_
theorem WS(W:World):lq W 40 24 [so [116,97,107,101]]=some (bT):=k_
theorem WT(W:World):lq W 40 24 [so [100,114,111,112]]=some (bT):=k_
theorem WU(W:World):lq W 40 24 [so [114,101,118,101,114,115,101]]=some (bT):=k_
theorem WV(W:World):lq W 40 24 [so [97,112,112,101,110,100]]=some (bT):=k_
theorem WW(W:World):lq W 40 24 [so [116,114,97,110,115,112,111,115,101]]=some (bT):=k_
theorem WX(W:World):lq W 40 24 [so [100,105,97,103,111,110,97,108]]=some (bT):=k_
theorem WZ(W:World):lq W 40 24 [so [119,105,110,100,111,119,115]]=some (bT):=k_
theorem W2(W:World):lq W 40 24 [so [105,110,100,101,120]]=some (bT):=k_
theorem W3(W:World):lq W 40 24 [so [117,112,100,97,116,101]]=some (bT):=k_
theorem W4(W:World):lq W 40 24 [so [99,104,117,110,107]]=some (bT):=k_
theorem runs:∀n∈Hs,lq W 40 24 [so n]=some (bT):=by
 intro n hn;simp only[Hs,aaX,aby,acd]at hn;rcases hn with rfl|rfl|rfl|rfl|rfl|rfl|rfl|rfl|rfl|rfl|rfl|rfl|rfl|rfl|rfl|rfl|rfl|rfl|rfl|rfl|rfl|rfl|rfl|rfl|rfl|rfl|rfl|rfl|rfl|rfl|rfl|rfl|rfl|rfl
 ·exact ru0 W
 ·exact ru1 W
 ·exact ru2 W
 ·exact ru3 W
 ·exact ru4 W
 ·exact ru5 W
 ·exact ru6 W
 ·exact ru7 W
 ·exact ru8 W
 ·exact ru9 W
 ·exact WA W
 ·exact WB W
 ·exact WD W
 ·exact WE W
 ·exact WG W
 ·exact WH W
 ·exact WI W
 ·exact WJ W
 ·exact WK W
 ·exact WL W
 ·exact WM W
 ·exact WN W
 ·exact WQ W
 ·exact WR W
 ·exact WS W
 ·exact WT W
 ·exact WU W
 ·exact WV W
 ·exact WW W
 ·exact WX W
 ·exact WZ W
 ·exact W2 W
 ·exact W3 W
 ·exact W4 W
end Fw.Tz.Yp
/-
  module.primitive of the program, at any name.
-/
namespace Fw.Tz.Yt
open Go Go.Proofs Fw.X Fw.Tz Fw.Nu Fw.Tz.Sd Fw.Tz.Na Fw.Tz.El Fw.Tz.Va Fw.Tz.Vb Fw.Tz.Tm Fw.Tz.Yq Fw.Tz.Lt
variable {W:World}
theorem qx(s:List UInt8):gi s=true↔s∈Hs:=by
 rw[gi,List.any_eq_true];constructor
 ·rintro⟨n,h,e⟩;rw[cN e];exact h
 ·exact fun h=>⟨s,h,by rw[cT];simp⟩
theorem FL(hW:W0 W)(hA:qw W):qZ W:=by
 intro s hs;by_cases h:s∈Hs
 ·rw[(qx s).2 h];exact Yp.Ao hW hA 40 _ _ _ (Yp.runs s h)
 ·have e:gi s=false:=by
   cases hq:gi s with
    |false=>rfl
    |true=>exact absurd ((qx s).1 hq) h
  rw[e];have h1:=Yw.IC hW hA s h;refine CG.start W5 W6 rfl ?_;refine s1 hW 4 1 [] 0 [(2,bF),(6,so s)] ?_;refine CG.pg (h1) rfl k_ ?_;refine s4 hW 5 0 [] 1 [] [(0,.cells [sE,bF,bF,bF,.d (.list []),.d (.list []),sE,sE,.d (.list []),.d (.list [])])] ?_;refine CG.rt (bF) ?_;with_reducible rfl
end Fw.Tz.Yt
/-
  A right module's names: plain.
-/
namespace Fw.Tz.Mn
open Fw.Tz.Tm Fw.Tz.Mb Fw.Tz.Ck Fw.Tz.Cv Fw.Tz.Lt Fw.Tz.Yq
open Fw.Tz.Px (fU)
variable {m:Md}
theorem vg(h:db m=true):gZ [] m.defs=none/\m.ai.any (j5 (gN [] m.defs))=false:=by
 rw[db,cR,beq_iff_eq,dF]at h;split at h
 ·exact absurd h (by decide)
 ·split at h
  ·exact absurd h (by decide)
  ·split at h
   ·exact absurd (show(8:Int)=0 from h) (by decide)
   ·rename_i hn;refine⟨hn,?_⟩;split at h
    ·exact absurd h (by decide)
    ·rename_i ho;simpa using ho
theorem FM{seen:List (List UInt8)}{d:Df}{r:List Df}(h:gZ seen (d::r)=none):d.name∉seen/\gi d.name=false/\gZ (gD seen d.name) r=none:=by
 rw[gZ]at h;split at h
 ·cases h
 ·rename_i hb;refine⟨fun hc=>hb (by rw[nu,aaD hc]),?_,h⟩;cases hq:gi d.name with
   |false=>rfl
   |true=>
    exfalso;apply hb;rw[nu];split
    ·rfl
    ·first|rw[aaD hq]|rfl
theorem yL:∀{l:List Df}{seen:List (List UInt8)},gZ seen l=none->(∀d∈l,d.name∉seen/\gi d.name=false)/\l.Pairwise fun a b=>a.name≠b.name
 |[],_,_=>⟨by simp,List.Pairwise.nil⟩
 |d::r,seen,h=>by
  obtain⟨h1,h2,h3⟩:=FM h;obtain⟨i1,i2⟩:=yL h3;refine⟨fun x hx=>?_,List.Pairwise.cons (fun x hx he=>?_ ) i2⟩
  ·rcases aaX.1 hx with rfl|hx
   ·exact⟨h1,h2⟩
   ·exact⟨fun hc=>(i1 x hx).1 (ma.2 (.inl hc)),(i1 x hx).2⟩
  ·exact(i1 x hx).1 (ma.2 (.inr he.symm))
theorem vh:∀{l:List Df}{seen:List (List UInt8)}{s:List UInt8},s∈gN seen l->s∈seen\/∃d∈l,d.name=s
 |[],_,_,h=>.inl h
 |d::r,seen,s,h=>by
  rw[gN]at h;rcases vh h with h|⟨x,hx,e⟩
  ·rcases ma.1 h with h|h
   ·exact .inl h
   ·exact .inr ⟨d,abC,h.symm⟩
  ·exact .inr ⟨x,aaZ _ hx,e⟩
theorem th(h:db m=true){i:Nat}{x:Df}(hx:m.defs[i]? =some x):nv m x.name=.tuple [ue x,.d (.bool true)]/\x.name∉Hs:=by
 obtain⟨h1,h2⟩:=vg h;obtain⟨h3,h4⟩:=yL h1;have hi:=(aaA.1 hx);constructor
 ·have e:cm m x.name=some i:=by rw[cm,aaD h,abe];refine⟨hi.1,by rw[hi.2,cT];simp,fun j hj=>?_ ⟩;have:=List.pairwise_iff_getElem.1 h4 j i (Nat.lt_trans hj hi.1) hi.1 hj;rw[cT];simp only[aaF];rw[hi.2]at this;exact this
  rw[nv,e];simp only[hx]
 ·intro hc;have:=(h3 x (aau hx)).2;rw[(Yt.qx x.name).2 hc]at this;cases this
theorem FN(h:db m=true){s:List UInt8}(hs:s∈m.ai):∃x,nv m s=.tuple [ue x,.d (.bool true)]:=by
 obtain⟨h1,h2⟩:=vg h;rw[List.any_eq_false]at h2;have:=h2 s hs;rw[j5]at this;have hm:s∈gN [] m.defs:=by simpa using this
 rcases vh hm with h|⟨d,hd,e⟩
 ·simp at h
 ·obtain⟨i,hi,e2⟩:=List.getElem_of_mem hd;have:=(th h (i:=i) (x:=d) (by rw[aaz hi,e2])).1;rw[e]at this;exact⟨d,this⟩
end Fw.Tz.Mn
/-
  The guard on modules, by the reference: it answers.
-/
namespace Fw.Tz.Fe
open Go Go.Proofs Fw.X Fw.Tz Fw.Nu Fw.Tz.Sd Fw.Tz.Na Fw.Tz.El Fw.Tz.Va Fw.Tz.Vb Fw.Tz.Tm
open Fw.Tz.Px (qy)
variable {W:World}
theorem FO:∀(n:Nat)(t:Tm),t.pre.length=n->t.depth<=n:=by
 intro n;induction n using Nat.strongRecOn with
  |_ n ih=>
   intro t hn;rw[Tm.yM];have:Tm.gF t.kids<=n - 1:=Tm.vi.2 fun k hk=>by have:=Tm.fV hk;have:=ih _ (by omega) k rfl;omega
   have:=Tm.size_pos t;omega
theorem yN(t:Tm)(l:List Tm):Tm.gF (t::l)=max t.depth (Tm.gF l):=by rw[Tm.gF]
theorem ID{a b:Nat}(h:a+b<9223372036854775808):aT .i64 (bC (Int.ofNat a) (Int.ofNat b))=Int.ofNat (a+b):=by rw[o8,Bn,IntKind.wrap_i64];simp only[aba];omega
theorem FP(hW:W0 W):∀(n:Nat)(t:Tm),t.pre.length=n->wN t->PC P (gl W) 57 [vT t] (no t.depth):=by
 intro n;induction n using Nat.strongRecOn with
  |_ n ih=>
   intro t hn hs;have hk:∀k∈t.kids,PC P (gl W) 57 [vT k] (no k.depth):=fun k hm=>ih _ (by rw[←hn];exact Tm.fV hm) k rfl (hs.FQ hm)
   have hd:∀k∈t.kids,k.depth<1099511627776:=fun k hm=>by have:=FO _ k rfl;have:=(hs.FQ hm).size;omega
   have Lw:=hs.self.kids;clear ih hn;refine CG.start W7 W8 rfl ?_;refine s4 hW 11 0 [] 0 [(1,.ptr 0 10 0),(2,i0),(3,i0),(4,i0)] [(0,.cells [io (Tm.kind t),io (Tm.line t),so (Tm.name t),io (Tm.num t),so (Tm.ae t),lo Tm.encI (Tm.ad t),lo Tm.encI (Tm.av t),lo aq.aa (Tm.ak t),lo Tm.encI (Tm.al t),lo Tm.aa (Tm.kids t)])] ?_;rotate_left;refine CG.bh t.kids (fun i a=>[(1,.ptr 0 10 0),(2,i0),(3,no a),(4,.d (.int .i64 (.ofNat i)))]) (fun i a=>[some (.cells [io (Tm.kind t),io (Tm.line t),so (Tm.name t),io (Tm.num t),so (Tm.ae t),lo Tm.encI (Tm.ad t),lo Tm.encI (Tm.av t),lo aq.aa (Tm.ak t),lo Tm.encI (Tm.al t),lo Tm.aa (Tm.kids t)])]) (fun i a r=>(Tm.gF t.kids=max a (Tm.gF r)/\a<1099511627776)) (0:Nat) ?_ (ay.refl _ _) ?_ ?_
   ·exact⟨by simp,by omega⟩
   ·intro i a hi dz aH;have e:t.depth=a+1:=by rw[Tm.yM,aH.1];simp[Tm.gF]
    refine s1 hW 4 0 [] 15 [(9,bo (aI (Int.ofNat i) (Int.ofNat (List.length ((Tm.kids t).map Tm.aa)))))] ?_;refine CG.ar (fh i (List.length ((Tm.kids t).map Tm.aa))) k_ ?_;refine CG.aV (by decide) ?_;refine s1 hW 5 0 [] 0 [(2,io (aT IntKind.i64 (bC (Int.ofNat a) 1)))] ?_;refine CG.rt (io (aT IntKind.i64 (bC (Int.ofNat a) 1))) ?_;rotate_left;rw[e,ba (by omega)]
   ·intro i a x r dz hx cA aH;have h1:=hk x (aau hx);have h2:=hd x (aau hx);refine s1 hW 4 0 [] 15 [(9,bo (aI (Int.ofNat i) (Int.ofNat (List.length ((Tm.kids t).map Tm.aa)))))] ?_;refine CG.az (fg i (List.length ((Tm.kids t).map Tm.aa))) k_ ?_;refine s1 hW 4 4 [] 15 [(12,no a),(14,lo Tm.aa (Tm.kids t)),(15,no i)] ?_;refine CG.ix (Tm.dG hx) rfl k_ ?_;refine s1 hW 0 1 [] 31 [(17,.agg [io (Tm.kind x),io (Tm.line x),so (Tm.name x),io (Tm.num x),so (Tm.ae x),lo Tm.encI (Tm.ad x),lo Tm.encI (Tm.av x),lo aq.aa (Tm.ak x),lo Tm.encI (Tm.al x),lo Tm.aa (Tm.kids x)])] ?_;refine CG.pg (h1) rfl k_ ?_;refine s3 hW 3 3 [] [(1,.ptr 0 10 0),(2,i0),(3,io (if true=true then if Int.ofNat a<Int.ofNat (Tm.depth x)then Int.ofNat (Tm.depth x)else Int.ofNat a else if Int.ofNat (Tm.depth x)<Int.ofNat a then Int.ofNat (Tm.depth x)else Int.ofNat a)),(4,io (aT IntKind.i64 (bC (Int.ofNat i) 1)))] ([some (.cells [io (Tm.kind t),io (Tm.line t),so (Tm.name t),io (Tm.num t),so (Tm.ae t),lo Tm.encI (Tm.ad t),lo Tm.encI (Tm.av t),lo aq.aa (Tm.ak t),lo Tm.encI (Tm.al t),lo Tm.aa (Tm.kids t)])]) ?_;refine CG.eu rfl ?_;rw[ba (by omega)];rotate_left;have em:(if Int.ofNat a<Int.ofNat x.depth then Int.ofNat x.depth else Int.ofNat a)=Int.ofNat (max a x.depth):=by split<;>(simp only[aba]at*;omega)
    refine⟨max a x.depth,⟨by rw[aH.1,yN];omega,by omega⟩,?_⟩;rw[aaD rfl,em];exact ay.refl _ _
theorem wO(hW:W0 W):∀(n:Nat)(t:Tm),t.pre.length=n->wN t->PC P (gl W) 58 [vT t] (no t.pre.length):=by
 intro n;induction n using Nat.strongRecOn with
  |_ n ih=>
   intro t hn hs;have hk:∀k∈t.kids,PC P (gl W) 58 [vT k] (no k.pre.length):=fun k hm=>ih _ (by rw[←hn];exact Tm.fV hm) k rfl (hs.FQ hm)
   have Lw:=hs.self.kids;have hz:=hs.size;have e:t.pre.length=1+(t.kids.flatMap Tm.pre).length:=by rw[Tm.jc,aaq];omega
   clear ih hn;refine CG.start W9 W_ rfl ?_;refine s4 hW 11 0 [] 0 [(1,.ptr 0 10 0),(2,i0),(3,io 1),(4,i0)] [(0,.cells [io (Tm.kind t),io (Tm.line t),so (Tm.name t),io (Tm.num t),so (Tm.ae t),lo Tm.encI (Tm.ad t),lo Tm.encI (Tm.av t),lo aq.aa (Tm.ak t),lo Tm.encI (Tm.al t),lo Tm.aa (Tm.kids t)])] ?_;rotate_left;refine CG.bh t.kids (fun i a=>[(1,.ptr 0 10 0),(2,i0),(3,no a),(4,.d (.int .i64 (.ofNat i)))]) (fun i a=>[some (.cells [io (Tm.kind t),io (Tm.line t),so (Tm.name t),io (Tm.num t),so (Tm.ae t),lo Tm.encI (Tm.ad t),lo Tm.encI (Tm.av t),lo aq.aa (Tm.ak t),lo Tm.encI (Tm.al t),lo Tm.aa (Tm.kids t)])]) (fun i a r=>(t.pre.length=a+(r.flatMap Tm.pre).length)) (1:Nat) ?_ (ay.refl _ _) ?_ ?_
   ·exact e
   ·intro i a hi dz aH;refine s1 hW 4 0 [] 15 [(9,bo (aI (Int.ofNat i) (Int.ofNat (List.length ((Tm.kids t).map Tm.aa)))))] ?_;refine CG.ar (fh i (List.length ((Tm.kids t).map Tm.aa))) k_ ?_;refine CG.aV (by decide) ?_;refine s1 hW 5 0 [] 0 [(2,no a)] ?_;refine CG.rt (no a) ?_;rotate_left;rw[aH];simp
   ·intro i a x r dz hx cA aH;rw[aaT,aap]at aH;have h1:=hk x (aau hx);refine s1 hW 4 0 [] 15 [(9,bo (aI (Int.ofNat i) (Int.ofNat (List.length ((Tm.kids t).map Tm.aa)))))] ?_;refine CG.az (fg i (List.length ((Tm.kids t).map Tm.aa))) k_ ?_;refine s1 hW 4 4 [] 15 [(12,no a),(14,lo Tm.aa (Tm.kids t)),(15,no i)] ?_;refine CG.ix (Tm.dG hx) rfl k_ ?_;refine s1 hW 0 1 [] 31 [(17,.agg [io (Tm.kind x),io (Tm.line x),so (Tm.name x),io (Tm.num x),so (Tm.ae x),lo Tm.encI (Tm.ad x),lo Tm.encI (Tm.av x),lo aq.aa (Tm.ak x),lo Tm.encI (Tm.al x),lo Tm.aa (Tm.kids x)])] ?_;refine CG.pg (h1) rfl k_ ?_;refine s3 hW 3 3 [] [(1,.ptr 0 10 0),(2,i0),(3,io (aT IntKind.i64 (bC (Int.ofNat a) (Int.ofNat (Tm.pre x).length)))),(4,io (aT IntKind.i64 (bC (Int.ofNat i) 1)))] ([some (.cells [io (Tm.kind t),io (Tm.line t),so (Tm.name t),io (Tm.num t),so (Tm.ae t),lo Tm.encI (Tm.ad t),lo Tm.encI (Tm.av t),lo aq.aa (Tm.ak t),lo Tm.encI (Tm.al t),lo Tm.aa (Tm.kids t)])]) ?_;refine CG.eu rfl ?_;rw[ba (by omega)];rotate_left;rw[ID (by omega)];exact⟨a+x.pre.length,by omega,ay.refl _ _⟩
end Fw.Tz.Fe
/-
  The nodes of a term in preorder, by the reference.
-/
namespace Fw.Tz.Fp
open Go Go.Proofs Fw.X Fw.Tz Fw.Nu Fw.Tz.Na Fw.Tz.El Fw.Tz.Va Fw.Tz.Vb Fw.Tz.Tm
variable {W:World}
variable {cur c':lA}{K K':List Fr}{n:Nat}{tm:List (Nat×V)}{H:ao}{Q:Ex->St->Prop}
noncomputable def rg(W:World)(n:Nat)(N j:Nat)(bs:List Bool)(cur:lA)(K:List Fr)(ks:List Nat)(tm:List (Nat×V))(H:ao):Option XR:=ym [6] (gl W) (mc W q0 .e (jn W q0 .e 40)) (fT q0 .e (jn W q0 .e 40)) n N j bs cur K ks tm H
theorem s2(hW:W0 W)(N j:Nat)(bs:List Bool)(m:Nat)(nw:List (Nat×V))(H':ao)(hq:CG P (gl W) c' K' n (du m nw tm) H' Q)(h1:eg N j bs cur K=some (c',K'):=by rfl)(h2:rg W n N j bs cur K ((du m nw tm).map Prod.fst) tm H=some (.tuple ((du m nw tm).map Prod.snd),H'):=by kernel_rfl):CG P (gl W) cur K n tm H Q:=CG.st bj (dH hW (jo) _ (bZ hW (jo) 40)) (cx hW (jo) _ (bZ hW (jo) 40)) N j bs h1 h2 hq
theorem s1(hW:W0 W)(N j:Nat)(bs:List Bool)(m:Nat)(nw:List (Nat×V))(hq:CG P (gl W) c' K' n (du m nw tm) H Q)(h1:eg N j bs cur K=some (c',K'):=by rfl)(h2:rg W n N j bs cur K ((du m nw tm).map Prod.fst) tm H=some (.tuple ((du m nw tm).map Prod.snd),H):=by kernel_rfl):CG P (gl W) cur K n tm H Q:=s2 hW N j bs m nw H hq h1 h2
theorem s4(hW:W0 W)(N j:Nat)(bs:List Bool)(m:Nat)(nw:List (Nat×V))(hd:List (Nat×bW))(hq:CG P (gl W) c' K' n (du m nw tm) (u4 hd H) Q)(h1:eg N j bs cur K=some (c',K'):=by rfl)(h2:rg W n N j bs cur K ((du m nw tm).map Prod.fst) tm H=some (.tuple ((du m nw tm).map Prod.snd),u4 hd H):=by kernel_rfl):CG P (gl W) cur K n tm H Q:=s2 hW N j bs m nw (u4 hd H) hq h1 h2
theorem s3(hW:W0 W)(N j:Nat)(bs:List Bool)(aZ:List (Nat×V))(H':ao)(hq:CG P (gl W) c' K' n aZ H' Q)(h1:eg N j bs cur K=some (c',K'):=by rfl)(h2:rg W n N j bs cur K (aZ.map Prod.fst) tm H=some (.tuple (aZ.map Prod.snd),H'):=by kernel_rfl):CG P (gl W) cur K n tm H Q:=CG.st bj (dH hW (jo) _ (bZ hW (jo) 40)) (cx hW (jo) _ (bZ hW (jo) 40)) N j bs h1 h2 hq
theorem Mj(hW:W0 W):∀(n:Nat)(t:Tm),t.pre.length=n->wN t->t.pre.length<1048577->PC P (gl W) 59 [vT t] (lo Tm.cells t.pre):=by
 intro n;induction n using Nat.strongRecOn with
  |_ n ih=>
   intro t hn hs hz;have hk:∀k∈t.kids,PC P (gl W) 59 [vT k] (lo Tm.cells k.pre):=fun k hm=>ih _ (by rw[←hn];exact Tm.fV hm) k rfl (hs.FQ hm) (by have:=Tm.fV hm;omega)
   have Lw:=hs.self.kids;have e:t.pre=[t]++t.kids.flatMap Tm.pre:=Tm.jc t;clear ih hn;refine CG.start Xa Xb rfl ?_;refine s1 hW 1 0 [] 1 [] ?_;refine CG.dA ?_;refine CG.cI (cs:=[.int .i64 (Tm.kind t),.int .i64 (Tm.line t),.str (Tm.name t),.int .i64 (Tm.num t),.str (Tm.ae t),.list ((Tm.ad t).map Tm.encI),.list ((Tm.av t).map Tm.encI),.list ((Tm.ak t).map aq.aa),.list ((Tm.al t).map Tm.encI),.list ((Tm.kids t).map Tm.aa)]) rfl k_ rfl ?_;refine s4 hW 10 0 [] 2 [(2,.aj),(3,.sl 0 10 0 1 10),(4,i0)] [(0,.cells [io (Tm.kind t),io (Tm.line t),so (Tm.name t),io (Tm.num t),so (Tm.ae t),lo Tm.encI (Tm.ad t),lo Tm.encI (Tm.av t),lo aq.aa (Tm.ak t),lo Tm.encI (Tm.al t),lo Tm.aa (Tm.kids t)])] ?_;rotate_left;refine CG.is [(1,.aL [.int .i64 (Tm.kind t),.int .i64 (Tm.line t),.str (Tm.name t),.int .i64 (Tm.num t),.str (Tm.ae t),.list ((Tm.ad t).map Tm.encI),.list ((Tm.av t).map Tm.encI),.list ((Tm.ak t).map aq.aa),.list ((Tm.al t).map Tm.encI),.list ((Tm.kids t).map Tm.aa)]),(2,.aj),(3,.sl 0 (List.length [t]*10) 0 (List.length [t]) 10),(4,i0)] ([some (ck Tm.cells [t])]) k_ ?_;refine CG.bh t.kids (fun i a=>[(1,.aL [.int .i64 (Tm.kind t),.int .i64 (Tm.line t),.str (Tm.name t),.int .i64 (Tm.num t),.str (Tm.ae t),.list ((Tm.ad t).map Tm.encI),.list ((Tm.av t).map Tm.encI),.list ((Tm.ak t).map aq.aa),.list ((Tm.al t).map Tm.encI),.list ((Tm.kids t).map Tm.aa)]),(2,.aj),(3,.sl 0 (a.length*10) 0 a.length 10),(4,.d (.int .i64 (.ofNat i)))]) (fun i a=>[some (aJ Tm.cells a)]) (fun i a r=>(t.pre=a++r.flatMap Tm.pre)) [t] ?_ (ay.refl _ _) ?_ ?_
   ·exact e
   ·intro i a hi dz aH;refine s1 hW 4 0 [] 15 [(11,bo (aI (Int.ofNat i) (Int.ofNat (List.length ((Tm.kids t).map Tm.aa)))))] ?_;refine CG.ar (fh i (List.length ((Tm.kids t).map Tm.aa))) k_ ?_;refine CG.aV (by decide) ?_;refine s1 hW 5 0 [] 0 [(2,.sl 0 (List.length a*10) 0 a.length 10)] ?_;rotate_left;refine CG.tidy (ay.wG (sz:=10) Tm.cells a 0 2 (aZ:=[(2,.d (.list (a.map Tm.cells)))]) (H':=[none]) (fun _=>rfl) k_ k_ ⟨.inl rfl,trivial⟩ k_ k_) ?_;refine CG.rt (lo Tm.cells a) ?_;rotate_left;rw[aH];simp
   ·intro i a x r dz hx cA aH;rw[aaT]at aH;have h1:=hk x (aau hx);refine s1 hW 4 0 [] 15 [(11,bo (aI (Int.ofNat i) (Int.ofNat (List.length ((Tm.kids t).map Tm.aa)))))] ?_;refine CG.az (fg i (List.length ((Tm.kids t).map Tm.aa))) k_ ?_;refine s1 hW 4 4 [] 15 [(14,.sl 0 (List.length a*10) 0 a.length 10),(16,lo Tm.aa (Tm.kids t)),(17,no i)] ?_;refine CG.ix (Tm.dG hx) rfl k_ ?_;refine s1 hW 0 1 [] 31 [(19,.agg [io (Tm.kind x),io (Tm.line x),so (Tm.name x),io (Tm.num x),so (Tm.ae x),lo Tm.encI (Tm.ad x),lo Tm.encI (Tm.av x),lo aq.aa (Tm.ak x),lo Tm.encI (Tm.al x),lo Tm.aa (Tm.kids x)])] ?_;refine CG.pg (h1) rfl k_ ?_;rotate_left;have hle:a.length+x.pre.length<1048577:=by have:=aca List.length aH;simp only[aap]at this;omega
    refine CG.DT Tm.cells a x.pre 0 (fun _=>rfl) rfl k_ (cP (aa:=Tm.cells) (fun _=>rfl) _ x.pre) (by omega) ?_;refine s3 hW 3 3 [] [(1,.aL [.int .i64 (Tm.kind t),.int .i64 (Tm.line t),.str (Tm.name t),.int .i64 (Tm.num t),.str (Tm.ae t),.list ((Tm.ad t).map Tm.encI),.list ((Tm.av t).map Tm.encI),.list ((Tm.ak t).map aq.aa),.list ((Tm.al t).map Tm.encI),.list ((Tm.kids t).map Tm.aa)]),(2,.aj),(3,.sl 0 (List.length (a++Tm.pre x)*10) 0 (a++Tm.pre x).length 10),(4,io (aT IntKind.i64 (bC (Int.ofNat i) 1)))] ([some (aJ Tm.cells (a++Tm.pre x))]) ?_;refine CG.eu rfl ?_;rw[ba (by omega)];rotate_left;exact⟨a++x.pre,by rw[aH,acE],ay.refl _ _⟩
end Fw.Tz.Fp
/-
  The guards on terms and modules, by the reference: they answer.
-/
namespace Fw.Tz.Fg
open Go Go.Proofs Fw.X Fw.Tz Fw.Nu Fw.Tz.Sd Fw.Tz.Na Fw.Tz.El Fw.Tz.Va Fw.Tz.Vb Fw.Tz.Tm Fw.Tz.Pn
open Fw.Tz.Px (qy)
variable {W:World}
theorem IE(hW:W0 W)(t:Tm)(hs:wN t)(hz:t.pre.length<1048577):WF P (gl W) 20 [vT t,no 30] [] (fun v H'=>∃b,v=bo b/\H'=[]):=by
 have h1:=Fe.FP hW _ t rfl hs;have h2:=Fe.wO hW _ t rfl hs;have h3:=Fp.Mj hW _ t rfl hs hz;refine WF.cut ?_;refine CG.bX Xc Xd rfl ?_;refine s1 hW 1 0 [] 3 [] ?_;refine CG.dA ?_;refine CG.cI (cs:=[.int .i64 (Tm.kind t),.int .i64 (Tm.line t),.str (Tm.name t),.int .i64 (Tm.num t),.str (Tm.ae t),.list ((Tm.ad t).map Tm.encI),.list ((Tm.av t).map Tm.encI),.list ((Tm.ak t).map aq.aa),.list ((Tm.al t).map Tm.encI),.list ((Tm.kids t).map Tm.aa)]) rfl k_ rfl ?_;refine s1 hW 4 1 [] 6 [(4,bF),(8,.agg [io (Tm.kind t),io (Tm.line t),so (Tm.name t),io (Tm.num t),so (Tm.ae t),lo Tm.encI (Tm.ad t),lo Tm.encI (Tm.av t),lo aq.aa (Tm.ak t),lo Tm.encI (Tm.al t),lo Tm.aa (Tm.kids t)])] ?_;refine CG.pg (h1) rfl k_ ?_;refine s1 hW 0 2 [] 7 [(11,bo (aI 12 (Int.ofNat (Tm.depth t))))] ?_;refine bz 12 (Tm.depth t) (fun gO zo=>?_ ) (fun gO zo=>?_ );have fk:(aI 12 (Int.ofNat (Tm.depth t)))=true:=fi;rw[fk];refine s1 hW 6 0 [true] 6 [] ?_;refine CG.cM (bF) ?_;rotate_left;have gj:(aI 12 (Int.ofNat (Tm.depth t)))=false:=eV;rw[gj];refine s1 hW 0 1 [] 15 [(12,.agg [io (Tm.kind t),io (Tm.line t),so (Tm.name t),io (Tm.num t),so (Tm.ae t),lo Tm.encI (Tm.ad t),lo Tm.encI (Tm.av t),lo aq.aa (Tm.ak t),lo Tm.encI (Tm.al t),lo Tm.aa (Tm.kids t)])] ?_;refine CG.pg (h2) rfl k_ ?_;refine s1 hW 2 0 [] 6 [(16,bo (aI 30 (Int.ofNat (Tm.pre t).length)))] ?_;refine bz 30 (Tm.pre t).length (fun iy FSz=>?_ ) (fun iy FSz=>?_ );refine CG.az (show(aI 30 (Int.ofNat (Tm.pre t).length))=true from fi) k_ ?_;refine s1 hW 3 0 [] 3 [] ?_;refine CG.cM (bF) ?_;rotate_left;refine CG.ar (show(aI 30 (Int.ofNat (Tm.pre t).length))=false from eV) k_ ?_;refine s1 hW 3 1 [] 2 [(17,.agg [io (Tm.kind t),io (Tm.line t),so (Tm.name t),io (Tm.num t),so (Tm.ae t),lo Tm.encI (Tm.ad t),lo Tm.encI (Tm.av t),lo aq.aa (Tm.ak t),lo Tm.encI (Tm.al t),lo Tm.aa (Tm.kids t)])] ?_;refine CG.pg (h3) rfl k_ ?_;refine s1 hW 7 0 [] 1 [(5,lo Tm.cells (Tm.pre t)),(6,i0)] ?_;rotate_left
 ·exact .inr ⟨rfl,rfl,_,rfl,rfl⟩
 ·exact .inr ⟨rfl,rfl,_,rfl,rfl⟩
 have me:True:=trivial;refine CG.bh t.pre (fun i u=>[(4,bF),(5,lo Tm.cells (Tm.pre t)),(6,.d (.int .i64 (.ofNat i)))]) (fun i u=>[]) (fun i u r=>(True)) () ?_ (ay.u1 k_) ?_ ?_
 ·trivial
 ·intro i u hi dz aH;refine s1 hW 4 0 [] 7 [(22,bo (aI (Int.ofNat i) (Int.ofNat (List.length ((Tm.pre t).map Tm.cells)))))] ?_;refine CG.ar (fh i (List.length ((Tm.pre t).map Tm.cells))) k_ ?_;refine CG.aV (by decide) ?_;refine s1 hW 5 0 [] 0 [(4,bT)] ?_;refine CG.cM (bT) ?_;rotate_left;exact .inr ⟨rfl,rfl,_,rfl,rfl⟩
 ·intro i u x r dz hx cA aH;have hN:=hs.node x (aau hx);have n1:=hN.name;have n2:=hN.av;have n3:=hN.ad;have n4:=hN.ak;have n5:=hN.al;refine s1 hW 4 0 [] 7 [(22,bo (aI (Int.ofNat i) (Int.ofNat (List.length ((Tm.pre t).map Tm.cells)))))] ?_;refine CG.az (fg i (List.length ((Tm.pre t).map Tm.cells))) k_ ?_;refine s1 hW 6 2 [] 7 [(25,lo Tm.cells (Tm.pre t)),(26,no i)] ?_;refine CG.ix (aG (aa:=Tm.cells) hx) rfl k_ ?_;refine s1 hW 0 5 [] 7 [(32,bo (aI 40 (Int.ofNat (Tm.name x).length)))] ?_;refine bz 40 (Tm.name x).length (fun FU Qu=>?_ ) (fun FU Qu=>?_ );have IF:(aI 40 (Int.ofNat (Tm.name x).length))=true:=fi;rw[IF];refine s1 hW 6 0 [true] 7 [] ?_;refine CG.pq (bF) ?_;rotate_left;have Mk:(aI 40 (Int.ofNat (Tm.name x).length))=false:=eV;rw[Mk];refine s1 hW 0 2 [] 15 [(33,lo Tm.cells (Tm.pre t)),(34,no i)] ?_;refine CG.ix (aG (aa:=Tm.cells) hx) rfl k_ ?_;refine s1 hW 0 7 [] 7 [(42,bo (aI 30 (Int.ofNat (List.length ((Tm.av x).map Tm.encI)))))] ?_;refine bz 30 (List.length ((Tm.av x).map Tm.encI)) (fun wP IG=>?_ ) (fun wP IG=>?_ )<;>simp only[zz]at IG;have Ml:(aI 30 (Int.ofNat (List.length ((Tm.av x).map Tm.encI))))=true:=fi;rw[Ml];refine s1 hW 6 0 [true] 7 [] ?_;refine CG.pq (bF) ?_;rotate_left;have q36:(aI 30 (Int.ofNat (List.length ((Tm.av x).map Tm.encI))))=false:=eV;rw[q36];refine s1 hW 0 2 [] 15 [(43,lo Tm.cells (Tm.pre t)),(44,no i)] ?_;refine CG.ix (aG (aa:=Tm.cells) hx) rfl k_ ?_;refine s1 hW 0 7 [] 7 [(52,bo (aI 8 (Int.ofNat (List.length ((Tm.ad x).map Tm.encI)))))] ?_;refine bz 8 (List.length ((Tm.ad x).map Tm.encI)) (fun IH Mm=>?_ ) (fun IH Mm=>?_ )<;>simp only[zz]at Mm;have Xe:(aI 8 (Int.ofNat (List.length ((Tm.ad x).map Tm.encI))))=true:=fi;rw[Xe];refine s1 hW 6 0 [true] 7 [] ?_;refine CG.pq (bF) ?_;rotate_left;have Xf:(aI 8 (Int.ofNat (List.length ((Tm.ad x).map Tm.encI))))=false:=eV;rw[Xf];refine s1 hW 0 2 [] 15 [(53,lo Tm.cells (Tm.pre t)),(54,no i)] ?_;refine CG.ix (aG (aa:=Tm.cells) hx) rfl k_ ?_;refine s1 hW 0 6 [] 7 [(61,bo (aI 6 (Int.ofNat (List.length ((Tm.ak x).map aq.aa)))))] ?_;refine bz 6 (List.length ((Tm.ak x).map aq.aa)) (fun FV Mo=>?_ ) (fun FV Mo=>?_ )<;>simp only[zz]at Mo;have Xg:(aI 6 (Int.ofNat (List.length ((Tm.ak x).map aq.aa))))=true:=fi;rw[Xg];refine s1 hW 6 0 [true] 7 [] ?_;refine CG.pq (bF) ?_;rotate_left;have Qv:(aI 6 (Int.ofNat (List.length ((Tm.ak x).map aq.aa))))=false:=eV;rw[Qv];refine s1 hW 0 2 [] 15 [(62,lo Tm.cells (Tm.pre t)),(63,no i)] ?_;refine CG.ix (aG (aa:=Tm.cells) hx) rfl k_ ?_;refine s1 hW 2 0 [] 7 [(69,bo (aI 10 (Int.ofNat (List.length ((Tm.al x).map Tm.encI)))))] ?_;refine bz 10 (List.length ((Tm.al x).map Tm.encI)) (fun q45 p45=>?_ ) (fun q45 p45=>?_ )<;>simp only[zz]at p45;refine CG.az (show(aI 10 (Int.ofNat (List.length ((Tm.al x).map Tm.encI))))=true from fi) k_ ?_;refine s1 hW 3 0 [] 7 [] ?_;refine CG.pq (bF) ?_;rotate_left;refine CG.ar (show(aI 10 (Int.ofNat (List.length ((Tm.al x).map Tm.encI))))=false from eV) k_ ?_;refine s1 hW 6 0 [] 7 [(7,i0)] ?_;rotate_left
  ·exact .inr ⟨rfl,rfl,_,rfl,rfl⟩
  ·exact .inr ⟨rfl,rfl,_,rfl,rfl⟩
  ·exact .inr ⟨rfl,rfl,_,rfl,rfl⟩
  ·exact .inr ⟨rfl,rfl,_,rfl,rfl⟩
  ·exact .inr ⟨rfl,rfl,_,rfl,rfl⟩
  refine CG.bh x.ak (fun j v=>[(4,bF),(5,lo Tm.cells (Tm.pre t)),(6,no i),(7,.d (.int .i64 (.ofNat j)))]) (fun j v=>[]) (fun j v s=>(True)) () ?_ (ay.u1 k_) ?_ ?_
  ·trivial
  ·intro j v hj FW mf;refine s1 hW 2 3 [] 15 [(70,no j),(71,lo Tm.cells (Tm.pre t)),(72,no i)] ?_;refine CG.ix (aG (aa:=Tm.cells) hx) rfl k_ ?_;refine s1 hW 2 0 [] 15 [(77,bo (aI (Int.ofNat j) (Int.ofNat (List.length ((Tm.ak x).map aq.aa)))))] ?_;refine CG.ar (fh j (List.length ((Tm.ak x).map aq.aa))) k_ ?_;refine CG.aV (by decide) ?_;refine s3 hW 3 3 [] [(4,bF),(5,lo Tm.cells (Tm.pre t)),(6,io (aT IntKind.i64 (bC (Int.ofNat i) 1)))] ([]) ?_;refine CG.eu rfl ?_;rw[ba (by omega)];rotate_left;exact⟨(),trivial,ay.refl _ _⟩
  ·intro j v y s FW hy II mf;have n6:=(hN.J0 y (aau hy)).1;refine s1 hW 2 3 [] 15 [(70,no j),(71,lo Tm.cells (Tm.pre t)),(72,no i)] ?_;refine CG.ix (aG (aa:=Tm.cells) hx) rfl k_ ?_;refine s1 hW 2 0 [] 15 [(77,bo (aI (Int.ofNat j) (Int.ofNat (List.length ((Tm.ak x).map aq.aa)))))] ?_;refine CG.az (fg j (List.length ((Tm.ak x).map aq.aa))) k_ ?_;refine s1 hW 5 2 [] 15 [(80,lo Tm.cells (Tm.pre t)),(81,no i)] ?_;refine CG.ix (aG (aa:=Tm.cells) hx) rfl k_ ?_;refine s1 hW 0 3 [] 15 [(84,lo aq.aa (Tm.ak x)),(85,no j)] ?_;refine CG.ix (aG (aa:=aq.aa) hy) rfl k_ ?_;refine s1 hW 2 0 [] 15 [(90,bo (aI 6 (Int.ofNat (y.ts.map Cf.aa).length)))] ?_;refine bz 6 (y.ts.map Cf.aa).length (fun Xh Qw=>?_ ) (fun Xh Qw=>?_ )<;>simp only[zz]at Qw;refine CG.az (show(aI 6 (Int.ofNat (y.ts.map Cf.aa).length))=true from fi) k_ ?_;refine s1 hW 3 0 [] 15 [] ?_;refine CG.PL (LQ.ret (LQ.ret (mW.ret (v':=(bF)) k_ ?_ )));rotate_left;refine CG.ar (show(aI 6 (Int.ofNat (y.ts.map Cf.aa).length))=false from eV) k_ ?_;refine s3 hW 3 3 [] [(4,bF),(5,lo Tm.cells (Tm.pre t)),(6,no i),(7,io (aT IntKind.i64 (bC (Int.ofNat j) 1)))] ([]) ?_;refine CG.eu rfl ?_;rw[ba (by omega)];rotate_left
   ·exact .inr ⟨rfl,rfl,_,rfl,rfl⟩
   ·exact⟨(),trivial,ay.refl _ _⟩
theorem FX(hW:W0 W)(m:Md)(hs:qy m)(hz:∀d∈m.defs,d.body.pre.length<1048577):WF P (gl W) 6 [vM m] [] (fun v H'=>∃b,v=bo b/\H'=[]):=by
 refine WF.cut ?_;refine CG.bX is6 ca6 rfl ?_;have m1:=hs.defs;have m2:=hs.uf.1;have m3:=hs.ti.1;refine s1 hW 1 0 [] 1 [] ?_;refine CG.dA ?_;refine CG.cI (cs:=[.str m.name,.list (m.imports.map Tm.encS),.list (m.ai.map Tm.encS),.list (m.defs.map Df.aa)]) rfl k_ rfl ?_;refine s1 hW 7 0 [] 2 [(2,bF),(3,i0)] ?_;rotate_left;have me:True:=trivial;refine CG.bh m.defs (fun i u=>[(1,.aL [.str m.name,.list (m.imports.map Tm.encS),.list (m.ai.map Tm.encS),.list (m.defs.map Df.aa)]),(2,bF),(3,.d (.int .i64 (.ofNat i)))]) (fun i u=>[]) (fun i u r=>(True)) () ?_ (ay.u1 k_) ?_ ?_
 ·trivial
 ·intro i u hi dz aH;refine s1 hW 4 0 [] 7 [(10,bo (aI (Int.ofNat i) (Int.ofNat (m.defs.map Df.aa).length)))] ?_;refine CG.ar (fh i (m.defs.map Df.aa).length) k_ ?_;refine CG.aV (by decide) ?_;refine s1 hW 3 5 [] 3 [(63,bo (!aI 6 (Int.ofNat (m.defs.map Df.aa).length)))] ?_;refine bz 6 (m.defs.map Df.aa).length (fun iz xi=>?_ ) (fun iz xi=>?_ )<;>simp only[zz]at xi;have iv:(aI 6 (Int.ofNat (m.defs.map Df.aa).length))=true:=fi;rw[iv];refine s1 hW 2 0 [] 2 [] ?_;refine CG.cM (bF) ?_;rotate_left;have mY:(aI 6 (Int.ofNat (m.defs.map Df.aa).length))=false:=eV;rw[mY];refine s1 hW 0 6 [] 3 [(69,bo (!aI 25 (Int.ofNat (m.imports.map Tm.encS).length)))] ?_;refine bz 25 (m.imports.map Tm.encS).length (fun qz C8=>?_ ) (fun qz C8=>?_ )<;>simp only[zz]at C8;have qA:(aI 25 (Int.ofNat (m.imports.map Tm.encS).length))=true:=fi;rw[qA];refine s1 hW 2 0 [] 2 [] ?_;refine CG.cM (bF) ?_;rotate_left;have qB:(aI 25 (Int.ofNat (m.imports.map Tm.encS).length))=false:=eV;rw[qB];refine s1 hW 2 0 [] 0 [(2,bo (!aI 65 (Int.ofNat (m.ai.map Tm.encS).length)))] ?_;refine CG.cM (bo (!aI 65 (Int.ofNat (m.ai.map Tm.encS).length))) ?_;rotate_left;all_goals exact .inr ⟨rfl,rfl,_,rfl,rfl⟩
 ·intro i u x r dz hx cA aH;have hd:=hs.df x (aau hx);have hf:=IE hW x.body hd.body.sm (hz x (aau hx));have n1:=hd.name;have n2:=hd.ps;have n3:=hd.res.2.2.1;have dI:True:=trivial;refine s1 hW 4 0 [] 7 [(10,bo (aI (Int.ofNat i) (Int.ofNat (m.defs.map Df.aa).length)))] ?_;refine CG.az (fg i (m.defs.map Df.aa).length) k_ ?_;refine s1 hW 5 3 [] 7 [(14,lo Df.aa m.defs),(15,no i)] ?_;refine CG.ix (aG (aa:=Df.aa) hx) rfl k_ ?_;refine s1 hW 0 1 [] 7 [(17,.agg [so x.name,io x.line,lo Pm.aa x.ps,bo x.given,so x.res.elem,so x.res.row,lo aq.aa x.res.aF,io (Tm.kind x.body),io (Tm.line x.body),so (Tm.name x.body),io (Tm.num x.body),so (Tm.ae x.body),lo Tm.encI (Tm.ad x.body),lo Tm.encI (Tm.av x.body),lo aq.aa (Tm.ak x.body),lo Tm.encI (Tm.al x.body),lo Tm.aa (Tm.kids x.body)])] ?_;refine CG.fS (cs:=[.str x.name,.int .i64 x.line,.list (x.ps.map Pm.aa),.bool x.given,.str x.res.elem,.str x.res.row,.list (x.res.aF.map aq.aa),.int .i64 (Tm.kind x.body),.int .i64 (Tm.line x.body),.str (Tm.name x.body),.int .i64 (Tm.num x.body),.str (Tm.ae x.body),.list ((Tm.ad x.body).map Tm.encI),.list ((Tm.av x.body).map Tm.encI),.list ((Tm.ak x.body).map aq.aa),.list ((Tm.al x.body).map Tm.encI),.list ((Tm.kids x.body).map Tm.aa)]) rfl (fun _=>by kernel_rfl) rfl ?_;refine s1 hW 4 2 [] 15 [(19,.agg [io (Tm.kind x.body),io (Tm.line x.body),so (Tm.name x.body),io (Tm.num x.body),so (Tm.ae x.body),lo Tm.encI (Tm.ad x.body),lo Tm.encI (Tm.av x.body),lo aq.aa (Tm.ak x.body),lo Tm.encI (Tm.al x.body),lo Tm.aa (Tm.kids x.body)])] ?_;rotate_left;refine CG.xh hf rfl rfl k_ rfl ?_;rintro v H' ⟨b,rfl,rfl⟩;refine s1 hW 0 2 [] 15 [(22,bo !b)] ?_;refine sp b (fun pA=>?_ ) (fun pA=>?_ );rw[pA];refine s1 hW 0 6 [] 15 [(28,bo (aI 10 (Int.ofNat (x.ps.map Pm.aa).length)))] ?_;refine bz 10 (x.ps.map Pm.aa).length (fun Mp Mq=>?_ ) (fun Mp Mq=>?_ )<;>simp only[zz]at Mq;have Ap:(aI 10 (Int.ofNat (x.ps.map Pm.aa).length))=true:=fi;rw[Ap];refine s1 hW 6 0 [true] 15 [] ?_;refine CG.pq (bF) ?_;rotate_left;have Qx:(aI 10 (Int.ofNat (x.ps.map Pm.aa).length))=false:=eV;rw[Qx];refine s1 hW 0 6 [] 15 [(34,bo (aI 40 (Int.ofNat x.name.length)))] ?_;refine bz 40 x.name.length (fun IF Qy=>?_ ) (fun IF Qy=>?_ );have Mk:(aI 40 (Int.ofNat x.name.length))=true:=fi;rw[Mk];refine s1 hW 6 0 [true] 15 [] ?_;refine CG.pq (bF) ?_;rotate_left;have IJ:(aI 40 (Int.ofNat x.name.length))=false:=eV;rw[IJ];refine s1 hW 2 0 [] 15 [(41,bo (aI 8 (Int.ofNat (x.res.aF.map aq.aa).length)))] ?_;refine bz 8 (x.res.aF.map aq.aa).length (fun wP IG=>?_ ) (fun wP IG=>?_ )<;>simp only[zz]at IG;refine CG.az (show(aI 8 (Int.ofNat (x.res.aF.map aq.aa).length))=true from fi) k_ ?_;refine s1 hW 3 0 [] 15 [] ?_;refine CG.pq (bF) ?_;rotate_left;refine CG.ar (show(aI 8 (Int.ofNat (x.res.aF.map aq.aa).length))=false from eV) k_ ?_;refine s1 hW 6 0 [] 15 [(5,i0)] ?_;rotate_left;rw[pA];refine s1 hW 6 0 [true] 15 [] ?_;refine CG.pq (bF) ?_;rotate_left;rotate_right
  ·exact .inr ⟨rfl,rfl,_,rfl,rfl⟩
  ·exact .inr ⟨rfl,rfl,_,rfl,rfl⟩
  ·exact .inr ⟨rfl,rfl,_,rfl,rfl⟩
  ·exact .inr ⟨rfl,rfl,_,rfl,rfl⟩
  refine CG.bh x.ps (fun j v=>[(1,.aL [.str m.name,.list (m.imports.map Tm.encS),.list (m.ai.map Tm.encS),.list (m.defs.map Df.aa)]),(2,bF),(3,no i),(4,.aL [.str x.name,.int .i64 x.line,.list (x.ps.map Pm.aa),.bool x.given,.str x.res.elem,.str x.res.row,.list (x.res.aF.map aq.aa),.int .i64 (Tm.kind x.body),.int .i64 (Tm.line x.body),.str (Tm.name x.body),.int .i64 (Tm.num x.body),.str (Tm.ae x.body),.list ((Tm.ad x.body).map Tm.encI),.list ((Tm.av x.body).map Tm.encI),.list ((Tm.ak x.body).map aq.aa),.list ((Tm.al x.body).map Tm.encI),.list ((Tm.kids x.body).map Tm.aa)]),(5,.d (.int .i64 (.ofNat j)))]) (fun j v=>[]) (fun j v s=>(True)) () ?_ (ay.u1 k_) ?_ ?_
  ·trivial
  ·intro j v hj FW mf;refine s1 hW 4 0 [] 31 [(46,bo (aI (Int.ofNat j) (Int.ofNat (x.ps.map Pm.aa).length)))] ?_;refine CG.ar (fh j (x.ps.map Pm.aa).length) k_ ?_;refine CG.aV (by decide) ?_;refine s3 hW 3 3 [] [(1,.aL [.str m.name,.list (m.imports.map Tm.encS),.list (m.ai.map Tm.encS),.list (m.defs.map Df.aa)]),(2,bF),(3,io (aT IntKind.i64 (bC (Int.ofNat i) 1)))] ([]) ?_;refine CG.eu rfl ?_;rw[ba (by omega)];rotate_left;exact⟨(),trivial,ay.refl _ _⟩
  ·intro j v y s FW hy II mf;have n6:=(hd.pn y (aau hy)).2.2.2.1;refine s1 hW 4 0 [] 31 [(46,bo (aI (Int.ofNat j) (Int.ofNat (x.ps.map Pm.aa).length)))] ?_;refine CG.az (fg j (x.ps.map Pm.aa).length) k_ ?_;refine s1 hW 5 3 [] 31 [(50,lo Pm.aa x.ps),(51,no j)] ?_;refine CG.ix (aG (aa:=Pm.aa) hy) rfl k_ ?_;refine s1 hW 2 0 [] 31 [(58,bo (aI 8 (Int.ofNat (y.ty.aF.map aq.aa).length)))] ?_;refine bz 8 (y.ty.aF.map aq.aa).length (fun Xg p43=>?_ ) (fun Xg p43=>?_ )<;>simp only[zz]at p43;refine CG.az (show(aI 8 (Int.ofNat (y.ty.aF.map aq.aa).length))=true from fi) k_ ?_;refine s1 hW 3 0 [] 31 [] ?_;refine CG.PL (LQ.ret (LQ.ret (mW.ret (v':=(bF)) k_ ?_ )));rotate_left;refine CG.ar (show(aI 8 (Int.ofNat (y.ty.aF.map aq.aa).length))=false from eV) k_ ?_;refine s3 hW 3 3 [] [(1,.aL [.str m.name,.list (m.imports.map Tm.encS),.list (m.ai.map Tm.encS),.list (m.defs.map Df.aa)]),(2,bF),(3,no i),(4,.aL [.str x.name,.int .i64 x.line,.list (x.ps.map Pm.aa),.bool x.given,.str x.res.elem,.str x.res.row,.list (x.res.aF.map aq.aa),.int .i64 (Tm.kind x.body),.int .i64 (Tm.line x.body),.str (Tm.name x.body),.int .i64 (Tm.num x.body),.str (Tm.ae x.body),.list ((Tm.ad x.body).map Tm.encI),.list ((Tm.av x.body).map Tm.encI),.list ((Tm.ak x.body).map aq.aa),.list ((Tm.al x.body).map Tm.encI),.list ((Tm.kids x.body).map Tm.aa)]),(5,io (aT IntKind.i64 (bC (Int.ofNat j) 1)))] ([]) ?_;refine CG.eu rfl ?_;rw[ba (by omega)];rotate_left
   ·exact .inr ⟨rfl,rfl,_,rfl,rfl⟩
   ·exact⟨(),trivial,ay.refl _ _⟩
end Fw.Tz.Fg
/-
  What is the same is equal, by the reference: expressions, types, terms, definitions.
-/
namespace Fw.Tz.Es
open Go Go.Proofs Fw.X Fw.Tz Fw.Nu Fw.Tz.Sd Fw.Tz.Na Fw.Tz.El Fw.Tz.Va Fw.Tz.Vb Fw.Tz.Tm Fw.Tz.Eq
variable {W:World}
theorem be(x:List UInt8):Fw.ah x x=true:=by rw[cT];simp
theorem bl:∀x:List UInt8,Fw.bytesLess x x=false
 |[]=>rfl
 |a::x=>by
  rw[Fw.bytesLess];have h:Nat.blt a.toNat a.toNat=false:=by rw[Bool.eq_false_iff];simp[aaU]
  simp[bl x,h]
theorem yO(x y:Cf):iQ [.str,.int] [.d (.str x.var),.d (.int .i64 x.c)] [.d (.str y.var),.d (.int .i64 y.c)]=some (Aq x y):=by
 simp only[iQ,gf,AY,aaw,aaD rfl,Aq];cases ah x.var y.var with
  |false=>rfl
  |true=>
   simp only[aaV];by_cases h:x.c=y.c
   ·simp[h,iQ]
   ·have e:(x.c==y.c)=false:=by simp[h]
    rw[e,aaL h];simp
theorem cfS(x:Cf):Aq x x=true:=(FY x x).2 rfl
theorem IK(hW:W0 W)(a:aq)(ha:a.ts.length<1048577):PC P (gl W) 169 [.agg (a.aa.map .d),.agg (a.aa.map .d)] (i0):=by
 refine CG.start Qz QA rfl ?_;refine s4 hW 8 0 [] 0 [(2,.ptr 0 2 0),(3,.ptr 1 2 0),(4,i0),(5,i0)] [(0,.cells a.ce),(1,.cells a.ce)] ?_;rotate_left;refine CG.bh a.ts (fun i u=>[(2,.ptr 0 2 0),(3,.ptr 1 2 0),(4,i0),(5,.d (.int .i64 (.ofNat i)))]) (fun i u=>[some (.cells a.ce),some (.cells a.ce)]) (fun i u r=>(True)) () ?_ (ay.refl _ _) ?_ ?_
 ·trivial
 ·intro i u hi hd aH;refine s1 hW 2 6 [] 15 [(13,bo (aI (Int.ofNat i) (Int.ofNat (a.ts.map Cf.aa).length)))] ?_;have gO:(aI (Int.ofNat i) (Int.ofNat (a.ts.map Cf.aa).length))=false:=eV;rw[gO];refine s1 hW 3 0 [false] 15 [] ?_;refine CG.aV (by decide) ?_;refine s1 hW 5 8 [] 7 [(64,bo (aI (Int.ofNat (a.ts.map Cf.aa).length) (Int.ofNat (a.ts.map Cf.aa).length)))] ?_;have fk:(aI (Int.ofNat (a.ts.map Cf.aa).length) (Int.ofNat (a.ts.map Cf.aa).length))=false:=eV;rw[fk];refine s1 hW 0 8 [] 15 [(72,bo (aN (Int.ofNat (a.ts.map Cf.aa).length) (Int.ofNat (a.ts.map Cf.aa).length)))] ?_;have gj:(aN (Int.ofNat (a.ts.map Cf.aa).length) (Int.ofNat (a.ts.map Cf.aa).length))=true:=ll;rw[gj];refine s1 hW 2 0 [] 7 [(56,bo (aI a.c a.c))] ?_;refine CG.ar (show(aI a.c a.c)=false from eV) k_ ?_;refine s1 hW 1 8 [] 7 [(88,bo (aI (Int.ofNat (a.ts.map Cf.aa).length) (Int.ofNat (a.ts.map Cf.aa).length)))] ?_;rw[fk];refine s1 hW 2 0 [] 4 [(80,bo (aI a.c a.c))] ?_;refine CG.ar (show(aI a.c a.c)=false from eV) k_ ?_;refine s1 hW 6 0 [] 1 [] ?_;refine CG.rt (i0) ?_;with_reducible rfl
 ·intro i u x r dz hx cA aH;have e1:=be x.var;have e2:=bl x.var;refine s1 hW 2 6 [] 15 [(13,bo (aI (Int.ofNat i) (Int.ofNat (a.ts.map Cf.aa).length)))] ?_;have gG:(aI (Int.ofNat i) (Int.ofNat (a.ts.map Cf.aa).length))=true:=fi;rw[gG];refine s1 hW 2 0 [] 15 [(19,bo (aI (Int.ofNat i) (Int.ofNat (a.ts.map Cf.aa).length)))] ?_;refine CG.az gG k_ ?_;refine s1 hW 5 0 [] 15 [] ?_;refine CG.j3 bj k_ ?_;refine AW.rk 3 [(22,.ptr 0 2 1),(23,lo Cf.aa a.ts),(24,no i)] [] k_ ?_;refine AW.idx (aG (aa:=Cf.aa) hx) rfl k_ k_ k_ rfl ?_;refine AW.rk 4 [(26,.agg [so x.var,io x.c]),(27,.ptr 1 2 1),(28,lo Cf.aa a.ts),(29,no i)] [] k_ ?_;refine AW.idx (aG (aa:=Cf.aa) hx) rfl k_ k_ k_ rfl ?_;refine AW.rk 5 [(6,.ptr 12 2 0),(7,.ptr 13 2 0),(31,.agg [so x.var,io x.c])] [(12,.cells [so x.var,io x.c]),(13,.cells [so x.var,io x.c])] k_ ?_;refine AW.nil rfl ⟨k_,AW.fin 14 [2,3,4,5,6,7] k_ rfl k_ rfl k_ ?_⟩;refine s1 hW 3 6 [] 63 [(38,bo (bytesLess x.var x.var))] ?_;rw[e2];refine s1 hW 0 6 [] 127 [(44,bo (ah x.var x.var))] ?_;rw[e1];refine s1 hW 2 0 [] 63 [(32,bo (aI x.c x.c))] ?_;refine CG.ar (show(aI x.c x.c)=false from eV) k_ ?_;refine s1 hW 1 2 [] 15 [(53,.agg [so x.var,io x.c]),(54,.agg [so x.var,io x.c])] ?_;rotate_left;refine CG.Ca (xs:=[so x.var,io x.c]) (ys:=[so x.var,io x.c]) (r:=(Aq x x)) rfl k_ (yO x x) ?_;rw[cfS x];refine s3 hW 7 3 [false] [(2,.ptr 0 2 0),(3,.ptr 1 2 0),(4,i0),(5,io (aT IntKind.i64 (bC (Int.ofNat i) 1)))] ([some (.cells a.ce),some (.cells a.ce)]++nn 10 ([some (.cells [so x.var,io x.c]),some (.cells [so x.var,io x.c])])) ?_;refine CG.eu rfl ?_;rw[ba (by omega)];rotate_left;exact⟨(),trivial,ay.trim 2 [2,3,4,5] rfl rfl rfl rfl rfl⟩
theorem IL(hW:W0 W)(a:aq)(ha:a.ts.length<1048577):PC P (gl W) 121 [.agg (a.aa.map .d),.agg (a.aa.map .d)] (bT):=by have h1:=IK hW a ha;refine CG.start QB QC rfl ?_;refine s4 hW 4 2 [] 0 [(4,bF),(5,.agg a.ce),(6,.agg a.ce)] [(0,.cells a.ce),(1,.cells a.ce)] ?_;refine CG.pg (h1) rfl k_ ?_;refine s1 hW 2 0 [] 0 [(4,bT)] ?_;refine CG.rt (bT) ?_;with_reducible rfl
theorem Mr(hW:W0 W)(r1:List UInt8)(d1:List aq)(h1:d1.length<1048577)(h2:∀x∈d1,x.ts.length<1048577):PC P (gl W) 79 [.agg [so r1,lo aq.aa d1],.agg [so r1,lo aq.aa d1]] (bT):=by
 have e1:=be r1;refine CG.start Xi Xj rfl ?_;refine s4 hW 5 6 [] 0 [(2,.ptr 0 2 0),(3,.ptr 1 2 0),(4,bF),(11,bo (!ah r1 r1))] [(0,.cells [so r1,lo aq.aa d1]),(1,.cells [so r1,lo aq.aa d1])] ?_;rw[e1];refine s1 hW 2 0 [] 7 [(19,bo (!aN (Int.ofNat (d1.map aq.aa).length) (Int.ofNat (d1.map aq.aa).length)))] ?_;have q8:(aN (Int.ofNat (d1.map aq.aa).length) (Int.ofNat (d1.map aq.aa).length))=true:=ll;refine CG.ar (b:=(!aN (Int.ofNat (d1.map aq.aa).length) (Int.ofNat (d1.map aq.aa).length))) (by rw[q8];rfl) k_ ?_;refine s1 hW 7 0 [] 7 [(5,i0)] ?_;rotate_left;refine CG.bh d1 (fun i u=>[(2,.ptr 0 2 0),(3,.ptr 1 2 0),(4,bF),(5,.d (.int .i64 (.ofNat i)))]) (fun i u=>[some (.cells [so r1,lo aq.aa d1]),some (.cells [so r1,lo aq.aa d1])]) (fun i u r=>(True)) () ?_ (ay.refl _ _) ?_ ?_
 ·trivial
 ·intro i u hi hd aH;refine s1 hW 4 0 [] 15 [(24,bo (aI (Int.ofNat i) (Int.ofNat (d1.map aq.aa).length)))] ?_;refine CG.ar (fh i (d1.map aq.aa).length) k_ ?_;refine CG.aV (by decide) ?_;refine s1 hW 5 0 [] 0 [(4,bT)] ?_;refine CG.rt (bT) ?_;with_reducible rfl
 ·intro i u x r dz hx cA aH;have h3:=IL hW x (h2 x (aau hx));refine s1 hW 4 0 [] 15 [(24,bo (aI (Int.ofNat i) (Int.ofNat (d1.map aq.aa).length)))] ?_;refine CG.az (fg i (d1.map aq.aa).length) k_ ?_;refine s1 hW 5 0 [] 15 [] ?_;refine CG.fP bj k_ k_ ?_;refine AO.rd 3 [(27,.ptr 0 2 1),(28,lo aq.aa d1),(29,no i)] k_ ?_;refine AO.idx (aG (aa:=aq.aa) hx) rfl k_ k_ k_ rfl ?_;refine AO.rd 4 [(31,.agg x.ce),(32,.ptr 1 2 1),(33,lo aq.aa d1),(34,no i)] k_ ?_;refine AO.idx (aG (aa:=aq.aa) hx) rfl k_ k_ k_ rfl ?_;refine AO.rd 1 [(36,.agg x.ce)] k_ ?_;refine AO.lC h3 rfl k_ k_ ?_;refine AO.rd 1 [(38,bF)] k_ ?_;refine AO.done [2,3,4,5,38] rfl rfl k_ ?_;refine s3 hW 5 3 [false] [(2,.ptr 0 2 0),(3,.ptr 1 2 0),(4,bF),(5,io (aT IntKind.i64 (bC (Int.ofNat i) 1)))] ([some (.cells [so r1,lo aq.aa d1]),some (.cells [so r1,lo aq.aa d1])]) ?_;refine CG.eu rfl ?_;rw[ba (by omega)];rotate_left;exact⟨(),trivial,ay.refl _ _⟩
theorem FZ(hW:W0 W)(t:Ty)(h1:t.aF.length<1048577)(h2:∀x∈t.aF,x.ts.length<1048577):PC P (gl W) 33 [.agg (t.aa.map .d),.agg (t.aa.map .d)] (bT):=by have e1:=be t.elem;have h3:=Mr hW t.row t.aF h1 h2;refine CG.start Xk Xl rfl ?_;refine s4 hW 4 6 [] 0 [(2,.ptr 0 3 0),(3,.ptr 1 3 0),(4,bF),(10,bo (ah t.elem t.elem))] [(0,.cells t.ce),(1,.cells t.ce)] ?_;rw[e1];refine s1 hW 0 4 [] 12 [(12,.agg [so t.row,lo aq.aa t.aF]),(14,.agg [so t.row,lo aq.aa t.aF])] ?_;refine CG.pg (h3) rfl k_ ?_;refine s1 hW 2 0 [] 0 [(4,bT)] ?_;refine CG.rt (bT) ?_;with_reducible rfl
theorem Ms(hW:W0 W)(a:aq)(ha:a.ts.length<1048577):PC P (gl W) 123 [.agg (a.aa.map .d),.agg (a.aa.map .d)] (bT):=by
 refine CG.start QD QE rfl ?_;refine s4 hW 5 6 [] 0 [(2,.ptr 0 2 0),(3,.ptr 1 2 0),(4,bF),(11,bo (!aN a.c a.c))] [(0,.cells a.ce),(1,.cells a.ce)] ?_;have q5:(aN a.c a.c)=true:=ll;rw[q5];refine s1 hW 2 0 [] 7 [(19,bo (!aN (Int.ofNat (a.ts.map Cf.aa).length) (Int.ofNat (a.ts.map Cf.aa).length)))] ?_;have q6:(aN (Int.ofNat (a.ts.map Cf.aa).length) (Int.ofNat (a.ts.map Cf.aa).length))=true:=ll;refine CG.ar (b:=(!aN (Int.ofNat (a.ts.map Cf.aa).length) (Int.ofNat (a.ts.map Cf.aa).length))) (by rw[q6];rfl) k_ ?_;refine s1 hW 7 0 [] 7 [(5,i0)] ?_;rotate_left;refine CG.bh a.ts (fun i u=>[(2,.ptr 0 2 0),(3,.ptr 1 2 0),(4,bF),(5,.d (.int .i64 (.ofNat i)))]) (fun i u=>[some (.cells a.ce),some (.cells a.ce)]) (fun i u r=>(True)) () ?_ (ay.refl _ _) ?_ ?_
 ·trivial
 ·intro i u hi hd aH;refine s1 hW 4 0 [] 15 [(24,bo (aI (Int.ofNat i) (Int.ofNat (a.ts.map Cf.aa).length)))] ?_;refine CG.ar (fh i (a.ts.map Cf.aa).length) k_ ?_;refine CG.aV (by decide) ?_;refine s1 hW 5 0 [] 0 [(4,bT)] ?_;refine CG.rt (bT) ?_;with_reducible rfl
 ·intro i u x r dz hx cA aH;refine s1 hW 4 0 [] 15 [(24,bo (aI (Int.ofNat i) (Int.ofNat (a.ts.map Cf.aa).length)))] ?_;refine CG.az (fg i (a.ts.map Cf.aa).length) k_ ?_;refine s1 hW 5 0 [] 15 [] ?_;refine CG.fP bj k_ k_ ?_;refine AO.rd 3 [(27,.ptr 0 2 1),(28,lo Cf.aa a.ts),(29,no i)] k_ ?_;refine AO.idx (aG (aa:=Cf.aa) hx) rfl k_ k_ k_ rfl ?_;refine AO.rd 4 [(31,.agg [so x.var,io x.c]),(32,.ptr 1 2 1),(33,lo Cf.aa a.ts),(34,no i)] k_ ?_;refine AO.idx (aG (aa:=Cf.aa) hx) rfl k_ k_ k_ rfl ?_;refine AO.rd 1 [(36,.agg [so x.var,io x.c])] k_ ?_;rotate_left;refine AO.Ca (xs:=[so x.var,io x.c]) (ys:=[so x.var,io x.c]) (r:=(Aq x x)) rfl k_ (yO x x) ?_;rw[cfS x];refine AO.done [2,3,4,5,37] rfl rfl k_ ?_;refine s3 hW 5 3 [false] [(2,.ptr 0 2 0),(3,.ptr 1 2 0),(4,bF),(5,io (aT IntKind.i64 (bC (Int.ofNat i) 1)))] ([some (.cells a.ce),some (.cells a.ce)]) ?_;refine CG.eu rfl ?_;rw[ba (by omega)];rotate_left;exact⟨(),trivial,ay.refl _ _⟩
theorem tj(hW:W0 W)(l:List Int)(hl:l.length<1048577):PC P (gl W) 122 [lo Tm.encI l,lo Tm.encI l] (bT):=by
 refine CG.start QF QG rfl ?_;refine s1 hW 7 0 [] 3 [(4,bF),(10,bo (!aN (Int.ofNat (l.map Tm.encI).length) (Int.ofNat (l.map Tm.encI).length)))] ?_;have q5:(aN (Int.ofNat (l.map Tm.encI).length) (Int.ofNat (l.map Tm.encI).length))=true:=ll;refine CG.ar (b:=(!aN (Int.ofNat (l.map Tm.encI).length) (Int.ofNat (l.map Tm.encI).length))) (by rw[q5];rfl) k_ ?_;refine s1 hW 7 0 [] 7 [(5,i0)] ?_;rotate_left;refine CG.bh l (fun i u=>[(0,lo Tm.encI l),(1,lo Tm.encI l),(4,bF),(5,.d (.int .i64 (.ofNat i)))]) (fun i u=>[]) (fun i u r=>(True)) () ?_ (ay.refl _ _) ?_ ?_
 ·trivial
 ·intro i u hi hd aH;refine s1 hW 4 0 [] 15 [(14,bo (aI (Int.ofNat i) (Int.ofNat (l.map Tm.encI).length)))] ?_;refine CG.ar (fh i (l.map Tm.encI).length) k_ ?_;refine CG.aV (by decide) ?_;refine s1 hW 5 0 [] 0 [(4,bT)] ?_;refine CG.rt (bT) ?_;with_reducible rfl
 ·intro i u x r dz hx cA aH;refine s1 hW 4 0 [] 15 [(14,bo (aI (Int.ofNat i) (Int.ofNat (l.map Tm.encI).length)))] ?_;refine CG.az (fg i (l.map Tm.encI).length) k_ ?_;refine s1 hW 5 0 [] 15 [] ?_;refine CG.fP bj k_ k_ ?_;refine AO.rd 2 [(17,lo Tm.encI l),(18,no i)] k_ ?_;refine AO.idx (aG (aa:=Tm.encI) hx) rfl k_ k_ k_ rfl ?_;refine AO.rd 3 [(20,io x),(21,lo Tm.encI l),(22,no i)] k_ ?_;refine AO.idx (aG (aa:=Tm.encI) hx) rfl k_ k_ k_ rfl ?_;refine AO.rd 2 [(24,io x),(25,bo (x !=x))] k_ ?_;refine AO.done [0,1,4,5,25] rfl rfl k_ ?_;refine s1 hW 1 0 [] 31 [] ?_;refine CG.ar (show(x !=x)=false from PF (by(try simp only[zz]at*)<;>omega)) k_ ?_;refine s3 hW 3 3 [] [(0,lo Tm.encI l),(1,lo Tm.encI l),(4,bF),(5,io (aT IntKind.i64 (bC (Int.ofNat i) 1)))] ([]) ?_;refine CG.eu rfl ?_;rw[ba (by omega)];rotate_left;exact⟨(),trivial,ay.refl _ _⟩
theorem Mt(hW:W0 W):∀(n:Nat)(t:Tm),t.pre.length=n->wN t->(∀y∈t.pre,∀x∈y.ak,x.ts.length<1048577)->PC P (gl W) 80 [vT t,vT t] (bT):=by
 intro n;induction n using Nat.strongRecOn with
  |_ n ih=>
   intro t hn hs hx;have hk:∀k∈t.kids,PC P (gl W) 80 [vT k,vT k] (bT):=fun k hm=>ih _ (by rw[←hn];exact Tm.fV hm) k rfl (hs.FQ hm) (fun y hy=>hx y (Tm.pB hm hy))
   have hN:=hs.self;have h1:=tj hW t.ad hN.ad;have h2:=tj hW t.av hN.av;have h3:=tj hW t.al hN.al;have cG:=hx t t.rJ;have Xm:=hN.ak;have Lw:=hN.kids;have e1:=be t.name;have e2:=be t.ae;clear ih hx hn;refine CG.start Xn Xo rfl ?_;refine s4 hW 5 6 [] 0 [(2,.ptr 0 10 0),(3,.ptr 1 10 0),(4,bF),(12,bo (!aN (Tm.kind t) (Tm.kind t)))] [(0,.cells [io (Tm.kind t),io (Tm.line t),so (Tm.name t),io (Tm.num t),so (Tm.ae t),lo Tm.encI (Tm.ad t),lo Tm.encI (Tm.av t),lo aq.aa (Tm.ak t),lo Tm.encI (Tm.al t),lo Tm.aa (Tm.kids t)]),(1,.cells [io (Tm.kind t),io (Tm.line t),so (Tm.name t),io (Tm.num t),so (Tm.ae t),lo Tm.encI (Tm.ad t),lo Tm.encI (Tm.av t),lo aq.aa (Tm.ak t),lo Tm.encI (Tm.al t),lo Tm.aa (Tm.kids t)])] ?_;have iz:(aN (Tm.kind t) (Tm.kind t))=true:=ll;rw[iz];refine s1 hW 0 7 [] 7 [(19,bo (!ah (Tm.name t) (Tm.name t)))] ?_;rw[e1];refine s1 hW 0 7 [] 7 [(26,bo (!aN (Tm.num t) (Tm.num t)))] ?_;have iv:(aN (Tm.num t) (Tm.num t))=true:=ll;rw[iv];refine s1 hW 0 9 [] 7 [(35,bo (!aN (Int.ofNat (List.length ((Tm.ak t).map aq.aa))) (Int.ofNat (List.length ((Tm.ak t).map aq.aa)))))] ?_;have mY:(aN (Int.ofNat (List.length ((Tm.ak t).map aq.aa))) (Int.ofNat (List.length ((Tm.ak t).map aq.aa))))=true:=ll;rw[mY];refine s1 hW 2 0 [] 7 [(43,bo (!aN (Int.ofNat (List.length ((Tm.kids t).map Tm.aa))) (Int.ofNat (List.length ((Tm.kids t).map Tm.aa)))))] ?_;have jd:(aN (Int.ofNat (List.length ((Tm.kids t).map Tm.aa))) (Int.ofNat (List.length ((Tm.kids t).map Tm.aa))))=true:=ll;refine CG.ar (b:=(!aN (Int.ofNat (List.length ((Tm.kids t).map Tm.aa))) (Int.ofNat (List.length ((Tm.kids t).map Tm.aa))))) (by rw[jd];rfl) k_ ?_;refine s1 hW 4 8 [] 7 [(51,bo (!ah (Tm.ae t) (Tm.ae t)))] ?_;rw[e2];refine s1 hW 0 6 [] 15 [(54,lo Tm.encI (Tm.ad t)),(57,lo Tm.encI (Tm.ad t))] ?_;refine CG.pg (h1) rfl k_ ?_;refine s1 hW 0 9 [] 7 [(61,bF),(64,lo Tm.encI (Tm.av t)),(67,lo Tm.encI (Tm.av t))] ?_;refine CG.pg (h2) rfl k_ ?_;refine s1 hW 0 7 [] 7 [(71,bF),(73,lo Tm.encI (Tm.al t)),(75,lo Tm.encI (Tm.al t))] ?_;refine CG.pg (h3) rfl k_ ?_;refine s1 hW 10 0 [false] 7 [(5,i0)] ?_;rotate_left;have me:True:=trivial;refine CG.bh t.ak (fun i u=>[(2,.ptr 0 10 0),(3,.ptr 1 10 0),(4,bF),(5,.d (.int .i64 (.ofNat i)))]) (fun i u=>[some (.cells [io (Tm.kind t),io (Tm.line t),so (Tm.name t),io (Tm.num t),so (Tm.ae t),lo Tm.encI (Tm.ad t),lo Tm.encI (Tm.av t),lo aq.aa (Tm.ak t),lo Tm.encI (Tm.al t),lo Tm.aa (Tm.kids t)]),some (.cells [io (Tm.kind t),io (Tm.line t),so (Tm.name t),io (Tm.num t),so (Tm.ae t),lo Tm.encI (Tm.ad t),lo Tm.encI (Tm.av t),lo aq.aa (Tm.ak t),lo Tm.encI (Tm.al t),lo Tm.aa (Tm.kids t)])]) (fun i u r=>(True)) () ?_ (ay.u1 k_) ?_ ?_
   ·trivial
   ·intro i u hi hd aH;refine s1 hW 4 0 [] 15 [(83,bo (aI (Int.ofNat i) (Int.ofNat (List.length ((Tm.ak t).map aq.aa)))))] ?_;refine CG.ar (fh i (List.length ((Tm.ak t).map aq.aa))) k_ ?_;refine CG.aV (by decide) ?_;refine s1 hW 7 0 [] 7 [(6,i0)] ?_;rotate_left;refine CG.bh t.kids (fun j v=>[(2,.ptr 0 10 0),(3,.ptr 1 10 0),(4,bF),(6,.d (.int .i64 (.ofNat j)))]) (fun j v=>[some (.cells [io (Tm.kind t),io (Tm.line t),so (Tm.name t),io (Tm.num t),so (Tm.ae t),lo Tm.encI (Tm.ad t),lo Tm.encI (Tm.av t),lo aq.aa (Tm.ak t),lo Tm.encI (Tm.al t),lo Tm.aa (Tm.kids t)]),some (.cells [io (Tm.kind t),io (Tm.line t),so (Tm.name t),io (Tm.num t),so (Tm.ae t),lo Tm.encI (Tm.ad t),lo Tm.encI (Tm.av t),lo aq.aa (Tm.ak t),lo Tm.encI (Tm.al t),lo Tm.aa (Tm.kids t)])]) (fun j v s=>(True)) () ?_ (ay.u1 k_) ?_ ?_
    ·trivial
    ·intro j v hj FW mf;refine s1 hW 4 0 [] 15 [(102,bo (aI (Int.ofNat j) (Int.ofNat (List.length ((Tm.kids t).map Tm.aa)))))] ?_;refine CG.ar (fh j (List.length ((Tm.kids t).map Tm.aa))) k_ ?_;refine CG.aV (by decide) ?_;refine s1 hW 5 0 [] 0 [(4,bT)] ?_;refine CG.rt (bT) ?_;with_reducible rfl
    ·intro j v y s FW hy II mf;have h5:=hk y (aau hy);refine s1 hW 4 0 [] 15 [(102,bo (aI (Int.ofNat j) (Int.ofNat (List.length ((Tm.kids t).map Tm.aa)))))] ?_;refine CG.az (fg j (List.length ((Tm.kids t).map Tm.aa))) k_ ?_;refine s1 hW 5 0 [] 15 [] ?_;refine CG.fP bj k_ k_ ?_;refine AO.rd 3 [(105,.ptr 0 10 9),(106,lo Tm.aa (Tm.kids t)),(107,no j)] k_ ?_;refine AO.idx (Tm.dG hy) rfl k_ k_ k_ rfl ?_;refine AO.rd 4 [(109,.agg [io (Tm.kind y),io (Tm.line y),so (Tm.name y),io (Tm.num y),so (Tm.ae y),lo Tm.encI (Tm.ad y),lo Tm.encI (Tm.av y),lo aq.aa (Tm.ak y),lo Tm.encI (Tm.al y),lo Tm.aa (Tm.kids y)]),(110,.ptr 1 10 9),(111,lo Tm.aa (Tm.kids t)),(112,no j)] k_ ?_;refine AO.idx (Tm.dG hy) rfl k_ k_ k_ rfl ?_;refine AO.rd 1 [(114,.agg [io (Tm.kind y),io (Tm.line y),so (Tm.name y),io (Tm.num y),so (Tm.ae y),lo Tm.encI (Tm.ad y),lo Tm.encI (Tm.av y),lo aq.aa (Tm.ak y),lo Tm.encI (Tm.al y),lo Tm.aa (Tm.kids y)])] k_ ?_;refine AO.lC h5 rfl k_ k_ ?_;refine AO.rd 1 [(116,bF)] k_ ?_;refine AO.done [2,3,4,6,116] rfl rfl k_ ?_;refine s3 hW 5 3 [false] [(2,.ptr 0 10 0),(3,.ptr 1 10 0),(4,bF),(6,io (aT IntKind.i64 (bC (Int.ofNat j) 1)))] ([some (.cells [io (Tm.kind t),io (Tm.line t),so (Tm.name t),io (Tm.num t),so (Tm.ae t),lo Tm.encI (Tm.ad t),lo Tm.encI (Tm.av t),lo aq.aa (Tm.ak t),lo Tm.encI (Tm.al t),lo Tm.aa (Tm.kids t)]),some (.cells [io (Tm.kind t),io (Tm.line t),so (Tm.name t),io (Tm.num t),so (Tm.ae t),lo Tm.encI (Tm.ad t),lo Tm.encI (Tm.av t),lo aq.aa (Tm.ak t),lo Tm.encI (Tm.al t),lo Tm.aa (Tm.kids t)])]) ?_;refine CG.eu rfl ?_;rw[ba (by omega)];rotate_left;exact⟨(),trivial,ay.refl _ _⟩
   ·intro i u x r dz j7 cA aH;have h4:=Ms hW x (cG x (aau j7));refine s1 hW 4 0 [] 15 [(83,bo (aI (Int.ofNat i) (Int.ofNat (List.length ((Tm.ak t).map aq.aa)))))] ?_;refine CG.az (fg i (List.length ((Tm.ak t).map aq.aa))) k_ ?_;refine s1 hW 5 0 [] 15 [] ?_;refine CG.fP bj k_ k_ ?_;refine AO.rd 3 [(86,.ptr 0 10 7),(87,lo aq.aa (Tm.ak t)),(88,no i)] k_ ?_;refine AO.idx (aG (aa:=aq.aa) j7) rfl k_ k_ k_ rfl ?_;refine AO.rd 4 [(90,.agg x.ce),(91,.ptr 1 10 7),(92,lo aq.aa (Tm.ak t)),(93,no i)] k_ ?_;refine AO.idx (aG (aa:=aq.aa) j7) rfl k_ k_ k_ rfl ?_;refine AO.rd 1 [(95,.agg x.ce)] k_ ?_;refine AO.lC h4 rfl k_ k_ ?_;refine AO.rd 1 [(97,bF)] k_ ?_;refine AO.done [2,3,4,5,97] rfl rfl k_ ?_;refine s3 hW 5 3 [false] [(2,.ptr 0 10 0),(3,.ptr 1 10 0),(4,bF),(5,io (aT IntKind.i64 (bC (Int.ofNat i) 1)))] ([some (.cells [io (Tm.kind t),io (Tm.line t),so (Tm.name t),io (Tm.num t),so (Tm.ae t),lo Tm.encI (Tm.ad t),lo Tm.encI (Tm.av t),lo aq.aa (Tm.ak t),lo Tm.encI (Tm.al t),lo Tm.aa (Tm.kids t)]),some (.cells [io (Tm.kind t),io (Tm.line t),so (Tm.name t),io (Tm.num t),so (Tm.ae t),lo Tm.encI (Tm.ad t),lo Tm.encI (Tm.av t),lo aq.aa (Tm.ak t),lo Tm.encI (Tm.al t),lo Tm.aa (Tm.kids t)])]) ?_;refine CG.eu rfl ?_;rw[ba (by omega)];rotate_left;exact⟨(),trivial,ay.refl _ _⟩
theorem Mu(hW:W0 W):∀(n:Nat)(t:Tm),t.pre.length=n->wN t->(∀y∈t.pre,∀x∈y.ak,x.ts.length<1048577)->PC P (gl W) 34 [vT t,vT t] (bT):=by
 intro n;induction n using Nat.strongRecOn with
  |_ n ih=>
   intro t hn hs hx;have hk:∀k∈t.kids,PC P (gl W) 34 [vT k,vT k] (bT):=fun k hm=>ih _ (by rw[←hn];exact Tm.fV hm) k rfl (hs.FQ hm) (fun y hy=>hx y (Tm.pB hm hy))
   have h1:=Mt hW _ t rfl hs hx;have Lw:=hs.self.kids;clear ih hx hn;refine CG.start Xp Xq rfl ?_;refine s4 hW 5 6 [] 0 [(2,.ptr 0 10 0),(3,.ptr 1 10 0),(4,bF),(11,bo (!aN (Tm.line t) (Tm.line t)))] [(0,.cells [io (Tm.kind t),io (Tm.line t),so (Tm.name t),io (Tm.num t),so (Tm.ae t),lo Tm.encI (Tm.ad t),lo Tm.encI (Tm.av t),lo aq.aa (Tm.ak t),lo Tm.encI (Tm.al t),lo Tm.aa (Tm.kids t)]),(1,.cells [io (Tm.kind t),io (Tm.line t),so (Tm.name t),io (Tm.num t),so (Tm.ae t),lo Tm.encI (Tm.ad t),lo Tm.encI (Tm.av t),lo aq.aa (Tm.ak t),lo Tm.encI (Tm.al t),lo Tm.aa (Tm.kids t)])] ?_;have q9:(aN (Tm.line t) (Tm.line t))=true:=ll;rw[q9];refine s1 hW 0 2 [] 15 [(12,.agg [io (Tm.kind t),io (Tm.line t),so (Tm.name t),io (Tm.num t),so (Tm.ae t),lo Tm.encI (Tm.ad t),lo Tm.encI (Tm.av t),lo aq.aa (Tm.ak t),lo Tm.encI (Tm.al t),lo Tm.aa (Tm.kids t)]),(13,.agg [io (Tm.kind t),io (Tm.line t),so (Tm.name t),io (Tm.num t),so (Tm.ae t),lo Tm.encI (Tm.ad t),lo Tm.encI (Tm.av t),lo aq.aa (Tm.ak t),lo Tm.encI (Tm.al t),lo Tm.aa (Tm.kids t)])] ?_;refine CG.pg (h1) rfl k_ ?_;refine s1 hW 10 0 [false] 7 [(5,i0)] ?_;rotate_left;have me:True:=trivial;refine CG.bh t.kids (fun j v=>[(2,.ptr 0 10 0),(3,.ptr 1 10 0),(4,bF),(5,.d (.int .i64 (.ofNat j)))]) (fun j v=>[some (.cells [io (Tm.kind t),io (Tm.line t),so (Tm.name t),io (Tm.num t),so (Tm.ae t),lo Tm.encI (Tm.ad t),lo Tm.encI (Tm.av t),lo aq.aa (Tm.ak t),lo Tm.encI (Tm.al t),lo Tm.aa (Tm.kids t)]),some (.cells [io (Tm.kind t),io (Tm.line t),so (Tm.name t),io (Tm.num t),so (Tm.ae t),lo Tm.encI (Tm.ad t),lo Tm.encI (Tm.av t),lo aq.aa (Tm.ak t),lo Tm.encI (Tm.al t),lo Tm.aa (Tm.kids t)])]) (fun j v s=>(True)) () ?_ (ay.u1 k_) ?_ ?_
   ·trivial
   ·intro j v hj FW mf;refine s1 hW 4 0 [] 15 [(21,bo (aI (Int.ofNat j) (Int.ofNat (List.length ((Tm.kids t).map Tm.aa)))))] ?_;refine CG.ar (fh j (List.length ((Tm.kids t).map Tm.aa))) k_ ?_;refine CG.aV (by decide) ?_;refine s1 hW 5 0 [] 0 [(4,bT)] ?_;refine CG.rt (bT) ?_;with_reducible rfl
   ·intro j v y s FW hy II mf;have h5:=hk y (aau hy);refine s1 hW 4 0 [] 15 [(21,bo (aI (Int.ofNat j) (Int.ofNat (List.length ((Tm.kids t).map Tm.aa)))))] ?_;refine CG.az (fg j (List.length ((Tm.kids t).map Tm.aa))) k_ ?_;refine s1 hW 5 0 [] 15 [] ?_;refine CG.fP bj k_ k_ ?_;refine AO.rd 3 [(24,.ptr 0 10 9),(25,lo Tm.aa (Tm.kids t)),(26,no j)] k_ ?_;refine AO.idx (Tm.dG hy) rfl k_ k_ k_ rfl ?_;refine AO.rd 4 [(28,.agg [io (Tm.kind y),io (Tm.line y),so (Tm.name y),io (Tm.num y),so (Tm.ae y),lo Tm.encI (Tm.ad y),lo Tm.encI (Tm.av y),lo aq.aa (Tm.ak y),lo Tm.encI (Tm.al y),lo Tm.aa (Tm.kids y)]),(29,.ptr 1 10 9),(30,lo Tm.aa (Tm.kids t)),(31,no j)] k_ ?_;refine AO.idx (Tm.dG hy) rfl k_ k_ k_ rfl ?_;refine AO.rd 1 [(33,.agg [io (Tm.kind y),io (Tm.line y),so (Tm.name y),io (Tm.num y),so (Tm.ae y),lo Tm.encI (Tm.ad y),lo Tm.encI (Tm.av y),lo aq.aa (Tm.ak y),lo Tm.encI (Tm.al y),lo Tm.aa (Tm.kids y)])] k_ ?_;refine AO.lC h5 rfl k_ k_ ?_;refine AO.rd 1 [(35,bF)] k_ ?_;refine AO.done [2,3,4,5,35] rfl rfl k_ ?_;refine s3 hW 5 3 [false] [(2,.ptr 0 10 0),(3,.ptr 1 10 0),(4,bF),(5,io (aT IntKind.i64 (bC (Int.ofNat j) 1)))] ([some (.cells [io (Tm.kind t),io (Tm.line t),so (Tm.name t),io (Tm.num t),so (Tm.ae t),lo Tm.encI (Tm.ad t),lo Tm.encI (Tm.av t),lo aq.aa (Tm.ak t),lo Tm.encI (Tm.al t),lo Tm.aa (Tm.kids t)]),some (.cells [io (Tm.kind t),io (Tm.line t),so (Tm.name t),io (Tm.num t),so (Tm.ae t),lo Tm.encI (Tm.ad t),lo Tm.encI (Tm.av t),lo aq.aa (Tm.ak t),lo Tm.encI (Tm.al t),lo Tm.aa (Tm.kids t)])]) ?_;refine CG.eu rfl ?_;rw[ba (by omega)];rotate_left;exact⟨(),trivial,ay.refl _ _⟩
theorem IM(hW:W0 W)(p:Pm)(h1:p.ty.aF.length<1048577)(h2:∀x∈p.ty.aF,x.ts.length<1048577):PC P (gl W) 32 [vP p,vP p] (bT):=by
 have e1:=be p.name;have e2:(p.given==p.given)=true:=by simp
 have h3:=FZ hW p.ty h1 h2;refine CG.start Xr Xs rfl ?_;refine s4 hW 4 6 [] 0 [(2,.ptr 0 5 0),(3,.ptr 1 5 0),(4,bF),(10,bo (ah p.name p.name))] [(0,.cells [so p.name,bo p.given,so p.ty.elem,so p.ty.row,lo aq.aa p.ty.aF]),(1,.cells [so p.name,bo p.given,so p.ty.elem,so p.ty.row,lo aq.aa p.ty.aF])] ?_;rw[e1];refine s1 hW 0 7 [] 7 [(17,bo (Pm.given p==Pm.given p))] ?_;rw[e2];refine s1 hW 0 4 [] 12 [(19,.agg p.ty.ce),(21,.agg p.ty.ce)] ?_;refine CG.pg (h3) rfl k_ ?_;refine s1 hW 2 0 [] 0 [(4,bT)] ?_;refine CG.rt (bT) ?_;with_reducible rfl
theorem wQ(hW:W0 W)(d:Df)(hd:Cv.xj d):PC P (gl W) 10 [ue d,ue d] (bT):=by
 have hS:=hd.df;have e1:=be d.name;have e2:(d.given==d.given)=true:=by simp
 have h3:=FZ hW d.res hS.res.2.2.1 (fun x hx=>(hS.res.2.2.2 x hx).1);have h4:=Mu hW _ d.body rfl hS.body.sm hd.body;have Lu:=hS.ps;have N9:=hS.pn;refine CG.start Xt Xu rfl ?_;refine s4 hW 7 0 [] 0 [(2,.ptr 0 17 0),(3,.ptr 1 17 0),(4,bF),(12,bo (!aN (Int.ofNat (d.ps.map Pm.aa).length) (Int.ofNat (d.ps.map Pm.aa).length)))] [(0,.cells [so d.name,io d.line,lo Pm.aa d.ps,bo d.given,so d.res.elem,so d.res.row,lo aq.aa d.res.aF,io (Tm.kind d.body),io (Tm.line d.body),so (Tm.name d.body),io (Tm.num d.body),so (Tm.ae d.body),lo Tm.encI (Tm.ad d.body),lo Tm.encI (Tm.av d.body),lo aq.aa (Tm.ak d.body),lo Tm.encI (Tm.al d.body),lo Tm.aa (Tm.kids d.body)]),(1,.cells [so d.name,io d.line,lo Pm.aa d.ps,bo d.given,so d.res.elem,so d.res.row,lo aq.aa d.res.aF,io (Tm.kind d.body),io (Tm.line d.body),so (Tm.name d.body),io (Tm.num d.body),so (Tm.ae d.body),lo Tm.encI (Tm.ad d.body),lo Tm.encI (Tm.av d.body),lo aq.aa (Tm.ak d.body),lo Tm.encI (Tm.al d.body),lo Tm.aa (Tm.kids d.body)])] ?_;have gj:(aN (Int.ofNat (d.ps.map Pm.aa).length) (Int.ofNat (d.ps.map Pm.aa).length))=true:=ll;refine CG.ar (b:=(!aN (Int.ofNat (d.ps.map Pm.aa).length) (Int.ofNat (d.ps.map Pm.aa).length))) (by rw[gj];rfl) k_ ?_;refine s1 hW 7 0 [] 7 [(5,i0)] ?_;rotate_left;have me:True:=trivial;refine CG.bh d.ps (fun j v=>[(2,.ptr 0 17 0),(3,.ptr 1 17 0),(4,bF),(5,.d (.int .i64 (.ofNat j)))]) (fun j v=>[some (.cells [so d.name,io d.line,lo Pm.aa d.ps,bo d.given,so d.res.elem,so d.res.row,lo aq.aa d.res.aF,io (Tm.kind d.body),io (Tm.line d.body),so (Tm.name d.body),io (Tm.num d.body),so (Tm.ae d.body),lo Tm.encI (Tm.ad d.body),lo Tm.encI (Tm.av d.body),lo aq.aa (Tm.ak d.body),lo Tm.encI (Tm.al d.body),lo Tm.aa (Tm.kids d.body)]),some (.cells [so d.name,io d.line,lo Pm.aa d.ps,bo d.given,so d.res.elem,so d.res.row,lo aq.aa d.res.aF,io (Tm.kind d.body),io (Tm.line d.body),so (Tm.name d.body),io (Tm.num d.body),so (Tm.ae d.body),lo Tm.encI (Tm.ad d.body),lo Tm.encI (Tm.av d.body),lo aq.aa (Tm.ak d.body),lo Tm.encI (Tm.al d.body),lo Tm.aa (Tm.kids d.body)])]) (fun j v s=>(True)) () ?_ (ay.u1 k_) ?_ ?_
 ·trivial
 ·intro j v hj FW mf;refine s1 hW 4 0 [] 15 [(17,bo (aI (Int.ofNat j) (Int.ofNat (d.ps.map Pm.aa).length)))] ?_;refine CG.ar (fh j (d.ps.map Pm.aa).length) k_ ?_;refine CG.aV (by decide) ?_;refine s1 hW 3 6 [] 7 [(37,bo (ah d.name d.name))] ?_;rw[e1];refine s1 hW 0 7 [] 7 [(44,bo (aN d.line d.line))] ?_;have jd:(aN d.line d.line)=true:=ll;rw[jd];refine s1 hW 0 7 [] 7 [(51,bo (Df.given d==Df.given d))] ?_;rw[e2];refine s1 hW 0 4 [] 15 [(53,.agg d.res.ce),(55,.agg d.res.ce)] ?_;refine CG.pg (h3) rfl k_ ?_;refine s1 hW 0 6 [] 4 [(58,bT),(60,.agg [io (Tm.kind d.body),io (Tm.line d.body),so (Tm.name d.body),io (Tm.num d.body),so (Tm.ae d.body),lo Tm.encI (Tm.ad d.body),lo Tm.encI (Tm.av d.body),lo aq.aa (Tm.ak d.body),lo Tm.encI (Tm.al d.body),lo Tm.aa (Tm.kids d.body)]),(62,.agg [io (Tm.kind d.body),io (Tm.line d.body),so (Tm.name d.body),io (Tm.num d.body),so (Tm.ae d.body),lo Tm.encI (Tm.ad d.body),lo Tm.encI (Tm.av d.body),lo aq.aa (Tm.ak d.body),lo Tm.encI (Tm.al d.body),lo Tm.aa (Tm.kids d.body)])] ?_;refine CG.pg (h4) rfl k_ ?_;refine s1 hW 2 0 [] 0 [(4,bT)] ?_;refine CG.rt (bT) ?_;with_reducible rfl
 ·intro j v y s FW hy II mf;have hx:=(N9 y (aau hy)).2;have h5:=IM hW y hx.2.2.1 (fun x ly=>(hx.2.2.2 x ly).1);refine s1 hW 4 0 [] 15 [(17,bo (aI (Int.ofNat j) (Int.ofNat (d.ps.map Pm.aa).length)))] ?_;refine CG.az (fg j (d.ps.map Pm.aa).length) k_ ?_;refine s1 hW 5 0 [] 15 [] ?_;refine CG.fP bj k_ k_ ?_;refine AO.rd 3 [(20,.ptr 0 17 2),(21,lo Pm.aa d.ps),(22,no j)] k_ ?_;refine AO.idx (aG (aa:=Pm.aa) hy) rfl k_ k_ k_ rfl ?_;refine AO.rd 4 [(24,.agg [so y.name,bo y.given,so y.ty.elem,so y.ty.row,lo aq.aa y.ty.aF]),(25,.ptr 1 17 2),(26,lo Pm.aa d.ps),(27,no j)] k_ ?_;refine AO.idx (aG (aa:=Pm.aa) hy) rfl k_ k_ k_ rfl ?_;refine AO.rd 1 [(29,.agg [so y.name,bo y.given,so y.ty.elem,so y.ty.row,lo aq.aa y.ty.aF])] k_ ?_;refine AO.lC h5 rfl k_ k_ ?_;refine AO.rd 1 [(31,bF)] k_ ?_;refine AO.done [2,3,4,5,31] rfl rfl k_ ?_;refine s3 hW 5 3 [false] [(2,.ptr 0 17 0),(3,.ptr 1 17 0),(4,bF),(5,io (aT IntKind.i64 (bC (Int.ofNat j) 1)))] ([some (.cells [so d.name,io d.line,lo Pm.aa d.ps,bo d.given,so d.res.elem,so d.res.row,lo aq.aa d.res.aF,io (Tm.kind d.body),io (Tm.line d.body),so (Tm.name d.body),io (Tm.num d.body),so (Tm.ae d.body),lo Tm.encI (Tm.ad d.body),lo Tm.encI (Tm.av d.body),lo aq.aa (Tm.ak d.body),lo Tm.encI (Tm.al d.body),lo Tm.aa (Tm.kids d.body)]),some (.cells [so d.name,io d.line,lo Pm.aa d.ps,bo d.given,so d.res.elem,so d.res.row,lo aq.aa d.res.aF,io (Tm.kind d.body),io (Tm.line d.body),so (Tm.name d.body),io (Tm.num d.body),so (Tm.ae d.body),lo Tm.encI (Tm.ad d.body),lo Tm.encI (Tm.av d.body),lo aq.aa (Tm.ak d.body),lo Tm.encI (Tm.al d.body),lo Tm.aa (Tm.kids d.body)])]) ?_;refine CG.eu rfl ?_;rw[ba (by omega)];rotate_left;exact⟨(),trivial,ay.refl _ _⟩
end Fw.Tz.Es
