/-
  The program's sum of two terms: (*sum).result.
-/
import Derived.Test.YtpeomfjbcdahnaaGreatDoorTq
import Derived.Test.YtpeomfjbcdahnaaGreatDoorTl
import Derived.Test.YtpeomfjbcdahnaaGreatDoorTp
import Derived.Test.YtpeomfjbcdahnaaGreatDoorTm
import Derived.Test.YtpeomfjbcdahnaaGreatDoorTe
import Derived.Test.YtpeomfjbcdahnaaGreatDoorFg
set_option linter.unusedSimpArgs false
set_option maxRecDepth 1000000
set_option maxHeartbeats 4000000
set_option linter.unusedVariables false
namespace Fw.Tz.S2
open Go Go.Proofs Fw.X Fw.Tz Fw.Nu Fw.Tz.Sd Fw.Tz.Na Fw.Tz.El Fw.Tz.Va Fw.Tz.Vb Fw.Tz.Tm Fw.Tz.Mb Fw.Tz.Ky
variable {W:World}
def hS(n c:Int)(k:List UInt8):an:=[some (.cells [sE,io n,.map 1]),some (.map [(.str k,io c),(.str [110],io 1)])]
def vS(n c:Int)(k:List UInt8):V:=.tuple [.agg [io n,.d (.list [[.str k,.int .i64 c],[.str [110],.int .i64 1]])],i0]
theorem tA{seen:List Nat}(h:kh 2 seen)(ha:∀i,i<2->i∈seen):seen=[0,1]\/seen=[1,0]:=by
 have hp:=h.perm ha;rw[show List.range 2=[0,1]from rfl]at hp;have hl:=hp.length_eq;have h0:=hp.subset;match seen,hl with
  |[a,b],_=>
   have h1:=h.2 a abD;have h2:=h.2 b (aaY _ abD);have hn:=h.1;simp at hn;have:(a=0/\b=1)\/(a=1/\b=0):=by omega
   rcases this with⟨rfl,rfl⟩|⟨rfl,rfl⟩
   ·exact .inl rfl
   ·exact .inr rfl
theorem Qm(hW:W0 W):WF P (gl W) 227 [.ptr 0 3 1] (hS 0 (-1) [107]) (iK (vS 0 (-1) [107]) (hS 0 (-1) [107])):=by
 refine WF.jJ (CG.b_ FH FI rfl ?_ );unfold hS;refine s4 hW 14 0 [] 1 [(2,.ptr 2 2 0),(3,i0),(4,.ptr 3 2 0),(5,.ak),(19,.iter 4 1)] [(2,.cells [i0,.ak]),(3,.cells [i0,.ak]),(4,bR.bH 1 2 [])] ?_;rotate_left;refine CG.tidy (ax.Fq 5 1 (a7:=[(0,.ptr 0 3 1),(2,.ptr 2 2 0),(3,i0),(4,.ptr 3 2 0),(5,.sl 5 0 0 0 1),(19,.iter 4 1)]) (aaC _) k_ k_) ?_;refine CG.oh ([some (.cells [sE,i0,.map 1]),some (bR.map [(D.str [107],io (-1)),(D.str [110],io 1)]),some (.cells [i0,.ak]),some (.cells [i0,.ak]),some (bR.bH 1 2 []),some .nil]) k_ ?_;refine CG.is [(0,.ptr 0 3 1),(2,.ptr 2 2 0),(3,i0),(4,.ptr 3 2 0),(5,.sl 5 (List.length ([]:List (List UInt8))*1) 0 (List.length ([]:List (List UInt8))) 1),(19,.iter 4 1)] ([some (.cells [sE,i0,.map 1]),some (bR.map [(D.str [107],io (-1)),(D.str [110],io 1)]),some (.cells [i0,.ak]),some (.cells [i0,.ak]),some (bR.bH 1 2 []),some (aK encS ([]:List (List UInt8)))]) k_ ?_;refine CG.tc (α:=List Nat) (fun s=>[(0,.ptr 0 3 1),(2,.ptr 2 2 0),(3,i0),(4,.ptr 3 2 0),(5,.sl 5 ((bm [[107],[110]] s).length*1) 0 (bm [[107],[110]] s).length 1),(19,.iter 4 1)]) (fun s=>[some (.cells [sE,i0,.map 1]),some (.map [(.str [107],io (-1)),(.str [110],io 1)]),some (.cells [i0,.ak]),some (.cells [i0,.ak]),some (.bH 1 2 s),some (aK encS (bm [[107],[110]] s))]) (fun s=>kh 2 s) (fun s=>2 - s.length) [] ⟨by simp,by simp⟩ (ax.refl _ _) ?_;intro seen hs;have hle:=hs.le;refine s1 hW 1 0 [] 63 [] ?_;refine CG.dt ?_;rotate_left;refine CG.fX 4 1 2 seen [(.str [107],io (-1)),(.str [110],io 1)] rfl k_ rfl rfl (fun i key v hi fD=>?_ ) (fun iF=>?_ )
 ·have Bi:i<2:=(aaz.1 hi).1;have BT:=hs.snoc Bi fD;have AC:=BT.le;have ZT:(bm [[107],[110]] seen).length<10:=by simp[bm];omega
  simp only[aao,aa2]at AC;obtain⟨rfl,rfl,rfl⟩|⟨rfl,rfl,rfl⟩:(i=0/\key=.str [107]/\v=io (-1))\/(i=1/\key=.str [110]/\v=io 1):=by
   match i,Bi with
    |0,_=>simp at hi;exact .inl ⟨rfl,hi.1.symm,hi.2.symm⟩
    |1,_=>simp at hi;exact .inr ⟨rfl,hi.1.symm,hi.2.symm⟩
  ·refine s1 hW 8 0 [true] 63 [] ?_;refine CG.dt ?_;rotate_left;refine CG.entry 4 1 2 _ seen hi rfl k_ rfl (by rfl) ?_;refine s1 hW 6 3 [true] 63 [(27,.sl 5 (List.length (bm [[107],[110]] seen)*1) 0 (bm [[107],[110]] seen).length 1),(29,.d (.list [[.str [107]]]))] ?_;refine CG.ti ?_;refine CG.As Tm.encS (bm [[107],[110]] seen) ([107]::[]) 5 (fun _=>rfl) rfl k_ k_ (by(try simp only[zz]at*)<;>omega) ?_;refine s3 hW 0 1 [] [(0,.ptr 0 3 1),(2,.ptr 2 2 0),(3,i0),(4,.ptr 3 2 0),(5,.sl 5 (List.length (bm [[107],[110]] seen++[[107]])*1) 0 (bm [[107],[110]] seen++[[107]]).length 1),(19,.iter 4 1)] ([some (.cells [sE,i0,.map 1]),some (bR.map [(D.str [107],io (-1)),(D.str [110],io 1)]),some (.cells [i0,.ak]),some (.cells [i0,.ak]),some (bR.bH 1 2 (seen++[0])),some (aK Tm.encS (bm [[107],[110]] seen++[[107]]))]) ?_;refine CG.fu rfl ?_;rotate_left;refine⟨seen++[_],BT,by simp only[aao,aa2];omega,?_ ⟩;rw[show∀j,bm [[107],[110]] (seen++[j])=bm [[107],[110]] seen++[([[107],[110]]:List (List UInt8)).getD j []]from fun j=>by simp[bm]];exact ax.refl _ _
  ·refine s1 hW 8 0 [true] 63 [] ?_;refine CG.dt ?_;rotate_left;refine CG.entry 4 1 2 _ seen hi rfl k_ rfl (by rfl) ?_;refine s1 hW 6 3 [true] 63 [(27,.sl 5 (List.length (bm [[107],[110]] seen)*1) 0 (bm [[107],[110]] seen).length 1),(29,.d (.list [[.str [110]]]))] ?_;refine CG.ti ?_;refine CG.As Tm.encS (bm [[107],[110]] seen) ([110]::[]) 5 (fun _=>rfl) rfl k_ k_ (by(try simp only[zz]at*)<;>omega) ?_;refine s3 hW 0 1 [] [(0,.ptr 0 3 1),(2,.ptr 2 2 0),(3,i0),(4,.ptr 3 2 0),(5,.sl 5 (List.length (bm [[107],[110]] seen++[[110]])*1) 0 (bm [[107],[110]] seen++[[110]]).length 1),(19,.iter 4 1)] ([some (.cells [sE,i0,.map 1]),some (bR.map [(D.str [107],io (-1)),(D.str [110],io 1)]),some (.cells [i0,.ak]),some (.cells [i0,.ak]),some (bR.bH 1 2 (seen++[1])),some (aK Tm.encS (bm [[107],[110]] seen++[[110]]))]) ?_;refine CG.fu rfl ?_;rotate_left;refine⟨seen++[_],BT,by simp only[aao,aa2];omega,?_ ⟩;rw[show∀j,bm [[107],[110]] (seen++[j])=bm [[107],[110]] seen++[([[107],[110]]:List (List UInt8)).getD j []]from fun j=>by simp[bm]];exact ax.refl _ _
 ·rcases tA hs iF with rfl|rfl
  ·refine s1 hW 4 0 [false] 63 [] ?_;refine CG.aX (by decide) ?_;refine s2 hW 65 0 [true,true,false,false] 7 [] ([some (.cells [sE,i0,.map 1]),some (bR.map [(D.str [107],io (-1)),(D.str [110],io 1)]),some (.cells [i0,.sl 17 4 0 2 2]),some (.cells [i0,.sl 17 4 0 2 2]),some (bR.bH 1 2 [0,1]),some (aK Tm.encS (bm [[107],[110]] [0,1]))]++nn 11 ([some (.cells [so [107],io (-1),so [110],io 1])]++nn 16 ([]))) ?_;refine CG.cG (.tuple [.agg [i0,.sl 17 4 0 2 2],i0]) ?_;rotate_left;exact⟨_,ax.trans (ax.lG (b:=17) (by rfl)) (ax.trim 2 [0] rfl rfl rfl rfl rfl),rfl,rfl⟩
  ·refine s1 hW 4 0 [false] 63 [] ?_;refine CG.aX (by decide) ?_;refine s2 hW 65 0 [true,true,false,false] 7 [] ([some (.cells [sE,i0,.map 1]),some (bR.map [(D.str [107],io (-1)),(D.str [110],io 1)]),some (.cells [i0,.sl 17 4 0 2 2]),some (.cells [i0,.sl 17 4 0 2 2]),some (bR.bH 1 2 [1,0]),some (.cells [so [107],so [110]])]++nn 11 ([some (.cells [so [107],io (-1),so [110],io 1])]++nn 16 ([]))) ?_;refine CG.cG (.tuple [.agg [i0,.sl 17 4 0 2 2],i0]) ?_;rotate_left;exact⟨_,ax.trans (ax.lG (b:=17) (by rfl)) (ax.trim 2 [0] rfl rfl rfl rfl rfl),rfl,rfl⟩
theorem Qn(hW:W0 W):WF P (gl W) 227 [.ptr 0 3 1] (hS 0 (1) [109]) (iK (vS 0 (1) [109]) (hS 0 (1) [109])):=by
 refine WF.jJ (CG.b_ FH FI rfl ?_ );unfold hS;refine s4 hW 14 0 [] 1 [(2,.ptr 2 2 0),(3,i0),(4,.ptr 3 2 0),(5,.ak),(19,.iter 4 1)] [(2,.cells [i0,.ak]),(3,.cells [i0,.ak]),(4,bR.bH 1 2 [])] ?_;rotate_left;refine CG.tidy (ax.Fq 5 1 (a7:=[(0,.ptr 0 3 1),(2,.ptr 2 2 0),(3,i0),(4,.ptr 3 2 0),(5,.sl 5 0 0 0 1),(19,.iter 4 1)]) (aaC _) k_ k_) ?_;refine CG.oh ([some (.cells [sE,i0,.map 1]),some (bR.map [(D.str [109],io 1),(D.str [110],io 1)]),some (.cells [i0,.ak]),some (.cells [i0,.ak]),some (bR.bH 1 2 []),some .nil]) k_ ?_;refine CG.is [(0,.ptr 0 3 1),(2,.ptr 2 2 0),(3,i0),(4,.ptr 3 2 0),(5,.sl 5 (List.length ([]:List (List UInt8))*1) 0 (List.length ([]:List (List UInt8))) 1),(19,.iter 4 1)] ([some (.cells [sE,i0,.map 1]),some (bR.map [(D.str [109],io 1),(D.str [110],io 1)]),some (.cells [i0,.ak]),some (.cells [i0,.ak]),some (bR.bH 1 2 []),some (aK encS ([]:List (List UInt8)))]) k_ ?_;refine CG.tc (α:=List Nat) (fun s=>[(0,.ptr 0 3 1),(2,.ptr 2 2 0),(3,i0),(4,.ptr 3 2 0),(5,.sl 5 ((bm [[109],[110]] s).length*1) 0 (bm [[109],[110]] s).length 1),(19,.iter 4 1)]) (fun s=>[some (.cells [sE,i0,.map 1]),some (.map [(.str [109],io (1)),(.str [110],io 1)]),some (.cells [i0,.ak]),some (.cells [i0,.ak]),some (.bH 1 2 s),some (aK encS (bm [[109],[110]] s))]) (fun s=>kh 2 s) (fun s=>2 - s.length) [] ⟨by simp,by simp⟩ (ax.refl _ _) ?_;intro seen hs;have hle:=hs.le;refine s1 hW 1 0 [] 63 [] ?_;refine CG.dt ?_;rotate_left;refine CG.fX 4 1 2 seen [(.str [109],io (1)),(.str [110],io 1)] rfl k_ rfl rfl (fun i key v hi fD=>?_ ) (fun iF=>?_ )
 ·have Bi:i<2:=(aaz.1 hi).1;have BT:=hs.snoc Bi fD;have AC:=BT.le;have ZT:(bm [[109],[110]] seen).length<10:=by simp[bm];omega
  simp only[aao,aa2]at AC;obtain⟨rfl,rfl,rfl⟩|⟨rfl,rfl,rfl⟩:(i=0/\key=.str [109]/\v=io (1))\/(i=1/\key=.str [110]/\v=io 1):=by
   match i,Bi with
    |0,_=>simp at hi;exact .inl ⟨rfl,hi.1.symm,hi.2.symm⟩
    |1,_=>simp at hi;exact .inr ⟨rfl,hi.1.symm,hi.2.symm⟩
  ·refine s1 hW 8 0 [true] 63 [] ?_;refine CG.dt ?_;rotate_left;refine CG.entry 4 1 2 _ seen hi rfl k_ rfl (by rfl) ?_;refine s1 hW 6 3 [true] 63 [(27,.sl 5 (List.length (bm [[109],[110]] seen)*1) 0 (bm [[109],[110]] seen).length 1),(29,.d (.list [[.str [109]]]))] ?_;refine CG.ti ?_;refine CG.As Tm.encS (bm [[109],[110]] seen) ([109]::[]) 5 (fun _=>rfl) rfl k_ k_ (by(try simp only[zz]at*)<;>omega) ?_;refine s3 hW 0 1 [] [(0,.ptr 0 3 1),(2,.ptr 2 2 0),(3,i0),(4,.ptr 3 2 0),(5,.sl 5 (List.length (bm [[109],[110]] seen++[[109]])*1) 0 (bm [[109],[110]] seen++[[109]]).length 1),(19,.iter 4 1)] ([some (.cells [sE,i0,.map 1]),some (bR.map [(D.str [109],io 1),(D.str [110],io 1)]),some (.cells [i0,.ak]),some (.cells [i0,.ak]),some (bR.bH 1 2 (seen++[0])),some (aK Tm.encS (bm [[109],[110]] seen++[[109]]))]) ?_;refine CG.fu rfl ?_;rotate_left;refine⟨seen++[_],BT,by simp only[aao,aa2];omega,?_ ⟩;rw[show∀j,bm [[109],[110]] (seen++[j])=bm [[109],[110]] seen++[([[109],[110]]:List (List UInt8)).getD j []]from fun j=>by simp[bm]];exact ax.refl _ _
  ·refine s1 hW 8 0 [true] 63 [] ?_;refine CG.dt ?_;rotate_left;refine CG.entry 4 1 2 _ seen hi rfl k_ rfl (by rfl) ?_;refine s1 hW 6 3 [true] 63 [(27,.sl 5 (List.length (bm [[109],[110]] seen)*1) 0 (bm [[109],[110]] seen).length 1),(29,.d (.list [[.str [110]]]))] ?_;refine CG.ti ?_;refine CG.As Tm.encS (bm [[109],[110]] seen) ([110]::[]) 5 (fun _=>rfl) rfl k_ k_ (by(try simp only[zz]at*)<;>omega) ?_;refine s3 hW 0 1 [] [(0,.ptr 0 3 1),(2,.ptr 2 2 0),(3,i0),(4,.ptr 3 2 0),(5,.sl 5 (List.length (bm [[109],[110]] seen++[[110]])*1) 0 (bm [[109],[110]] seen++[[110]]).length 1),(19,.iter 4 1)] ([some (.cells [sE,i0,.map 1]),some (bR.map [(D.str [109],io 1),(D.str [110],io 1)]),some (.cells [i0,.ak]),some (.cells [i0,.ak]),some (bR.bH 1 2 (seen++[1])),some (aK Tm.encS (bm [[109],[110]] seen++[[110]]))]) ?_;refine CG.fu rfl ?_;rotate_left;refine⟨seen++[_],BT,by simp only[aao,aa2];omega,?_ ⟩;rw[show∀j,bm [[109],[110]] (seen++[j])=bm [[109],[110]] seen++[([[109],[110]]:List (List UInt8)).getD j []]from fun j=>by simp[bm]];exact ax.refl _ _
 ·rcases tA hs iF with rfl|rfl
  ·refine s1 hW 4 0 [false] 63 [] ?_;refine CG.aX (by decide) ?_;refine s2 hW 65 0 [true,true,false,false] 7 [] ([some (.cells [sE,i0,.map 1]),some (bR.map [(D.str [109],io 1),(D.str [110],io 1)]),some (.cells [i0,.sl 17 4 0 2 2]),some (.cells [i0,.sl 17 4 0 2 2]),some (bR.bH 1 2 [0,1]),some (aK Tm.encS (bm [[109],[110]] [0,1]))]++nn 11 ([some (.cells [so [109],io 1,so [110],io 1])]++nn 16 ([]))) ?_;refine CG.cG (.tuple [.agg [i0,.sl 17 4 0 2 2],i0]) ?_;rotate_left;exact⟨_,ax.trans (ax.lG (b:=17) (by rfl)) (ax.trim 2 [0] rfl rfl rfl rfl rfl),rfl,rfl⟩
  ·refine s1 hW 4 0 [false] 63 [] ?_;refine CG.aX (by decide) ?_;refine s2 hW 65 0 [true,true,false,false] 7 [] ([some (.cells [sE,i0,.map 1]),some (bR.map [(D.str [109],io 1),(D.str [110],io 1)]),some (.cells [i0,.sl 17 4 0 2 2]),some (.cells [i0,.sl 17 4 0 2 2]),some (bR.bH 1 2 [1,0]),some (.cells [so [109],so [110]])]++nn 11 ([some (.cells [so [109],io 1,so [110],io 1])]++nn 16 ([]))) ?_;refine CG.cG (.tuple [.agg [i0,.sl 17 4 0 2 2],i0]) ?_;rotate_left;exact⟨_,ax.trans (ax.lG (b:=17) (by rfl)) (ax.trim 2 [0] rfl rfl rfl rfl rfl),rfl,rfl⟩
theorem Qo(hW:W0 W):WF P (gl W) 227 [.ptr 0 3 1] (hS 1 (-1) [107]) (iK (vS 1 (-1) [107]) (hS 1 (-1) [107])):=by
 refine WF.jJ (CG.b_ FH FI rfl ?_ );unfold hS;refine s4 hW 14 0 [] 1 [(2,.ptr 2 2 0),(3,i0),(4,.ptr 3 2 0),(5,.ak),(19,.iter 4 1)] [(2,.cells [i0,.ak]),(3,.cells [io 1,.ak]),(4,bR.bH 1 2 [])] ?_;rotate_left;refine CG.tidy (ax.Fq 5 1 (a7:=[(0,.ptr 0 3 1),(2,.ptr 2 2 0),(3,i0),(4,.ptr 3 2 0),(5,.sl 5 0 0 0 1),(19,.iter 4 1)]) (aaC _) k_ k_) ?_;refine CG.oh ([some (.cells [sE,io 1,.map 1]),some (bR.map [(D.str [107],io (-1)),(D.str [110],io 1)]),some (.cells [i0,.ak]),some (.cells [io 1,.ak]),some (bR.bH 1 2 []),some .nil]) k_ ?_;refine CG.is [(0,.ptr 0 3 1),(2,.ptr 2 2 0),(3,i0),(4,.ptr 3 2 0),(5,.sl 5 (List.length ([]:List (List UInt8))*1) 0 (List.length ([]:List (List UInt8))) 1),(19,.iter 4 1)] ([some (.cells [sE,io 1,.map 1]),some (bR.map [(D.str [107],io (-1)),(D.str [110],io 1)]),some (.cells [i0,.ak]),some (.cells [io 1,.ak]),some (bR.bH 1 2 []),some (aK encS ([]:List (List UInt8)))]) k_ ?_;refine CG.tc (α:=List Nat) (fun s=>[(0,.ptr 0 3 1),(2,.ptr 2 2 0),(3,i0),(4,.ptr 3 2 0),(5,.sl 5 ((bm [[107],[110]] s).length*1) 0 (bm [[107],[110]] s).length 1),(19,.iter 4 1)]) (fun s=>[some (.cells [sE,io 1,.map 1]),some (.map [(.str [107],io (-1)),(.str [110],io 1)]),some (.cells [i0,.ak]),some (.cells [io 1,.ak]),some (.bH 1 2 s),some (aK encS (bm [[107],[110]] s))]) (fun s=>kh 2 s) (fun s=>2 - s.length) [] ⟨by simp,by simp⟩ (ax.refl _ _) ?_;intro seen hs;have hle:=hs.le;refine s1 hW 1 0 [] 63 [] ?_;refine CG.dt ?_;rotate_left;refine CG.fX 4 1 2 seen [(.str [107],io (-1)),(.str [110],io 1)] rfl k_ rfl rfl (fun i key v hi fD=>?_ ) (fun iF=>?_ )
 ·have Bi:i<2:=(aaz.1 hi).1;have BT:=hs.snoc Bi fD;have AC:=BT.le;have ZT:(bm [[107],[110]] seen).length<10:=by simp[bm];omega
  simp only[aao,aa2]at AC;obtain⟨rfl,rfl,rfl⟩|⟨rfl,rfl,rfl⟩:(i=0/\key=.str [107]/\v=io (-1))\/(i=1/\key=.str [110]/\v=io 1):=by
   match i,Bi with
    |0,_=>simp at hi;exact .inl ⟨rfl,hi.1.symm,hi.2.symm⟩
    |1,_=>simp at hi;exact .inr ⟨rfl,hi.1.symm,hi.2.symm⟩
  ·refine s1 hW 8 0 [true] 63 [] ?_;refine CG.dt ?_;rotate_left;refine CG.entry 4 1 2 _ seen hi rfl k_ rfl (by rfl) ?_;refine s1 hW 6 3 [true] 63 [(27,.sl 5 (List.length (bm [[107],[110]] seen)*1) 0 (bm [[107],[110]] seen).length 1),(29,.d (.list [[.str [107]]]))] ?_;refine CG.ti ?_;refine CG.As Tm.encS (bm [[107],[110]] seen) ([107]::[]) 5 (fun _=>rfl) rfl k_ k_ (by(try simp only[zz]at*)<;>omega) ?_;refine s3 hW 0 1 [] [(0,.ptr 0 3 1),(2,.ptr 2 2 0),(3,i0),(4,.ptr 3 2 0),(5,.sl 5 (List.length (bm [[107],[110]] seen++[[107]])*1) 0 (bm [[107],[110]] seen++[[107]]).length 1),(19,.iter 4 1)] ([some (.cells [sE,io 1,.map 1]),some (bR.map [(D.str [107],io (-1)),(D.str [110],io 1)]),some (.cells [i0,.ak]),some (.cells [io 1,.ak]),some (bR.bH 1 2 (seen++[0])),some (aK Tm.encS (bm [[107],[110]] seen++[[107]]))]) ?_;refine CG.fu rfl ?_;rotate_left;refine⟨seen++[_],BT,by simp only[aao,aa2];omega,?_ ⟩;rw[show∀j,bm [[107],[110]] (seen++[j])=bm [[107],[110]] seen++[([[107],[110]]:List (List UInt8)).getD j []]from fun j=>by simp[bm]];exact ax.refl _ _
  ·refine s1 hW 8 0 [true] 63 [] ?_;refine CG.dt ?_;rotate_left;refine CG.entry 4 1 2 _ seen hi rfl k_ rfl (by rfl) ?_;refine s1 hW 6 3 [true] 63 [(27,.sl 5 (List.length (bm [[107],[110]] seen)*1) 0 (bm [[107],[110]] seen).length 1),(29,.d (.list [[.str [110]]]))] ?_;refine CG.ti ?_;refine CG.As Tm.encS (bm [[107],[110]] seen) ([110]::[]) 5 (fun _=>rfl) rfl k_ k_ (by(try simp only[zz]at*)<;>omega) ?_;refine s3 hW 0 1 [] [(0,.ptr 0 3 1),(2,.ptr 2 2 0),(3,i0),(4,.ptr 3 2 0),(5,.sl 5 (List.length (bm [[107],[110]] seen++[[110]])*1) 0 (bm [[107],[110]] seen++[[110]]).length 1),(19,.iter 4 1)] ([some (.cells [sE,io 1,.map 1]),some (bR.map [(D.str [107],io (-1)),(D.str [110],io 1)]),some (.cells [i0,.ak]),some (.cells [io 1,.ak]),some (bR.bH 1 2 (seen++[1])),some (aK Tm.encS (bm [[107],[110]] seen++[[110]]))]) ?_;refine CG.fu rfl ?_;rotate_left;refine⟨seen++[_],BT,by simp only[aao,aa2];omega,?_ ⟩;rw[show∀j,bm [[107],[110]] (seen++[j])=bm [[107],[110]] seen++[([[107],[110]]:List (List UInt8)).getD j []]from fun j=>by simp[bm]];exact ax.refl _ _
 ·rcases tA hs iF with rfl|rfl
  ·refine s1 hW 4 0 [false] 63 [] ?_;refine CG.aX (by decide) ?_;refine s2 hW 65 0 [true,true,false,false] 7 [] ([some (.cells [sE,io 1,.map 1]),some (bR.map [(D.str [107],io (-1)),(D.str [110],io 1)]),some (.cells [io 1,.sl 17 4 0 2 2]),some (.cells [io 1,.sl 17 4 0 2 2]),some (bR.bH 1 2 [0,1]),some (aK Tm.encS (bm [[107],[110]] [0,1]))]++nn 11 ([some (.cells [so [107],io (-1),so [110],io 1])]++nn 16 ([]))) ?_;refine CG.cG (.tuple [.agg [io 1,.sl 17 4 0 2 2],i0]) ?_;rotate_left;exact⟨_,ax.trans (ax.lG (b:=17) (by rfl)) (ax.trim 2 [0] rfl rfl rfl rfl rfl),rfl,rfl⟩
  ·refine s1 hW 4 0 [false] 63 [] ?_;refine CG.aX (by decide) ?_;refine s2 hW 65 0 [true,true,false,false] 7 [] ([some (.cells [sE,io 1,.map 1]),some (bR.map [(D.str [107],io (-1)),(D.str [110],io 1)]),some (.cells [io 1,.sl 17 4 0 2 2]),some (.cells [io 1,.sl 17 4 0 2 2]),some (bR.bH 1 2 [1,0]),some (.cells [so [107],so [110]])]++nn 11 ([some (.cells [so [107],io (-1),so [110],io 1])]++nn 16 ([]))) ?_;refine CG.cG (.tuple [.agg [io 1,.sl 17 4 0 2 2],i0]) ?_;rotate_left;exact⟨_,ax.trans (ax.lG (b:=17) (by rfl)) (ax.trim 2 [0] rfl rfl rfl rfl rfl),rfl,rfl⟩
end Fw.Tz.S2
/-
  module.primitive of the program, at any name.
-/
namespace Fw.Tz.Yp
open Go Go.Proofs Fw.X Fw.Tz Fw.Nu Fw.Tz.Sd Fw.Tz.Tm Fw.Tz.Yq Fw.Tz.S2
variable {W:World}
def Uj(n c:Int)(s:List UInt8):Bool:=(aP n 0&&aP c (-1)&&Fw.ah s [107])||(aP n 0&&aP c 1&&Fw.ah s [109])||(aP n 1&&aP c (-1)&&Fw.ah s [107])
theorem Qp(hW:W0 W){n c:Int}{s:List UInt8}(h:Uj n c s=true):WF P (gl W) 227 [.ptr 0 3 1] (hS n c s) (iK (vS n c s) (hS n c s)):=by
 simp only[Uj,abj,aas,dd,beq_iff_eq]at h;rcases h with(⟨⟨rfl,rfl⟩,h⟩|⟨⟨rfl,rfl⟩,h⟩)|⟨⟨rfl,rfl⟩,h⟩<;>obtain rfl:=cL h
 ·exact Qm hW
 ·exact Qn hW
 ·exact Qo hW
def Wi(args:List V)(H:an):Option (V×an):=match args with
 |[.ptr b 3 1]=>
  match aC H b with
   |some (.cells [.d (.str []),.d (.int .i64 n),.map m])=>
    match aC H m with
     |some (.map [(.str s,.d (.int .i64 c)),(.str u,.d (.int .i64 e))])=>bif !(Nat.beq b m)&&Fw.ah u [110]&&aP e 1&&Uj n c s then some (vS n c s,H)else none
     |_=>none
   |_=>none
 |_=>none
theorem vn{H:an}{b:Nat}{y:bR}(h:aC H b=some y):aR H b y=H:=by
 induction H generalizing b with
  |nil=>simp[aC]at h
  |cons x H ih=>
   cases b with
    |zero=>simp only[aC]at h;simp[aR,h]
    |succ b=>simp only[aC]at h;simp[aR,ih h]
theorem Mf(hW:W0 W){args:List V}{H:an}{v:V}{H':an}(h:Wi args H=some (v,H')):WF P (gl W) 227 args H (fun r k=>r=v/\k=H'):=by
 unfold Wi at h;split at h
 ·rename_i b;split at h
  ·rename_i n m hb;split at h
   ·rename_i s c u e hm;cases hc:(!(Nat.beq b m)&&Fw.ah u [110]&&aP e 1&&Uj n c s)with
     |false=>rw[hc]at h;cases h
     |true=>
      rw[hc]at h;simp only[aaw,aar,aav]at h;obtain⟨rfl,rfl⟩:=h;simp only[aas,abM,dd,beq_iff_eq]at hc;obtain⟨⟨⟨c1,c2⟩,rfl⟩,c4⟩:=hc;obtain rfl:=cL c2;have hbm:b≠m:=by rintro rfl;simp at c1
      refine WF.frame [b,m] (Qp hW c4) (by simpa using hbm) rfl rfl (by simp[hS,a6,dq,aJ,aE]) (H:=H) (Q:=fun r k=>r=vS n c s/\k=H) ?_ ?_
      ·intro i hi;have:i=0\/i=1:=by simp at hi;omega
       rcases this with rfl|rfl
       ·exact⟨_,rfl,hb⟩
       ·exact⟨_,rfl,hm⟩
      ·rintro r H2 ⟨rfl,rfl⟩;refine⟨rfl,rfl,by simp[hS,a6,dq,aJ,aE],rfl,?_ ⟩;show fJ [b,m] (hS n c s) 0 [b,m] H=H;have e1:=vn hb;have e2:=vn hm;simp only[fJ,hS,aC,dV,fI,db,aaB,aaZ,List.getD_cons_zero,acq];rw[e1,e2]
   ·cases h
  ·cases h
 ·cases h
def FJ:Af:=fun aH f args H=>bif Nat.beq f 227 then Wi args H else ng aH f args H
theorem FK(hW:W0 W):wo P (gl W) FJ:=by
 intro aH hp f args H v H' h;unfold FJ at h;cases h1:Nat.beq f 227 with
  |true=>rw[h1]at h;obtain rfl:=aau h1;exact Mf hW h
  |false=>rw[h1]at h;exact BU aH hp f args H v H' h
def Wj:FT Nat:=(.n (.n (.n (.n (.n .e 65 0 .e) 92 0 .e) 118 0 (.n (.n .e 119 0 .e) 156 0 .e)) 160 0 (.n (.n (.n .e 161 0 .e) 164 0 .e) 166 0 (.n (.n .e 167 0 .e) 198 0 .e))) 206 0 (.n (.n (.n (.n .e 210 0 .e) 212 0 .e) 221 0 (.n (.n .e 227 0 .e) 228 0 .e)) 261 0 (.n (.n (.n .e 267 0 .e) 278 0 .e) 286 0 (.n (.n .e 287 0 .e) 312 0 .e))))
noncomputable def Qq(iH:aY):aY:=Uc Wj Uk rf FJ (pr FL) iH
noncomputable def Qr(W:World)(d:Nat):aY:=Ao (aD P) ep (gl W) Oq Qq (fQ Wj Uk) 1000 d
noncomputable def Ul(W:World)(d:Nat):ba:=fQ Wj Uk (Qr W d)
theorem AD(hW:W0 W)(hA:qD W)(d:Nat):bG P (gl W) (Ul W d):=by have he:=Mg hW hA;refine cm hW he _ ?_;unfold Qr;rw[wH];exact wA bC FM (Fi he (FK hW) (wO hW)) (cm hW he) 1000 d
theorem ru0(W:World):Ul W 40 24 [so [97,100,100]]=some (bT):=k_
theorem ru1(W:World):Ul W 40 24 [so [115,117,98]]=some (bT):=k_
theorem ru2(W:World):Ul W 40 24 [so [109,117,108]]=some (bT):=k_
theorem ru3(W:World):Ul W 40 24 [so [100,105,118]]=some (bT):=k_
theorem ru4(W:World):Ul W 40 24 [so [109,111,100]]=some (bT):=k_
theorem ru5(W:World):Ul W 40 24 [so [109,105,110]]=some (bT):=k_
theorem ru6(W:World):Ul W 40 24 [so [109,97,120]]=some (bT):=k_
theorem ru7(W:World):Ul W 40 24 [so [110,101,103]]=some (bT):=k_
theorem ru8(W:World):Ul W 40 24 [so [97,98,115]]=some (bT):=k_
theorem ru9(W:World):Ul W 40 24 [so [115,105,103,110]]=some (bT):=k_
theorem acK(W:World):Ul W 40 24 [so [108,116]]=some (bT):=k_
theorem acL(W:World):Ul W 40 24 [so [108,101]]=some (bT):=k_
theorem acM(W:World):Ul W 40 24 [so [103,116]]=some (bT):=k_
theorem acN(W:World):Ul W 40 24 [so [103,101]]=some (bT):=k_
theorem acO(W:World):Ul W 40 24 [so [101,113]]=some (bT):=k_
theorem acP(W:World):Ul W 40 24 [so [110,101]]=some (bT):=k_
theorem acQ(W:World):Ul W 40 24 [so [97,110,100]]=some (bT):=k_
theorem acR(W:World):Ul W 40 24 [so [111,114]]=some (bT):=k_
theorem acS(W:World):Ul W 40 24 [so [120,111,114]]=some (bT):=k_
theorem acT(W:World):Ul W 40 24 [so [110,111,116]]=some (bT):=k_
theorem acU(W:World):Ul W 40 24 [so [115,101,108,101,99,116]]=some (bT):=k_
theorem acV(W:World):Ul W 40 24 [so [116,111,105,110,116]]=some (bT):=k_
theorem acW(W:World):Ul W 40 24 [so [105,111,116,97]]=some (bT):=k_
theorem acX(W:World):Ul W 40 24 [so [102,105,108,108]]=some (bT):=k_
theorem acY(W:World):Ul W 40 24 [so [116,97,107,101]]=some (bT):=k_
theorem acZ(W:World):Ul W 40 24 [so [100,114,111,112]]=some (bT):=k_
theorem ac0(W:World):Ul W 40 24 [so [114,101,118,101,114,115,101]]=some (bT):=k_
theorem ac1(W:World):Ul W 40 24 [so [97,112,112,101,110,100]]=some (bT):=k_
theorem ac2(W:World):Ul W 40 24 [so [116,114,97,110,115,112,111,115,101]]=some (bT):=k_
theorem ac3(W:World):Ul W 40 24 [so [100,105,97,103,111,110,97,108]]=some (bT):=k_
theorem ac4(W:World):Ul W 40 24 [so [119,105,110,100,111,119,115]]=some (bT):=k_
theorem ac5(W:World):Ul W 40 24 [so [105,110,100,101,120]]=some (bT):=k_
theorem ac6(W:World):Ul W 40 24 [so [117,112,100,97,116,101]]=some (bT):=k_
theorem ac7(W:World):Ul W 40 24 [so [99,104,117,110,107]]=some (bT):=k_
theorem runs:∀n∈AE,Ul W 40 24 [so n]=some (bT):=by
 intro n hn;simp only[AE,aaT,abh,abV]at hn;rcases hn with rfl|rfl|rfl|rfl|rfl|rfl|rfl|rfl|rfl|rfl|rfl|rfl|rfl|rfl|rfl|rfl|rfl|rfl|rfl|rfl|rfl|rfl|rfl|rfl|rfl|rfl|rfl|rfl|rfl|rfl|rfl|rfl|rfl|rfl
 ·exact ru0 W
 ·exact ru1 W
 ·exact ru2 W
 ·exact ru3 W
 ·exact ru4 W
 ·exact ru5 W
 ·exact ru6 W
 ·exact ru7 W
 ·exact ru8 W
 ·exact ru9 W
 ·exact acK W
 ·exact acL W
 ·exact acM W
 ·exact acN W
 ·exact acO W
 ·exact acP W
 ·exact acQ W
 ·exact acR W
 ·exact acS W
 ·exact acT W
 ·exact acU W
 ·exact acV W
 ·exact acW W
 ·exact acX W
 ·exact acY W
 ·exact acZ W
 ·exact ac0 W
 ·exact ac1 W
 ·exact ac2 W
 ·exact ac3 W
 ·exact ac4 W
 ·exact ac5 W
 ·exact ac6 W
 ·exact ac7 W
end Fw.Tz.Yp
/-
  module.primitive of the program, at any name.
-/
namespace Fw.Tz.Yt
open Go Go.Proofs Fw.X Fw.Tz Fw.Nu Fw.Tz.Sd Fw.Tz.Na Fw.Tz.El Fw.Tz.Va Fw.Tz.Vb Fw.Tz.Tm Fw.Tz.Yq Fw.Tz.Lt
variable {W:World}
theorem qE(s:List UInt8):gh s=true↔s∈AE:=by
 rw[gh,ab2];constructor
 ·rintro⟨n,h,e⟩;rw[cL e];exact h
 ·exact fun h=>⟨s,h,by rw[cr];simp⟩
theorem FN(hW:W0 W)(hA:qD W):tB W:=by
 intro s hs;by_cases h:s∈AE
 ·rw[(qE s).2 h];exact Yp.AD hW hA 40 _ _ _ (Yp.runs s h)
 ·have e:gh s=false:=by
   cases hq:gh s with
    |false=>rfl
    |true=>exact absurd ((qE s).1 hq) h
  rw[e];have h1:=Yw.II hW hA s h;refine CG.start Wl Wm rfl ?_;refine s1 hW 4 1 [] 0 [(2,bF),(6,so s)] ?_;refine CG.pg (h1) rfl k_ ?_;refine s4 hW 5 0 [] 1 [] [(0,.cells [sE,bF,bF,bF,.d (.list []),.d (.list []),sE,sE,.d (.list []),.d (.list [])])] ?_;refine CG.rt (bF) ?_;with_reducible rfl
end Fw.Tz.Yt
/-
  A right module's names: plain.
-/
namespace Fw.Tz.Mn
open Fw.Tz.Tm Fw.Tz.Mb Fw.Tz.Ck Fw.Tz.Cv Fw.Tz.Lt Fw.Tz.Yq
open Fw.Tz.Px (cV)
variable {m:Md}
theorem vo(h:ji m=true):gW [] m.defs=none/\m.aA.any (kg (gN [] m.defs))=false:=by
 rw[ji,dd,beq_iff_eq,dC]at h;split at h
 ·exact absurd h (by decide)
 ·split at h
  ·exact absurd h (by decide)
  ·split at h
   ·exact absurd (show(8:Int)=0 from h) (by decide)
   ·rename_i hn;refine⟨hn,?_⟩;split at h
    ·exact absurd h (by decide)
    ·rename_i ho;simpa using ho
theorem FO{seen:List (List UInt8)}{d:Df}{r:List Df}(h:gW seen (d::r)=none):d.name∉seen/\gh d.name=false/\gW (gB seen d.name) r=none:=by
 rw[gW]at h;split at h
 ·cases h
 ·rename_i hb;refine⟨fun hc=>hb (by rw[nI,aaF hc]),?_,h⟩;cases hq:gh d.name with
   |false=>rfl
   |true=>
    exfalso;apply hb;rw[nI];split
    ·rfl
    ·first|rw[aaF hq]|rfl
theorem yQ:∀{l:List Df}{seen:List (List UInt8)},gW seen l=none->(∀d∈l,d.name∉seen/\gh d.name=false)/\l.Pairwise fun a b=>a.name≠b.name
 |[],_,_=>⟨by simp,List.Pairwise.nil⟩
 |d::r,seen,h=>by
  obtain⟨h1,h2,h3⟩:=FO h;obtain⟨i1,i2⟩:=yQ h3;refine⟨fun x hx=>?_,List.Pairwise.cons (fun x hx he=>?_ ) i2⟩
  ·rcases aaT.1 hx with rfl|hx
   ·exact⟨h1,h2⟩
   ·exact⟨fun hc=>(i1 x hx).1 (mo.2 (.inl hc)),(i1 x hx).2⟩
  ·exact(i1 x hx).1 (mo.2 (.inr he.symm))
theorem vp:∀{l:List Df}{seen:List (List UInt8)}{s:List UInt8},s∈gN seen l->s∈seen\/∃d∈l,d.name=s
 |[],_,_,h=>.inl h
 |d::r,seen,s,h=>by
  rw[gN]at h;rcases vp h with h|⟨x,hx,e⟩
  ·rcases mo.1 h with h|h
   ·exact .inl h
   ·exact .inr ⟨d,abD,h.symm⟩
  ·exact .inr ⟨x,aaY _ hx,e⟩
theorem yR(h:ji m=true){i:Nat}{x:Df}(hx:m.defs[i]? =some x):vq m x.name=.tuple [Dc x,.d (.bool true)]/\x.name∉AE:=by
 obtain⟨h1,h2⟩:=vo h;obtain⟨h3,h4⟩:=yQ h1;have hi:=(aaz.1 hx);constructor
 ·have e:ou m x.name=some i:=by rw[ou,aaF h,acb];refine⟨hi.1,by rw[hi.2,cr];simp,fun j hj=>?_ ⟩;have:=List.pairwise_iff_getElem.1 h4 j i (Nat.lt_trans hj hi.1) hi.1 hj;rw[cr];simp only[aaD];rw[hi.2]at this;exact this
  rw[vq,e];simp only[hx]
 ·intro hc;have:=(h3 x (aat hx)).2;rw[(Yt.qE x.name).2 hc]at this;cases this
theorem FP(h:ji m=true){s:List UInt8}(hs:s∈m.aA):∃x,vq m s=.tuple [Dc x,.d (.bool true)]:=by
 obtain⟨h1,h2⟩:=vo h;rw[List.any_eq_false]at h2;have:=h2 s hs;rw[kg]at this;have hm:s∈gN [] m.defs:=by simpa using this
 rcases vp hm with h|⟨d,hd,e⟩
 ·simp at h
 ·obtain⟨i,hi,e2⟩:=List.getElem_of_mem hd;have:=(yR h (i:=i) (x:=d) (by rw[aay hi,e2])).1;rw[e]at this;exact⟨d,this⟩
end Fw.Tz.Mn
/-
  The guard on modules, by the reference: it answers.
-/
namespace Fw.Tz.Fe
open Go Go.Proofs Fw.X Fw.Tz Fw.Nu Fw.Tz.Sd Fw.Tz.Na Fw.Tz.El Fw.Tz.Va Fw.Tz.Vb Fw.Tz.Tm
open Fw.Tz.Px (zy)
variable {W:World}
theorem FQ:∀(n:Nat)(t:Tm),t.pre.length=n->t.depth<=n:=by
 intro n;induction n using Nat.strongRecOn with
  |_ n ih=>
   intro t hn;rw[Tm.yS];have:Tm.gC t.kids<=n - 1:=Tm.vr.2 fun k hk=>by have:=Tm.fR hk;have:=ih _ (by omega) k rfl;omega
   have:=Tm.size_pos t;omega
theorem yT(t:Tm)(l:List Tm):Tm.gC (t::l)=max t.depth (Tm.gC l):=by rw[Tm.gC]
theorem IJ{a b:Nat}(h:a+b<9223372036854775808):aW .i64 (bJ (Int.ofNat a) (Int.ofNat b))=Int.ofNat (a+b):=by rw[sS,BB,IntKind.wrap_i64];simp only[abf];omega
theorem FSz(hW:W0 W):∀(n:Nat)(t:Tm),t.pre.length=n->wP t->PC P (gl W) 57 [vT t] (no t.depth):=by
 intro n;induction n using Nat.strongRecOn with
  |_ n ih=>
   intro t hn hs;have hk:∀k∈t.kids,PC P (gl W) 57 [vT k] (no k.depth):=fun k hm=>ih _ (by rw[←hn];exact Tm.fR hm) k rfl (hs.FU hm)
   have hd:∀k∈t.kids,k.depth<1099511627776:=fun k hm=>by have:=FQ _ k rfl;have:=(hs.FU hm).size;omega
   have EG:=hs.self.kids;clear ih hn;refine CG.start Wn Wo rfl ?_;refine s4 hW 11 0 [] 0 [(1,.ptr 0 10 0),(2,i0),(3,i0),(4,i0)] [(0,.cells [io (Tm.kind t),io (Tm.line t),so (Tm.name t),io (Tm.num t),so (Tm.ae t),lo Tm.encI (Tm.ad t),lo Tm.encI (Tm.av t),lo aq.aa (Tm.ai t),lo Tm.encI (Tm.aj t),lo Tm.aa (Tm.kids t)])] ?_;rotate_left;refine CG.bh t.kids (fun i a=>[(1,.ptr 0 10 0),(2,i0),(3,no a),(4,.d (.int .i64 (.ofNat i)))]) (fun i a=>[some (.cells [io (Tm.kind t),io (Tm.line t),so (Tm.name t),io (Tm.num t),so (Tm.ae t),lo Tm.encI (Tm.ad t),lo Tm.encI (Tm.av t),lo aq.aa (Tm.ai t),lo Tm.encI (Tm.aj t),lo Tm.aa (Tm.kids t)])]) (fun i a r=>(Tm.gC t.kids=max a (Tm.gC r)/\a<1099511627776)) (0:Nat) ?_ (ax.refl _ _) ?_ ?_
   ·exact⟨by simp,by omega⟩
   ·intro i a hi cQ aF;have e:t.depth=a+1:=by rw[Tm.yS,aF.1];simp[Tm.gC]
    refine s1 hW 4 0 [] 15 [(9,bo (aI (Int.ofNat i) (Int.ofNat (List.length ((Tm.kids t).map Tm.aa)))))] ?_;refine CG.ao (fp i (List.length ((Tm.kids t).map Tm.aa))) k_ ?_;refine CG.aX (by decide) ?_;refine s1 hW 5 0 [] 0 [(2,io (aW IntKind.i64 (bJ (Int.ofNat a) 1)))] ?_;refine CG.rt (io (aW IntKind.i64 (bJ (Int.ofNat a) 1))) ?_;rotate_left;rw[e,bf (by omega)]
   ·intro i a x r cQ hx cy aF;have h1:=hk x (aat hx);have h2:=hd x (aat hx);refine s1 hW 4 0 [] 15 [(9,bo (aI (Int.ofNat i) (Int.ofNat (List.length ((Tm.kids t).map Tm.aa)))))] ?_;refine CG.ay (eV i (List.length ((Tm.kids t).map Tm.aa))) k_ ?_;refine s1 hW 4 4 [] 15 [(12,no a),(14,lo Tm.aa (Tm.kids t)),(15,no i)] ?_;refine CG.ix (Tm.dD hx) rfl k_ ?_;refine s1 hW 0 1 [] 31 [(17,.agg [io (Tm.kind x),io (Tm.line x),so (Tm.name x),io (Tm.num x),so (Tm.ae x),lo Tm.encI (Tm.ad x),lo Tm.encI (Tm.av x),lo aq.aa (Tm.ai x),lo Tm.encI (Tm.aj x),lo Tm.aa (Tm.kids x)])] ?_;refine CG.pg (h1) rfl k_ ?_;refine s3 hW 3 3 [] [(1,.ptr 0 10 0),(2,i0),(3,io (if true=true then if Int.ofNat a<Int.ofNat (Tm.depth x)then Int.ofNat (Tm.depth x)else Int.ofNat a else if Int.ofNat (Tm.depth x)<Int.ofNat a then Int.ofNat (Tm.depth x)else Int.ofNat a)),(4,io (aW IntKind.i64 (bJ (Int.ofNat i) 1)))] ([some (.cells [io (Tm.kind t),io (Tm.line t),so (Tm.name t),io (Tm.num t),so (Tm.ae t),lo Tm.encI (Tm.ad t),lo Tm.encI (Tm.av t),lo aq.aa (Tm.ai t),lo Tm.encI (Tm.aj t),lo Tm.aa (Tm.kids t)])]) ?_;refine CG.fu rfl ?_;rw[bf (by omega)];rotate_left;have em:(if Int.ofNat a<Int.ofNat x.depth then Int.ofNat x.depth else Int.ofNat a)=Int.ofNat (max a x.depth):=by split<;>(simp only[abf]at*;omega)
    refine⟨max a x.depth,⟨by rw[aF.1,yT];omega,by omega⟩,?_⟩;rw[aaF rfl,em];exact ax.refl _ _
theorem wQ(hW:W0 W):∀(n:Nat)(t:Tm),t.pre.length=n->wP t->PC P (gl W) 58 [vT t] (no t.pre.length):=by
 intro n;induction n using Nat.strongRecOn with
  |_ n ih=>
   intro t hn hs;have hk:∀k∈t.kids,PC P (gl W) 58 [vT k] (no k.pre.length):=fun k hm=>ih _ (by rw[←hn];exact Tm.fR hm) k rfl (hs.FU hm)
   have EG:=hs.self.kids;have hz:=hs.size;have e:t.pre.length=1+(t.kids.flatMap Tm.pre).length:=by rw[Tm.jj,aap];omega
   clear ih hn;refine CG.start Wp Wq rfl ?_;refine s4 hW 11 0 [] 0 [(1,.ptr 0 10 0),(2,i0),(3,io 1),(4,i0)] [(0,.cells [io (Tm.kind t),io (Tm.line t),so (Tm.name t),io (Tm.num t),so (Tm.ae t),lo Tm.encI (Tm.ad t),lo Tm.encI (Tm.av t),lo aq.aa (Tm.ai t),lo Tm.encI (Tm.aj t),lo Tm.aa (Tm.kids t)])] ?_;rotate_left;refine CG.bh t.kids (fun i a=>[(1,.ptr 0 10 0),(2,i0),(3,no a),(4,.d (.int .i64 (.ofNat i)))]) (fun i a=>[some (.cells [io (Tm.kind t),io (Tm.line t),so (Tm.name t),io (Tm.num t),so (Tm.ae t),lo Tm.encI (Tm.ad t),lo Tm.encI (Tm.av t),lo aq.aa (Tm.ai t),lo Tm.encI (Tm.aj t),lo Tm.aa (Tm.kids t)])]) (fun i a r=>(t.pre.length=a+(r.flatMap Tm.pre).length)) (1:Nat) ?_ (ax.refl _ _) ?_ ?_
   ·exact e
   ·intro i a hi cQ aF;refine s1 hW 4 0 [] 15 [(9,bo (aI (Int.ofNat i) (Int.ofNat (List.length ((Tm.kids t).map Tm.aa)))))] ?_;refine CG.ao (fp i (List.length ((Tm.kids t).map Tm.aa))) k_ ?_;refine CG.aX (by decide) ?_;refine s1 hW 5 0 [] 0 [(2,no a)] ?_;refine CG.rt (no a) ?_;rotate_left;rw[aF];simp
   ·intro i a x r cQ hx cy aF;rw[aaV,aao]at aF;have h1:=hk x (aat hx);refine s1 hW 4 0 [] 15 [(9,bo (aI (Int.ofNat i) (Int.ofNat (List.length ((Tm.kids t).map Tm.aa)))))] ?_;refine CG.ay (eV i (List.length ((Tm.kids t).map Tm.aa))) k_ ?_;refine s1 hW 4 4 [] 15 [(12,no a),(14,lo Tm.aa (Tm.kids t)),(15,no i)] ?_;refine CG.ix (Tm.dD hx) rfl k_ ?_;refine s1 hW 0 1 [] 31 [(17,.agg [io (Tm.kind x),io (Tm.line x),so (Tm.name x),io (Tm.num x),so (Tm.ae x),lo Tm.encI (Tm.ad x),lo Tm.encI (Tm.av x),lo aq.aa (Tm.ai x),lo Tm.encI (Tm.aj x),lo Tm.aa (Tm.kids x)])] ?_;refine CG.pg (h1) rfl k_ ?_;refine s3 hW 3 3 [] [(1,.ptr 0 10 0),(2,i0),(3,io (aW IntKind.i64 (bJ (Int.ofNat a) (Int.ofNat (Tm.pre x).length)))),(4,io (aW IntKind.i64 (bJ (Int.ofNat i) 1)))] ([some (.cells [io (Tm.kind t),io (Tm.line t),so (Tm.name t),io (Tm.num t),so (Tm.ae t),lo Tm.encI (Tm.ad t),lo Tm.encI (Tm.av t),lo aq.aa (Tm.ai t),lo Tm.encI (Tm.aj t),lo Tm.aa (Tm.kids t)])]) ?_;refine CG.fu rfl ?_;rw[bf (by omega)];rotate_left;rw[IJ (by omega)];exact⟨a+x.pre.length,by omega,ax.refl _ _⟩
end Fw.Tz.Fe
/-
  The nodes of a term in preorder, by the reference.
-/
namespace Fw.Tz.Fp
open Go Go.Proofs Fw.X Fw.Tz Fw.Nu Fw.Tz.Na Fw.Tz.El Fw.Tz.Va Fw.Tz.Vb Fw.Tz.Tm
variable {W:World}
variable {cur c':lI}{K K':List Fr}{n:Nat}{tm:List (Nat×V)}{H:an}{Q:Ex->St->Prop}
noncomputable def rg(W:World)(n:Nat)(N j:Nat)(bs:List Bool)(cur:lI)(K:List Fr)(ks:List Nat)(tm:List (Nat×V))(H:an):Option XR:=yr [6] (gl W) (mq W re .e (jt W re .e 40)) (fQ re .e (jt W re .e 40)) n N j bs cur K ks tm H
theorem s2(hW:W0 W)(N j:Nat)(bs:List Bool)(m:Nat)(nw:List (Nat×V))(H':an)(hq:CG P (gl W) c' K' n (cK m nw tm) H' Q)(h1:dz N j bs cur K=some (c',K'):=by rfl)(h2:rg W n N j bs cur K ((cK m nw tm).map Prod.fst) tm H=some (.tuple ((cK m nw tm).map Prod.snd),H'):=by kernel_rfl):CG P (gl W) cur K n tm H Q:=CG.st bC (dE hW (ju) _ (bX hW (ju) 40)) (cm hW (ju) _ (bX hW (ju) 40)) N j bs h1 h2 hq
theorem s1(hW:W0 W)(N j:Nat)(bs:List Bool)(m:Nat)(nw:List (Nat×V))(hq:CG P (gl W) c' K' n (cK m nw tm) H Q)(h1:dz N j bs cur K=some (c',K'):=by rfl)(h2:rg W n N j bs cur K ((cK m nw tm).map Prod.fst) tm H=some (.tuple ((cK m nw tm).map Prod.snd),H):=by kernel_rfl):CG P (gl W) cur K n tm H Q:=s2 hW N j bs m nw H hq h1 h2
theorem s4(hW:W0 W)(N j:Nat)(bs:List Bool)(m:Nat)(nw:List (Nat×V))(hd:List (Nat×bR))(hq:CG P (gl W) c' K' n (cK m nw tm) (vg hd H) Q)(h1:dz N j bs cur K=some (c',K'):=by rfl)(h2:rg W n N j bs cur K ((cK m nw tm).map Prod.fst) tm H=some (.tuple ((cK m nw tm).map Prod.snd),vg hd H):=by kernel_rfl):CG P (gl W) cur K n tm H Q:=s2 hW N j bs m nw (vg hd H) hq h1 h2
theorem s3(hW:W0 W)(N j:Nat)(bs:List Bool)(a7:List (Nat×V))(H':an)(hq:CG P (gl W) c' K' n a7 H' Q)(h1:dz N j bs cur K=some (c',K'):=by rfl)(h2:rg W n N j bs cur K (a7.map Prod.fst) tm H=some (.tuple (a7.map Prod.snd),H'):=by kernel_rfl):CG P (gl W) cur K n tm H Q:=CG.st bC (dE hW (ju) _ (bX hW (ju) 40)) (cm hW (ju) _ (bX hW (ju) 40)) N j bs h1 h2 hq
theorem Mh(hW:W0 W):∀(n:Nat)(t:Tm),t.pre.length=n->wP t->t.pre.length<1048577->PC P (gl W) 59 [vT t] (lo Tm.cells t.pre):=by
 intro n;induction n using Nat.strongRecOn with
  |_ n ih=>
   intro t hn hs hz;have hk:∀k∈t.kids,PC P (gl W) 59 [vT k] (lo Tm.cells k.pre):=fun k hm=>ih _ (by rw[←hn];exact Tm.fR hm) k rfl (hs.FU hm) (by have:=Tm.fR hm;omega)
   have EG:=hs.self.kids;have e:t.pre=[t]++t.kids.flatMap Tm.pre:=Tm.jj t;clear ih hn;refine CG.start Ws Wt rfl ?_;refine s1 hW 1 0 [] 1 [] ?_;refine CG.dt ?_;refine CG.cU (cs:=[.int .i64 (Tm.kind t),.int .i64 (Tm.line t),.str (Tm.name t),.int .i64 (Tm.num t),.str (Tm.ae t),.list ((Tm.ad t).map Tm.encI),.list ((Tm.av t).map Tm.encI),.list ((Tm.ai t).map aq.aa),.list ((Tm.aj t).map Tm.encI),.list ((Tm.kids t).map Tm.aa)]) rfl k_ rfl ?_;refine s4 hW 10 0 [] 2 [(2,.ak),(3,.sl 0 10 0 1 10),(4,i0)] [(0,.cells [io (Tm.kind t),io (Tm.line t),so (Tm.name t),io (Tm.num t),so (Tm.ae t),lo Tm.encI (Tm.ad t),lo Tm.encI (Tm.av t),lo aq.aa (Tm.ai t),lo Tm.encI (Tm.aj t),lo Tm.aa (Tm.kids t)])] ?_;rotate_left;refine CG.is [(1,.aO [.int .i64 (Tm.kind t),.int .i64 (Tm.line t),.str (Tm.name t),.int .i64 (Tm.num t),.str (Tm.ae t),.list ((Tm.ad t).map Tm.encI),.list ((Tm.av t).map Tm.encI),.list ((Tm.ai t).map aq.aa),.list ((Tm.aj t).map Tm.encI),.list ((Tm.kids t).map Tm.aa)]),(2,.ak),(3,.sl 0 (List.length [t]*10) 0 (List.length [t]) 10),(4,i0)] ([some (dA Tm.cells [t])]) k_ ?_;refine CG.bh t.kids (fun i a=>[(1,.aO [.int .i64 (Tm.kind t),.int .i64 (Tm.line t),.str (Tm.name t),.int .i64 (Tm.num t),.str (Tm.ae t),.list ((Tm.ad t).map Tm.encI),.list ((Tm.av t).map Tm.encI),.list ((Tm.ai t).map aq.aa),.list ((Tm.aj t).map Tm.encI),.list ((Tm.kids t).map Tm.aa)]),(2,.ak),(3,.sl 0 (a.length*10) 0 a.length 10),(4,.d (.int .i64 (.ofNat i)))]) (fun i a=>[some (aK Tm.cells a)]) (fun i a r=>(t.pre=a++r.flatMap Tm.pre)) [t] ?_ (ax.refl _ _) ?_ ?_
   ·exact e
   ·intro i a hi cQ aF;refine s1 hW 4 0 [] 15 [(11,bo (aI (Int.ofNat i) (Int.ofNat (List.length ((Tm.kids t).map Tm.aa)))))] ?_;refine CG.ao (fp i (List.length ((Tm.kids t).map Tm.aa))) k_ ?_;refine CG.aX (by decide) ?_;refine s1 hW 5 0 [] 0 [(2,.sl 0 (List.length a*10) 0 a.length 10)] ?_;rotate_left;refine CG.tidy (ax.rB (sz:=10) Tm.cells a 0 2 (a7:=[(2,.d (.list (a.map Tm.cells)))]) (H':=[none]) (fun _=>rfl) k_ k_ ⟨.inl rfl,trivial⟩ k_ k_) ?_;refine CG.rt (lo Tm.cells a) ?_;rotate_left;rw[aF];simp
   ·intro i a x r cQ hx cy aF;rw[aaV]at aF;have h1:=hk x (aat hx);refine s1 hW 4 0 [] 15 [(11,bo (aI (Int.ofNat i) (Int.ofNat (List.length ((Tm.kids t).map Tm.aa)))))] ?_;refine CG.ay (eV i (List.length ((Tm.kids t).map Tm.aa))) k_ ?_;refine s1 hW 4 4 [] 15 [(14,.sl 0 (List.length a*10) 0 a.length 10),(16,lo Tm.aa (Tm.kids t)),(17,no i)] ?_;refine CG.ix (Tm.dD hx) rfl k_ ?_;refine s1 hW 0 1 [] 31 [(19,.agg [io (Tm.kind x),io (Tm.line x),so (Tm.name x),io (Tm.num x),so (Tm.ae x),lo Tm.encI (Tm.ad x),lo Tm.encI (Tm.av x),lo aq.aa (Tm.ai x),lo Tm.encI (Tm.aj x),lo Tm.aa (Tm.kids x)])] ?_;refine CG.pg (h1) rfl k_ ?_;rotate_left;have hle:a.length+x.pre.length<1048577:=by have:=ace List.length aF;simp only[aao]at this;omega
    refine CG.As Tm.cells a x.pre 0 (fun _=>rfl) rfl k_ (du (aa:=Tm.cells) (fun _=>rfl) _ x.pre) (by omega) ?_;refine s3 hW 3 3 [] [(1,.aO [.int .i64 (Tm.kind t),.int .i64 (Tm.line t),.str (Tm.name t),.int .i64 (Tm.num t),.str (Tm.ae t),.list ((Tm.ad t).map Tm.encI),.list ((Tm.av t).map Tm.encI),.list ((Tm.ai t).map aq.aa),.list ((Tm.aj t).map Tm.encI),.list ((Tm.kids t).map Tm.aa)]),(2,.ak),(3,.sl 0 (List.length (a++Tm.pre x)*10) 0 (a++Tm.pre x).length 10),(4,io (aW IntKind.i64 (bJ (Int.ofNat i) 1)))] ([some (aK Tm.cells (a++Tm.pre x))]) ?_;refine CG.fu rfl ?_;rw[bf (by omega)];rotate_left;exact⟨a++x.pre,by rw[aF,List.append_assoc],ax.refl _ _⟩
end Fw.Tz.Fp
/-
  The guards on terms and modules, by the reference: they answer.
-/
namespace Fw.Tz.Fg
open Go Go.Proofs Fw.X Fw.Tz Fw.Nu Fw.Tz.Sd Fw.Tz.Na Fw.Tz.El Fw.Tz.Va Fw.Tz.Vb Fw.Tz.Tm Fw.Tz.Pn
open Fw.Tz.Px (zy)
variable {W:World}
theorem IK(hW:W0 W)(t:Tm)(hs:wP t)(hz:t.pre.length<1048577):WF P (gl W) 20 [vT t,no 30] [] (fun v H'=>∃b,v=bo b/\H'=[]):=by
 have h1:=Fe.FSz hW _ t rfl hs;have h2:=Fe.wQ hW _ t rfl hs;have h3:=Fp.Mh hW _ t rfl hs hz;refine WF.cut ?_;refine CG.b_ Wu Wv rfl ?_;refine s1 hW 1 0 [] 3 [] ?_;refine CG.dt ?_;refine CG.cU (cs:=[.int .i64 (Tm.kind t),.int .i64 (Tm.line t),.str (Tm.name t),.int .i64 (Tm.num t),.str (Tm.ae t),.list ((Tm.ad t).map Tm.encI),.list ((Tm.av t).map Tm.encI),.list ((Tm.ai t).map aq.aa),.list ((Tm.aj t).map Tm.encI),.list ((Tm.kids t).map Tm.aa)]) rfl k_ rfl ?_;refine s1 hW 4 1 [] 6 [(4,bF),(8,.agg [io (Tm.kind t),io (Tm.line t),so (Tm.name t),io (Tm.num t),so (Tm.ae t),lo Tm.encI (Tm.ad t),lo Tm.encI (Tm.av t),lo aq.aa (Tm.ai t),lo Tm.encI (Tm.aj t),lo Tm.aa (Tm.kids t)])] ?_;refine CG.pg (h1) rfl k_ ?_;refine s1 hW 0 2 [] 7 [(11,bo (aI 12 (Int.ofNat (Tm.depth t))))] ?_;refine bw 12 (Tm.depth t) (fun hU zA=>?_ ) (fun hU zA=>?_ );have fw:(aI 12 (Int.ofNat (Tm.depth t)))=true:=fe;rw[fw];refine s1 hW 6 0 [true] 6 [] ?_;refine CG.cG (bF) ?_;rotate_left;have gO:(aI 12 (Int.ofNat (Tm.depth t)))=false:=eW;rw[gO];refine s1 hW 0 1 [] 15 [(12,.agg [io (Tm.kind t),io (Tm.line t),so (Tm.name t),io (Tm.num t),so (Tm.ae t),lo Tm.encI (Tm.ad t),lo Tm.encI (Tm.av t),lo aq.aa (Tm.ai t),lo Tm.encI (Tm.aj t),lo Tm.aa (Tm.kids t)])] ?_;refine CG.pg (h2) rfl k_ ?_;refine s1 hW 2 0 [] 6 [(16,bo (aI 30 (Int.ofNat (Tm.pre t).length)))] ?_;refine bw 30 (Tm.pre t).length (fun iz FV=>?_ ) (fun iz FV=>?_ );refine CG.ay (show(aI 30 (Int.ofNat (Tm.pre t).length))=true from fe) k_ ?_;refine s1 hW 3 0 [] 3 [] ?_;refine CG.cG (bF) ?_;rotate_left;refine CG.ao (show(aI 30 (Int.ofNat (Tm.pre t).length))=false from eW) k_ ?_;refine s1 hW 3 1 [] 2 [(17,.agg [io (Tm.kind t),io (Tm.line t),so (Tm.name t),io (Tm.num t),so (Tm.ae t),lo Tm.encI (Tm.ad t),lo Tm.encI (Tm.av t),lo aq.aa (Tm.ai t),lo Tm.encI (Tm.aj t),lo Tm.aa (Tm.kids t)])] ?_;refine CG.pg (h3) rfl k_ ?_;refine s1 hW 7 0 [] 1 [(5,lo Tm.cells (Tm.pre t)),(6,i0)] ?_;rotate_left
 ·exact .inr ⟨rfl,rfl,_,rfl,rfl⟩
 ·exact .inr ⟨rfl,rfl,_,rfl,rfl⟩
 have ij:True:=trivial;refine CG.bh t.pre (fun i u=>[(4,bF),(5,lo Tm.cells (Tm.pre t)),(6,.d (.int .i64 (.ofNat i)))]) (fun i u=>[]) (fun i u r=>(True)) () ?_ (ax.rC k_) ?_ ?_
 ·trivial
 ·intro i u hi cQ aF;refine s1 hW 4 0 [] 7 [(22,bo (aI (Int.ofNat i) (Int.ofNat (List.length ((Tm.pre t).map Tm.cells)))))] ?_;refine CG.ao (fp i (List.length ((Tm.pre t).map Tm.cells))) k_ ?_;refine CG.aX (by decide) ?_;refine s1 hW 5 0 [] 0 [(4,bT)] ?_;refine CG.cG (bT) ?_;rotate_left;exact .inr ⟨rfl,rfl,_,rfl,rfl⟩
 ·intro i u x r cQ hx cy aF;have hN:=hs.node x (aat hx);have n1:=hN.name;have n2:=hN.av;have n3:=hN.ad;have n4:=hN.ai;have n5:=hN.aj;refine s1 hW 4 0 [] 7 [(22,bo (aI (Int.ofNat i) (Int.ofNat (List.length ((Tm.pre t).map Tm.cells)))))] ?_;refine CG.ay (eV i (List.length ((Tm.pre t).map Tm.cells))) k_ ?_;refine s1 hW 6 2 [] 7 [(25,lo Tm.cells (Tm.pre t)),(26,no i)] ?_;refine CG.ix (aG (aa:=Tm.cells) hx) rfl k_ ?_;refine s1 hW 0 5 [] 7 [(32,bo (aI 40 (Int.ofNat (Tm.name x).length)))] ?_;refine bw 40 (Tm.name x).length (fun FW Qs=>?_ ) (fun FW Qs=>?_ );have IL:(aI 40 (Int.ofNat (Tm.name x).length))=true:=fe;rw[IL];refine s1 hW 6 0 [true] 7 [] ?_;refine CG.mh (bF) ?_;rotate_left;have Mi:(aI 40 (Int.ofNat (Tm.name x).length))=false:=eW;rw[Mi];refine s1 hW 0 2 [] 15 [(33,lo Tm.cells (Tm.pre t)),(34,no i)] ?_;refine CG.ix (aG (aa:=Tm.cells) hx) rfl k_ ?_;refine s1 hW 0 7 [] 7 [(42,bo (aI 30 (Int.ofNat (List.length ((Tm.av x).map Tm.encI)))))] ?_;refine bw 30 (List.length ((Tm.av x).map Tm.encI)) (fun wR IM=>?_ ) (fun wR IM=>?_ )<;>simp only[zz]at IM;have Mj:(aI 30 (Int.ofNat (List.length ((Tm.av x).map Tm.encI))))=true:=fe;rw[Mj];refine s1 hW 6 0 [true] 7 [] ?_;refine CG.mh (bF) ?_;rotate_left;have q36:(aI 30 (Int.ofNat (List.length ((Tm.av x).map Tm.encI))))=false:=eW;rw[q36];refine s1 hW 0 2 [] 15 [(43,lo Tm.cells (Tm.pre t)),(44,no i)] ?_;refine CG.ix (aG (aa:=Tm.cells) hx) rfl k_ ?_;refine s1 hW 0 7 [] 7 [(52,bo (aI 8 (Int.ofNat (List.length ((Tm.ad x).map Tm.encI)))))] ?_;refine bw 8 (List.length ((Tm.ad x).map Tm.encI)) (fun IN Mk=>?_ ) (fun IN Mk=>?_ )<;>simp only[zz]at Mk;have Ww:(aI 8 (Int.ofNat (List.length ((Tm.ad x).map Tm.encI))))=true:=fe;rw[Ww];refine s1 hW 6 0 [true] 7 [] ?_;refine CG.mh (bF) ?_;rotate_left;have Wx:(aI 8 (Int.ofNat (List.length ((Tm.ad x).map Tm.encI))))=false:=eW;rw[Wx];refine s1 hW 0 2 [] 15 [(53,lo Tm.cells (Tm.pre t)),(54,no i)] ?_;refine CG.ix (aG (aa:=Tm.cells) hx) rfl k_ ?_;refine s1 hW 0 6 [] 7 [(61,bo (aI 6 (Int.ofNat (List.length ((Tm.ai x).map aq.aa)))))] ?_;refine bw 6 (List.length ((Tm.ai x).map aq.aa)) (fun FX Ml=>?_ ) (fun FX Ml=>?_ )<;>simp only[zz]at Ml;have Wy:(aI 6 (Int.ofNat (List.length ((Tm.ai x).map aq.aa))))=true:=fe;rw[Wy];refine s1 hW 6 0 [true] 7 [] ?_;refine CG.mh (bF) ?_;rotate_left;have Qt:(aI 6 (Int.ofNat (List.length ((Tm.ai x).map aq.aa))))=false:=eW;rw[Qt];refine s1 hW 0 2 [] 15 [(62,lo Tm.cells (Tm.pre t)),(63,no i)] ?_;refine CG.ix (aG (aa:=Tm.cells) hx) rfl k_ ?_;refine s1 hW 2 0 [] 7 [(69,bo (aI 10 (Int.ofNat (List.length ((Tm.aj x).map Tm.encI)))))] ?_;refine bw 10 (List.length ((Tm.aj x).map Tm.encI)) (fun q45 ZU=>?_ ) (fun q45 ZU=>?_ )<;>simp only[zz]at ZU;refine CG.ay (show(aI 10 (Int.ofNat (List.length ((Tm.aj x).map Tm.encI))))=true from fe) k_ ?_;refine s1 hW 3 0 [] 7 [] ?_;refine CG.mh (bF) ?_;rotate_left;refine CG.ao (show(aI 10 (Int.ofNat (List.length ((Tm.aj x).map Tm.encI))))=false from eW) k_ ?_;refine s1 hW 6 0 [] 7 [(7,i0)] ?_;rotate_left
  ·exact .inr ⟨rfl,rfl,_,rfl,rfl⟩
  ·exact .inr ⟨rfl,rfl,_,rfl,rfl⟩
  ·exact .inr ⟨rfl,rfl,_,rfl,rfl⟩
  ·exact .inr ⟨rfl,rfl,_,rfl,rfl⟩
  ·exact .inr ⟨rfl,rfl,_,rfl,rfl⟩
  refine CG.bh x.ai (fun j v=>[(4,bF),(5,lo Tm.cells (Tm.pre t)),(6,no i),(7,.d (.int .i64 (.ofNat j)))]) (fun j v=>[]) (fun j v s=>(True)) () ?_ (ax.rC k_) ?_ ?_
  ·trivial
  ·intro j v hj FY mr;refine s1 hW 2 3 [] 15 [(70,no j),(71,lo Tm.cells (Tm.pre t)),(72,no i)] ?_;refine CG.ix (aG (aa:=Tm.cells) hx) rfl k_ ?_;refine s1 hW 2 0 [] 15 [(77,bo (aI (Int.ofNat j) (Int.ofNat (List.length ((Tm.ai x).map aq.aa)))))] ?_;refine CG.ao (fp j (List.length ((Tm.ai x).map aq.aa))) k_ ?_;refine CG.aX (by decide) ?_;refine s3 hW 3 3 [] [(4,bF),(5,lo Tm.cells (Tm.pre t)),(6,io (aW IntKind.i64 (bJ (Int.ofNat i) 1)))] ([]) ?_;refine CG.fu rfl ?_;rw[bf (by omega)];rotate_left;exact⟨(),trivial,ax.refl _ _⟩
  ·intro j v y s FY hy FZ mr;have n6:=(hN.J1 y (aat hy)).1;refine s1 hW 2 3 [] 15 [(70,no j),(71,lo Tm.cells (Tm.pre t)),(72,no i)] ?_;refine CG.ix (aG (aa:=Tm.cells) hx) rfl k_ ?_;refine s1 hW 2 0 [] 15 [(77,bo (aI (Int.ofNat j) (Int.ofNat (List.length ((Tm.ai x).map aq.aa)))))] ?_;refine CG.ay (eV j (List.length ((Tm.ai x).map aq.aa))) k_ ?_;refine s1 hW 5 2 [] 15 [(80,lo Tm.cells (Tm.pre t)),(81,no i)] ?_;refine CG.ix (aG (aa:=Tm.cells) hx) rfl k_ ?_;refine s1 hW 0 3 [] 15 [(84,lo aq.aa (Tm.ai x)),(85,no j)] ?_;refine CG.ix (aG (aa:=aq.aa) hy) rfl k_ ?_;refine s1 hW 2 0 [] 15 [(90,bo (aI 6 (Int.ofNat (y.ts.map Cf.aa).length)))] ?_;refine bw 6 (y.ts.map Cf.aa).length (fun Wz Qu=>?_ ) (fun Wz Qu=>?_ )<;>simp only[zz]at Qu;refine CG.ay (show(aI 6 (Int.ofNat (y.ts.map Cf.aa).length))=true from fe) k_ ?_;refine s1 hW 3 0 [] 15 [] ?_;refine CG.PL (LQ.ret (LQ.ret (nh.ret (v':=(bF)) k_ ?_ )));rotate_left;refine CG.ao (show(aI 6 (Int.ofNat (y.ts.map Cf.aa).length))=false from eW) k_ ?_;refine s3 hW 3 3 [] [(4,bF),(5,lo Tm.cells (Tm.pre t)),(6,no i),(7,io (aW IntKind.i64 (bJ (Int.ofNat j) 1)))] ([]) ?_;refine CG.fu rfl ?_;rw[bf (by omega)];rotate_left
   ·exact .inr ⟨rfl,rfl,_,rfl,rfl⟩
   ·exact⟨(),trivial,ax.refl _ _⟩
theorem Mm(hW:W0 W)(m:Md)(hs:zy m)(hz:∀d∈m.defs,d.body.pre.length<1048577):WF P (gl W) 6 [vM m] [] (fun v H'=>∃b,v=bo b/\H'=[]):=by
 refine WF.cut ?_;refine CG.b_ is6 ca6 rfl ?_;have m1:=hs.defs;have m2:=hs.F0.1;have m3:=hs.AF.1;refine s1 hW 1 0 [] 1 [] ?_;refine CG.dt ?_;refine CG.cU (cs:=[.str m.name,.list (m.imports.map Tm.encS),.list (m.aA.map Tm.encS),.list (m.defs.map Df.aa)]) rfl k_ rfl ?_;refine s1 hW 7 0 [] 2 [(2,bF),(3,i0)] ?_;rotate_left;have ij:True:=trivial;refine CG.bh m.defs (fun i u=>[(1,.aO [.str m.name,.list (m.imports.map Tm.encS),.list (m.aA.map Tm.encS),.list (m.defs.map Df.aa)]),(2,bF),(3,.d (.int .i64 (.ofNat i)))]) (fun i u=>[]) (fun i u r=>(True)) () ?_ (ax.rC k_) ?_ ?_
 ·trivial
 ·intro i u hi cQ aF;refine s1 hW 4 0 [] 7 [(10,bo (aI (Int.ofNat i) (Int.ofNat (m.defs.map Df.aa).length)))] ?_;refine CG.ao (fp i (m.defs.map Df.aa).length) k_ ?_;refine CG.aX (by decide) ?_;refine s1 hW 3 5 [] 3 [(63,bo (!aI 6 (Int.ofNat (m.defs.map Df.aa).length)))] ?_;refine bw 6 (m.defs.map Df.aa).length (fun iA xj=>?_ ) (fun iA xj=>?_ )<;>simp only[zz]at xj;have iq:(aI 6 (Int.ofNat (m.defs.map Df.aa).length))=true:=fe;rw[iq];refine s1 hW 2 0 [] 2 [] ?_;refine CG.cG (bF) ?_;rotate_left;have ni:(aI 6 (Int.ofNat (m.defs.map Df.aa).length))=false:=eW;rw[ni];refine s1 hW 0 6 [] 3 [(69,bo (!aI 25 (Int.ofNat (m.imports.map Tm.encS).length)))] ?_;refine bw 25 (m.imports.map Tm.encS).length (fun qF Dd=>?_ ) (fun qF Dd=>?_ )<;>simp only[zz]at Dd;have wS:(aI 25 (Int.ofNat (m.imports.map Tm.encS).length))=true:=fe;rw[wS];refine s1 hW 2 0 [] 2 [] ?_;refine CG.cG (bF) ?_;rotate_left;have qG:(aI 25 (Int.ofNat (m.imports.map Tm.encS).length))=false:=eW;rw[qG];refine s1 hW 2 0 [] 0 [(2,bo (!aI 65 (Int.ofNat (m.aA.map Tm.encS).length)))] ?_;refine CG.cG (bo (!aI 65 (Int.ofNat (m.aA.map Tm.encS).length))) ?_;rotate_left;all_goals exact .inr ⟨rfl,rfl,_,rfl,rfl⟩
 ·intro i u x r cQ hx cy aF;have hd:=hs.df x (aat hx);have hf:=IK hW x.body hd.body.sm (hz x (aat hx));have n1:=hd.name;have n2:=hd.ps;have n3:=hd.res.2.2.1;have cO:True:=trivial;refine s1 hW 4 0 [] 7 [(10,bo (aI (Int.ofNat i) (Int.ofNat (m.defs.map Df.aa).length)))] ?_;refine CG.ay (eV i (m.defs.map Df.aa).length) k_ ?_;refine s1 hW 5 3 [] 7 [(14,lo Df.aa m.defs),(15,no i)] ?_;refine CG.ix (aG (aa:=Df.aa) hx) rfl k_ ?_;refine s1 hW 0 1 [] 7 [(17,.agg [so x.name,io x.line,lo Pm.aa x.ps,bo x.given,so x.res.elem,so x.res.row,lo aq.aa x.res.az,io (Tm.kind x.body),io (Tm.line x.body),so (Tm.name x.body),io (Tm.num x.body),so (Tm.ae x.body),lo Tm.encI (Tm.ad x.body),lo Tm.encI (Tm.av x.body),lo aq.aa (Tm.ai x.body),lo Tm.encI (Tm.aj x.body),lo Tm.aa (Tm.kids x.body)])] ?_;refine CG.dB (cs:=[.str x.name,.int .i64 x.line,.list (x.ps.map Pm.aa),.bool x.given,.str x.res.elem,.str x.res.row,.list (x.res.az.map aq.aa),.int .i64 (Tm.kind x.body),.int .i64 (Tm.line x.body),.str (Tm.name x.body),.int .i64 (Tm.num x.body),.str (Tm.ae x.body),.list ((Tm.ad x.body).map Tm.encI),.list ((Tm.av x.body).map Tm.encI),.list ((Tm.ai x.body).map aq.aa),.list ((Tm.aj x.body).map Tm.encI),.list ((Tm.kids x.body).map Tm.aa)]) rfl (fun _=>by kernel_rfl) rfl ?_;refine s1 hW 4 2 [] 15 [(19,.agg [io (Tm.kind x.body),io (Tm.line x.body),so (Tm.name x.body),io (Tm.num x.body),so (Tm.ae x.body),lo Tm.encI (Tm.ad x.body),lo Tm.encI (Tm.av x.body),lo aq.aa (Tm.ai x.body),lo Tm.encI (Tm.aj x.body),lo Tm.aa (Tm.kids x.body)])] ?_;rotate_left;refine CG.yx hf rfl rfl k_ rfl ?_;rintro v H' ⟨b,rfl,rfl⟩;refine s1 hW 0 2 [] 15 [(22,bo !b)] ?_;refine sp b (fun rH=>?_ ) (fun rH=>?_ );rw[rH];refine s1 hW 0 6 [] 15 [(28,bo (aI 10 (Int.ofNat (x.ps.map Pm.aa).length)))] ?_;refine bw 10 (x.ps.map Pm.aa).length (fun Mo Mp=>?_ ) (fun Mo Mp=>?_ )<;>simp only[zz]at Mp;have AG:(aI 10 (Int.ofNat (x.ps.map Pm.aa).length))=true:=fe;rw[AG];refine s1 hW 6 0 [true] 15 [] ?_;refine CG.mh (bF) ?_;rotate_left;have Qv:(aI 10 (Int.ofNat (x.ps.map Pm.aa).length))=false:=eW;rw[Qv];refine s1 hW 0 6 [] 15 [(34,bo (aI 40 (Int.ofNat x.name.length)))] ?_;refine bw 40 x.name.length (fun IL Qw=>?_ ) (fun IL Qw=>?_ );have Mi:(aI 40 (Int.ofNat x.name.length))=true:=fe;rw[Mi];refine s1 hW 6 0 [true] 15 [] ?_;refine CG.mh (bF) ?_;rotate_left;have IP:(aI 40 (Int.ofNat x.name.length))=false:=eW;rw[IP];refine s1 hW 2 0 [] 15 [(41,bo (aI 8 (Int.ofNat (x.res.az.map aq.aa).length)))] ?_;refine bw 8 (x.res.az.map aq.aa).length (fun wR IM=>?_ ) (fun wR IM=>?_ )<;>simp only[zz]at IM;refine CG.ay (show(aI 8 (Int.ofNat (x.res.az.map aq.aa).length))=true from fe) k_ ?_;refine s1 hW 3 0 [] 15 [] ?_;refine CG.mh (bF) ?_;rotate_left;refine CG.ao (show(aI 8 (Int.ofNat (x.res.az.map aq.aa).length))=false from eW) k_ ?_;refine s1 hW 6 0 [] 15 [(5,i0)] ?_;rotate_left;rw[rH];refine s1 hW 6 0 [true] 15 [] ?_;refine CG.mh (bF) ?_;rotate_left;rotate_right
  ·exact .inr ⟨rfl,rfl,_,rfl,rfl⟩
  ·exact .inr ⟨rfl,rfl,_,rfl,rfl⟩
  ·exact .inr ⟨rfl,rfl,_,rfl,rfl⟩
  ·exact .inr ⟨rfl,rfl,_,rfl,rfl⟩
  refine CG.bh x.ps (fun j v=>[(1,.aO [.str m.name,.list (m.imports.map Tm.encS),.list (m.aA.map Tm.encS),.list (m.defs.map Df.aa)]),(2,bF),(3,no i),(4,.aO [.str x.name,.int .i64 x.line,.list (x.ps.map Pm.aa),.bool x.given,.str x.res.elem,.str x.res.row,.list (x.res.az.map aq.aa),.int .i64 (Tm.kind x.body),.int .i64 (Tm.line x.body),.str (Tm.name x.body),.int .i64 (Tm.num x.body),.str (Tm.ae x.body),.list ((Tm.ad x.body).map Tm.encI),.list ((Tm.av x.body).map Tm.encI),.list ((Tm.ai x.body).map aq.aa),.list ((Tm.aj x.body).map Tm.encI),.list ((Tm.kids x.body).map Tm.aa)]),(5,.d (.int .i64 (.ofNat j)))]) (fun j v=>[]) (fun j v s=>(True)) () ?_ (ax.rC k_) ?_ ?_
  ·trivial
  ·intro j v hj FY mr;refine s1 hW 4 0 [] 31 [(46,bo (aI (Int.ofNat j) (Int.ofNat (x.ps.map Pm.aa).length)))] ?_;refine CG.ao (fp j (x.ps.map Pm.aa).length) k_ ?_;refine CG.aX (by decide) ?_;refine s3 hW 3 3 [] [(1,.aO [.str m.name,.list (m.imports.map Tm.encS),.list (m.aA.map Tm.encS),.list (m.defs.map Df.aa)]),(2,bF),(3,io (aW IntKind.i64 (bJ (Int.ofNat i) 1)))] ([]) ?_;refine CG.fu rfl ?_;rw[bf (by omega)];rotate_left;exact⟨(),trivial,ax.refl _ _⟩
  ·intro j v y s FY hy FZ mr;have n6:=(hd.pn y (aat hy)).2.2.2.1;refine s1 hW 4 0 [] 31 [(46,bo (aI (Int.ofNat j) (Int.ofNat (x.ps.map Pm.aa).length)))] ?_;refine CG.ay (eV j (x.ps.map Pm.aa).length) k_ ?_;refine s1 hW 5 3 [] 31 [(50,lo Pm.aa x.ps),(51,no j)] ?_;refine CG.ix (aG (aa:=Pm.aa) hy) rfl k_ ?_;refine s1 hW 2 0 [] 31 [(58,bo (aI 8 (Int.ofNat (y.ty.az.map aq.aa).length)))] ?_;refine bw 8 (y.ty.az.map aq.aa).length (fun Wy ZV=>?_ ) (fun Wy ZV=>?_ )<;>simp only[zz]at ZV;refine CG.ay (show(aI 8 (Int.ofNat (y.ty.az.map aq.aa).length))=true from fe) k_ ?_;refine s1 hW 3 0 [] 31 [] ?_;refine CG.PL (LQ.ret (LQ.ret (nh.ret (v':=(bF)) k_ ?_ )));rotate_left;refine CG.ao (show(aI 8 (Int.ofNat (y.ty.az.map aq.aa).length))=false from eW) k_ ?_;refine s3 hW 3 3 [] [(1,.aO [.str m.name,.list (m.imports.map Tm.encS),.list (m.aA.map Tm.encS),.list (m.defs.map Df.aa)]),(2,bF),(3,no i),(4,.aO [.str x.name,.int .i64 x.line,.list (x.ps.map Pm.aa),.bool x.given,.str x.res.elem,.str x.res.row,.list (x.res.az.map aq.aa),.int .i64 (Tm.kind x.body),.int .i64 (Tm.line x.body),.str (Tm.name x.body),.int .i64 (Tm.num x.body),.str (Tm.ae x.body),.list ((Tm.ad x.body).map Tm.encI),.list ((Tm.av x.body).map Tm.encI),.list ((Tm.ai x.body).map aq.aa),.list ((Tm.aj x.body).map Tm.encI),.list ((Tm.kids x.body).map Tm.aa)]),(5,io (aW IntKind.i64 (bJ (Int.ofNat j) 1)))] ([]) ?_;refine CG.fu rfl ?_;rw[bf (by omega)];rotate_left
   ·exact .inr ⟨rfl,rfl,_,rfl,rfl⟩
   ·exact⟨(),trivial,ax.refl _ _⟩
end Fw.Tz.Fg
/-
  What is the same is equal, by the reference: expressions, types, terms, definitions.
-/
namespace Fw.Tz.Es
open Go Go.Proofs Fw.X Fw.Tz Fw.Nu Fw.Tz.Sd Fw.Tz.Na Fw.Tz.El Fw.Tz.Va Fw.Tz.Vb Fw.Tz.Tm Fw.Tz.Eq
variable {W:World}
theorem be(x:List UInt8):Fw.ah x x=true:=by rw[cr];simp
theorem bl:∀x:List UInt8,Fw.bytesLess x x=false
 |[]=>rfl
 |a::x=>by
  rw[Fw.bytesLess];have h:Nat.blt a.toNat a.toNat=false:=by rw[Bool.eq_false_iff];simp[aaR]
  simp[bl x,h]
theorem yU(x y:Cf):iT [.str,.int] [.d (.str x.var),.d (.int .i64 x.c)] [.d (.str y.var),.d (.int .i64 y.c)]=some (AH x y):=by
 simp only[iT,fZ,A8,aaw,aaF rfl,AH];cases ah x.var y.var with
  |false=>rfl
  |true=>
   simp only[aaU];by_cases h:x.c=y.c
   ·simp[h,iT]
   ·have e:(x.c==y.c)=false:=by simp[h]
    rw[e,aaN h];simp
theorem ZW(x:Cf):AH x x=true:=(F1 x x).2 rfl
theorem IQ(hW:W0 W)(a:aq)(ha:a.ts.length<1048577):PC P (gl W) 169 [.agg (a.aa.map .d),.agg (a.aa.map .d)] (i0):=by
 refine CG.start Qx Qy rfl ?_;refine s4 hW 8 0 [] 0 [(2,.ptr 0 2 0),(3,.ptr 1 2 0),(4,i0),(5,i0)] [(0,.cells a.ce),(1,.cells a.ce)] ?_;rotate_left;refine CG.bh a.ts (fun i u=>[(2,.ptr 0 2 0),(3,.ptr 1 2 0),(4,i0),(5,.d (.int .i64 (.ofNat i)))]) (fun i u=>[some (.cells a.ce),some (.cells a.ce)]) (fun i u r=>(True)) () ?_ (ax.refl _ _) ?_ ?_
 ·trivial
 ·intro i u hi hd aF;refine s1 hW 2 6 [] 15 [(13,bo (aI (Int.ofNat i) (Int.ofNat (a.ts.map Cf.aa).length)))] ?_;have hU:(aI (Int.ofNat i) (Int.ofNat (a.ts.map Cf.aa).length))=false:=eW;rw[hU];refine s1 hW 3 0 [false] 15 [] ?_;refine CG.aX (by decide) ?_;refine s1 hW 5 8 [] 7 [(64,bo (aI (Int.ofNat (a.ts.map Cf.aa).length) (Int.ofNat (a.ts.map Cf.aa).length)))] ?_;have fw:(aI (Int.ofNat (a.ts.map Cf.aa).length) (Int.ofNat (a.ts.map Cf.aa).length))=false:=eW;rw[fw];refine s1 hW 0 8 [] 15 [(72,bo (aP (Int.ofNat (a.ts.map Cf.aa).length) (Int.ofNat (a.ts.map Cf.aa).length)))] ?_;have gO:(aP (Int.ofNat (a.ts.map Cf.aa).length) (Int.ofNat (a.ts.map Cf.aa).length))=true:=mi;rw[gO];refine s1 hW 2 0 [] 7 [(56,bo (aI a.c a.c))] ?_;refine CG.ao (show(aI a.c a.c)=false from eW) k_ ?_;refine s1 hW 1 8 [] 7 [(88,bo (aI (Int.ofNat (a.ts.map Cf.aa).length) (Int.ofNat (a.ts.map Cf.aa).length)))] ?_;rw[fw];refine s1 hW 2 0 [] 4 [(80,bo (aI a.c a.c))] ?_;refine CG.ao (show(aI a.c a.c)=false from eW) k_ ?_;refine s1 hW 6 0 [] 1 [] ?_;refine CG.rt (i0) ?_;with_reducible rfl
 ·intro i u x r cQ hx cy aF;have e1:=be x.var;have e2:=bl x.var;refine s1 hW 2 6 [] 15 [(13,bo (aI (Int.ofNat i) (Int.ofNat (a.ts.map Cf.aa).length)))] ?_;have gD:(aI (Int.ofNat i) (Int.ofNat (a.ts.map Cf.aa).length))=true:=fe;rw[gD];refine s1 hW 2 0 [] 15 [(19,bo (aI (Int.ofNat i) (Int.ofNat (a.ts.map Cf.aa).length)))] ?_;refine CG.ay gD k_ ?_;refine s1 hW 5 0 [] 15 [] ?_;refine CG.pI bC k_ ?_;refine AW.rk 3 [(22,.ptr 0 2 1),(23,lo Cf.aa a.ts),(24,no i)] [] k_ ?_;refine AW.idx (aG (aa:=Cf.aa) hx) rfl k_ k_ k_ rfl ?_;refine AW.rk 4 [(26,.agg [so x.var,io x.c]),(27,.ptr 1 2 1),(28,lo Cf.aa a.ts),(29,no i)] [] k_ ?_;refine AW.idx (aG (aa:=Cf.aa) hx) rfl k_ k_ k_ rfl ?_;refine AW.rk 5 [(6,.ptr 12 2 0),(7,.ptr 13 2 0),(31,.agg [so x.var,io x.c])] [(12,.cells [so x.var,io x.c]),(13,.cells [so x.var,io x.c])] k_ ?_;refine AW.nil rfl ⟨k_,AW.fin 14 [2,3,4,5,6,7] k_ rfl k_ rfl k_ ?_⟩;refine s1 hW 3 6 [] 63 [(38,bo (bytesLess x.var x.var))] ?_;rw[e2];refine s1 hW 0 6 [] 127 [(44,bo (ah x.var x.var))] ?_;rw[e1];refine s1 hW 2 0 [] 63 [(32,bo (aI x.c x.c))] ?_;refine CG.ao (show(aI x.c x.c)=false from eW) k_ ?_;refine s1 hW 1 2 [] 15 [(53,.agg [so x.var,io x.c]),(54,.agg [so x.var,io x.c])] ?_;rotate_left;refine CG.Cn (xs:=[so x.var,io x.c]) (ys:=[so x.var,io x.c]) (r:=(AH x x)) rfl k_ (yU x x) ?_;rw[ZW x];refine s3 hW 7 3 [false] [(2,.ptr 0 2 0),(3,.ptr 1 2 0),(4,i0),(5,io (aW IntKind.i64 (bJ (Int.ofNat i) 1)))] ([some (.cells a.ce),some (.cells a.ce)]++nn 10 ([some (.cells [so x.var,io x.c]),some (.cells [so x.var,io x.c])])) ?_;refine CG.fu rfl ?_;rw[bf (by omega)];rotate_left;exact⟨(),trivial,ax.trim 2 [2,3,4,5] rfl rfl rfl rfl rfl⟩
theorem IS(hW:W0 W)(a:aq)(ha:a.ts.length<1048577):PC P (gl W) 121 [.agg (a.aa.map .d),.agg (a.aa.map .d)] (bT):=by have h1:=IQ hW a ha;refine CG.start Qz QA rfl ?_;refine s4 hW 4 2 [] 0 [(4,bF),(5,.agg a.ce),(6,.agg a.ce)] [(0,.cells a.ce),(1,.cells a.ce)] ?_;refine CG.pg (h1) rfl k_ ?_;refine s1 hW 2 0 [] 0 [(4,bT)] ?_;refine CG.rt (bT) ?_;with_reducible rfl
theorem Mq(hW:W0 W)(r1:List UInt8)(d1:List aq)(h1:d1.length<1048577)(h2:∀x∈d1,x.ts.length<1048577):PC P (gl W) 79 [.agg [so r1,lo aq.aa d1],.agg [so r1,lo aq.aa d1]] (bT):=by
 have e1:=be r1;refine CG.start WA WB rfl ?_;refine s4 hW 5 6 [] 0 [(2,.ptr 0 2 0),(3,.ptr 1 2 0),(4,bF),(11,bo (!ah r1 r1))] [(0,.cells [so r1,lo aq.aa d1]),(1,.cells [so r1,lo aq.aa d1])] ?_;rw[e1];refine s1 hW 2 0 [] 7 [(19,bo (!aP (Int.ofNat (d1.map aq.aa).length) (Int.ofNat (d1.map aq.aa).length)))] ?_;have q8:(aP (Int.ofNat (d1.map aq.aa).length) (Int.ofNat (d1.map aq.aa).length))=true:=mi;refine CG.ao (b:=(!aP (Int.ofNat (d1.map aq.aa).length) (Int.ofNat (d1.map aq.aa).length))) (by rw[q8];rfl) k_ ?_;refine s1 hW 7 0 [] 7 [(5,i0)] ?_;rotate_left;refine CG.bh d1 (fun i u=>[(2,.ptr 0 2 0),(3,.ptr 1 2 0),(4,bF),(5,.d (.int .i64 (.ofNat i)))]) (fun i u=>[some (.cells [so r1,lo aq.aa d1]),some (.cells [so r1,lo aq.aa d1])]) (fun i u r=>(True)) () ?_ (ax.refl _ _) ?_ ?_
 ·trivial
 ·intro i u hi hd aF;refine s1 hW 4 0 [] 15 [(24,bo (aI (Int.ofNat i) (Int.ofNat (d1.map aq.aa).length)))] ?_;refine CG.ao (fp i (d1.map aq.aa).length) k_ ?_;refine CG.aX (by decide) ?_;refine s1 hW 5 0 [] 0 [(4,bT)] ?_;refine CG.rt (bT) ?_;with_reducible rfl
 ·intro i u x r cQ hx cy aF;have h3:=IS hW x (h2 x (aat hx));refine s1 hW 4 0 [] 15 [(24,bo (aI (Int.ofNat i) (Int.ofNat (d1.map aq.aa).length)))] ?_;refine CG.ay (eV i (d1.map aq.aa).length) k_ ?_;refine s1 hW 5 0 [] 15 [] ?_;refine CG.iy bC k_ k_ ?_;refine AO.rd 3 [(27,.ptr 0 2 1),(28,lo aq.aa d1),(29,no i)] k_ ?_;refine AO.idx (aG (aa:=aq.aa) hx) rfl k_ k_ k_ rfl ?_;refine AO.rd 4 [(31,.agg x.ce),(32,.ptr 1 2 1),(33,lo aq.aa d1),(34,no i)] k_ ?_;refine AO.idx (aG (aa:=aq.aa) hx) rfl k_ k_ k_ rfl ?_;refine AO.rd 1 [(36,.agg x.ce)] k_ ?_;refine AO.od h3 rfl k_ k_ ?_;refine AO.rd 1 [(38,bF)] k_ ?_;refine AO.done [2,3,4,5,38] rfl rfl k_ ?_;refine s3 hW 5 3 [false] [(2,.ptr 0 2 0),(3,.ptr 1 2 0),(4,bF),(5,io (aW IntKind.i64 (bJ (Int.ofNat i) 1)))] ([some (.cells [so r1,lo aq.aa d1]),some (.cells [so r1,lo aq.aa d1])]) ?_;refine CG.fu rfl ?_;rw[bf (by omega)];rotate_left;exact⟨(),trivial,ax.refl _ _⟩
theorem F2(hW:W0 W)(t:Ty)(h1:t.az.length<1048577)(h2:∀x∈t.az,x.ts.length<1048577):PC P (gl W) 33 [.agg (t.aa.map .d),.agg (t.aa.map .d)] (bT):=by have e1:=be t.elem;have h3:=Mq hW t.row t.az h1 h2;refine CG.start WD WE rfl ?_;refine s4 hW 4 6 [] 0 [(2,.ptr 0 3 0),(3,.ptr 1 3 0),(4,bF),(10,bo (ah t.elem t.elem))] [(0,.cells t.ce),(1,.cells t.ce)] ?_;rw[e1];refine s1 hW 0 4 [] 12 [(12,.agg [so t.row,lo aq.aa t.az]),(14,.agg [so t.row,lo aq.aa t.az])] ?_;refine CG.pg (h3) rfl k_ ?_;refine s1 hW 2 0 [] 0 [(4,bT)] ?_;refine CG.rt (bT) ?_;with_reducible rfl
theorem Mr(hW:W0 W)(a:aq)(ha:a.ts.length<1048577):PC P (gl W) 123 [.agg (a.aa.map .d),.agg (a.aa.map .d)] (bT):=by
 refine CG.start QB QC rfl ?_;refine s4 hW 5 6 [] 0 [(2,.ptr 0 2 0),(3,.ptr 1 2 0),(4,bF),(11,bo (!aP a.c a.c))] [(0,.cells a.ce),(1,.cells a.ce)] ?_;have q5:(aP a.c a.c)=true:=mi;rw[q5];refine s1 hW 2 0 [] 7 [(19,bo (!aP (Int.ofNat (a.ts.map Cf.aa).length) (Int.ofNat (a.ts.map Cf.aa).length)))] ?_;have q6:(aP (Int.ofNat (a.ts.map Cf.aa).length) (Int.ofNat (a.ts.map Cf.aa).length))=true:=mi;refine CG.ao (b:=(!aP (Int.ofNat (a.ts.map Cf.aa).length) (Int.ofNat (a.ts.map Cf.aa).length))) (by rw[q6];rfl) k_ ?_;refine s1 hW 7 0 [] 7 [(5,i0)] ?_;rotate_left;refine CG.bh a.ts (fun i u=>[(2,.ptr 0 2 0),(3,.ptr 1 2 0),(4,bF),(5,.d (.int .i64 (.ofNat i)))]) (fun i u=>[some (.cells a.ce),some (.cells a.ce)]) (fun i u r=>(True)) () ?_ (ax.refl _ _) ?_ ?_
 ·trivial
 ·intro i u hi hd aF;refine s1 hW 4 0 [] 15 [(24,bo (aI (Int.ofNat i) (Int.ofNat (a.ts.map Cf.aa).length)))] ?_;refine CG.ao (fp i (a.ts.map Cf.aa).length) k_ ?_;refine CG.aX (by decide) ?_;refine s1 hW 5 0 [] 0 [(4,bT)] ?_;refine CG.rt (bT) ?_;with_reducible rfl
 ·intro i u x r cQ hx cy aF;refine s1 hW 4 0 [] 15 [(24,bo (aI (Int.ofNat i) (Int.ofNat (a.ts.map Cf.aa).length)))] ?_;refine CG.ay (eV i (a.ts.map Cf.aa).length) k_ ?_;refine s1 hW 5 0 [] 15 [] ?_;refine CG.iy bC k_ k_ ?_;refine AO.rd 3 [(27,.ptr 0 2 1),(28,lo Cf.aa a.ts),(29,no i)] k_ ?_;refine AO.idx (aG (aa:=Cf.aa) hx) rfl k_ k_ k_ rfl ?_;refine AO.rd 4 [(31,.agg [so x.var,io x.c]),(32,.ptr 1 2 1),(33,lo Cf.aa a.ts),(34,no i)] k_ ?_;refine AO.idx (aG (aa:=Cf.aa) hx) rfl k_ k_ k_ rfl ?_;refine AO.rd 1 [(36,.agg [so x.var,io x.c])] k_ ?_;rotate_left;refine AO.Cn (xs:=[so x.var,io x.c]) (ys:=[so x.var,io x.c]) (r:=(AH x x)) rfl k_ (yU x x) ?_;rw[ZW x];refine AO.done [2,3,4,5,37] rfl rfl k_ ?_;refine s3 hW 5 3 [false] [(2,.ptr 0 2 0),(3,.ptr 1 2 0),(4,bF),(5,io (aW IntKind.i64 (bJ (Int.ofNat i) 1)))] ([some (.cells a.ce),some (.cells a.ce)]) ?_;refine CG.fu rfl ?_;rw[bf (by omega)];rotate_left;exact⟨(),trivial,ax.refl _ _⟩
theorem tC(hW:W0 W)(l:List Int)(hl:l.length<1048577):PC P (gl W) 122 [lo Tm.encI l,lo Tm.encI l] (bT):=by
 refine CG.start QD QE rfl ?_;refine s1 hW 7 0 [] 3 [(4,bF),(10,bo (!aP (Int.ofNat (l.map Tm.encI).length) (Int.ofNat (l.map Tm.encI).length)))] ?_;have q5:(aP (Int.ofNat (l.map Tm.encI).length) (Int.ofNat (l.map Tm.encI).length))=true:=mi;refine CG.ao (b:=(!aP (Int.ofNat (l.map Tm.encI).length) (Int.ofNat (l.map Tm.encI).length))) (by rw[q5];rfl) k_ ?_;refine s1 hW 7 0 [] 7 [(5,i0)] ?_;rotate_left;refine CG.bh l (fun i u=>[(0,lo Tm.encI l),(1,lo Tm.encI l),(4,bF),(5,.d (.int .i64 (.ofNat i)))]) (fun i u=>[]) (fun i u r=>(True)) () ?_ (ax.refl _ _) ?_ ?_
 ·trivial
 ·intro i u hi hd aF;refine s1 hW 4 0 [] 15 [(14,bo (aI (Int.ofNat i) (Int.ofNat (l.map Tm.encI).length)))] ?_;refine CG.ao (fp i (l.map Tm.encI).length) k_ ?_;refine CG.aX (by decide) ?_;refine s1 hW 5 0 [] 0 [(4,bT)] ?_;refine CG.rt (bT) ?_;with_reducible rfl
 ·intro i u x r cQ hx cy aF;refine s1 hW 4 0 [] 15 [(14,bo (aI (Int.ofNat i) (Int.ofNat (l.map Tm.encI).length)))] ?_;refine CG.ay (eV i (l.map Tm.encI).length) k_ ?_;refine s1 hW 5 0 [] 15 [] ?_;refine CG.iy bC k_ k_ ?_;refine AO.rd 2 [(17,lo Tm.encI l),(18,no i)] k_ ?_;refine AO.idx (aG (aa:=Tm.encI) hx) rfl k_ k_ k_ rfl ?_;refine AO.rd 3 [(20,io x),(21,lo Tm.encI l),(22,no i)] k_ ?_;refine AO.idx (aG (aa:=Tm.encI) hx) rfl k_ k_ k_ rfl ?_;refine AO.rd 2 [(24,io x),(25,bo (x !=x))] k_ ?_;refine AO.done [0,1,4,5,25] rfl rfl k_ ?_;refine s1 hW 1 0 [] 31 [] ?_;refine CG.ao (show(x !=x)=false from PF (by(try simp only[zz]at*)<;>omega)) k_ ?_;refine s3 hW 3 3 [] [(0,lo Tm.encI l),(1,lo Tm.encI l),(4,bF),(5,io (aW IntKind.i64 (bJ (Int.ofNat i) 1)))] ([]) ?_;refine CG.fu rfl ?_;rw[bf (by omega)];rotate_left;exact⟨(),trivial,ax.refl _ _⟩
theorem Ms(hW:W0 W):∀(n:Nat)(t:Tm),t.pre.length=n->wP t->(∀y∈t.pre,∀x∈y.ai,x.ts.length<1048577)->PC P (gl W) 80 [vT t,vT t] (bT):=by
 intro n;induction n using Nat.strongRecOn with
  |_ n ih=>
   intro t hn hs hx;have hk:∀k∈t.kids,PC P (gl W) 80 [vT k,vT k] (bT):=fun k hm=>ih _ (by rw[←hn];exact Tm.fR hm) k rfl (hs.FU hm) (fun y hy=>hx y (Tm.pN hm hy))
   have hN:=hs.self;have h1:=tC hW t.ad hN.ad;have h2:=tC hW t.av hN.av;have h3:=tC hW t.aj hN.aj;have cH:=hx t t.rX;have WG:=hN.ai;have EG:=hN.kids;have e1:=be t.name;have e2:=be t.ae;clear ih hx hn;refine CG.start WH WI rfl ?_;refine s4 hW 5 6 [] 0 [(2,.ptr 0 10 0),(3,.ptr 1 10 0),(4,bF),(12,bo (!aP (Tm.kind t) (Tm.kind t)))] [(0,.cells [io (Tm.kind t),io (Tm.line t),so (Tm.name t),io (Tm.num t),so (Tm.ae t),lo Tm.encI (Tm.ad t),lo Tm.encI (Tm.av t),lo aq.aa (Tm.ai t),lo Tm.encI (Tm.aj t),lo Tm.aa (Tm.kids t)]),(1,.cells [io (Tm.kind t),io (Tm.line t),so (Tm.name t),io (Tm.num t),so (Tm.ae t),lo Tm.encI (Tm.ad t),lo Tm.encI (Tm.av t),lo aq.aa (Tm.ai t),lo Tm.encI (Tm.aj t),lo Tm.aa (Tm.kids t)])] ?_;have iA:(aP (Tm.kind t) (Tm.kind t))=true:=mi;rw[iA];refine s1 hW 0 7 [] 7 [(19,bo (!ah (Tm.name t) (Tm.name t)))] ?_;rw[e1];refine s1 hW 0 7 [] 7 [(26,bo (!aP (Tm.num t) (Tm.num t)))] ?_;have iq:(aP (Tm.num t) (Tm.num t))=true:=mi;rw[iq];refine s1 hW 0 9 [] 7 [(35,bo (!aP (Int.ofNat (List.length ((Tm.ai t).map aq.aa))) (Int.ofNat (List.length ((Tm.ai t).map aq.aa)))))] ?_;have ni:(aP (Int.ofNat (List.length ((Tm.ai t).map aq.aa))) (Int.ofNat (List.length ((Tm.ai t).map aq.aa))))=true:=mi;rw[ni];refine s1 hW 2 0 [] 7 [(43,bo (!aP (Int.ofNat (List.length ((Tm.kids t).map Tm.aa))) (Int.ofNat (List.length ((Tm.kids t).map Tm.aa)))))] ?_;have jk:(aP (Int.ofNat (List.length ((Tm.kids t).map Tm.aa))) (Int.ofNat (List.length ((Tm.kids t).map Tm.aa))))=true:=mi;refine CG.ao (b:=(!aP (Int.ofNat (List.length ((Tm.kids t).map Tm.aa))) (Int.ofNat (List.length ((Tm.kids t).map Tm.aa))))) (by rw[jk];rfl) k_ ?_;refine s1 hW 4 8 [] 7 [(51,bo (!ah (Tm.ae t) (Tm.ae t)))] ?_;rw[e2];refine s1 hW 0 6 [] 15 [(54,lo Tm.encI (Tm.ad t)),(57,lo Tm.encI (Tm.ad t))] ?_;refine CG.pg (h1) rfl k_ ?_;refine s1 hW 0 9 [] 7 [(61,bF),(64,lo Tm.encI (Tm.av t)),(67,lo Tm.encI (Tm.av t))] ?_;refine CG.pg (h2) rfl k_ ?_;refine s1 hW 0 7 [] 7 [(71,bF),(73,lo Tm.encI (Tm.aj t)),(75,lo Tm.encI (Tm.aj t))] ?_;refine CG.pg (h3) rfl k_ ?_;refine s1 hW 10 0 [false] 7 [(5,i0)] ?_;rotate_left;have ij:True:=trivial;refine CG.bh t.ai (fun i u=>[(2,.ptr 0 10 0),(3,.ptr 1 10 0),(4,bF),(5,.d (.int .i64 (.ofNat i)))]) (fun i u=>[some (.cells [io (Tm.kind t),io (Tm.line t),so (Tm.name t),io (Tm.num t),so (Tm.ae t),lo Tm.encI (Tm.ad t),lo Tm.encI (Tm.av t),lo aq.aa (Tm.ai t),lo Tm.encI (Tm.aj t),lo Tm.aa (Tm.kids t)]),some (.cells [io (Tm.kind t),io (Tm.line t),so (Tm.name t),io (Tm.num t),so (Tm.ae t),lo Tm.encI (Tm.ad t),lo Tm.encI (Tm.av t),lo aq.aa (Tm.ai t),lo Tm.encI (Tm.aj t),lo Tm.aa (Tm.kids t)])]) (fun i u r=>(True)) () ?_ (ax.rC k_) ?_ ?_
   ·trivial
   ·intro i u hi hd aF;refine s1 hW 4 0 [] 15 [(83,bo (aI (Int.ofNat i) (Int.ofNat (List.length ((Tm.ai t).map aq.aa)))))] ?_;refine CG.ao (fp i (List.length ((Tm.ai t).map aq.aa))) k_ ?_;refine CG.aX (by decide) ?_;refine s1 hW 7 0 [] 7 [(6,i0)] ?_;rotate_left;refine CG.bh t.kids (fun j v=>[(2,.ptr 0 10 0),(3,.ptr 1 10 0),(4,bF),(6,.d (.int .i64 (.ofNat j)))]) (fun j v=>[some (.cells [io (Tm.kind t),io (Tm.line t),so (Tm.name t),io (Tm.num t),so (Tm.ae t),lo Tm.encI (Tm.ad t),lo Tm.encI (Tm.av t),lo aq.aa (Tm.ai t),lo Tm.encI (Tm.aj t),lo Tm.aa (Tm.kids t)]),some (.cells [io (Tm.kind t),io (Tm.line t),so (Tm.name t),io (Tm.num t),so (Tm.ae t),lo Tm.encI (Tm.ad t),lo Tm.encI (Tm.av t),lo aq.aa (Tm.ai t),lo Tm.encI (Tm.aj t),lo Tm.aa (Tm.kids t)])]) (fun j v s=>(True)) () ?_ (ax.rC k_) ?_ ?_
    ·trivial
    ·intro j v hj FY mr;refine s1 hW 4 0 [] 15 [(102,bo (aI (Int.ofNat j) (Int.ofNat (List.length ((Tm.kids t).map Tm.aa)))))] ?_;refine CG.ao (fp j (List.length ((Tm.kids t).map Tm.aa))) k_ ?_;refine CG.aX (by decide) ?_;refine s1 hW 5 0 [] 0 [(4,bT)] ?_;refine CG.rt (bT) ?_;with_reducible rfl
    ·intro j v y s FY hy FZ mr;have h5:=hk y (aat hy);refine s1 hW 4 0 [] 15 [(102,bo (aI (Int.ofNat j) (Int.ofNat (List.length ((Tm.kids t).map Tm.aa)))))] ?_;refine CG.ay (eV j (List.length ((Tm.kids t).map Tm.aa))) k_ ?_;refine s1 hW 5 0 [] 15 [] ?_;refine CG.iy bC k_ k_ ?_;refine AO.rd 3 [(105,.ptr 0 10 9),(106,lo Tm.aa (Tm.kids t)),(107,no j)] k_ ?_;refine AO.idx (Tm.dD hy) rfl k_ k_ k_ rfl ?_;refine AO.rd 4 [(109,.agg [io (Tm.kind y),io (Tm.line y),so (Tm.name y),io (Tm.num y),so (Tm.ae y),lo Tm.encI (Tm.ad y),lo Tm.encI (Tm.av y),lo aq.aa (Tm.ai y),lo Tm.encI (Tm.aj y),lo Tm.aa (Tm.kids y)]),(110,.ptr 1 10 9),(111,lo Tm.aa (Tm.kids t)),(112,no j)] k_ ?_;refine AO.idx (Tm.dD hy) rfl k_ k_ k_ rfl ?_;refine AO.rd 1 [(114,.agg [io (Tm.kind y),io (Tm.line y),so (Tm.name y),io (Tm.num y),so (Tm.ae y),lo Tm.encI (Tm.ad y),lo Tm.encI (Tm.av y),lo aq.aa (Tm.ai y),lo Tm.encI (Tm.aj y),lo Tm.aa (Tm.kids y)])] k_ ?_;refine AO.od h5 rfl k_ k_ ?_;refine AO.rd 1 [(116,bF)] k_ ?_;refine AO.done [2,3,4,6,116] rfl rfl k_ ?_;refine s3 hW 5 3 [false] [(2,.ptr 0 10 0),(3,.ptr 1 10 0),(4,bF),(6,io (aW IntKind.i64 (bJ (Int.ofNat j) 1)))] ([some (.cells [io (Tm.kind t),io (Tm.line t),so (Tm.name t),io (Tm.num t),so (Tm.ae t),lo Tm.encI (Tm.ad t),lo Tm.encI (Tm.av t),lo aq.aa (Tm.ai t),lo Tm.encI (Tm.aj t),lo Tm.aa (Tm.kids t)]),some (.cells [io (Tm.kind t),io (Tm.line t),so (Tm.name t),io (Tm.num t),so (Tm.ae t),lo Tm.encI (Tm.ad t),lo Tm.encI (Tm.av t),lo aq.aa (Tm.ai t),lo Tm.encI (Tm.aj t),lo Tm.aa (Tm.kids t)])]) ?_;refine CG.fu rfl ?_;rw[bf (by omega)];rotate_left;exact⟨(),trivial,ax.refl _ _⟩
   ·intro i u x r cQ lJ cy aF;have h4:=Mr hW x (cH x (aat lJ));refine s1 hW 4 0 [] 15 [(83,bo (aI (Int.ofNat i) (Int.ofNat (List.length ((Tm.ai t).map aq.aa)))))] ?_;refine CG.ay (eV i (List.length ((Tm.ai t).map aq.aa))) k_ ?_;refine s1 hW 5 0 [] 15 [] ?_;refine CG.iy bC k_ k_ ?_;refine AO.rd 3 [(86,.ptr 0 10 7),(87,lo aq.aa (Tm.ai t)),(88,no i)] k_ ?_;refine AO.idx (aG (aa:=aq.aa) lJ) rfl k_ k_ k_ rfl ?_;refine AO.rd 4 [(90,.agg x.ce),(91,.ptr 1 10 7),(92,lo aq.aa (Tm.ai t)),(93,no i)] k_ ?_;refine AO.idx (aG (aa:=aq.aa) lJ) rfl k_ k_ k_ rfl ?_;refine AO.rd 1 [(95,.agg x.ce)] k_ ?_;refine AO.od h4 rfl k_ k_ ?_;refine AO.rd 1 [(97,bF)] k_ ?_;refine AO.done [2,3,4,5,97] rfl rfl k_ ?_;refine s3 hW 5 3 [false] [(2,.ptr 0 10 0),(3,.ptr 1 10 0),(4,bF),(5,io (aW IntKind.i64 (bJ (Int.ofNat i) 1)))] ([some (.cells [io (Tm.kind t),io (Tm.line t),so (Tm.name t),io (Tm.num t),so (Tm.ae t),lo Tm.encI (Tm.ad t),lo Tm.encI (Tm.av t),lo aq.aa (Tm.ai t),lo Tm.encI (Tm.aj t),lo Tm.aa (Tm.kids t)]),some (.cells [io (Tm.kind t),io (Tm.line t),so (Tm.name t),io (Tm.num t),so (Tm.ae t),lo Tm.encI (Tm.ad t),lo Tm.encI (Tm.av t),lo aq.aa (Tm.ai t),lo Tm.encI (Tm.aj t),lo Tm.aa (Tm.kids t)])]) ?_;refine CG.fu rfl ?_;rw[bf (by omega)];rotate_left;exact⟨(),trivial,ax.refl _ _⟩
theorem Mt(hW:W0 W):∀(n:Nat)(t:Tm),t.pre.length=n->wP t->(∀y∈t.pre,∀x∈y.ai,x.ts.length<1048577)->PC P (gl W) 34 [vT t,vT t] (bT):=by
 intro n;induction n using Nat.strongRecOn with
  |_ n ih=>
   intro t hn hs hx;have hk:∀k∈t.kids,PC P (gl W) 34 [vT k,vT k] (bT):=fun k hm=>ih _ (by rw[←hn];exact Tm.fR hm) k rfl (hs.FU hm) (fun y hy=>hx y (Tm.pN hm hy))
   have h1:=Ms hW _ t rfl hs hx;have EG:=hs.self.kids;clear ih hx hn;refine CG.start WJ WK rfl ?_;refine s4 hW 5 6 [] 0 [(2,.ptr 0 10 0),(3,.ptr 1 10 0),(4,bF),(11,bo (!aP (Tm.line t) (Tm.line t)))] [(0,.cells [io (Tm.kind t),io (Tm.line t),so (Tm.name t),io (Tm.num t),so (Tm.ae t),lo Tm.encI (Tm.ad t),lo Tm.encI (Tm.av t),lo aq.aa (Tm.ai t),lo Tm.encI (Tm.aj t),lo Tm.aa (Tm.kids t)]),(1,.cells [io (Tm.kind t),io (Tm.line t),so (Tm.name t),io (Tm.num t),so (Tm.ae t),lo Tm.encI (Tm.ad t),lo Tm.encI (Tm.av t),lo aq.aa (Tm.ai t),lo Tm.encI (Tm.aj t),lo Tm.aa (Tm.kids t)])] ?_;have q9:(aP (Tm.line t) (Tm.line t))=true:=mi;rw[q9];refine s1 hW 0 2 [] 15 [(12,.agg [io (Tm.kind t),io (Tm.line t),so (Tm.name t),io (Tm.num t),so (Tm.ae t),lo Tm.encI (Tm.ad t),lo Tm.encI (Tm.av t),lo aq.aa (Tm.ai t),lo Tm.encI (Tm.aj t),lo Tm.aa (Tm.kids t)]),(13,.agg [io (Tm.kind t),io (Tm.line t),so (Tm.name t),io (Tm.num t),so (Tm.ae t),lo Tm.encI (Tm.ad t),lo Tm.encI (Tm.av t),lo aq.aa (Tm.ai t),lo Tm.encI (Tm.aj t),lo Tm.aa (Tm.kids t)])] ?_;refine CG.pg (h1) rfl k_ ?_;refine s1 hW 10 0 [false] 7 [(5,i0)] ?_;rotate_left;have ij:True:=trivial;refine CG.bh t.kids (fun j v=>[(2,.ptr 0 10 0),(3,.ptr 1 10 0),(4,bF),(5,.d (.int .i64 (.ofNat j)))]) (fun j v=>[some (.cells [io (Tm.kind t),io (Tm.line t),so (Tm.name t),io (Tm.num t),so (Tm.ae t),lo Tm.encI (Tm.ad t),lo Tm.encI (Tm.av t),lo aq.aa (Tm.ai t),lo Tm.encI (Tm.aj t),lo Tm.aa (Tm.kids t)]),some (.cells [io (Tm.kind t),io (Tm.line t),so (Tm.name t),io (Tm.num t),so (Tm.ae t),lo Tm.encI (Tm.ad t),lo Tm.encI (Tm.av t),lo aq.aa (Tm.ai t),lo Tm.encI (Tm.aj t),lo Tm.aa (Tm.kids t)])]) (fun j v s=>(True)) () ?_ (ax.rC k_) ?_ ?_
   ·trivial
   ·intro j v hj FY mr;refine s1 hW 4 0 [] 15 [(21,bo (aI (Int.ofNat j) (Int.ofNat (List.length ((Tm.kids t).map Tm.aa)))))] ?_;refine CG.ao (fp j (List.length ((Tm.kids t).map Tm.aa))) k_ ?_;refine CG.aX (by decide) ?_;refine s1 hW 5 0 [] 0 [(4,bT)] ?_;refine CG.rt (bT) ?_;with_reducible rfl
   ·intro j v y s FY hy FZ mr;have h5:=hk y (aat hy);refine s1 hW 4 0 [] 15 [(21,bo (aI (Int.ofNat j) (Int.ofNat (List.length ((Tm.kids t).map Tm.aa)))))] ?_;refine CG.ay (eV j (List.length ((Tm.kids t).map Tm.aa))) k_ ?_;refine s1 hW 5 0 [] 15 [] ?_;refine CG.iy bC k_ k_ ?_;refine AO.rd 3 [(24,.ptr 0 10 9),(25,lo Tm.aa (Tm.kids t)),(26,no j)] k_ ?_;refine AO.idx (Tm.dD hy) rfl k_ k_ k_ rfl ?_;refine AO.rd 4 [(28,.agg [io (Tm.kind y),io (Tm.line y),so (Tm.name y),io (Tm.num y),so (Tm.ae y),lo Tm.encI (Tm.ad y),lo Tm.encI (Tm.av y),lo aq.aa (Tm.ai y),lo Tm.encI (Tm.aj y),lo Tm.aa (Tm.kids y)]),(29,.ptr 1 10 9),(30,lo Tm.aa (Tm.kids t)),(31,no j)] k_ ?_;refine AO.idx (Tm.dD hy) rfl k_ k_ k_ rfl ?_;refine AO.rd 1 [(33,.agg [io (Tm.kind y),io (Tm.line y),so (Tm.name y),io (Tm.num y),so (Tm.ae y),lo Tm.encI (Tm.ad y),lo Tm.encI (Tm.av y),lo aq.aa (Tm.ai y),lo Tm.encI (Tm.aj y),lo Tm.aa (Tm.kids y)])] k_ ?_;refine AO.od h5 rfl k_ k_ ?_;refine AO.rd 1 [(35,bF)] k_ ?_;refine AO.done [2,3,4,5,35] rfl rfl k_ ?_;refine s3 hW 5 3 [false] [(2,.ptr 0 10 0),(3,.ptr 1 10 0),(4,bF),(5,io (aW IntKind.i64 (bJ (Int.ofNat j) 1)))] ([some (.cells [io (Tm.kind t),io (Tm.line t),so (Tm.name t),io (Tm.num t),so (Tm.ae t),lo Tm.encI (Tm.ad t),lo Tm.encI (Tm.av t),lo aq.aa (Tm.ai t),lo Tm.encI (Tm.aj t),lo Tm.aa (Tm.kids t)]),some (.cells [io (Tm.kind t),io (Tm.line t),so (Tm.name t),io (Tm.num t),so (Tm.ae t),lo Tm.encI (Tm.ad t),lo Tm.encI (Tm.av t),lo aq.aa (Tm.ai t),lo Tm.encI (Tm.aj t),lo Tm.aa (Tm.kids t)])]) ?_;refine CG.fu rfl ?_;rw[bf (by omega)];rotate_left;exact⟨(),trivial,ax.refl _ _⟩
theorem IT(hW:W0 W)(p:Pm)(h1:p.ty.az.length<1048577)(h2:∀x∈p.ty.az,x.ts.length<1048577):PC P (gl W) 32 [vP p,vP p] (bT):=by
 have e1:=be p.name;have e2:(p.given==p.given)=true:=by simp
 have h3:=F2 hW p.ty h1 h2;refine CG.start WL WM rfl ?_;refine s4 hW 4 6 [] 0 [(2,.ptr 0 5 0),(3,.ptr 1 5 0),(4,bF),(10,bo (ah p.name p.name))] [(0,.cells [so p.name,bo p.given,so p.ty.elem,so p.ty.row,lo aq.aa p.ty.az]),(1,.cells [so p.name,bo p.given,so p.ty.elem,so p.ty.row,lo aq.aa p.ty.az])] ?_;rw[e1];refine s1 hW 0 7 [] 7 [(17,bo (Pm.given p==Pm.given p))] ?_;rw[e2];refine s1 hW 0 4 [] 12 [(19,.agg p.ty.ce),(21,.agg p.ty.ce)] ?_;refine CG.pg (h3) rfl k_ ?_;refine s1 hW 2 0 [] 0 [(4,bT)] ?_;refine CG.rt (bT) ?_;with_reducible rfl
theorem IU(hW:W0 W)(d:Df)(hd:Cv.Mu d):PC P (gl W) 10 [Dc d,Dc d] (bT):=by
 have hS:=hd.df;have e1:=be d.name;have e2:(d.given==d.given)=true:=by simp
 have h3:=F2 hW d.res hS.res.2.2.1 (fun x hx=>(hS.res.2.2.2 x hx).1);have h4:=Mt hW _ d.body rfl hS.body.sm hd.body;have Ls:=hS.ps;have JN:=hS.pn;refine CG.start WN WQ rfl ?_;refine s4 hW 7 0 [] 0 [(2,.ptr 0 17 0),(3,.ptr 1 17 0),(4,bF),(12,bo (!aP (Int.ofNat (d.ps.map Pm.aa).length) (Int.ofNat (d.ps.map Pm.aa).length)))] [(0,.cells [so d.name,io d.line,lo Pm.aa d.ps,bo d.given,so d.res.elem,so d.res.row,lo aq.aa d.res.az,io (Tm.kind d.body),io (Tm.line d.body),so (Tm.name d.body),io (Tm.num d.body),so (Tm.ae d.body),lo Tm.encI (Tm.ad d.body),lo Tm.encI (Tm.av d.body),lo aq.aa (Tm.ai d.body),lo Tm.encI (Tm.aj d.body),lo Tm.aa (Tm.kids d.body)]),(1,.cells [so d.name,io d.line,lo Pm.aa d.ps,bo d.given,so d.res.elem,so d.res.row,lo aq.aa d.res.az,io (Tm.kind d.body),io (Tm.line d.body),so (Tm.name d.body),io (Tm.num d.body),so (Tm.ae d.body),lo Tm.encI (Tm.ad d.body),lo Tm.encI (Tm.av d.body),lo aq.aa (Tm.ai d.body),lo Tm.encI (Tm.aj d.body),lo Tm.aa (Tm.kids d.body)])] ?_;have gO:(aP (Int.ofNat (d.ps.map Pm.aa).length) (Int.ofNat (d.ps.map Pm.aa).length))=true:=mi;refine CG.ao (b:=(!aP (Int.ofNat (d.ps.map Pm.aa).length) (Int.ofNat (d.ps.map Pm.aa).length))) (by rw[gO];rfl) k_ ?_;refine s1 hW 7 0 [] 7 [(5,i0)] ?_;rotate_left;have ij:True:=trivial;refine CG.bh d.ps (fun j v=>[(2,.ptr 0 17 0),(3,.ptr 1 17 0),(4,bF),(5,.d (.int .i64 (.ofNat j)))]) (fun j v=>[some (.cells [so d.name,io d.line,lo Pm.aa d.ps,bo d.given,so d.res.elem,so d.res.row,lo aq.aa d.res.az,io (Tm.kind d.body),io (Tm.line d.body),so (Tm.name d.body),io (Tm.num d.body),so (Tm.ae d.body),lo Tm.encI (Tm.ad d.body),lo Tm.encI (Tm.av d.body),lo aq.aa (Tm.ai d.body),lo Tm.encI (Tm.aj d.body),lo Tm.aa (Tm.kids d.body)]),some (.cells [so d.name,io d.line,lo Pm.aa d.ps,bo d.given,so d.res.elem,so d.res.row,lo aq.aa d.res.az,io (Tm.kind d.body),io (Tm.line d.body),so (Tm.name d.body),io (Tm.num d.body),so (Tm.ae d.body),lo Tm.encI (Tm.ad d.body),lo Tm.encI (Tm.av d.body),lo aq.aa (Tm.ai d.body),lo Tm.encI (Tm.aj d.body),lo Tm.aa (Tm.kids d.body)])]) (fun j v s=>(True)) () ?_ (ax.rC k_) ?_ ?_
 ·trivial
 ·intro j v hj FY mr;refine s1 hW 4 0 [] 15 [(17,bo (aI (Int.ofNat j) (Int.ofNat (d.ps.map Pm.aa).length)))] ?_;refine CG.ao (fp j (d.ps.map Pm.aa).length) k_ ?_;refine CG.aX (by decide) ?_;refine s1 hW 3 6 [] 7 [(37,bo (ah d.name d.name))] ?_;rw[e1];refine s1 hW 0 7 [] 7 [(44,bo (aP d.line d.line))] ?_;have jk:(aP d.line d.line)=true:=mi;rw[jk];refine s1 hW 0 7 [] 7 [(51,bo (Df.given d==Df.given d))] ?_;rw[e2];refine s1 hW 0 4 [] 15 [(53,.agg d.res.ce),(55,.agg d.res.ce)] ?_;refine CG.pg (h3) rfl k_ ?_;refine s1 hW 0 6 [] 4 [(58,bT),(60,.agg [io (Tm.kind d.body),io (Tm.line d.body),so (Tm.name d.body),io (Tm.num d.body),so (Tm.ae d.body),lo Tm.encI (Tm.ad d.body),lo Tm.encI (Tm.av d.body),lo aq.aa (Tm.ai d.body),lo Tm.encI (Tm.aj d.body),lo Tm.aa (Tm.kids d.body)]),(62,.agg [io (Tm.kind d.body),io (Tm.line d.body),so (Tm.name d.body),io (Tm.num d.body),so (Tm.ae d.body),lo Tm.encI (Tm.ad d.body),lo Tm.encI (Tm.av d.body),lo aq.aa (Tm.ai d.body),lo Tm.encI (Tm.aj d.body),lo Tm.aa (Tm.kids d.body)])] ?_;refine CG.pg (h4) rfl k_ ?_;refine s1 hW 2 0 [] 0 [(4,bT)] ?_;refine CG.rt (bT) ?_;with_reducible rfl
 ·intro j v y s FY hy FZ mr;have hx:=(JN y (aat hy)).2;have h5:=IT hW y hx.2.2.1 (fun x nb=>(hx.2.2.2 x nb).1);refine s1 hW 4 0 [] 15 [(17,bo (aI (Int.ofNat j) (Int.ofNat (d.ps.map Pm.aa).length)))] ?_;refine CG.ay (eV j (d.ps.map Pm.aa).length) k_ ?_;refine s1 hW 5 0 [] 15 [] ?_;refine CG.iy bC k_ k_ ?_;refine AO.rd 3 [(20,.ptr 0 17 2),(21,lo Pm.aa d.ps),(22,no j)] k_ ?_;refine AO.idx (aG (aa:=Pm.aa) hy) rfl k_ k_ k_ rfl ?_;refine AO.rd 4 [(24,.agg [so y.name,bo y.given,so y.ty.elem,so y.ty.row,lo aq.aa y.ty.az]),(25,.ptr 1 17 2),(26,lo Pm.aa d.ps),(27,no j)] k_ ?_;refine AO.idx (aG (aa:=Pm.aa) hy) rfl k_ k_ k_ rfl ?_;refine AO.rd 1 [(29,.agg [so y.name,bo y.given,so y.ty.elem,so y.ty.row,lo aq.aa y.ty.az])] k_ ?_;refine AO.od h5 rfl k_ k_ ?_;refine AO.rd 1 [(31,bF)] k_ ?_;refine AO.done [2,3,4,5,31] rfl rfl k_ ?_;refine s3 hW 5 3 [false] [(2,.ptr 0 17 0),(3,.ptr 1 17 0),(4,bF),(5,io (aW IntKind.i64 (bJ (Int.ofNat j) 1)))] ([some (.cells [so d.name,io d.line,lo Pm.aa d.ps,bo d.given,so d.res.elem,so d.res.row,lo aq.aa d.res.az,io (Tm.kind d.body),io (Tm.line d.body),so (Tm.name d.body),io (Tm.num d.body),so (Tm.ae d.body),lo Tm.encI (Tm.ad d.body),lo Tm.encI (Tm.av d.body),lo aq.aa (Tm.ai d.body),lo Tm.encI (Tm.aj d.body),lo Tm.aa (Tm.kids d.body)]),some (.cells [so d.name,io d.line,lo Pm.aa d.ps,bo d.given,so d.res.elem,so d.res.row,lo aq.aa d.res.az,io (Tm.kind d.body),io (Tm.line d.body),so (Tm.name d.body),io (Tm.num d.body),so (Tm.ae d.body),lo Tm.encI (Tm.ad d.body),lo Tm.encI (Tm.av d.body),lo aq.aa (Tm.ai d.body),lo Tm.encI (Tm.aj d.body),lo Tm.aa (Tm.kids d.body)])]) ?_;refine CG.fu rfl ?_;rw[bf (by omega)];rotate_left;exact⟨(),trivial,ax.refl _ _⟩
end Fw.Tz.Es
