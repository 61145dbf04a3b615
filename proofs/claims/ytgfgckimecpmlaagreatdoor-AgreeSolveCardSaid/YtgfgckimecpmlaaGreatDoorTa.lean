/-
  The library's functions of this program, as calls that touch nothing.
-/
import Derived.Test.YtgfgckimecpmlaaGreatDoorFe
import Derived.Test.YtgfgckimecpmlaaGreatDoorShelf
import Derived.Test.YtgfgckimecpmlaaGreatDoorIr
set_option linter.unusedSimpArgs false
set_option maxRecDepth 100000
set_option linter.unusedVariables false
namespace Fw.Tz
open Go Go.Proofs Go.RowKit Go.Lib
noncomputable abbrev P:Program:=Tryz.prog
structure W0 (W:World):Prop where
 size:6<W.heap.size
 maxLen:∃m,W.cell? ⟨2,0,none⟩=some (.int .i64 m)
 RE:Lib.TabIs Tryz.prog W "internal/strconv.uint64pow10" .u64 Lib.pow10Tab
 Xw:∃ev,W.cell? ⟨4,0,none⟩=some ev/\(ev=.nilIface\/∃te pe,ev=.iface te pe)
 rng:∃ev,W.cell? ⟨5,0,none⟩=some ev/\(ev=.nilIface\/∃te pe,ev=.iface te pe)
def gl(W:World):ch:=⟨fun _=>none,W⟩
section
variable {W:World}
variable {w:World}{g:G}
theorem pT(hg:gW (gl W) g w){k o:Nat}(hk:k<W.heap.size):w.cell? ⟨k,o,none⟩=W.cell? ⟨k,o,none⟩:=by have:=(hg.w0 k hk).2;simp only[gl]at this;simp[World.cell?,this]
theorem N_{name:String}{n:Nat}(hn:Tryz.prog.globalNamed name=some n){w':World}(h:w.heap[n]? =w'.heap[n]? ):w.var? Tryz.prog name=w'.var? Tryz.prog name:=by simp only[World.var?,hn,Option.bind_some,h]
theorem FP(hg:gW (gl W) g w){name:String}{n:Nat}(hn:Tryz.prog.globalNamed name=some n)(hk:n<W.heap.size):w.var? Tryz.prog name=W.var? Tryz.prog name:=N_ hn (hg.w0 n hk).2
theorem Ih(hW:W0 W)(hg:gW (gl W) g w):Lib.TabIs Tryz.prog w "internal/strconv.uint64pow10" .u64 Lib.pow10Tab:=by unfold Lib.TabIs;rw[FP hg (n:=3) k_ (by have:=hW.size;omega)];exact hW.RE
theorem xK(hW:W0 W)(hg:gW (gl W) g w):∃m,w.cell? ⟨2,0,none⟩=some (.int .i64 m):=by obtain⟨m,hm⟩:=hW.maxLen;exact⟨m,by rw[pT hg (by have:=hW.size;omega)];exact hm⟩
theorem Xx:ak P 172=true:=k_
theorem Xy:ak P 275=true:=k_
theorem Xz:ak P 161=true:=k_
theorem XA:ak P 235=true:=k_
theorem c167:ak P 167=true:=k_
theorem XB:ak P 160=true:=k_
theorem XC:ak P 163=true:=k_
theorem RF:ak P 273=true:=k_
theorem XD:ak P 271=true:=k_
theorem XE:ak P 107=true:=k_
theorem c173:ak P 173=true:=k_
theorem A1(s p:List UInt8):PC P (gl W) 172 [.d (.str s),.d (.str p)] (.d (.bool (Lib.hasPrefix s p))):=by
 refine PC.fv Xx fun g w vs dU hg=>?_
 obtain⟨x,y,rfl,h1,h2⟩:=dU.gR;obtain⟨b,rfl,rfl⟩:=h1.df;obtain⟨c,rfl,rfl⟩:=h2.df;refine(Tryz.strings_HasPrefix b c w).mono ?_;rintro e w' ⟨rfl,rfl⟩;exact⟨_,rfl,Below.refl _ _,fun _ _=>RV.E6 _⟩
theorem yT(s p:List UInt8)(hs:s.length<=9223372036854775807):PC P (gl W) 275 [.d (.str s),.d (.str p)] (.d (.str (Lib.trimSuffix s p))):=by
 refine PC.fv Xy fun g w vs dU hg=>?_
 obtain⟨x,y,rfl,h1,h2⟩:=dU.gR;obtain⟨b,rfl,rfl⟩:=h1.df;obtain⟨c,rfl,rfl⟩:=h2.df;refine(Tryz.strings_TrimSuffix b c w (by rw[Lib.size_eq];exact hs)).mono ?_;rintro e w' ⟨rfl,rfl⟩;exact⟨_,rfl,Below.refl _ _,fun _ _=>RV.np _⟩
theorem A2(s p:List UInt8):PC P (gl W) 161 [.d (.str s),.d (.str p)] (.tuple [.d (.str (Lib.trimPrefix s p)),.d (.bool (Lib.hasPrefix s p))]):=by
 refine PC.fv Xz fun g w vs dU hg=>?_
 obtain⟨x,y,rfl,h1,h2⟩:=dU.gR;obtain⟨b,rfl,rfl⟩:=h1.df;obtain⟨c,rfl,rfl⟩:=h2.df;refine(Tryz.strings_CutPrefix b c w).mono ?_;rintro e w' ⟨rfl,rfl⟩;refine⟨_,rfl,Below.refl _ _,fun _ _=>?_ ⟩;simp only[RV];exact⟨_,rfl,RV.np _,RV.E6 _,trivial⟩
theorem A3(s p:List UInt8)(hs:s.length<=9223372036854775807):PC P (gl W) 235 [.d (.str s),.d (.str p)] (.tuple [.d (.str (Lib.trimSuffix s p)),.d (.bool (Lib.hasSuffix s p))]):=by
 refine PC.fv XA fun g w vs dU hg=>?_
 obtain⟨x,y,rfl,h1,h2⟩:=dU.gR;obtain⟨b,rfl,rfl⟩:=h1.df;obtain⟨c,rfl,rfl⟩:=h2.df;refine(Tryz.strings_CutSuffix b c w (by rw[Lib.size_eq];exact hs)).mono ?_;rintro e w' ⟨rfl,rfl⟩;refine⟨_,rfl,Below.refl _ _,fun _ _=>?_ ⟩;simp only[RV];exact⟨_,rfl,RV.np _,RV.E6 _,trivial⟩
theorem A4(s:List UInt8)(c:Int):PC P (gl W) 167 [.d (.str s),.d (.int .u8 c)] (.d (.int .i64 (Lib.indexByte s c.toNat.toUInt8))):=by
 refine PC.fv c167 fun g w vs dU hg=>?_
 obtain⟨x,y,rfl,h1,h2⟩:=dU.gR;obtain⟨b,rfl,rfl⟩:=h1.df;obtain rfl:=h2.DV;refine(Tryz.strings_IndexByte b c w).mono ?_;rintro e w' ⟨rfl,rfl⟩;exact⟨_,rfl,Below.refl _ _,fun _ _=>RV.Cl _ _⟩
theorem RG(hW:W0 W)(s p:List UInt8)(hs:s.length<4294967281):PC P (gl W) 160 [.d (.str s),.d (.str p)] (.tuple [.d (.str (Lib.cut s p).1),.d (.str (Lib.cut s p).2.1),.d (.bool (Lib.cut s p).2.2)]):=by
 refine PC.fv XB fun g w vs dU hg=>?_
 obtain⟨x,y,rfl,h1,h2⟩:=dU.gR;obtain⟨b,rfl,rfl⟩:=h1.df;obtain⟨c,rfl,rfl⟩:=h2.df;obtain⟨m,hm⟩:=xK hW hg;refine(Tryz.strings_Cut b c m w (by rw[Lib.size_eq];exact hs) hm).mono ?_;rintro e w' ⟨rfl,n,rfl⟩;refine⟨_,rfl,Below.DS w n,fun _ _=>?_ ⟩;simp only[RV,aT];exact⟨_,rfl,RV.np _,RV.np _,RV.E6 _,trivial⟩
theorem vz(sep:ByteArray)(h1:1<=sep.size):∀(n:Nat)(s:ByteArray),Lib.countB s sep=n->(Lib.splitB sep 0 n s).length=n+1
 |0,_,_=>rfl
 |n+1,s,h=>by
  rcases Lib.indexB_cases s sep with PE|⟨i,PE,_⟩
  ·rw[Lib.countB_miss s sep PE]at h;omega
  ·have:=Lib.countB_hit s sep i h1 PE;rw[Lib.splitB_hit sep 0 n s i PE,aaR,vz sep h1 n _ (by omega)]
theorem K9(hW:W0 W)(s p:List UInt8)(hs:s.length<4294967281)(hp:1<=p.length):PC P (gl W) 163 [.d (.str s),.d (.str p)] (.d (qJ (Lib.split s p))):=by
 refine PC.fv XC fun g w vs dU hg=>?_
 obtain⟨x,y,rfl,h1,h2⟩:=dU.gR;obtain⟨b,rfl,rfl⟩:=h1.df;obtain⟨c,rfl,rfl⟩:=h2.df;obtain⟨m,hm⟩:=xK hW hg;refine(Tryz.strings_Split b c m w (by rw[Lib.size_eq];exact hs) hm (by rw[Lib.size_eq];exact hp)).mono ?_;rintro e w' ⟨rfl,rfl⟩;refine⟨_,rfl,(Below.refl _ _).alloc (aaP _) _,fun _ He=>?_ ⟩;have:=RV.HB (g:=g) (w:=w) (Lib.splitB c 0 (Lib.countB b c) b) 9 (0,0) (Lib.countB b c+1) (vz c (by rw[Lib.size_eq];exact hp) _ b rfl).symm (He _ (aaP _) (by simp));rw[Lib.splitB_data]at this;exact this
theorem Oa(l:List (List UInt8))(p:List UInt8)(hl:l.length<=140737488355328)(hlen:(Lib.join l p).length<=140737488355328):PC P (gl W) 273 [.d (qJ l),.d (.str p)] (.d (.str (Lib.join l p))):=by
 refine PC.fv RF fun g w vs dU hg=>?_
 obtain⟨x,y,rfl,h1,h2⟩:=dU.gR;obtain⟨c,rfl,rfl⟩:=h2.df;rcases h1.HA with⟨rfl,a,cc,rfl⟩|⟨aU,off,cap,xs,fq,rfl,Kc,Kf,rfl,hc⟩
 ·refine(Tryz.strings_Join_none a cc c w).mono ?_;rintro e w' ⟨rfl,rfl⟩;exact⟨_,rfl,Below.refl _ _,fun _ _=>by simp[RV,Rd,Lib.join]⟩
 ·refine(Tryz.strings_Join aU off cap xs c w hc Kf (by simpa using hl) Kc hlen).mono ?_;rintro e w' ⟨rfl,hb⟩;exact⟨_,rfl,hb,fun _ _=>RV.np _⟩
theorem K_(p:List UInt8):PC P (gl W) 273 [.ad,.d (.str p)] (.d (.str [])):=by
 refine PC.fv RF fun g w vs dU hg=>?_
 obtain⟨x,y,rfl,h1,h2⟩:=dU.gR;obtain⟨c,rfl,rfl⟩:=h2.df;simp only[RV]at h1;subst h1;refine(Tryz.strings_Join_none _ 0 c w).mono ?_;rintro e w' ⟨rfl,rfl⟩;exact⟨_,rfl,Below.refl _ _,fun _ _=>by simp[RV,Rd]⟩
theorem C4(s:List UInt8)(c:UInt8)(hc:c.toNat<128):PC P (gl W) 271 [.d (.str s),.d (.str [c])] (.d (.str (Lib.trimLeftB s c))):=by
 refine PC.fv XD fun g w vs dU hg=>?_
 obtain⟨x,y,rfl,h1,h2⟩:=dU.gR;obtain⟨b,rfl,rfl⟩:=h1.df;obtain⟨q,rfl,hq⟩:=h2.df;obtain rfl:q=⟨#[c]⟩:=by apply ByteArray.ext;exact abt.1 (by simpa using hq)
 refine(Tryz.strings_TrimLeft_one b c hc w).mono ?_;rintro e w' ⟨rfl,rfl⟩;exact⟨_,rfl,Below.refl _ _,fun _ _=>RV.np _⟩
theorem C5(hW:W0 W)(n:Int)(h0: -9223372036854775808<=n)(h1:n<=9223372036854775807):PC P (gl W) 107 [.d (.int .i64 n)] (.d (.str (Lib.itoa n))):=by
 refine PC.fv XE fun g w vs dU hg=>?_
 obtain⟨x,rfl,k1⟩:=dU.DU;obtain rfl:=k1.DV;refine(Tryz.strconv_Itoa n h0 h1 w (Ih hW hg)).mono ?_;rintro e w' ⟨rfl,k,os,rfl⟩;exact⟨_,rfl,Below.NI (Below.DS w k) os,fun _ _=>RV.np _⟩
def Ek(s:List UInt8):V:=match Lib.atoiAll s with
 | .ok v=>.tuple [.d (.int .i64 v),.gm]
 | .range=>.tuple [.d (.int .i64 (Lib.atoiSat s)),.bN]
 | _=>.tuple [.d (.int .i64 0),.bN]
theorem Ii(hW:W0 W)(s:List UInt8)(hs:s.length<=281474976710656):PC P (gl W) 173 [.d (.str s)] (Ek s):=by
 refine PC.fv c173 fun g w vs dU hg=>?_
 obtain⟨x,rfl,k1⟩:=dU.DU;obtain⟨b,rfl,rfl⟩:=k1.df;have cK:b.size<=281474976710656:=by rw[Lib.size_eq];exact hs
 unfold Ek;rcases hA:Lib.atoiAll b.data.toList with v|_|_
 ·refine(Tryz.strconv_Atoi_ok b (by omega) v hA w).mono ?_;rintro e w' ⟨rfl,hw⟩;refine⟨_,rfl,?_,fun _ _=>?_ ⟩
  ·rcases hw with rfl|⟨t,rfl⟩
   ·exact Below.refl _ _
   ·exact Lib.bytesWorld_below _ _ _
  ·simp only[RV,aT];exact⟨_,rfl,RV.Cl _ _,rfl,trivial⟩
 ·obtain⟨ev,Kg,DG⟩:=hW.Xw;refine(Tryz.strconv_Atoi_syntax b cK hA ev w (by rw[pT hg (by have:=hW.size;omega)];exact Kg) DG).mono ?_;rintro e w' ⟨N,rfl,hN,_,hb⟩;refine⟨_,rfl,hb,fun _ _=>?_ ⟩;simp only[RV,aT];exact⟨_,rfl,RV.Cl _ _,⟨_,_,rfl⟩,trivial⟩
 ·obtain⟨ev,Kg,DG⟩:=hW.rng;refine(Tryz.strconv_Atoi_range b cK hA ev w (by rw[pT hg (by have:=hW.size;omega)];exact Kg) DG).mono ?_;rintro e w' ⟨N,rfl,hN,_,hb⟩;refine⟨_,rfl,hb,fun _ _=>?_ ⟩;simp only[RV,aT];exact⟨_,rfl,RV.Cl _ _,⟨_,_,rfl⟩,trivial⟩
end
end Fw.Tz
/-
  slices.Sort of an own row of strings.
-/
namespace Fw.Tz
open Go Go.Proofs Go.RowKit Go.Sort
def Mx(l:List (List UInt8)):List (List UInt8):=l.mergeSort fun x y=>decide (x<=y)
variable {W:World}
end Fw.Tz
/-
  linear.sum.result: the terms of a sum, in order.
-/
namespace Fw.Tz
open Go Go.Proofs Fw.X
variable {W:World}
abbrev Es:=List (List UInt8×Int)
def esM(es:Es):List (D×V):=es.map fun e=>(.str e.1,.d (.int .i64 e.2))
def nm(es:Es)(i:Nat):Option (List UInt8):=match es[i]? with
 |some (k,c)=>if c=0 then none else some k
 |none=>none
def cq(es:Es)(k:List UInt8):Int:=((es.find? fun e=>e.1==k).map (·.2)).getD 0
def fM(es:Es):List (List UInt8):=(es.filter fun e=>decide (e.2≠0)).map (·.1)
def A5(es:Es):Es:=(Mx (fM es)).map fun k=>(k,cq es k)
end Fw.Tz
