/-
  The library's functions of this program, as calls that touch nothing.
-/
import Derived.Test.YtgfgckimecpmlaaGreatDoorFe
import Derived.Test.YtgfgckimecpmlaaGreatDoorShelf
import Derived.Test.YtgfgckimecpmlaaGreatDoorIr
set_option linter.unusedSimpArgs false
set_option maxRecDepth 100000
set_option linter.unusedVariables false
namespace Fw.Tz
open Go Go.Proofs Go.RowKit Go.Lib
noncomputable abbrev P:Program:=Tryz.prog
structure W0 (W:World):Prop where
 size:6<W.heap.size
 maxLen:∃m,W.cell? ⟨2,0,none⟩=some (.int .i64 m)
 Sn:Lib.TabIs Tryz.prog W "internal/strconv.uint64pow10" .u64 Lib.pow10Tab
 Xl:∃ev,W.cell? ⟨4,0,none⟩=some ev∧(ev=.nilIface∨∃te pe,ev=.iface te pe)
 rng:∃ev,W.cell? ⟨5,0,none⟩=some ev∧(ev=.nilIface∨∃te pe,ev=.iface te pe)
def gl(W:World):cj:=⟨fun _=>none,W⟩
section
variable {W:World}
theorem o6{g:G}{w:World}(hg:gn (gl W) g w){k o:Nat}(hk:k<W.heap.size):w.cell? ⟨k,o,none⟩=W.cell? ⟨k,o,none⟩:=by have:=(hg.w0 k hk).2;simp only[gl]at this;simp[World.cell?,this]
theorem O0{name:String}{n:Nat}(hn:Tryz.prog.globalNamed name=some n){w w':World}(h:w.heap[n]? =w'.heap[n]? ):w.var? Tryz.prog name=w'.var? Tryz.prog name:=by simp only[World.var?,hn,Option.bind_some,h]
theorem v_{g:G}{w:World}(hg:gn (gl W) g w){name:String}{n:Nat}(hn:Tryz.prog.globalNamed name=some n)(hk:n<W.heap.size):w.var? Tryz.prog name=W.var? Tryz.prog name:=O0 hn (hg.w0 n hk).2
theorem Io(hW:W0 W)(hA:Lib.TabIs Tryz.prog W "strings.asciiSpace" .u8 Lib.asciiSpaceTab){g:G}{w:World}(hg:gn (gl W) g w):Lib.TabIs Tryz.prog w "strings.asciiSpace" .u8 Lib.asciiSpaceTab:=by unfold Lib.TabIs;rw[v_ hg (n:=0) k_ (by have:=hW.size;omega)];exact hA
theorem Ip(hW:W0 W){g:G}{w:World}(hg:gn (gl W) g w):Lib.TabIs Tryz.prog w "internal/strconv.uint64pow10" .u64 Lib.pow10Tab:=by unfold Lib.TabIs;rw[v_ hg (n:=3) k_ (by have:=hW.size;omega)];exact hW.Sn
theorem wa(hW:W0 W){g:G}{w:World}(hg:gn (gl W) g w):∃m,w.cell? ⟨2,0,none⟩=some (.int .i64 m):=by obtain⟨m,hm⟩:=hW.maxLen;exact⟨m,by rw[o6 hg (by have:=hW.size;omega)];exact hm⟩
theorem Xm:ao P 172=true:=k_
theorem Xn:ao P 275=true:=k_
theorem Xo:ao P 161=true:=k_
theorem Xp:ao P 235=true:=k_
theorem c167:ao P 167=true:=k_
theorem Xq:ao P 160=true:=k_
theorem Xr:ao P 101=true:=k_
theorem Xs:ao P 163=true:=k_
theorem Sp:ao P 273=true:=k_
theorem Xt:ao P 271=true:=k_
theorem Xu:ao P 107=true:=k_
theorem c173:ao P 173=true:=k_
theorem Xv:ao P 104=true:=k_
theorem zY(s p:List UInt8):PC P (gl W) 172 [.d (.str s),.d (.str p)] (.d (.bool (Lib.hasPrefix s p))):=by
 refine PC.fh Xm fun g w vs dX hg=>?_
 obtain⟨x,y,rfl,h1,h2⟩:=dX.iz;obtain⟨b,rfl,rfl⟩:=h1.cX;obtain⟨c,rfl,rfl⟩:=h2.cX;refine(Tryz.strings_HasPrefix b c w).mono ?_;rintro e w' ⟨rfl,rfl⟩;exact⟨_,rfl,Below.refl _ _,fun _ _=>RV.Ee _⟩
theorem xI(s p:List UInt8)(hs:s.length≤9223372036854775807):PC P (gl W) 275 [.d (.str s),.d (.str p)] (.d (.str (Lib.trimSuffix s p))):=by
 refine PC.fh Xn fun g w vs dX hg=>?_
 obtain⟨x,y,rfl,h1,h2⟩:=dX.iz;obtain⟨b,rfl,rfl⟩:=h1.cX;obtain⟨c,rfl,rfl⟩:=h2.cX;refine(Tryz.strings_TrimSuffix b c w (by rw[Lib.size_eq];exact hs)).mono ?_;rintro e w' ⟨rfl,rfl⟩;exact⟨_,rfl,Below.refl _ _,fun _ _=>RV.mL _⟩
theorem zZ(s p:List UInt8):PC P (gl W) 161 [.d (.str s),.d (.str p)] (.tuple [.d (.str (Lib.trimPrefix s p)),.d (.bool (Lib.hasPrefix s p))]):=by
 refine PC.fh Xo fun g w vs dX hg=>?_
 obtain⟨x,y,rfl,h1,h2⟩:=dX.iz;obtain⟨b,rfl,rfl⟩:=h1.cX;obtain⟨c,rfl,rfl⟩:=h2.cX;refine(Tryz.strings_CutPrefix b c w).mono ?_;rintro e w' ⟨rfl,rfl⟩;refine⟨_,rfl,Below.refl _ _,fun _ _=>?_ ⟩;simp only[RV];exact⟨_,rfl,RV.mL _,RV.Ee _,trivial⟩
theorem z6(s p:List UInt8)(hs:s.length≤9223372036854775807):PC P (gl W) 235 [.d (.str s),.d (.str p)] (.tuple [.d (.str (Lib.trimSuffix s p)),.d (.bool (Lib.hasSuffix s p))]):=by
 refine PC.fh Xp fun g w vs dX hg=>?_
 obtain⟨x,y,rfl,h1,h2⟩:=dX.iz;obtain⟨b,rfl,rfl⟩:=h1.cX;obtain⟨c,rfl,rfl⟩:=h2.cX;refine(Tryz.strings_CutSuffix b c w (by rw[Lib.size_eq];exact hs)).mono ?_;rintro e w' ⟨rfl,rfl⟩;refine⟨_,rfl,Below.refl _ _,fun _ _=>?_ ⟩;simp only[RV];exact⟨_,rfl,RV.mL _,RV.Ee _,trivial⟩
theorem z7(s:List UInt8)(c:Int):PC P (gl W) 167 [.d (.str s),.d (.int .u8 c)] (.d (.int .i64 (Lib.indexByte s c.toNat.toUInt8))):=by
 refine PC.fh c167 fun g w vs dX hg=>?_
 obtain⟨x,y,rfl,h1,h2⟩:=dX.iz;obtain⟨b,rfl,rfl⟩:=h1.cX;obtain rfl:=h2.Df;refine(Tryz.strings_IndexByte b c w).mono ?_;rintro e w' ⟨rfl,rfl⟩;exact⟨_,rfl,Below.refl _ _,fun _ _=>RV.A4 _ _⟩
theorem Sq(hW:W0 W)(s p:List UInt8)(hs:s.length<4294967281):PC P (gl W) 160 [.d (.str s),.d (.str p)] (.tuple [.d (.str (Lib.cut s p).1),.d (.str (Lib.cut s p).2.1),.d (.bool (Lib.cut s p).2.2)]):=by
 refine PC.fh Xq fun g w vs dX hg=>?_
 obtain⟨x,y,rfl,h1,h2⟩:=dX.iz;obtain⟨b,rfl,rfl⟩:=h1.cX;obtain⟨c,rfl,rfl⟩:=h2.cX;obtain⟨m,hm⟩:=wa hW hg;refine(Tryz.strings_Cut b c m w (by rw[Lib.size_eq];exact hs) hm).mono ?_;rintro e w' ⟨rfl,n,rfl⟩;refine⟨_,rfl,Below.Dd w n,fun _ _=>?_ ⟩;simp only[RV,aV];exact⟨_,rfl,RV.mL _,RV.mL _,RV.Ee _,trivial⟩
theorem t_(sep:ByteArray)(h1:1≤sep.size):∀(n:Nat)(s:ByteArray),Lib.countB s sep=n→(Lib.splitB sep 0 n s).length=n+1
 |0,_,_=>rfl
 |n+1,s,h=>by
  rcases Lib.indexB_cases s sep with Qk|⟨i,Qk,_⟩
  ·rw[Lib.countB_miss s sep Qk]at h;omega
  ·have:=Lib.countB_hit s sep i h1 Qk;rw[Lib.splitB_hit sep 0 n s i Qk,aaS,t_ sep h1 n _ (by omega)]
theorem Lr(hW:W0 W)(s p:List UInt8)(hs:s.length<4294967281)(hp:1≤p.length):PC P (gl W) 163 [.d (.str s),.d (.str p)] (.d (dy (Lib.split s p))):=by
 refine PC.fh Xs fun g w vs dX hg=>?_
 obtain⟨x,y,rfl,h1,h2⟩:=dX.iz;obtain⟨b,rfl,rfl⟩:=h1.cX;obtain⟨c,rfl,rfl⟩:=h2.cX;obtain⟨m,hm⟩:=wa hW hg;refine(Tryz.strings_Split b c m w (by rw[Lib.size_eq];exact hs) hm (by rw[Lib.size_eq];exact hp)).mono ?_;rintro e w' ⟨rfl,rfl⟩;refine⟨_,rfl,(Below.refl _ _).alloc (aaQ _) _,fun _ Bj=>?_ ⟩;have:=RV.zf (g:=g) (w:=w) (Lib.splitB c 0 (Lib.countB b c) b) 9 (0,0) (Lib.countB b c+1) (t_ c (by rw[Lib.size_eq];exact hp) _ b rfl).symm (Bj _ (aaQ _) (by simp));rw[Lib.splitB_data]at this;exact this
theorem z8(hW:W0 W)(hA:Lib.TabIs Tryz.prog W "strings.asciiSpace" .u8 Lib.asciiSpaceTab)(s:List UInt8)(hs:s.length<4294967281)(ha:∀(j:Nat) b,s[j]? =some b→b.toNat<128):PC P (gl W) 101 [.d (.str s)] (.d (dy (Lib.fields s))):=by
 refine PC.fh Xr fun g w vs dX hg=>?_
 obtain⟨x,rfl,h1⟩:=dX.sJ;obtain⟨b,rfl,rfl⟩:=h1.cX;refine(Tryz.strings_Fields b w (by rw[Lib.size_eq];exact hs) ha (Io hW hA hg)).mono ?_;rintro e w' ⟨rfl,rfl⟩;refine⟨_,rfl,(Below.refl _ _).alloc (aaQ _) _,fun _ Bj=>?_ ⟩;have:=RV.zf (g:=g) (w:=w) ((Lib.fields b.data.toList).map fun l=>⟨l.toArray⟩) 9 (0,0) (Lib.fields b.data.toList).length (by simp) (by simpa[abh]using Bj _ (aaQ _) (by simp));simpa[abh]using this
theorem O1(l:List (List UInt8))(p:List UInt8)(hl:l.length≤140737488355328)(hlen:(Lib.join l p).length≤140737488355328):PC P (gl W) 273 [.d (dy l),.d (.str p)] (.d (.str (Lib.join l p))):=by
 refine PC.fh Sp fun g w vs dX hg=>?_
 obtain⟨x,y,rfl,h1,h2⟩:=dX.iz;obtain⟨c,rfl,rfl⟩:=h2.cX;rcases h1.HA with⟨rfl,a,cc,rfl⟩|⟨aT,off,cap,xs,et,rfl,Hc,w8,rfl,hc⟩
 ·refine(Tryz.strings_Join_none a cc c w).mono ?_;rintro e w' ⟨rfl,rfl⟩;exact⟨_,rfl,Below.refl _ _,fun _ _=>by simp[RV,Rd,Lib.join]⟩
 ·refine(Tryz.strings_Join aT off cap xs c w hc w8 (by simpa using hl) Hc hlen).mono ?_;rintro e w' ⟨rfl,hb⟩;exact⟨_,rfl,hb,fun _ _=>RV.mL _⟩
theorem Ls(p:List UInt8):PC P (gl W) 273 [.ab,.d (.str p)] (.d (.str [])):=by
 refine PC.fh Sp fun g w vs dX hg=>?_
 obtain⟨x,y,rfl,h1,h2⟩:=dX.iz;obtain⟨c,rfl,rfl⟩:=h2.cX;simp only[RV]at h1;subst h1;refine(Tryz.strings_Join_none _ 0 c w).mono ?_;rintro e w' ⟨rfl,rfl⟩;exact⟨_,rfl,Below.refl _ _,fun _ _=>by simp[RV,Rd]⟩
theorem BW(s:List UInt8)(c:UInt8)(hc:c.toNat<128):PC P (gl W) 271 [.d (.str s),.d (.str [c])] (.d (.str (Lib.trimLeftB s c))):=by
 refine PC.fh Xt fun g w vs dX hg=>?_
 obtain⟨x,y,rfl,h1,h2⟩:=dX.iz;obtain⟨b,rfl,rfl⟩:=h1.cX;obtain⟨q,rfl,hq⟩:=h2.cX;obtain rfl:q=⟨#[c]⟩:=by apply ByteArray.ext;exact abL.1 (by simpa using hq)
 refine(Tryz.strings_TrimLeft_one b c hc w).mono ?_;rintro e w' ⟨rfl,rfl⟩;exact⟨_,rfl,Below.refl _ _,fun _ _=>RV.mL _⟩
theorem BX(hW:W0 W)(n:Int)(h0: -9223372036854775808≤n)(h1:n≤9223372036854775807):PC P (gl W) 107 [.d (.int .i64 n)] (.d (.str (Lib.itoa n))):=by
 refine PC.fh Xu fun g w vs dX hg=>?_
 obtain⟨x,rfl,k1⟩:=dX.sJ;obtain rfl:=k1.Df;refine(Tryz.strconv_Itoa n h0 h1 w (Ip hW hg)).mono ?_;rintro e w' ⟨rfl,k,os,rfl⟩;exact⟨_,rfl,Below.N' (Below.Dd w k) os,fun _ _=>RV.mL _⟩
def DF(s:List UInt8):V:=match Lib.atoiAll s with
 | .ok v=>.tuple [.d (.int .i64 v),.gX]
 | .range=>.tuple [.d (.int .i64 (Lib.atoiSat s)),.cd]
 | _=>.tuple [.d (.int .i64 0),.cd]
theorem Iq(hW:W0 W)(s:List UInt8)(hs:s.length≤281474976710656):PC P (gl W) 173 [.d (.str s)] (DF s):=by
 refine PC.fh c173 fun g w vs dX hg=>?_
 obtain⟨x,rfl,k1⟩:=dX.sJ;obtain⟨b,rfl,rfl⟩:=k1.cX;have cB:b.size≤281474976710656:=by rw[Lib.size_eq];exact hs
 unfold DF;rcases hA:Lib.atoiAll b.data.toList with v|_|_
 ·refine(Tryz.strconv_Atoi_ok b (by omega) v hA w).mono ?_;rintro e w' ⟨rfl,hw⟩;refine⟨_,rfl,?_,fun _ _=>?_ ⟩
  ·rcases hw with rfl|⟨t,rfl⟩
   ·exact Below.refl _ _
   ·exact Lib.bytesWorld_below _ _ _
  ·simp only[RV,aV];exact⟨_,rfl,RV.A4 _ _,rfl,trivial⟩
 ·obtain⟨ev,vD,sy⟩:=hW.Xl;refine(Tryz.strconv_Atoi_syntax b cB hA ev w (by rw[o6 hg (by have:=hW.size;omega)];exact vD) sy).mono ?_;rintro e w' ⟨N,rfl,hN,_,hb⟩;refine⟨_,rfl,hb,fun _ _=>?_ ⟩;simp only[RV,aV];exact⟨_,rfl,RV.A4 _ _,⟨_,_,rfl⟩,trivial⟩
 ·obtain⟨ev,vD,sy⟩:=hW.rng;refine(Tryz.strconv_Atoi_range b cB hA ev w (by rw[o6 hg (by have:=hW.size;omega)];exact vD) sy).mono ?_;rintro e w' ⟨N,rfl,hN,_,hb⟩;refine⟨_,rfl,hb,fun _ _=>?_ ⟩;simp only[RV,aV];exact⟨_,rfl,RV.A4 _ _,⟨_,_,rfl⟩,trivial⟩
end
end Fw.Tz
/-
  slices.Sort of an own row of strings.
-/
namespace Fw.Tz
open Go Go.Proofs Go.RowKit Go.Sort
def dF(l:List (List UInt8)):List (List UInt8):=l.mergeSort fun x y=>decide (x≤y)
def eP(s:List UInt8):V:=.d (.str s)
variable {W:World}
theorem cr.grow{g:G}{w:World}{H:ai}(hh:az g w H)(os:Array Obj):cr g w g (Go.Sort.grow w os)∧az g (Go.Sort.grow w os) H:=by
 have hk:∀k,k<w.heap.size→(Go.Sort.grow w os).heap[k]? =w.heap[k]? :=fun k hk=>by simp only[Go.Sort.grow];rw[acp hk]
 have he:cr g w g (Go.Sort.grow w os):=⟨rfl,rfl,rfl,by simp[Go.Sort.grow],fun k h=>⟨⟨abr h.1 (by simp[Go.Sort.grow]),h.2⟩,hk k h.1⟩,fun _ h=>h,fun _ _=>GB.step.refl _,rfl,fun k h=>hk k (hh.fo k h).1⟩;exact⟨he,hh.ext he fun b x k hx Xw=>hk k (RV.eO hh b x k hx Xw)⟩
theorem dG(l:List (List UInt8)):(dF l).length=l.length:=by simp[dF]
theorem Sr(l:List (List UInt8))(cB:l.length<4611686018427387904):WF P (gl W) 104 [.sl 0 l.length 0 l.length 1] [some (.cells (l.map eP))] (fun v H'=>v=.tuple []∧H'=[some (.cells ((dF l).map eP))]):=by
 refine⟨Xv,fun g w vs dX hh hg=>?_ ⟩;obtain⟨x,rfl,hx⟩:=dX.sJ;have HI:aE [some (.cells (l.map eP))] 0=some (.cells (l.map eP)):=rfl;obtain⟨gb,En⟩:=hh.back 0 _ HI;obtain⟨hd,y,hy,hr⟩:=hh.live 0 gb En;rw[HI]at hy;simp only[aaC]at hy;subst hy;simp only[RV]at hx;have u5:=hx.2 gb En;cases gb with
  |nil=>simp only[RB]at hr
  |obj=>simp only[RB]at hr
  |cells aT cp cur=>
   have bS:=hr.lt aT rfl;have hr0:=hr;simp only[RB,aaW]at hr;obtain⟨r1,r2,r3,c,e,r4,r5,r6⟩:=hr;obtain⟨cap,rfl,k2,k3⟩:=u5.2 (by simpa using r1);have oj:∀j (hj:j<l.length),w.cell? ⟨aT,0+j,none⟩=some (encStr l[j]):=by
    intro j hj;obtain⟨v,VF,yG⟩:=aV.get j r6 (u:=eP l[j]) (by simp[hj]);simp only[eP]at yG;obtain⟨b,rfl,hb⟩:=yG.cX;rw[abd,aaP hj]at VF;simp only[World.cell?,r4,aaU];have:c[j]? =some (.string b):=by simpa using VF
    simp only[this];rw[←hb];congr 2
   have hH:Holds encStr w aT 0 l.toArray:=by
    intro j hj;have MY:j<l.length:=by simpa using hj
    refine⟨?_,by simp[World.frozen?,r4]⟩;rw[oj j MY];have:l.toArray[j]! =l[j]:=by rw[getElem!_pos _ j hj];simp
    rw[this]
   refine(Tryz.slices_Sort_string aT 0 cap l w hH bS cB).mono ?_;rintro ee w' ⟨rfl,n,os,rfl⟩;let w1:World:=putRow encStr (Sort.ahead w n) aT 0 (dF l).toArray;have QI:∀j,j≠aT→w1.heap[j]? =w.heap[j]? :=fun j hj=>by simp only[w1,putRow,mapBlock,Sort.ahead,abX];rw[aaL (acM hj)]
   have Dk:w1.heap[aT]? =some (.cells (Go.Sort.putCells encStr 0 (dF l).toArray c) e (0,0)):=by simp only[w1,putRow,mapBlock,Sort.ahead,abX,abv,r4,aaV,onCells]
   have vD:cr g w g w1:=cr.write En rfl (hh.vp En rfl) rfl rfl rfl (by simp[w1,putRow,mapBlock,Sort.ahead]) QI;have hh1:az g w1 (bn [some (.cells (l.map eP))] 0 (.cells ((dF l).map eP))):=by
    refine az.write hh _ En rfl vD QI ?_;simp only[RB,aaW,dG];refine⟨r1,by simp[eP,dO],r3,_,e,Dk,by simpa[Go.Sort.putCells]using r5,?_ ⟩;refine aV.iP (by simp[Go.Sort.putCells,dG];omega) fun j u v hu hv=>?_
    simp only[abf,aaE]at hu;obtain⟨s,hs,rfl⟩:=hu;have hj:j<(dF l).length:=(aaK.1 hs).1;have qk:j<l.length:=by rwa[dG]at hj
    rw[abd,aaP qk]at hv;have hcj:j<c.size:=by omega
    have fI:(Go.Sort.putCells encStr 0 (dF l).toArray c)[j]? =some v:=by simpa using hv
    simp only[Go.Sort.putCells,Array.getElem?_mapIdx,Array.getElem?_eq_getElem hcj,aaV,aaC]at fI;rw[aaP ⟨acb _,by simpa using hj⟩]at fI;subst fI;have:(dF l).toArray[j - 0]! =s:=by have:=(aaK.1 hs).2;rw[getElem!_pos _ (j - 0) (by simpa using hj)];simpa using this
    rw[this];simp only[eP,RV,Rd];exact⟨_,rfl,by simp⟩
   obtain⟨sy,KL⟩:=cr.grow hh1 os;refine⟨_,.tuple [],g,_,rfl,⟨rfl,rfl⟩,?_,KL,vD.trans sy⟩;simp only[RV];exact⟨#[],rfl,by simp[aV]⟩
end Fw.Tz
/-
  linear.sum.result: the terms of a sum, in order.
-/
namespace Fw.Tz
open Go Go.Proofs Fw.X
variable {W:World}
theorem Ir:P.follows .mixedOrders=true:=k_
theorem Xx:ao P 206=true:=k_
theorem Lt:aI P 206=some f206:=k_
abbrev Es:=List (List UInt8×Int)
def db(es:Es):List (D×V):=es.map fun e=>(.str e.1,.d (.int .i64 e.2))
def mW(es:Es):D:=.list (es.map fun e=>[.str e.1,.int .i64 e.2])
def o7(n:Int)(es:Es):V:=.agg [.d (.int .i64 n),.d (mW es)]
def nm(es:Es)(i:Nat):Option (List UInt8):=match es[i]? with
 |some (k,c)=>if c=0 then none else some k
 |none=>none
def bm(es:Es)(seen:List Nat):List (List UInt8):=seen.filterMap (nm es)
def bp(es:Es)(k:List UInt8):Int:=((es.find? fun e=>e.1==k).map (·.2)).getD 0
def bW(es:Es):List (List UInt8):=(es.filter fun e=>decide (e.2≠0)).map (·.1)
def be(es:Es):Es:=(dF (bW es)).map fun k=>(k,bp es k)
def ua(n:Int)(t:Es):V:=.agg [.d (.int .i64 n),match t with|[]=>.ab|_=>.d (mW t)]
def jg(n:Int)(es:Es)(ok:Bool):V:=if ok then .tuple [ua n (be es),.d (.int .i64 0)]else .tuple [ua 0 [],.d (.int .i64 3)]
theorem Lu{n:Int}{t:Es}(h:t≠[]):ua n t=o7 n t:=by cases t<;>simp_all[ua,o7]
def n9(b:Nat)(l:List (List UInt8)):V:=match l with|[]=>.ab|_=>.sl b l.length 0 l.length 1
def mX(l:List (List UInt8)):ai:=match l with|[]=>[]|_=>[some (.cells (l.map eP))]
def iu(cs:List V)(h off:Nat)(n:Int)(es:Es)(seen:List Nat):St:=⟨58,[(0,.ptr 0 h off),(2,.ptr 2 2 0),(3,.d (.int .i64 0)),(4,.ptr 3 2 0),(5,n9 5 (bm es seen)),(19,.iter 4 1)],[some (.cells cs),some (.map (db es)),some (.cells [.d (.int .i64 0),.ab]),some (.cells [.d (.int .i64 n),.ab]),some (.dK 1 es.length seen)]++mX (bm es seen)⟩
theorem DG{H:ai}{b h off:Nat}{cs:List V}{v:V}(hb:aE H b=some (.cells cs))(hl:cs.length=h)(hv:cs[off]? =some v):df H 1 (.ptr b h off)=some [v]:=by
 have bS:off<cs.length:=(aaK.1 hv).1;have e1:(Nat.beq cs.length h&&Nat.ble (off+1) h)=true:=by subst hl;simp[abO (show off+1≤cs.length from bS)]
 have e2:(cs.drop off).take 1=[v]:=by rw[abz bS];have:=(aaK.1 hv).2;simp[this]
 simp only[df,hb,e1,aaH,e2]
theorem O2{α:Type}(l:List α):(l.all fun _=>true)=true:=by simp
theorem Ss{cs:List V}{h off:Nat}{n:Int}{es:Es}(h1:cs.length=h)(h2:cs[off]? =some (.d (.int .i64 n)))(h3:cs[off+1]? =some (.map 1))(gZ:an 2 cs=true)(c d:IR)(Q:Ex→St→Prop)(hq:WC P (gl W) c (iu cs h off n es []) (fun e s=>match e with| .normal=>WC P (gl W) d s Q|e=>Q e s)):WC P (gl W) (.seq (.region f206.r0) (.seq (.region f206.r1) (.seq (.region f206.r2) (.seq (.seq (.region f206.r3) c) d)))) ⟨58,[(0,.ptr 0 h off)],[some (.cells cs),some (.map (db es))]⟩ Q:=by
 have BY:=bC (show 2≤5 by omega) gZ;have k1:∀(l:ai),df (some (.cells cs)::l) 1 (.ptr 0 h off)=some [.d (.int .i64 n)]:=fun l=>DG rfl h1 h2
 have k2:∀(l:ai),df (some (.cells cs)::l) 1 (.ptr 0 h (off+1))=some [.map 1]:=fun l=>DG rfl h1 h3
 refine WC.seq (WC.gO (own:=[]) (by simp[f206.r0,cO,bB,ar,bw,aX,aC,aQ,aY,aG,bZ,aZ,bn];rfl) ?_ );refine WC.seq (WC.gO (own:=[]) (by simp[f206.r1,cO,bB,ar,bw,aX,aC,aQ,aY,aG,bZ,aZ,bn,k1,pj,d_,putCells,bU,dO,er,aE];rfl) ?_ );refine WC.seq (WC.gO (own:=[]) (by simp[f206.r2,cO,bB,ar,bw,aX,aC,aQ,aY,aG,bZ,aZ,bn];rfl) ?_ );refine WC.seq (WC.seq (WC.gO (own:=[]) (by simp[f206.r3,cO,bB,ar,bw,aX,aC,aQ,aY,aG,bZ,aZ,bn,k2,pj,aE,db];rfl) ?_ ));refine WC.tidy (au.clean (aaQ _) (cw:=[0,2,3,4,5,19]) ?_ ) hq;simp[cf,cg,gx,aH,aq,an,cE,iH,eI,iu,bm,n9,mX,BY,db,putCells,abh,O2]
theorem mY{seen:List Nat}{n:Nat}(hn:seen.Nodup)(hb:∀i∈seen,i<n):seen.length≤n:=by have:seen.length≤(List.range n).length:=List.Nodup.length_le_of_subset hn (fun i hi=>abb.2 (hb i hi));simpa using this
theorem cm(m:Nat)(l:List (List UInt8)):an m (l.map eP)=true:=by
 induction l with
  |nil=>rfl
  |cons x l ih=>simp[an,aq,eP];simpa[eP]using ih
theorem lb{b:Nat}{l:List (List UInt8)}(h:l≠[]):n9 b l=.sl b l.length 0 l.length 1:=by cases l<;>simp_all[n9]
theorem ld{l:List (List UInt8)}(h:l≠[]):mX l=[some (.cells (l.map eP))]:=by cases l<;>simp_all[mX]
theorem O3{cs:List V}{h off:Nat}{n:Int}{es:Es}(gZ:an 2 cs=true){seen:List Nat}{i:Nat}{k:List UInt8}{c:Int}(hi:es[i]? =some (k,c))(hlen:(bm es seen).length≤2^20)(Q:Ex→St→Prop)(hq:∀aS,au (iu cs h off n es seen).hp.length aS (iu cs h off n es (seen++[i]))→Q .normal aS):WC P (gl W) (.seq (.cond (.t 21) .skip (.exit 0)) (.block 1 (.seq (.region f206.r5) (.seq (.region f206.r6) (.cond (.t 26) (.region f206.r7) .skip))))) ⟨58,[(0,.ptr 0 h off),(2,.ptr 2 2 0),(3,.d (.int .i64 0)),(4,.ptr 3 2 0),(5,n9 5 (bm es seen)),(19,.iter 4 1),(20,.tuple [.d (.bool true),.d (.str k),.d (.int .i64 c)]),(21,.d (.bool true))],[some (.cells cs),some (.map (db es)),some (.cells [.d (.int .i64 0),.ab]),some (.cells [.d (.int .i64 n),.ab]),some (.dK 1 es.length (seen++[i]))]++mX (bm es seen)⟩ Q:=by
 have BY:=bC (show 2≤5 by omega) gZ;have xJ:=bC (show 2≤6 by omega) gZ;have he:(db es)[i]? =some (.str k,.d (.int .i64 c)):=by simp[db,hi]
 have hl:(db es).length=es.length:=by simp[db]
 have O4:∀m,((db es).all fun p=>aq m p.2)=true:=by intro m;simp[db,abh,aq]
 have Kf:bm es (seen++[i])=if c=0 then bm es seen else bm es seen++[k]:=by simp only[bm,List.filterMap_append,acY,List.filterMap_nil,nm,hi];split<;>simp_all
 refine WC.seq (WC.cond (t:=true) (by simp[aX,aC]) (WC.skip ?_ ));refine WC.block (WC.seq (WC.gO (own:=[]) (by simp[f206.r5,cO,bB,ar,bw,aX,aC,aQ,aY,aG,bZ,aZ,aE,he,hl,eI];rfl) ?_ ));refine WC.seq (WC.gO (own:=[]) (by simp[f206.r6,cO,bB,ar,bw,aX,aC,aQ,aY,aG,bZ,aZ,ky,kO];rfl) ?_ );by_cases hc:c=0
 ·refine WC.cond (t:=false) (by simp[aX,aC,hc]) (WC.skip ?_ );refine hq _ (au.clean (aaQ _) (cw:=[0,2,3,4,5,19]) ?_ );rw[aaP hc]at Kf;by_cases hN:bm es seen=[]
  ·simp[cf,cg,gx,aH,aq,an,cE,iH,eI,iu,Kf,hN,n9,mX,BY,O4]
  ·simp[cf,cg,gx,aH,aq,an,cE,iH,eI,iu,Kf,lb hN,ld hN,xJ,O4,cm]
 ·refine WC.cond (t:=true) (by simp[aX,aC,hc]) ?_;rw[aaL hc]at Kf;by_cases hN:bm es seen=[]
  ·refine WC.gO (own:=[]) (by simp[hN,n9,mX,f206.r7,cO,bB,nW,f_,d_,putCells,bU,ep,eV,dO,ar,bw,aX,aC,aQ,aY,aG,bZ,aZ,cF,cM,eI,nO,cy,bn];rfl) ?_;refine hq _ (au.clean (n:=6) (by simp[iu,hN,mX]) (cw:=[0,2,3,4,5,19]) ?_ );simp[cf,cg,gx,aH,aq,an,cE,iH,eI,iu,Kf,hN,n9,mX,xJ,O4,eP]
  ·have et:bm es seen++[k]≠[]:=by simp
   have hk:eP k=V.d (D.str k):=rfl;have pw:an 6 (List.map eP (bm es seen)++[V.d (D.str k)])=true:=by simpa[hk]using cm 6 (bm es seen++[k])
   have j7:(bm es seen).length*17+17≤1099511627776:=by omega
   have ub:((bm es seen).length+1)*17≤1099511627776:=by omega
   refine WC.gO (own:=[]) (by simp[lb hN,ld hN,f206.r7,cO,bB,nW,f_,d_,putCells,bU,ep,eV,dO,ar,bw,aX,aC,aQ,aY,aG,bZ,aZ,cF,cM,eI,nO,cy,bn,aE,j7,ub];rfl) ?_;refine hq _ (au.clean (aaQ _) (cw:=[0,2,3,4,5,19]) ?_ );simp[cf,cg,gx,aH,aq,an,cE,iH,eI,iu,Kf,lb hN,lb et,ld hN,ld et,xJ,O4,pw,hk]
def Is(es:Es)(seen:List Nat):Prop:=seen.Nodup∧∀i∈seen,i<es.length
theorem Sv{cs:List V}{h off:Nat}{n:Int}{es:Es}(gZ:an 2 cs=true)(cB:es.length≤2^20)(Q:Ex→St→Prop)(hq:∀seen,Is es seen→(∀i,i<es.length→i∈seen)→Q .normal (iu cs h off n es seen)):WC P (gl W) (.block 0 (.loop f206.l8)) (iu cs h off n es []) Q:=by
 refine WC.block (WC.HH (α:={seen // Is es seen}) (fun s=>iu cs h off n es s.1) (fun s=>es.length - s.1.length) ?_ ⟨[],by simp[Is]⟩ (au.refl _ _));rintro⟨seen,hs⟩;refine WC.post ?_;have hlen:(bm es seen).length≤2^20:=aby (aby (List.length_filterMap_le _ _) (mY hs.1 hs.2)) cB;have hl:(db es).length=es.length:=by simp[db]
 refine WC.seq (WC.region (WO.rA rfl (by simp[ar]) (b:=4) (m':=1) (m:=1) (n:=es.length) (seen:=seen) (es:=db es) (by simp[aX,iu,aC]) (by simp[iu,aE]) (by simp[iu,aE]) hl ?_ ?_ ))
 ·intro i kd v hi jt;obtain⟨⟨k,c⟩,he,hkv⟩:∃e,es[i]? =some e∧(D.str e.1,V.d (.int .i64 e.2))=(kd,v):=by simpa[db]using hi
  simp only[aaF]at hkv;obtain⟨rfl,rfl⟩:=hkv;have NT:i<es.length:=(aaK.1 he).1;refine⟨_,by simp[iu,aG,aQ,aY];rfl,?_ ⟩;refine WO.bw (v:=.d (.bool true)) (wr:=none) (by simp[ar]) (by simp[bw,aX,aC]) (by simp[aG,aQ,aY,aZ];rfl) (WO.nil ?_ );have:=O3 (W:=W) (h:=h) (off:=off) (n:=n) gZ he hlen (fun e s=>
   ∃s',au (iu cs h off n es seen).hp.length s s'∧match e with
    | .normal=>∃a':{seen // Is es seen},es.length - a'.1.length<es.length - seen.length∧au (iu cs h off n es seen).hp.length s' (iu cs h off n es a'.1)
    |e=>match e with| .exit i=>if i=0 then Q .normal s' else Q (.exit i) s'|e=>Q e s') (fun aS ht=>
   ⟨aS,au.refl _ _,⟨seen++[i],by
    refine⟨adC.2 ⟨hs.1,by simp,?_ ⟩,?_⟩
    ·intro a ha b hb;simp at hb;subst hb;rintro rfl;exact jt ha
    ·intro j hj;rcases abc.1 hj with hj|hj
     ·exact hs.2 j hj
     ·simp at hj;omega⟩,by
    have:(seen++[i]).length≤es.length:=by
     refine mY (adC.2 ⟨hs.1,by simp,?_ ⟩) ?_
     ·intro a ha b hb;simp at hb;subst hb;rintro rfl;exact jt ha
     ·intro j hj;rcases abc.1 hj with hj|hj
      ·exact hs.2 j hj
      ·simp at hj;omega
    simp at this⊢;omega,ht⟩)
  exact this
 ·intro jA;refine⟨_,by simp[iu,aG,aQ,aY];rfl,?_ ⟩;refine WO.bw (v:=.d (.bool false)) (wr:=none) (by simp[ar]) (by simp[bw,aX,aC]) (by simp[aG,aQ,aY,aZ];rfl) (WO.nil ?_ );refine WC.seq (WC.cond (t:=false) (by simp[aX,aC]) (WC.exit ⟨iu cs h off n es seen,?_,by simpa using hq seen hs jA⟩));have BY:=bC (show 2≤5 by omega) gZ;have xJ:=bC (show 2≤6 by omega) gZ;have O4:∀m,((db es).all fun p=>aq m p.2)=true:=by intro m;simp[db,abh,aq]
  refine au.clean (aaQ _) (cw:=[0,2,3,4,5,19]) ?_;by_cases hN:bm es seen=[]
  ·simp[cf,cg,gx,aH,aq,an,cE,iH,eI,iu,hN,n9,mX,BY,O4]
  ·simp[cf,cg,gx,aH,aq,an,cE,iH,eI,iu,lb hN,ld hN,xJ,O4,cm]
end Fw.Tz
