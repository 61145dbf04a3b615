/-
  The library's functions of this program, as calls that touch nothing.
-/
import Derived.Test.YtgfgckimecpmlaaGreatDoorFe
import Derived.Test.YtgfgckimecpmlaaGreatDoorShelf
import Derived.Test.YtgfgckimecpmlaaGreatDoorIr
set_option linter.unusedSimpArgs false
set_option maxRecDepth 100000
set_option linter.unusedVariables false
namespace Fw.Tz
open Go Go.Proofs Go.RowKit Go.Lib
noncomputable abbrev P:Program:=Tryz.prog
structure W0 (W:World):Prop where
 size:6<W.heap.size
 maxLen:∃m,W.cell? ⟨2,0,none⟩=some (.int .i64 m)
 QP:Lib.TabIs Tryz.prog W "internal/strconv.uint64pow10" .u64 Lib.pow10Tab
 Vn:∃ev,W.cell? ⟨4,0,none⟩=some ev∧(ev=.nilIface∨∃te pe,ev=.iface te pe)
 ZY:∃ev,W.cell? ⟨5,0,none⟩=some ev∧(ev=.nilIface∨∃te pe,ev=.iface te pe)
def gl(W:World):ca:=⟨fun _=>none,W⟩
section
variable {W:World}
theorem oJ{g:G}{w:World}(hg:f_ (gl W) g w){k o:Nat}(hk:k<W.heap.size):w.cell? ⟨k,o,none⟩=W.cell? ⟨k,o,none⟩:=by have:=(hg.w0 k hk).2;simp only[gl]at this;simp[World.cell?,this]
theorem NL{name:String}{n:Nat}(hn:Tryz.prog.globalNamed name=some n){w w':World}(h:w.heap[n]? =w'.heap[n]? ):w.var? Tryz.prog name=w'.var? Tryz.prog name:=by simp only[World.var?,hn,Option.bind_some,h]
theorem vI{g:G}{w:World}(hg:f_ (gl W) g w){name:String}{n:Nat}(hn:Tryz.prog.globalNamed name=some n)(hk:n<W.heap.size):w.var? Tryz.prog name=W.var? Tryz.prog name:=NL hn (hg.w0 n hk).2
theorem Hn(hW:W0 W)(hA:Lib.TabIs Tryz.prog W "strings.asciiSpace" .u8 Lib.asciiSpaceTab){g:G}{w:World}(hg:f_ (gl W) g w):Lib.TabIs Tryz.prog w "strings.asciiSpace" .u8 Lib.asciiSpaceTab:=by unfold Lib.TabIs;rw[vI hg (n:=0) k_ (by have:=hW.size;omega)];exact hA
theorem Ho(hW:W0 W){g:G}{w:World}(hg:f_ (gl W) g w):Lib.TabIs Tryz.prog w "internal/strconv.uint64pow10" .u64 Lib.pow10Tab:=by unfold Lib.TabIs;rw[vI hg (n:=3) k_ (by have:=hW.size;omega)];exact hW.QP
theorem vJ(hW:W0 W){g:G}{w:World}(hg:f_ (gl W) g w):∃m,w.cell? ⟨2,0,none⟩=some (.int .i64 m):=by obtain⟨m,hm⟩:=hW.maxLen;exact⟨m,by rw[oJ hg (by have:=hW.size;omega)];exact hm⟩
theorem Vo:aq P 172=true:=k_
theorem Vp:aq P 275=true:=k_
theorem Vq:aq P 161=true:=k_
theorem Vr:aq P 235=true:=k_
theorem c167:aq P 167=true:=k_
theorem Vs:aq P 160=true:=k_
theorem Vt:aq P 101=true:=k_
theorem Vu:aq P 163=true:=k_
theorem QQ:aq P 273=true:=k_
theorem Vv:aq P 271=true:=k_
theorem Vx:aq P 107=true:=k_
theorem c173:aq P 173=true:=k_
theorem Vy:aq P 104=true:=k_
theorem zI(s p:List UInt8):PC P (gl W) 172 [.d (.str s),.d (.str p)] (.d (.bool (Lib.hasPrefix s p))):=by
 refine PC.eW Vo fun g w vs dI hg=>?_
 obtain⟨x,y,rfl,h1,h2⟩:=dI.h_;obtain⟨b,rfl,rfl⟩:=h1.cQ;obtain⟨c,rfl,rfl⟩:=h2.cQ;refine(Tryz.strings_HasPrefix b c w).mono ?_;rintro e w' ⟨rfl,rfl⟩;exact⟨_,rfl,Below.refl _ _,fun _ _=>RV.Ds _⟩
theorem xy(s p:List UInt8)(hs:s.length≤9223372036854775807):PC P (gl W) 275 [.d (.str s),.d (.str p)] (.d (.str (Lib.trimSuffix s p))):=by
 refine PC.eW Vp fun g w vs dI hg=>?_
 obtain⟨x,y,rfl,h1,h2⟩:=dI.h_;obtain⟨b,rfl,rfl⟩:=h1.cQ;obtain⟨c,rfl,rfl⟩:=h2.cQ;refine(Tryz.strings_TrimSuffix b c w (by rw[Lib.size_eq];exact hs)).mono ?_;rintro e w' ⟨rfl,rfl⟩;exact⟨_,rfl,Below.refl _ _,fun _ _=>RV.mE _⟩
theorem zJ(s p:List UInt8):PC P (gl W) 161 [.d (.str s),.d (.str p)] (.tuple [.d (.str (Lib.trimPrefix s p)),.d (.bool (Lib.hasPrefix s p))]):=by
 refine PC.eW Vq fun g w vs dI hg=>?_
 obtain⟨x,y,rfl,h1,h2⟩:=dI.h_;obtain⟨b,rfl,rfl⟩:=h1.cQ;obtain⟨c,rfl,rfl⟩:=h2.cQ;refine(Tryz.strings_CutPrefix b c w).mono ?_;rintro e w' ⟨rfl,rfl⟩;refine⟨_,rfl,Below.refl _ _,fun _ _=>?_ ⟩;simp only[RV];exact⟨_,rfl,RV.mE _,RV.Ds _,trivial⟩
theorem zK(s p:List UInt8)(hs:s.length≤9223372036854775807):PC P (gl W) 235 [.d (.str s),.d (.str p)] (.tuple [.d (.str (Lib.trimSuffix s p)),.d (.bool (Lib.hasSuffix s p))]):=by
 refine PC.eW Vr fun g w vs dI hg=>?_
 obtain⟨x,y,rfl,h1,h2⟩:=dI.h_;obtain⟨b,rfl,rfl⟩:=h1.cQ;obtain⟨c,rfl,rfl⟩:=h2.cQ;refine(Tryz.strings_CutSuffix b c w (by rw[Lib.size_eq];exact hs)).mono ?_;rintro e w' ⟨rfl,rfl⟩;refine⟨_,rfl,Below.refl _ _,fun _ _=>?_ ⟩;simp only[RV];exact⟨_,rfl,RV.mE _,RV.Ds _,trivial⟩
theorem zL(s:List UInt8)(c:Int):PC P (gl W) 167 [.d (.str s),.d (.int .u8 c)] (.d (.int .i64 (Lib.indexByte s c.toNat.toUInt8))):=by
 refine PC.eW c167 fun g w vs dI hg=>?_
 obtain⟨x,y,rfl,h1,h2⟩:=dI.h_;obtain⟨b,rfl,rfl⟩:=h1.cQ;obtain rfl:=h2.Cr;refine(Tryz.strings_IndexByte b c w).mono ?_;rintro e w' ⟨rfl,rfl⟩;exact⟨_,rfl,Below.refl _ _,fun _ _=>RV.AG _ _⟩
theorem QR(hW:W0 W)(s p:List UInt8)(hs:s.length<4294967281):PC P (gl W) 160 [.d (.str s),.d (.str p)] (.tuple [.d (.str (Lib.cut s p).1),.d (.str (Lib.cut s p).2.1),.d (.bool (Lib.cut s p).2.2)]):=by
 refine PC.eW Vs fun g w vs dI hg=>?_
 obtain⟨x,y,rfl,h1,h2⟩:=dI.h_;obtain⟨b,rfl,rfl⟩:=h1.cQ;obtain⟨c,rfl,rfl⟩:=h2.cQ;obtain⟨m,hm⟩:=vJ hW hg;refine(Tryz.strings_Cut b c m w (by rw[Lib.size_eq];exact hs) hm).mono ?_;rintro e w' ⟨rfl,n,rfl⟩;refine⟨_,rfl,Below.Cp w n,fun _ _=>?_ ⟩;simp only[RV,aP];exact⟨_,rfl,RV.mE _,RV.mE _,RV.Ds _,trivial⟩
theorem tF(sep:ByteArray)(h1:1≤sep.size):∀(n:Nat)(s:ByteArray),Lib.countB s sep=n→(Lib.splitB sep 0 n s).length=n+1
 |0,_,_=>rfl
 |n+1,s,h=>by
  rcases Lib.indexB_cases s sep with OP|⟨i,OP,_⟩
  ·rw[Lib.countB_miss s sep OP]at h;omega
  ·have:=Lib.countB_hit s sep i h1 OP;rw[Lib.splitB_hit sep 0 n s i OP,aav,tF sep h1 n _ (by omega)]
theorem Kd(hW:W0 W)(s p:List UInt8)(hs:s.length<4294967281)(hp:1≤p.length):PC P (gl W) 163 [.d (.str s),.d (.str p)] (.d (di (Lib.split s p))):=by
 refine PC.eW Vu fun g w vs dI hg=>?_
 obtain⟨x,y,rfl,h1,h2⟩:=dI.h_;obtain⟨b,rfl,rfl⟩:=h1.cQ;obtain⟨c,rfl,rfl⟩:=h2.cQ;obtain⟨m,hm⟩:=vJ hW hg;refine(Tryz.strings_Split b c m w (by rw[Lib.size_eq];exact hs) hm (by rw[Lib.size_eq];exact hp)).mono ?_;rintro e w' ⟨rfl,rfl⟩;refine⟨_,rfl,(Below.refl _ _).alloc (aao _) _,fun _ AU=>?_ ⟩;have:=RV.yX (g:=g) (w:=w) (Lib.splitB c 0 (Lib.countB b c) b) 9 (0,0) (Lib.countB b c+1) (tF c (by rw[Lib.size_eq];exact hp) _ b rfl).symm (AU _ (aao _) (by simp));rw[Lib.splitB_data]at this;exact this
theorem Hq(hW:W0 W)(hA:Lib.TabIs Tryz.prog W "strings.asciiSpace" .u8 Lib.asciiSpaceTab)(s:List UInt8)(hs:s.length<4294967281)(ha:∀(j:Nat) b,s[j]? =some b→b.toNat<128):PC P (gl W) 101 [.d (.str s)] (.d (di (Lib.fields s))):=by
 refine PC.eW Vt fun g w vs dI hg=>?_
 obtain⟨x,rfl,h1⟩:=dI.sd;obtain⟨b,rfl,rfl⟩:=h1.cQ;refine(Tryz.strings_Fields b w (by rw[Lib.size_eq];exact hs) ha (Hn hW hA hg)).mono ?_;rintro e w' ⟨rfl,rfl⟩;refine⟨_,rfl,(Below.refl _ _).alloc (aao _) _,fun _ AU=>?_ ⟩;have:=RV.yX (g:=g) (w:=w) ((Lib.fields b.data.toList).map fun l=>⟨l.toArray⟩) 9 (0,0) (Lib.fields b.data.toList).length (by simp) (by simpa[aaP]using AU _ (aao _) (by simp));simpa[aaP]using this
theorem NM(l:List (List UInt8))(p:List UInt8)(hl:l.length≤140737488355328)(hlen:(Lib.join l p).length≤140737488355328):PC P (gl W) 273 [.d (di l),.d (.str p)] (.d (.str (Lib.join l p))):=by
 refine PC.eW QQ fun g w vs dI hg=>?_
 obtain⟨x,y,rfl,h1,h2⟩:=dI.h_;obtain⟨c,rfl,rfl⟩:=h2.cQ;rcases h1.GH with⟨rfl,a,cc,rfl⟩|⟨aO,off,cap,xs,ew,rfl,Gh,wQ,rfl,hc⟩
 ·refine(Tryz.strings_Join_none a cc c w).mono ?_;rintro e w' ⟨rfl,rfl⟩;exact⟨_,rfl,Below.refl _ _,fun _ _=>by simp[RV,Rd,Lib.join]⟩
 ·refine(Tryz.strings_Join aO off cap xs c w hc wQ (by simpa using hl) Gh hlen).mono ?_;rintro e w' ⟨rfl,hb⟩;exact⟨_,rfl,hb,fun _ _=>RV.mE _⟩
theorem Ke(p:List UInt8):PC P (gl W) 273 [.ab,.d (.str p)] (.d (.str [])):=by
 refine PC.eW QQ fun g w vs dI hg=>?_
 obtain⟨x,y,rfl,h1,h2⟩:=dI.h_;obtain⟨c,rfl,rfl⟩:=h2.cQ;simp only[RV]at h1;subst h1;refine(Tryz.strings_Join_none _ 0 c w).mono ?_;rintro e w' ⟨rfl,rfl⟩;exact⟨_,rfl,Below.refl _ _,fun _ _=>by simp[RV,Rd]⟩
theorem Bv(s:List UInt8)(c:UInt8)(hc:c.toNat<128):PC P (gl W) 271 [.d (.str s),.d (.str [c])] (.d (.str (Lib.trimLeftB s c))):=by
 refine PC.eW Vv fun g w vs dI hg=>?_
 obtain⟨x,y,rfl,h1,h2⟩:=dI.h_;obtain⟨b,rfl,rfl⟩:=h1.cQ;obtain⟨q,rfl,hq⟩:=h2.cQ;obtain rfl:q=⟨#[c]⟩:=by apply ByteArray.ext;exact abh.1 (by simpa using hq)
 refine(Tryz.strings_TrimLeft_one b c hc w).mono ?_;rintro e w' ⟨rfl,rfl⟩;exact⟨_,rfl,Below.refl _ _,fun _ _=>RV.mE _⟩
theorem Bw(hW:W0 W)(n:Int)(h0: -9223372036854775808≤n)(h1:n≤9223372036854775807):PC P (gl W) 107 [.d (.int .i64 n)] (.d (.str (Lib.itoa n))):=by
 refine PC.eW Vx fun g w vs dI hg=>?_
 obtain⟨x,rfl,k1⟩:=dI.sd;obtain rfl:=k1.Cr;refine(Tryz.strconv_Itoa n h0 h1 w (Ho hW hg)).mono ?_;rintro e w' ⟨rfl,k,os,rfl⟩;exact⟨_,rfl,Below.MT (Below.Cp w k) os,fun _ _=>RV.mE _⟩
def CT(s:List UInt8):V:=match Lib.atoiAll s with
 | .ok v=>.tuple [.d (.int .i64 v),.gD]
 | .range=>.tuple [.d (.int .i64 (Lib.atoiSat s)),.bX]
 | _=>.tuple [.d (.int .i64 0),.bX]
theorem Hr(hW:W0 W)(s:List UInt8)(hs:s.length≤281474976710656):PC P (gl W) 173 [.d (.str s)] (CT s):=by
 refine PC.eW c173 fun g w vs dI hg=>?_
 obtain⟨x,rfl,k1⟩:=dI.sd;obtain⟨b,rfl,rfl⟩:=k1.cQ;have cx:b.size≤281474976710656:=by rw[Lib.size_eq];exact hs
 unfold CT;rcases hA:Lib.atoiAll b.data.toList with v|_|_
 ·refine(Tryz.strconv_Atoi_ok b (by omega) v hA w).mono ?_;rintro e w' ⟨rfl,hw⟩;refine⟨_,rfl,?_,fun _ _=>?_ ⟩
  ·rcases hw with rfl|⟨t,rfl⟩
   ·exact Below.refl _ _
   ·exact Lib.bytesWorld_below _ _ _
  ·simp only[RV,aP];exact⟨_,rfl,RV.AG _ _,rfl,trivial⟩
 ·obtain⟨ev,vf,rV⟩:=hW.Vn;refine(Tryz.strconv_Atoi_syntax b cx hA ev w (by rw[oJ hg (by have:=hW.size;omega)];exact vf) rV).mono ?_;rintro e w' ⟨N,rfl,hN,_,hb⟩;refine⟨_,rfl,hb,fun _ _=>?_ ⟩;simp only[RV,aP];exact⟨_,rfl,RV.AG _ _,⟨_,_,rfl⟩,trivial⟩
 ·obtain⟨ev,vf,rV⟩:=hW.ZY;refine(Tryz.strconv_Atoi_range b cx hA ev w (by rw[oJ hg (by have:=hW.size;omega)];exact vf) rV).mono ?_;rintro e w' ⟨N,rfl,hN,_,hb⟩;refine⟨_,rfl,hb,fun _ _=>?_ ⟩;simp only[RV,aP];exact⟨_,rfl,RV.AG _ _,⟨_,_,rfl⟩,trivial⟩
end
end Fw.Tz
/-
  slices.Sort of an own row of strings.
-/
namespace Fw.Tz
open Go Go.Proofs Go.RowKit Go.Sort
def du(l:List (List UInt8)):List (List UInt8):=l.mergeSort fun x y=>decide (x≤y)
def eC(s:List UInt8):V:=.d (.str s)
variable {W:World}
theorem ch.grow{g:G}{w:World}{H:ah}(hh:av g w H)(os:Array Obj):ch g w g (Go.Sort.grow w os)∧av g (Go.Sort.grow w os) H:=by
 have hk:∀k,k<w.heap.size→(Go.Sort.grow w os).heap[k]? =w.heap[k]? :=fun k hk=>by simp only[Go.Sort.grow];rw[abY hk]
 have he:ch g w g (Go.Sort.grow w os):=⟨rfl,rfl,rfl,by simp[Go.Sort.grow],fun k h=>⟨⟨aa0 h.1 (by simp[Go.Sort.grow]),h.2⟩,hk k h.1⟩,fun _ h=>h,fun _ _=>GB.step.refl _,rfl,fun k h=>hk k (hh.fo k h).1⟩;exact⟨he,hh.ext he fun b x k hx Vz=>hk k (RV.eB hh b x k hx Vz)⟩
theorem dv(l:List (List UInt8)):(du l).length=l.length:=by simp[du]
theorem QS(l:List (List UInt8))(cx:l.length<4611686018427387904):WF P (gl W) 104 [.sl 0 l.length 0 l.length 1] [some (.cells (l.map eC))] (fun v H'=>v=.tuple []∧H'=[some (.cells ((du l).map eC))]):=by
 refine⟨Vy,fun g w vs dI hh hg=>?_ ⟩;obtain⟨x,rfl,hx⟩:=dI.sd;have GQ:aA [some (.cells (l.map eC))] 0=some (.cells (l.map eC)):=rfl;obtain⟨gb,DA⟩:=hh.back 0 _ GQ;obtain⟨hd,y,hy,hr⟩:=hh.live 0 gb DA;rw[GQ]at hy;simp only[aab]at hy;subst hy;simp only[RV]at hx;have wM:=hx.2 gb DA;cases gb with
  |nil=>simp only[RB]at hr
  |obj=>simp only[RB]at hr
  |cells aO cp cur=>
   have bL:=hr.lt aO rfl;have YI:=hr;simp only[RB,aar]at hr;obtain⟨r1,r2,r3,c,e,r4,r5,r6⟩:=hr;obtain⟨cap,rfl,k2,k3⟩:=wM.2 (by simpa using r1);have qb:∀j (hj:j<l.length),w.cell? ⟨aO,0+j,none⟩=some (encStr l[j]):=by
    intro j hj;obtain⟨v,YM,AH⟩:=aP.get j r6 (u:=eC l[j]) (by simp[hj]);simp only[eC]at AH;obtain⟨b,rfl,hb⟩:=AH.cQ;rw[aaL,aan hj]at YM;simp only[World.cell?,r4,aau];have:c[j]? =some (.string b):=by simpa using YM
    simp only[this];rw[←hb];congr 2
   have hH:Holds encStr w aO 0 l.toArray:=by
    intro j hj;have Ly:j<l.length:=by simpa using hj
    refine⟨?_,by simp[World.frozen?,r4]⟩;rw[qb j Ly];have:l.toArray[j]! =l[j]:=by rw[getElem!_pos _ j hj];simp
    rw[this]
   refine(Tryz.slices_Sort_string aO 0 cap l w hH bL cx).mono ?_;rintro ee w' ⟨rfl,n,os,rfl⟩;let w1:World:=putRow encStr (Sort.ahead w n) aO 0 (du l).toArray;have TV:∀j,j≠aO→w1.heap[j]? =w.heap[j]? :=fun j hj=>by simp only[w1,putRow,mapBlock,Sort.ahead,abw];rw[aal (ack hj)]
   have FQ:w1.heap[aO]? =some (.cells (Go.Sort.putCells encStr 0 (du l).toArray c) e (0,0)):=by simp only[w1,putRow,mapBlock,Sort.ahead,abw,aa4,r4,aat,onCells]
   have vf:ch g w g w1:=ch.write DA rfl (hh.u5 DA rfl) rfl rfl rfl (by simp[w1,putRow,mapBlock,Sort.ahead]) TV;have ZZ:av g w1 (bj [some (.cells (l.map eC))] 0 (.cells ((du l).map eC))):=by
    refine av.write hh _ DA rfl vf TV ?_;simp only[RB,aar,dv];refine⟨r1,by simp[eC,dE],r3,_,e,FQ,by simpa[Go.Sort.putCells]using r5,?_ ⟩;refine aP.iH (by simp[Go.Sort.putCells,dv];omega) fun j u v hu hv=>?_
    simp only[aaO,aad]at hu;obtain⟨s,hs,rfl⟩:=hu;have hj:j<(du l).length:=(aai.1 hs).1;have pQ:j<l.length:=by rwa[dv]at hj
    rw[aaL,aan pQ]at hv;have Z0:j<c.size:=by omega
    have fv:(Go.Sort.putCells encStr 0 (du l).toArray c)[j]? =some v:=by simpa using hv
    simp only[Go.Sort.putCells,Array.getElem?_mapIdx,Array.getElem?_eq_getElem Z0,aat,aab]at fv;rw[aan ⟨abK _,by simpa using hj⟩]at fv;subst fv;have:(du l).toArray[j - 0]! =s:=by have:=(aai.1 hs).2;rw[getElem!_pos _ (j - 0) (by simpa using hj)];simpa using this
    rw[this];simp only[eC,RV,Rd];exact⟨_,rfl,by simp⟩
   obtain⟨rV,JC⟩:=ch.grow ZZ os;refine⟨_,.tuple [],g,_,rfl,⟨rfl,rfl⟩,?_,JC,vf.trans rV⟩;simp only[RV];exact⟨#[],rfl,by simp[aP]⟩
end Fw.Tz
/-
  linear.sum.result: the terms of a sum, in order.
-/
namespace Fw.Tz
open Go Go.Proofs Fw.X
variable {W:World}
theorem Hs:P.follows .mixedOrders=true:=k_
theorem VA:aq P 206=true:=k_
theorem Kf:aK P 206=some f206:=k_
abbrev Es:=List (List UInt8×Int)
def cX(es:Es):List (D×V):=es.map fun e=>(.str e.1,.d (.int .i64 e.2))
def mQ(es:Es):D:=.list (es.map fun e=>[.str e.1,.int .i64 e.2])
def oK(n:Int)(es:Es):V:=.agg [.d (.int .i64 n),.d (mQ es)]
def nm(es:Es)(i:Nat):Option (List UInt8):=match es[i]? with
 |some (k,c)=>if c=0 then none else some k
 |none=>none
def bg(es:Es)(seen:List Nat):List (List UInt8):=seen.filterMap (nm es)
def bm(es:Es)(k:List UInt8):Int:=((es.find? fun e=>e.1==k).map (·.2)).getD 0
def bY(es:Es):List (List UInt8):=(es.filter fun e=>decide (e.2≠0)).map (·.1)
def ba(es:Es):Es:=(du (bY es)).map fun k=>(k,bm es k)
def tG(n:Int)(t:Es):V:=.agg [.d (.int .i64 n),match t with|[]=>.ab|_=>.d (mQ t)]
def jb(n:Int)(es:Es)(ok:Bool):V:=if ok then .tuple [tG n (ba es),.d (.int .i64 0)]else .tuple [tG 0 [],.d (.int .i64 3)]
theorem Kg{n:Int}{t:Es}(h:t≠[]):tG n t=oK n t:=by cases t<;>simp_all[tG,oK]
def nW(b:Nat)(l:List (List UInt8)):V:=match l with|[]=>.ab|_=>.sl b l.length 0 l.length 1
def mR(l:List (List UInt8)):ah:=match l with|[]=>[]|_=>[some (.cells (l.map eC))]
def hO(cs:List V)(h off:Nat)(n:Int)(es:Es)(seen:List Nat):St:=⟨58,[(0,.ptr 0 h off),(2,.ptr 2 2 0),(3,.d (.int .i64 0)),(4,.ptr 3 2 0),(5,nW 5 (bg es seen)),(19,.iter 4 1)],[some (.cells cs),some (.map (cX es)),some (.cells [.d (.int .i64 0),.ab]),some (.cells [.d (.int .i64 n),.ab]),some (.dC 1 es.length seen)]++mR (bg es seen)⟩
theorem CU{H:ah}{b h off:Nat}{cs:List V}{v:V}(hb:aA H b=some (.cells cs))(hl:cs.length=h)(hv:cs[off]? =some v):cY H 1 (.ptr b h off)=some [v]:=by
 have bL:off<cs.length:=(aai.1 hv).1;have e1:(Nat.beq cs.length h&&Nat.ble (off+1) h)=true:=by subst hl;simp[aba (show off+1≤cs.length from bL)]
 have e2:(cs.drop off).take 1=[v]:=by rw[aa6 bL];have:=(aai.1 hv).2;simp[this]
 simp only[cY,hb,e1,aag,e2]
theorem NN{α:Type}(l:List α):(l.all fun _=>true)=true:=by simp
theorem QT{cs:List V}{h off:Nat}{n:Int}{es:Es}(h1:cs.length=h)(h2:cs[off]? =some (.d (.int .i64 n)))(h3:cs[off+1]? =some (.map 1))(gR:ak 2 cs=true)(c d:IR)(Q:Ex→St→Prop)(hq:WC P (gl W) c (hO cs h off n es []) (fun e s=>match e with| .normal=>WC P (gl W) d s Q|e=>Q e s)):WC P (gl W) (.seq (.region f206.r0) (.seq (.region f206.r1) (.seq (.region f206.r2) (.seq (.seq (.region f206.r3) c) d)))) ⟨58,[(0,.ptr 0 h off)],[some (.cells cs),some (.map (cX es))]⟩ Q:=by
 have By:=bC (show 2≤5 by omega) gR;have k1:∀(l:ah),cY (some (.cells cs)::l) 1 (.ptr 0 h off)=some [.d (.int .i64 n)]:=fun l=>CU rfl h1 h2
 have k2:∀(l:ah),cY (some (.cells cs)::l) 1 (.ptr 0 h (off+1))=some [.map 1]:=fun l=>CU rfl h1 h3
 refine WC.seq (WC.gM (own:=[]) (by simp[f206.r0,cH,bB,ao,bu,aU,az,aM,aV,aC,b6,aX,bj];rfl) ?_ );refine WC.seq (WC.gM (own:=[]) (by simp[f206.r1,cH,bB,ao,bu,aU,az,aM,aV,aC,b6,aX,bj,k1,oW,dO,putCells,bK,dE,dz,aA];rfl) ?_ );refine WC.seq (WC.gM (own:=[]) (by simp[f206.r2,cH,bB,ao,bu,aU,az,aM,aV,aC,b6,aX,bj];rfl) ?_ );refine WC.seq (WC.seq (WC.gM (own:=[]) (by simp[f206.r3,cH,bB,ao,bu,aU,az,aM,aV,aC,b6,aX,bj,k2,oW,aA,cX];rfl) ?_ ));refine WC.tidy (ar.clean (aao _) (b9:=[0,2,3,4,5,19]) ?_ ) hq;simp[b_,cb,gk,aG,an,ak,cu,iw,eo,hO,bg,nW,mR,By,cX,putCells,aaP,NN]
theorem mS{seen:List Nat}{n:Nat}(hn:seen.Nodup)(hb:∀i∈seen,i<n):seen.length≤n:=by have:seen.length≤(List.range n).length:=List.Nodup.length_le_of_subset hn (fun i hi=>aaJ.2 (hb i hi));simpa using this
theorem cg(m:Nat)(l:List (List UInt8)):ak m (l.map eC)=true:=by
 induction l with
  |nil=>rfl
  |cons x l ih=>simp[ak,an,eC];simpa[eC]using ih
theorem kO{b:Nat}{l:List (List UInt8)}(h:l≠[]):nW b l=.sl b l.length 0 l.length 1:=by cases l<;>simp_all[nW]
theorem kP{l:List (List UInt8)}(h:l≠[]):mR l=[some (.cells (l.map eC))]:=by cases l<;>simp_all[mR]
theorem NO{cs:List V}{h off:Nat}{n:Int}{es:Es}(gR:ak 2 cs=true){seen:List Nat}{i:Nat}{k:List UInt8}{c:Int}(hi:es[i]? =some (k,c))(hlen:(bg es seen).length≤2^20)(Q:Ex→St→Prop)(hq:∀aL,ar (hO cs h off n es seen).hp.length aL (hO cs h off n es (seen++[i]))→Q .normal aL):WC P (gl W) (.seq (.cond (.t 21) .skip (.exit 0)) (.block 1 (.seq (.region f206.r5) (.seq (.region f206.r6) (.cond (.t 26) (.region f206.r7) .skip))))) ⟨58,[(0,.ptr 0 h off),(2,.ptr 2 2 0),(3,.d (.int .i64 0)),(4,.ptr 3 2 0),(5,nW 5 (bg es seen)),(19,.iter 4 1),(20,.tuple [.d (.bool true),.d (.str k),.d (.int .i64 c)]),(21,.d (.bool true))],[some (.cells cs),some (.map (cX es)),some (.cells [.d (.int .i64 0),.ab]),some (.cells [.d (.int .i64 n),.ab]),some (.dC 1 es.length (seen++[i]))]++mR (bg es seen)⟩ Q:=by
 have By:=bC (show 2≤5 by omega) gR;have xz:=bC (show 2≤6 by omega) gR;have he:(cX es)[i]? =some (.str k,.d (.int .i64 c)):=by simp[cX,hi]
 have hl:(cX es).length=es.length:=by simp[cX]
 have NP:∀m,((cX es).all fun p=>an m p.2)=true:=by intro m;simp[cX,aaP,an]
 have I7:bg es (seen++[i])=if c=0 then bg es seen else bg es seen++[k]:=by simp only[bg,List.filterMap_append,acw,List.filterMap_nil,nm,hi];split<;>simp_all
 refine WC.seq (WC.cond (t:=true) (by simp[aU,az]) (WC.skip ?_ ));refine WC.block (WC.seq (WC.gM (own:=[]) (by simp[f206.r5,cH,bB,ao,bu,aU,az,aM,aV,aC,b6,aX,aA,he,hl,eo];rfl) ?_ ));refine WC.seq (WC.gM (own:=[]) (by simp[f206.r6,cH,bB,ao,bu,aU,az,aM,aV,aC,b6,aX,j_,ky];rfl) ?_ );by_cases hc:c=0
 ·refine WC.cond (t:=false) (by simp[aU,az,hc]) (WC.skip ?_ );refine hq _ (ar.clean (aao _) (b9:=[0,2,3,4,5,19]) ?_ );rw[aan hc]at I7;by_cases hN:bg es seen=[]
  ·simp[b_,cb,gk,aG,an,ak,cu,iw,eo,hO,I7,hN,nW,mR,By,NP]
  ·simp[b_,cb,gk,aG,an,ak,cu,iw,eo,hO,I7,kO hN,kP hN,xz,NP,cg]
 ·refine WC.cond (t:=true) (by simp[aU,az,hc]) ?_;rw[aal hc]at I7;by_cases hN:bg es seen=[]
  ·refine WC.gM (own:=[]) (by simp[hN,nW,mR,f206.r7,cH,bB,nM,fS,dO,putCells,bK,dV,eL,dE,ao,bu,aU,az,aM,aV,aC,b6,aX,cC,cF,eo,nE,cq,bj];rfl) ?_;refine hq _ (ar.clean (n:=6) (by simp[hO,hN,mR]) (b9:=[0,2,3,4,5,19]) ?_ );simp[b_,cb,gk,aG,an,ak,cu,iw,eo,hO,I7,hN,nW,mR,xz,NP,eC]
  ·have ew:bg es seen++[k]≠[]:=by simp
   have hk:eC k=V.d (D.str k):=rfl;have o8:ak 6 (List.map eC (bg es seen)++[V.d (D.str k)])=true:=by simpa[hk]using cg 6 (bg es seen++[k])
   have jT:(bg es seen).length*17+17≤1099511627776:=by omega
   have tH:((bg es seen).length+1)*17≤1099511627776:=by omega
   refine WC.gM (own:=[]) (by simp[kO hN,kP hN,f206.r7,cH,bB,nM,fS,dO,putCells,bK,dV,eL,dE,ao,bu,aU,az,aM,aV,aC,b6,aX,cC,cF,eo,nE,cq,bj,aA,jT,tH];rfl) ?_;refine hq _ (ar.clean (aao _) (b9:=[0,2,3,4,5,19]) ?_ );simp[b_,cb,gk,aG,an,ak,cu,iw,eo,hO,I7,kO hN,kO ew,kP hN,kP ew,xz,NP,o8,hk]
def Ht(es:Es)(seen:List Nat):Prop:=seen.Nodup∧∀i∈seen,i<es.length
theorem QU{cs:List V}{h off:Nat}{n:Int}{es:Es}(gR:ak 2 cs=true)(cx:es.length≤2^20)(Q:Ex→St→Prop)(hq:∀seen,Ht es seen→(∀i,i<es.length→i∈seen)→Q .normal (hO cs h off n es seen)):WC P (gl W) (.block 0 (.loop f206.l8)) (hO cs h off n es []) Q:=by
 refine WC.block (WC.GP (α:={seen // Ht es seen}) (fun s=>hO cs h off n es s.1) (fun s=>es.length - s.1.length) ?_ ⟨[],by simp[Ht]⟩ (ar.refl _ _));rintro⟨seen,hs⟩;refine WC.post ?_;have hlen:(bg es seen).length≤2^20:=aa_ (aa_ (List.length_filterMap_le _ _) (mS hs.1 hs.2)) cx;have hl:(cX es).length=es.length:=by simp[cX]
 refine WC.seq (WC.region (WO.qS rfl (by simp[ao]) (b:=4) (m':=1) (m:=1) (n:=es.length) (seen:=seen) (es:=cX es) (by simp[aU,hO,az]) (by simp[hO,aA]) (by simp[hO,aA]) hl ?_ ?_ ))
 ·intro i kd v hi jo;obtain⟨⟨k,c⟩,he,NQ⟩:∃e,es[i]? =some e∧(D.str e.1,V.d (.int .i64 e.2))=(kd,v):=by simpa[cX]using hi
  simp only[aae]at NQ;obtain⟨rfl,rfl⟩:=NQ;have MB:i<es.length:=(aai.1 he).1;refine⟨_,by simp[hO,aC,aM,aV];rfl,?_ ⟩;refine WO.bu (v:=.d (.bool true)) (wr:=none) (by simp[ao]) (by simp[bu,aU,az]) (by simp[aC,aM,aV,aX];rfl) (WO.nil ?_ );have:=NO (W:=W) (h:=h) (off:=off) (n:=n) gR he hlen (fun e s=>
   ∃s',ar (hO cs h off n es seen).hp.length s s'∧match e with
    | .normal=>∃a':{seen // Ht es seen},es.length - a'.1.length<es.length - seen.length∧ar (hO cs h off n es seen).hp.length s' (hO cs h off n es a'.1)
    |e=>match e with| .exit i=>if i=0 then Q .normal s' else Q (.exit i) s'|e=>Q e s') (fun aL ht=>
   ⟨aL,ar.refl _ _,⟨seen++[i],by
    refine⟨List.nodup_append.2 ⟨hs.1,by simp,?_ ⟩,?_⟩
    ·intro a ha b hb;simp at hb;subst hb;rintro rfl;exact jo ha
    ·intro j hj;rcases aaV.1 hj with hj|hj
     ·exact hs.2 j hj
     ·simp at hj;omega⟩,by
    have:(seen++[i]).length≤es.length:=by
     refine mS (List.nodup_append.2 ⟨hs.1,by simp,?_ ⟩) ?_
     ·intro a ha b hb;simp at hb;subst hb;rintro rfl;exact jo ha
     ·intro j hj;rcases aaV.1 hj with hj|hj
      ·exact hs.2 j hj
      ·simp at hj;omega
    simp at this⊢;omega,ht⟩)
  exact this
 ·intro jw;refine⟨_,by simp[hO,aC,aM,aV];rfl,?_ ⟩;refine WO.bu (v:=.d (.bool false)) (wr:=none) (by simp[ao]) (by simp[bu,aU,az]) (by simp[aC,aM,aV,aX];rfl) (WO.nil ?_ );refine WC.seq (WC.cond (t:=false) (by simp[aU,az]) (WC.exit ⟨hO cs h off n es seen,?_,by simpa using hq seen hs jw⟩));have By:=bC (show 2≤5 by omega) gR;have xz:=bC (show 2≤6 by omega) gR;have NP:∀m,((cX es).all fun p=>an m p.2)=true:=by intro m;simp[cX,aaP,an]
  refine ar.clean (aao _) (b9:=[0,2,3,4,5,19]) ?_;by_cases hN:bg es seen=[]
  ·simp[b_,cb,gk,aG,an,ak,cu,iw,eo,hO,hN,nW,mR,By,NP]
  ·simp[b_,cb,gk,aG,an,ak,cu,iw,eo,hO,kO hN,kP hN,xz,NP,cg]
end Fw.Tz
