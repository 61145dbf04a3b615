/-
  The library's functions of this program, as calls that touch nothing.
-/
import Derived.Test.YtpeomfjbcdahnaaGreatDoorFe
import Derived.Test.YtpeomfjbcdahnaaGreatDoorShelf
set_option linter.unusedSimpArgs false
set_option maxRecDepth 100000
set_option linter.unusedVariables false
namespace Fw.Tz
open Go Go.Proofs Go.RowKit Go.Lib
noncomputable abbrev P:Program:=Tryz.prog
structure W0 (W:World):Prop where
 size:7<W.heap.size
 maxLen:∃m,W.cell? ⟨1,0,none⟩=some (.int .i64 m)
 Qm:Lib.TabIs Tryz.prog W "internal/strconv.uint64pow10" .u64 Lib.pow10Tab
 FB:Lib.TabIs Tryz.prog W "strings.asciiSpace" .u8 Lib.asciiSpaceTab
 Wq:∃ev,W.cell? ⟨6,0,none⟩=some ev/\(ev=.nilIface\/∃te pe,ev=.iface te pe)
 rng:∃ev,W.cell? ⟨7,0,none⟩=some ev/\(ev=.nilIface\/∃te pe,ev=.iface te pe)
def gl(W:World):bR:=⟨fun _=>none,W⟩
section
variable {W:World}
variable {w:World}
theorem nY{g:G}(hg:dY (gl W) g w){k o:Nat}(hk:k<W.heap.size):w.cell? ⟨k,o,none⟩=W.cell? ⟨k,o,none⟩:=by have:=(hg.w0 k hk).2;simp only[gl]at this;simp[World.cell?,this]
theorem Mg{name:String}{n:Nat}(hn:Tryz.prog.globalNamed name=some n){w':World}(h:w.heap[n]? =w'.heap[n]? ):w.var? Tryz.prog name=w'.var? Tryz.prog name:=by simp only[World.var?,hn,Option.bind_some,h]
theorem vb{g:G}(hg:dY (gl W) g w){name:String}{n:Nat}(hn:Tryz.prog.globalNamed name=some n)(hk:n<W.heap.size):w.var? Tryz.prog name=W.var? Tryz.prog name:=Mg hn (hg.w0 n hk).2
theorem FC(hW:W0 W)(hA:Lib.TabIs Tryz.prog W "strings.asciiSpace" .u8 Lib.asciiSpaceTab){g:G}(hg:dY (gl W) g w):Lib.TabIs Tryz.prog w "strings.asciiSpace" .u8 Lib.asciiSpaceTab:=by unfold Lib.TabIs;rw[vb hg (n:=0) k_ (by have:=hW.size;omega)];exact hA
theorem yG(hW:W0 W){g:G}(hg:dY (gl W) g w):Lib.TabIs Tryz.prog w "internal/strconv.uint64pow10" .u64 Lib.pow10Tab:=by unfold Lib.TabIs;rw[vb hg (n:=3) k_ (by have:=hW.size;omega)];exact hW.Qm
theorem vd(hW:W0 W){g:G}(hg:dY (gl W) g w):∃m,w.cell? ⟨1,0,none⟩=some (.int .i64 m):=by obtain⟨m,hm⟩:=hW.maxLen;exact⟨m,by rw[nY hg (by have:=hW.size;omega)];exact hm⟩
theorem c77:an P 287=true:=k_
theorem Ws:an P 212=true:=k_
theorem Wt:an P 161=true:=k_
theorem Wu:an P 278=true:=k_
theorem Wv:an P 221=true:=k_
theorem c55:an P 92=true:=k_
theorem Ww:an P 160=true:=k_
theorem c143:an P 164=true:=k_
theorem Qn:an P 65=true:=k_
theorem Wx:an P 286=true:=k_
theorem c79:an P 206=true:=k_
theorem c78:an P 312=true:=k_
theorem yH(s p:List UInt8):PC P (gl W) 287 [.d (.str s),.d (.str p)] (.d (.bool (Lib.hasPrefix s p))):=by
 refine PC.dZ c77 fun g w vs cX hg=>?_
 obtain⟨x,y,rfl,h1,h2⟩:=cX.fJ;obtain⟨b,rfl,rfl⟩:=h1.cL;obtain⟨c,rfl,rfl⟩:=h2.cL;refine(Tryz.strings_HasPrefix b c w).mono ?_;rintro e w' ⟨rfl,rfl⟩;exact⟨_,rfl,Below.refl _ _,fun _ _=>RV.A1 _⟩
theorem pz(s p:List UInt8)(hs:s.length<=9223372036854775807):PC P (gl W) 212 [.d (.str s),.d (.str p)] (.d (.str (Lib.trimSuffix s p))):=by
 refine PC.dZ Ws fun g w vs cX hg=>?_
 obtain⟨x,y,rfl,h1,h2⟩:=cX.fJ;obtain⟨b,rfl,rfl⟩:=h1.cL;obtain⟨c,rfl,rfl⟩:=h2.cL;refine(Tryz.strings_TrimSuffix b c w (by rw[Lib.size_eq];exact hs)).mono ?_;rintro e w' ⟨rfl,rfl⟩;exact⟨_,rfl,Below.refl _ _,fun _ _=>RV.lU _⟩
theorem yI(s p:List UInt8):PC P (gl W) 161 [.d (.str s),.d (.str p)] (.tuple [.d (.str (Lib.trimPrefix s p)),.d (.bool (Lib.hasPrefix s p))]):=by
 refine PC.dZ Wt fun g w vs cX hg=>?_
 obtain⟨x,y,rfl,h1,h2⟩:=cX.fJ;obtain⟨b,rfl,rfl⟩:=h1.cL;obtain⟨c,rfl,rfl⟩:=h2.cL;refine(Tryz.strings_CutPrefix b c w).mono ?_;rintro e w' ⟨rfl,rfl⟩;refine⟨_,rfl,Below.refl _ _,fun _ _=>?_ ⟩;simp only[RV];exact⟨_,rfl,RV.lU _,RV.A1 _,trivial⟩
theorem yJ(s p:List UInt8)(hs:s.length<=9223372036854775807):PC P (gl W) 278 [.d (.str s),.d (.str p)] (.tuple [.d (.str (Lib.trimSuffix s p)),.d (.bool (Lib.hasSuffix s p))]):=by
 refine PC.dZ Wu fun g w vs cX hg=>?_
 obtain⟨x,y,rfl,h1,h2⟩:=cX.fJ;obtain⟨b,rfl,rfl⟩:=h1.cL;obtain⟨c,rfl,rfl⟩:=h2.cL;refine(Tryz.strings_CutSuffix b c w (by rw[Lib.size_eq];exact hs)).mono ?_;rintro e w' ⟨rfl,rfl⟩;refine⟨_,rfl,Below.refl _ _,fun _ _=>?_ ⟩;simp only[RV];exact⟨_,rfl,RV.lU _,RV.A1 _,trivial⟩
theorem yK(s:List UInt8)(c:Int):PC P (gl W) 221 [.d (.str s),.d (.int .u8 c)] (.d (.int .i64 (Lib.indexByte s c.toNat.toUInt8))):=by
 refine PC.dZ Wv fun g w vs cX hg=>?_
 obtain⟨x,y,rfl,h1,h2⟩:=cX.fJ;obtain⟨b,rfl,rfl⟩:=h1.cL;obtain rfl:=h2.mI;refine(Tryz.strings_IndexByte b c w).mono ?_;rintro e w' ⟨rfl,rfl⟩;exact⟨_,rfl,Below.refl _ _,fun _ _=>RV.zj _ _⟩
theorem JZ(hW:W0 W)(s p:List UInt8)(hs:s.length<4294967281):PC P (gl W) 92 [.d (.str s),.d (.str p)] (.tuple [.d (.str (Lib.cut s p).1),.d (.str (Lib.cut s p).2.1),.d (.bool (Lib.cut s p).2.2)]):=by
 refine PC.dZ c55 fun g w vs cX hg=>?_
 obtain⟨x,y,rfl,h1,h2⟩:=cX.fJ;obtain⟨b,rfl,rfl⟩:=h1.cL;obtain⟨c,rfl,rfl⟩:=h2.cL;obtain⟨m,hm⟩:=vd hW hg;refine(Tryz.strings_Cut b c m w (by rw[Lib.size_eq];exact hs) hm).mono ?_;rintro e w' ⟨rfl,n,rfl⟩;refine⟨_,rfl,Below.Bk w n,fun _ _=>?_ ⟩;simp only[RV,aM];exact⟨_,rfl,RV.lU _,RV.lU _,RV.A1 _,trivial⟩
theorem td(sep:ByteArray)(h1:1<=sep.size):∀(n:Nat)(s:ByteArray),Lib.countB s sep=n->(Lib.splitB sep 0 n s).length=n+1
 |0,_,_=>rfl
 |n+1,s,h=>by
  rcases Lib.indexB_cases s sep with N_|⟨i,N_,_⟩
  ·rw[Lib.countB_miss s sep N_]at h;omega
  ·have:=Lib.countB_hit s sep i h1 N_;rw[Lib.splitB_hit sep 0 n s i N_,aaq,td sep h1 n _ (by omega)]
theorem IA(hW:W0 W)(s p:List UInt8)(hs:s.length<4294967281)(hp:1<=p.length):PC P (gl W) 164 [.d (.str s),.d (.str p)] (.d (c_ (Lib.split s p))):=by
 refine PC.dZ c143 fun g w vs cX hg=>?_
 obtain⟨x,y,rfl,h1,h2⟩:=cX.fJ;obtain⟨b,rfl,rfl⟩:=h1.cL;obtain⟨c,rfl,rfl⟩:=h2.cL;obtain⟨m,hm⟩:=vd hW hg;refine(Tryz.strings_Split b c m w (by rw[Lib.size_eq];exact hs) hm (by rw[Lib.size_eq];exact hp)).mono ?_;rintro e w' ⟨rfl,rfl⟩;refine⟨_,rfl,(Below.refl _ _).alloc (aaE _) _,fun _ zN=>?_ ⟩;have:=RV.xW (g:=g) (w:=w) (Lib.splitB c 0 (Lib.countB b c) b) 9 (0,0) (Lib.countB b c+1) (td c (by rw[Lib.size_eq];exact hp) _ b rfl).symm (zN _ (aaE _) (by simp));rw[Lib.splitB_data]at this;exact this
theorem tf(hW:W0 W)(hA:Lib.TabIs Tryz.prog W "strings.asciiSpace" .u8 Lib.asciiSpaceTab)(s:List UInt8)(hs:s.length<4294967281)(ha:∀(j:Nat) b,s[j]? =some b->b.toNat<128):PC P (gl W) 160 [.d (.str s)] (.d (c_ (Lib.fields s))):=by
 refine PC.dZ Ww fun g w vs cX hg=>?_
 obtain⟨x,rfl,h1⟩:=cX.mH;obtain⟨b,rfl,rfl⟩:=h1.cL;refine(Tryz.strings_Fields b w (by rw[Lib.size_eq];exact hs) ha (FC hW hA hg)).mono ?_;rintro e w' ⟨rfl,rfl⟩;refine⟨_,rfl,(Below.refl _ _).alloc (aaE _) _,fun _ zN=>?_ ⟩;have:=RV.xW (g:=g) (w:=w) ((Lib.fields b.data.toList).map fun l=>⟨l.toArray⟩) 9 (0,0) (Lib.fields b.data.toList).length (by simp) (by simpa[Function.comp_def]using zN _ (aaE _) (by simp));simpa[Function.comp_def]using this
theorem FD(l:List (List UInt8))(p:List UInt8)(hl:l.length<=140737488355328)(hlen:(Lib.join l p).length<=140737488355328):PC P (gl W) 65 [.d (c_ l),.d (.str p)] (.d (.str (Lib.join l p))):=by
 refine PC.dZ Qn fun g w vs cX hg=>?_
 obtain⟨x,y,rfl,h1,h2⟩:=cX.fJ;obtain⟨c,rfl,rfl⟩:=h2.cL;rcases h1.EU with⟨rfl,a,cc,rfl⟩|⟨aK,off,cap,xs,fp,rfl,En,Cz,rfl,hc⟩
 ·refine(Tryz.strings_Join_none a cc c w).mono ?_;rintro e w' ⟨rfl,rfl⟩;exact⟨_,rfl,Below.refl _ _,fun _ _=>by simp[RV,Rd,Lib.join]⟩
 ·refine(Tryz.strings_Join aK off cap xs c w hc Cz (by simpa using hl) En hlen).mono ?_;rintro e w' ⟨rfl,hb⟩;exact⟨_,rfl,hb,fun _ _=>RV.lU _⟩
theorem IB(p:List UInt8):PC P (gl W) 65 [.aj,.d (.str p)] (.d (.str [])):=by
 refine PC.dZ Qn fun g w vs cX hg=>?_
 obtain⟨x,y,rfl,h1,h2⟩:=cX.fJ;obtain⟨c,rfl,rfl⟩:=h2.cL;simp only[RV]at h1;subst h1;refine(Tryz.strings_Join_none _ 0 c w).mono ?_;rintro e w' ⟨rfl,rfl⟩;exact⟨_,rfl,Below.refl _ _,fun _ _=>by simp[RV,Rd]⟩
theorem Al(s:List UInt8)(c:UInt8)(hc:c.toNat<128):PC P (gl W) 286 [.d (.str s),.d (.str [c])] (.d (.str (Lib.trimLeftB s c))):=by
 refine PC.dZ Wx fun g w vs cX hg=>?_
 obtain⟨x,y,rfl,h1,h2⟩:=cX.fJ;obtain⟨b,rfl,rfl⟩:=h1.cL;obtain⟨q,rfl,hq⟩:=h2.cL;obtain rfl:q=⟨#[c]⟩:=by apply ByteArray.ext;exact aa3.1 (by simpa using hq)
 refine(Tryz.strings_TrimLeft_one b c hc w).mono ?_;rintro e w' ⟨rfl,rfl⟩;exact⟨_,rfl,Below.refl _ _,fun _ _=>RV.lU _⟩
theorem nZ(hW:W0 W)(n:Int)(h0: -9223372036854775808<=n)(h1:n<=9223372036854775807):PC P (gl W) 206 [.d (.int .i64 n)] (.d (.str (Lib.itoa n))):=by
 refine PC.dZ c79 fun g w vs cX hg=>?_
 obtain⟨x,rfl,k1⟩:=cX.mH;obtain rfl:=k1.mI;refine(Tryz.strconv_Itoa n h0 h1 w (yG hW hg)).mono ?_;rintro e w' ⟨rfl,k,os,rfl⟩;exact⟨_,rfl,Below.LF (Below.Bk w k) os,fun _ _=>RV.lU _⟩
def BE(s:List UInt8):V:=match Lib.atoiAll s with
 | .ok v=>.tuple [.d (.int .i64 v),.fA]
 | .range=>.tuple [.d (.int .i64 (Lib.atoiSat s)),.bD]
 | _=>.tuple [.d (.int .i64 0),.bD]
theorem FE(hW:W0 W)(s:List UInt8)(hs:s.length<=281474976710656):PC P (gl W) 312 [.d (.str s)] (BE s):=by
 refine PC.dZ c78 fun g w vs cX hg=>?_
 obtain⟨x,rfl,k1⟩:=cX.mH;obtain⟨b,rfl,rfl⟩:=k1.cL;have cG:b.size<=281474976710656:=by rw[Lib.size_eq];exact hs
 unfold BE;rcases hA:Lib.atoiAll b.data.toList with v|_|_
 ·refine(Tryz.strconv_Atoi_ok b (by omega) v hA w).mono ?_;rintro e w' ⟨rfl,hw⟩;refine⟨_,rfl,?_,fun _ _=>?_ ⟩
  ·rcases hw with rfl|⟨t,rfl⟩
   ·exact Below.refl _ _
   ·exact Lib.bytesWorld_below _ _ _
  ·simp only[RV,aM];exact⟨_,rfl,RV.zj _ _,rfl,trivial⟩
 ·obtain⟨ev,zQ,xB⟩:=hW.Wq;refine(Tryz.strconv_Atoi_syntax b cG hA ev w (by rw[nY hg (by have:=hW.size;omega)];exact zQ) xB).mono ?_;rintro e w' ⟨N,rfl,hN,_,hb⟩;refine⟨_,rfl,hb,fun _ _=>?_ ⟩;simp only[RV,aM];exact⟨_,rfl,RV.zj _ _,⟨_,_,rfl⟩,trivial⟩
 ·obtain⟨ev,zQ,xB⟩:=hW.rng;refine(Tryz.strconv_Atoi_range b cG hA ev w (by rw[nY hg (by have:=hW.size;omega)];exact zQ) xB).mono ?_;rintro e w' ⟨N,rfl,hN,_,hb⟩;refine⟨_,rfl,hb,fun _ _=>?_ ⟩;simp only[RV,aM];exact⟨_,rfl,RV.zj _ _,⟨_,_,rfl⟩,trivial⟩
end
end Fw.Tz
/-
  slices.Clone of an empty row; slices.Grow of nil: for any element.
-/
namespace Fw.Tz
open Go Go.Proofs
variable {W:World}
def dx(sz bytes:Nat):bL:=⟨1,8,[.t 2],.seq (.region [⟨some 2,.mv (.c .aj),none,[]⟩]) (.seq (.seq (.region [⟨some 3,.mv (.t 0),none,[]⟩,⟨some 4,.eq false .slice (.t 3) (.c .aj),none,[]⟩]) (.cond (.t 4) (.seq (.region [⟨some 2,.mv (.c .aj),none,[]⟩]) .ret) .skip)) (.seq (.region [⟨some 5,.mkSlice sz 0 [] [],none,[]⟩,⟨some 6,.mv (.t 0),none,[]⟩,⟨some 7,.append sz bytes (.t 5) (.t 6),none,[]⟩,⟨some 2,.mv (.t 7),none,[]⟩]) .ret))⟩
theorem eI{f sz bytes:Nat}(hs:0<sz)(hf:au P f=some (dx sz bytes))(hc:an P f=true):PC P (gl W) f [.d (.list [])] (.d (.list [])):=by
 have h0:sz≠0:=by omega
 refine PC.ofE rfl (WF.body hf hc (by simp[dx]) ?_ );simp only[dx,pZ];refine WC.seq (WC.dA (own:=[]) (by simp[jl,iX,aB,bw,aW,bB,dX,e8,a8,bn,dx];rfl) ?_ );refine WC.seq (WC.seq (WC.LG 1 (own:=[]) (by simp[jl,iX,aB,bw,aW,bB,dX,e8,a8,bn];rfl) ?_ ));refine WO.Bm (x:=.t 3) (y:=.c .aj) rfl rfl (by simp[aW,bB]) (by simp[aW,bB]) fun b=>?_
 refine⟨_,by simp[dX,e8,a8];rfl,WO.nil ?_ ⟩;cases b with
  |true=>refine WC.cond (t:=true) (by simp[aW,bB]) ?_;refine WC.seq (WC.dA (own:=[]) (by simp[jl,iX,aB,bw,aW,bB,dX,e8,a8,bn];rfl) (WC.ret ?_ ));exact⟨.aj,by simp[ij,dx,bS,gu,bB],.inl (by simp)⟩
  |false=>refine WC.cond (t:=false) (by simp[aW,bB]) (WC.skip ?_ );refine WC.seq (WC.dA (own:=[5]) (by simp[jl,iX,zU,aB,bw,jN,aW,bB,dX,e8,a8,bn,bE,dM,HY,LD,aA,eC,cf,eR,aR,h0];try rfl) (WC.ret ?_ ));exact⟨_,by simp[ij,dx,bS,gu,bB];rfl,.inr (by simp[gR,oe,kX,rO,aA,bS,fl,HY,LD])⟩
end Fw.Tz
