/-
  The library's functions of this program, as calls that touch nothing.
-/
import Derived.Test.YtpeomfjbcdahnaaGreatDoorFe
import Derived.Test.YtpeomfjbcdahnaaGreatDoorShelf
set_option linter.unusedSimpArgs false
set_option maxRecDepth 100000
set_option linter.unusedVariables false
namespace Fw.Tz
open Go Go.Proofs Go.RowKit Go.Lib
noncomputable abbrev P:Program:=Tryz.prog
structure W0 (W:World):Prop where
 size:7<W.heap.size
 maxLen:∃m,W.cell? ⟨1,0,none⟩=some (.int .i64 m)
 Qk:Lib.TabIs Tryz.prog W "internal/strconv.uint64pow10" .u64 Lib.pow10Tab
 FD:Lib.TabIs Tryz.prog W "strings.asciiSpace" .u8 Lib.asciiSpaceTab
 Wb:∃ev,W.cell? ⟨6,0,none⟩=some ev/\(ev=.nilIface\/∃te pe,ev=.iface te pe)
 rng:∃ev,W.cell? ⟨7,0,none⟩=some ev/\(ev=.nilIface\/∃te pe,ev=.iface te pe)
def gl(W:World):bM:=⟨fun _=>none,W⟩
section
variable {W:World}
variable {w:World}
theorem oo{g:G}(hg:dX (gl W) g w){k o:Nat}(hk:k<W.heap.size):w.cell? ⟨k,o,none⟩=W.cell? ⟨k,o,none⟩:=by have:=(hg.w0 k hk).2;simp only[gl]at this;simp[World.cell?,this]
theorem Me{name:String}{n:Nat}(hn:Tryz.prog.globalNamed name=some n){w':World}(h:w.heap[n]? =w'.heap[n]? ):w.var? Tryz.prog name=w'.var? Tryz.prog name:=by simp only[World.var?,hn,Option.bind_some,h]
theorem vl{g:G}(hg:dX (gl W) g w){name:String}{n:Nat}(hn:Tryz.prog.globalNamed name=some n)(hk:n<W.heap.size):w.var? Tryz.prog name=W.var? Tryz.prog name:=Me hn (hg.w0 n hk).2
theorem FE(hW:W0 W)(hA:Lib.TabIs Tryz.prog W "strings.asciiSpace" .u8 Lib.asciiSpaceTab){g:G}(hg:dX (gl W) g w):Lib.TabIs Tryz.prog w "strings.asciiSpace" .u8 Lib.asciiSpaceTab:=by unfold Lib.TabIs;rw[vl hg (n:=0) k_ (by have:=hW.size;omega)];exact hA
theorem yL(hW:W0 W){g:G}(hg:dX (gl W) g w):Lib.TabIs Tryz.prog w "internal/strconv.uint64pow10" .u64 Lib.pow10Tab:=by unfold Lib.TabIs;rw[vl hg (n:=3) k_ (by have:=hW.size;omega)];exact hW.Qk
theorem vm(hW:W0 W){g:G}(hg:dX (gl W) g w):∃m,w.cell? ⟨1,0,none⟩=some (.int .i64 m):=by obtain⟨m,hm⟩:=hW.maxLen;exact⟨m,by rw[oo hg (by have:=hW.size;omega)];exact hm⟩
theorem c77:al P 287=true:=k_
theorem Wc:al P 212=true:=k_
theorem Wd:al P 161=true:=k_
theorem We:al P 278=true:=k_
theorem Wf:al P 221=true:=k_
theorem c55:al P 92=true:=k_
theorem Wg:al P 160=true:=k_
theorem c143:al P 164=true:=k_
theorem Ql:al P 65=true:=k_
theorem Wh:al P 286=true:=k_
theorem c79:al P 206=true:=k_
theorem c78:al P 312=true:=k_
theorem yM(s p:List UInt8):PC P (gl W) 287 [.d (.str s),.d (.str p)] (.d (.bool (Lib.hasPrefix s p))):=by
 refine PC.dY c77 fun g w vs cX hg=>?_
 obtain⟨x,y,rfl,h1,h2⟩:=cX.fH;obtain⟨b,rfl,rfl⟩:=h1.cJ;obtain⟨c,rfl,rfl⟩:=h2.cJ;refine(Tryz.strings_HasPrefix b c w).mono ?_;rintro e w' ⟨rfl,rfl⟩;exact⟨_,rfl,Below.refl _ _,fun _ _=>RV.A_ _⟩
theorem pM(s p:List UInt8)(hs:s.length<=9223372036854775807):PC P (gl W) 212 [.d (.str s),.d (.str p)] (.d (.str (Lib.trimSuffix s p))):=by
 refine PC.dY Wc fun g w vs cX hg=>?_
 obtain⟨x,y,rfl,h1,h2⟩:=cX.fH;obtain⟨b,rfl,rfl⟩:=h1.cJ;obtain⟨c,rfl,rfl⟩:=h2.cJ;refine(Tryz.strings_TrimSuffix b c w (by rw[Lib.size_eq];exact hs)).mono ?_;rintro e w' ⟨rfl,rfl⟩;exact⟨_,rfl,Below.refl _ _,fun _ _=>RV.l5 _⟩
theorem yN(s p:List UInt8):PC P (gl W) 161 [.d (.str s),.d (.str p)] (.tuple [.d (.str (Lib.trimPrefix s p)),.d (.bool (Lib.hasPrefix s p))]):=by
 refine PC.dY Wd fun g w vs cX hg=>?_
 obtain⟨x,y,rfl,h1,h2⟩:=cX.fH;obtain⟨b,rfl,rfl⟩:=h1.cJ;obtain⟨c,rfl,rfl⟩:=h2.cJ;refine(Tryz.strings_CutPrefix b c w).mono ?_;rintro e w' ⟨rfl,rfl⟩;refine⟨_,rfl,Below.refl _ _,fun _ _=>?_ ⟩;simp only[RV];exact⟨_,rfl,RV.l5 _,RV.A_ _,trivial⟩
theorem yO(s p:List UInt8)(hs:s.length<=9223372036854775807):PC P (gl W) 278 [.d (.str s),.d (.str p)] (.tuple [.d (.str (Lib.trimSuffix s p)),.d (.bool (Lib.hasSuffix s p))]):=by
 refine PC.dY We fun g w vs cX hg=>?_
 obtain⟨x,y,rfl,h1,h2⟩:=cX.fH;obtain⟨b,rfl,rfl⟩:=h1.cJ;obtain⟨c,rfl,rfl⟩:=h2.cJ;refine(Tryz.strings_CutSuffix b c w (by rw[Lib.size_eq];exact hs)).mono ?_;rintro e w' ⟨rfl,rfl⟩;refine⟨_,rfl,Below.refl _ _,fun _ _=>?_ ⟩;simp only[RV];exact⟨_,rfl,RV.l5 _,RV.A_ _,trivial⟩
theorem yP(s:List UInt8)(c:Int):PC P (gl W) 221 [.d (.str s),.d (.int .u8 c)] (.d (.int .i64 (Lib.indexByte s c.toNat.toUInt8))):=by
 refine PC.dY Wf fun g w vs cX hg=>?_
 obtain⟨x,y,rfl,h1,h2⟩:=cX.fH;obtain⟨b,rfl,rfl⟩:=h1.cJ;obtain rfl:=h2.rT;refine(Tryz.strings_IndexByte b c w).mono ?_;rintro e w' ⟨rfl,rfl⟩;exact⟨_,rfl,Below.refl _ _,fun _ _=>RV.zp _ _⟩
theorem J0(hW:W0 W)(s p:List UInt8)(hs:s.length<4294967281):PC P (gl W) 92 [.d (.str s),.d (.str p)] (.tuple [.d (.str (Lib.cut s p).1),.d (.str (Lib.cut s p).2.1),.d (.bool (Lib.cut s p).2.2)]):=by
 refine PC.dY c55 fun g w vs cX hg=>?_
 obtain⟨x,y,rfl,h1,h2⟩:=cX.fH;obtain⟨b,rfl,rfl⟩:=h1.cJ;obtain⟨c,rfl,rfl⟩:=h2.cJ;obtain⟨m,hm⟩:=vm hW hg;refine(Tryz.strings_Cut b c m w (by rw[Lib.size_eq];exact hs) hm).mono ?_;rintro e w' ⟨rfl,n,rfl⟩;refine⟨_,rfl,Below.By w n,fun _ _=>?_ ⟩;simp only[RV,aN];exact⟨_,rfl,RV.l5 _,RV.l5 _,RV.A_ _,trivial⟩
theorem tx(sep:ByteArray)(h1:1<=sep.size):∀(n:Nat)(s:ByteArray),Lib.countB s sep=n->(Lib.splitB sep 0 n s).length=n+1
 |0,_,_=>rfl
 |n+1,s,h=>by
  rcases Lib.indexB_cases s sep with Oc|⟨i,Oc,_⟩
  ·rw[Lib.countB_miss s sep Oc]at h;omega
  ·have:=Lib.countB_hit s sep i h1 Oc;rw[Lib.splitB_hit sep 0 n s i Oc,aap,tx sep h1 n _ (by omega)]
theorem IG(hW:W0 W)(s p:List UInt8)(hs:s.length<4294967281)(hp:1<=p.length):PC P (gl W) 164 [.d (.str s),.d (.str p)] (.d (cT (Lib.split s p))):=by
 refine PC.dY c143 fun g w vs cX hg=>?_
 obtain⟨x,y,rfl,h1,h2⟩:=cX.fH;obtain⟨b,rfl,rfl⟩:=h1.cJ;obtain⟨c,rfl,rfl⟩:=h2.cJ;obtain⟨m,hm⟩:=vm hW hg;refine(Tryz.strings_Split b c m w (by rw[Lib.size_eq];exact hs) hm (by rw[Lib.size_eq];exact hp)).mono ?_;rintro e w' ⟨rfl,rfl⟩;refine⟨_,rfl,(Below.refl _ _).alloc (aaC _) _,fun _ zV=>?_ ⟩;have:=RV.x4 (g:=g) (w:=w) (Lib.splitB c 0 (Lib.countB b c) b) 9 (0,0) (Lib.countB b c+1) (tx c (by rw[Lib.size_eq];exact hp) _ b rfl).symm (zV _ (aaC _) (by simp));rw[Lib.splitB_data]at this;exact this
theorem tz(hW:W0 W)(hA:Lib.TabIs Tryz.prog W "strings.asciiSpace" .u8 Lib.asciiSpaceTab)(s:List UInt8)(hs:s.length<4294967281)(ha:∀(j:Nat) b,s[j]? =some b->b.toNat<128):PC P (gl W) 160 [.d (.str s)] (.d (cT (Lib.fields s))):=by
 refine PC.dY Wg fun g w vs cX hg=>?_
 obtain⟨x,rfl,h1⟩:=cX.mP;obtain⟨b,rfl,rfl⟩:=h1.cJ;refine(Tryz.strings_Fields b w (by rw[Lib.size_eq];exact hs) ha (FE hW hA hg)).mono ?_;rintro e w' ⟨rfl,rfl⟩;refine⟨_,rfl,(Below.refl _ _).alloc (aaC _) _,fun _ zV=>?_ ⟩;have:=RV.x4 (g:=g) (w:=w) ((Lib.fields b.data.toList).map fun l=>⟨l.toArray⟩) 9 (0,0) (Lib.fields b.data.toList).length (by simp) (by simpa[Function.comp_def]using zV _ (aaC _) (by simp));simpa[Function.comp_def]using this
theorem FF(l:List (List UInt8))(p:List UInt8)(hl:l.length<=140737488355328)(hlen:(Lib.join l p).length<=140737488355328):PC P (gl W) 65 [.d (cT l),.d (.str p)] (.d (.str (Lib.join l p))):=by
 refine PC.dY Ql fun g w vs cX hg=>?_
 obtain⟨x,y,rfl,h1,h2⟩:=cX.fH;obtain⟨c,rfl,rfl⟩:=h2.cJ;rcases h1.EY with⟨rfl,a,cc,rfl⟩|⟨aM,off,cap,xs,hO,rfl,HK,CL,rfl,hc⟩
 ·refine(Tryz.strings_Join_none a cc c w).mono ?_;rintro e w' ⟨rfl,rfl⟩;exact⟨_,rfl,Below.refl _ _,fun _ _=>by simp[RV,Rd,Lib.join]⟩
 ·refine(Tryz.strings_Join aM off cap xs c w hc CL (by simpa using hl) HK hlen).mono ?_;rintro e w' ⟨rfl,hb⟩;exact⟨_,rfl,hb,fun _ _=>RV.l5 _⟩
theorem IH(p:List UInt8):PC P (gl W) 65 [.ak,.d (.str p)] (.d (.str [])):=by
 refine PC.dY Ql fun g w vs cX hg=>?_
 obtain⟨x,y,rfl,h1,h2⟩:=cX.fH;obtain⟨c,rfl,rfl⟩:=h2.cJ;simp only[RV]at h1;subst h1;refine(Tryz.strings_Join_none _ 0 c w).mono ?_;rintro e w' ⟨rfl,rfl⟩;exact⟨_,rfl,Below.refl _ _,fun _ _=>by simp[RV,Rd]⟩
theorem AB(s:List UInt8)(c:UInt8)(hc:c.toNat<128):PC P (gl W) 286 [.d (.str s),.d (.str [c])] (.d (.str (Lib.trimLeftB s c))):=by
 refine PC.dY Wh fun g w vs cX hg=>?_
 obtain⟨x,y,rfl,h1,h2⟩:=cX.fH;obtain⟨b,rfl,rfl⟩:=h1.cJ;obtain⟨q,rfl,hq⟩:=h2.cJ;obtain rfl:q=⟨#[c]⟩:=by apply ByteArray.ext;exact aa7.1 (by simpa using hq)
 refine(Tryz.strings_TrimLeft_one b c hc w).mono ?_;rintro e w' ⟨rfl,rfl⟩;exact⟨_,rfl,Below.refl _ _,fun _ _=>RV.l5 _⟩
theorem oq(hW:W0 W)(n:Int)(h0: -9223372036854775808<=n)(h1:n<=9223372036854775807):PC P (gl W) 206 [.d (.int .i64 n)] (.d (.str (Lib.itoa n))):=by
 refine PC.dY c79 fun g w vs cX hg=>?_
 obtain⟨x,rfl,k1⟩:=cX.mP;obtain rfl:=k1.rT;refine(Tryz.strconv_Itoa n h0 h1 w (yL hW hg)).mono ?_;rintro e w' ⟨rfl,k,os,rfl⟩;exact⟨_,rfl,Below.LI (Below.By w k) os,fun _ _=>RV.l5 _⟩
def BS(s:List UInt8):V:=match Lib.atoiAll s with
 | .ok v=>.tuple [.d (.int .i64 v),.fy]
 | .range=>.tuple [.d (.int .i64 (Lib.atoiSat s)),.bz]
 | _=>.tuple [.d (.int .i64 0),.bz]
theorem FG(hW:W0 W)(s:List UInt8)(hs:s.length<=281474976710656):PC P (gl W) 312 [.d (.str s)] (BS s):=by
 refine PC.dY c78 fun g w vs cX hg=>?_
 obtain⟨x,rfl,k1⟩:=cX.mP;obtain⟨b,rfl,rfl⟩:=k1.cJ;have cH:b.size<=281474976710656:=by rw[Lib.size_eq];exact hs
 unfold BS;rcases hA:Lib.atoiAll b.data.toList with v|_|_
 ·refine(Tryz.strconv_Atoi_ok b (by omega) v hA w).mono ?_;rintro e w' ⟨rfl,hw⟩;refine⟨_,rfl,?_,fun _ _=>?_ ⟩
  ·rcases hw with rfl|⟨t,rfl⟩
   ·exact Below.refl _ _
   ·exact Lib.bytesWorld_below _ _ _
  ·simp only[RV,aN];exact⟨_,rfl,RV.zp _ _,rfl,trivial⟩
 ·obtain⟨ev,v_,rN⟩:=hW.Wb;refine(Tryz.strconv_Atoi_syntax b cH hA ev w (by rw[oo hg (by have:=hW.size;omega)];exact v_) rN).mono ?_;rintro e w' ⟨N,rfl,hN,_,hb⟩;refine⟨_,rfl,hb,fun _ _=>?_ ⟩;simp only[RV,aN];exact⟨_,rfl,RV.zp _ _,⟨_,_,rfl⟩,trivial⟩
 ·obtain⟨ev,v_,rN⟩:=hW.rng;refine(Tryz.strconv_Atoi_range b cH hA ev w (by rw[oo hg (by have:=hW.size;omega)];exact v_) rN).mono ?_;rintro e w' ⟨N,rfl,hN,_,hb⟩;refine⟨_,rfl,hb,fun _ _=>?_ ⟩;simp only[RV,aN];exact⟨_,rfl,RV.zp _ _,⟨_,_,rfl⟩,trivial⟩
end
end Fw.Tz
/-
  slices.Clone of an empty row; slices.Grow of nil: for any element.
-/
namespace Fw.Tz
open Go Go.Proofs
variable {W:World}
def fP(sz bytes:Nat):bL:=⟨1,8,[.t 2],.seq (.region [⟨some 2,.mv (.c .ak),none,[]⟩]) (.seq (.seq (.region [⟨some 3,.mv (.t 0),none,[]⟩,⟨some 4,.eq false .slice (.t 3) (.c .ak),none,[]⟩]) (.cond (.t 4) (.seq (.region [⟨some 2,.mv (.c .ak),none,[]⟩]) .ret) .skip)) (.seq (.region [⟨some 5,.mkSlice sz 0 [] [],none,[]⟩,⟨some 6,.mv (.t 0),none,[]⟩,⟨some 7,.append sz bytes (.t 5) (.t 6),none,[]⟩,⟨some 2,.mv (.t 7),none,[]⟩]) .ret))⟩
theorem fq{f sz bytes:Nat}(hs:0<sz)(hf:au P f=some (fP sz bytes))(hc:al P f=true):PC P (gl W) f [.d (.list [])] (.d (.list [])):=by
 have h0:sz≠0:=by omega
 refine PC.ofE rfl (WF.body hf hc (by simp[fP]) ?_ );simp only[fP,ry];refine WC.seq (WC.dt (own:=[]) (by simp[kY,nZ,aB,bt,aT,dy,lZ,px,bB,bp,fP];rfl) ?_ );refine WC.seq (WC.seq (WC.VD 1 (own:=[]) (by simp[kY,nZ,aB,bt,aT,dy,lZ,px,bB,bp];rfl) ?_ ));refine WO.HY (x:=.t 3) (y:=.c .ak) rfl rfl (by simp[aT,dy]) (by simp[aT,dy]) fun b=>?_
 refine⟨_,by simp[lZ,px,bB];rfl,WO.nil ?_ ⟩;cases b with
  |true=>refine WC.cond (t:=true) (by simp[aT,dy]) ?_;refine WC.seq (WC.dt (own:=[]) (by simp[kY,nZ,aB,bt,aT,dy,lZ,px,bB,bp];rfl) (WC.ret ?_ ));exact⟨.ak,by simp[h_,fP,bS,iW,dy],.inl (by simp)⟩
  |false=>refine WC.cond (t:=false) (by simp[aT,dy]) (WC.skip ?_ );refine WC.seq (WC.dt (own:=[5]) (by simp[kY,nZ,zu,aB,bt,jQ,aT,dy,lZ,px,bB,bp,bO,dG,LG,LH,aC,eL,cf,fg,aR,h0];try rfl) (WC.ret ?_ ));exact⟨_,by simp[h_,fP,bS,iW,dy];rfl,.inr (by simp[fA,oQ,lr,sc,aC,bS,fY,LG,LH])⟩
end Fw.Tz
