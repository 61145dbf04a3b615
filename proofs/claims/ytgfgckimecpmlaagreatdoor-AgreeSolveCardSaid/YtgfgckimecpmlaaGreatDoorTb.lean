/-
  linear.sum.result, further: the sort and the second loop.
-/
import Derived.Test.YtgfgckimecpmlaaGreatDoorTa
import Derived.Test.YtgfgckimecpmlaaGreatDoorFe
set_option linter.unusedSimpArgs false
set_option maxRecDepth 100000
set_option linter.unusedVariables false
/-
  linear.sum.result, as a whole.
-/
namespace Fw.Tz
open Go Go.Proofs Fw.X
variable {W:World}
mutual
theorem Em{b m:Nat}(hb:m<=b)(ds:List D):∀{u:V},au m u=true->bS b ds u=u
 | .ptr c _ _,hh=>by simp only[au,abb]at hh;simp only[bS,cB (show c≠b by omega),aaT]
 | .sl c _ _ _ _,hh=>by simp only[au,abb]at hh;simp only[bS,cB (show c≠b by omega),aaT]
 | .map c,hh=>by simp only[au,abb]at hh;simp only[bS,cB (show c≠b by omega),aaT]
 | .iter c _,hh=>by simp only[au,aaD,abb]at hh;simp only[bS,cB (show c≠b by omega),aaT]
 | .func _ a c,hh=>by simp only[au,aaD]at hh;simp only[bS,qZ hb ds hh.1,qZ hb ds hh.2]
 | .iface _ v,hh=>by simp only[au]at hh;simp only[bS,Em hb ds hh]
 | .agg cs,hh=>by simp only[au]at hh;simp only[bS,qZ hb ds hh]
 | .tuple cs,hh=>by simp only[au]at hh;simp only[bS,qZ hb ds hh]
 | .any,_=>rfl
 | .d _,_=>rfl
 | .full _,_=>rfl
 | .ad,_=>rfl
 | .mW,_=>rfl
 | .bB _,_=>rfl
 | .mX,_=>rfl
 | .rL,_=>rfl
 | .bN,_=>rfl
 | .gm,_=>rfl
theorem qZ{b m:Nat}(hb:m<=b)(ds:List D):∀{us:List V},av m us=true->jG b ds us=us|[],_=>rfl|v::vs,hh=>by simp only[av,aaD]at hh;simp only[jG,Em hb ds hh.1,qZ hb ds hh.2]
end
end Fw.Tz
/-
  slices.Grow of nil: an empty row with room.
-/
namespace Fw.Tz
open Go Go.Proofs Fw.X
variable {W:World}
theorem XF:ak P 118=true:=k_
theorem La:aC P 118=some f118:=k_
def sB(n:Nat):V:=if n=0 then .ad else .sl 1 0 0 0 3
def q_(n:Nat):ao:=if n=0 then[]else[none,some (.cells [])]
theorem RH(n:Nat)(hn:n<=2^30):WF P (gl W) 118 [.ad,.d (.int .i64 n)] [] (fun v H'=>v=sB n/\H'=q_ n):=by
 have hw:IntKind.i64.wrap (n:Int)=n:=by rw[IntKind.wrap_i64];omega
 have Ob:¬((n:Int)<0):=by omega
 have XG:IntKind.i64.wrap 0=0:=rfl;refine WF.kb (WF.body La XF (by simp[f118]) ?_ );show WC P (gl W) (.seq (.region f118.r0) (.seq (.seq (.region f118.r1) (.cond (.t 6) (.region f118.r2) .skip)) (.seq (.seq (.region f118.r3) (.seq (.region f118.r4) (.cond (.t 16) (.region f118.r5) .skip))) (.seq (.region f118.r6) .ret)))) ⟨27,[(0,.ad),(1,.d (.int .i64 n))],[]⟩ _;refine WC.seq (WC.xq (own:=[]) (by simp[f118.r0,e9,dv,aA,bE,aZ,aX,cu,cY,bc,br];rfl) ?_ );refine WC.seq (WC.seq (WC.xq (own:=[]) (by simp[f118.r1,e9,dv,aA,bE,aZ,aX,cu,cY,bc,br,mJ,ou,Ob];rfl) ?_ ));refine WC.cond (t:=false) (by simp[aZ,aX]) (WC.skip ?_ );refine WC.seq (WC.seq (WC.xq (own:=[]) (by simp[f118.r3,e9,dv,aA,bE,aZ,aX,cu,cY,bc,br,mJ,ou,iw,hw,XG];rfl) ?_ ));refine WC.seq (WC.xq (own:=[]) (by simp[f118.r4,e9,dv,aA,bE,aZ,aX,cu,cY,bc,br,mJ,ou];rfl) ?_ );by_cases h0:n=0
 ·subst h0;refine WC.cond (t:=false) (by simp[aZ,aX]) (WC.skip ?_ );refine WC.seq (WC.xq (own:=[]) (by simp[f118.r6,e9,dv,aA,bE,aZ,aX,cu,cY,bc,br];rfl) (WC.ret ?_ ));refine⟨.ad,by simp[gH,f118,bW,fB,aX],_,an.refl _ _,by simp[aX,sB],rfl⟩
 ·have pD:0<n:=by omega
  have qt:n*57<=1099511627776:=by omega
  have C6:n<=1099511627776:=by omega
  refine WC.cond (t:=true) (by simp[aZ,aX];omega) ?_;refine WC.xq (own:=[]) (by simp[f118.r5,e9,dv,aA,bE,aZ,aX,cu,cY,bc,br,iw,bounds,ct,Kl,Km,Kn,pD,qt,C6,bI,eK,bJ,ff,aF,yc];rfl) ?_;refine WC.seq (WC.xq (own:=[]) (by simp[f118.r6,e9,dv,aA,bE,aZ,aX,cu,cY,bc,br];rfl) (WC.ret ?_ ));refine⟨.sl 0 (n*3) 0 0 3,by simp[gH,f118,bW,fB,aX],⟨1,[(0,.sl 1 0 0 0 3)],[none,some (.cells [])]⟩,?_,by simp[aX,sB,h0],by simp[q_,h0]⟩;rcases an.shrink (h:=n*3) (sz:=3) (cs:=(List.range (n*3)).map fun i=>[V.d (.str []),.d (.str []),.ad].getD (i%3) .any)with h|h
  ·simpa using h
  ·exact absurd (by simp) h
end Fw.Tz
/-
  slices.Clone of an empty row of coefficients.
-/
namespace Fw.Tz
open Go Go.Proofs Fw.X
variable {W:World}
theorem Lb:aC P 170=some f170:=k_
theorem XH:ak P 170=true:=k_
theorem xL:PC P (gl W) 170 [.d (.list [])] (.d (.list [])):=by
 refine PC.ofE rfl (WF.body Lb XH (by simp[f170]) ?_ );show WC P (gl W) (.seq (.region f170.r0) (.seq (.seq (.region f170.r1) (.cond (.t 4) (.seq (.region f170.r2) .ret) .skip)) (.seq (.region f170.r3) .ret))) ⟨8,[(0,.d (.list []))],[]⟩ _;refine WC.seq (WC.xq (own:=[]) (by simp[f170.r0,e9,dv,aA,bE,aZ,aX,cu,cY,bc,br];rfl) ?_ );refine WC.seq (WC.seq (WC.WW 1 (own:=[]) (by simp[f170.r1,e9,dv,aA,bE,aZ,aX,cu,cY,bc,br];rfl) ?_ ));refine WO.Kp (x:=.t 3) (y:=.c .ad) rfl rfl (by simp[aZ,aX]) (by simp[aZ,aX]) fun b=>?_
 refine⟨_,by simp[cu,cY,bc];rfl,WO.nil ?_ ⟩;cases b with
  |true=>refine WC.cond (t:=true) (by simp[aZ,aX]) ?_;refine WC.seq (WC.xq (own:=[]) (by simp[f170.r2,e9,dv,aA,bE,aZ,aX,cu,cY,bc,br];rfl) (WC.ret ?_ ));exact⟨.ad,by simp[gH,f170,bW,fB,aX],.inl ⟨rfl,rfl⟩⟩
  |false=>refine WC.cond (t:=false) (by simp[aZ,aX]) (WC.skip ?_ );refine WC.seq (WC.xq (own:=[5]) (by simp[f170.r3,e9,dv,Cb,aA,bE,jo,aZ,aX,cu,cY,bc,br,bt,dr,Kl,Km,aF,eK,bI];rfl) (WC.ret ?_ ));exact⟨_,by simp[gH,f170,bW,fB,aX];rfl,.inr (by simp[fc];rfl)⟩
end Fw.Tz
