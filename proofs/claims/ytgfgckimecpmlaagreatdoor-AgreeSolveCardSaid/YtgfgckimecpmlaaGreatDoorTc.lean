/-
  What a run of closed calls leans on: the library's functions, the sums, the sort; all as tables that reckon.
-/
import Derived.Test.YtgfgckimecpmlaaGreatDoorTb
import Derived.Test.YtgfgckimecpmlaaGreatDoorFf
set_option linter.unusedSimpArgs false
set_option maxRecDepth 100000
set_option linter.unusedVariables false
namespace Fw.Tz
open Go Go.Proofs Fw.X
variable {W:World}
variable {H H':ao}{f:FuncId}{v:V}
theorem eU:∀(x y:List UInt8),Fw.bytesLess x y=decide (x<y)
 |x,[]=>by
  cases x with
   |nil=>rfl
   |cons a x=>simp[Fw.bytesLess]
 |[],b::y=>by simp[Fw.bytesLess]
 |a::x,b::y=>by
  simp only[Fw.bytesLess,eU x y];simp only[List.cons_lt_cons_iff];by_cases h1:a.toNat<b.toNat
  ·have e1:Nat.blt a.toNat b.toNat=true:=by simpa[abb]using h1
   have:a<b:=by simpa[UInt8.lt_iff_toNat_lt]using h1
   simp[e1,this]
  ·have e1:Nat.blt a.toNat b.toNat=false:=by
    cases hb:Nat.blt a.toNat b.toNat
    ·rfl
    ·rw[abb]at hb;exact absurd hb h1
   have hn:¬a<b:=by simpa[UInt8.lt_iff_toNat_lt]using h1
   rw[e1,aaT];by_cases h2:a=b
   ·subst h2;simp[hn]
   ·have:Nat.beq a.toNat b.toNat=false:=cB (fun e=>h2 (acy.1 e));simp[this,hn,h2]
def rh:List (List D)->Option (List (List UInt8))
 |[]=>some []
 |[.str s]::l=>
  match rh l with
   |some ss=>some (s::ss)
   |none=>none
 |_=>none
theorem vA:∀{l:List (List D)}{ss:List (List UInt8)},rh l=some ss->D.list l=qJ ss
 |[],ss,h=>by simp only[rh,aaC]at h;subst h;rfl
 |v::l,ss,h=>by
  unfold rh at h;split at h
  ·rename_i e;cases e
  ·rename_i s l' heq;split at h
   ·rename_i ss' Nl;simp only[aaC]at h;subst h;simp only[ac7]at heq;obtain⟨rfl,rfl⟩:=heq;have:=vA Nl;simp[qJ]at this⊢;exact this
   ·cases h
  ·cases h
def Lc:NH:=[(172,fun args=>match args with|[.d (.str s),.d (.str p)]=>some (.d (.bool (Lib.hasPrefix s p)))|_=>none),(275,fun args=>match args with|[.d (.str s),.d (.str p)]=>bif Nat.ble s.length 1048576 then some (.d (.str (Lib.trimSuffix s p)))else none|_=>none),(161,fun args=>match args with|[.d (.str s),.d (.str p)]=>some (.tuple [.d (.str (Lib.trimPrefix s p)),.d (.bool (Lib.hasPrefix s p))])|_=>none),(235,fun args=>match args with|[.d (.str s),.d (.str p)]=>bif Nat.ble s.length 1048576 then some (.tuple [.d (.str (Lib.trimSuffix s p)),.d (.bool (Lib.hasSuffix s p))])else none|_=>none),(167,fun args=>match args with|[.d (.str s),.d (.int .u8 c)]=>some (.d (.int .i64 (Lib.indexByte s c.toNat.toUInt8)))|_=>none),(160,fun args=>match args with|[.d (.str s),.d (.str p)]=>bif Nat.ble s.length 1048576 then some (.tuple [.d (.str (Lib.cut s p).1),.d (.str (Lib.cut s p).2.1),.d (.bool (Lib.cut s p).2.2)])else none|_=>none),(163,fun args=>match args with|[.d (.str s),.d (.str p)]=>bif Nat.ble s.length 1048576&&Nat.ble 1 p.length then some (.d (qJ (Lib.split s p)))else none|_=>none),(273,fun args=>match args with|[.ad,.d (.str _)]=>some (.d (.str []))|[.d (.list l),.d (.str p)]=>(match rh l with|some ss=>bif Nat.ble ss.length 1048576&&Nat.ble (Lib.join ss p).length 1048576 then some (.d (.str (Lib.join ss p)))else none|none=>none)|_=>none),(271,fun args=>match args with|[.d (.str s),.d (.str [c])]=>bif Nat.blt c.toNat 128 then some (.d (.str (Lib.trimLeftB s c)))else none|_=>none),(107,fun args=>match args with|[.d (.int .i64 (.ofNat n))]=>bif Nat.ble n 1048576 then some (.d (.str (Lib.itoa (.ofNat n))))else none|[.d (.int .i64 (.negSucc n))]=>bif Nat.ble n 1048576 then some (.d (.str (Lib.itoa (.negSucc n))))else none|_=>none),(173,fun args=>match args with|[.d (.str s)]=>bif Nat.ble s.length 1048576 then some (Ek s)else none|_=>none),(170,fun args=>match args with|[.d (.list [])]=>some (.d (.list []))|_=>none)]
theorem gj{c:Bool}{α:Type}{a b:α}(h:(bif c then some a else none)=some b):c=true/\a=b:=by
 cases c with
  |true=>simp at h;exact⟨rfl,h⟩
  |false=>simp at h
theorem En(hW:W0 W):bH P (gl W) (pr Lc):=by
 refine QB fun p hp args v h=>?_
 simp only[Lc,aa7,acL,or_false]at hp;rcases hp with rfl|rfl|rfl|rfl|rfl|rfl|rfl|rfl|rfl|rfl|rfl|rfl<;>simp only at h⊢ <;>(try split at h)<;>(try (cases h;done))
 ·simp only[aaC]at h;subst h;exact A1 _ _
 ·obtain⟨c,rfl⟩:=gj h;exact yT _ _ (by have:=aaN c;omega)
 ·simp only[aaC]at h;subst h;exact A2 _ _
 ·obtain⟨c,rfl⟩:=gj h;exact A3 _ _ (by have:=aaN c;omega)
 ·simp only[aaC]at h;subst h;exact A4 _ _
 ·obtain⟨c,rfl⟩:=gj h;exact RG hW _ _ (by have:=aaN c;omega)
 ·obtain⟨c,rfl⟩:=gj h;simp only[aaD]at c;exact K9 hW _ _ (by have:=aaN c.1;omega) (aaN c.2)
 ·simp only[aaC]at h;subst h;exact K_ _
 ·split at h
  ·rename_i ss hss;obtain⟨c,rfl⟩:=gj h;simp only[aaD]at c;rw[vA hss];exact Oa _ _ (by have:=aaN c.1;omega) (by have:=aaN c.2;omega)
  ·cases h
 ·obtain⟨c,rfl⟩:=gj h;exact C4 _ _ (by rwa[abb]at c)
 ·obtain⟨c,rfl⟩:=gj h;have:=aaN c;exact C5 hW _ (by first|omega|(simp;done)|(simp;omega)) (by first|omega|(simp;done)|(simp;omega))
 ·obtain⟨c,rfl⟩:=gj h;have:=aaN c;exact C5 hW _ (by omega) (by omega)
 ·obtain⟨c,rfl⟩:=gj h;exact Ii hW _ (by have:=aaN c;omega)
 ·simp only[aaC]at h;subst h;exact xL
def bfs:List FuncId:=[165,89,59,51,143,273,172,275,161,235,42,97,108,232]
def Ij(f:FuncId):List FuncId->Bool|[]=>false|x::l=>bif Nat.beq x f then true else Ij f l
def XI(aE:ba)(f:FuncId)(args:List V)(H:ao):Option (V×ao):=bif Ij f bfs&& !(av 0 args)then
 match bW (qm H) args with
  |some d=>
   match aE f d with
    |some v=>bif Al v then some (v,H)else none
    |none=>none
  |none=>none else none
theorem Oc{aE:ba}(hp:bH P (gl W) aE){args:List V}(h:XI aE f args H=some (v,H')):WF P (gl W) f args H (fun r k=>r=v/\k=H'):=by
 unfold XI at h;cases hr:(Ij f bfs&& !(av 0 args))with
  |false=>rw[hr]at h;cases h
  |true=>
   rw[hr]at h;simp only[aaJ]at h;split at h
   ·rename_i d hd;split at h
    ·rename_i x hx;cases hs:Al x with
      |false=>rw[hs]at h;cases h
      |true=>rw[hs]at h;simp only[aaJ,aaC,aaE]at h;obtain⟨rfl,rfl⟩:=h;exact WF.borrow hd (hp _ _ _ hx) hs ⟨rfl,rfl⟩
    ·cases h
   ·cases h
def ffs:List FuncId:=[94,203,149,150,175,110,48]
def slB:V->Option Nat| .sl b _ _ _ _=>some b|_=>none
def XJ:V->Option Nat| .sl b _ _ _ _=>some b| .agg cs=>cs.findSome? slB|_=>none
def ri:Nat->List V->ao->Option (List V×ao)
 |0,_,_=>none
 |n+1,args,H=>
  match args.findSome? XJ with
   |none=>some (args,H)
   |some b=>
    match wN H b with
     |some ds=>bif (iA b ds 0 H).all jY then ri n (jG b ds args) (iA b ds 0 H)else none
     |none=>none
def XK(aE:ba)(f:FuncId)(args:List V)(H:ao):Option (V×ao):=bif Ij f ffs&& !(av 0 args)then
 match ri 9 args H with
  |some (a,H')=>
   match aE f a with
    |some v=>some (v,H')
    |none=>none
  |none=>none else none
theorem WF.FQ{args:List V}{Q:V->ao->Prop}{b:Nat}{ds:List D}{GL:ch}(hb:wN H b=some ds)(iL:(iA b ds 0 H).all jY=true)(h:WF P GL f (jG b ds args) (iA b ds 0 H) Q):WF P GL f args H Q:=by refine⟨h.1,fun g w vs dU hh hg=>?_ ⟩;have he:cg g w (g.del b) w:=cg.qh g w (cg.refl _ _);refine(h.2 (g.del b) w vs (aT.qh (G' hh hb) _ _ dU) (hh.qh hb iL) (hg.ext he)).mono ?_;rintro e w' ⟨x,v,g',H',rfl,hq,hx,ti,U7⟩;exact⟨x,v,g',H',rfl,hq,hx,ti,he.trans U7⟩
theorem vC{f:FuncId}{Q:V->ao->Prop}{GL:ch}:∀{n:Nat}{args:List V}{H:ao}{a:List V}{H':ao},ri n args H=some (a,H')->WF P GL f a H' Q->WF P GL f args H Q
 |0,_,_,_,_,h,_=>by simp[ri]at h
 |n+1,args,H,a,H',h,hw=>by
  simp only[ri]at h;split at h
  ·simp only[aaC,aaE]at h;obtain⟨rfl,rfl⟩:=h;exact hw
  ·rename_i b _;split at h
   ·rename_i ds Me;cases iL:(iA b ds 0 H).all jY with
     |false=>rw[iL]at h;cases h
     |true=>rw[iL]at h;exact WF.FQ Me iL (vC h hw)
   ·cases h
theorem Od{aE:ba}(hp:bH P (gl W) aE){args:List V}(h:XK aE f args H=some (v,H')):WF P (gl W) f args H (fun r k=>r=v/\k=H'):=by
 unfold XK at h;cases hr:(Ij f ffs&& !(av 0 args))with
  |false=>rw[hr]at h;cases h
  |true=>
   rw[hr]at h;simp only[aaJ]at h;split at h
   ·rename_i a H2 hd;split at h
    ·rename_i x hx;simp only[aaC,aaE]at h;obtain⟨rfl,rfl⟩:=h;exact vC hd (WF.Fx (hp _ _ _ hx) ⟨rfl,rfl⟩)
    ·cases h
   ·cases h
def Ik(args:List V)(H:ao):Option (V×ao):=match args,H with
 |[.ad,.d (.int .i64 (.ofNat n))],[]=>bif Nat.ble n 1048576 then some (sB n,q_ n)else none
 |_,_=>none
theorem Il{args:List V}(h:Ik args H=some (v,H')):WF P (gl W) 118 args H (fun r k=>r=v/\k=H'):=by
 unfold Ik at h;split at h
 ·rename_i n;cases hc:Nat.ble n 1048576 with
   |false=>rw[hc]at h;cases h
   |true=>rw[hc]at h;simp only[aaJ,aaC,aaE]at h;obtain⟨rfl,rfl⟩:=h;have:=aaN hc;exact RH n (by omega)
 ·cases h
def pL:CK:=fun aE f args H=>
 bif Nat.beq f 118 then Ik args H else
  match XI aE f args H with
   |some r=>some r
   |none=>XK aE f args H
theorem Ld:yv P (gl W) pL:=by
 intro aE hp f args H v H' h;unfold pL at h;cases h3:Nat.beq f 118 with
  |true=>rw[h3]at h;obtain rfl:=aaM h3;exact Il h
  |false=>
   rw[h3]at h;simp only[aaT]at h;split at h
   ·rename_i r hr;simp only[aaC]at h;subst h;exact Oc hp hr
   ·exact Od hp h
end Fw.Tz
/-
  slices.Grow of nil, for expressions; the hooks of the runs.
-/
namespace Fw.Tz
open Go Go.Proofs Fw.X
variable {W:World}
theorem XL:ak P 248=true:=k_
theorem Le:aC P 248=some f248:=k_
def sC(n:Nat):V:=if n=0 then .ad else .sl 1 0 0 0 2
def rj(n:Nat):ao:=if n=0 then[]else[none,some (.cells [])]
theorem RI(n:Nat)(hn:n<=2^30):WF P (gl W) 248 [.ad,.d (.int .i64 n)] [] (fun v H'=>v=sC n/\H'=rj n):=by
 have hw:IntKind.i64.wrap (n:Int)=n:=by rw[IntKind.wrap_i64];omega
 have Ob:¬((n:Int)<0):=by omega
 have XG:IntKind.i64.wrap 0=0:=rfl;refine WF.kb (WF.body Le XL (by simp[f248]) ?_ );show WC P (gl W) (.seq (.region f248.r0) (.seq (.seq (.region f248.r1) (.cond (.t 6) (.region f248.r2) .skip)) (.seq (.seq (.region f248.r3) (.seq (.region f248.r4) (.cond (.t 16) (.region f248.r5) .skip))) (.seq (.region f248.r6) .ret)))) ⟨27,[(0,.ad),(1,.d (.int .i64 n))],[]⟩ _;refine WC.seq (WC.xq (own:=[]) (by simp[f248.r0,e9,dv,aA,bE,aZ,aX,cu,cY,bc,br];rfl) ?_ );refine WC.seq (WC.seq (WC.xq (own:=[]) (by simp[f248.r1,e9,dv,aA,bE,aZ,aX,cu,cY,bc,br,mJ,ou,Ob];rfl) ?_ ));refine WC.cond (t:=false) (by simp[aZ,aX]) (WC.skip ?_ );refine WC.seq (WC.seq (WC.xq (own:=[]) (by simp[f248.r3,e9,dv,aA,bE,aZ,aX,cu,cY,bc,br,mJ,ou,iw,hw,XG];rfl) ?_ ));refine WC.seq (WC.xq (own:=[]) (by simp[f248.r4,e9,dv,aA,bE,aZ,aX,cu,cY,bc,br,mJ,ou];rfl) ?_ );by_cases h0:n=0
 ·subst h0;refine WC.cond (t:=false) (by simp[aZ,aX]) (WC.skip ?_ );refine WC.seq (WC.xq (own:=[]) (by simp[f248.r6,e9,dv,aA,bE,aZ,aX,cu,cY,bc,br];rfl) (WC.ret ?_ ));refine⟨.ad,by simp[gH,f248,bW,fB,aX],_,an.refl _ _,by simp[aX,sC],rfl⟩
 ·have pD:0<n:=by omega
  have qt:n*33<=1099511627776:=by omega
  have C6:n<=1099511627776:=by omega
  refine WC.cond (t:=true) (by simp[aZ,aX];omega) ?_;refine WC.xq (own:=[]) (by simp[f248.r5,e9,dv,aA,bE,aZ,aX,cu,cY,bc,br,iw,bounds,ct,Kl,Km,Kn,pD,qt,C6,bI,eK,bJ,ff,aF,yc];rfl) ?_;refine WC.seq (WC.xq (own:=[]) (by simp[f248.r6,e9,dv,aA,bE,aZ,aX,cu,cY,bc,br];rfl) (WC.ret ?_ ));refine⟨.sl 0 (n*2) 0 0 2,by simp[gH,f248,bW,fB,aX],⟨1,[(0,.sl 1 0 0 0 2)],[none,some (.cells [])]⟩,?_,by simp[aX,sC,h0],by simp[rj,h0]⟩;rcases an.shrink (h:=n*2) (sz:=2) (cs:=(List.range (n*2)).map fun i=>[V.d (.int .i64 0),.ad].getD (i%2) .any)with h|h
  ·simpa using h
  ·exact absurd (by simp) h
def Io(args:List V)(H:ao):Option (V×ao):=match args,H with
 |[.ad,.d (.int .i64 (.ofNat n))],[]=>bif Nat.ble n 1048576 then some (sC n,rj n)else none
 |_,_=>none
theorem Ip{args:List V}{H:ao}{v:V}{H':ao}(h:Io args H=some (v,H')):WF P (gl W) 248 args H (fun r k=>r=v/\k=H'):=by
 unfold Io at h;split at h
 ·rename_i n;cases hc:Nat.ble n 1048576 with
   |false=>rw[hc]at h;cases h
   |true=>rw[hc]at h;simp only[aaJ,aaC,aaE]at h;obtain⟨rfl,rfl⟩:=h;have:=aaN hc;exact RI n (by omega)
 ·cases h
def Iq:CK:=fun aE f args H=>bif Nat.beq f 248 then Io args H else pL aE f args H
theorem Ir:yv P (gl W) Iq:=by
 intro aE hp f args H v H' h;unfold Iq at h;cases h1:Nat.beq f 248 with
  |true=>rw[h1]at h;obtain rfl:=aaM h1;exact Ip h
  |false=>rw[h1]at h;exact Ld aE hp f args H v H' h
end Fw.Tz
/-
  The functions that closed runs enter.
-/
namespace Fw.Tz
open Go Go.Proofs Fw.X
noncomputable def ki(i:Nat):ca:=(aC P i).getD ⟨0,0,[],.skip⟩
theorem ado{i:Nat}(h:(aC P i).isSome=true):aC P i=some (ki i):=by
 unfold ki;cases hc:aC P i with
  |none=>rw[hc]at h;cases h
  |some f=>rfl
theorem is6:aC P 6=some f6:=k_
theorem ca6:ak P 6=true:=k_
theorem XM:aC P 13=some f13:=k_
theorem XN:ak P 13=true:=k_
theorem XO:aC P 16=some f16:=k_
theorem XP:ak P 16=true:=k_
theorem XQ:aC P 22=some f22:=k_
theorem XS:ak P 22=true:=k_
theorem XT:aC P 23=some f23:=k_
theorem XU:ak P 23=true:=k_
theorem XV:aC P 26=some f26:=k_
theorem XW:ak P 26=true:=k_
theorem XX:aC P 27=some f27:=k_
theorem XY:ak P 27=true:=k_
theorem XZ:aC P 29=some f29:=k_
theorem X0:ak P 29=true:=k_
theorem X1:aC P 30=some f30:=k_
theorem X2:ak P 30=true:=k_
theorem X3:aC P 31=some f31:=k_
theorem X4:ak P 31=true:=k_
theorem X5:aC P 32=some f32:=k_
theorem X6:ak P 32=true:=k_
theorem X7:aC P 33=some f33:=k_
theorem X8:ak P 33=true:=k_
theorem X9:aC P 46=some f46:=k_
theorem X':ak P 46=true:=k_
theorem X_:aC P 51=some f51:=k_
theorem Yf:ak P 51=true:=k_
theorem Yh:aC P 52=some f52:=k_
theorem Yi:ak P 52=true:=k_
theorem RJ:aC P 53=some f53:=k_
theorem RL:ak P 53=true:=k_
theorem Yj:aC P 54=some f54:=k_
theorem Yk:ak P 54=true:=k_
theorem Yl:aC P 56=some f56:=k_
theorem Ym:ak P 56=true:=k_
theorem Yn:aC P 57=some f57:=k_
theorem Yo:ak P 57=true:=k_
theorem Yp:aC P 58=some f58:=k_
theorem Yq:ak P 58=true:=k_
theorem Yt:aC P 59=some f59:=k_
theorem Yu:ak P 59=true:=k_
theorem Yv:aC P 60=some f60:=k_
theorem Yw:ak P 60=true:=k_
theorem RN:aC P 61=some f61:=k_
theorem RO:ak P 61=true:=k_
theorem Yx:aC P 63=some f63:=k_
theorem Yy:ak P 63=true:=k_
theorem Yz:aC P 66=some f66:=k_
theorem YA:ak P 66=true:=k_
theorem YB:aC P 67=some f67:=k_
theorem YC:ak P 67=true:=k_
theorem YD:aC P 68=some f68:=k_
theorem YE:ak P 68=true:=k_
theorem YF:aC P 69=some f69:=k_
theorem YG:ak P 69=true:=k_
theorem YH:aC P 70=some f70:=k_
theorem YI:ak P 70=true:=k_
theorem YJ:aC P 71=some f71:=k_
theorem YK:ak P 71=true:=k_
theorem YL:aC P 72=some f72:=k_
theorem YM:ak P 72=true:=k_
theorem YN:aC P 73=some f73:=k_
theorem YO:ak P 73=true:=k_
theorem YP:aC P 74=some f74:=k_
theorem YQ:ak P 74=true:=k_
theorem YR:aC P 75=some f75:=k_
theorem YS:ak P 75=true:=k_
theorem YT:aC P 76=some f76:=k_
theorem YU:ak P 76=true:=k_
theorem YV:aC P 77=some f77:=k_
theorem YW:ak P 77=true:=k_
theorem YX:aC P 78=some f78:=k_
theorem YY:ak P 78=true:=k_
theorem YZ:aC P 79=some f79:=k_
theorem Y0:ak P 79=true:=k_
theorem Y1:aC P 89=some f89:=k_
theorem Y2:ak P 89=true:=k_
theorem Y3:aC P 97=some f97:=k_
theorem Y4:ak P 97=true:=k_
theorem RP:aC P 110=some f110:=k_
theorem RQ:ak P 110=true:=k_
theorem RR:aC P 111=some f111:=k_
theorem RT:ak P 111=true:=k_
theorem My:aC P 112=some f112:=k_
theorem Mz:ak P 112=true:=k_
theorem RU:aC P 113=some f113:=k_
theorem RW:ak P 113=true:=k_
theorem RX:aC P 114=some f114:=k_
theorem RY:ak P 114=true:=k_
theorem RZ:aC P 115=some f115:=k_
theorem R0:ak P 115=true:=k_
theorem R1:aC P 116=some f116:=k_
theorem R2:ak P 116=true:=k_
theorem R3:aC P 117=some f117:=k_
theorem R4:ak P 117=true:=k_
theorem MA:aC P 119=some f119:=k_
theorem MB:ak P 119=true:=k_
theorem R5:aC P 120=some f120:=k_
theorem R6:ak P 120=true:=k_
theorem R7:aC P 122=some f122:=k_
theorem R8:ak P 122=true:=k_
theorem R9:aC P 123=some f123:=k_
theorem R_:ak P 123=true:=k_
theorem Sa:aC P 124=some f124:=k_
theorem Sb:ak P 124=true:=k_
theorem Sc:aC P 125=some f125:=k_
theorem Se:ak P 125=true:=k_
theorem Sf:aC P 126=some f126:=k_
theorem Sg:ak P 126=true:=k_
theorem Sh:aC P 127=some f127:=k_
theorem Si:ak P 127=true:=k_
theorem Sj:aC P 128=some f128:=k_
theorem Sk:ak P 128=true:=k_
theorem Sl:aC P 129=some f129:=k_
theorem Sn:ak P 129=true:=k_
theorem Ss:aC P 130=some f130:=k_
theorem Sv:ak P 130=true:=k_
theorem Sw:aC P 131=some f131:=k_
theorem Sx:ak P 131=true:=k_
theorem SA:aC P 132=some f132:=k_
theorem SB:ak P 132=true:=k_
theorem SD:aC P 133=some f133:=k_
theorem SE:ak P 133=true:=k_
theorem SF:aC P 134=some f134:=k_
theorem SG:ak P 134=true:=k_
theorem SH:aC P 135=some f135:=k_
theorem SI:ak P 135=true:=k_
theorem SJ:aC P 136=some f136:=k_
theorem SK:ak P 136=true:=k_
theorem SL:aC P 137=some f137:=k_
theorem SM:ak P 137=true:=k_
theorem SN:aC P 138=some f138:=k_
theorem SO:ak P 138=true:=k_
theorem SP:aC P 142=some f142:=k_
theorem SQ:ak P 142=true:=k_
theorem SR:aC P 153=some f153:=k_
theorem SS:ak P 153=true:=k_
theorem SU:aC P 154=some f154:=k_
theorem SV:ak P 154=true:=k_
theorem SW:aC P 170=some f170:=k_
theorem SX:ak P 170=true:=k_
theorem SY:aC P 171=some f171:=k_
theorem SZ:ak P 171=true:=k_
theorem S0:aC P 174=some f174:=k_
theorem S1:ak P 174=true:=k_
theorem MC:aC P 175=some f175:=k_
theorem MD:ak P 175=true:=k_
theorem S2:aC P 176=some f176:=k_
theorem S3:ak P 176=true:=k_
theorem S4:aC P 177=some f177:=k_
theorem S5:ak P 177=true:=k_
theorem S6:aC P 178=some f178:=k_
theorem S7:ak P 178=true:=k_
theorem S8:aC P 179=some f179:=k_
theorem S9:ak P 179=true:=k_
theorem S':aC P 180=some f180:=k_
theorem S_:ak P 180=true:=k_
theorem Ti:aC P 181=some f181:=k_
theorem Tj:ak P 181=true:=k_
theorem Tk:aC P 182=some f182:=k_
theorem Tl:ak P 182=true:=k_
theorem Tm:aC P 183=some f183:=k_
theorem Tn:ak P 183=true:=k_
theorem To:aC P 184=some f184:=k_
theorem Tp:ak P 184=true:=k_
theorem Tq:aC P 185=some f185:=k_
theorem Tr:ak P 185=true:=k_
theorem Ts:aC P 186=some f186:=k_
theorem Tt:ak P 186=true:=k_
theorem Tu:aC P 187=some f187:=k_
theorem Tv:ak P 187=true:=k_
theorem Tw:aC P 188=some f188:=k_
theorem Tx:ak P 188=true:=k_
theorem TA:aC P 189=some f189:=k_
theorem TB:ak P 189=true:=k_
theorem TC:aC P 190=some f190:=k_
theorem TD:ak P 190=true:=k_
theorem TE:aC P 191=some f191:=k_
theorem TF:ak P 191=true:=k_
theorem TG:aC P 192=some f192:=k_
theorem TH:ak P 192=true:=k_
theorem TI:aC P 193=some f193:=k_
theorem TJ:ak P 193=true:=k_
theorem TK:aC P 194=some f194:=k_
theorem TL:ak P 194=true:=k_
theorem TM:aC P 195=some f195:=k_
theorem TN:ak P 195=true:=k_
theorem TO:aC P 196=some f196:=k_
theorem TP:ak P 196=true:=k_
theorem TQ:aC P 241=some f241:=k_
theorem TR:ak P 241=true:=k_
theorem TS:aC P 242=some f242:=k_
theorem TT:ak P 242=true:=k_
theorem TU:aC P 249=some f249:=k_
theorem TV:ak P 249=true:=k_
theorem TW:aC P 250=some f250:=k_
theorem TX:ak P 250=true:=k_
theorem TY:aC P 251=some f251:=k_
theorem TZ:ak P 251=true:=k_
theorem T0:aC P 252=some f252:=k_
theorem T1:ak P 252=true:=k_
theorem T2:aC P 253=some f253:=k_
theorem T3:ak P 253=true:=k_
theorem T4:aC P 291=some f291:=k_
theorem T5:ak P 291=true:=k_
theorem T6:aC P 292=some f292:=k_
theorem T7:ak P 292=true:=k_
noncomputable def T8:FT ca:=(.n (.n (.n (.n (.n (.n (.n (.n .e 4 f4 .e) 6 f6 .e) 12 (ki 12) (.n (.n .e 13 f13 .e) 14 (ki 14) .e)) 16 f16 (.n (.n (.n .e 17 (ki 17) .e) 18 (ki 18) .e) 19 (ki 19) (.n .e 20 Ro .e))) 21 (ki 21) (.n (.n (.n (.n .e 22 f22 .e) 23 f23 .e) 24 (ki 24) (.n .e 25 (ki 25) .e)) 26 f26 (.n (.n (.n .e 27 f27 .e) 28 (ki 28) .e) 29 f29 (.n .e 30 f30 .e)))) 31 f31 (.n (.n (.n (.n (.n .e 32 f32 .e) 33 f33 .e) 42 (ki 42) (.n (.n .e 46 f46 .e) 48 (ki 48) .e)) 49 (ki 49) (.n (.n (.n .e 50 (ki 50) .e) 51 f51 .e) 52 f52 (.n .e 53 f53 .e))) 54 f54 (.n (.n (.n (.n .e 55 (ki 55) .e) 56 f56 .e) 57 f57 (.n .e 58 f58 .e)) 59 f59 (.n (.n (.n .e 60 f60 .e) 61 f61 .e) 62 (ki 62) (.n .e 63 f63 .e))))) 64 f64 (.n (.n (.n (.n (.n (.n .e 65 Xq .e) 66 f66 .e) 67 f67 (.n (.n .e 68 f68 .e) 69 f69 .e)) 70 f70 (.n (.n (.n .e 71 f71 .e) 72 f72 .e) 73 f73 (.n .e 74 f74 .e))) 75 f75 (.n (.n (.n (.n .e 76 f76 .e) 77 f77 .e) 78 f78 (.n .e 79 f79 .e)) 89 f89 (.n (.n (.n .e 97 f97 .e) 99 (ki 99) .e) 104 (ki 104) (.n .e 108 (ki 108) .e)))) 109 (ki 109) (.n (.n (.n (.n (.n .e 110 f110 .e) 111 f111 .e) 112 f112 (.n .e 113 f113 .e)) 114 f114 (.n (.n (.n .e 115 f115 .e) 116 f116 .e) 117 f117 (.n .e 119 f119 .e))) 120 f120 (.n (.n (.n (.n .e 121 If .e) 122 f122 .e) 123 f123 (.n .e 124 f124 .e)) 125 f125 (.n (.n (.n .e 126 f126 .e) 127 f127 .e) 128 f128 (.n .e 129 f129 .e)))))) 130 f130 (.n (.n (.n (.n (.n (.n (.n .e 131 f131 .e) 132 f132 .e) 133 f133 (.n (.n .e 134 f134 .e) 135 f135 .e)) 136 f136 (.n (.n (.n .e 137 f137 .e) 138 f138 .e) 142 f142 (.n .e 147 (ki 147) .e))) 148 (ki 148) (.n (.n (.n (.n .e 150 (ki 150) .e) 153 f153 .e) 154 f154 (.n .e 157 (ki 157) .e)) 158 (ki 158) (.n (.n (.n .e 164 (ki 164) .e) 168 (ki 168) .e) 169 (ki 169) (.n .e 170 f170 .e)))) 171 f171 (.n (.n (.n (.n (.n .e 174 f174 .e) 175 f175 .e) 176 f176 (.n .e 177 f177 .e)) 178 f178 (.n (.n (.n .e 179 f179 .e) 180 f180 .e) 181 f181 (.n .e 182 f182 .e))) 183 f183 (.n (.n (.n (.n .e 184 f184 .e) 185 f185 .e) 186 f186 (.n .e 187 f187 .e)) 188 f188 (.n (.n (.n .e 189 f189 .e) 190 f190 .e) 191 f191 (.n .e 192 f192 .e))))) 193 f193 (.n (.n (.n (.n (.n (.n .e 194 f194 .e) 195 f195 .e) 196 f196 (.n (.n .e 199 (ki 199) .e) 201 (ki 201) .e)) 202 (ki 202) (.n (.n (.n .e 204 (ki 204) .e) 205 (ki 205) .e) 206 (ki 206) (.n .e 212 (ki 212) .e))) 217 (ki 217) (.n (.n (.n (.n .e 218 (ki 218) .e) 222 (ki 222) .e) 227 (ki 227) (.n .e 228 (ki 228) .e)) 229 (ki 229) (.n (.n (.n .e 232 (ki 232) .e) 236 (ki 236) .e) 237 (ki 237) (.n .e 240 (ki 240) .e)))) 241 f241 (.n (.n (.n (.n (.n .e 242 f242 .e) 249 f249 .e) 250 f250 (.n .e 251 f251 .e)) 252 f252 (.n (.n (.n .e 253 f253 .e) 254 (ki 254) .e) 255 (ki 255) (.n .e 260 (ki 260) .e))) 263 (ki 263) (.n (.n (.n (.n .e 268 (ki 268) .e) 269 (ki 269) .e) 270 (ki 270) (.n .e 272 (ki 272) .e)) 274 (ki 274) (.n (.n (.n .e 282 (ki 282) .e) 291 f291 .e) 292 f292 (.n .e 299 (ki 299) .e)))))))
noncomputable def iY:FT ca->FT ca| .e=>.e| .n l k _ r=>.n (iY l) k (ki k) (iY r)
noncomputable def AS:FT ca->Bool| .e=>true| .n l k _ r=>(aC P k).isSome&&(ak P k&&(AS l&&AS r))
theorem VR:∀t,AS t=true->xx (fun f fn=>aC P f=some fn/\ak P f=true) (iY t)| .e,_=>trivial| .n l k _ r,h=>by simp only[AS,aaD]at h;exact⟨VR l h.2.2.1,⟨ado h.1,h.2.1⟩,VR r h.2.2.2⟩
theorem Oe:xx (fun f fn=>aC P f=some fn/\ak P f=true) T8:=(show iY T8=T8 by kernel_rfl)▸VR T8 k_
def gZ(f:FuncId):List Nat:=bif Nat.beq f 88 then[5]else bif Nat.beq f 43 then[3]else bif Nat.beq f 170 then[5]else bif Nat.beq f 99 then[3]else bif Nat.beq f 136 then[16]else bif Nat.beq f 78 then[16]else bif Nat.beq f 11 then[167]else bif Nat.beq f 84 then[5]else bif Nat.beq f 15 then[61]else bif Nat.beq f 35 then[92]else bif Nat.beq f 9 then[126]else bif Nat.beq f 29 then[62]else[]
def rf(f:FuncId):Bool:=Nat.beq f 144||Nat.beq f 88||Nat.beq f 200||Nat.beq f 181||Nat.beq f 154
end Fw.Tz
/-
  The quicker run over the program's functions.
-/
namespace Fw.Tz
open Go Go.Proofs Fw.X
variable {kt:FT Nat}{ex:Extra}
def wI:FT Nat:=(.n (.n (.n (.n (.n (.n .e 42 0 .e) 48 0 .e) 51 0 (.n .e 59 0 .e)) 88 0 (.n (.n (.n .e 89 0 .e) 94 0 .e) 97 0 (.n .e 101 0 .e))) 107 0 (.n (.n (.n (.n .e 108 0 .e) 110 0 .e) 118 0 (.n .e 143 0 .e)) 144 0 (.n (.n .e 149 0 .e) 150 0 (.n .e 154 0 .e)))) 160 0 (.n (.n (.n (.n (.n .e 161 0 .e) 163 0 .e) 165 0 (.n .e 167 0 .e)) 170 0 (.n (.n .e 172 0 .e) 173 0 (.n .e 175 0 .e))) 181 0 (.n (.n (.n (.n .e 200 0 .e) 203 0 .e) 232 0 (.n .e 235 0 .e)) 248 0 (.n (.n .e 271 0 .e) 273 0 (.n .e 275 0 .e)))))
noncomputable def rn(_:World)(kt:FT Nat)(ex:Extra)(ka:bm):bm:=W3 kt ex rf Iq (pr Lc) ka
noncomputable def kI(kt:FT Nat)(ex:Extra)(ka:bm):ba:=NO kt ex rf (pr Lc) ka
noncomputable def mR(W:World)(kt:FT Nat)(ex:Extra)(d:Nat):bm:=KG gZ (gl W) T8 (rn W kt ex) (kI kt ex) 1000 d
noncomputable def pcX(W:World)(kt:FT Nat)(ex:Extra)(d:Nat):ba:=kI kt ex (mR W kt ex d)
variable {W:World}
theorem aV:P.follows .mixedOrders=true:=k_
theorem fl(hW:W0 W)(he:yF P (gl W) ex):∀ka,b6 P (gl W) ka->b6 P (gl W) (rn W kt ex ka):=NP he Ir (En hW)
theorem dE(hW:W0 W)(he:yF P (gl W) ex):∀ka,b6 P (gl W) ka->bH P (gl W) (kI kt ex ka):=KB he (En hW)
theorem cO(hW:W0 W)(he:yF P (gl W) ex)(d:Nat):b6 P (gl W) (mR W kt ex d):=by unfold mR;rw[D8];exact D4 aV Oe (fl hW he) (dE hW he) 1000 d
theorem Of(hW:W0 W)(he:yF P (gl W) ex)(d:Nat):bH P (gl W) (pcX W kt ex d):=dE hW he _ (cO hW he d)
theorem qk:yF P (gl W) .e:=trivial
theorem ep:∀{x y:List UInt8},Fw.ai x y=true->x=y
 |[],[],_=>rfl
 |[],_::_,h=>by simp[Fw.ai]at h
 |_::_,[],h=>by simp[Fw.ai]at h
 |a::x,b::y,h=>by
  simp only[Fw.ai]at h;cases hb:Nat.beq a.toNat b.toNat with
   |false=>rw[hb]at h;cases h
   |true=>rw[hb]at h;rw[ep h,acy.1 (aaM hb)]
end Fw.Tz
/-
  The interpreter over the program's functions, and what its answers prove.
-/
namespace Fw.Tz
open Go Go.Proofs Fw.X
noncomputable def pcT(W:World)(d:Nat):ba:=pcX W wI .e d
variable {W:World}
theorem Og(hW:W0 W)(d:Nat):bH P (gl W) (pcT W d):=Of hW qk d
end Fw.Tz
