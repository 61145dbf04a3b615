/-
  Steps over the common answers.
-/
import Derived.Test.YtgfgckimecpmlaaGreatDoorTc
import Derived.Test.YtgfgckimecpmlaaGreatDoorFg
set_option linter.unusedSimpArgs false
set_option maxRecDepth 1000000
set_option linter.unusedVariables false
namespace Fw.Tz.Sd
open Go Go.Proofs Fw.X Fw.Tz
variable {W:World}
variable {n:Nat}{K K':List Fr}{tm:List (Nat×V)}{H:ao}{Q:Ex->St->Prop}{cur c':oJ}{l:List aj}
noncomputable def rd(W:World)(ov:List (Nat×Bool))(sp:List (Nat×V))(n:Nat)(l:List aj)(ks:List Nat)(tm:List (Nat×V))(H:ao):Option (List V×ao×List (Bool×Bool)×ny):=Eb [] (gl W) (yM (kI wI .e (mR W wI .e 40)) (rn W wI .e (mR W wI .e 40))) ov sp n l ks tm H
theorem dg(hW:W0 W)(ov:List (Nat×Bool))(sp:List (Nat×V)){aW:List (Nat×V)}{H':ao}{cs:List (Bool×Bool)}{calls:ny}(h:rd W ov sp n l (aW.map Prod.fst) tm H=some (aW.map Prod.snd,H',cs,calls))(qz:mB cs)(mz:pk P (gl W) calls)(hq:CG P (gl W) (.out .normal) K n aW H' Q):CG P (gl W) (.code (.draw l)) K n tm H Q:=CG.HV aV (CT (dE hW (qk) _ (cO hW (qk) 40)) (fl hW (qk) _ (cO hW (qk) 40))) ov sp h qz mz hq
noncomputable def rg(W:World)(n:Nat)(N j:Nat)(bs:List Bool)(cur:oJ)(K:List Fr)(ks:List Nat)(tm:List (Nat×V))(H:ao):Option XR:=CU [] (gl W) (rn W wI .e (mR W wI .e 40)) (kI wI .e (mR W wI .e 40)) n N j bs cur K ks tm H
theorem s2(hW:W0 W)(N j:Nat)(bs:List Bool)(m:Nat)(nw:List (Nat×V))(H':ao)(hq:CG P (gl W) c' K' n (dh m nw tm) H' Q)(h1:eD N j bs cur K=some (c',K'):=by rfl)(h2:rg W n N j bs cur K ((dh m nw tm).map Prod.fst) tm H=some (.tuple ((dh m nw tm).map Prod.snd),H'):=by kernel_rfl):CG P (gl W) cur K n tm H Q:=CG.st aV (fl hW (qk) _ (cO hW (qk) 40)) (dE hW (qk) _ (cO hW (qk) 40)) N j bs h1 h2 hq
theorem s1(hW:W0 W)(N j:Nat)(bs:List Bool)(m:Nat)(nw:List (Nat×V))(hq:CG P (gl W) c' K' n (dh m nw tm) H Q)(h1:eD N j bs cur K=some (c',K'):=by rfl)(h2:rg W n N j bs cur K ((dh m nw tm).map Prod.fst) tm H=some (.tuple ((dh m nw tm).map Prod.snd),H):=by kernel_rfl):CG P (gl W) cur K n tm H Q:=s2 hW N j bs m nw H hq h1 h2
theorem cP(hW:W0 W)(N j:Nat)(bs:List Bool)(m:Nat)(nw:List (Nat×V)){c:a_}{a d:IR}{b:Bool}(h:b=true)(hq:CG P (gl W) (.code a) K' n (dh m nw tm) H Q)(h1:eD N j bs cur K=some (.code (.cond c a d),K'):=by rfl)(h2:rg W n N j bs cur K ((dh m nw tm).map Prod.fst) tm H=some (.tuple ((dh m nw tm).map Prod.snd),H):=by kernel_rfl)(ht:aZ (gl W) (dh m nw tm) c=.d (.bool b):=by kernel_rfl):CG P (gl W) cur K n tm H Q:=s1 hW N j bs m nw (CG.aM h ht hq) h1 h2
theorem dk(hW:W0 W)(N j:Nat)(bs:List Bool)(m:Nat)(nw:List (Nat×V)){c:a_}{a d:IR}{b:Bool}(h:b=false)(hq:CG P (gl W) (.code d) K' n (dh m nw tm) H Q)(h1:eD N j bs cur K=some (.code (.cond c a d),K'):=by rfl)(h2:rg W n N j bs cur K ((dh m nw tm).map Prod.fst) tm H=some (.tuple ((dh m nw tm).map Prod.snd),H):=by kernel_rfl)(ht:aZ (gl W) (dh m nw tm) c=.d (.bool b):=by kernel_rfl):CG P (gl W) cur K n tm H Q:=s1 hW N j bs m nw (CG.aN h ht hq) h1 h2
theorem du(hW:W0 W)(N j:Nat)(bs:List Bool)(m:Nat)(nw:List (Nat×V)){rs:List iv}{v:V}(v':V)(h1:eD N j bs cur K=some (.code .ret,K'):=by rfl)(h2:rg W n N j bs cur K ((dh m nw tm).map Prod.fst) tm H=some (.tuple ((dh m nw tm).map Prod.snd),H):=by kernel_rfl)(h:(gH rs ⟨n,dh m nw tm,H⟩).bind (fc H)=some v':=by kernel_rfl)(e:v'=v:=by first|with_reducible rfl|rfl):CG P (gl W) cur K n tm H (mM rs v):=s1 hW N j bs m nw (CG.ret h e) h1 h2
theorem bh(hW:W0 W)(N j:Nat)(bs:List Bool)(m:Nat)(nw:List (Nat×V)){d:Nat}{g:Option (Nat×Bool)}{af:List Nat}{f:FuncId}{args:List a_}{vs:List V}{v:V}(h:PC P (gl W) f vs v)(hq:CG P (gl W) (.ops (l.drop 1)) K' n (put (dh m nw tm) d v) H Q)(h1:eD N j bs cur K=some (.ops l,K'):=by rfl)(h2:rg W n N j bs cur K ((dh m nw tm).map Prod.fst) tm H=some (.tuple ((dh m nw tm).map Prod.snd),H):=by kernel_rfl)(ho:l.head?=some ⟨some d,.call f args,g,af⟩:=by rfl)(hc:(aA g (dh m nw tm),bu (aZ (gl W) (dh m nw tm)) args,Nat.blt d n)=(some true,vs,true):=by kernel_rfl):CG P (gl W) cur K n tm H Q:=s1 hW N j bs m nw (CG.pg h ho hc hq) h1 h2
theorem s4(hW:W0 W)(N j:Nat)(bs:List Bool)(m:Nat)(nw:List (Nat×V))(hd:List (Nat×fJ))(hq:CG P (gl W) c' K' n (dh m nw tm) (zF hd H) Q)(h1:eD N j bs cur K=some (c',K'):=by rfl)(h2:rg W n N j bs cur K ((dh m nw tm).map Prod.fst) tm H=some (.tuple ((dh m nw tm).map Prod.snd),zF hd H):=by kernel_rfl):CG P (gl W) cur K n tm H Q:=s2 hW N j bs m nw (zF hd H) hq h1 h2
theorem s3(hW:W0 W)(N j:Nat)(bs:List Bool)(aW:List (Nat×V))(H':ao)(hq:CG P (gl W) c' K' n aW H' Q)(h1:eD N j bs cur K=some (c',K'):=by rfl)(h2:rg W n N j bs cur K (aW.map Prod.fst) tm H=some (.tuple (aW.map Prod.snd),H'):=by kernel_rfl):CG P (gl W) cur K n tm H Q:=CG.st aV (fl hW (qk) _ (cO hW (qk) 40)) (dE hW (qk) _ (cO hW (qk) 40)) N j bs h1 h2 hq
theorem cG(hW:W0 W)(N j:Nat)(bs:List Bool)(aW:List (Nat×V))(H':ao){K0:List Fr}{R:St->Prop}(h:R ⟨n,aW,H'⟩)(h1:eD N j bs cur K=some (.ops l,[]):=by rfl)(h2:rg W n N j bs cur K (aW.map Prod.fst) tm H=some (.tuple (aW.map Prod.snd),H'):=by kernel_rfl)(hl:l.length=0:=by rfl):CG P (gl W) cur K n tm H (LQ P (gl W) K0 Q R):=s3 hW N j bs aW H' (CG.AH hl h) h1 h2
end Fw.Tz.Sd
/-
  The 'awake' of law 14 is true.
-/
namespace Fw.Tz
open Go Go.Proofs Fw.X
theorem T9(W:World):pcT W 40 12 []=some (.d (.bool true)):=k_
theorem Lf{W:World}(hW:W0 W):PC P (gl W) 12 [] (.d (.bool true)):=Og hW 40 _ _ _ (T9 W)
end Fw.Tz
/-
  The examples' answer as a table.
-/
namespace Fw.Tz
open Go Go.Proofs Fw.X
def ME:FT Nat:=(.n (.n (.n (.n (.n (.n .e 12 0 .e) 42 0 .e) 48 0 (.n .e 51 0 .e)) 59 0 (.n (.n (.n .e 88 0 .e) 89 0 .e) 94 0 (.n .e 97 0 .e))) 101 0 (.n (.n (.n (.n .e 104 0 .e) 107 0 .e) 108 0 (.n .e 110 0 .e)) 118 0 (.n (.n (.n .e 143 0 .e) 144 0 .e) 149 0 (.n .e 150 0 .e)))) 154 0 (.n (.n (.n (.n (.n .e 160 0 .e) 161 0 .e) 163 0 (.n .e 165 0 .e)) 167 0 (.n (.n (.n .e 170 0 .e) 172 0 .e) 173 0 (.n .e 175 0 .e))) 181 0 (.n (.n (.n (.n .e 200 0 .e) 203 0 .e) 206 0 (.n .e 232 0 .e)) 235 0 (.n (.n (.n .e 248 0 .e) 271 0 .e) 273 0 (.n .e 275 0 .e)))))
def Y5:List V->Option V|[]=>some (.d (.bool true))|_=>none
def Lg:Extra:=.n .e 12 Y5 .e
theorem nD{W:World}(hW:W0 W):yF P (gl W) Lg:=⟨trivial,fun args v h=>by
 cases args with
  |nil=>simp only[Y5,aaC]at h;subst h;exact Lf hW
  |cons a l=>simp[Y5]at h,trivial⟩
end Fw.Tz
