/-
  Steps over the common answers.
-/
import Derived.Test.YtgfgckimecpmlaaGreatDoorTc
import Derived.Test.YtgfgckimecpmlaaGreatDoorFg
set_option linter.unusedSimpArgs false
set_option maxRecDepth 1000000
set_option linter.unusedVariables false
namespace Fw.Tz.Sd
open Go Go.Proofs Fw.X Fw.Tz
variable {W:World}
noncomputable def rd(W:World)(ov:List (Nat×Bool))(sp:List (Nat×V))(n:Nat)(l:List ad)(ks:List Nat)(tm:List (Nat×V))(H:ai):Option (List V×ai×List (Bool×Bool)×pF):=Dw [] (gl W) (xy (mZ uW .e (pT W uW .e 40)) (um W uW .e (pT W uW .e 40))) ov sp n l ks tm H
theorem dg(hW:W0 W)(ov:List (Nat×Bool))(sp:List (Nat×V)){n:Nat}{l:List ad}{K:List Fr}{tm a7:List (Nat×V)}{H H':ai}{cs:List (Bool×Bool)}{calls:pF}{Q:Ex→St→Prop}(h:rd W ov sp n l (a7.map Prod.fst) tm H=some (a7.map Prod.snd,H',cs,calls))(gZ:n7 cs)(iE:rL P (gl W) calls)(hq:CG P (gl W) (.out .normal) K n a7 H' Q):CG P (gl W) (.code (.draw l)) K n tm H Q:=CG.HX bG (BE (fY hW (rU) _ (eT hW (rU) 40)) (jL hW (rU) _ (eT hW (rU) 40))) ov sp h gZ iE hq
noncomputable def rg(W:World)(n:Nat)(N j:Nat)(bs:List Bool)(cur:kJ)(K:List Fr)(ks:List Nat)(tm:List (Nat×V))(H:ai):Option XR:=EU [] (gl W) (um W uW .e (pT W uW .e 40)) (mZ uW .e (pT W uW .e 40)) n N j bs cur K ks tm H
theorem s2(hW:W0 W)(N j:Nat)(bs:List Bool)(m:Nat)(nw:List (Nat×V))(H':ai){cur c':kJ}{K K':List Fr}{n:Nat}{tm:List (Nat×V)}{H:ai}{Q:Ex→St→Prop}(hq:CG P (gl W) c' K' n (mq m nw tm) H' Q)(h1:oQ N j bs cur K=some (c',K'):=by rfl)(h2:rg W n N j bs cur K ((mq m nw tm).map Prod.fst) tm H=some (.tuple ((mq m nw tm).map Prod.snd),H'):=by kernel_rfl):CG P (gl W) cur K n tm H Q:=CG.st bG (jL hW (rU) _ (eT hW (rU) 40)) (fY hW (rU) _ (eT hW (rU) 40)) N j bs h1 h2 hq
theorem s1(hW:W0 W)(N j:Nat)(bs:List Bool)(m:Nat)(nw:List (Nat×V)){cur c':kJ}{K K':List Fr}{n:Nat}{tm:List (Nat×V)}{H:ai}{Q:Ex→St→Prop}(hq:CG P (gl W) c' K' n (mq m nw tm) H Q)(h1:oQ N j bs cur K=some (c',K'):=by rfl)(h2:rg W n N j bs cur K ((mq m nw tm).map Prod.fst) tm H=some (.tuple ((mq m nw tm).map Prod.snd),H):=by kernel_rfl):CG P (gl W) cur K n tm H Q:=s2 hW N j bs m nw H hq h1 h2
theorem s4(hW:W0 W)(N j:Nat)(bs:List Bool)(m:Nat)(nw:List (Nat×V))(hd:List (Nat×eG)){cur c':kJ}{K K':List Fr}{n:Nat}{tm:List (Nat×V)}{H:ai}{Q:Ex→St→Prop}(hq:CG P (gl W) c' K' n (mq m nw tm) (Dz hd H) Q)(h1:oQ N j bs cur K=some (c',K'):=by rfl)(h2:rg W n N j bs cur K ((mq m nw tm).map Prod.fst) tm H=some (.tuple ((mq m nw tm).map Prod.snd),Dz hd H):=by kernel_rfl):CG P (gl W) cur K n tm H Q:=s2 hW N j bs m nw (Dz hd H) hq h1 h2
theorem s3(hW:W0 W)(N j:Nat)(bs:List Bool)(a7:List (Nat×V))(H':ai){cur c':kJ}{K K':List Fr}{n:Nat}{tm:List (Nat×V)}{H:ai}{Q:Ex→St→Prop}(hq:CG P (gl W) c' K' n a7 H' Q)(h1:oQ N j bs cur K=some (c',K'):=by rfl)(h2:rg W n N j bs cur K (a7.map Prod.fst) tm H=some (.tuple (a7.map Prod.snd),H'):=by kernel_rfl):CG P (gl W) cur K n tm H Q:=CG.st bG (jL hW (rU) _ (eT hW (rU) 40)) (fY hW (rU) _ (eT hW (rU) 40)) N j bs h1 h2 hq
end Fw.Tz.Sd
/-
  The 'awake' of law 14 is true.
-/
/-
  The examples' answer as a table.
-/
