/-
  Steps over the common answers.
-/
import Derived.Test.YtgfgckimecpmlaaGreatDoorTc
import Derived.Test.YtgfgckimecpmlaaGreatDoorFg
set_option linter.unusedSimpArgs false
set_option maxRecDepth 1000000
set_option linter.unusedVariables false
namespace Fw.Tz.Sd
open Go Go.Proofs Fw.X Fw.Tz
variable {W:World}
noncomputable def rd(W:World)(ov:List (Nat×Bool))(sp:List (Nat×V))(n:Nat)(l:List ad)(ks:List Nat)(tm:List (Nat×V))(H:ah):Option (List V×ah×List (Bool×Bool)×pj):=CJ [] (gl W) (xg (mT tR .e (oO W tR .e 40)) (tS W tR .e (oO W tR .e 40))) ov sp n l ks tm H
theorem dg(hW:W0 W)(ov:List (Nat×Bool))(sp:List (Nat×V)){n:Nat}{l:List ad}{K:List Fr}{tm aY:List (Nat×V)}{H H':ah}{cs:List (Bool×Bool)}{calls:pj}{Q:Ex→St→Prop}(h:rd W ov sp n l (aY.map Prod.fst) tm H=some (aY.map Prod.snd,H',cs,calls))(gR:nT cs)(iq:rb P (gl W) calls)(hq:CG P (gl W) (.out .normal) K n aY H' Q):CG P (gl W) (.code (.draw l)) K n tm H Q:=CG.G6 bE (Bg (fQ hW (qF) _ (ef hW (qF) 40)) (jE hW (qF) _ (ef hW (qF) 40))) ov sp h gR iq hq
noncomputable def rg(W:World)(n:Nat)(N j:Nat)(bs:List Bool)(cur:kj)(K:List Fr)(ks:List Nat)(tm:List (Nat×V))(H:ah):Option XR:=D1 [] (gl W) (tS W tR .e (oO W tR .e 40)) (mT tR .e (oO W tR .e 40)) n N j bs cur K ks tm H
theorem s2(hW:W0 W)(N j:Nat)(bs:List Bool)(m:Nat)(nw:List (Nat×V))(H':ah){cur c':kj}{K K':List Fr}{n:Nat}{tm:List (Nat×V)}{H:ah}{Q:Ex→St→Prop}(hq:CG P (gl W) c' K' n (mf m nw tm) H' Q)(h1:oh N j bs cur K=some (c',K'):=by rfl)(h2:rg W n N j bs cur K ((mf m nw tm).map Prod.fst) tm H=some (.tuple ((mf m nw tm).map Prod.snd),H'):=by kernel_rfl):CG P (gl W) cur K n tm H Q:=CG.st bE (jE hW (qF) _ (ef hW (qF) 40)) (fQ hW (qF) _ (ef hW (qF) 40)) N j bs h1 h2 hq
theorem s1(hW:W0 W)(N j:Nat)(bs:List Bool)(m:Nat)(nw:List (Nat×V)){cur c':kj}{K K':List Fr}{n:Nat}{tm:List (Nat×V)}{H:ah}{Q:Ex→St→Prop}(hq:CG P (gl W) c' K' n (mf m nw tm) H Q)(h1:oh N j bs cur K=some (c',K'):=by rfl)(h2:rg W n N j bs cur K ((mf m nw tm).map Prod.fst) tm H=some (.tuple ((mf m nw tm).map Prod.snd),H):=by kernel_rfl):CG P (gl W) cur K n tm H Q:=s2 hW N j bs m nw H hq h1 h2
theorem s4(hW:W0 W)(N j:Nat)(bs:List Bool)(m:Nat)(nw:List (Nat×V))(hd:List (Nat×dU)){cur c':kj}{K K':List Fr}{n:Nat}{tm:List (Nat×V)}{H:ah}{Q:Ex→St→Prop}(hq:CG P (gl W) c' K' n (mf m nw tm) (CM hd H) Q)(h1:oh N j bs cur K=some (c',K'):=by rfl)(h2:rg W n N j bs cur K ((mf m nw tm).map Prod.fst) tm H=some (.tuple ((mf m nw tm).map Prod.snd),CM hd H):=by kernel_rfl):CG P (gl W) cur K n tm H Q:=s2 hW N j bs m nw (CM hd H) hq h1 h2
theorem s3(hW:W0 W)(N j:Nat)(bs:List Bool)(aY:List (Nat×V))(H':ah){cur c':kj}{K K':List Fr}{n:Nat}{tm:List (Nat×V)}{H:ah}{Q:Ex→St→Prop}(hq:CG P (gl W) c' K' n aY H' Q)(h1:oh N j bs cur K=some (c',K'):=by rfl)(h2:rg W n N j bs cur K (aY.map Prod.fst) tm H=some (.tuple (aY.map Prod.snd),H'):=by kernel_rfl):CG P (gl W) cur K n tm H Q:=CG.st bE (jE hW (qF) _ (ef hW (qF) 40)) (fQ hW (qF) _ (ef hW (qF) 40)) N j bs h1 h2 hq
end Fw.Tz.Sd
/-
  The 'awake' of law 14 is true.
-/
/-
  The examples' answer as a table.
-/
