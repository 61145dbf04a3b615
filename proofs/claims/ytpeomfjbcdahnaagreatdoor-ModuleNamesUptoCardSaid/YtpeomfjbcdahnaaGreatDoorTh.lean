/-
  ModuleNames: the row.
-/
import Derived.Test.YtpeomfjbcdahnaaGreatDoorTg
import Derived.Test.YtpeomfjbcdahnaaGreatDoorTi
import Derived.Deep.DeepHandedRow
set_option linter.unusedSimpArgs false
set_option linter.unusedVariables false
set_option maxRecDepth 100000
namespace Fw.Tz
open Go Go.Proofs Fw.X Go.ChangeShapes Go.WideShapes Go.ChangeAt Go.RowKit
open Go.Proofs.YtpeomfjbcdahnaaGreatDoor
theorem MX(os:Os){H:Type}(aa:TypeId×Value->H):∃sd,DataW.whole aa Tryz.prog ((World.laidAll Tryz.prog os tO).forCall (fun _ _=>0) ⟨#[],#[.agg #[.string ByteArray.empty,.slice none 0 0,.slice none 0 0,.slice none 0 0]],[]⟩).memory Tryz.f3.params.toList (Rows.OpenSpec.upto Rows.moduleNamesSpec).vars false (#[.agg #[.string ByteArray.empty,.slice none 0 0,.slice none 0 0,.slice none 0 0]]:Array Value).toList 8=some ([.agg [.lit (.string []),.nil,.nil,.nil]],[],sd):=⟨[],k_⟩
theorem Gw(os:Os){H:Type}(aa:TypeId×Value->H):∃(w:World)(tape:Tape)(i:Input),w.os=os/\(w.forCall tape i).Shaped Tryz.checked.prog/\i.vars=[]/\Input.okWide Tryz.checked.prog (w.forCall tape i) .any w.heap.size 3 i/\(Rows.OpenSpec.upto Rows.moduleNamesSpec).preRow aa Tryz.checked.prog Tryz.f3 [] false tO (w.forCall tape i).memory i.args/\({}:Assume).holds Tryz.checked.prog (lone (Frame.enter Tryz.checked.prog 3 i.args .normal) [] (w.forCall tape i)):=by obtain⟨sd,hx⟩:=MX os aa;have j2:Input.okWideB Tryz.prog ((World.laidAll Tryz.prog os tO).forCall (fun _ _=>0) ⟨#[],#[.agg #[.string ByteArray.empty,.slice none 0 0,.slice none 0 0,.slice none 0 0]],[]⟩) 3 ⟨#[],#[.agg #[.string ByteArray.empty,.slice none 0 0,.slice none 0 0,.slice none 0 0]],[]⟩=true:=k_;refine⟨World.laidAll Tryz.prog os tO,fun _ _=>0,⟨#[],#[.agg #[.string ByteArray.empty,.slice none 0 0,.slice none 0 0,.slice none 0 0]],[]⟩,World.laidAll_os _ _ _,World.shaped_of_ZipB k_ k_,(Input.okWide_of_okWideB (base:=0) j2).1,(Input.okWide_of_okWideB j2).2,OpenSpec.preRow_of_cond 8 hx k_ (fun k hk=>by cases hk;kernel_rfl) k_ (by rw[MakeChecks.laidMetH_plain _ _ _ k_];exact laidMet_laidAll _ k_ k_),?_⟩;simp only[Assume.holds];exact⟨by simp,by simp,fun _=>Modest.zero,by simp,by simp⟩
theorem Gx(os:Os)(pR:os.Started)(H:Type)(aa:TypeId×Value->H)(F:Stop.Interp):ReturnsInHanded {} Tryz.checked os 3 .any ((Rows.OpenSpec.upto Rows.moduleNamesSpec).preRow aa Tryz.prog Tryz.f3 [] false tO) (((Rows.OpenSpec.upto Rows.moduleNamesSpec).at F).post aa Tryz.prog Tryz.f3 false true false false):=by
 refine returnsInHanded_of_row (C:=Tryz.checked) (s:=(Rows.OpenSpec.upto Rows.moduleNamesSpec)) own pR k_ Tryz.func3 (Gw os aa) ?_;intro W base args ds gs before Ts hW _ eS _ hL XW _;have rz:∀(j:Nat) t v,Tryz.f3.params[j]? =some t->args[j]? =some v->Value.okWide Tryz.prog W .any base t v:=Ts;have hk:Rows.uptoSmall H (ds++gs)=true:=eS _ rfl;have Z3:=hW;obtain⟨p,q,hA0,hV,rfl,_,_⟩:=hW;have hA:DataW.TrodAll aa Tryz.prog W 0 (fun _=>true) true Tryz.f3.params.toList args.toList ds p:=hA0;have hA1:=hA;rw[Tryz.params3]at hA rz;obtain⟨v0,d0,rfl,rfl,h0⟩:=trodAll_one hA;obtain⟨rfl,rfl⟩:=trodVars_none hV;have hb:Rows.uptoBulkAll ([d0]++[])<=1048576:=abN hk;simp only[abL,Rows.uptoBulkAll]at hb;obtain⟨n0,k0⟩:=h0;obtain⟨cs,rfl,-⟩:=okWide_struct Tryz.underlying25 (rz 0 25 v0 rfl rfl);obtain⟨m,hm,-,r0⟩:=wMd n0 _ _ k0 (by dsimp only;omega);simp only[abL]at Z3;refine(y8 (Mw.Gy (To hL XW) m hm.s (fun d hd=>(hm.d d hd).c) (fun d hd=>(hm.d d hd).body)) (vs:= #[.agg cs]) ?_ ).mono fun e W' hp=>?_
 ·simp only[aN,ab'];exact MW r0 rfl
 ·obtain⟨x,rfl,hb,hx⟩:=hp;rw[RV.bool hx];exact⟨_,rfl,_,_,_,[],_,[],Z3,trodAll_mk1 (shut_bool Tryz.underlying4 _),nK hb (by rw[Tryz.params3];decide) hA1,rfl,hb.frame _,fun h=>by cases h⟩
end Fw.Tz
