/-
  PrimsUnder: the row and the card.
-/
import Derived.Test.YtgfgckimecpmlaaGreatDoorTg
set_option linter.unusedSimpArgs false
set_option maxRecDepth 100000
set_option linter.unusedVariables false
namespace Fw.Tz
open Go Go.Proofs Fw.X Go.ChangeShapes Go.WideShapes Go.ChangeAt Go.RowKit
open Go.Proofs.YtgfgckimecpmlaaGreatDoor
theorem Fo(os:Os)(jj:os.Started)(H:Type)(aa:TypeId×Value→H):ReturnsInHanded {} Tryz.checked os 10 .any (fun w args=>(Rows.primsUnderSpec.pre aa Tryz.prog Tryz.f10 [] false w args∧laidMetH Tryz.prog uB w)∧sizedMet aa Tryz.prog Tryz.f10 (OpenSpec.ofChange Rows.primsUnderSpec) false w args) (Rows.primsUnderSpec.post aa Tryz.prog Tryz.f10 false true false false):=by
 refine Ux (C:=Tryz.checked) (X:=fun w _=>laidMetH Tryz.prog uB w) (fun _ _ _ hh h=>h.of_heap hh) own jj k_ Tryz.func10 (ChangeSpec.witness_shaped (enc:=aa) (C:=Tryz.checked) (os:=os) (X:=fun w _=>laidMetH Tryz.prog uB w) false (World.laidAll Tryz.prog os uB) #[.string ⟨#[]⟩,.int .i64 0,.agg #[.slice none 0 0,.slice none 0 0]] 8 (World.laidAll_os _ _ _) (World.shaped_of_ZipB k_ k_) k_ k_ k_ (by rw[MakeChecks.laidMetH_plain _ _ _ k_];exact laidMet_laidAll _ k_ k_)) ?_;intro W base args ds gs before Uy hW hz A2 hL;have oj:∀(j:Nat) t v,Tryz.f10.params[j]? =some t→args[j]? =some v→Value.okWide Tryz.prog W .any base t v:=Uy;have hW':=hW;obtain⟨p,q,hA0,hV,rfl,_,_⟩:=hW;have hA:DataW.TrodAll aa Tryz.prog W 0 (fun _=>true) true Tryz.f10.params.toList args.toList ds p:=hA0;have VN:=hA;rw[Tryz.params10]at hA oj;obtain⟨v0,v1,v2,d0,d1,d2,p0,p1,p2,rfl,rfl,rfl,h0,h1,h2⟩:=trodAll_three hA;obtain⟨rfl,rfl⟩:=trodVars_none hV;have vo:(DataW.weightsEach Tryz.prog (Tryz.f10.params.toList++Rows.primsUnderSpec.plain.varTypes Tryz.prog) ([d0,d1,d2]++[])).all (·≤reachBytes)=true:=hz;have NA:Ce (d2.weights Tryz.prog 71):=ri vo 2 71 d2 (by rw[Tryz.params10];rfl) rfl;obtain⟨x0,rfl,rfl,rfl,w0⟩:=Go.ChangeMaps.open_string Tryz.underlying9 (oj 0 9 v0 rfl rfl) h0;obtain⟨x1,rfl,rfl,rfl,w1⟩:=open_int Tryz.underlying3 (oj 1 3 v1 rfl rfl) h1;obtain⟨n2,k2⟩:=h2;obtain⟨cs,rfl,-⟩:=okWide_struct Tryz.underlying71 (oj 2 71 v2 rfl rfl);obtain⟨c,hc,r2⟩:=Uv n2 _ _ k2 NA;simp only[List.append_nil]at hW';refine(Au (Bc.call (Pw hL A2) (Fm hL) x0.data.toList x1 c.1 c.2 hc) (vs:= #[.string x0,.int .i64 x1,.agg cs]) ?_ ).mono fun e W' hp=>?_
 ·simp only[aV,aco];exact⟨by simp only[RV,Rd];exact⟨x0,rfl,rfl⟩,by simp only[RV,Rd],Pu r2 rfl⟩
 ·obtain⟨x,rfl,hb,hx⟩:=hp;rw[RV.bool hx];exact⟨_,rfl,_,_,_,[],_,[],hW',trodAll_mk1 (shut_bool Tryz.underlying4 _),oa hb (by rw[Tryz.params10];decide) VN,rfl,hb.frame _,fun h=>by cases h⟩
end Fw.Tz
