/-
  PrimsSubstitution: the row and the card.
-/
import Derived.Test.YtgfgckimecpmlaaGreatDoorTg
import Derived.Test.YtgfgckimecpmlaaGreatDoorTv
set_option linter.unusedSimpArgs false
set_option maxRecDepth 100000
set_option linter.unusedVariables false
namespace Fw.Tz
open Go Go.Proofs Fw.X Go.ChangeShapes Go.WideShapes Go.ChangeAt Go.RowKit
open Go.Proofs.YtgfgckimecpmlaaGreatDoor
theorem Ey(os:Os)(lP:os.Started)(H:Type)(aa:TypeId×Value→H):ReturnsInHanded {} Tryz.checked os 11 .any (fun w args=>(Rows.primsSubstitutionSpec.pre aa Tryz.prog Tryz.f11 [] false w args∧laidMetH Tryz.prog ua w)∧sizedMet aa Tryz.prog Tryz.f11 (OpenSpec.ofChange Rows.primsSubstitutionSpec) false w args) (Rows.primsSubstitutionSpec.post aa Tryz.prog Tryz.f11 false true false false):=by
 refine wrap (C:=Tryz.checked) (X:=fun w _=>laidMetH Tryz.prog ua w) (fun _ _ _ hh h=>h.of_heap hh) own lP k_ Tryz.func11 (ChangeSpec.witness_shaped (enc:=aa) (C:=Tryz.checked) (os:=os) (X:=fun w _=>laidMetH Tryz.prog ua w) false (World.laidAll Tryz.prog os ua) #[.int .u8 0,.int .u8 0,.bool false] 8 (World.laidAll_os _ _ _) (World.shaped_of_ZipB k_ k_) k_ k_ k_ (by rw[MakeChecks.laidMetH_plain _ _ _ k_];exact laidMet_laidAll _ k_ k_)) ?_;intro W base args ds gs before SM hW C' hL;have qb:∀(j:Nat) t v,Tryz.f11.params[j]? =some t→args[j]? =some v→Value.okWide Tryz.prog W .any base t v:=SM;have YR:=hW;obtain⟨p,q,hA0,hV,rfl,_,_⟩:=hW;have hA:DataW.TrodAll aa Tryz.prog W 0 (fun _=>true) true Tryz.f11.params.toList args.toList ds p:=hA0;have hA1:=hA;rw[Tryz.params11]at hA qb;obtain⟨v0,v1,v2,d0,d1,d2,p0,p1,p2,rfl,rfl,rfl,h0,h1,h2⟩:=trodAll_three hA;obtain⟨rfl,rfl⟩:=trodVars_none hV;obtain⟨n0,rfl,rfl,rfl,w0⟩:=open_int Tryz.underlying5 (qb 0 5 v0 rfl rfl) h0;obtain⟨n1,rfl,rfl,rfl,w1⟩:=open_int Tryz.underlying5 (qb 1 5 v1 rfl rfl) h1;obtain⟨x2,rfl,rfl,rfl⟩:=open_bool Tryz.underlying4 (qb 2 4 v2 rfl rfl) h2;obtain⟨a,ha,rfl⟩:=LX w0;obtain⟨c,hc,rfl⟩:=LX w1;simp only[acA]at YR;refine(Aa (Sv.call (Oa hL C') (Eu hL) a c x2 ha hc) (vs:= #[.int .u8 (Int.ofNat a),.int .u8 (Int.ofNat c),.bool x2]) (by simp[aP,RV,Rd])).mono fun e W' hp=>?_
 obtain⟨x,rfl,hb,hx⟩:=hp;rw[RV.bool hx];exact⟨_,rfl,_,_,_,[],_,[],YR,trodAll_mk1 (shut_bool Tryz.underlying4 _),trodAll_mk3 (shut_int Tryz.underlying5 w0) (shut_int Tryz.underlying5 w1) (shut_bool Tryz.underlying4 x2),rfl,hb.frame _,fun h=>by cases h⟩
end Fw.Tz
