/-
  AgreeSolve: the row and the card.
-/
import Derived.Test.YtgfgckimecpmlaaGreatDoorTg
import Derived.Test.YtgfgckimecpmlaaGreatDoorTq
set_option linter.unusedSimpArgs false
set_option maxRecDepth 100000
set_option linter.unusedVariables false
namespace Fw.Tz
open Go Go.Proofs Fw.X Go.ChangeShapes Go.WideShapes Go.ChangeAt Go.RowKit
open Go.Proofs.YtgfgckimecpmlaaGreatDoor
theorem IT(os:Os)(mh:os.Started)(H:Type)(aa:TypeId×Value->H):ReturnsInHanded {} Tryz.checked os 6 .any (fun w args=>(Rows.agreeSolveSpec.pre aa Tryz.prog Tryz.f6 [] false w args/\laidMetH Tryz.prog pv w)/\sizedMet aa Tryz.prog Tryz.f6 (OpenSpec.ofChange Rows.agreeSolveSpec) false w args) (Rows.agreeSolveSpec.post aa Tryz.prog Tryz.f6 false true false false):=by
 refine wrap (C:=Tryz.checked) (X:=fun w _=>laidMetH Tryz.prog pv w) (fun _ _ _ hh h=>h.of_heap hh) own mh k_ Tryz.func6 (ChangeSpec.witness_shaped (enc:=aa) (C:=Tryz.checked) (os:=os) (X:=fun w _=>laidMetH Tryz.prog pv w) false (World.laidAll Tryz.prog os pv) #[.agg #[.int .i64 0,.int .i64 0,.string ByteArray.empty,.string ByteArray.empty,.slice none 0 0,.string ByteArray.empty,.string ByteArray.empty,.slice none 0 0,.slice none 0 0,.slice none 0 0,.string ByteArray.empty,.string ByteArray.empty,.slice none 0 0,.string ByteArray.empty,.string ByteArray.empty,.slice none 0 0,.int .i64 0,.slice none 0 0],.agg #[.string ByteArray.empty,.slice none 0 0],.slice none 0 0] 8 (World.laidAll_os _ _ _) (World.shaped_of_ZipB k_ k_) k_ k_ k_ (by rw[MakeChecks.laidMetH_plain _ _ _ k_];exact laidMet_laidAll _ k_ k_)) ?_;intro W base args ds gs before UD hW wK hL;have uZ:∀(j:Nat) t v,Tryz.f6.params[j]? =some t->args[j]? =some v->Value.okWide Tryz.prog W .any base t v:=UD;have hW':=hW;obtain⟨p,q,Zi,hV,rfl,_,_⟩:=hW;have hA:DataW.TrodAll aa Tryz.prog W 0 (fun _=>true) true Tryz.f6.params.toList args.toList ds p:=Zi;have hA1:=hA;rw[Tryz.params6]at hA uZ;obtain⟨v0,v1,v2,d0,d1,d2,p0,p1,p2,rfl,rfl,rfl,h0,h1,h2⟩:=trodAll_three hA;obtain⟨rfl,rfl⟩:=trodVars_none hV;obtain⟨n0,k0⟩:=h0;obtain⟨cs,rfl,-⟩:=okWide_struct Tryz.underlying32 (uZ 0 32 v0 rfl rfl);obtain⟨c,Uq,r0⟩:=Zh n0 _ _ k0;obtain⟨n1,k1⟩:=h1;obtain⟨ss,rfl,-⟩:=okWide_struct Tryz.underlying24 (uZ 1 24 v1 rfl rfl);obtain⟨s,hs,r1⟩:=UA n1 _ _ k1;obtain⟨n2,k2⟩:=h2;obtain⟨b0,b1,b2,rfl⟩:=okWide_slice Tryz.underlying35 (uZ 2 35 v2 rfl rfl);obtain⟨bs,g2,r2⟩:=OG n2 _ _ k2;simp only[acV]at hW';refine(Bl (Ui.F6 (Uu hL wK) c Uq s.1 s.2 hs bs (ab6 g2.2 sO)) (vs:= #[.agg cs,.agg ss,.slice b0 b1 b2]) ?_ ).mono fun e W' hp=>?_
 ·simp only[aT,acm];exact⟨IS r0 (bR.IQ c),IS r1 rfl,F5 rfl r2 rfl⟩
 ·obtain⟨x,rfl,hb,hx⟩:=hp;rw[RV.bool hx];exact⟨_,rfl,_,_,_,[],_,[],hW',trodAll_mk1 (shut_bool Tryz.underlying4 _),pt hb (by rw[Tryz.params6];decide) hA1,rfl,hb.frame _,fun h=>by cases h⟩
end Fw.Tz
