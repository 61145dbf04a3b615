/- A part of the proof. -/
import Derived.Test.YtgfgckimecpmlaaGreatDoorJa
import Derived.Test.YtgfgckimecpmlaaGreatDoorJb
import Derived.Test.YtgfgckimecpmlaaGreatDoorJc
import Derived.Test.YtgfgckimecpmlaaGreatDoorJd
import Derived.Test.YtgfgckimecpmlaaGreatDoorJe
import Derived.ProofKit
set_option maxRecDepth 100000
namespace Fw.Tz
open Go Go.Proofs Go.RowKit
open Go.Proofs.YtgfgckimecpmlaaGreatDoor
theorem ND:(Rows.primsSubstitutionRow.lifted==Tryz.prog.liftsFinal)=true:=ZT
theorem NF:(Tryz.prog.make==some Rows.primsSubstitutionRow.make)=true:=ZW
theorem NG:joinedFacts Tryz.prog 11 Tryz.f11 Rows.primsSubstitutionSpec Rows.primsSubstitutionRow=true:=by
 unfold joinedFacts;simp only[Bool.and_eq_true];repeat' apply And.intro
 all_goals first|with_reducible exact NC|with_reducible exact ZR|with_reducible exact ZS|with_reducible exact Nx|with_reducible exact Ny|with_reducible exact NA|with_reducible exact NB|with_reducible exact ND|with_reducible exact ZU|with_reducible exact ZV|with_reducible exact NF|kernel_rfl
end Fw.Tz
