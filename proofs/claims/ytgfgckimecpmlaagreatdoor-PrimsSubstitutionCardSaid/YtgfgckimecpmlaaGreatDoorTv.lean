/-
  PrimsSubstitution at any name and number.
-/
import Derived.Test.YtgfgckimecpmlaaGreatDoorTs
import Derived.Test.YtgfgckimecpmlaaGreatDoorTt
import Derived.Test.YtgfgckimecpmlaaGreatDoorTu
set_option linter.unusedVariables false
set_option maxRecDepth 1000000
set_option maxHeartbeats 1000000
set_option linter.unusedSimpArgs false
namespace Fw.Tz.Sv
open Go Go.Proofs Fw.X Fw.Tz Fw.Tz.Va Fw.Tz.Yd Fw.Tz.Yn Fw.Tz.Ye Fw.Tz.Yq Fw.Tz.Yu Fw.Tz.Yw Fw.Tz.Yv Fw.Tz.Sb Fw.Tz.Sc
variable {W:World}
theorem OE(hW:W0 W)(hA:aE W):∀j,j<64→aQ W [99,104,117,110,107] true (j+1)|0,_=>IW hW hA|1,_=>IX hW hA|2,_=>IY hW hA|3,_=>IZ hW hA|4,_=>I0 hW hA|5,_=>I1 hW hA|6,_=>I2 hW hA|7,_=>I3 hW hA|8,_=>I4 hW hA|9,_=>EN hW hA|10,_=>EO hW hA|11,_=>EP hW hA|12,_=>ER hW hA|13,_=>ES hW hA|14,_=>ET hW hA|15,_=>EU hW hA|16,_=>EV hW hA|17,_=>EW hW hA|18,_=>EX hW hA|19,_=>EY hW hA|20,_=>EZ hW hA|21,_=>E0 hW hA|22,_=>E1 hW hA|23,_=>E2 hW hA|24,_=>E3 hW hA|25,_=>E4 hW hA|26,_=>E5 hW hA|27,_=>E6 hW hA|28,_=>E7 hW hA|29,_=>E8 hW hA|30,_=>E9 hW hA|31,_=>E' hW hA|32,_=>E_ hW hA|33,_=>Fa hW hA|34,_=>Fb hW hA|35,_=>Fc hW hA|36,_=>Fe hW hA|37,_=>Ff hW hA|38,_=>Fg hW hA|39,_=>Fh hW hA|40,_=>Fi hW hA|41,_=>Fj hW hA|42,_=>Fk hW hA|43,_=>Fl hW hA|44,_=>Fm hW hA|45,_=>Fo hW hA|46,_=>Fp hW hA|47,_=>Fq hW hA|48,_=>Fs hW hA|49,_=>Ft hW hA|50,_=>Fu hW hA|51,_=>Fv hW hA|52,_=>Fx hW hA|53,_=>Fy hW hA|54,_=>Fz hW hA|55,_=>FA hW hA|56,_=>FB hW hA|57,_=>FC hW hA|58,_=>FD hW hA|59,_=>FE hW hA|60,_=>FF hW hA|61,_=>FG hW hA|62,_=>FH hW hA|63,_=>FI hW hA|j+64,h=>absurd h (by omega)
theorem sel(hW:W0 W)(hA:aE W)(c:Nat):∀i,i<34→∃N p,XL[i]? =some N∧aQ W N p (numOf p c)
 |0,_=>⟨_,false,rfl,Tc hW hA⟩
 |1,_=>⟨_,false,rfl,Tg hW hA⟩
 |2,_=>⟨_,false,rfl,Ti hW hA⟩
 |3,_=>⟨_,false,rfl,IT hW hA⟩
 |4,_=>⟨_,true,rfl,by rw[numOf,aan rfl,Nat.add_comm];exact OE hW hA (c%64) (ab0 _ (by decide))⟩
 |5,_=>⟨_,false,rfl,B5 hW hA⟩
 |6,_=>⟨_,false,rfl,Tj hW hA⟩
 |7,_=>⟨_,false,rfl,Oy hW hA⟩
 |8,_=>⟨_,false,rfl,XQ hW hA⟩
 |9,_=>⟨_,false,rfl,OD hW hA⟩
 |10,_=>⟨_,false,rfl,XP hW hA⟩
 |11,_=>⟨_,false,rfl,XS hW hA⟩
 |12,_=>⟨_,false,rfl,Le hW hA⟩
 |13,_=>⟨_,false,rfl,Oz hW hA⟩
 |14,_=>⟨_,false,rfl,XT hW hA⟩
 |15,_=>⟨_,false,rfl,XW hW hA⟩
 |16,_=>⟨_,false,rfl,Td hW hA⟩
 |17,_=>⟨_,false,rfl,Th hW hA⟩
 |18,_=>⟨_,false,rfl,Tk hW hA⟩
 |19,_=>⟨_,false,rfl,Te hW hA⟩
 |20,_=>⟨_,false,rfl,XU hW hA⟩
 |21,_=>⟨_,false,rfl,Tl hW hA⟩
 |22,_=>⟨_,false,rfl,Tf hW hA⟩
 |23,_=>⟨_,false,rfl,XV hW hA⟩
 |24,_=>⟨_,false,rfl,EM hW hA⟩
 |25,_=>⟨_,false,rfl,IU hW hA⟩
 |26,_=>⟨_,false,rfl,OB hW hA⟩
 |27,_=>⟨_,false,rfl,Tm hW hA⟩
 |28,_=>⟨_,false,rfl,OA hW hA⟩
 |29,_=>⟨_,false,rfl,Ld hW hA⟩
 |30,_=>⟨_,false,rfl,AD hW hA⟩
 |31,_=>⟨_,false,rfl,IV hW hA⟩
 |32,_=>⟨_,false,rfl,EL hW hA⟩
 |33,_=>⟨_,false,rfl,Tn hW hA⟩
 |i+34,h=>absurd h (by omega)
theorem call(hW:W0 W)(hA:aE W)(a c:Nat)(t:Bool)(ha:a<256)(hc:c<256):PC P (gl W) 11 [.d (.int .u8 (.ofNat a)),.d (.int .u8 (.ofNat c)),.d (.bool t)] (.d (.bool true)):=by obtain⟨N,p,h1,h2⟩:=sel hW hA c (a%34) (ab0 _ (by decide));exact h2 a c t ha hc h1 rfl
end Fw.Tz.Sv
