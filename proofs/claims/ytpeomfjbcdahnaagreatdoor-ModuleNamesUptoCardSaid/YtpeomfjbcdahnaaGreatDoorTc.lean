/-
  What closed runs lean on: the library's functions, as tables that reckon.
-/
import Derived.Test.YtpeomfjbcdahnaaGreatDoorTa
import Derived.Test.YtpeomfjbcdahnaaGreatDoorIr
import Derived.Test.YtpeomfjbcdahnaaGreatDoorFf
set_option linter.unusedSimpArgs false
set_option maxRecDepth 100000
set_option linter.unusedVariables false
namespace Fw.Tz
open Go Go.Proofs
variable {W:World}
theorem Mv:au P 118=some (fP 2 32):=k_
theorem Mx:au P 167=some (fP 1 8):=k_
theorem My:au P 119=some (fP 2 24):=k_
def FD:List UInt8->Bool|[]=>true|c::l=>bif Nat.blt c.toNat 128 then FD l else false
theorem F3:∀{l:List UInt8},FD l=true->∀(j:Nat) b,l[j]? =some b->b.toNat<128
 |[],_,j,b,h=>by simp at h
 |c::l,ha,j,b,h=>by
  simp only[FD]at ha;cases hc:Nat.blt c.toNat 128 with
   |false=>rw[hc]at ha;cases ha
   |true=>
    rw[hc]at ha;cases j with
     |zero=>simp at h;subst h;rwa[aaR]at hc
     |succ j=>simp at h;exact F3 ha j b h
def pO:List (List D)->Option (List (List UInt8))
 |[]=>some []
 |[.str s]::l=>
  match pO l with
   |some ss=>some (s::ss)
   |none=>none
 |_=>none
theorem tD:∀{l:List (List D)}{ss:List (List UInt8)},pO l=some ss->D.list l=cT ss
 |[],ss,h=>by simp only[pO,aar]at h;subst h;rfl
 |v::l,ss,h=>by
  unfold pO at h;split at h
  ·rename_i e;cases e
  ·rename_i s l' heq;split at h
   ·rename_i ss' Le;simp only[aar]at h;subst h;simp only[acm]at heq;obtain⟨rfl,rfl⟩:=heq;have:=tD Le;simp[cT]at this⊢;exact this
   ·cases h
  ·cases h
def FL:LF:=[(287,fun args=>match args with|[.d (.str s),.d (.str p)]=>some (.d (.bool (Lib.hasPrefix s p)))|_=>none),(212,fun args=>match args with|[.d (.str s),.d (.str p)]=>bif Nat.ble s.length 1048576 then some (.d (.str (Lib.trimSuffix s p)))else none|_=>none),(161,fun args=>match args with|[.d (.str s),.d (.str p)]=>some (.tuple [.d (.str (Lib.trimPrefix s p)),.d (.bool (Lib.hasPrefix s p))])|_=>none),(278,fun args=>match args with|[.d (.str s),.d (.str p)]=>bif Nat.ble s.length 1048576 then some (.tuple [.d (.str (Lib.trimSuffix s p)),.d (.bool (Lib.hasSuffix s p))])else none|_=>none),(221,fun args=>match args with|[.d (.str s),.d (.int .u8 c)]=>some (.d (.int .i64 (Lib.indexByte s c.toNat.toUInt8)))|_=>none),(92,fun args=>match args with|[.d (.str s),.d (.str p)]=>bif Nat.ble s.length 1048576 then some (.tuple [.d (.str (Lib.cut s p).1),.d (.str (Lib.cut s p).2.1),.d (.bool (Lib.cut s p).2.2)])else none|_=>none),(164,fun args=>match args with|[.d (.str s),.d (.str p)]=>bif Nat.ble s.length 1048576&&Nat.ble 1 p.length then some (.d (cT (Lib.split s p)))else none|_=>none),(65,fun args=>match args with|[.ak,.d (.str _)]=>some (.d (.str []))|[.d (.list l),.d (.str p)]=>(match pO l with|some ss=>bif Nat.ble ss.length 1048576&&Nat.ble (Lib.join ss p).length 1048576 then some (.d (.str (Lib.join ss p)))else none|none=>none)|_=>none),(286,fun args=>match args with|[.d (.str s),.d (.str [c])]=>bif Nat.blt c.toNat 128 then some (.d (.str (Lib.trimLeftB s c)))else none|_=>none),(206,fun args=>match args with|[.d (.int .i64 (.ofNat n))]=>bif Nat.ble n 1048576 then some (.d (.str (Lib.itoa (.ofNat n))))else none|[.d (.int .i64 (.negSucc n))]=>bif Nat.ble n 1048576 then some (.d (.str (Lib.itoa (.negSucc n))))else none|_=>none),(312,fun args=>match args with|[.d (.str s)]=>bif Nat.ble s.length 1048576 then some (BS s)else none|_=>none),(160,fun args=>match args with|[.d (.str s)]=>bif FD s&&Nat.ble s.length 1048576 then some (.d (cT (Lib.fields s)))else none|_=>none),(118,fun args=>match args with|[.d (.list [])]=>some (.d (.list []))|_=>none),(167,fun args=>match args with|[.d (.list [])]=>some (.d (.list []))|_=>none),(119,fun args=>match args with|[.d (.list [])]=>some (.d (.list []))|_=>none)]
theorem eX{c:Bool}{α:Type}{a b:α}(h:(bif c then some a else none)=some b):c=true/\a=b:=by
 cases c with
  |true=>simp at h;exact⟨rfl,h⟩
  |false=>simp at h
theorem wO(hW:W0 W):bG P (gl W) (pr FL):=by
 refine Pd fun p hp args v h=>?_
 simp only[FL,aaT,abh,abV]at hp;rcases hp with rfl|rfl|rfl|rfl|rfl|rfl|rfl|rfl|rfl|rfl|rfl|rfl|rfl|rfl|rfl<;>simp only at h⊢ <;>(try split at h)<;>(try (cases h;done))
 ·simp only[aar]at h;subst h;exact yM _ _
 ·obtain⟨c,rfl⟩:=eX h;exact pM _ _ (by have:=aax c;omega)
 ·simp only[aar]at h;subst h;exact yN _ _
 ·obtain⟨c,rfl⟩:=eX h;exact yO _ _ (by have:=aax c;omega)
 ·simp only[aar]at h;subst h;exact yP _ _
 ·obtain⟨c,rfl⟩:=eX h;exact J0 hW _ _ (by have:=aax c;omega)
 ·obtain⟨c,rfl⟩:=eX h;simp only[aas]at c;exact IG hW _ _ (by have:=aax c.1;omega) (aax c.2)
 ·simp only[aar]at h;subst h;exact IH _
 ·split at h
  ·rename_i ss Um;obtain⟨c,rfl⟩:=eX h;simp only[aas]at c;rw[tD Um];exact FF _ _ (by have:=aax c.1;omega) (by have:=aax c.2;omega)
  ·cases h
 ·obtain⟨c,rfl⟩:=eX h;exact AB _ _ (by rwa[aaR]at c)
 ·obtain⟨c,rfl⟩:=eX h;have:=aax c;exact oq hW _ (by first|omega|(simp;done)|(simp;omega)) (by first|omega|(simp;done)|(simp;omega))
 ·obtain⟨c,rfl⟩:=eX h;have:=aax c;exact oq hW _ (by omega) (by omega)
 ·obtain⟨c,rfl⟩:=eX h;exact FG hW _ (by have:=aax c;omega)
 ·obtain⟨c,rfl⟩:=eX h;simp only[aas]at c;exact tz hW hW.FD _ (by have:=aax c.2;omega) (F3 c.1)
 ·simp only[aar]at h;subst h;exact fq (by decide) Mv k_
 ·simp only[aar]at h;subst h;exact fq (by decide) Mx k_
 ·simp only[aar]at h;subst h;exact fq (by decide) My k_
def ZX:List FuncId:=[65,210,261,198,228,166,156,267,287,212,161,278]
def Mz(f:FuncId):List FuncId->Bool|[]=>false|x::l=>bif Nat.beq x f then true else Mz f l
def WR(aH:ba)(f:FuncId)(args:List V)(H:an):Option (V×an):=bif Mz f ZX&& !(aJ 0 args)then
 match bS (oQ H) args with
  |some d=>
   match aH f d with
    |some v=>bif xX v then some (v,H)else none
    |none=>none
  |none=>none else none
theorem MA{aH:ba}(hp:bG P (gl W) aH){f:FuncId}{args:List V}{H:an}{v:V}{H':an}(h:WR aH f args H=some (v,H')):WF P (gl W) f args H (fun r k=>r=v/\k=H'):=by
 unfold WR at h;cases hr:(Mz f ZX&& !(aJ 0 args))with
  |false=>rw[hr]at h;cases h
  |true=>
   rw[hr]at h;simp only[aaw]at h;split at h
   ·rename_i d hd;split at h
    ·rename_i x hx;cases hs:xX x with
      |false=>rw[hs]at h;cases h
      |true=>rw[hs]at h;simp only[aaw,aar,aav]at h;obtain⟨rfl,rfl⟩:=h;exact WF.borrow hd (hp _ _ _ hx) hs ⟨rfl,rfl⟩
    ·cases h
   ·cases h
def ng:Af:=fun aH f args H=>WR aH f args H
theorem BU:wo P (gl W) ng:=by intro aH hp f args H v H' h;unfold ng at h;exact MA hp h
end Fw.Tz
/-
  The functions that closed runs enter.
-/
namespace Fw.Tz
open Go Go.Proofs Fw.X
noncomputable def aZ(i:Nat):bL:=(au P i).getD ⟨0,0,[],.skip⟩
theorem MB{i:Nat}(h:(au P i).isSome=true):au P i=some (aZ i):=by
 unfold aZ;cases hc:au P i with
  |none=>rw[hc]at h;cases h
  |some f=>rfl
theorem is3:au P 3=some f3:=k_
theorem ca3:al P 3=true:=k_
theorem is6:au P 6=some f6:=k_
theorem ca6:al P 6=true:=k_
theorem is7:au P 7=some f7:=k_
theorem ca7:al P 7=true:=k_
theorem is8:au P 8=some f8:=k_
theorem ca8:al P 8=true:=k_
theorem is9:au P 9=some f9:=k_
theorem ca9:al P 9=true:=k_
theorem WN:au P 10=some f10:=k_
theorem WQ:al P 10=true:=k_
theorem WS:au P 11=some f11:=k_
theorem WT:al P 11=true:=k_
theorem Wu:au P 20=some f20:=k_
theorem Wv:al P 20=true:=k_
theorem WU:au P 21=some f21:=k_
theorem WV:al P 21=true:=k_
theorem QF:au P 22=some f22:=k_
theorem QG:al P 22=true:=k_
theorem WW:au P 23=some f23:=k_
theorem WX:al P 23=true:=k_
theorem Wl:au P 24=some f24:=k_
theorem Wm:al P 24=true:=k_
theorem WZ:au P 25=some f25:=k_
theorem W2:al P 25=true:=k_
theorem QH:au P 26=some f26:=k_
theorem QI:al P 26=true:=k_
theorem W3:au P 27=some f27:=k_
theorem W4:al P 27=true:=k_
theorem W5:au P 28=some f28:=k_
theorem W6:al P 28=true:=k_
theorem W7:au P 29=some f29:=k_
theorem W8:al P 29=true:=k_
theorem W9:au P 30=some f30:=k_
theorem W_:al P 30=true:=k_
theorem Xa:au P 31=some f31:=k_
theorem Xb:al P 31=true:=k_
theorem WL:au P 32=some f32:=k_
theorem WM:al P 32=true:=k_
theorem WD:au P 33=some f33:=k_
theorem WE:al P 33=true:=k_
theorem WJ:au P 34=some f34:=k_
theorem WK:al P 34=true:=k_
theorem Xc:au P 35=some f35:=k_
theorem Xd:al P 35=true:=k_
theorem Xe:au P 51=some f51:=k_
theorem Xf:al P 51=true:=k_
theorem Xg:au P 52=some f52:=k_
theorem Xh:al P 52=true:=k_
theorem Wn:au P 57=some f57:=k_
theorem Wo:al P 57=true:=k_
theorem Wp:au P 58=some f58:=k_
theorem Wq:al P 58=true:=k_
theorem Ws:au P 59=some f59:=k_
theorem Wt:al P 59=true:=k_
theorem Xi:au P 60=some f60:=k_
theorem Xj:al P 60=true:=k_
theorem Xk:au P 61=some f61:=k_
theorem Xl:al P 61=true:=k_
theorem Xm:au P 62=some f62:=k_
theorem Xn:al P 62=true:=k_
theorem Xo:au P 63=some f63:=k_
theorem Xp:al P 63=true:=k_
theorem Xq:au P 64=some f64:=k_
theorem Xr:al P 64=true:=k_
theorem QJ:au P 66=some f66:=k_
theorem QK:al P 66=true:=k_
theorem Xs:au P 67=some f67:=k_
theorem Xt:al P 67=true:=k_
theorem Xu:au P 68=some f68:=k_
theorem Xv:al P 68=true:=k_
theorem QL:au P 69=some f69:=k_
theorem QM:al P 69=true:=k_
theorem Xw:au P 70=some f70:=k_
theorem Xx:al P 70=true:=k_
theorem Xy:au P 71=some f71:=k_
theorem Xz:al P 71=true:=k_
theorem QN:au P 72=some f72:=k_
theorem QO:al P 72=true:=k_
theorem XA:au P 73=some f73:=k_
theorem XB:al P 73=true:=k_
theorem XC:au P 74=some f74:=k_
theorem XD:al P 74=true:=k_
theorem WA:au P 79=some f79:=k_
theorem WB:al P 79=true:=k_
theorem WH:au P 80=some f80:=k_
theorem WI:al P 80=true:=k_
theorem XE:au P 93=some f93:=k_
theorem XF:al P 93=true:=k_
theorem XG:au P 94=some f94:=k_
theorem XH:al P 94=true:=k_
theorem XI:au P 96=some f96:=k_
theorem XJ:al P 96=true:=k_
theorem QP:au P 101=some f101:=k_
theorem QQ:al P 101=true:=k_
theorem QR:au P 102=some f102:=k_
theorem QS:al P 102=true:=k_
theorem QT:au P 103=some f103:=k_
theorem QU:al P 103=true:=k_
theorem QV:au P 104=some f104:=k_
theorem QW:al P 104=true:=k_
theorem QX:au P 105=some f105:=k_
theorem QY:al P 105=true:=k_
theorem J2:au P 106=some f106:=k_
theorem J3:al P 106=true:=k_
theorem QZ:au P 107=some f107:=k_
theorem Q1:al P 107=true:=k_
theorem Q2:au P 108=some f108:=k_
theorem Q3:al P 108=true:=k_
theorem J4:au P 109=some f109:=k_
theorem J5:al P 109=true:=k_
theorem Q4:au P 113=some f113:=k_
theorem Q5:al P 113=true:=k_
theorem Q6:au P 114=some f114:=k_
theorem Q7:al P 114=true:=k_
theorem Q8:au P 115=some f115:=k_
theorem Q9:al P 115=true:=k_
theorem Q_:au P 117=some f117:=k_
theorem Ra:al P 117=true:=k_
theorem F4:au P 118=some f118:=k_
theorem F5:al P 118=true:=k_
theorem Rb:au P 119=some f119:=k_
theorem Rc:al P 119=true:=k_
theorem Re:au P 120=some f120:=k_
theorem Rf:al P 120=true:=k_
theorem Qz:au P 121=some f121:=k_
theorem QA:al P 121=true:=k_
theorem QD:au P 122=some f122:=k_
theorem QE:al P 122=true:=k_
theorem QB:au P 123=some f123:=k_
theorem QC:al P 123=true:=k_
theorem Rh:au P 131=some f131:=k_
theorem Ri:al P 131=true:=k_
theorem Rj:au P 132=some f132:=k_
theorem Rk:al P 132=true:=k_
theorem Rl:au P 134=some f134:=k_
theorem Rm:al P 134=true:=k_
theorem Rn:au P 135=some f135:=k_
theorem Ro:al P 135=true:=k_
theorem Rq:au P 136=some f136:=k_
theorem Rr:al P 136=true:=k_
theorem Rs:au P 137=some f137:=k_
theorem Rt:al P 137=true:=k_
theorem Ru:au P 145=some f145:=k_
theorem Rv:al P 145=true:=k_
theorem Rw:au P 146=some f146:=k_
theorem Rx:al P 146=true:=k_
theorem Ry:au P 147=some f147:=k_
theorem Rz:al P 147=true:=k_
theorem RA:au P 148=some f148:=k_
theorem RC:al P 148=true:=k_
theorem RD:au P 149=some f149:=k_
theorem RE:al P 149=true:=k_
theorem F6:au P 150=some f150:=k_
theorem F7:al P 150=true:=k_
theorem RF:au P 151=some f151:=k_
theorem RG:al P 151=true:=k_
theorem F8:au P 152=some f152:=k_
theorem F9:al P 152=true:=k_
theorem RH:au P 153=some f153:=k_
theorem RI:al P 153=true:=k_
theorem RJ:au P 154=some f154:=k_
theorem RL:al P 154=true:=k_
theorem J6:au P 155=some f155:=k_
theorem J7:al P 155=true:=k_
theorem RN:au P 156=some f156:=k_
theorem RO:al P 156=true:=k_
theorem RP:au P 157=some f157:=k_
theorem RR:al P 157=true:=k_
theorem RT:au P 167=some f167:=k_
theorem RU:al P 167=true:=k_
theorem J8:au P 168=some f168:=k_
theorem J9:al P 168=true:=k_
theorem Qx:au P 169=some f169:=k_
theorem Qy:al P 169=true:=k_
theorem RW:au P 184=some f184:=k_
theorem RX:al P 184=true:=k_
theorem RY:au P 198=some f198:=k_
theorem RZ:al P 198=true:=k_
theorem J':au P 199=some f199:=k_
theorem J_:al P 199=true:=k_
theorem R0:au P 200=some f200:=k_
theorem R1:al P 200=true:=k_
theorem R2:au P 201=some f201:=k_
theorem R3:al P 201=true:=k_
theorem R4:au P 202=some f202:=k_
theorem R5:al P 202=true:=k_
theorem R6:au P 203=some f203:=k_
theorem R7:al P 203=true:=k_
theorem R8:au P 204=some f204:=k_
theorem R9:al P 204=true:=k_
theorem Ka:au P 208=some f208:=k_
theorem Kb:al P 208=true:=k_
theorem Kc:au P 209=some f209:=k_
theorem Ke:al P 209=true:=k_
theorem R':au P 210=some f210:=k_
theorem R_:al P 210=true:=k_
theorem Sa:au P 211=some f211:=k_
theorem Sb:al P 211=true:=k_
theorem Sc:au P 213=some f213:=k_
theorem Se:al P 213=true:=k_
theorem Kf:au P 214=some f214:=k_
theorem Kg:al P 214=true:=k_
theorem Kh:au P 215=some f215:=k_
theorem Ki:al P 215=true:=k_
theorem FH:au P 227=some f227:=k_
theorem FI:al P 227=true:=k_
theorem Sf:au P 260=some f260:=k_
theorem Sg:al P 260=true:=k_
theorem Sh:au P 261=some f261:=k_
theorem Si:al P 261=true:=k_
theorem Kj:au P 262=some f262:=k_
theorem Kk:al P 262=true:=k_
theorem Sj:au P 263=some f263:=k_
theorem Sk:al P 263=true:=k_
theorem Sl:au P 264=some f264:=k_
theorem Sm:al P 264=true:=k_
theorem Sn:au P 265=some f265:=k_
theorem Sp:al P 265=true:=k_
theorem Sq:au P 266=some f266:=k_
theorem Sr:al P 266=true:=k_
theorem Ss:au P 267=some f267:=k_
theorem Su:al P 267=true:=k_
theorem Sv:au P 271=some f271:=k_
theorem Sw:al P 271=true:=k_
theorem Sx:au P 272=some f272:=k_
theorem Sy:al P 272=true:=k_
theorem Sz:au P 274=some f274:=k_
theorem SA:al P 274=true:=k_
theorem Kl:au P 275=some f275:=k_
theorem Km:al P 275=true:=k_
theorem SB:au P 279=some f279:=k_
theorem SD:al P 279=true:=k_
theorem SE:au P 306=some f306:=k_
theorem SF:al P 306=true:=k_
theorem SG:au P 307=some f307:=k_
theorem SH:al P 307=true:=k_
theorem SI:au P 308=some f308:=k_
theorem SJ:al P 308=true:=k_
theorem SK:au P 309=some f309:=k_
theorem SL:al P 309=true:=k_
theorem SM:au P 310=some f310:=k_
theorem SN:al P 310=true:=k_
theorem SO:au P 314=some f314:=k_
theorem SP:al P 314=true:=k_
theorem SQ:au P 315=some f315:=k_
theorem SR:al P 315=true:=k_
theorem Kn:au P 316=some f316:=k_
theorem Ko:al P 316=true:=k_
theorem SS:au P 326=some f326:=k_
theorem SU:al P 326=true:=k_
theorem SV:au P 336=some f336:=k_
theorem SW:al P 336=true:=k_
theorem SX:au P 338=some f338:=k_
theorem SY:al P 338=true:=k_
theorem SZ:au P 345=some f345:=k_
theorem S0:al P 345=true:=k_
theorem S1:au P 346=some f346:=k_
theorem S3:al P 346=true:=k_
theorem S4:au P 347=some f347:=k_
theorem S5:al P 347=true:=k_
theorem S6:au P 361=some f361:=k_
theorem S7:al P 361=true:=k_
noncomputable def Oq:FT bL:=(.n (.n (.n (.n (.n (.n (.n (.n (.n .e 3 f3 .e) 4 (aZ 4) .e) 5 (aZ 5) (.n (.n .e 6 f6 .e) 7 f7 .e)) 8 f8 (.n (.n (.n .e 9 f9 .e) 10 f10 .e) 11 f11 (.n (.n .e 12 (aZ 12) .e) 13 (aZ 13) .e))) 14 (aZ 14) (.n (.n (.n (.n .e 15 (aZ 15) .e) 16 (aZ 16) .e) 17 (aZ 17) (.n (.n .e 18 (aZ 18) .e) 19 (aZ 19) .e)) 20 f20 (.n (.n (.n .e 21 f21 .e) 22 f22 .e) 23 f23 (.n .e 24 f24 .e)))) 25 f25 (.n (.n (.n (.n (.n .e 26 f26 .e) 27 f27 .e) 28 f28 (.n (.n .e 29 f29 .e) 30 f30 .e)) 31 f31 (.n (.n (.n .e 32 f32 .e) 33 f33 .e) 34 f34 (.n (.n .e 35 f35 .e) 36 (aZ 36) .e))) 37 (aZ 37) (.n (.n (.n (.n .e 38 (aZ 38) .e) 39 (aZ 39) .e) 40 (aZ 40) (.n (.n .e 41 (aZ 41) .e) 42 (aZ 42) .e)) 43 (aZ 43) (.n (.n (.n .e 44 (aZ 44) .e) 45 (aZ 45) .e) 46 (aZ 46) (.n .e 47 (aZ 47) .e))))) 48 (aZ 48) (.n (.n (.n (.n (.n (.n .e 49 (aZ 49) .e) 50 (aZ 50) .e) 51 f51 (.n (.n .e 52 f52 .e) 53 (aZ 53) .e)) 54 (aZ 54) (.n (.n (.n .e 55 (aZ 55) .e) 56 (aZ 56) .e) 57 f57 (.n (.n .e 58 f58 .e) 59 f59 .e))) 60 f60 (.n (.n (.n (.n .e 61 f61 .e) 62 f62 .e) 63 f63 (.n (.n .e 64 f64 .e) 65 (aZ 65) .e)) 66 f66 (.n (.n (.n .e 67 f67 .e) 68 f68 .e) 69 f69 (.n .e 70 f70 .e)))) 71 f71 (.n (.n (.n (.n (.n .e 72 f72 .e) 73 f73 .e) 74 f74 (.n (.n .e 75 (aZ 75) .e) 76 (aZ 76) .e)) 77 (aZ 77) (.n (.n (.n .e 78 (aZ 78) .e) 79 f79 .e) 80 f80 (.n .e 81 (aZ 81) .e))) 82 (aZ 82) (.n (.n (.n (.n .e 83 (aZ 83) .e) 84 (aZ 84) .e) 85 (aZ 85) (.n (.n .e 86 (aZ 86) .e) 87 (aZ 87) .e)) 88 (aZ 88) (.n (.n (.n .e 89 (aZ 89) .e) 90 (aZ 90) .e) 91 (aZ 91) (.n .e 92 (aZ 92) .e)))))) 93 f93 (.n (.n (.n (.n (.n (.n (.n .e 94 f94 .e) 95 (aZ 95) .e) 96 f96 (.n (.n .e 97 (aZ 97) .e) 98 (aZ 98) .e)) 99 (aZ 99) (.n (.n (.n .e 100 (aZ 100) .e) 101 f101 .e) 102 f102 (.n (.n .e 103 f103 .e) 104 f104 .e))) 105 f105 (.n (.n (.n (.n .e 106 f106 .e) 107 f107 .e) 108 f108 (.n (.n .e 109 f109 .e) 110 (aZ 110) .e)) 111 (aZ 111) (.n (.n (.n .e 112 (aZ 112) .e) 113 f113 .e) 114 f114 (.n .e 115 f115 .e)))) 116 (aZ 116) (.n (.n (.n (.n (.n .e 117 f117 .e) 118 f118 .e) 119 f119 (.n (.n .e 120 f120 .e) 121 f121 .e)) 122 f122 (.n (.n (.n .e 123 f123 .e) 124 (aZ 124) .e) 125 (aZ 125) (.n (.n .e 126 (aZ 126) .e) 127 (aZ 127) .e))) 128 (aZ 128) (.n (.n (.n (.n .e 129 (aZ 129) .e) 130 (aZ 130) .e) 131 f131 (.n (.n .e 132 f132 .e) 133 (aZ 133) .e)) 134 f134 (.n (.n (.n .e 135 f135 .e) 136 f136 .e) 137 f137 (.n .e 138 (aZ 138) .e))))) 139 (aZ 139) (.n (.n (.n (.n (.n (.n .e 140 (aZ 140) .e) 141 (aZ 141) .e) 142 (aZ 142) (.n (.n .e 143 (aZ 143) .e) 144 (aZ 144) .e)) 145 f145 (.n (.n (.n .e 146 f146 .e) 147 f147 .e) 148 f148 (.n (.n .e 149 f149 .e) 150 f150 .e))) 151 f151 (.n (.n (.n (.n .e 152 f152 .e) 153 f153 .e) 154 f154 (.n (.n .e 155 f155 .e) 156 f156 .e)) 157 f157 (.n (.n (.n .e 159 (aZ 159) .e) 160 (aZ 160) .e) 161 (aZ 161) (.n .e 162 (aZ 162) .e)))) 163 (aZ 163) (.n (.n (.n (.n (.n .e 164 (aZ 164) .e) 165 (aZ 165) .e) 166 (aZ 166) (.n (.n .e 167 f167 .e) 168 f168 .e)) 169 f169 (.n (.n (.n .e 170 (aZ 170) .e) 171 (aZ 171) .e) 172 (aZ 172) (.n .e 173 (aZ 173) .e))) 174 (aZ 174) (.n (.n (.n (.n .e 175 (aZ 175) .e) 176 (aZ 176) .e) 177 (aZ 177) (.n (.n .e 178 (aZ 178) .e) 179 (aZ 179) .e)) 180 (aZ 180) (.n (.n (.n .e 181 (aZ 181) .e) 182 (aZ 182) .e) 183 (aZ 183) (.n .e 184 f184 .e))))))) 185 (aZ 185) (.n (.n (.n (.n (.n (.n (.n (.n .e 186 (aZ 186) .e) 187 (aZ 187) .e) 188 (aZ 188) (.n (.n .e 189 (aZ 189) .e) 190 (aZ 190) .e)) 191 (aZ 191) (.n (.n (.n .e 192 (aZ 192) .e) 193 (aZ 193) .e) 194 (aZ 194) (.n (.n .e 195 (aZ 195) .e) 196 (aZ 196) .e))) 197 (aZ 197) (.n (.n (.n (.n .e 198 f198 .e) 199 f199 .e) 200 f200 (.n (.n .e 201 f201 .e) 202 f202 .e)) 203 f203 (.n (.n (.n .e 204 f204 .e) 205 (aZ 205) .e) 206 (aZ 206) (.n .e 207 (aZ 207) .e)))) 208 f208 (.n (.n (.n (.n (.n .e 209 f209 .e) 210 f210 .e) 211 f211 (.n (.n .e 212 (aZ 212) .e) 213 f213 .e)) 214 f214 (.n (.n (.n .e 215 f215 .e) 218 (aZ 218) .e) 219 (aZ 219) (.n (.n .e 220 (aZ 220) .e) 221 (aZ 221) .e))) 222 (aZ 222) (.n (.n (.n (.n .e 223 (aZ 223) .e) 224 (aZ 224) .e) 225 (aZ 225) (.n (.n .e 226 (aZ 226) .e) 227 f227 .e)) 228 (aZ 228) (.n (.n (.n .e 229 (aZ 229) .e) 230 (aZ 230) .e) 231 (aZ 231) (.n .e 232 (aZ 232) .e))))) 233 (aZ 233) (.n (.n (.n (.n (.n (.n .e 234 (aZ 234) .e) 235 (aZ 235) .e) 236 (aZ 236) (.n (.n .e 237 (aZ 237) .e) 238 (aZ 238) .e)) 239 (aZ 239) (.n (.n (.n .e 240 (aZ 240) .e) 241 (aZ 241) .e) 242 (aZ 242) (.n (.n .e 243 (aZ 243) .e) 244 (aZ 244) .e))) 245 (aZ 245) (.n (.n (.n (.n .e 247 (aZ 247) .e) 248 (aZ 248) .e) 249 (aZ 249) (.n (.n .e 250 (aZ 250) .e) 251 (aZ 251) .e)) 252 (aZ 252) (.n (.n (.n .e 253 (aZ 253) .e) 254 (aZ 254) .e) 255 (aZ 255) (.n .e 256 (aZ 256) .e)))) 257 (aZ 257) (.n (.n (.n (.n (.n .e 258 (aZ 258) .e) 259 (aZ 259) .e) 260 f260 (.n (.n .e 261 f261 .e) 262 f262 .e)) 263 f263 (.n (.n (.n .e 264 f264 .e) 265 f265 .e) 266 f266 (.n .e 267 f267 .e))) 268 (aZ 268) (.n (.n (.n (.n .e 269 (aZ 269) .e) 270 (aZ 270) .e) 271 f271 (.n (.n .e 272 f272 .e) 273 (aZ 273) .e)) 274 f274 (.n (.n (.n .e 275 f275 .e) 276 (aZ 276) .e) 277 (aZ 277) (.n .e 278 (aZ 278) .e)))))) 279 f279 (.n (.n (.n (.n (.n (.n (.n .e 280 (aZ 280) .e) 281 (aZ 281) .e) 282 (aZ 282) (.n (.n .e 283 (aZ 283) .e) 284 (aZ 284) .e)) 285 (aZ 285) (.n (.n (.n .e 286 (aZ 286) .e) 287 (aZ 287) .e) 288 (aZ 288) (.n (.n .e 289 (aZ 289) .e) 290 (aZ 290) .e))) 291 (aZ 291) (.n (.n (.n (.n .e 292 (aZ 292) .e) 293 (aZ 293) .e) 294 (aZ 294) (.n (.n .e 295 (aZ 295) .e) 296 (aZ 296) .e)) 297 (aZ 297) (.n (.n (.n .e 298 (aZ 298) .e) 299 (aZ 299) .e) 300 (aZ 300) (.n .e 301 (aZ 301) .e)))) 303 (aZ 303) (.n (.n (.n (.n (.n .e 304 (aZ 304) .e) 305 (aZ 305) .e) 306 f306 (.n (.n .e 307 f307 .e) 308 f308 .e)) 309 f309 (.n (.n (.n .e 310 f310 .e) 311 (aZ 311) .e) 312 (aZ 312) (.n .e 313 (aZ 313) .e))) 314 f314 (.n (.n (.n (.n .e 315 f315 .e) 316 f316 .e) 317 (aZ 317) (.n (.n .e 318 (aZ 318) .e) 319 (aZ 319) .e)) 320 (aZ 320) (.n (.n (.n .e 321 (aZ 321) .e) 323 (aZ 323) .e) 324 (aZ 324) (.n .e 325 (aZ 325) .e))))) 326 f326 (.n (.n (.n (.n (.n (.n .e 327 (aZ 327) .e) 328 (aZ 328) .e) 329 (aZ 329) (.n (.n .e 330 (aZ 330) .e) 331 (aZ 331) .e)) 332 (aZ 332) (.n (.n (.n .e 333 (aZ 333) .e) 335 (aZ 335) .e) 336 f336 (.n (.n .e 337 (aZ 337) .e) 338 f338 .e))) 339 (aZ 339) (.n (.n (.n (.n .e 340 (aZ 340) .e) 341 (aZ 341) .e) 342 (aZ 342) (.n (.n .e 343 (aZ 343) .e) 344 (aZ 344) .e)) 345 f345 (.n (.n (.n .e 346 f346 .e) 347 f347 .e) 348 (aZ 348) (.n .e 349 (aZ 349) .e)))) 350 (aZ 350) (.n (.n (.n (.n (.n .e 351 (aZ 351) .e) 352 (aZ 352) .e) 353 (aZ 353) (.n (.n .e 354 (aZ 354) .e) 355 (aZ 355) .e)) 356 (aZ 356) (.n (.n (.n .e 357 (aZ 357) .e) 358 (aZ 358) .e) 359 (aZ 359) (.n .e 360 (aZ 360) .e))) 361 f361 (.n (.n (.n (.n .e 363 (aZ 363) .e) 364 (aZ 364) .e) 365 (aZ 365) (.n (.n .e 366 (aZ 366) .e) 367 (aZ 367) .e)) 368 (aZ 368) (.n (.n (.n .e 369 (aZ 369) .e) 370 (aZ 370) .e) 371 (aZ 371) (.n .e 407 (aZ 407) .e))))))))
noncomputable def Un:FT bL->FT bL| .e=>.e| .n l k _ r=>.n (Un l) k (aZ k) (Un r)
noncomputable def Uo:FT bL->Bool| .e=>true| .n l k _ r=>(au P k).isSome&&(al P k&&(Uo l&&Uo r))
theorem wT:∀t,Uo t=true->sV (fun f fn=>au P f=some fn/\al P f=true) (Un t)| .e,_=>trivial| .n l k _ r,h=>by simp only[Uo,aas]at h;exact⟨wT l h.2.2.1,⟨MB h.1,h.2.1⟩,wT r h.2.2.2⟩
theorem FM:sV (fun f fn=>au P f=some fn/\al P f=true) Oq:=(show Un Oq=Oq by kernel_rfl)▸wT Oq k_
def ep(f:FuncId):List Nat:=bif Nat.beq f 21 then[45]else bif Nat.beq f 44 then[6]else bif Nat.beq f 59 then[6]else bif Nat.beq f 72 then[5]else bif Nat.beq f 81 then[5]else bif Nat.beq f 82 then[5]else bif Nat.beq f 118 then[5]else bif Nat.beq f 119 then[5]else bif Nat.beq f 126 then[6]else bif Nat.beq f 167 then[5]else bif Nat.beq f 168 then[5]else bif Nat.beq f 295 then[16]else bif Nat.beq f 297 then[8]else bif Nat.beq f 333 then[3]else[]
def rf(f:FuncId):Bool:=false
end Fw.Tz
/-
  The quicker run over the program's functions.
-/
namespace Fw.Tz
open Go Go.Proofs Fw.X
variable {kt:FT Nat}{ex:Extra}
def re:FT Nat:=(.n (.n (.n (.n (.n .e 65 0 .e) 118 0 .e) 119 0 (.n .e 156 0 .e)) 160 0 (.n (.n .e 161 0 .e) 166 0 (.n .e 167 0 .e))) 198 0 (.n (.n (.n .e 210 0 .e) 212 0 (.n .e 228 0 .e)) 261 0 (.n (.n .e 267 0 .e) 278 0 (.n .e 287 0 .e))))
noncomputable def mq(_:World)(kt:FT Nat)(ex:Extra)(iH:aY):aY:=Uc kt ex rf ng (pr FL) iH
noncomputable def fQ(kt:FT Nat)(ex:Extra)(iH:aY):ba:=LU kt ex rf (pr FL) iH
noncomputable def jt(W:World)(kt:FT Nat)(ex:Extra)(d:Nat):aY:=Ao (aD P) ep (gl W) Oq (mq W kt ex) (fQ kt ex) 1000 d
noncomputable def S8(W:World)(kt:FT Nat)(ex:Extra)(d:Nat):ba:=fQ kt ex (jt W kt ex d)
variable {W:World}
theorem bC:P.follows .mixedOrders=true:=k_
theorem dE(hW:W0 W)(he:sY P (gl W) ex):∀iH,ct P (gl W) iH->ct P (gl W) (mq W kt ex iH):=Fi he BU (wO hW)
theorem cm(hW:W0 W)(he:sY P (gl W) ex):∀iH,ct P (gl W) iH->bG P (gl W) (fQ kt ex iH):=If he (wO hW)
theorem bX(hW:W0 W)(he:sY P (gl W) ex)(d:Nat):ct P (gl W) (jt W kt ex d):=by unfold jt;rw[wH];exact wA bC FM (dE hW he) (cm hW he) 1000 d
theorem tF(hW:W0 W)(he:sY P (gl W) ex)(d:Nat):bG P (gl W) (S8 W kt ex d):=cm hW he _ (bX hW he d)
theorem ju:sY P (gl W) .e:=trivial
theorem cL:∀{x y:List UInt8},Fw.ah x y=true->x=y
 |[],[],_=>rfl
 |[],_::_,h=>by simp[Fw.ah]at h
 |_::_,[],h=>by simp[Fw.ah]at h
 |a::x,b::y,h=>by
  simp only[Fw.ah]at h;cases hb:Nat.beq a.toNat b.toNat with
   |false=>rw[hb]at h;cases h
   |true=>rw[hb]at h;rw[cL h,ab8.1 (aau hb)]
def Up:List (List UInt8×V)->List UInt8->Option V|[],_=>none|(k,v)::l,s=>bif Fw.ah k s then some v else Up l s
theorem F'{p:List UInt8->V->Prop}:∀{l:List (List UInt8×V)}{s:List UInt8}{v:V},(∀q∈l,p q.1 q.2)->Up l s=some v->p s v
 |[],_,_,_,h=>by cases h
 |(k,u)::l,s,v,hl,h=>by
  simp only[Up]at h;cases hb:Fw.ah k s with
   |true=>rw[hb]at h;simp only[aaw,aar]at h;subst h;rw[←cL hb];exact hl _ abD
   |false=>rw[hb]at h;exact F' (fun q hq=>hl q (aaY _ hq)) h
def MC(v:V):List V->Option V|[]=>some v|_=>none
def IV(l:List (List UInt8×V)):List V->Option V|[.d (.str s)]=>Up l s|_=>none
theorem IW{f:FuncId}{v:V}(h:PC P (gl W) f [] v):∀args r,MC v args=some r->PC P (gl W) f args r:=by
 intro args r hr;unfold MC at hr;split at hr
 ·simp only[aar]at hr;subst hr;exact h
 ·cases hr
theorem BV{f:FuncId}{l:List (List UInt8×V)}(h:∀q∈l,PC P (gl W) f [.d (.str q.1)] q.2):∀args r,IV l args=some r->PC P (gl W) f args r:=by
 intro args r hr;unfold IV at hr;split at hr
 ·exact F' (p:=fun s v=>PC P (gl W) f [.d (.str s)] v) h hr
 ·cases hr
end Fw.Tz
/-
  The interpreter over the program's functions, and what its answers prove.
-/
