/-
  What closed runs lean on: the library's functions, as tables that reckon.
-/
import Derived.Test.YtpeomfjbcdahnaaGreatDoorTa
import Derived.Test.YtpeomfjbcdahnaaGreatDoorIr
import Derived.Test.YtpeomfjbcdahnaaGreatDoorFf
set_option linter.unusedSimpArgs false
set_option maxRecDepth 100000
set_option linter.unusedVariables false
namespace Fw.Tz
open Go Go.Proofs
variable {W:World}
theorem Mw:au P 118=some (dx 2 32):=k_
theorem My:au P 167=some (dx 1 8):=k_
theorem Mz:au P 119=some (dx 2 24):=k_
def FB:List UInt8->Bool|[]=>true|c::l=>bif Nat.blt c.toNat 128 then FB l else false
theorem F0:∀{l:List UInt8},FB l=true->∀(j:Nat) b,l[j]? =some b->b.toNat<128
 |[],_,j,b,h=>by simp at h
 |c::l,ha,j,b,h=>by
  simp only[FB]at ha;cases hc:Nat.blt c.toNat 128 with
   |false=>rw[hc]at ha;cases ha
   |true=>
    rw[hc]at ha;cases j with
     |zero=>simp at h;subst h;rwa[aaU]at hc
     |succ j=>simp at h;exact F0 ha j b h
def pC:List (List D)->Option (List (List UInt8))
 |[]=>some []
 |[.str s]::l=>
  match pC l with
   |some ss=>some (s::ss)
   |none=>none
 |_=>none
theorem tk:∀{l:List (List D)}{ss:List (List UInt8)},pC l=some ss->D.list l=c_ ss
 |[],ss,h=>by simp only[pC,aat]at h;subst h;rfl
 |v::l,ss,h=>by
  unfold pC at h;split at h
  ·rename_i e;cases e
  ·rename_i s l' heq;split at h
   ·rename_i ss' Lf;simp only[aat]at h;subst h;simp only[ack]at heq;obtain⟨rfl,rfl⟩:=heq;have:=tk Lf;simp[c_]at this⊢;exact this
   ·cases h
  ·cases h
def FJ:LC:=[(287,fun args=>match args with|[.d (.str s),.d (.str p)]=>some (.d (.bool (Lib.hasPrefix s p)))|_=>none),(212,fun args=>match args with|[.d (.str s),.d (.str p)]=>bif Nat.ble s.length 1048576 then some (.d (.str (Lib.trimSuffix s p)))else none|_=>none),(161,fun args=>match args with|[.d (.str s),.d (.str p)]=>some (.tuple [.d (.str (Lib.trimPrefix s p)),.d (.bool (Lib.hasPrefix s p))])|_=>none),(278,fun args=>match args with|[.d (.str s),.d (.str p)]=>bif Nat.ble s.length 1048576 then some (.tuple [.d (.str (Lib.trimSuffix s p)),.d (.bool (Lib.hasSuffix s p))])else none|_=>none),(221,fun args=>match args with|[.d (.str s),.d (.int .u8 c)]=>some (.d (.int .i64 (Lib.indexByte s c.toNat.toUInt8)))|_=>none),(92,fun args=>match args with|[.d (.str s),.d (.str p)]=>bif Nat.ble s.length 1048576 then some (.tuple [.d (.str (Lib.cut s p).1),.d (.str (Lib.cut s p).2.1),.d (.bool (Lib.cut s p).2.2)])else none|_=>none),(164,fun args=>match args with|[.d (.str s),.d (.str p)]=>bif Nat.ble s.length 1048576&&Nat.ble 1 p.length then some (.d (c_ (Lib.split s p)))else none|_=>none),(65,fun args=>match args with|[.aj,.d (.str _)]=>some (.d (.str []))|[.d (.list l),.d (.str p)]=>(match pC l with|some ss=>bif Nat.ble ss.length 1048576&&Nat.ble (Lib.join ss p).length 1048576 then some (.d (.str (Lib.join ss p)))else none|none=>none)|_=>none),(286,fun args=>match args with|[.d (.str s),.d (.str [c])]=>bif Nat.blt c.toNat 128 then some (.d (.str (Lib.trimLeftB s c)))else none|_=>none),(206,fun args=>match args with|[.d (.int .i64 (.ofNat n))]=>bif Nat.ble n 1048576 then some (.d (.str (Lib.itoa (.ofNat n))))else none|[.d (.int .i64 (.negSucc n))]=>bif Nat.ble n 1048576 then some (.d (.str (Lib.itoa (.negSucc n))))else none|_=>none),(312,fun args=>match args with|[.d (.str s)]=>bif Nat.ble s.length 1048576 then some (BE s)else none|_=>none),(160,fun args=>match args with|[.d (.str s)]=>bif FB s&&Nat.ble s.length 1048576 then some (.d (c_ (Lib.fields s)))else none|_=>none),(118,fun args=>match args with|[.d (.list [])]=>some (.d (.list []))|_=>none),(167,fun args=>match args with|[.d (.list [])]=>some (.d (.list []))|_=>none),(119,fun args=>match args with|[.d (.list [])]=>some (.d (.list []))|_=>none)]
theorem eW{c:Bool}{α:Type}{a b:α}(h:(bif c then some a else none)=some b):c=true/\a=b:=by
 cases c with
  |true=>simp at h;exact⟨rfl,h⟩
  |false=>simp at h
theorem wM(hW:W0 W):cd P (gl W) (pr FJ):=by
 refine Pc fun p hp args v h=>?_
 simp only[FJ,aaX,aby,acd]at hp;rcases hp with rfl|rfl|rfl|rfl|rfl|rfl|rfl|rfl|rfl|rfl|rfl|rfl|rfl|rfl|rfl<;>simp only at h⊢ <;>(try split at h)<;>(try (cases h;done))
 ·simp only[aat]at h;subst h;exact yH _ _
 ·obtain⟨c,rfl⟩:=eW h;exact pz _ _ (by have:=aax c;omega)
 ·simp only[aat]at h;subst h;exact yI _ _
 ·obtain⟨c,rfl⟩:=eW h;exact yJ _ _ (by have:=aax c;omega)
 ·simp only[aat]at h;subst h;exact yK _ _
 ·obtain⟨c,rfl⟩:=eW h;exact JZ hW _ _ (by have:=aax c;omega)
 ·obtain⟨c,rfl⟩:=eW h;simp only[aas]at c;exact IA hW _ _ (by have:=aax c.1;omega) (aax c.2)
 ·simp only[aat]at h;subst h;exact IB _
 ·split at h
  ·rename_i ss Uz;obtain⟨c,rfl⟩:=eW h;simp only[aas]at c;rw[tk Uz];exact FD _ _ (by have:=aax c.1;omega) (by have:=aax c.2;omega)
  ·cases h
 ·obtain⟨c,rfl⟩:=eW h;exact Al _ _ (by rwa[aaU]at c)
 ·obtain⟨c,rfl⟩:=eW h;have:=aax c;exact nZ hW _ (by first|omega|(simp;done)|(simp;omega)) (by first|omega|(simp;done)|(simp;omega))
 ·obtain⟨c,rfl⟩:=eW h;have:=aax c;exact nZ hW _ (by omega) (by omega)
 ·obtain⟨c,rfl⟩:=eW h;exact FE hW _ (by have:=aax c;omega)
 ·obtain⟨c,rfl⟩:=eW h;simp only[aas]at c;exact tf hW hW.FB _ (by have:=aax c.2;omega) (F0 c.1)
 ·simp only[aat]at h;subst h;exact eI (by decide) Mw k_
 ·simp only[aat]at h;subst h;exact eI (by decide) My k_
 ·simp only[aat]at h;subst h;exact eI (by decide) Mz k_
def bfs:List FuncId:=[65,210,261,198,228,166,156,267,287,212,161,278]
def MA(f:FuncId):List FuncId->Bool|[]=>false|x::l=>bif Nat.beq x f then true else MA f l
def Xv(aO:br)(f:FuncId)(args:List V)(H:ao):Option (V×ao):=bif MA f bfs&& !(aE 0 args)then
 match bS (oe H) args with
  |some d=>
   match aO f d with
    |some v=>bif xT v then some (v,H)else none
    |none=>none
  |none=>none else none
theorem MB{aO:br}(hp:cd P (gl W) aO){f:FuncId}{args:List V}{H:ao}{v:V}{H':ao}(h:Xv aO f args H=some (v,H')):WF P (gl W) f args H (fun r k=>r=v/\k=H'):=by
 unfold Xv at h;cases hr:(MA f bfs&& !(aE 0 args))with
  |false=>rw[hr]at h;cases h
  |true=>
   rw[hr]at h;simp only[aaw]at h;split at h
   ·rename_i d hd;split at h
    ·rename_i x hx;cases hs:xT x with
      |false=>rw[hs]at h;cases h
      |true=>rw[hs]at h;simp only[aaw,aat,aay]at h;obtain⟨rfl,rfl⟩:=h;exact WF.borrow hd (hp _ _ _ hx) hs ⟨rfl,rfl⟩
    ·cases h
   ·cases h
def mU:z6:=fun aO f args H=>Xv aO f args H
theorem BF:wj P (gl W) mU:=by intro aO hp f args H v H' h;unfold mU at h;exact MB hp h
end Fw.Tz
/-
  The functions that closed runs enter.
-/
namespace Fw.Tz
open Go Go.Proofs Fw.X
noncomputable def aY(i:Nat):bL:=(au P i).getD ⟨0,0,[],.skip⟩
theorem MC{i:Nat}(h:(au P i).isSome=true):au P i=some (aY i):=by
 unfold aY;cases hc:au P i with
  |none=>rw[hc]at h;cases h
  |some f=>rfl
theorem is4:au P 4=some f4:=k_
theorem ca4:an P 4=true:=k_
theorem is6:au P 6=some f6:=k_
theorem ca6:an P 6=true:=k_
theorem is7:au P 7=some f7:=k_
theorem ca7:an P 7=true:=k_
theorem is8:au P 8=some f8:=k_
theorem ca8:an P 8=true:=k_
theorem Xt:au P 10=some f10:=k_
theorem Xu:an P 10=true:=k_
theorem Xw:au P 12=some f12:=k_
theorem Xx:an P 12=true:=k_
theorem Xy:au P 13=some f13:=k_
theorem Xz:an P 13=true:=k_
theorem XA:au P 14=some f14:=k_
theorem XB:an P 14=true:=k_
theorem Xc:au P 20=some f20:=k_
theorem Xd:an P 20=true:=k_
theorem XC:au P 21=some f21:=k_
theorem XD:an P 21=true:=k_
theorem QH:au P 22=some f22:=k_
theorem QI:an P 22=true:=k_
theorem XE:au P 23=some f23:=k_
theorem XF:an P 23=true:=k_
theorem W5:au P 24=some f24:=k_
theorem W6:an P 24=true:=k_
theorem XG:au P 25=some f25:=k_
theorem XH:an P 25=true:=k_
theorem QJ:au P 26=some f26:=k_
theorem QK:an P 26=true:=k_
theorem XI:au P 27=some f27:=k_
theorem XJ:an P 27=true:=k_
theorem XK:au P 28=some f28:=k_
theorem XL:an P 28=true:=k_
theorem XM:au P 29=some f29:=k_
theorem XN:an P 29=true:=k_
theorem Xr:au P 32=some f32:=k_
theorem Xs:an P 32=true:=k_
theorem Xk:au P 33=some f33:=k_
theorem Xl:an P 33=true:=k_
theorem Xp:au P 34=some f34:=k_
theorem Xq:an P 34=true:=k_
theorem XO:au P 35=some f35:=k_
theorem XP:an P 35=true:=k_
theorem QL:au P 36=some f36:=k_
theorem QM:an P 36=true:=k_
theorem XQ:au P 38=some f38:=k_
theorem XS:an P 38=true:=k_
theorem XT:au P 39=some f39:=k_
theorem XU:an P 39=true:=k_
theorem XV:au P 51=some f51:=k_
theorem XW:an P 51=true:=k_
theorem XX:au P 52=some f52:=k_
theorem XY:an P 52=true:=k_
theorem W7:au P 57=some f57:=k_
theorem W8:an P 57=true:=k_
theorem W9:au P 58=some f58:=k_
theorem W_:an P 58=true:=k_
theorem Xa:au P 59=some f59:=k_
theorem Xb:an P 59=true:=k_
theorem XZ:au P 60=some f60:=k_
theorem X0:an P 60=true:=k_
theorem X1:au P 61=some f61:=k_
theorem X2:an P 61=true:=k_
theorem X3:au P 62=some f62:=k_
theorem X4:an P 62=true:=k_
theorem X5:au P 63=some f63:=k_
theorem X6:an P 63=true:=k_
theorem X7:au P 64=some f64:=k_
theorem X8:an P 64=true:=k_
theorem QN:au P 66=some f66:=k_
theorem QO:an P 66=true:=k_
theorem X9:au P 67=some f67:=k_
theorem X':an P 67=true:=k_
theorem X_:au P 68=some f68:=k_
theorem Ya:an P 68=true:=k_
theorem QP:au P 69=some f69:=k_
theorem QQ:an P 69=true:=k_
theorem Yb:au P 70=some f70:=k_
theorem Yc:an P 70=true:=k_
theorem Yd:au P 71=some f71:=k_
theorem Ye:an P 71=true:=k_
theorem QR:au P 72=some f72:=k_
theorem QS:an P 72=true:=k_
theorem Yf:au P 73=some f73:=k_
theorem Yg:an P 73=true:=k_
theorem Yh:au P 74=some f74:=k_
theorem Yi:an P 74=true:=k_
theorem Xi:au P 79=some f79:=k_
theorem Xj:an P 79=true:=k_
theorem Xn:au P 80=some f80:=k_
theorem Xo:an P 80=true:=k_
theorem Yj:au P 81=some f81:=k_
theorem Yk:an P 81=true:=k_
theorem Yl:au P 82=some f82:=k_
theorem QT:an P 82=true:=k_
theorem Ym:au P 93=some f93:=k_
theorem Yn:an P 93=true:=k_
theorem Yo:au P 94=some f94:=k_
theorem Yr:an P 94=true:=k_
theorem Ys:au P 96=some f96:=k_
theorem Yu:an P 96=true:=k_
theorem QU:au P 101=some f101:=k_
theorem QV:an P 101=true:=k_
theorem QW:au P 102=some f102:=k_
theorem QX:an P 102=true:=k_
theorem QY:au P 103=some f103:=k_
theorem QZ:an P 103=true:=k_
theorem Q1:au P 104=some f104:=k_
theorem Q2:an P 104=true:=k_
theorem Q3:au P 105=some f105:=k_
theorem Q4:an P 105=true:=k_
theorem J1:au P 106=some f106:=k_
theorem J2:an P 106=true:=k_
theorem Q5:au P 107=some f107:=k_
theorem Q6:an P 107=true:=k_
theorem Q7:au P 108=some f108:=k_
theorem Q8:an P 108=true:=k_
theorem J3:au P 109=some f109:=k_
theorem J4:an P 109=true:=k_
theorem Q9:au P 113=some f113:=k_
theorem Q_:an P 113=true:=k_
theorem Ra:au P 114=some f114:=k_
theorem Rb:an P 114=true:=k_
theorem Rc:au P 115=some f115:=k_
theorem Re:an P 115=true:=k_
theorem Rf:au P 117=some f117:=k_
theorem Rh:an P 117=true:=k_
theorem F1:au P 118=some f118:=k_
theorem F2:an P 118=true:=k_
theorem Ri:au P 119=some f119:=k_
theorem Rj:an P 119=true:=k_
theorem Rk:au P 120=some f120:=k_
theorem Rl:an P 120=true:=k_
theorem QB:au P 121=some f121:=k_
theorem QC:an P 121=true:=k_
theorem QF:au P 122=some f122:=k_
theorem QG:an P 122=true:=k_
theorem QD:au P 123=some f123:=k_
theorem QE:an P 123=true:=k_
theorem Rm:au P 131=some f131:=k_
theorem Rn:an P 131=true:=k_
theorem Ro:au P 132=some f132:=k_
theorem Rq:an P 132=true:=k_
theorem Rr:au P 134=some f134:=k_
theorem Rs:an P 134=true:=k_
theorem Rt:au P 135=some f135:=k_
theorem Ru:an P 135=true:=k_
theorem Rv:au P 136=some f136:=k_
theorem Rw:an P 136=true:=k_
theorem Rx:au P 137=some f137:=k_
theorem Ry:an P 137=true:=k_
theorem Rz:au P 145=some f145:=k_
theorem RA:an P 145=true:=k_
theorem RC:au P 146=some f146:=k_
theorem RD:an P 146=true:=k_
theorem RE:au P 147=some f147:=k_
theorem RF:an P 147=true:=k_
theorem RG:au P 148=some f148:=k_
theorem RH:an P 148=true:=k_
theorem RI:au P 149=some f149:=k_
theorem RJ:an P 149=true:=k_
theorem F3:au P 150=some f150:=k_
theorem F4:an P 150=true:=k_
theorem RL:au P 151=some f151:=k_
theorem RN:an P 151=true:=k_
theorem F5:au P 152=some f152:=k_
theorem F6:an P 152=true:=k_
theorem RO:au P 153=some f153:=k_
theorem RP:an P 153=true:=k_
theorem RR:au P 154=some f154:=k_
theorem RT:an P 154=true:=k_
theorem J5:au P 155=some f155:=k_
theorem J6:an P 155=true:=k_
theorem RU:au P 156=some f156:=k_
theorem RW:an P 156=true:=k_
theorem RX:au P 157=some f157:=k_
theorem RY:an P 157=true:=k_
theorem RZ:au P 167=some f167:=k_
theorem R0:an P 167=true:=k_
theorem J7:au P 168=some f168:=k_
theorem J8:an P 168=true:=k_
theorem Qz:au P 169=some f169:=k_
theorem QA:an P 169=true:=k_
theorem R1:au P 184=some f184:=k_
theorem R2:an P 184=true:=k_
theorem R3:au P 198=some f198:=k_
theorem R4:an P 198=true:=k_
theorem J9:au P 199=some f199:=k_
theorem J':an P 199=true:=k_
theorem R5:au P 200=some f200:=k_
theorem R6:an P 200=true:=k_
theorem R7:au P 201=some f201:=k_
theorem R8:an P 201=true:=k_
theorem R9:au P 202=some f202:=k_
theorem R':an P 202=true:=k_
theorem R_:au P 203=some f203:=k_
theorem Sa:an P 203=true:=k_
theorem Sb:au P 204=some f204:=k_
theorem Sc:an P 204=true:=k_
theorem J_:au P 208=some f208:=k_
theorem Ka:an P 208=true:=k_
theorem Kb:au P 209=some f209:=k_
theorem Kc:an P 209=true:=k_
theorem Se:au P 210=some f210:=k_
theorem Sf:an P 210=true:=k_
theorem Sg:au P 211=some f211:=k_
theorem Sh:an P 211=true:=k_
theorem Si:au P 213=some f213:=k_
theorem Sj:an P 213=true:=k_
theorem Ke:au P 214=some f214:=k_
theorem Kf:an P 214=true:=k_
theorem Kg:au P 215=some f215:=k_
theorem Kh:an P 215=true:=k_
theorem FF:au P 227=some f227:=k_
theorem FG:an P 227=true:=k_
theorem Sk:au P 260=some f260:=k_
theorem Sl:an P 260=true:=k_
theorem Sm:au P 261=some f261:=k_
theorem Sn:an P 261=true:=k_
theorem Ki:au P 262=some f262:=k_
theorem Kj:an P 262=true:=k_
theorem Sp:au P 263=some f263:=k_
theorem Sq:an P 263=true:=k_
theorem Sr:au P 264=some f264:=k_
theorem Ss:an P 264=true:=k_
theorem Su:au P 265=some f265:=k_
theorem Sv:an P 265=true:=k_
theorem Sw:au P 266=some f266:=k_
theorem Sx:an P 266=true:=k_
theorem Sy:au P 267=some f267:=k_
theorem Sz:an P 267=true:=k_
theorem SA:au P 271=some f271:=k_
theorem SB:an P 271=true:=k_
theorem SD:au P 272=some f272:=k_
theorem SE:an P 272=true:=k_
theorem SF:au P 274=some f274:=k_
theorem SG:an P 274=true:=k_
theorem Kk:au P 275=some f275:=k_
theorem Kl:an P 275=true:=k_
theorem SH:au P 279=some f279:=k_
theorem SI:an P 279=true:=k_
theorem SJ:au P 306=some f306:=k_
theorem SK:an P 306=true:=k_
theorem SL:au P 307=some f307:=k_
theorem SM:an P 307=true:=k_
theorem SN:au P 308=some f308:=k_
theorem SO:an P 308=true:=k_
theorem SP:au P 309=some f309:=k_
theorem SQ:an P 309=true:=k_
theorem SR:au P 310=some f310:=k_
theorem SS:an P 310=true:=k_
theorem SU:au P 314=some f314:=k_
theorem SV:an P 314=true:=k_
theorem SW:au P 315=some f315:=k_
theorem SX:an P 315=true:=k_
theorem Km:au P 316=some f316:=k_
theorem Kn:an P 316=true:=k_
theorem SY:au P 326=some f326:=k_
theorem SZ:an P 326=true:=k_
theorem S0:au P 336=some f336:=k_
theorem S1:an P 336=true:=k_
theorem S3:au P 338=some f338:=k_
theorem S4:an P 338=true:=k_
theorem S5:au P 345=some f345:=k_
theorem S6:an P 345=true:=k_
theorem S7:au P 346=some f346:=k_
theorem S8:an P 346=true:=k_
theorem S9:au P 347=some f347:=k_
theorem S':an P 347=true:=k_
theorem S_:au P 361=some f361:=k_
theorem Ta:an P 361=true:=k_
noncomputable def Ol:FT bL:=(.n (.n (.n (.n (.n (.n (.n (.n (.n .e 3 (aY 3) .e) 4 f4 .e) 5 (aY 5) (.n (.n .e 6 f6 .e) 7 f7 .e)) 8 f8 (.n (.n (.n .e 9 (aY 9) .e) 10 f10 .e) 11 (aY 11) (.n (.n .e 12 f12 .e) 13 f13 .e))) 14 f14 (.n (.n (.n (.n .e 15 (aY 15) .e) 16 (aY 16) .e) 17 (aY 17) (.n (.n .e 18 (aY 18) .e) 19 (aY 19) .e)) 20 f20 (.n (.n (.n .e 21 f21 .e) 22 f22 .e) 23 f23 (.n .e 24 f24 .e)))) 25 f25 (.n (.n (.n (.n (.n .e 26 f26 .e) 27 f27 .e) 28 f28 (.n (.n .e 29 f29 .e) 30 (aY 30) .e)) 31 (aY 31) (.n (.n (.n .e 32 f32 .e) 33 f33 .e) 34 f34 (.n (.n .e 35 f35 .e) 36 f36 .e))) 37 (aY 37) (.n (.n (.n (.n .e 38 f38 .e) 39 f39 .e) 40 (aY 40) (.n (.n .e 41 (aY 41) .e) 42 (aY 42) .e)) 43 (aY 43) (.n (.n (.n .e 44 (aY 44) .e) 45 (aY 45) .e) 46 (aY 46) (.n .e 47 (aY 47) .e))))) 48 (aY 48) (.n (.n (.n (.n (.n (.n .e 49 (aY 49) .e) 50 (aY 50) .e) 51 f51 (.n (.n .e 52 f52 .e) 53 (aY 53) .e)) 54 (aY 54) (.n (.n (.n .e 55 (aY 55) .e) 56 (aY 56) .e) 57 f57 (.n (.n .e 58 f58 .e) 59 f59 .e))) 60 f60 (.n (.n (.n (.n .e 61 f61 .e) 62 f62 .e) 63 f63 (.n (.n .e 64 f64 .e) 65 (aY 65) .e)) 66 f66 (.n (.n (.n .e 67 f67 .e) 68 f68 .e) 69 f69 (.n .e 70 f70 .e)))) 71 f71 (.n (.n (.n (.n (.n .e 72 f72 .e) 73 f73 .e) 74 f74 (.n (.n .e 75 (aY 75) .e) 76 (aY 76) .e)) 77 (aY 77) (.n (.n (.n .e 78 (aY 78) .e) 79 f79 .e) 80 f80 (.n .e 81 f81 .e))) 82 f82 (.n (.n (.n (.n .e 83 (aY 83) .e) 84 (aY 84) .e) 85 (aY 85) (.n (.n .e 86 (aY 86) .e) 87 (aY 87) .e)) 88 (aY 88) (.n (.n (.n .e 89 (aY 89) .e) 90 (aY 90) .e) 91 (aY 91) (.n .e 92 (aY 92) .e)))))) 93 f93 (.n (.n (.n (.n (.n (.n (.n .e 94 f94 .e) 95 (aY 95) .e) 96 f96 (.n (.n .e 97 (aY 97) .e) 98 (aY 98) .e)) 99 (aY 99) (.n (.n (.n .e 100 (aY 100) .e) 101 f101 .e) 102 f102 (.n (.n .e 103 f103 .e) 104 f104 .e))) 105 f105 (.n (.n (.n (.n .e 106 f106 .e) 107 f107 .e) 108 f108 (.n (.n .e 109 f109 .e) 110 (aY 110) .e)) 111 (aY 111) (.n (.n (.n .e 112 (aY 112) .e) 113 f113 .e) 114 f114 (.n .e 115 f115 .e)))) 116 (aY 116) (.n (.n (.n (.n (.n .e 117 f117 .e) 118 f118 .e) 119 f119 (.n (.n .e 120 f120 .e) 121 f121 .e)) 122 f122 (.n (.n (.n .e 123 f123 .e) 124 (aY 124) .e) 125 (aY 125) (.n (.n .e 126 (aY 126) .e) 127 (aY 127) .e))) 128 (aY 128) (.n (.n (.n (.n .e 129 (aY 129) .e) 130 (aY 130) .e) 131 f131 (.n (.n .e 132 f132 .e) 133 (aY 133) .e)) 134 f134 (.n (.n (.n .e 135 f135 .e) 136 f136 .e) 137 f137 (.n .e 138 (aY 138) .e))))) 139 (aY 139) (.n (.n (.n (.n (.n (.n .e 140 (aY 140) .e) 141 (aY 141) .e) 142 (aY 142) (.n (.n .e 143 (aY 143) .e) 144 (aY 144) .e)) 145 f145 (.n (.n (.n .e 146 f146 .e) 147 f147 .e) 148 f148 (.n (.n .e 149 f149 .e) 150 f150 .e))) 151 f151 (.n (.n (.n (.n .e 152 f152 .e) 153 f153 .e) 154 f154 (.n (.n .e 155 f155 .e) 156 f156 .e)) 157 f157 (.n (.n (.n .e 159 (aY 159) .e) 160 (aY 160) .e) 161 (aY 161) (.n .e 162 (aY 162) .e)))) 163 (aY 163) (.n (.n (.n (.n (.n .e 164 (aY 164) .e) 165 (aY 165) .e) 166 (aY 166) (.n (.n .e 167 f167 .e) 168 f168 .e)) 169 f169 (.n (.n (.n .e 170 (aY 170) .e) 171 (aY 171) .e) 172 (aY 172) (.n .e 173 (aY 173) .e))) 174 (aY 174) (.n (.n (.n (.n .e 175 (aY 175) .e) 176 (aY 176) .e) 177 (aY 177) (.n (.n .e 178 (aY 178) .e) 179 (aY 179) .e)) 180 (aY 180) (.n (.n (.n .e 181 (aY 181) .e) 182 (aY 182) .e) 183 (aY 183) (.n .e 184 f184 .e))))))) 185 (aY 185) (.n (.n (.n (.n (.n (.n (.n (.n .e 186 (aY 186) .e) 187 (aY 187) .e) 188 (aY 188) (.n (.n .e 189 (aY 189) .e) 190 (aY 190) .e)) 191 (aY 191) (.n (.n (.n .e 192 (aY 192) .e) 193 (aY 193) .e) 194 (aY 194) (.n (.n .e 195 (aY 195) .e) 196 (aY 196) .e))) 197 (aY 197) (.n (.n (.n (.n .e 198 f198 .e) 199 f199 .e) 200 f200 (.n (.n .e 201 f201 .e) 202 f202 .e)) 203 f203 (.n (.n (.n .e 204 f204 .e) 205 (aY 205) .e) 206 (aY 206) (.n .e 207 (aY 207) .e)))) 208 f208 (.n (.n (.n (.n (.n .e 209 f209 .e) 210 f210 .e) 211 f211 (.n (.n .e 212 (aY 212) .e) 213 f213 .e)) 214 f214 (.n (.n (.n .e 215 f215 .e) 218 (aY 218) .e) 219 (aY 219) (.n (.n .e 220 (aY 220) .e) 221 (aY 221) .e))) 222 (aY 222) (.n (.n (.n (.n .e 223 (aY 223) .e) 224 (aY 224) .e) 225 (aY 225) (.n (.n .e 226 (aY 226) .e) 227 f227 .e)) 228 (aY 228) (.n (.n (.n .e 229 (aY 229) .e) 230 (aY 230) .e) 231 (aY 231) (.n .e 232 (aY 232) .e))))) 233 (aY 233) (.n (.n (.n (.n (.n (.n .e 234 (aY 234) .e) 235 (aY 235) .e) 236 (aY 236) (.n (.n .e 237 (aY 237) .e) 238 (aY 238) .e)) 239 (aY 239) (.n (.n (.n .e 240 (aY 240) .e) 241 (aY 241) .e) 242 (aY 242) (.n (.n .e 243 (aY 243) .e) 244 (aY 244) .e))) 245 (aY 245) (.n (.n (.n (.n .e 247 (aY 247) .e) 248 (aY 248) .e) 249 (aY 249) (.n (.n .e 250 (aY 250) .e) 251 (aY 251) .e)) 252 (aY 252) (.n (.n (.n .e 253 (aY 253) .e) 254 (aY 254) .e) 255 (aY 255) (.n .e 256 (aY 256) .e)))) 257 (aY 257) (.n (.n (.n (.n (.n .e 258 (aY 258) .e) 259 (aY 259) .e) 260 f260 (.n (.n .e 261 f261 .e) 262 f262 .e)) 263 f263 (.n (.n (.n .e 264 f264 .e) 265 f265 .e) 266 f266 (.n .e 267 f267 .e))) 268 (aY 268) (.n (.n (.n (.n .e 269 (aY 269) .e) 270 (aY 270) .e) 271 f271 (.n (.n .e 272 f272 .e) 273 (aY 273) .e)) 274 f274 (.n (.n (.n .e 275 f275 .e) 276 (aY 276) .e) 277 (aY 277) (.n .e 278 (aY 278) .e)))))) 279 f279 (.n (.n (.n (.n (.n (.n (.n .e 280 (aY 280) .e) 281 (aY 281) .e) 282 (aY 282) (.n (.n .e 283 (aY 283) .e) 284 (aY 284) .e)) 285 (aY 285) (.n (.n (.n .e 286 (aY 286) .e) 287 (aY 287) .e) 288 (aY 288) (.n (.n .e 289 (aY 289) .e) 290 (aY 290) .e))) 291 (aY 291) (.n (.n (.n (.n .e 292 (aY 292) .e) 293 (aY 293) .e) 294 (aY 294) (.n (.n .e 295 (aY 295) .e) 296 (aY 296) .e)) 297 (aY 297) (.n (.n (.n .e 298 (aY 298) .e) 299 (aY 299) .e) 300 (aY 300) (.n .e 301 (aY 301) .e)))) 303 (aY 303) (.n (.n (.n (.n (.n .e 304 (aY 304) .e) 305 (aY 305) .e) 306 f306 (.n (.n .e 307 f307 .e) 308 f308 .e)) 309 f309 (.n (.n (.n .e 310 f310 .e) 311 (aY 311) .e) 312 (aY 312) (.n .e 313 (aY 313) .e))) 314 f314 (.n (.n (.n (.n .e 315 f315 .e) 316 f316 .e) 317 (aY 317) (.n (.n .e 318 (aY 318) .e) 319 (aY 319) .e)) 320 (aY 320) (.n (.n (.n .e 321 (aY 321) .e) 323 (aY 323) .e) 324 (aY 324) (.n .e 325 (aY 325) .e))))) 326 f326 (.n (.n (.n (.n (.n (.n .e 327 (aY 327) .e) 328 (aY 328) .e) 329 (aY 329) (.n (.n .e 330 (aY 330) .e) 331 (aY 331) .e)) 332 (aY 332) (.n (.n (.n .e 333 (aY 333) .e) 335 (aY 335) .e) 336 f336 (.n (.n .e 337 (aY 337) .e) 338 f338 .e))) 339 (aY 339) (.n (.n (.n (.n .e 340 (aY 340) .e) 341 (aY 341) .e) 342 (aY 342) (.n (.n .e 343 (aY 343) .e) 344 (aY 344) .e)) 345 f345 (.n (.n (.n .e 346 f346 .e) 347 f347 .e) 348 (aY 348) (.n .e 349 (aY 349) .e)))) 350 (aY 350) (.n (.n (.n (.n (.n .e 351 (aY 351) .e) 352 (aY 352) .e) 353 (aY 353) (.n (.n .e 354 (aY 354) .e) 355 (aY 355) .e)) 356 (aY 356) (.n (.n (.n .e 357 (aY 357) .e) 358 (aY 358) .e) 359 (aY 359) (.n .e 360 (aY 360) .e))) 361 f361 (.n (.n (.n (.n .e 363 (aY 363) .e) 364 (aY 364) .e) 365 (aY 365) (.n (.n .e 366 (aY 366) .e) 367 (aY 367) .e)) 368 (aY 368) (.n (.n (.n .e 369 (aY 369) .e) 370 (aY 370) .e) 371 (aY 371) (.n .e 407 (aY 407) .e))))))))
noncomputable def UA:FT bL->FT bL| .e=>.e| .n l k _ r=>.n (UA l) k (aY k) (UA r)
noncomputable def UB:FT bL->Bool| .e=>true| .n l k _ r=>(au P k).isSome&&(an P k&&(UB l&&UB r))
theorem wR:∀t,UB t=true->sH (fun f fn=>au P f=some fn/\an P f=true) (UA t)| .e,_=>trivial| .n l k _ r,h=>by simp only[UB,aas]at h;exact⟨wR l h.2.2.1,⟨MC h.1,h.2.1⟩,wR r h.2.2.2⟩
theorem FK:sH (fun f fn=>au P f=some fn/\an P f=true) Ol:=(show UA Ol=Ol by kernel_rfl)▸wR Ol k_
def ew(f:FuncId):List Nat:=bif Nat.beq f 21 then[45]else bif Nat.beq f 44 then[6]else bif Nat.beq f 59 then[6]else bif Nat.beq f 72 then[5]else bif Nat.beq f 81 then[5]else bif Nat.beq f 82 then[5]else bif Nat.beq f 118 then[5]else bif Nat.beq f 119 then[5]else bif Nat.beq f 126 then[6]else bif Nat.beq f 167 then[5]else bif Nat.beq f 168 then[5]else bif Nat.beq f 295 then[16]else bif Nat.beq f 297 then[8]else bif Nat.beq f 333 then[3]else[]
def rf(f:FuncId):Bool:=false
end Fw.Tz
/-
  The quicker run over the program's functions.
-/
namespace Fw.Tz
open Go Go.Proofs Fw.X
variable {kt:FT Nat}{ex:Extra}
def q0:FT Nat:=(.n (.n (.n (.n (.n .e 65 0 .e) 118 0 .e) 119 0 (.n .e 156 0 .e)) 160 0 (.n (.n .e 161 0 .e) 166 0 (.n .e 167 0 .e))) 198 0 (.n (.n (.n .e 210 0 .e) 212 0 (.n .e 228 0 .e)) 261 0 (.n (.n .e 267 0 .e) 278 0 (.n .e 287 0 .e))))
noncomputable def mc(_:World)(kt:FT Nat)(ex:Extra)(iG:a7):a7:=Ut kt ex rf mU (pr FJ) iG
noncomputable def fT(kt:FT Nat)(ex:Extra)(iG:a7):br:=LR kt ex rf (pr FJ) iG
noncomputable def jn(W:World)(kt:FT Nat)(ex:Extra)(d:Nat):a7:=Ac (aD P) ew (gl W) Ol (mc W kt ex) (fT kt ex) 1000 d
noncomputable def Tb(W:World)(kt:FT Nat)(ex:Extra)(d:Nat):br:=fT kt ex (jn W kt ex d)
variable {W:World}
theorem bj:P.follows .mixedOrders=true:=k_
theorem dH(hW:W0 W)(he:sJ P (gl W) ex):∀iG,cy P (gl W) iG->cy P (gl W) (mc W kt ex iG):=Fb he BF (wM hW)
theorem cx(hW:W0 W)(he:sJ P (gl W) ex):∀iG,cy P (gl W) iG->cd P (gl W) (fT kt ex iG):=If he (wM hW)
theorem bZ(hW:W0 W)(he:sJ P (gl W) ex)(d:Nat):cy P (gl W) (jn W kt ex d):=by unfold jn;rw[wF];exact wy bj FK (dH hW he) (cx hW he) 1000 d
theorem tl(hW:W0 W)(he:sJ P (gl W) ex)(d:Nat):cd P (gl W) (Tb W kt ex d):=cx hW he _ (bZ hW he d)
theorem jo:sJ P (gl W) .e:=trivial
theorem cN:∀{x y:List UInt8},Fw.ah x y=true->x=y
 |[],[],_=>rfl
 |[],_::_,h=>by simp[Fw.ah]at h
 |_::_,[],h=>by simp[Fw.ah]at h
 |a::x,b::y,h=>by
  simp only[Fw.ah]at h;cases hb:Nat.beq a.toNat b.toNat with
   |false=>rw[hb]at h;cases h
   |true=>rw[hb]at h;rw[cN h,ab6.1 (aav hb)]
def UC:List (List UInt8×V)->List UInt8->Option V|[],_=>none|(k,v)::l,s=>bif Fw.ah k s then some v else UC l s
theorem F7{p:List UInt8->V->Prop}:∀{l:List (List UInt8×V)}{s:List UInt8}{v:V},(∀q∈l,p q.1 q.2)->UC l s=some v->p s v
 |[],_,_,_,h=>by cases h
 |(k,u)::l,s,v,hl,h=>by
  simp only[UC]at h;cases hb:Fw.ah k s with
   |true=>rw[hb]at h;simp only[aaw,aat]at h;subst h;rw[←cN hb];exact hl _ abC
   |false=>rw[hb]at h;exact F7 (fun q hq=>hl q (aaZ _ hq)) h
def MD(v:V):List V->Option V|[]=>some v|_=>none
def IN(l:List (List UInt8×V)):List V->Option V|[.d (.str s)]=>UC l s|_=>none
theorem IP{f:FuncId}{v:V}(h:PC P (gl W) f [] v):∀args r,MD v args=some r->PC P (gl W) f args r:=by
 intro args r hr;unfold MD at hr;split at hr
 ·simp only[aat]at hr;subst hr;exact h
 ·cases hr
theorem BG{f:FuncId}{l:List (List UInt8×V)}(h:∀q∈l,PC P (gl W) f [.d (.str q.1)] q.2):∀args r,IN l args=some r->PC P (gl W) f args r:=by
 intro args r hr;unfold IN at hr;split at hr
 ·exact F7 (p:=fun s v=>PC P (gl W) f [.d (.str s)] v) h hr
 ·cases hr
end Fw.Tz
/-
  The interpreter over the program's functions, and what its answers prove.
-/
