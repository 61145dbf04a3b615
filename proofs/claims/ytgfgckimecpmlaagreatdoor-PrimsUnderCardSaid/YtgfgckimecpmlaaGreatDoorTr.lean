/-
  Under of both sides at any name and number.
-/
import Derived.Test.YtgfgckimecpmlaaGreatDoorTo
import Derived.Test.YtgfgckimecpmlaaGreatDoorTp
import Derived.Test.YtgfgckimecpmlaaGreatDoorTq
import Derived.Test.YtgfgckimecpmlaaGreatDoorTn
import Derived.Test.YtgfgckimecpmlaaGreatDoorTm
set_option linter.unusedVariables false
set_option maxRecDepth 1000000
set_option maxHeartbeats 4000000
set_option linter.unusedSimpArgs false
namespace Fw.Tz.Ba
open Go Go.Proofs Fw.X Fw.Tz Fw.Tz.Va Fw.Tz.Yd Fw.Tz.Yb Fw.Tz.Yn Fw.Tz.Ye Fw.Tz.Yq Fw.Tz.Yw Fw.Tz.Yv Fw.Tz.Yx Fw.Tz.Yy Fw.Tz.Yz
variable {W:World}
def eE(W:World)(name:List UInt8)(num:Int):Prop:=∀ak binds,PP ak binds→∃p:cl×Int,Mq p.1∧PC P (gl W) 40 [.d (.str name),.d (.list (ak.map aj.aa)),.d (.int .i64 num),.d (.list (binds.map Bd.aa))] (Ye.mi p)∧PC P (gl W) 41 [.d (.str name),.d (.list (ak.map aj.aa)),.d (.int .i64 num),.d (.list (binds.map Bd.aa))] (Ye.mi p)
theorem P3{name:List UInt8}{num:Int}(h:c_ W name num):eE W name num:=by
 intro ak binds hx;obtain⟨s,g,ok,p,h1,hs,hn,_,h2,h3⟩:=h ak binds hx;refine⟨p,?_,h2,h3⟩;rcases h1 with rfl|h1
 ·exact Ct g ok hs hn
 ·rw[h1];exact rn
theorem J'(hW:W0 W){name:List UInt8}{num e:Int}(he:e≠0)(h1:PC P (gl W) 45 [.d (.str name),.d (.int .i64 num)] (.tuple [ng jP,.d (.int .i64 e)]))(h2:PC P (gl W) 95 [.d (.str name),.d (.int .i64 num)] (.tuple [ng jP,.d (.int .i64 e)])):eE W name num:=fun ak binds _=>⟨(jP,e),rn,Cu hW name num e _ _ he h1,Cv hW name num e _ _ he h2⟩
theorem cq(hW:W0 W){name nm:List UInt8}{bf:List (List UInt8)}{p1 p2 p3:Bool}{d4 d5 d6 d7 d8:D}(h1:PC P (gl W) 44 [.d (.str name)] (.tuple [jm nm p1 p2 p3 bf d4 d5 d6 d7 d8,.d (.bool true)]))(h2:PC P (gl W) 96 [.d (.str name)] (.tuple [jm nm p1 p2 p3 bf d4 d5 d6 d7 d8,.d (.bool true)]))(hu:∀num,su p2 num=true→c_ W name num)(num:Int):eE W name num:=by
 cases hf:su p2 num with
  |true=>exact P3 (hu num hf)
  |false=>exact J' hW (by decide) (Jn hW name num bf nm p1 p2 p3 d4 d5 d6 d7 d8 h1 hf) (Jp hW name num bf nm p1 p2 p3 d4 d5 d6 d7 d8 h2 hf)
theorem P4(hW:W0 W)(hA:aw W){name:List UInt8}(h:name∉GP)(num:Int):eE W name num:=J' hW (e:=7) (by decide) (Jo hW name num _ _ _ _ _ _ _ _ _ _ (Mt hW hA name h)) (Jq hW name num _ _ _ _ _ _ _ _ _ _ (Jw hW name h))
theorem cu{num:Int}(h:su false num=true):num=0:=by simpa[su]using h
theorem P5{num:Int}(h:su true num=true):∃j,j<64∧num=Int.ofNat (j+1):=by
 have h:1≤num∧num≤64:=by simpa[su]using h
 exact⟨(num - 1).toNat,by omega,by simp only[abI];omega⟩
theorem P6(hW:W0 W)(hA:aw W):∀j,j<64→c_ W [99,104,117,110,107] (Int.ofNat (j+1))|0,_=>J1 hW hA|1,_=>J2 hW hA|2,_=>J3 hW hA|3,_=>J4 hW hA|4,_=>J5 hW hA|5,_=>J6 hW hA|6,_=>J7 hW hA|7,_=>J8 hW hA|8,_=>J9 hW hA|9,_=>FG hW hA|10,_=>FH hW hA|11,_=>FI hW hA|12,_=>FJ hW hA|13,_=>FK hW hA|14,_=>FL hW hA|15,_=>FM hW hA|16,_=>FN hW hA|17,_=>FO hW hA|18,_=>FP hW hA|19,_=>FQ hW hA|20,_=>FR hW hA|21,_=>FSz hW hA|22,_=>FU hW hA|23,_=>FV hW hA|24,_=>FW hW hA|25,_=>FX hW hA|26,_=>FY hW hA|27,_=>FZ hW hA|28,_=>F0 hW hA|29,_=>F1 hW hA|30,_=>F2 hW hA|31,_=>F3 hW hA|32,_=>F4 hW hA|33,_=>F5 hW hA|34,_=>F6 hW hA|35,_=>F7 hW hA|36,_=>F8 hW hA|37,_=>F9 hW hA|38,_=>F' hW hA|39,_=>F_ hW hA|40,_=>Ga hW hA|41,_=>Gb hW hA|42,_=>Gc hW hA|43,_=>Gd hW hA|44,_=>Ge hW hA|45,_=>Gf hW hA|46,_=>Gg hW hA|47,_=>Gh hW hA|48,_=>Gi hW hA|49,_=>Gj hW hA|50,_=>Gk hW hA|51,_=>Gl hW hA|52,_=>Gm hW hA|53,_=>Gn hW hA|54,_=>Gp hW hA|55,_=>Gq hW hA|56,_=>Gr hW hA|57,_=>Gs hW hA|58,_=>Gu hW hA|59,_=>Gv hW hA|60,_=>Gw hW hA|61,_=>Gx hW hA|62,_=>Gy hW hA|63,_=>Gz hW hA|j+64,h=>absurd h (by omega)
theorem UU(hW:W0 W)(hA:aw W)(num:Int):eE W [97,98,115] num:=cq hW (aW hW hA 40 _ _ _ (Cx W)) (bH hW 40 _ _ _ (JM W)) (fun num h=>by rw[cu h];exact UI hW hA) num
theorem UV(hW:W0 W)(hA:aw W)(num:Int):eE W [97,100,100] num:=cq hW (aW hW hA 40 _ _ _ (CB W)) (bH hW 40 _ _ _ (JT W)) (fun num h=>by rw[cu h];exact UM hW hA) num
theorem UW(hW:W0 W)(hA:aw W)(num:Int):eE W [97,110,100] num:=cq hW (aW hW hA 40 _ _ _ (CL W)) (bH hW 40 _ _ _ (JV W)) (fun num h=>by rw[cu h];exact UO hW hA) num
theorem J_(hW:W0 W)(hA:aw W)(num:Int):eE W [97,112,112,101,110,100] num:=cq hW (aW hW hA 40 _ _ _ (ru W)) (bH hW 40 _ _ _ (wK W)) (fun num h=>by rw[cu h];exact JN hW hA) num
theorem MA(hW:W0 W)(hA:aw W)(num:Int):eE W [99,104,117,110,107] num:=cq hW (aW hW hA 40 _ _ _ (aK W)) (bH hW 40 _ _ _ (aL W)) (fun num h=>by obtain⟨j,hj,rfl⟩:=P5 h;exact P6 hW hA j hj) num
theorem CX(hW:W0 W)(hA:aw W)(num:Int):eE W [100,105,97,103,111,110,97,108] num:=cq hW (aW hW hA 40 _ _ _ (nk W)) (bH hW 40 _ _ _ (rY W)) (fun num h=>by rw[cu h];exact CW hW hA) num
theorem UX(hW:W0 W)(hA:aw W)(num:Int):eE W [100,105,118] num:=cq hW (aW hW hA 40 _ _ _ (CN W)) (bH hW 40 _ _ _ (JW W)) (fun num h=>by rw[cu h];exact UP hW hA) num
theorem P7(hW:W0 W)(hA:aw W)(num:Int):eE W [100,114,111,112] num:=cq hW (aW hW hA 40 _ _ _ (yp W)) (bH hW 40 _ _ _ (D9 W)) (fun num h=>by rw[cu h];exact PY hW hA) num
theorem aah(hW:W0 W)(hA:aw W)(num:Int):eE W [101,113] num:=cq hW (aW hW hA 40 _ _ _ (Jy W)) (bH hW 40 _ _ _ (Nq W)) (fun num h=>by rw[cu h];exact aab hW hA) num
theorem P8(hW:W0 W)(hA:aw W)(num:Int):eE W [102,105,108,108] num:=cq hW (aW hW hA 40 _ _ _ (yj W)) (bH hW 40 _ _ _ (Ec W)) (fun num h=>by rw[cu h];exact P2 hW hA) num
theorem aai(hW:W0 W)(hA:aw W)(num:Int):eE W [103,101] num:=cq hW (aW hW hA 40 _ _ _ (JC W)) (bH hW 40 _ _ _ (Np W)) (fun num h=>by rw[cu h];exact aaa hW hA) num
theorem aaj(hW:W0 W)(hA:aw W)(num:Int):eE W [103,116] num:=cq hW (aW hW hA 40 _ _ _ (JG W)) (bH hW 40 _ _ _ (Nr W)) (fun num h=>by rw[cu h];exact aac hW hA) num
theorem MB(hW:W0 W)(hA:aw W)(num:Int):eE W [105,110,100,101,120] num:=cq hW (aW hW hA 40 _ _ _ (uK W)) (bH hW 40 _ _ _ (AY W)) (fun num h=>by rw[cu h];exact Mz hW hA) num
theorem P9(hW:W0 W)(hA:aw W)(num:Int):eE W [105,111,116,97] num:=cq hW (aW hW hA 40 _ _ _ (yl W)) (bH hW 40 _ _ _ (D_ W)) (fun num h=>by rw[cu h];exact PZ hW hA) num
theorem aak(hW:W0 W)(hA:aw W)(num:Int):eE W [108,101] num:=cq hW (aW hW hA 40 _ _ _ (JE W)) (bH hW 40 _ _ _ (Ns W)) (fun num h=>by rw[cu h];exact aad hW hA) num
theorem aal(hW:W0 W)(hA:aw W)(num:Int):eE W [108,116] num:=cq hW (aW hW hA 40 _ _ _ (JI W)) (bH hW 40 _ _ _ (Nw W)) (fun num h=>by rw[cu h];exact aag hW hA) num
theorem UY(hW:W0 W)(hA:aw W)(num:Int):eE W [109,97,120] num:=cq hW (aW hW hA 40 _ _ _ (Cz W)) (bH hW 40 _ _ _ (JO W)) (fun num h=>by rw[cu h];exact UJ hW hA) num
theorem UZ(hW:W0 W)(hA:aw W)(num:Int):eE W [109,105,110] num:=cq hW (aW hW hA 40 _ _ _ (CE W)) (bH hW 40 _ _ _ (JU W)) (fun num h=>by rw[cu h];exact UN hW hA) num
theorem U0(hW:W0 W)(hA:aw W)(num:Int):eE W [109,111,100] num:=cq hW (aW hW hA 40 _ _ _ (CP W)) (bH hW 40 _ _ _ (JX W)) (fun num h=>by rw[cu h];exact UQ hW hA) num
theorem U1(hW:W0 W)(hA:aw W)(num:Int):eE W [109,117,108] num:=cq hW (aW hW hA 40 _ _ _ (CT W)) (bH hW 40 _ _ _ (JP W)) (fun num h=>by rw[cu h];exact UK hW hA) num
theorem aam(hW:W0 W)(hA:aw W)(num:Int):eE W [110,101] num:=cq hW (aW hW hA 40 _ _ _ (JA W)) (bH hW 40 _ _ _ (Nt W)) (fun num h=>by rw[cu h];exact aae hW hA) num
theorem U2(hW:W0 W)(hA:aw W)(num:Int):eE W [110,101,103] num:=cq hW (aW hW hA 40 _ _ _ (CH W)) (bH hW 40 _ _ _ (JY W)) (fun num h=>by rw[cu h];exact UR hW hA) num
theorem U3(hW:W0 W)(hA:aw W)(num:Int):eE W [110,111,116] num:=cq hW (aW hW hA 40 _ _ _ (CR W)) (bH hW 40 _ _ _ (JQ W)) (fun num h=>by rw[cu h];exact UL hW hA) num
theorem aan(hW:W0 W)(hA:aw W)(num:Int):eE W [111,114] num:=cq hW (aW hW hA 40 _ _ _ (JK W)) (bH hW 40 _ _ _ (Nv W)) (fun num h=>by rw[cu h];exact aaf hW hA) num
theorem GA(hW:W0 W)(hA:aw W)(num:Int):eE W [114,101,118,101,114,115,101] num:=cq hW (aW hW hA 40 _ _ _ (pc W)) (bH hW 40 _ _ _ (uP W)) (fun num h=>by rw[cu h];exact FF hW hA) num
theorem Ka(hW:W0 W)(hA:aw W)(num:Int):eE W [115,101,108,101,99,116] num:=cq hW (aW hW hA 40 _ _ _ (rq W)) (bH hW 40 _ _ _ (wL W)) (fun num h=>by rw[cu h];exact JR hW hA) num
theorem P'(hW:W0 W)(hA:aw W)(num:Int):eE W [115,105,103,110] num:=cq hW (aW hW hA 40 _ _ _ (yn W)) (bH hW 40 _ _ _ (Eb W)) (fun num h=>by rw[cu h];exact P1 hW hA) num
theorem U4(hW:W0 W)(hA:aw W)(num:Int):eE W [115,117,98] num:=cq hW (aW hW hA 40 _ _ _ (CV W)) (bH hW 40 _ _ _ (JZ W)) (fun num h=>by rw[cu h];exact US hW hA) num
theorem P_(hW:W0 W)(hA:aw W)(num:Int):eE W [116,97,107,101] num:=cq hW (aW hW hA 40 _ _ _ (s5 W)) (bH hW 40 _ _ _ (Ea W)) (fun num h=>by rw[cu h];exact P0 hW hA) num
theorem MC(hW:W0 W)(hA:aw W)(num:Int):eE W [116,111,105,110,116] num:=cq hW (aW hW hA 40 _ _ _ (uM W)) (bH hW 40 _ _ _ (AX W)) (fun num h=>by rw[cu h];exact My hW hA) num
theorem A0(hW:W0 W)(hA:aw W)(num:Int):eE W [116,114,97,110,115,112,111,115,101] num:=cq hW (aW hW hA 40 _ _ _ (lU W)) (bH hW 40 _ _ _ (qi W)) (fun num h=>by rw[cu h];exact AZ hW hA) num
theorem Kb(hW:W0 W)(hA:aw W)(num:Int):eE W [117,112,100,97,116,101] num:=cq hW (aW hW hA 40 _ _ _ (rz W)) (bH hW 40 _ _ _ (wM W)) (fun num h=>by rw[cu h];exact JS hW hA) num
theorem GC(hW:W0 W)(hA:aw W)(num:Int):eE W [119,105,110,100,111,119,115] num:=cq hW (aW hW hA 40 _ _ _ (pf W)) (bH hW 40 _ _ _ (uO W)) (fun num h=>by rw[cu h];exact FE hW hA) num
theorem U5(hW:W0 W)(hA:aw W)(num:Int):eE W [120,111,114] num:=cq hW (aW hW hA 40 _ _ _ (CJ W)) (bH hW 40 _ _ _ (J0 W)) (fun num h=>by rw[cu h];exact UT hW hA) num
theorem Kc(hW:W0 W)(hA:aw W)(name:List UInt8)(num:Int):eE W name num:=by
 by_cases h:name∈GP
 ·simp only[GP,aa',acu,or_false]at h;rcases h with rfl|rfl|rfl|rfl|rfl|rfl|rfl|rfl|rfl|rfl|rfl|rfl|rfl|rfl|rfl|rfl|rfl|rfl|rfl|rfl|rfl|rfl|rfl|rfl|rfl|rfl|rfl|rfl|rfl|rfl|rfl|rfl|rfl|rfl
  ·exact UU hW hA num
  ·exact UV hW hA num
  ·exact UW hW hA num
  ·exact J_ hW hA num
  ·exact MA hW hA num
  ·exact CX hW hA num
  ·exact UX hW hA num
  ·exact P7 hW hA num
  ·exact aah hW hA num
  ·exact P8 hW hA num
  ·exact aai hW hA num
  ·exact aaj hW hA num
  ·exact MB hW hA num
  ·exact P9 hW hA num
  ·exact aak hW hA num
  ·exact aal hW hA num
  ·exact UY hW hA num
  ·exact UZ hW hA num
  ·exact U0 hW hA num
  ·exact U1 hW hA num
  ·exact aam hW hA num
  ·exact U2 hW hA num
  ·exact U3 hW hA num
  ·exact aan hW hA num
  ·exact GA hW hA num
  ·exact Ka hW hA num
  ·exact P' hW hA num
  ·exact U4 hW hA num
  ·exact P_ hW hA num
  ·exact MC hW hA num
  ·exact A0 hW hA num
  ·exact Kb hW hA num
  ·exact GC hW hA num
  ·exact U5 hW hA num
 ·exact P4 hW hA h num
end Fw.Tz.Ba
/-
  Few sizes and binds.
-/
namespace Fw.Tz.Bb
open Go Go.Proofs Fw.X Fw.Tz Fw.Nu Fw.Tz.Sd Fw.Tz.Na Fw.Tz.El Fw.Tz.Va Fw.Tz.Vb Fw.Tz.Vw Fw.Tz.Eq Fw.Tz.Ew Fw.Tz.Su Fw.Tz.Yd Fw.Tz.Ya Fw.Tz.Yc Fw.Tz.Yb Fw.Tz.Yf Fw.Tz.Yj Fw.Tz.Yn
variable {W:World}
def vn(x:aj):Bool:=decide (x.ts.length≤6)
def qj(b:Bd):Bool:=decide (b.bL.ts.length≤6)&&decide (b.ah.length≤7)&&decide (b.var.length+b.elem.length+b.row.length≤100)
def yq(ak:List aj)(binds:List Bd):Bool:=ak.all vn&&binds.all qj&&decide (ak.length≤3)&&decide (binds.length≤5)
def VL(b:Bd):Prop:=b.var.length≤281474976710656∧b.elem.length≤281474976710656∧b.row.length≤281474976710656∧aj.sw b.bL∧b.ah.length≤281474976710656∧∀x∈b.ah,aj.sw x
def VM(ak:List aj)(binds:List Bd):Prop:=ak.length≤281474976710656∧binds.length≤281474976710656∧(∀x∈ak,aj.sw x)∧∀b∈binds,VL b
theorem Ed{ak:List aj}{binds:List Bd}(h:VM ak binds)(hf:yq ak binds=true):PP ak binds:=by
 obtain⟨h1,h2,h3,h4⟩:=h;simp only[yq,aaD,aaN,aaR]at hf;obtain⟨⟨⟨f1,f2⟩,f3⟩,f4⟩:=hf;refine⟨by omega,by omega,fun x hx=>⟨?_,(h3 x hx).2⟩,by omega,fun b hb=>?_ ⟩
 ·have:=f1 x hx;simp only[vn,aaN]at this;omega
 ·have:=f2 b hb;simp only[qj,aaD,aaN]at this;obtain⟨r1,r2,r3,r4,r5,r6⟩:=h4 b hb;exact⟨by omega,by omega,by omega,by omega,r4.2,by omega,r6⟩
theorem CY{ak:List aj}{binds:List Bd}(h:binds.all qj=false):yq ak binds=false:=by rw[yq,h];simp
theorem Qa{ak:List aj}{binds:List Bd}(h:ak.all vn=false):yq ak binds=false:=by rw[yq,h];simp
theorem Qb(hW:W0 W)(ak:List aj)(binds:List Bd)(h:VM ak binds):PC P (gl W) 39 [.agg [.d (.list (ak.map aj.aa)),.d (.list (binds.map Bd.aa))]] (.d (.bool (yq ak binds))):=by
 refine CG.start XY XZ rfl ?_;obtain⟨h1,h2,h3,h4⟩:=h;refine s4 hW 8 0 [] 0 [(1,.ptr 0 2 0),(2,bF),(3,i0)] [(0,.cells [lo aj.aa ak,lo Bd.aa binds])] ?_;rotate_left;refine CG.bI ak (fun i u=>[(1,.ptr 0 2 0),(2,bF),(3,.d (.int .i64 (.ofNat i)))]) (fun i u=>[some (.cells [lo aj.aa ak,lo Bd.aa binds])]) (fun i u r=>(ak.all vn=r.all vn)) () ?_ (au.refl _ _) ?_ ?_
 ·rfl
 ·intro i u hi dZ aF;have aF:ak.all vn=true:=aF;refine s1 hW 4 0 [] 7 [(10,bo (aP (Int.ofNat i) (Int.ofNat (ak.map aj.aa).length)))] ?_;refine CG.ay (fw i (ak.map aj.aa).length) k_ ?_;refine CG.bg (by decide) ?_;refine s1 hW 7 0 [] 3 [(4,i0)] ?_;rotate_left;refine CG.bI binds (fun j u2=>[(1,.ptr 0 2 0),(2,bF),(4,.d (.int .i64 (.ofNat j)))]) (fun j u2=>[some (.cells [lo aj.aa ak,lo Bd.aa binds])]) (fun j u2 r=>(binds.all qj=r.all qj)) () ?_ (au.refl _ _) ?_ ?_
  ·rfl
  ·intro j u2 hj uG lh;have lh:binds.all qj=true:=lh;unfold yq;rw[aF,lh];refine s1 hW 4 0 [] 7 [(25,bo (aP (Int.ofNat j) (Int.ofNat (binds.map Bd.aa).length)))] ?_;refine CG.ay (fw j (binds.map Bd.aa).length) k_ ?_;refine CG.bg (by decide) ?_;refine s1 hW 3 5 [] 3 [(64,bo (!aP 3 (Int.ofNat (ak.map aj.aa).length)))] ?_;refine dh 3 (ak.map aj.aa).length (fun sq Kl=>?_ ) (fun sq Kl=>?_ )<;>simp only[zz]at Kl;have nR:(aP 3 (Int.ofNat (ak.map aj.aa).length))=true:=ki;rw[nR];refine s1 hW 2 0 [] 2 [] ?_;refine CG.rt (bF) ?_;rotate_left;have vg:(aP 3 (Int.ofNat (ak.map aj.aa).length))=false:=lZ;rw[vg];refine s1 hW 2 0 [] 0 [(2,bo (!aP 5 (Int.ofNat (binds.map Bd.aa).length)))] ?_;refine CG.rt (bo (!aP 5 (Int.ofNat (binds.map Bd.aa).length))) ?_;rotate_left
   ·rw[aa5 (p:=ak.length≤3) (by omega)];rfl
   ·rw[aa9 (p:=ak.length≤3) (by omega)];by_cases h5:binds.length≤5
    ·rw[aa9 h5,La (show(Int.ofNat (binds.map Bd.aa).length)≤5 from by rw[aaW];simp only[abI];omega)];rfl
    ·rw[aa5 h5,Oq (show 5<(Int.ofNat (binds.map Bd.aa).length)from by rw[aaW];simp only[abI];omega)];rfl
  ·intro j u2 x r uG hx bS lh;obtain⟨r1,r2,r3,r4,r5,r6⟩:=h4 x (aaO hx);have r4:=r4.1;rw[aa4]at lh;have hw:aO .i64 (bl (aO .i64 (bl (x.var.length:Int) (x.elem.length:Int))) (x.row.length:Int))=((x.var.length+x.elem.length+x.row.length:Nat):Int):=by rw[gA,gA,kh,kh,Yc.wrap_small (a:=(x.var.length:Int)+(x.elem.length:Int)) (by omega),Yc.wrap_small (by omega)];omega
   refine s1 hW 4 0 [] 7 [(25,bo (aP (Int.ofNat j) (Int.ofNat (binds.map Bd.aa).length)))] ?_;refine CG.aD (eC j (binds.map Bd.aa).length) k_ ?_;refine s1 hW 5 3 [] 7 [(29,lo Bd.aa binds),(30,no j)] ?_;refine CG.ix (ax (aa:=Bd.aa) hx) rfl k_ ?_;refine s4 hW 3 6 [] 7 [(5,.ptr 1 7 0),(38,bo (aP 6 (Int.ofNat (x.bL.ts.map Cf.aa).length)))] [(1,.cells x.ce)] ?_;refine dh 6 (x.bL.ts.map Cf.aa).length (fun IQ p32=>?_ ) (fun IQ p32=>?_ )<;>simp only[zz]at p32;have E_:(aP 6 (Int.ofNat (x.bL.ts.map Cf.aa).length))=true:=ki;rw[E_];refine s1 hW 6 0 [true] 7 [] ?_;refine CG.e9 (bF) ?_;rotate_left;have xT:(aP 6 (Int.ofNat (x.bL.ts.map Cf.aa).length))=false:=lZ;rw[xT];refine s1 hW 0 7 [] 15 [(45,bo (aP 7 (Int.ofNat (x.ah.map aj.aa).length)))] ?_;refine dh 7 (x.ah.map aj.aa).length (fun I5 VQ=>?_ ) (fun I5 VQ=>?_ )<;>simp only[zz]at VQ;have PB:(aP 7 (Int.ofNat (x.ah.map aj.aa).length))=true:=ki;rw[PB];refine s1 hW 6 0 [true] 7 [] ?_;refine CG.e9 (bF) ?_;rotate_left;have q38:(aP 7 (Int.ofNat (x.ah.map aj.aa).length))=false:=lZ;rw[q38];refine s1 hW 2 0 [] 7 [(59,bo (aP 100 (aO IntKind.i64 (bl (aO IntKind.i64 (bl (Int.ofNat x.var.length) (Int.ofNat x.elem.length))) (Int.ofNat x.row.length)))))] ?_;refine zD 100 (aO IntKind.i64 (bl (aO IntKind.i64 (bl (Int.ofNat x.var.length) (Int.ofNat x.elem.length))) (Int.ofNat x.row.length))) (fun L_ PD=>?_ ) (fun L_ PD=>?_ )<;>simp only[zz]at PD;refine CG.aD L_ k_ ?_;refine s1 hW 3 0 [] 7 [] ?_;refine CG.e9 (bF) ?_;rotate_left;refine CG.ay L_ k_ ?_;refine s3 hW 3 3 [] [(1,.ptr 0 2 0),(2,bF),(4,io (aO IntKind.i64 (bl (Int.ofNat j) 1)))] ([some (.cells [lo aj.aa ak,lo Bd.aa binds]),some (.cells x.ce)]) ?_;refine CG.bM rfl ?_;rw[a6 (by omega)];rotate_left
   ·have hf:qj x=false:=by unfold qj;rw[aa5 (by omega)];rfl
    rw[hf,abi]at lh;rw[CY lh]
   ·have hf:qj x=false:=by unfold qj;rw[aa5 (p:=x.ah.length≤7) (by omega)];simp
    rw[hf,abi]at lh;rw[CY lh]
   ·rw[hw]at PD;have hf:qj x=false:=by unfold qj;rw[aa5 (p:=x.var.length+x.elem.length+x.row.length≤100) (by omega)];simp
    rw[hf,abi]at lh;rw[CY lh]
   ·rw[hw]at PD;have hf:qj x=true:=by unfold qj;simp only[aaD,aaN];omega
    rw[hf,aa2]at lh;exact⟨(),lh,au.trim 1 [1,2,4] rfl rfl rfl rfl (by simp[aH,aN,an,aq])⟩
 ·intro i u x r dZ hx bS aF;have r4:=(h3 x (aaO hx)).1;rw[aa4]at aF;refine s1 hW 4 0 [] 7 [(10,bo (aP (Int.ofNat i) (Int.ofNat (ak.map aj.aa).length)))] ?_;refine CG.aD (eC i (ak.map aj.aa).length) k_ ?_;refine s1 hW 5 3 [] 7 [(14,lo aj.aa ak),(15,no i)] ?_;refine CG.ix (ax (aa:=aj.aa) hx) rfl k_ ?_;refine s1 hW 2 0 [] 7 [(20,bo (aP 6 (Int.ofNat (x.ts.map Cf.aa).length)))] ?_;refine dh 6 (x.ts.map Cf.aa).length (fun ji DQ=>?_ ) (fun ji DQ=>?_ )<;>simp only[zz]at DQ;refine CG.aD (show(aP 6 (Int.ofNat (x.ts.map Cf.aa).length))=true from ki) k_ ?_;refine s1 hW 3 0 [] 7 [] ?_;refine CG.e9 (bF) ?_;rotate_left;refine CG.ay (show(aP 6 (Int.ofNat (x.ts.map Cf.aa).length))=false from lZ) k_ ?_;refine s3 hW 3 3 [] [(1,.ptr 0 2 0),(2,bF),(3,io (aO IntKind.i64 (bl (Int.ofNat i) 1)))] ([some (.cells [lo aj.aa ak,lo Bd.aa binds])]) ?_;refine CG.bM rfl ?_;rw[a6 (by omega)];rotate_left
  ·have hf:vn x=false:=by unfold vn;exact aa5 (by omega)
   rw[hf,abi]at aF;rw[Qa aF]
  ·have hf:vn x=true:=by unfold vn;exact aa9 (by omega)
   rw[hf,aa2]at aF;exact⟨(),aF,au.eqs k_⟩
end Fw.Tz.Bb
/-
  The law of Under: awake and the call.
-/
namespace Fw.Tz.Bc
open Go Go.Proofs Fw.X Fw.Tz Fw.Nu Fw.Tz.Sd Fw.Tz.Na Fw.Tz.El Fw.Tz.Va Fw.Tz.Vb Fw.Tz.Vw Fw.Tz.Eq Fw.Tz.Ew Fw.Tz.Su Fw.Tz.Yd Fw.Tz.Ya Fw.Tz.Yc Fw.Tz.Yb Fw.Tz.Yf Fw.Tz.Yj Fw.Tz.Yn Fw.Tz.Yq Fw.Tz.Yw Fw.Tz.Yv Fw.Tz.Yx Fw.Tz.Ba Fw.Tz.Bb
variable {W:World}
def Nx:List UInt8:=[116,97,107,101]
def U6:List aj:=[⟨2,[]⟩]
def U7:List Bd:=[⟨1,[110],⟨2,[⟨[112],1⟩]⟩,[],[],[]⟩,⟨3,[65],⟨0,[]⟩,[],[],[105,110,116]⟩]
def r0:cl:=⟨[⟨[105,110,116],[],[⟨2,[⟨[112],1⟩]⟩]⟩],⟨[105,110,116],[],[⟨2,[]⟩]⟩,[⟨2,[]⟩,⟨0,[⟨[112],1⟩]⟩]⟩
theorem aao:lQ ph [[107]] uN U6 U7=(r0,0):=k_
theorem ok0:PP U6 U7:=Ed (by
 refine⟨by decide,by decide,?_,?_ ⟩
 ·intro x hx;simp[U6]at hx;subst hx;exact⟨by decide,by simp⟩
 ·intro b hb;simp[U7]at hb;rcases hb with rfl|rfl
  ·exact⟨by decide,by decide,by decide,⟨by decide,by simp⟩,by decide,by simp⟩
  ·exact⟨by decide,by decide,by decide,⟨by decide,by simp⟩,by decide,by simp⟩) (by decide)
theorem k87(W:World):me W 40 87 [.d (.str [37]),.d (.bool false)]=some (.tuple [.d (.str [109,111,100]),.d (.int .i64 5),.d (.bool true)]):=k_
theorem k43(W:World):me W 40 43 []=some (.d (.list [[.str [97,98,115]],[.str [97,100,100]],[.str [97,110,100]],[.str [97,112,112,101,110,100]],[.str [99,104,117,110,107]],[.str [100,105,97,103,111,110,97,108]],[.str [100,105,118]],[.str [100,114,111,112]],[.str [101,113]],[.str [102,105,108,108]],[.str [103,101]],[.str [103,116]],[.str [105,110,100,101,120]],[.str [105,111,116,97]],[.str [108,101]],[.str [108,116]],[.str [109,97,120]],[.str [109,105,110]],[.str [109,111,100]],[.str [109,117,108]],[.str [110,101]],[.str [110,101,103]],[.str [110,111,116]],[.str [111,114]],[.str [114,101,118,101,114,115,101]],[.str [115,101,108,101,99,116]],[.str [115,105,103,110]],[.str [115,117,98]],[.str [116,97,107,101]],[.str [116,111,105,110,116]],[.str [116,114,97,110,115,112,111,115,101]],[.str [117,112,100,97,116,101]],[.str [119,105,110,100,111,119,115]],[.str [120,111,114]]])):=k_
theorem aap(W:World):kD W 40 56 [.agg [.d (.int .i64 2),.d (.list [])],.agg [.d (.int .i64 2),.d (.list [])]]=some (.d (.bool true)):=k_
theorem aaq(W:World):kD W 40 56 [.agg [.d (.int .i64 2),.d (.list [[.str [112],.int .i64 1]])],.agg [.d (.int .i64 2),.d (.list [[.str [112],.int .i64 1]])]]=some (.d (.bool true)):=k_
theorem MD(hW:W0 W)(hA:aw W):PC P (gl W) 40 [.d (.str Nx),.d (.list (U6.map aj.aa)),.d (.int .i64 0),.d (.list (U7.map Bd.aa))] (Ye.mi (r0,0)):=by have h:=Mx;simp only[Jm,aaD]at h;obtain⟨hs,hn⟩:=AV h.1.1.1.1.1.1;have:=wF hW Nx 0 ph [[107]] uN U6 U7 _ _ _ _ _ _ _ _ _ _ (JL hW hA 40 _ _ _ (Mu W)) (aW hW hA 40 _ _ _ (s5 W)) (bH hW 40 _ _ _ (Mv W)) (bH hW 40 _ _ _ (Mw W)) hs hn h.1.1.1.1.1.2 (by decide) (by decide) ok0;rw[aao]at this;exact this
theorem U8(hW:W0 W)(hA:aw W):PC P (gl W) 38 [] (.d (.bool true)):=by refine CG.start XW XX rfl ?_;have h1:=MD hW hA;unfold Ye.mi r0 at h1;have h2:=aW hW hA 40 _ _ _ (k87 W);have h3:=aW hW hA 40 _ _ _ (k43 W);have h4:=bH hW 40 _ _ _ (aap W);have h5:=bH hW 40 _ _ _ (aaq W);refine s4 hW 10 6 [] 0 [(0,bF),(1,.ptr 0 2 0),(2,.ptr 1 2 0),(14,.d (.list [[.int .i64 2,.list []]])),(18,.d (.list [[.int .i64 1,.str [110],.int .i64 2,.list [[.str [112],.int .i64 1]],.str [],.list [],.str []],[.int .i64 3,.str [65],.int .i64 0,.list [],.str [],.list [],.str [105,110,116]]]))] [(0,.cells [io 2,.ab]),(1,.cells [io 2,.d (.list [[.str [112],.int .i64 1]])])] ?_;refine CG.pg (h1) rfl k_ ?_;refine s4 hW 6 0 [] 7 [(3,.ptr 2 5 0),(4,i0),(5,so [109,111,100]),(6,io 5),(7,bT)] [(2,.cells [.d (.list [[.str [105,110,116],.str [],.list [[.int .i64 2,.list [[.str [112],.int .i64 1]]]]]]),so [105,110,116],sE,.d (.list [[.int .i64 2,.list []]]),.d (.list [[.int .i64 2,.list []],[.int .i64 0,.list [[.str [112],.int .i64 1]]]])])] ?_;refine dg hW [] [(42,.d (.list [[.str [97,98,115]],[.str [97,100,100]],[.str [97,110,100]],[.str [97,112,112,101,110,100]],[.str [99,104,117,110,107]],[.str [100,105,97,103,111,110,97,108]],[.str [100,105,118]],[.str [100,114,111,112]],[.str [101,113]],[.str [102,105,108,108]],[.str [103,101]],[.str [103,116]],[.str [105,110,100,101,120]],[.str [105,111,116,97]],[.str [108,101]],[.str [108,116]],[.str [109,97,120]],[.str [109,105,110]],[.str [109,111,100]],[.str [109,117,108]],[.str [110,101]],[.str [110,101,103]],[.str [110,111,116]],[.str [111,114]],[.str [114,101,118,101,114,115,101]],[.str [115,101,108,101,99,116]],[.str [115,105,103,110]],[.str [115,117,98]],[.str [116,97,107,101]],[.str [116,111,105,110,116]],[.str [116,114,97,110,115,112,111,115,101]],[.str [117,112,100,97,116,101]],[.str [119,105,110,100,111,119,115]],[.str [120,111,114]]]))] (a7:=[(0,bT)]) (H':=[some (.cells [io 2,.ab]),some (.cells [io 2,.d (.list [[.str [112],.int .i64 1]])]),some (.cells [.d (.list [[.str [105,110,116],.str [],.list [[.int .i64 2,.list [[.str [112],.int .i64 1]]]]]]),so [105,110,116],sE,.d (.list [[.int .i64 2,.list []]]),.d (.list [[.int .i64 2,.list []],[.int .i64 0,.list [[.str [112],.int .i64 1]]]])])]++nn 47 ([])) (cs:=[]) (calls:=[(43,[],.d (.list [[.str [97,98,115]],[.str [97,100,100]],[.str [97,110,100]],[.str [97,112,112,101,110,100]],[.str [99,104,117,110,107]],[.str [100,105,97,103,111,110,97,108]],[.str [100,105,118]],[.str [100,114,111,112]],[.str [101,113]],[.str [102,105,108,108]],[.str [103,101]],[.str [103,116]],[.str [105,110,100,101,120]],[.str [105,111,116,97]],[.str [108,101]],[.str [108,116]],[.str [109,97,120]],[.str [109,105,110]],[.str [109,111,100]],[.str [109,117,108]],[.str [110,101]],[.str [110,101,103]],[.str [110,111,116]],[.str [111,114]],[.str [114,101,118,101,114,115,101]],[.str [115,101,108,101,99,116]],[.str [115,105,103,110]],[.str [115,117,98]],[.str [116,97,107,101]],[.str [116,111,105,110,116]],[.str [116,114,97,110,115,112,111,115,101]],[.str [117,112,100,97,116,101]],[.str [119,105,110,100,111,119,115]],[.str [120,111,114]]]))]) k_ trivial ⟨h3,trivial⟩ ?_;refine s1 hW 1 0 [] 1 [] ?_;refine CG.rt (bT) ?_;with_reducible rfl
theorem call(hW:W0 W)(hA:aw W)(name:List UInt8)(num:Int)(ak:List aj)(binds:List Bd)(h:VM ak binds):PC P (gl W) 10 [.d (.str name),.d (.int .i64 num),.agg [.d (.list (ak.map aj.aa)),.d (.list (binds.map Bd.aa))]] (.d (.bool true)):=by
 refine CG.start XL XM rfl ?_;have VN:=U8 hW hA;have hF:=Qb hW ak binds h;cases hf:yq ak binds with
  |false=>
   rw[hf]at hF;refine s4 hW 5 0 [] 3 [(5,.ptr 0 2 0),(6,bF)] [(0,.cells [lo aj.aa ak,lo Bd.aa binds])] ?_;refine CG.gO ?_;refine CG.pg (VN) rfl k_ ?_;refine s1 hW 7 4 [false] 15 [(16,bo (aP 40 (Int.ofNat name.length)))] ?_;refine dh 40 name.length (fun q0 Km=>?_ ) (fun q0 Km=>?_ );have Al:(aP 40 (Int.ofNat name.length))=true:=ki;rw[Al];refine s1 hW 6 0 [true] 7 [(6,bT)] ?_;refine CG.rt (bT) ?_;with_reducible rfl
   have kE:(aP 40 (Int.ofNat name.length))=false:=lZ;rw[kE];refine s1 hW 0 1 [] 31 [(17,.agg [lo aj.aa ak,lo Bd.aa binds])] ?_;refine CG.pg (hF) rfl k_ ?_;refine s1 hW 6 0 [true] 7 [(6,bT)] ?_;refine CG.rt (bT) ?_;with_reducible rfl
  |true=>
   rw[hf]at hF;obtain⟨⟨s,e⟩,hs,h1,h2⟩:=Kc hW hA name num ak binds (Ed h hf);have hE:=PV hW s hs;unfold Ye.mi at h1 h2;dsimp only at h1 h2;refine s4 hW 5 0 [] 3 [(5,.ptr 0 2 0),(6,bF)] [(0,.cells [lo aj.aa ak,lo Bd.aa binds])] ?_;refine CG.gO ?_;refine CG.pg (VN) rfl k_ ?_;refine s1 hW 7 4 [false] 15 [(16,bo (aP 40 (Int.ofNat name.length)))] ?_;refine dh 40 name.length (fun o8 Pj=>?_ ) (fun o8 Pj=>?_ );have jN:(aP 40 (Int.ofNat name.length))=true:=ki;rw[jN];refine s1 hW 6 0 [true] 7 [(6,bT)] ?_;refine CG.rt (bT) ?_;with_reducible rfl
   have na:(aP 40 (Int.ofNat name.length))=false:=lZ;rw[na];refine s1 hW 0 1 [] 31 [(17,.agg [lo aj.aa ak,lo Bd.aa binds])] ?_;refine CG.pg (hF) rfl k_ ?_;refine s1 hW 6 6 [false] 15 [(22,so name),(24,lo aj.aa ak),(25,io num),(27,lo Bd.aa binds)] ?_;refine CG.pg (h1) rfl k_ ?_;refine s4 hW 3 6 [] 8 [(7,.ptr 1 5 0),(8,io e),(32,so name),(34,lo aj.aa ak),(35,io num),(37,lo Bd.aa binds)] [(1,.cells s.ce)] ?_;refine CG.pg (h2) rfl k_ ?_;refine s4 hW 3 2 [] 5 [(10,io e),(41,.agg s.ce),(42,.agg s.ce)] [(2,.cells s.ce)] ?_;refine CG.pg (hE) rfl k_ ?_;refine s1 hW 2 0 [] 0 [(6,bo (a_ e e))] ?_;refine CG.rt (bo (a_ e e)) ?_;rotate_left;all_goals (rw[kB];simp)
end Fw.Tz.Bc
